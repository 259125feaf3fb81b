/- Digests in memory; append, All, sort of the reference. Conditions: lists of at most 2^40 means. -/
import Derived.Test.YtedhpkfbobgkgaaDigW
namespace Go.Proofs.Ytedhpkfbobgkgaa
open Go.RowKit Go.Lib

theorem infoM : (Try.prog.info? 45).map (fun i => (i.zero, i.size, i.bytes)) = some (some (.agg #[.int .i64 0, .int .u64 0]), 2, 16) := by kernel_rfl

theorem append_M {w : World} {ops : Array Oper} {rest : List Oper} {o : Oper} {a : Act} {Q : Exit → Act → World → Prop} (hgd : o.guard = none) (s x : Operand)
    (ho : o.op = .call { callee := .builtin .append, args := #[s, x], argTypes := #[35, 35] })
    (base : Nat) (v : Value) (xs : List Mn) (hs : a.eval s = v) (hown : OwnM base w v xs)
    (u : Value) (news : List Mn) (hx : a.eval x = u) (hr : RdM w u news)
    (hlen : xs.length + news.length ≤ 1099511627776) (hbase : base ≤ w.heap.size)
    (h : ∀ v' w', OwnM base w' v' (xs ++ news) → w.grownBy w' v.ownBlock → (v'.ownBlock = v.ownBlock ∨ v'.ownBlock = some w.heap.size) → wpList Try.prog ops Q rest (a.put o.dst v') w') : wpList Try.prog ops Q (o :: rest) a w := by
  obtain ⟨i0, hi, hz0, hz1, hz2⟩ := info_parts infoM
  obtain ⟨A, c, rfl, _, _, _⟩ := hr.form
  refine wpList_append_rd w hgd s x 35 ho base 45 i0 _ 2 16 Try.underlying35 hi hz0 hz1 hz2 rfl (by omega) v xs.length (cellsM xs) hs hown A news.length c (cellsM news) hx hr (cellsM_one _)
    (by unfold maxLen; omega) (by omega) hbase fun v' w' h1 h2 h3 => h v' w' ?_ h2 h3
  unfold OwnM
  rw [List.length_append, cellsM_append]
  exact h1

theorem wp_append_M {w : World} {o : Oper} {a : Act} {K : Act → World → Prop} {Q : Exit → Act → World → Prop} (s x : Operand)
    (ho : o.op = .call { callee := .builtin .append, args := #[s, x], argTypes := #[35, 35] })
    (base : Nat) (v : Value) (xs : List Mn) (hs : a.eval s = v) (hown : OwnM base w v xs)
    (u : Value) (news : List Mn) (hx : a.eval x = u) (hr : RdM w u news)
    (hlen : xs.length + news.length ≤ 1099511627776) (hbase : base ≤ w.heap.size)
    (h : ∀ v' w', OwnM base w' v' (xs ++ news) → w.grownBy w' v.ownBlock → (v'.ownBlock = v.ownBlock ∨ v'.ownBlock = some w.heap.size) → K (a.put o.dst v') w') : o.wp Try.prog a w K Q := by
  obtain ⟨i0, hi, hz0, hz1, hz2⟩ := info_parts infoM
  obtain ⟨A, c, rfl, _, _, _⟩ := hr.form
  refine wp_append_rd w s x 35 ho base 45 i0 _ 2 16 Try.underlying35 hi hz0 hz1 hz2 rfl (by omega) v xs.length (cellsM xs) hs hown A news.length c (cellsM news) hx hr (cellsM_one _)
    (by unfold maxLen; omega) (by omega) hbase fun v' w' h1 h2 h3 => h v' w' ?_ h2 h3
  unfold OwnM
  rw [List.length_append, cellsM_append]
  exact h1

/-- A reference's digest at block g, all of whose blocks are of F. -/
def RDg (w : World) (g : Nat) (F : Nat → Prop) (d : Int) (L W : List Mn) (lo hi : Int) : Prop :=
  ∃ lv wv, Blk w g 37 #[.int .i64 d, lv, wv, .int .i64 lo, .int .i64 hi] ∧ OwnM 0 w lv L ∧ OwnM 0 w wv W ∧ F g ∧ (∀ k, lv.ownBlock = some k → F k) ∧ (∀ k, wv.ownBlock = some k → F k) ∧
    (∀ k, wv.ownBlock = some k → lv.ownBlock ≠ some k) ∧ (∀ k, F k → k < w.heap.size)
theorem RDg.stay {w w' : World} {g : Nat} {F : Nat → Prop} {d lo hi : Int} {L W : List Mn} (h : RDg w g F d L W lo hi) (hk : ∀ k, F k → w'.heap[k]? = w.heap[k]?) (hz : w.heap.size ≤ w'.heap.size) : RDg w' g F d L W lo hi := by
  obtain ⟨lv, wv, hb, hl, hw, hg, h1, h2, h3, h4⟩ := h
  exact ⟨lv, wv, (hk g hg).trans hb, hl.stay fun k e => hk k (h1 k e), hw.stay fun k e => hk k (h2 k e), hg, h1, h2, h3, fun k hf => Nat.lt_of_lt_of_le (h4 k hf) hz⟩
theorem RDg.keep {w w' : World} {g : Nat} {F : Nat → Prop} {d lo hi : Int} {L W : List Mn} (h : RDg w g F d L W lo hi) (hb : Below w.heap.size w w') : RDg w' g F d L W lo hi := by
  have h4 := h
  obtain ⟨lv, wv, _, _, _, _, _, _, _, h4⟩ := h4
  exact h.stay (fun k hk => hb.block k (h4 k hk)) hb.size

set_option maxHeartbeats 400000 in
theorem rall_any (g : Nat) (F : Nat → Prop) (d lo hi : Int) (L W : List Mn) (w : World) (h : RDg w g F d L W lo hi) (hlen : L.length + W.length ≤ 1099511627776) :
    Calls Try.prog 29 #[.pointer (some ⟨g, 0, none⟩)] w fun e w' => ∃ v, e = .returned v ∧ OwnM w.heap.size w' v (L ++ W) ∧ Below w.heap.size w w' := by
  obtain ⟨lv, wv, hb, hl, hw, hg, h1, h2, h3, h4⟩ := h
  have c1 := hb.cell 1
  have c2 := hb.cell 2
  simp only [List.getElem?_toArray, List.getElem?_cons_succ, List.getElem?_cons_zero] at c1 c2
  have hlt := hb.lt
  have HL := Lib.hid hl
  have HW := Lib.hid hw
  clear hb hl hw h1 h2 h3 h4
  go_enter Try.func29, Try.ntmps29
  go_wp2_with (first
    | (at_builtin
       refine append_M rfl (.tmp 4) (.tmp 8) rfl w.heap.size (.slice none 0 0) [] rfl (OwnM.nil_ _ _) lv L rfl HL.out.rd (by simp only [List.length_nil]; omega) (Nat.le_refl _) ?_
       intro v1 w1 o1 g1 a1
       have hb1 : Below w.heap.size w w1 := (Below.refl _ _).grown g1 (Nat.le_refl _) (by simp [Value.ownBlock])
       have hz1 := hb1.size
       have ⟨hc1, hf1⟩ := bcell hb1
       have O1 := Lib.hid o1
       clear o1 g1 a1)
    | (at_builtin
       refine append_M rfl (.tmp 10) (.tmp 14) rfl w.heap.size v1 ([] ++ L) rfl O1.out wv W rfl (HW.out.keep hb1).rd (by simp only [List.nil_append]; omega) (by omega) ?_
       intro v2 w2 o2 g2 a2
       have hb2 : Below w.heap.size w w2 := hb1.grown g2 hz1 (fun k hk => (O1.out.lt k hk).1)
       have O2 := Lib.hid o2
       clear o2 g2 a2))
  go_ret
  exact ⟨v2, rfl, O2.out, hb2⟩

/-- In the reference's sort: x is put into out; next holds its beginning. -/
structure InsAt (x : Mn) (out : List Mn) (k : Nat) : Prop where
  le : ∀ j (h : j < out.length), j < k → out[j].1 ≤ x.1
theorem InsAt.next {x : Mn} {out : List Mn} {k : Nat} (h : InsAt x out k) (hk : k < out.length) (hx : out[k].1 ≤ x.1) : InsAt x out (k + 1) :=
  ⟨fun j hj hjk => by
    rcases Nat.lt_or_ge j k with h1 | h1
    · exact h.le j hj h1
    · have : j = k := by omega
      subst this; exact hx⟩

set_option maxRecDepth 100000 in
set_option maxHeartbeats 1000000 in
theorem rsort_any (v : Value) (l : List Mn) (w : World) (h : RdM w v l) (hlen : l.length ≤ 1000000000) :
    Calls Try.prog 64 #[v] w fun e w' => ∃ v, e = .returned v ∧ OwnM w.heap.size w' v (srt l) ∧ Below w.heap.size w w' := by
  obtain ⟨A, c, rfl, hn, hc, hp⟩ := h.form
  have HP := Lib.hid hp
  clear hp h
  go_enter Try.func64, Try.ntmps64
  go_wp2_with fail
  go_loopg [3, 4] l.length (fun q o i wr => ∃ j : Nat, q = l.length - j ∧ j ≤ l.length ∧ i = .int .i64 j ∧ OwnM w.heap.size wr o (srt (l.take j)) ∧ Below w.heap.size w wr)
  case atStart => exact ⟨0, rfl, by omega, rfl, OwnM.nil_ _ _, Below.refl _ _⟩
  case round =>
    obtain ⟨j, hk, hj, rfl, ho, hb⟩ := hrel
    obtain ⟨wo, rfl⟩ : ∃ wo : World, wo = wr := ⟨_, rfl⟩
    have HK := Lib.hid hk
    have hz := hb.size
    clear hk
    have hol := srt_length (l.take j)
    rw [List.length_take, Nat.min_eq_left hj] at hol
    by_cases hlt : j < l.length
    · have HT := Lib.hid (srt_take_succ l j hlt)
      obtain ⟨x, hx⟩ : ∃ x, l[j] = x := ⟨_, rfl⟩
      have HX := Lib.hid hx
      obtain ⟨g, off, rfl, hg, c0, c1⟩ := (HP.out.keep hb).at_ hlt
      rw [hx] at c0 c1
      clear hx
      obtain ⟨S, hS⟩ : ∃ S, srt (l.take j) = S := ⟨_, rfl⟩
      rw [hS] at ho hol
      have HS := Lib.hid hS
      have HO := Lib.hid ho
      obtain ⟨B, d, rfl, hn2, hc2, ho2⟩ := ho.form
      have HB := Lib.hid ho2
      have HL := Lib.hid hol
      have hsl : S.length ≤ 1000000000 := by omega
      clear hS ho ho2 hol
      go_upto_block 2 with fail
      go_cut [5, 6] (fun nv kv wr => ∃ k : Nat, kv = .int .i64 k ∧ k ≤ S.length ∧ OwnM wo.heap.size wr nv (S.take k) ∧ Hid (ins x S = S.take k ++ x :: S.drop k) ∧ Below wo.heap.size wo wr)
      case first =>
        go_wp2_with fail
        go_loopg [5, 6] S.length (fun r nv kv wr => ∃ k : Nat, r = S.length - k ∧ kv = .int .i64 k ∧ k ≤ S.length ∧ OwnM wo.heap.size wr nv (S.take k) ∧ Hid (InsAt x S k) ∧ Below wo.heap.size wo wr)
        case atStart => exact ⟨0, rfl, rfl, by omega, OwnM.nil_ _ _, ⟨fun j _ h => absurd h (by omega)⟩, Below.refl _ _⟩
        case round =>
          obtain ⟨q, hk, rfl, hq, hown, hi, hb2⟩ := hrel
          have HK2 := Lib.hid hk
          have hz2 := hb2.size
          have HN := Lib.hid hown
          clear hk hown
          have d0 := (hb2.cell (p := ⟨g, off + j * 2, none⟩) hg).trans c0
          by_cases hlt2 : q < S.length
          · obtain ⟨g2, off2, rfl, hg2, e0, e1⟩ := (HB.out.keep hb2).at_ hlt2
            by_cases hle : S[q].1 ≤ x.1
            · have HI := Lib.hid (hi.out.next hlt2 hle)
              go_wp2_with fail
              go_quiet (fail)
              go_wp2_with (first
                | (at_builtin
                   refine append_M rfl (.tmp 30) (.tmp 35) rfl wo.heap.size u5 (S.take q) rfl ((HN.out.drewN _).alloc _) _ [S[q]] rfl (RdM.one _ S[q]) (by simp only [List.length_take, List.length_singleton]; omega) (by simp only [World.size_alloc, size_drewN]; omega) ?_
                   intro v1 w1 o1 g1 a1
                   have hb1 : Below wo.heap.size wo w1 := ((below_drewN hb2 _).alloc (by simp only [size_drewN]; omega) _).grown g1 (by simp only [World.size_alloc, size_drewN]; omega) (fun k hk => (HN.out.lt k hk).1)
                   have O1 := Lib.hid o1
                   clear o1 g1 a1))
              go_roundg (S.length - (q + 1))
              case measure => have := HK2.out; omega
              case rel => exact ⟨q + 1, rfl, by go_num, by omega, by rw [List.take_succ_eq_append_getElem hlt2]; exact O1.out, HI, hb1⟩
            · have HF : Hid (ins x S = S.take q ++ x :: S.drop q) := ins_at x S q (by omega) (fun j h hj => hi.out.le j h hj) (fun _ => by omega)
              go_wp2_with fail
              go_quiet (fail)
              go_wp2_with fail
              go_meet
              exact ⟨q, rfl, by omega, HN.out.drewN _, HF, by (repeat' (first | (with_reducible exact Below.refl _ _) | (with_reducible refine Below.alloc ?_ ?_ _) | (with_reducible refine Below.drew ?_) | (with_reducible refine below_drewN ?_ _) | (with_reducible refine Below.setCell ?_ ?_ _) | (with_reducible refine below_of (by assumption) ?_ ?_) | go_size))⟩
          · have HF : Hid (ins x S = S.take q ++ x :: S.drop q) := ins_at x S q (by omega) (fun j h hj => hi.out.le j h (by omega)) (fun h => absurd h hlt2)
            have hd : decide (q < S.length) = false := by simp; omega
            go_wp2_with fail
            go_quiet (fail)
            go_wp2_with fail
            go_meet
            exact ⟨q, rfl, by omega, HN.out.drewN _, HF, by (repeat' (first | (with_reducible exact Below.refl _ _) | (with_reducible refine Below.alloc ?_ ?_ _) | (with_reducible refine Below.drew ?_) | (with_reducible refine below_drewN ?_ _) | (with_reducible refine Below.setCell ?_ ?_ _) | (with_reducible refine below_of (by assumption) ?_ ?_) | go_size))⟩
      case rest =>
        obtain ⟨q, rfl, hq, hown, HF, hb2⟩ := hcut
        have HN := Lib.hid hown
        have hz2 := hb2.size
        have d0 := (hb2.cell (p := ⟨g, off + j * 2, none⟩) hg).trans c0
        have d1 := (hb2.cell (p := ⟨g, off + j * 2 + 1, none⟩) hg).trans c1
        clear hown c0 c1
        go_upto_block 4 with (first
          | (at_builtin
             refine append_M rfl (.tmp 39) (.tmp 44) rfl wo.heap.size u5 (S.take q) rfl (HN.out.alloc _) _ [x] rfl (RdM.one _ x) (by simp only [List.length_take, List.length_singleton]; omega) (by simp only [World.size_alloc]; omega) ?_
             intro v1 w1 o1 g1 a1
             have hb1 : Below wo.heap.size wo w1 := (hb2.alloc (by omega) _).grown g1 (by simp only [World.size_alloc]; omega) (fun k hk => (HN.out.lt k hk).1)
             have O1 := Lib.hid o1
             clear o1 g1 a1))
        obtain ⟨T, hT⟩ : ∃ T, ins x S = T := ⟨_, rfl⟩
        rw [hT] at HF
        obtain ⟨tl, t1, t2⟩ := ins_tail HF.out hq
        have T1 := Lib.hid t1
        have T2 := Lib.hid t2
        have TL := Lib.hid tl
        have HTT := Lib.hid hT
        have hz1 := hb1.size
        clear t1 t2 tl hT HN hz2 d0 d1 hb2
        go_cut [5, 6] (fun nv kv wr => OwnM wo.heap.size wr nv T ∧ Below wo.heap.size wo wr)
        case first =>
          go_wp2_with fail
          go_loopg [5, 6] (S.length - q) (fun r nv kv wr => ∃ k : Nat, r = S.length - k ∧ kv = .int .i64 k ∧ q ≤ k ∧ k ≤ S.length ∧ OwnM wo.heap.size wr nv (T.take (k + 1)) ∧ Below wo.heap.size wo wr)
          case atStart => exact ⟨q, rfl, rfl, by omega, by omega, by rw [T1.out]; exact O1.out, hb1⟩
          case round =>
            obtain ⟨k, hk, rfl, hqk, hkS, hown, hb2⟩ := hrel
            have HK2 := Lib.hid hk
            have hz2 := hb2.size
            have HN := Lib.hid hown
            clear hk hown
            by_cases hlt2 : k < S.length
            · obtain ⟨g2, off2, rfl, hg2, e0, e1⟩ := (HB.out.keep hb2).at_ hlt2
              go_wp2_with (first
                | (at_builtin
                   refine append_M rfl (.tmp 50) (.tmp 55) rfl wo.heap.size u5 (T.take (k + 1)) rfl (HN.out.alloc _) _ [S[k]] rfl (RdM.one _ S[k]) (by simp only [List.length_take, List.length_singleton]; omega) (by simp only [World.size_alloc]; omega) ?_
                   intro v2 w2 o2 g2 a2
                   have hb3 : Below wo.heap.size wo w2 := (hb2.alloc (by omega) _).grown g2 (by simp only [World.size_alloc]; omega) (fun k hk => (HN.out.lt k hk).1)
                   have O2 := Lib.hid o2
                   clear o2 g2 a2))
              go_roundg (S.length - (k + 1))
              case measure => have := HK2.out; omega
              case rel => exact ⟨k + 1, rfl, by go_num, by omega, by omega, by rw [T2.out k hlt2 hqk]; exact O2.out, hb3⟩
            · go_wp2_with fail
              go_meet
              exact ⟨by have h := HN.out; rwa [List.take_of_length_le (by have := TL.out; omega)] at h, hb2⟩
        case rest =>
          obtain ⟨hown, hb2⟩ := hcut
          have HN := Lib.hid hown
          have hz2 := hb2.size
          clear hown
          go_wp2_with fail
          go_roundg (l.length - (j + 1))
          case measure => have := HK.out; omega
          case rel => exact ⟨j + 1, rfl, by omega, by go_num, by rw [HT.out, HX.out, HS.out, HTT.out]; exact HN.out.more hz, below_of hb2 hz hb⟩
    · have HN := Lib.hid ho
      clear ho
      go_wp2_with fail
      go_ret
      refine ⟨_, rfl, ?_, hb⟩
      have h := HN.out
      rwa [List.take_of_length_le (show l.length ≤ j by omega)] at h
end Go.Proofs.Ytedhpkfbobgkgaa
