/- points of the program's digest. -/
import Derived.Test.YtedhpkfbobgkgaaDigH
namespace Go.Proofs.Ytedhpkfbobgkgaa
open Go.RowKit Go.Lib

/-- A slice of points that is the call's own. -/
def OwnP (base : Nat) (w : World) (v : Value) (l : List Pt) : Prop := w.ownsRow base 100 2 v l.length (cellsM l)
theorem OwnP.rd {base : Nat} {w : World} {v : Value} {l : List Pt} (h : OwnP base w v l) : RdM w v l := Rd.of_own h
theorem OwnP.alloc {base : Nat} {w : World} {v : Value} {l : List Pt} (h : OwnP base w v l) (o : Obj) : OwnP base (w.alloc o) v l := World.ownsRow.alloc h o
theorem OwnP.drewN {base : Nat} {w : World} {v : Value} {l : List Pt} (h : OwnP base w v l) (n : Nat) : OwnP base (w.drewN n) v l := h
theorem OwnP.drew {base : Nat} {w : World} {v : Value} {l : List Pt} (h : OwnP base w v l) : OwnP base w.drew v l := h
theorem OwnP.lt {base : Nat} {w : World} {v : Value} {l : List Pt} (h : OwnP base w v l) : ∀ g, v.ownBlock = some g → base ≤ g ∧ g < w.heap.size := World.ownsRow.lt h
theorem OwnP.stay {base : Nat} {w w' : World} {v : Value} {l : List Pt} (h : OwnP base w v l) (hk : ∀ g, v.ownBlock = some g → w'.heap[g]? = w.heap[g]?) : OwnP base w' v l := by
  obtain ⟨h1, h2⟩ := h
  refine ⟨h1, ?_⟩
  rcases h2 with h2 | ⟨g, cap, cur, rfl, e2, e3, r⟩
  · exact .inl h2
  · exact .inr ⟨g, cap, cur, rfl, e2, (hk g rfl).trans e3, r⟩
theorem OwnP.keep {base : Nat} {w w' : World} {v : Value} {l : List Pt} (h : OwnP base w v l) (hb : Below w.heap.size w w') : OwnP base w' v l := h.stay fun g hg => hb.block g (h.lt g hg).2
theorem OwnP.one (w : World) (m : Pt) : OwnP w.heap.size (w.alloc (.cells #[.int .i64 m.1, .int .u64 m.2] 100)) (.slice (some ⟨w.heap.size, 0, none⟩) 1 1) [m] :=
  ⟨rfl, .inr ⟨w.heap.size, 1, _, rfl, Nat.le_refl _, heap_alloc_new _ _, by simp, by unfold maxLen; omega, rfl, by simp [cellsM, encM]⟩⟩
theorem RdM.oneP (w : World) (m : Pt) : RdM (w.alloc (.cells #[.int .i64 m.1, .int .u64 m.2] 100)) (.slice (some ⟨w.heap.size, 0, none⟩) 1 1) [m] := (OwnP.one w m).rd

theorem RdM.oneP_at (w : World) (m : Pt) (H : Nat) (h : w.heap.size = H) : RdM (w.alloc (.cells #[.int .i64 m.1, .int .u64 m.2] 100)) (.slice (some ⟨H, 0, none⟩) 1 1) [m] := by
  subst h; exact RdM.oneP w m

theorem infoP : (Try.prog.info? 100).map (fun i => (i.zero, i.size, i.bytes)) = some (some (.agg #[.int .i64 0, .int .u64 0]), 2, 16) := by kernel_rfl
theorem append_P {w : World} {ops : Array Oper} {rest : List Oper} {o : Oper} {a : Act} {Q : Exit → Act → World → Prop} (hgd : o.guard = none) (s x : Operand)
    (ho : o.op = .call { callee := .builtin .append, args := #[s, x], argTypes := #[96, 96] })
    (base : Nat) (v : Value) (xs : List Pt) (hs : a.eval s = v) (hown : OwnP base w v xs)
    (u : Value) (news : List Pt) (hx : a.eval x = u) (hr : RdM w u news)
    (hlen : xs.length + news.length ≤ 1099511627776) (hbase : base ≤ w.heap.size)
    (h : ∀ v' w', OwnP base w' v' (xs ++ news) → w.grownBy w' v.ownBlock → (v'.ownBlock = v.ownBlock ∨ v'.ownBlock = some w.heap.size) → wpList Try.prog ops Q rest (a.put o.dst v') w') : wpList Try.prog ops Q (o :: rest) a w := by
  obtain ⟨i0, hi, hz0, hz1, hz2⟩ := info_parts infoP
  obtain ⟨A, c, rfl, _, _, _⟩ := hr.form
  refine wpList_append_rd w hgd s x 96 ho base 100 i0 _ 2 16 Try.underlying96 hi hz0 hz1 hz2 rfl (by omega) v xs.length (cellsM xs) hs hown A news.length c (cellsM news) hx hr (cellsM_one _)
    (by unfold maxLen; omega) (by omega) hbase fun v' w' h1 h2 h3 => h v' w' ?_ h2 h3
  unfold OwnP
  rw [List.length_append, cellsM_append]
  exact h1
theorem wp_append_P {w : World} {o : Oper} {a : Act} {K : Act → World → Prop} {Q : Exit → Act → World → Prop} (s x : Operand)
    (ho : o.op = .call { callee := .builtin .append, args := #[s, x], argTypes := #[96, 96] })
    (base : Nat) (v : Value) (xs : List Pt) (hs : a.eval s = v) (hown : OwnP base w v xs)
    (u : Value) (news : List Pt) (hx : a.eval x = u) (hr : RdM w u news)
    (hlen : xs.length + news.length ≤ 1099511627776) (hbase : base ≤ w.heap.size)
    (h : ∀ v' w', OwnP base w' v' (xs ++ news) → w.grownBy w' v.ownBlock → (v'.ownBlock = v.ownBlock ∨ v'.ownBlock = some w.heap.size) → K (a.put o.dst v') w') : o.wp Try.prog a w K Q := by
  obtain ⟨i0, hi, hz0, hz1, hz2⟩ := info_parts infoP
  obtain ⟨A, c, rfl, _, _, _⟩ := hr.form
  refine wp_append_rd w s x 96 ho base 100 i0 _ 2 16 Try.underlying96 hi hz0 hz1 hz2 rfl (by omega) v xs.length (cellsM xs) hs hown A news.length c (cellsM news) hx hr (cellsM_one _)
    (by unfold maxLen; omega) (by omega) hbase fun v' w' h1 h2 h3 => h v' w' ?_ h2 h3
  unfold OwnP
  rw [List.length_append, cellsM_append]
  exact h1

/-- The points of the first means. -/
def ptsH : List Mn → Int → List Pt
  | [], _ => []
  | m :: l, done => (m.1, 2 * done + m.2) :: ptsH l (done + m.2)
theorem ptsH_snoc : ∀ (l : List Mn) (done : Int) (m : Mn), ptsH (l ++ [m]) done = ptsH l done ++ [(m.1, 2 * (done + tot l) + m.2)]
  | [], done, m => by simp [ptsH, tot]
  | x :: l, done, m => by
    simp only [List.cons_append, ptsH, ptsH_snoc l, tot]
    rw [show done + x.2 + tot l = done + (x.2 + tot l) by omega]
theorem ptsL_eq (hi n : Int) : ∀ (l : List Mn) (done : Int), ptsL hi n l done = ptsH l done ++ [(hi, 2 * n)]
  | [], _ => rfl
  | m :: l, done => by simp only [ptsL, ptsH, ptsL_eq hi n l, List.cons_append]
theorem ptsH_length : ∀ (l : List Mn) (done : Int), (ptsH l done).length = l.length
  | [], _ => rfl
  | m :: l, done => by simp only [ptsH, List.length_cons, ptsH_length l]
theorem pts_length (lo hi : Int) (P : List Mn) : (pts lo hi P).length = P.length + 2 := by
  simp only [pts, ptsL_eq, List.length_cons, List.length_append, ptsH_length, List.length_nil]
theorem ptsH_take_succ (l : List Mn) (j : Nat) (h : j < l.length) : ptsH (l.take (j + 1)) 0 = ptsH (l.take j) 0 ++ [(l[j].1, 2 * tot (l.take j) + l[j].2)] := by
  rw [List.take_succ_eq_append_getElem h, ptsH_snoc, Int.zero_add]

set_option maxRecDepth 100000 in
set_option maxHeartbeats 2000000 in
theorem points_any (g : Nat) (F : Nat → Prop) (d lo hi : Int) (L W : List Mn) (w : World) (h : Dg w g F d L W lo hi (tot (L ++ W))) (ho : okL (L ++ W)) (hne : L ++ W ≠ []) (hlen : L.length + W.length ≤ 100000000) (ht : tot (L ++ W) ≤ 281474976710656) (d0 : 0 ≤ d) (d1 : d ≤ 1000) :
    Calls Try.prog 55 #[.pointer (some ⟨g, 0, none⟩)] w fun e w' => ∃ v, e = .returned v ∧ OwnP w.heap.size w' v (pts lo hi (prs d (L ++ W))) ∧ Below w.heap.size w w' := by
  obtain ⟨lv, wv, hb, hl, hw, hg, h1, h2, h3, h4⟩ := h
  have c3 := hb.cell 3
  simp only [List.getElem?_toArray, List.getElem?_cons_succ, List.getElem?_cons_zero] at c3
  have hlt := hb.lt
  have HB := Lib.hid hb
  have HL := Lib.hid hl
  have HW := Lib.hid hw
  obtain ⟨A, ca, rfl, na, ma, fa⟩ := hl.form
  obtain ⟨B, cb, rfl, nb, mb, fb⟩ := hw.form
  have HO := Lib.hid ho
  have HNE : 0 < L.length + W.length := by
    rcases Nat.eq_zero_or_pos (L.length + W.length) with h0 | h0
    · exact absurd (List.eq_nil_of_length_eq_zero (by rw [List.length_append]; exact h0)) hne
    · exact h0
  have HT := Lib.hid (prs_tot d (L ++ W))
  have HPL := Lib.hid (prs_length d (L ++ W))
  clear hb hl hw fa fb ho hg h1 h2 h3 h4 hne
  go_enter Try.func55, Try.ntmps55
  go_upto_region 3 with fail
  have O0 := Lib.hid (OwnP.one w (lo, 0))
  obtain ⟨w0, hw0⟩ : ∃ w0, w0 = w.alloc (.cells #[.int .i64 lo, .int .u64 0] 100) := ⟨_, rfl⟩
  have hb0 : Below w.heap.size w w0 := by rw [hw0]; (repeat' (first | (with_reducible exact Below.refl _ _) | (with_reducible refine Below.alloc ?_ ?_ _) | (with_reducible refine Below.drew ?_) | (with_reducible refine below_drewN ?_ _) | (with_reducible refine Below.setCell ?_ ?_ _) | (with_reducible refine below_of (by assumption) ?_ ?_) | go_size))
  have hz0 : w0.heap.size = w.heap.size + 1 := by rw [hw0]; simp
  rw [← hw0]
  rw [show w.alloc (.cells #[.int .i64 ((lo, 0) : Pt).1, .int .u64 ((lo, 0) : Pt).2] 100) = w0 from hw0.symm] at O0
  have HZ0 := Lib.hid hz0
  have hz0' : w.heap.size < w0.heap.size := by omega
  clear hw0 c3 hz0
  have B0 := Lib.hid (HB.out.keep hb0)
  have L0 := Lib.hid (HL.out.keep hb0)
  have W0 := Lib.hid (HW.out.keep hb0)
  have hlt0 : g < w0.heap.size := by omega
  have q0 := B0.out.cell 0
  have q1 := B0.out.cell 1
  have q2 := B0.out.cell 2
  have q5 := B0.out.cell 5
  simp only [List.getElem?_toArray, List.getElem?_cons_succ, List.getElem?_cons_zero] at q0 q1 q2 q5
  have Q0 := Lib.hid q0
  have Q1 := Lib.hid q1
  have Q2 := Lib.hid q2
  have Q5 := Lib.hid q5
  clear q0 q1 q2 q5
  refine wp_region_plan (fun w' => Below w0.heap.size w0 w') [(0, true), (1, true), (2, true), (3, true), (4, true), (5, true), (6, true), (7, true), (8, true), (9, true), (10, true), (11, true), (12, true), (13, true), (14, true), (15, true), (21, true), (16, false), (17, false), (18, false), (19, false), (20, true)] (by kernel_rfl) (by kernel_rfl) ((Below.refl _ _).drew) ?_
  iterate 17
    refine wpPlan_read (by rfl) (by rfl) (fun R hR => ?_)
    apply Exists.intro
    refine ⟨fun w' hS' => ?_, ?_⟩
    · have k0 := (hS'.cell (p := ⟨g, 0, none⟩) hlt0).trans Q0.out
      have k1 := (hS'.cell (p := ⟨g, 1, none⟩) hlt0).trans Q1.out
      have k2 := (hS'.cell (p := ⟨g, 2, none⟩) hlt0).trans Q2.out
      have k5 := (hS'.cell (p := ⟨g, 5, none⟩) hlt0).trans Q5.out
      go_simp
      exact ⟨rfl, rfl⟩
    go_simp
    refine hR _ ?_
    clear hR R
  refine wpPlan_do (by rfl) (by rfl) (fun K hK => ?_)
  go_simp
  refine hK _ _ (((Below.refl _ _).drew).alloc (by go_size) _) ?_
  clear hK K
  refine wpPlan_do (by rfl) (by rfl) (fun K hK => ?_)
  go_simp
  have hrow : RdRow (w0.drew.alloc (.cells #[.slice A L.length ca, .slice B W.length cb] 35)) w0.heap.size [L, W] := rd_row2 (L0.out.rd.keep (((Below.refl _ _).drew).alloc (by go_size) _)) (W0.out.rd.keep (((Below.refl _ _).drew).alloc (by go_size) _))
  refine (concat_M w0.heap.size [L, W] _ (by go_size) hrow (by simp) (by simp; omega)).mono ?_
  rintro e w1 ⟨v1, rfl, o1, hb1⟩
  have hbw1 : Below w0.heap.size w0 w1 := (((Below.refl _ _).drew).alloc (by go_size) _).trans (hb1.mono (by go_size))
  have hz1 := hbw1.size
  rw [show ([L, W] : List (List Mn)).flatten = L ++ W by simp] at o1
  have O1 := Lib.hid o1
  clear o1
  refine hK _ _ (hbw1) ?_
  clear hK K
  refine wpPlan_do (by rfl) (by rfl) (fun K hK => ?_)
  go_simp
  refine (sorted_any _ (L ++ W) v1 _ (Nat.le_refl _) (by rw [List.length_append]; omega) O1.out.rd).mono ?_
  rintro e w2 ⟨v2, rfl, o2, hb2⟩
  have hbw2 : Below w0.heap.size w0 w2 := hbw1.trans (hb2.mono hz1)
  have hz2 := hbw2.size
  have O2 := Lib.hid o2
  clear o2
  refine hK _ _ (hbw2) ?_
  clear hK K
  refine wpPlan_do (by rfl) (by rfl) (fun K hK => ?_)
  go_simp
  have hpr := pressed_any d v2 (srt (L ++ W)) w2 O2.out (by rw [srt_length, List.length_append]; exact HNE) (HO.out.srt) (rises_srt _) (by rw [srt_length, List.length_append]; omega) (by rw [tot_srt]; exact ht) d0 d1
  rw [tot_srt] at hpr
  refine hpr.mono ?_
  rintro e w3 ⟨v3, rfl, o3, hb3⟩
  have hbw3 : Below w0.heap.size w0 w3 := hbw2.trans (hb3.mono hz2)
  have hz3 := hbw3.size
  have O3 : Hid (OwnM w2.heap.size w3 v3 (prs d (L ++ W))) := Lib.hid o3
  clear o3 hpr
  obtain ⟨A3, c3, rfl, n3, m3, f3⟩ := O3.out.form
  clear f3
  refine hK _ _ (hbw3) ?_
  clear hK K
  iterate 1
    refine wpPlan_read (by rfl) (by rfl) (fun R hR => ?_)
    apply Exists.intro
    refine ⟨fun w' hS' => ?_, ?_⟩
    · have k0 := (hS'.cell (p := ⟨g, 0, none⟩) hlt0).trans Q0.out
      have k1 := (hS'.cell (p := ⟨g, 1, none⟩) hlt0).trans Q1.out
      have k2 := (hS'.cell (p := ⟨g, 2, none⟩) hlt0).trans Q2.out
      have k5 := (hS'.cell (p := ⟨g, 5, none⟩) hlt0).trans Q5.out
      go_simp
      exact ⟨rfl, rfl⟩
    go_simp
    refine hR _ ?_
    clear hR R
  refine wpPlan_nil ?_
  have hP0 := prs_ok d (-9223372036854775808) 9223372036854775807 HO.out (fun m hm => ⟨(HO.out m hm).1, (HO.out m hm).2.1⟩)
  have hP := hP0.1
  clear hP0
  obtain ⟨P, hPe⟩ : ∃ P, prs d (L ++ W) = P := ⟨_, rfl⟩
  rw [hPe] at O3 HT HPL hP n3 ⊢
  have hPl : P.length ≤ 100000000 := by have := HPL.out; rw [List.length_append] at this; omega
  have hPt : tot P ≤ 281474976710656 := by rw [HT.out]; exact ht
  have HTP := Lib.hid HT.out.symm
  have HPE := Lib.hid hPe
  have Z2 : w0.heap.size ≤ w2.heap.size := hbw2.size
  have Z3 : w2.heap.size ≤ w3.heap.size := hb3.size
  have O00 := Lib.hid (O0.out.keep (hbw3.mono (by omega)))
  clear hPe HPL HT m3 hbw1 hbw2 hz1 hz2 hz3 hb1 hb2 hb3 O1 O2
  go_wp2_with fail
  go_loopg [3, 4, 34] P.length (fun q v dn i wr => ∃ j : Nat, q = P.length - j ∧ j ≤ P.length ∧ i = .int .i64 j ∧ dn = .int .u64 (tot (P.take j)) ∧ OwnP w.heap.size wr v ((lo, 0) :: ptsH (P.take j) 0) ∧
    OwnM w2.heap.size wr (.slice A3 P.length c3) P ∧ Below w.heap.size w wr ∧ w3.heap.size ≤ wr.heap.size ∧ Hid (∀ k, v.ownBlock = some k → k < w2.heap.size ∨ w3.heap.size ≤ k))
  case atStart => exact ⟨0, rfl, by omega, rfl, rfl, O00.out, O3.out, hb0.trans (hbw3.mono (by omega)), Nat.le_refl _, fun k e => by simp only [Value.ownBlock, Option.some.injEq] at e; omega⟩
  case round =>
    obtain ⟨j, hk, hj, rfl, rfl, hown, hP3, hb, hz, hsep⟩ := hrel
    have HK := Lib.hid hk
    have HN := Lib.hid hown
    have H3 := Lib.hid hP3
    obtain ⟨A4, c4, hv4, n4, m4, f4⟩ := hP3.form
    simp only [Value.slice.injEq, true_and] at hv4
    obtain ⟨rfl, rfl⟩ := hv4
    have HF := Lib.hid f4
    have hzw := hb.size
    clear hk hown hP3 f4
    by_cases hlt : j < P.length
    · obtain ⟨g3, off3, rfl, hg3, e0, e1⟩ := HF.out.at_ hlt
      have HTK := Lib.hid (ptsH_take_succ P j hlt)
      have HTT := Lib.hid (tot_take_succ P j hlt)
      have htj := hP.tot_get hlt
      have htj0 := (hP.tot_take j).1
      have hm := hP.get hlt
      have hm2 := hm.2.2
      have hl3 : ((lo, 0) :: ptsH (P.take j) 0).length + 1 ≤ 1099511627776 := by simp only [List.length_cons, ptsH_length, List.length_take]; omega
      clear hm
      go_wp2_with (first
        | (at_builtin
           go_must (refine append_P rfl (.tmp 38) (.tmp 47) rfl w.heap.size u3 ((lo, 0) :: ptsH (P.take j) 0) rfl ((HN.out.alloc _).alloc _) _ [(P[j].1, 2 * tot (P.take j) + P[j].2)] rfl (RdM.oneP_at _ (P[j].1, 2 * tot (P.take j) + P[j].2) _ (by simp)) hl3 (by simp only [World.size_alloc]; omega) ?_)
           intro v5 w5 o5 g5 a5
           have hb5 : Below w.heap.size w w5 := ((hb.alloc (by omega) _).alloc (by simp; omega) _).grown g5 (by simp; omega) (fun k hk => (HN.out.lt k hk).1)
           have O5 := Lib.hid o5
           have hz5 := g5.size
           simp only [World.size_alloc] at hz5
           have M5 := Lib.hid (show OwnM w2.heap.size w5 (.slice (some ⟨g3, off3, none⟩) P.length c3) P from ((H3.out.alloc _).alloc _).stay fun k e => g5.block k (by have := (H3.out.lt k e).2; simp; omega) (fun e2 => by have q1 := hsep.out k e2.symm; have q2 := (H3.out.lt k e).1; have q3 := (O3.out.lt k e).2; omega))
           have S5 : Hid (∀ k, v5.ownBlock = some k → k < w2.heap.size ∨ w3.heap.size ≤ k) := fun k e => by
             rcases a5 with a | a
             · exact hsep.out k (by rw [← a]; exact e)
             · rw [a] at e; simp only [World.size_alloc, Option.some.injEq] at e; omega
           have x0 : (wr.alloc (.cells #[.int .i64 P[j].1, .int .u64 P[j].2] 45)).cell? ⟨wr.heap.size, 1, none⟩ = some (.int .u64 P[j].2) := by simp [World.cell?_alloc_new]
           have x1 : w5.cell? ⟨wr.heap.size, 1, none⟩ = some (.int .u64 P[j].2) := (World.cell?_of_block (a := ⟨wr.heap.size, 1, none⟩) (g5.block wr.heap.size (by simp only [World.size_alloc]; omega) (fun e2 => by have := (HN.out.lt _ e2.symm).2; omega))).trans ((((Below.refl (wr.alloc (.cells #[.int .i64 P[j].1, .int .u64 P[j].2] 45)).heap.size _).alloc (Nat.le_refl _) _).cell (p := ⟨wr.heap.size, 1, none⟩) (by show wr.heap.size < _; simp only [World.size_alloc]; omega)).trans x0)
           clear x0
           clear o5 g5 a5))
      go_roundg (P.length - (j + 1))
      case measure => have := HK.out; omega
      case rel => exact ⟨j + 1, rfl, by omega, by go_num, by rw [HTT.out], by rw [HTK.out]; exact O5.out, M5.out, hb5, by omega, S5⟩
    · have hE : Hid (P.take j = P) := by show _ = _; rw [List.take_of_length_le (by omega)]
      have hl3 : ((lo, 0) :: ptsH (P.take j) 0).length + 1 ≤ 1099511627776 := by simp only [List.length_cons, ptsH_length, List.length_take]; omega
      have k4 := HB.out.cell 4
      have k5 := HB.out.cell 5
      simp only [List.getElem?_toArray, List.getElem?_cons_succ, List.getElem?_cons_zero] at k4 k5
      have K4 := Lib.hid k4
      have K5 := Lib.hid k5
      have EW := Lib.hid (IntWalk.u64_in (2 * tot (L ++ W)) (by have := HO.out.tot_nonneg; omega))
      have hltg : g < w.heap.size := by assumption
      clear k4 k5
      have hzz := Lib.hid hsep
      clear hsep
      go_wp2_with fail
      refine wp_region_plan (fun w' => Below w.heap.size w w') [(0, true), (1, true), (2, true), (3, true), (4, true), (5, true), (6, true), (7, true), (8, true), (9, true), (10, true), (11, false), (12, false), (13, true)] (by kernel_rfl) (by kernel_rfl) (hb.drew) ?_
      iterate 11
        refine wpPlan_read (by rfl) (by rfl) (fun R hR => ?_)
        apply Exists.intro
        refine ⟨fun w' hS' => ?_, ?_⟩
        · have k4 := (hS'.cell (p := ⟨g, 4, none⟩) hltg).trans K4.out
          have k5 := (hS'.cell (p := ⟨g, 5, none⟩) hltg).trans K5.out
          have ew := EW.out
          go_simp
          exact ⟨rfl, rfl⟩
        go_simp
        refine hR _ ?_
        clear hR R
      refine wpPlan_do (by rfl) (by rfl) (fun K hK => ?_)
      go_simp
      refine hK _ _ (hb.drew.alloc (by go_size) _) ?_
      clear hK K
      refine wpPlan_do (by rfl) (by rfl) (fun K hK => ?_)
      refine wp_append_P (.tmp 54) (.tmp 65) rfl w.heap.size u3 ((lo, 0) :: ptsH (P.take j) 0) rfl ((HN.out.drew).alloc _) _ [(hi, 2 * tot (L ++ W))] rfl (RdM.oneP _ (hi, 2 * tot (L ++ W))) hl3 (by go_size) ?_
      intro v5 w5 o5 g5 a5
      have hb5 : Below w.heap.size w w5 := (hb.drew.alloc (by go_size) _).grown g5 (by go_size) (fun k hk => (HN.out.lt k hk).1)
      have O5 := Lib.hid o5
      clear o5 g5 a5
      go_simp
      refine hK _ _ (hb5) ?_
      clear hK K
      iterate 1
        refine wpPlan_read (by rfl) (by rfl) (fun R hR => ?_)
        apply Exists.intro
        refine ⟨fun w' hS' => ?_, ?_⟩
        · have k4 := (hS'.cell (p := ⟨g, 4, none⟩) hltg).trans K4.out
          have k5 := (hS'.cell (p := ⟨g, 5, none⟩) hltg).trans K5.out
          have ew := EW.out
          go_simp
          exact ⟨rfl, rfl⟩
        go_simp
        refine hR _ ?_
        clear hR R
      refine wpPlan_nil ?_
      go_wp2_with fail
      refine bodyPost_ret (by simp [results, Try.results55, go_sem, *]; try rfl) rfl ?_
      refine ⟨_, rfl, ?_, hb5⟩
      have := O5.out
      rw [hE.out, HTP.out] at this
      rw [HPE.out, pts, ptsL_eq]
      rw [List.cons_append] at this
      exact this
end Go.Proofs.Ytedhpkfbobgkgaa
