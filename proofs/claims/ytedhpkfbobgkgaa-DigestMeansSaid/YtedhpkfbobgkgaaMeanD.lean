/- The digest's mean. Condition: a state within the bounds. -/
import Derived.Test.YtedhpkfbobgkgaaMeanW
namespace Go.Proofs.Ytedhpkfbobgkgaa
open Go.RowKit Go.Lib

/-- A slice of terms that is the call's own. -/
def OwnT (base : Nat) (w : World) (v : Value) (l : List Mn) : Prop := w.ownsRow base 121 2 v l.length (cellsM l)
theorem OwnT.rd {base : Nat} {w : World} {v : Value} {l : List Mn} (h : OwnT base w v l) : RdM w v l := Rd.of_own h
theorem OwnT.nil_ (base : Nat) (w : World) : OwnT base w (.slice none 0 0) [] := World.ownsRow_nil w base _ _
theorem OwnT.alloc {base : Nat} {w : World} {v : Value} {l : List Mn} (h : OwnT base w v l) (o : Obj) : OwnT base (w.alloc o) v l := World.ownsRow.alloc h o
theorem OwnT.drewN {base : Nat} {w : World} {v : Value} {l : List Mn} (h : OwnT base w v l) (n : Nat) : OwnT base (w.drewN n) v l := h
theorem OwnT.lt {base : Nat} {w : World} {v : Value} {l : List Mn} (h : OwnT base w v l) : ∀ g, v.ownBlock = some g → base ≤ g ∧ g < w.heap.size := World.ownsRow.lt h
theorem OwnT.one (w : World) (m : Mn) : OwnT w.heap.size (w.alloc (.cells #[.int .i64 m.1, .int .u64 m.2] 121)) (.slice (some ⟨w.heap.size, 0, none⟩) 1 1) [m] :=
  ⟨rfl, .inr ⟨w.heap.size, 1, _, rfl, Nat.le_refl _, heap_alloc_new _ _, by simp, by unfold maxLen; omega, rfl, by simp [cellsM, encM]⟩⟩
theorem RdM.oneT_at (w : World) (m : Mn) (H : Nat) (h : w.heap.size = H) : RdM (w.alloc (.cells #[.int .i64 m.1, .int .u64 m.2] 121)) (.slice (some ⟨H, 0, none⟩) 1 1) [m] := by
  subst h; exact (OwnT.one w m).rd
theorem infoT : (Try.prog.info? 121).map (fun i => (i.zero, i.size, i.bytes)) = some (some (.agg #[.int .i64 0, .int .u64 0]), 2, 16) := by kernel_rfl
theorem append_T {w : World} {ops : Array Oper} {rest : List Oper} {o : Oper} {a : Act} {Q : Exit → Act → World → Prop} (hgd : o.guard = none) (s x : Operand)
    (ho : o.op = .call { callee := .builtin .append, args := #[s, x], argTypes := #[120, 120] })
    (base : Nat) (v : Value) (xs : List Mn) (hs : a.eval s = v) (hown : OwnT base w v xs)
    (u : Value) (news : List Mn) (hx : a.eval x = u) (hr : RdM w u news)
    (hlen : xs.length + news.length ≤ 1099511627776) (hbase : base ≤ w.heap.size)
    (h : ∀ v' w', OwnT base w' v' (xs ++ news) → w.grownBy w' v.ownBlock → (v'.ownBlock = v.ownBlock ∨ v'.ownBlock = some w.heap.size) → wpList Try.prog ops Q rest (a.put o.dst v') w') : wpList Try.prog ops Q (o :: rest) a w := by
  obtain ⟨i0, hi, hz0, hz1, hz2⟩ := info_parts infoT
  obtain ⟨A, c, rfl, _, _, _⟩ := hr.form
  refine wpList_append_rd w hgd s x 120 ho base 121 i0 _ 2 16 Try.underlying120 hi hz0 hz1 hz2 rfl (by omega) v xs.length (cellsM xs) hs hown A news.length c (cellsM news) hx hr (cellsM_one _)
    (by unfold maxLen; omega) (by omega) hbase fun v' w' h1 h2 h3 => h v' w' ?_ h2 h3
  unfold OwnT
  rw [List.length_append, cellsM_append]
  exact h1

/-- What the mean of a digest is: the number, and the error. -/
def meanR (l : List Mn) : Int × Int := if l.length = 0 then (0, 8) else (meanI l, 0)

set_option maxRecDepth 100000 in
set_option maxHeartbeats 2000000 in
theorem dmean_any (g : Nat) (F : Nat → Prop) (d lo hi n : Int) (L W : List Mn) (w : World) (h : Dg w g F d L W lo hi n) (ho : okL (L ++ W)) (hlen : L.length + W.length ≤ 100000000) (ht : tot (L ++ W) ≤ 281474976710656) :
    Calls Try.prog 42 #[.pointer (some ⟨g, 0, none⟩)] w fun e w' => e = .returned (.tuple #[.int .i64 (meanR (L ++ W)).1, .int .i64 (meanR (L ++ W)).2]) ∧ Below w.heap.size w w' := by
  obtain ⟨lv, wv, hb, hl, hw, hg, h1, h2, h3, h4⟩ := h
  have c1 := hb.cell 1
  have c2 := hb.cell 2
  simp only [List.getElem?_toArray, List.getElem?_cons_succ, List.getElem?_cons_zero] at c1 c2
  have hlt := hb.lt
  obtain ⟨A, ca, rfl, na, ma, fa⟩ := hl.form
  obtain ⟨B, cb, rfl, nb, mb, fb⟩ := hw.form
  have HL := Lib.hid hl.rd
  have HW := Lib.hid hw.rd
  have C1 := Lib.hid c1
  have C2 := Lib.hid c2
  have HO := Lib.hid ho
  obtain ⟨l, hle⟩ : ∃ l, L ++ W = l := ⟨_, rfl⟩
  have hll : l.length ≤ 100000000 := by rw [← hle, List.length_append]; exact hlen
  rw [hle] at HO ht ⊢
  have HF : Hid (([L, W] : List (List Mn)).flatten = l) := by show _ = _; rw [← hle]; simp
  clear hb hl hw fa fb hg h1 h2 h3 h4 c1 c2 ho hle
  go_enter Try.func42, Try.ntmps42
  go_wp2_with fail
  refine wp_region_plan (fun w' => Below w.heap.size w w') [(0, true), (1, true), (2, true), (3, true), (4, true), (5, true), (6, true), (7, true), (11, true), (8, false), (9, false), (10, true)] (by kernel_rfl) (by kernel_rfl) ((Below.refl _ _).drew) ?_
  iterate 9
    refine wpPlan_read (by rfl) (by rfl) (fun R hR => ?_)
    apply Exists.intro
    refine ⟨fun w' hS' => ?_, ?_⟩
    · have k1 := (hS'.cell (p := ⟨g, 1, none⟩) hlt).trans C1.out
      have k2 := (hS'.cell (p := ⟨g, 2, none⟩) hlt).trans C2.out
      go_simp
      exact ⟨rfl, rfl⟩
    go_simp
    refine hR _ ?_
    clear hR R
  refine wpPlan_do (by rfl) (by rfl) (fun K hK => ?_)
  go_simp
  refine hK _ _ (((Below.refl _ _).drew).alloc (by go_size) _) ?_
  clear hK K
  refine wpPlan_do (by rfl) (by rfl) (fun K hK => ?_)
  go_simp
  have hrow : RdRow (w.drew.alloc (.cells #[.slice A L.length ca, .slice B W.length cb] 35)) w.heap.size [L, W] := rd_row2 (HL.out.keep (((Below.refl _ _).drew).alloc (by go_size) _)) (HW.out.keep (((Below.refl _ _).drew).alloc (by go_size) _))
  refine (concat_M w.heap.size [L, W] _ (by go_size) hrow (by simp) (by rw [HF.out]; omega)).mono ?_
  rintro e w1 ⟨v1, rfl, o1, hb1⟩
  have hbw1 : Below w.heap.size w w1 := (((Below.refl _ _).drew).alloc (by go_size) _).trans (hb1.mono (by go_size))
  have hz1 := hbw1.size
  rw [HF.out] at o1
  have O1 := Lib.hid o1.rd
  obtain ⟨A1, c3, rfl, n1, m1, f1⟩ := o1.form
  have F1 := Lib.hid f1
  clear o1 f1
  refine hK _ _ (hbw1) ?_
  clear hK K
  iterate 1
    refine wpPlan_read (by rfl) (by rfl) (fun R hR => ?_)
    apply Exists.intro
    refine ⟨fun w' hS' => ?_, ?_⟩
    · have k1 := (hS'.cell (p := ⟨g, 1, none⟩) hlt).trans C1.out
      have k2 := (hS'.cell (p := ⟨g, 2, none⟩) hlt).trans C2.out
      go_simp
      exact ⟨rfl, rfl⟩
    go_simp
    refine hR _ ?_
    clear hR R
  refine wpPlan_nil ?_
  clear hlen HL HW C1 C2
  go_wp2_with fail
  go_loopg [4, 18] l.length (fun q v i wr => ∃ j : Nat, q = l.length - j ∧ j ≤ l.length ∧ i = .int .i64 j ∧ OwnT w1.heap.size wr v (l.take j) ∧ Below w1.heap.size w1 wr)
  case atStart => exact ⟨0, rfl, by omega, rfl, OwnT.nil_ _ _, Below.refl _ _⟩
  case round =>
    obtain ⟨j, hk, hj, rfl, ho, hb⟩ := hrel
    have HK := Lib.hid hk
    have HN := Lib.hid ho
    have hz := hb.size
    clear hk ho
    by_cases hlt2 : j < l.length
    · obtain ⟨g1, off, rfl, hg1, e0, e1⟩ := (F1.out.keep hb).at_ hlt2
      have hl2 : (l.take j).length + 1 ≤ 1099511627776 := by rw [List.length_take]; omega
      have HT := Lib.hid (List.take_succ_eq_append_getElem hlt2)
      go_wp2_with (first
        | (at_builtin
           go_must (refine append_T rfl (.tmp 22) (.tmp 28) rfl w1.heap.size u4 (l.take j) rfl ((HN.out.alloc _).alloc _) _ [(l[j].1, l[j].2)] rfl (RdM.oneT_at _ (l[j].1, l[j].2) _ (by simp)) hl2 (by simp only [World.size_alloc]; omega) ?_)
           intro v5 w5 o5 g5 a5
           have hb5 : Below w1.heap.size w1 w5 := ((hb.alloc (by omega) _).alloc (by simp; omega) _).grown g5 (by simp; omega) (fun k hk => (HN.out.lt k hk).1)
           have O5 := Lib.hid o5
           clear o5 g5 a5))
      go_roundg (l.length - (j + 1))
      case measure => have := HK.out; omega
      case rel => exact ⟨j + 1, rfl, by omega, by go_num, by rw [HT.out]; exact O5.out, hb5⟩
    · have hE : Hid (l.take j = l) := by show _ = _; rw [List.take_of_length_le (by omega)]
      rw [hE.out] at HN
      obtain ⟨A2, c2, rfl, n2, m2, f2⟩ := HN.out.rd.form
      clear f2
      rcases Nat.eq_zero_or_pos l.length with h0 | h0
      · have HM : Hid (meanR l = (0, 8)) := by show meanR l = _; unfold meanR; rw [if_pos h0]
        have hzb : ((l.length : Int) == 0) = true := beq_iff_eq.2 (by omega)
        clear h0
        go_wp2_with fail
        go_ret2
        exact ⟨by rw [HM.out]; rfl, by (repeat' (first | (with_reducible exact Below.refl _ _) | (with_reducible refine Below.alloc ?_ ?_ _) | (with_reducible refine Below.drew ?_) | (with_reducible refine below_drewN ?_ _) | (with_reducible refine Below.setCell ?_ ?_ _) | (with_reducible refine below_of (by assumption) ?_ ?_) | go_size))⟩
      · have HM : Hid (meanR l = (meanI l, 0)) := by show meanR l = _; unfold meanR; rw [if_neg (by omega)]
        have hzb : ((l.length : Int) == 0) = false := beq_eq_false_iff_ne.2 (by omega)
        go_wp2_with fail
        refine (wmean_any _ l _ HN.out.rd HO.out h0 (by omega) ht).mono ?_
        rintro e w6 ⟨rfl, hb6⟩
        have hz6 := hb6.size
        go_wp2_with fail
        go_ret2
        exact ⟨by rw [HM.out]; rfl, by (repeat' (first | (with_reducible exact Below.refl _ _) | (with_reducible refine Below.alloc ?_ ?_ _) | (with_reducible refine Below.drew ?_) | (with_reducible refine below_drewN ?_ _) | (with_reducible refine Below.setCell ?_ ?_ _) | (with_reducible refine below_of (by assumption) ?_ ?_) | go_size))⟩
end Go.Proofs.Ytedhpkfbobgkgaa
