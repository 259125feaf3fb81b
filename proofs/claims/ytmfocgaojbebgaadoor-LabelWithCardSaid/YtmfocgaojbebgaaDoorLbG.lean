/- Labels sorted by their names, as Go's library does it. Condition: at most eight labels, in a row of the call's own. -/
import Derived.Test.YtmfocgaojbebgaaDoorLbF
import Derived.Test.YtmfocgaojbebgaaDoorPlanS
namespace Go.Proofs.YtmfocgaojbebgaaDoor
open Go.RowKit

def cmpT (a b : Tx) : Int := if lessT a b then -1 else if a == b then 0 else 1
theorem cmpT_neg (a b : Tx) : (cmpT a b < 0) ↔ lessT a b = true := by
  unfold cmpT
  cases lessT a b
  · simp only [Bool.false_eq_true, if_false]
    split <;> simp
  · simp
def fnN : Value := .func (.func 30) #[] #[]

set_option maxHeartbeats 400000 in
theorem isNaN_t (a : Tx) (w : World) : Calls Tryd.prog 57 #[.string (bsOf a)] w fun e w' => e = .returned (.bool false) ∧ w = w' := by
  go_enter Tryd.func57, Tryd.ntmps57
  go_wp2_with fail
  go_ret
  exact ⟨by simp, rfl⟩
set_option maxHeartbeats 400000 in
theorem compare_t (a b : Tx) (w : World) : Calls Tryd.prog 39 #[.string (bsOf a), .string (bsOf b)] w fun e w' => e = .returned (.int .i64 (cmpT a b)) ∧ w = w' := by
  have t1 := bsOf_toList a
  have t2 := bsOf_toList b
  by_cases h1 : lessT a b = true
  · have HC : Hid (cmpT a b = -1) := Lib.hid (by unfold cmpT; rw [if_pos h1])
    have h1' : Op.bytesLess a b = true := h1
    clear h1
    go_enter Tryd.func39, Tryd.ntmps39
    go_wp2_with fail
    refine (isNaN_t a w).mono ?_
    rintro e w1 ⟨rfl, rfl⟩
    go_wp2_with fail
    refine (isNaN_t b w).mono ?_
    rintro e w1 ⟨rfl, rfl⟩
    go_wp2_with fail
    go_ret
    exact ⟨ret_int HC.out.symm, rfl⟩
  · have h1' : Op.bytesLess a b = false := by simpa [lessT] using h1
    by_cases h2 : a = b
    · have HC : Hid (cmpT a b = 0) := Lib.hid (by unfold cmpT; rw [if_neg h1, if_pos (by simp [h2])])
      have h2' : (a == b) = true := by simp [h2]
      clear h1 h2
      go_enter Tryd.func39, Tryd.ntmps39
      go_wp2_with fail
      refine (isNaN_t a w).mono ?_
      rintro e w1 ⟨rfl, rfl⟩
      go_wp2_with fail
      refine (isNaN_t b w).mono ?_
      rintro e w1 ⟨rfl, rfl⟩
      go_wp2_with fail
      go_ret
      exact ⟨ret_int HC.out.symm, rfl⟩
    · have HC : Hid (cmpT a b = 1) := Lib.hid (by unfold cmpT; rw [if_neg h1, if_neg (by simpa using h2)])
      have h2' : (a == b) = false := by simpa using h2
      clear h1 h2
      go_enter Tryd.func39, Tryd.ntmps39
      go_wp2_with fail
      refine (isNaN_t a w).mono ?_
      rintro e w1 ⟨rfl, rfl⟩
      go_wp2_with fail
      refine (isNaN_t b w).mono ?_
      rintro e w1 ⟨rfl, rfl⟩
      go_wp2_with fail
      go_ret
      exact ⟨ret_int HC.out.symm, rfl⟩
set_option maxHeartbeats 400000 in
theorem byName_any (x y : Lb) (w : World) : Calls Tryd.prog 30 #[.agg #[.string (bsOf x.1), .string (bsOf x.2)], .agg #[.string (bsOf y.1), .string (bsOf y.2)]] w fun e w' => e = .returned (.int .i64 (cmpT x.1 y.1)) ∧ Below w.heap.size w w' := by
  go_enter Tryd.func30, Tryd.ntmps30
  go_wp2_with fail
  refine (compare_t x.1 y.1 _).mono ?_
  rintro e w1 ⟨rfl, rfl⟩
  go_wp2_with fail
  go_ret
  exact ⟨rfl, by (repeat' (first | (with_reducible exact Below.refl _ _) | (with_reducible refine Below.alloc ?_ ?_ _) | (with_reducible refine Below.drew ?_) | (with_reducible refine below_drewN ?_ _) | (with_reducible refine Below.setCell ?_ ?_ _) | (with_reducible refine below_of (by assumption) ?_ ?_) | go_size))⟩

/-! ### Insertion, in plain Lean -/
theorem insT_at (x : Lb) : ∀ (l : List Lb) (k : Nat), k ≤ l.length → (∀ j (h : j < l.length), j < k → lessT x.1 l[j].1 = false) → (∀ h : k < l.length, lessT x.1 l[k].1 = true) → insT x l = l.take k ++ x :: l.drop k
  | [], k, _, _, _ => by simp [insT]
  | y :: l, 0, _, _, h2 => by
    have := h2 (by simp)
    simp only [List.getElem_cons_zero] at this
    simp only [insT, List.take_zero, List.nil_append, List.drop_zero]
    rw [if_pos this]
  | y :: l, k + 1, h0, h1, h2 => by
    have hy := h1 0 (by simp) (by omega)
    simp only [List.getElem_cons_zero] at hy
    simp only [insT, List.take_succ_cons, List.cons_append, List.drop_succ_cons]
    rw [if_neg (by simp [hy]), insT_at x l k (by simpa using h0) (fun j h hj => h1 (j + 1) (Nat.succ_lt_succ h) (by omega)) (fun h => h2 (Nat.succ_lt_succ h))]
/-- No name is less than one ahead of it. -/
def wsort (l : List Lb) : Prop := l.Pairwise fun x y => lessT y.1 x.1 = false
theorem mem_insT {x z : Lb} : ∀ {l : List Lb}, z ∈ insT x l → z = x ∨ z ∈ l
  | [], h => by simpa [insT] using h
  | y :: l, h => by
    unfold insT at h
    split at h
    · rcases List.mem_cons.1 h with h | h
      · exact .inl h
      · exact .inr h
    · rcases List.mem_cons.1 h with h | h
      · exact .inr (by simp [h])
      · rcases mem_insT h with h | h
        · exact .inl h
        · exact .inr (List.mem_cons_of_mem _ h)
theorem lessT_not {a b : Tx} (h : lessT a b = true) : lessT b a = false := by rw [lessT_turn a b, h]; rfl
theorem lessT_le {a b c : Tx} (h1 : lessT b a = false) (h2 : lessT c b = false) : lessT c a = false := by
  rw [← Bool.not_eq_true]
  intro h
  have h3 : lessT b c = true ∨ b = c := by
    have := lessT_turn b c
    rw [h2] at this
    have h9 := this.symm
    rw [Bool.not_eq_false'] at h9
    simpa using h9
  rcases h3 with h3 | rfl
  · rw [lessT_trans h3 h] at h1; cases h1
  · rw [h] at h1; cases h1
theorem wsort_insT (x : Lb) : ∀ {l : List Lb}, wsort l → wsort (insT x l)
  | [], _ => by simp [insT, wsort]
  | y :: l, h => by
    have h' := List.pairwise_cons.1 h
    unfold insT
    split
    · rename_i hxy
      refine List.pairwise_cons.2 ⟨fun z hz => ?_, h⟩
      rcases List.mem_cons.1 hz with rfl | hz
      · exact lessT_not hxy
      · exact lessT_le (lessT_not hxy) (h'.1 z hz)
    · rename_i hxy
      refine List.pairwise_cons.2 ⟨fun z hz => ?_, wsort_insT x h'.2⟩
      rcases mem_insT hz with rfl | hz
      · simpa using hxy
      · exact h'.1 z hz
theorem wsort_srtT (l : List Lb) : wsort (srtT l) := by
  have key : ∀ (l o : List Lb), wsort o → wsort (l.foldl (fun o x => insT x o) o) := by
    intro l
    induction l with
    | nil => intro o h; exact h
    | cons x l ih => intro o h; exact ih _ (wsort_insT x h)
  exact key l [] List.Pairwise.nil
/-- The row while an element finds its place. -/
def midL (S T : List Lb) (x : Lb) (j : Nat) : List Lb := S.take j ++ x :: (S.drop j ++ T)
theorem midL_len (S T : List Lb) (x : Lb) (j : Nat) : (midL S T x j).length = S.length + 1 + T.length := by
  unfold midL
  rw [List.length_append, List.length_cons, List.length_append, List.length_take, List.length_drop]; omega
theorem midL_at (S T : List Lb) (x : Lb) {j : Nat} (hj : j ≤ S.length) (h : j < (midL S T x j).length) : (midL S T x j)[j] = x := by
  have hl : (S.take j).length = j := by rw [List.length_take]; omega
  have e : (midL S T x j)[j]? = some x := by
    unfold midL
    rw [List.getElem?_append_right (by omega), hl, Nat.sub_self]; rfl
  rw [List.getElem?_eq_getElem h] at e
  exact Option.some.inj e
theorem midL_ahead (S T : List Lb) (x : Lb) {m : Nat} (hj : m < S.length) (h : m < (midL S T x (m + 1)).length) : (midL S T x (m + 1))[m] = S[m] := by
  have e : (midL S T x (m + 1))[m]? = some S[m] := by
    unfold midL
    rw [List.getElem?_append_left (by rw [List.length_take]; omega), List.getElem?_take, if_pos (by omega), List.getElem?_eq_getElem hj]
  rw [List.getElem?_eq_getElem h] at e
  exact Option.some.inj e
theorem midL_step (S T : List Lb) (x : Lb) {m : Nat} (hj : m < S.length) : ((midL S T x (m + 1)).set (m + 1) S[m]).set m x = midL S T x m := by
  have hl : (S.take m).length = m := by rw [List.length_take]; omega
  have e : midL S T x (m + 1) = S.take m ++ S[m] :: x :: (S.drop (m + 1) ++ T) := by
    unfold midL
    rw [List.take_succ_eq_append_getElem hj, List.append_assoc]; rfl
  have e2 : midL S T x m = S.take m ++ x :: S[m] :: (S.drop (m + 1) ++ T) := by
    unfold midL
    rw [List.drop_eq_getElem_cons hj]; rfl
  rw [e, e2, List.set_append_right _ _ (by omega), List.set_append_right _ _ (by omega), hl]
  simp
theorem midL_last {S T : List Lb} {x : Lb} {j : Nat} (hs : wsort S) (hj : j ≤ S.length) (hhi : ∀ k (h : k < S.length), j ≤ k → lessT x.1 S[k].1 = true) (hlo : ∀ h : 0 < j, lessT x.1 (S[j - 1]'(by omega)).1 = false) : midL S T x j = insT x S ++ T := by
  have hS := List.pairwise_iff_getElem.1 hs
  rw [insT_at x S j hj (fun i h hi => ?_) (fun h => hhi j h (Nat.le_refl _))]
  · unfold midL; simp
  · have h1 := hlo (by omega)
    rcases Nat.lt_or_ge i (j - 1) with h2 | h2
    · exact lessT_le (hS i (j - 1) h (by omega) h2) h1
    · obtain rfl : i = j - 1 := by omega
      exact h1
/-! ### The library's sort -/
theorem OwnE.two {base g c n : Nat} {w : World} {l : List Lb} (h : OwnE lbE base w (.slice (some ⟨g, 0, none⟩) n c) l) {j : Nat} (hj : j < l.length) :
    w.cell? ⟨g, j * 2, none⟩ = some (.string (bsOf l[j].1)) ∧ w.cell? ⟨g, j * 2 + 1, none⟩ = some (.string (bsOf l[j].2)) :=
  ⟨h.cellAt hj 0 (by decide), h.cellAt hj 1 (by decide)⟩
set_option maxRecDepth 100000 in
set_option maxHeartbeats 8000000 in
theorem insertion_any (g c base : Nat) (l : List Lb) (w : World) (h : OwnE lbE base w (.slice (some ⟨g, 0, none⟩) l.length c) l) (hl : l.length ≤ 8) (hg : g < w.heap.size) (hc : l.length ≤ c) (_hc2 : c ≤ 9223372036854775807) :
    Calls Tryd.prog 63 #[.slice (some ⟨g, 0, none⟩) l.length c, .int .i64 0, .int .i64 l.length, fnN] w fun e w' => e = .returned (.tuple #[]) ∧ OwnE lbE base w' (.slice (some ⟨g, 0, none⟩) l.length c) (srtT l) ∧ Touch (fun k => k = g) w w' := by
  have HO := Lib.hid h
  clear h
  unfold fnN
  go_enter Tryd.func63, Tryd.ntmps63
  go_wp2_with fail
  go_loopg [8] (l.length - 1) (fun q i wr => ∃ k : Nat, q = l.length - k ∧ 1 ≤ k ∧ (k ≤ l.length ∨ (l.length = 0 ∧ k = 1)) ∧ i = .int .i64 k ∧ Hid (OwnE lbE base wr (.slice (some ⟨g, 0, none⟩) l.length c) (srtT (l.take k) ++ l.drop k)) ∧ Hid (Touch (fun k => k = g) w wr))
  case atStart =>
    refine ⟨1, rfl, Nat.le_refl _, by omega, rfl, Lib.hid ?_, Lib.hid (Touch.refl _ _)⟩
    have e : srtT (l.take 1) ++ l.drop 1 = l := by
      cases l with
      | nil => rfl
      | cons x l => simp [srtT, insT]
    rw [e]; exact HO.out
  case round =>
    obtain ⟨k, hk, hk1, hk2, rfl, OR, TR⟩ := hrel
    have HK := Lib.hid hk
    have hz := TR.out.size
    clear hk
    by_cases hlt : k < l.length
    · go_wp2_with fail
      have hSl : (srtT (l.take k)).length = k := by rw [srtT_length, List.length_take]; omega
      have HWS := Lib.hid (wsort_srtT (l.take k))
      have HNX : Hid (∀ S' : List Lb, S' = insT l[k] (srtT (l.take k)) ++ l.drop (k + 1) → S' = srtT (l.take (k + 1)) ++ l.drop (k + 1)) := Lib.hid (fun S' h => by
        rw [h, List.take_succ_eq_append_getElem hlt, srtT_snoc])
      have O0 : Hid (OwnE lbE base wr (.slice (some ⟨g, 0, none⟩) l.length c) (midL (srtT (l.take k)) (l.drop (k + 1)) l[k] k)) := Lib.hid (by
        have : midL (srtT (l.take k)) (l.drop (k + 1)) l[k] k = srtT (l.take k) ++ l.drop k := by
          unfold midL
          rw [List.take_of_length_le (by omega), List.drop_of_length_le (by omega), List.drop_eq_getElem_cons hlt]; rfl
        rw [this]; exact OR.out)
      clear OR
      have hTl : (l.drop (k + 1)).length = l.length - (k + 1) := List.length_drop
      generalize srtT (l.take k) = S at *
      obtain ⟨T, hT⟩ : ∃ T, l.drop (k + 1) = T := ⟨_, rfl⟩
      rw [hT] at HNX O0 hTl
      have HT := Lib.hid hT
      clear hT
      generalize l[k] = x at *
      obtain ⟨wo, rfl⟩ : ∃ wo : World, wo = wr := ⟨_, rfl⟩
      go_loopg [9] k (fun q j w2 => ∃ i : Nat, q = i ∧ i ≤ k ∧ j = .int .i64 i ∧ Hid (OwnE lbE base w2 (.slice (some ⟨g, 0, none⟩) l.length c) (midL S T x i)) ∧ Hid (∀ n (h : n < S.length), i ≤ n → lessT x.1 S[n].1 = true) ∧ Hid (Touch (fun k => k = g) w w2))
      case atStart => exact ⟨k, rfl, Nat.le_refl _, rfl, O0, Lib.hid (fun n h hn => absurd h (by omega)), TR⟩
      case round =>
        obtain ⟨i, hq, hi, rfl, OI, HG, TI⟩ := hrel
        have HQ := Lib.hid hq
        have hz2 := TI.out.size
        clear hq
        cases i with
        | zero =>
          have HM := Lib.hid (show midL S T x 0 = insT x S ++ T from midL_last HWS.out (by omega) HG.out (fun h => absurd h (by omega)))
          go_wp2_with fail
          refine wp_region_plan (fun w' => Below wr.heap.size wr w') [(0, true), (1, true), (2, true), (3, true), (4, true), (5, true), (6, true), (7, true), (8, true), (9, true), (10, true), (11, true), (12, true), (13, true), (14, true), (15, true), (16, true)] (by kernel_rfl) (by kernel_rfl) ((Below.refl _ _).drew) ?_
          iterate 4
            refine wpPlan_read (by rfl) (by rfl) (fun R hR => ?_)
            apply Exists.intro
            refine ⟨fun w' hS' => ?_, ?_⟩
            · go_simp
              exact ⟨rfl, rfl⟩
            go_simp
            refine hR _ ?_
            clear hR R
          refine wpPlan_skip (by rfl) (by rfl) ?_
          try go_simp
          refine wpPlan_skip (by rfl) (by rfl) ?_
          try go_simp
          refine wpPlan_skip (by rfl) (by rfl) ?_
          try go_simp
          refine wpPlan_skip (by rfl) (by rfl) ?_
          try go_simp
          refine wpPlan_skip (by rfl) (by rfl) ?_
          try go_simp
          refine wpPlan_skip (by rfl) (by rfl) ?_
          try go_simp
          refine wpPlan_skip (by rfl) (by rfl) ?_
          try go_simp
          refine wpPlan_skip (by rfl) (by rfl) ?_
          try go_simp
          refine wpPlan_skip (by rfl) (by rfl) ?_
          try go_simp
          refine wpPlan_skip (by rfl) (by rfl) ?_
          try go_simp
          refine wpPlan_skip (by rfl) (by rfl) ?_
          try go_simp
          refine wpPlan_skip (by rfl) (by rfl) ?_
          try go_simp
          iterate 1
            refine wpPlan_read (by rfl) (by rfl) (fun R hR => ?_)
            apply Exists.intro
            refine ⟨fun w' hS' => ?_, ?_⟩
            · go_simp
              exact ⟨rfl, rfl⟩
            go_simp
            refine hR _ ?_
            clear hR R
          refine wpPlan_nil ?_
          have O3 : Hid (OwnE lbE base wr.drew (.slice (some ⟨g, 0, none⟩) l.length c) (midL S T x 0)) := Lib.hid OI.out.drew
          have T3 : Hid (Touch (fun k => k = g) w wr.drew) := Lib.hid TI.out.drew
          rw [HNX.out _ HM.out] at O3
          go_wp2_with fail
          go_roundg (l.length - (k + 1))
          case measure => have := HK.out; omega
          case rel => exact ⟨k + 1, by omega, by omega, by omega, by go_num, by rw [HT.out]; exact O3, T3⟩
        | succ m =>
          have hm : m < S.length := by omega
          have hlen := midL_len S T x (m + 1)
          have q1 := OI.out.two (j := m + 1) (by omega)
          have q2 := OI.out.two (j := m) (by omega)
          rw [midL_at S T x (by omega)] at q1
          rw [midL_ahead S T x hm] at q2
          have HLO := Lib.hid (show ∀ (h : lessT x.1 S[m].1 = false), midL S T x (m + 1) = insT x S ++ T from fun h => midL_last HWS.out (by omega) HG.out (fun _ => h))
          have HST := Lib.hid (midL_step S T x hm)
          have HGN : Hid (lessT x.1 S[m].1 = true → ∀ n (h : n < S.length), m ≤ n → lessT x.1 S[n].1 = true) := Lib.hid (fun h n hn hmn => by
            rcases Nat.lt_or_ge m n with h1 | h1
            · exact HG.out n hn (by omega)
            · obtain rfl : n = m := by omega
              exact h)
          obtain ⟨y, hy⟩ : ∃ y, S[m] = y := ⟨_, rfl⟩
          rw [hy] at q2 HLO HST HGN
          have Q1 := Lib.hid q1.1
          have Q2 := Lib.hid q1.2
          have Q3 := Lib.hid q2.1
          have Q4 := Lib.hid q2.2
          have HGL : g < wr.heap.size := by omega
          have EW := Lib.hid (IntWalk.i64_in (m : Int) (by omega))
          have hml : m < l.length := by omega
          have hml1 : m + 1 < l.length := by omega
          have hI0 : 0 ≤ (m : Int) + 1 := by omega
          have hI1 : (m : Int) + 1 < (l.length : Int) := by omega
          have hI2 : (m : Int) < (l.length : Int) := by omega
          clear q1 q2 hy
          by_cases hless : lessT x.1 y.1 = true
          · have hcmp : cmpT x.1 y.1 < 0 := (cmpT_neg _ _).2 hless
            go_wp2_with fail
            refine wp_region_plan (fun w' => Below wr.heap.size wr w') [(0, true), (1, true), (2, true), (3, true), (4, true), (5, true), (6, true), (7, true), (8, true), (9, true), (10, true), (11, true), (12, true), (13, true), (14, false), (15, true), (16, true)] (by kernel_rfl) (by kernel_rfl) ((Below.refl _ _).drew) ?_
            iterate 14
              refine wpPlan_read (by rfl) (by rfl) (fun R hR => ?_)
              apply Exists.intro
              refine ⟨fun w' hS' => ?_, ?_⟩
              · have k0 := (hS'.cell (p := ⟨g, (m + 1) * 2, none⟩) HGL).trans Q1.out
                have k1 := (hS'.cell (p := ⟨g, (m + 1) * 2 + 1, none⟩) HGL).trans Q2.out
                have k2 := (hS'.cell (p := ⟨g, m * 2, none⟩) HGL).trans Q3.out
                have k3 := (hS'.cell (p := ⟨g, m * 2 + 1, none⟩) HGL).trans Q4.out
                have ew := EW.out
                go_simp
                exact ⟨rfl, rfl⟩
              go_simp
              refine hR _ ?_
              clear hR R
            refine wpPlan_do (by rfl) (by rfl) (fun K hK => ?_)
            go_simp
            refine (byName_any x y _).mono ?_
            rintro e w3 ⟨rfl, hb3⟩
            have hbw3 : Below wr.heap.size wr w3 := (Below.refl _ _).drew.trans hb3
            refine hK _ _ (hbw3) ?_
            clear hK K
            iterate 2
              refine wpPlan_read (by rfl) (by rfl) (fun R hR => ?_)
              apply Exists.intro
              refine ⟨fun w' hS' => ?_, ?_⟩
              · have k0 := (hS'.cell (p := ⟨g, (m + 1) * 2, none⟩) HGL).trans Q1.out
                have k1 := (hS'.cell (p := ⟨g, (m + 1) * 2 + 1, none⟩) HGL).trans Q2.out
                have k2 := (hS'.cell (p := ⟨g, m * 2, none⟩) HGL).trans Q3.out
                have k3 := (hS'.cell (p := ⟨g, m * 2 + 1, none⟩) HGL).trans Q4.out
                have ew := EW.out
                go_simp
                exact ⟨rfl, rfl⟩
              go_simp
              refine hR _ ?_
              clear hR R
            refine wpPlan_nil ?_
            clear hcmp
            go_wp2_with fail
            have O3 : Hid (OwnE lbE base w3 (.slice (some ⟨g, 0, none⟩) l.length c) (midL S T x (m + 1))) := Lib.hid (OI.out.keep hbw3)
            have T3 : Hid (Touch (fun k => k = g) w w3) := Lib.hid (touch_of hbw3 TI.out)
            have r1 := (hbw3.cell (p := ⟨g, (m + 1) * 2, none⟩) HGL).trans Q1.out
            have r2 := (hbw3.cell (p := ⟨g, (m + 1) * 2 + 1, none⟩) HGL).trans Q2.out
            have r3 := (hbw3.cell (p := ⟨g, m * 2, none⟩) HGL).trans Q3.out
            have r4 := (hbw3.cell (p := ⟨g, m * 2 + 1, none⟩) HGL).trans Q4.out
            have HGL3 : g < w3.heap.size := Nat.lt_of_lt_of_le HGL hbw3.size
            have R1 := Lib.hid r1
            have R2 := Lib.hid r2
            have R3 := Lib.hid r3
            have R4 := Lib.hid r4
            have f1 := Lib.hid (O3.out.frozenAt ((m + 1) * 2))
            have f2 := Lib.hid (O3.out.frozenAt ((m + 1) * 2 + 1))
            have hml2 : m + 1 < (midL S T x (m + 1)).length := by omega
            have hml3 : m < ((midL S T x (m + 1)).set (m + 1) y).length := by rw [List.length_set]; omega
            have O5 : Hid (OwnE lbE base ((w3.setCell ⟨g, (m + 1) * 2, none⟩ (.string (bsOf y.1))).setCell ⟨g, (m + 1) * 2 + 1, none⟩ (.string (bsOf y.2))) (.slice (some ⟨g, 0, none⟩) l.length c) ((midL S T x (m + 1)).set (m + 1) y)) := Lib.hid (OwnE.set_ O3.out (m + 1) hml2 y)
            have T5 : Hid (Touch (fun k => k = g) w ((w3.setCell ⟨g, (m + 1) * 2, none⟩ (.string (bsOf y.1))).setCell ⟨g, (m + 1) * 2 + 1, none⟩ (.string (bsOf y.2)))) := Lib.hid (((T3.out).setCell (p := ⟨g, (m + 1) * 2, none⟩) (.inl rfl) _).setCell (p := ⟨g, (m + 1) * 2 + 1, none⟩) (.inl rfl) _)
            clear r1 r2 r3 r4 OI TI hbw3
            have ew := EW.out
            refine wp_region_planS (fun w' => Below w3.heap.size w3 w') 15 [(0, 1), (1, 1), (2, 2), (3, 2), (4, 2), (5, 1), (6, 1), (7, 1), (8, 1), (9, 1), (10, 2), (11, 2), (12, 2), (13, 1), (14, 1), (15, 0), (16, 2), (17, 0)] (by kernel_rfl) (by kernel_rfl) ((Below.refl _ _).drew) ?_
            iterate 2
              refine wpPlanS_read (by rfl) (by rfl) (fun R hR => ?_)
              apply Exists.intro
              refine ⟨fun w' hS' => ?_, ?_⟩
              · have k0 := (hS'.cell (p := ⟨g, (m + 1) * 2, none⟩) HGL3).trans R1.out
                have k1 := (hS'.cell (p := ⟨g, (m + 1) * 2 + 1, none⟩) HGL3).trans R2.out
                have k2 := (hS'.cell (p := ⟨g, m * 2, none⟩) HGL3).trans R3.out
                have k3 := (hS'.cell (p := ⟨g, m * 2 + 1, none⟩) HGL3).trans R4.out
                go_simp
                exact ⟨rfl, rfl⟩
              go_simp
              refine hR _ ?_
              clear hR R
            iterate 3
              refine wpPlanS_pure (by rfl) (by rfl) (fun R hR => ?_)
              apply Exists.intro
              refine ⟨fun w' => ?_, ?_⟩
              · go_simp
                exact ⟨rfl, rfl⟩
              go_simp
              refine hR _ ?_
              clear hR R
            iterate 5
              refine wpPlanS_read (by rfl) (by rfl) (fun R hR => ?_)
              apply Exists.intro
              refine ⟨fun w' hS' => ?_, ?_⟩
              · have k0 := (hS'.cell (p := ⟨g, (m + 1) * 2, none⟩) HGL3).trans R1.out
                have k1 := (hS'.cell (p := ⟨g, (m + 1) * 2 + 1, none⟩) HGL3).trans R2.out
                have k2 := (hS'.cell (p := ⟨g, m * 2, none⟩) HGL3).trans R3.out
                have k3 := (hS'.cell (p := ⟨g, m * 2 + 1, none⟩) HGL3).trans R4.out
                go_simp
                exact ⟨rfl, rfl⟩
              go_simp
              refine hR _ ?_
              clear hR R
            iterate 3
              refine wpPlanS_pure (by rfl) (by rfl) (fun R hR => ?_)
              apply Exists.intro
              refine ⟨fun w' => ?_, ?_⟩
              · go_simp
                exact ⟨rfl, rfl⟩
              go_simp
              refine hR _ ?_
              clear hR R
            iterate 2
              refine wpPlanS_read (by rfl) (by rfl) (fun R hR => ?_)
              apply Exists.intro
              refine ⟨fun w' hS' => ?_, ?_⟩
              · have k0 := (hS'.cell (p := ⟨g, (m + 1) * 2, none⟩) HGL3).trans R1.out
                have k1 := (hS'.cell (p := ⟨g, (m + 1) * 2 + 1, none⟩) HGL3).trans R2.out
                have k2 := (hS'.cell (p := ⟨g, m * 2, none⟩) HGL3).trans R3.out
                have k3 := (hS'.cell (p := ⟨g, m * 2 + 1, none⟩) HGL3).trans R4.out
                go_simp
                exact ⟨rfl, rfl⟩
              go_simp
              refine hR _ ?_
              clear hR R
            refine wpPlanS_end (by rfl) (by rfl) (by rfl) (fun K hK => ?_)
            have k0 := R1.out
            have k1 := R2.out
            have k2 := f1.out
            have k3 := f2.out
            go_simp
            clear k0 k1 k2 k3
            refine hK _ _ ?_
            clear hK K
            iterate 1
              refine wpPlanS_pure (by rfl) (by rfl) (fun R hR => ?_)
              apply Exists.intro
              refine ⟨fun w' => ?_, ?_⟩
              · go_simp
                exact ⟨rfl, rfl⟩
              go_simp
              refine hR _ ?_
              clear hR R
            refine wpPlanS_end (by rfl) (by rfl) (by rfl) (fun K hK => ?_)
            generalize (w3.setCell ⟨g, (m + 1) * 2, none⟩ (.string (bsOf y.1))).setCell ⟨g, (m + 1) * 2 + 1, none⟩ (.string (bsOf y.2)) = v5 at O5 T5 ⊢
            obtain ⟨k0, k1⟩ := O5.out.two (j := m) hml3
            have k2 := O5.out.frozenAt (m * 2)
            have k3 := O5.out.frozenAt (m * 2 + 1)
            go_simp
            clear k0 k1 k2 k3
            refine hK _ _ ?_
            clear hK K
            refine wpPlanS_nil ?_
            have O7 : Hid (OwnE lbE base ((v5.setCell ⟨g, m * 2, none⟩ (.string (bsOf x.1))).setCell ⟨g, m * 2 + 1, none⟩ (.string (bsOf x.2))) (.slice (some ⟨g, 0, none⟩) l.length c) (((midL S T x (m + 1)).set (m + 1) y).set m x)) := Lib.hid (OwnE.set_ O5.out m hml3 x)
            have T7 : Hid (Touch (fun k => k = g) w ((v5.setCell ⟨g, m * 2, none⟩ (.string (bsOf x.1))).setCell ⟨g, m * 2 + 1, none⟩ (.string (bsOf x.2)))) := Lib.hid (((T5.out).setCell (p := ⟨g, m * 2, none⟩) (.inl rfl) _).setCell (p := ⟨g, m * 2 + 1, none⟩) (.inl rfl) _)
            rw [HST.out] at O7
            go_wp2_with fail
            clear ew
            go_roundg m
            case measure => have := HQ.out; omega
            case rel => exact ⟨m, rfl, by omega, by go_num, Lib.hid O7.out.drew, Lib.hid (HGN.out hless), Lib.hid T7.out.drew⟩
          · have hcmp : ¬ cmpT x.1 y.1 < 0 := fun h => hless ((cmpT_neg _ _).1 h)
            have hless' : lessT x.1 y.1 = false := by simpa using hless
            have HM := Lib.hid (HLO.out hless')
            clear hless hless'
            go_wp2_with fail
            refine wp_region_plan (fun w' => Below wr.heap.size wr w') [(0, true), (1, true), (2, true), (3, true), (4, true), (5, true), (6, true), (7, true), (8, true), (9, true), (10, true), (11, true), (12, true), (13, true), (14, false), (15, true), (16, true)] (by kernel_rfl) (by kernel_rfl) ((Below.refl _ _).drew) ?_
            iterate 14
              refine wpPlan_read (by rfl) (by rfl) (fun R hR => ?_)
              apply Exists.intro
              refine ⟨fun w' hS' => ?_, ?_⟩
              · have k0 := (hS'.cell (p := ⟨g, (m + 1) * 2, none⟩) HGL).trans Q1.out
                have k1 := (hS'.cell (p := ⟨g, (m + 1) * 2 + 1, none⟩) HGL).trans Q2.out
                have k2 := (hS'.cell (p := ⟨g, m * 2, none⟩) HGL).trans Q3.out
                have k3 := (hS'.cell (p := ⟨g, m * 2 + 1, none⟩) HGL).trans Q4.out
                have ew := EW.out
                go_simp
                exact ⟨rfl, rfl⟩
              go_simp
              refine hR _ ?_
              clear hR R
            refine wpPlan_do (by rfl) (by rfl) (fun K hK => ?_)
            go_simp
            refine (byName_any x y _).mono ?_
            rintro e w3 ⟨rfl, hb3⟩
            have hbw3 : Below wr.heap.size wr w3 := (Below.refl _ _).drew.trans hb3
            refine hK _ _ (hbw3) ?_
            clear hK K
            iterate 2
              refine wpPlan_read (by rfl) (by rfl) (fun R hR => ?_)
              apply Exists.intro
              refine ⟨fun w' hS' => ?_, ?_⟩
              · have k0 := (hS'.cell (p := ⟨g, (m + 1) * 2, none⟩) HGL).trans Q1.out
                have k1 := (hS'.cell (p := ⟨g, (m + 1) * 2 + 1, none⟩) HGL).trans Q2.out
                have k2 := (hS'.cell (p := ⟨g, m * 2, none⟩) HGL).trans Q3.out
                have k3 := (hS'.cell (p := ⟨g, m * 2 + 1, none⟩) HGL).trans Q4.out
                have ew := EW.out
                go_simp
                exact ⟨rfl, rfl⟩
              go_simp
              refine hR _ ?_
              clear hR R
            refine wpPlan_nil ?_
            have O3 : Hid (OwnE lbE base w3 (.slice (some ⟨g, 0, none⟩) l.length c) (midL S T x (m + 1))) := Lib.hid (OI.out.keep hbw3)
            have T3 : Hid (Touch (fun k => k = g) w w3) := Lib.hid (touch_of hbw3 TI.out)
            rw [HNX.out _ HM.out] at O3
            go_wp2_with fail
            go_roundg (l.length - (k + 1))
            case measure => have := HK.out; omega
            case rel => exact ⟨k + 1, by omega, by omega, by omega, by go_num, by rw [HT.out]; exact O3, T3⟩
    · have hE : Hid (srtT (l.take k) ++ l.drop k = srtT l) := Lib.hid (by rw [List.take_of_length_le (by omega), List.drop_of_length_le (by omega), List.append_nil])
      go_wp2_with fail
      go_end0
      exact ⟨rfl, by rw [← hE.out]; exact OR.out, TR.out⟩
end Go.Proofs.YtmfocgaojbebgaaDoor
