/- The reference's Right; Get of both; Same and Text of the reference. Condition: lengths that are ints; a text of a set. -/
import Derived.Test.YtmfocgaojbebgaaDoorLbC
import Derived.Laws.StructEq
import Derived.Laws.Concat
namespace Go.Proofs.YtmfocgaojbebgaaDoor
open Go.RowKit

def okLb (l : List Lb) : Prop := ∀ x ∈ l, x.1.length ≤ 9223372036854775807 ∧ x.2.length ≤ 9223372036854775807

set_option maxRecDepth 100000 in
set_option maxHeartbeats 4000000 in
theorem rRight_any (v : Value) (l : List Lb) (w : World) (h : RdE lbE w v l) (ho : okLb l) : Calls Tryd.prog 20 #[v] w fun e w' => e = .returned (.bool (rightL l)) ∧ Below w.heap.size w w' := by
  obtain ⟨A, c, rfl, hn, hc, hp⟩ := h.form
  have HP := Lib.hid hp
  have HO := Lib.hid ho
  clear hp h ho
  by_cases h8 : l.length ≤ 8
  · have h8' : ¬ (l.length : Int) > 8 := by omega
    go_enter Tryd.func20, Tryd.ntmps20
    go_wp2_with fail
    go_loopg [3] l.length (fun q i wr => ∃ j : Nat, q = l.length - j ∧ j ≤ l.length ∧ i = .int .i64 j ∧ Hid (∀ k (h : k < l.length), k < j → StepOk l k h) ∧ Below w.heap.size w wr)
    case atStart => exact ⟨0, rfl, by omega, rfl, Lib.hid (fun k _ h => absurd h (by omega)), by (repeat' (first | (with_reducible exact Below.refl _ _) | (with_reducible refine Below.alloc ?_ ?_ _) | (with_reducible refine Below.drew ?_) | (with_reducible refine below_drewN ?_ _) | (with_reducible refine Below.setCell ?_ ?_ _) | (with_reducible refine below_of (by assumption) ?_ ?_) | go_size))⟩
    case round =>
      obtain ⟨j, hk, hj, rfl, HS, hb⟩ := hrel
      have HK := Lib.hid hk
      have hz := hb.size
      clear hk
      by_cases hlt : j < l.length
      · cases j with
        | zero =>
          obtain ⟨g, off, rfl, hg, c0, c1⟩ := (HP.out.keep hb).lb hlt
          simp only [Nat.zero_mul, Nat.add_zero] at c0 c1
          obtain ⟨l1, l2⟩ := HO.out l[0] (List.getElem_mem hlt)
          obtain ⟨x, hx⟩ : ∃ x, l[0] = x := ⟨_, rfl⟩
          rw [hx] at c0 c1 l1 l2
          have HX := Lib.hid hx
          clear hx
          have ht := bsOf_toList x.2
          have hE : (x.2 == []) = x.2.isEmpty := by cases x.2 <;> rfl
          by_cases hl : labB x = true
          · have hp1 : nameB x.1 = true ∧ valueB x.2 = true ∧ x.2.isEmpty = false := by
              unfold labB at hl
              simp only [Bool.and_eq_true, Bool.not_eq_true'] at hl
              exact ⟨hl.1.1, hl.1.2, hl.2⟩
            obtain ⟨p1, p2, p3⟩ := hp1
            have HN : Hid (∀ k (h : k < l.length), k < 0 + 1 → StepOk l k h) := Lib.hid (fun k h hk => by
              obtain rfl : k = 0 := by omega
              exact ⟨by rw [HX.out]; exact hl, fun h0 => absurd h0 (by omega)⟩)
            clear hl
            go_wp2_with fail
            refine (rname_t x.1 _ l1).mono ?_
            rintro e w1 ⟨rfl, rfl⟩
            go_wp2_with fail
            refine (rvalue_t x.2 _ l2).mono ?_
            rintro e w1 ⟨rfl, rfl⟩
            go_wp2_with fail
            refine wp_region_plan (fun w' => Below wr.heap.size wr w') [(0, true), (1, true), (2, true), (3, true), (4, true), (5, true), (6, true), (7, true), (8, true), (9, true), (10, true), (11, true), (12, true), (13, true), (14, true), (15, true)] (by kernel_rfl) (by kernel_rfl) ((Below.refl _ _).drew) ?_
            iterate 3
              refine wpPlan_read (by rfl) (by rfl) (fun R hR => ?_)
              apply Exists.intro
              refine ⟨fun w' hS' => ?_, ?_⟩
              · go_simp
                exact ⟨rfl, rfl⟩
              go_simp
              refine hR _ ?_
              clear hR R
            refine wpPlan_skip (by rfl) (by rfl) ?_
            try go_simp
            refine wpPlan_skip (by rfl) (by rfl) ?_
            try go_simp
            refine wpPlan_skip (by rfl) (by rfl) ?_
            try go_simp
            refine wpPlan_skip (by rfl) (by rfl) ?_
            try go_simp
            refine wpPlan_skip (by rfl) (by rfl) ?_
            try go_simp
            refine wpPlan_skip (by rfl) (by rfl) ?_
            try go_simp
            refine wpPlan_skip (by rfl) (by rfl) ?_
            try go_simp
            refine wpPlan_skip (by rfl) (by rfl) ?_
            try go_simp
            refine wpPlan_skip (by rfl) (by rfl) ?_
            try go_simp
            refine wpPlan_skip (by rfl) (by rfl) ?_
            try go_simp
            refine wpPlan_skip (by rfl) (by rfl) ?_
            try go_simp
            refine wpPlan_skip (by rfl) (by rfl) ?_
            try go_simp
            iterate 1
              refine wpPlan_read (by rfl) (by rfl) (fun R hR => ?_)
              apply Exists.intro
              refine ⟨fun w' hS' => ?_, ?_⟩
              · go_simp
                exact ⟨rfl, rfl⟩
              go_simp
              refine hR _ ?_
              clear hR R
            refine wpPlan_nil ?_
            clear p1 p2 p3 hE ht c0 c1
            go_wp2_with fail
            go_roundg (l.length - (0 + 1))
            case measure => have := HK.out; omega
            case rel => exact ⟨0 + 1, rfl, by omega, by go_num, HN, hb.drew⟩
          · have HB := Lib.hid (right_bad hlt (fun h => hl (by rw [← HX.out]; exact h.1)))
            by_cases p1 : nameB x.1 = true
            · by_cases p2 : valueB x.2 = true
              · have p3 : x.2.isEmpty = true := by
                  unfold labB at hl
                  rw [p1, p2] at hl
                  simpa using hl
                clear hl
                go_wp2_with fail
                refine (rname_t x.1 _ l1).mono ?_
                rintro e w1 ⟨rfl, rfl⟩
                go_wp2_with fail
                refine (rvalue_t x.2 _ l2).mono ?_
                rintro e w1 ⟨rfl, rfl⟩
                go_wp2_with fail
                go_ret
                exact ⟨(ret_bool HB.out).symm, hb⟩
              · have p2' : valueB x.2 = false := by simpa using p2
                clear hl p2
                go_wp2_with fail
                refine (rname_t x.1 _ l1).mono ?_
                rintro e w1 ⟨rfl, rfl⟩
                go_wp2_with fail
                refine (rvalue_t x.2 _ l2).mono ?_
                rintro e w1 ⟨rfl, rfl⟩
                go_wp2_with fail
                go_ret
                exact ⟨(ret_bool HB.out).symm, hb⟩
            · have p1' : nameB x.1 = false := by simpa using p1
              clear hl p1
              go_wp2_with fail
              refine (rname_t x.1 _ l1).mono ?_
              rintro e w1 ⟨rfl, rfl⟩
              go_wp2_with fail
              go_ret
              exact ⟨(ret_bool HB.out).symm, hb⟩
        | succ m =>
          obtain ⟨g, off, rfl, hg, c9, c0, c1⟩ := (HP.out.keep hb).lb2 hlt
          obtain ⟨l1, l2⟩ := HO.out l[m + 1] (List.getElem_mem hlt)
          obtain ⟨x, hx⟩ : ∃ x, l[m + 1] = x := ⟨_, rfl⟩
          obtain ⟨y, hy⟩ : ∃ y, l[m] = y := ⟨_, rfl⟩
          rw [hx] at c0 c1 l1 l2
          rw [hy] at c9
          have HX := Lib.hid hx
          have HY := Lib.hid hy
          clear hx hy
          have hm : m < l.length := by omega
          have EW := Lib.hid (IntWalk.i64_in (m : Int) (by omega))
          have ht := bsOf_toList x.2
          have hE : (x.2 == []) = x.2.isEmpty := by cases x.2 <;> rfl
          by_cases hl : labB x = true
          · have hp1 : nameB x.1 = true ∧ valueB x.2 = true ∧ x.2.isEmpty = false := by
              unfold labB at hl
              simp only [Bool.and_eq_true, Bool.not_eq_true'] at hl
              exact ⟨hl.1.1, hl.1.2, hl.2⟩
            obtain ⟨p1, p2, p3⟩ := hp1
            have C0 := Lib.hid c0
            have C9 := Lib.hid c9
            go_wp2_with fail
            refine (rname_t x.1 _ l1).mono ?_
            rintro e w1 ⟨rfl, rfl⟩
            go_wp2_with fail
            refine (rvalue_t x.2 _ l2).mono ?_
            rintro e w1 ⟨rfl, rfl⟩
            go_wp2_with fail
            clear p1 p2 p3 hE ht c0 c1 c9
            by_cases hle : lessT y.1 x.1 = true
            · have hcmp : (Op.bytesLess (bsOf x.1).toList (bsOf y.1).toList || (bsOf x.1).toList == (bsOf y.1).toList) = false := by
                rw [bsOf_toList, bsOf_toList]
                have := lessT_turn x.1 y.1
                rw [hle] at this
                simpa [lessT] using this.symm
              have HN : Hid (∀ k (h : k < l.length), k < m + 1 + 1 → StepOk l k h) := Lib.hid (fun k h hk => by
                rcases Nat.lt_or_ge k (m + 1) with h5 | h5
                · exact HS.out k h h5
                · obtain rfl : k = m + 1 := by omega
                  exact ⟨by rw [HX.out]; exact hl, fun h0 => by
                    have : l[m + 1 - 1] = y := HY.out
                    rw [this, HX.out]; exact hle⟩)
              clear hl hle
              refine wp_region_plan (fun w' => Below wr.heap.size wr w') [(0, true), (1, true), (2, true), (3, true), (4, true), (5, true), (6, true), (7, true), (8, true), (9, true), (10, true), (11, true), (12, true), (13, true), (14, true), (15, true)] (by kernel_rfl) (by kernel_rfl) ((Below.refl _ _).drew) ?_
              iterate 16
                refine wpPlan_read (by rfl) (by rfl) (fun R hR => ?_)
                apply Exists.intro
                refine ⟨fun w' hS' => ?_, ?_⟩
                · have k0 := (hS'.cell (p := ⟨g, off + (m + 1) * 2, none⟩) hg).trans C0.out
                  have k9 := (hS'.cell (p := ⟨g, off + m * 2, none⟩) hg).trans C9.out
                  have ew := EW.out
                  go_simp
                  exact ⟨rfl, rfl⟩
                go_simp
                refine hR _ ?_
                clear hR R
              refine wpPlan_nil ?_
              clear hcmp
              go_wp2_with fail
              go_roundg (l.length - (m + 1 + 1))
              case measure => have := HK.out; omega
              case rel => exact ⟨m + 1 + 1, rfl, by omega, by go_num, HN, hb.drew⟩
            · have HB := Lib.hid (right_bad hlt (fun h => hle (by
                have h1 := h.2 (by omega)
                have h2 : l[m + 1 - 1] = y := HY.out
                rw [h2, HX.out] at h1; exact h1)))
              have hcmp : (Op.bytesLess (bsOf x.1).toList (bsOf y.1).toList || (bsOf x.1).toList == (bsOf y.1).toList) = true := by
                rw [bsOf_toList, bsOf_toList]
                have := lessT_turn x.1 y.1
                rw [(by simpa using hle : lessT y.1 x.1 = false)] at this
                have h9 := this.symm
                rw [Bool.not_eq_false'] at h9
                exact h9
              clear hl hle
              refine wp_region_plan (fun w' => Below wr.heap.size wr w') [(0, true), (1, true), (2, true), (3, true), (4, true), (5, true), (6, true), (7, true), (8, true), (9, true), (10, true), (11, true), (12, true), (13, true), (14, true), (15, true)] (by kernel_rfl) (by kernel_rfl) ((Below.refl _ _).drew) ?_
              iterate 16
                refine wpPlan_read (by rfl) (by rfl) (fun R hR => ?_)
                apply Exists.intro
                refine ⟨fun w' hS' => ?_, ?_⟩
                · have k0 := (hS'.cell (p := ⟨g, off + (m + 1) * 2, none⟩) hg).trans C0.out
                  have k9 := (hS'.cell (p := ⟨g, off + m * 2, none⟩) hg).trans C9.out
                  have ew := EW.out
                  go_simp
                  exact ⟨rfl, rfl⟩
                go_simp
                refine hR _ ?_
                clear hR R
              refine wpPlan_nil ?_
              go_wp2_with fail
              go_ret
              exact ⟨(ret_bool HB.out).symm, hb.drew⟩
          · have HB := Lib.hid (right_bad hlt (fun h => hl (by rw [← HX.out]; exact h.1)))
            by_cases p1 : nameB x.1 = true
            · by_cases p2 : valueB x.2 = true
              · have p3 : x.2.isEmpty = true := by
                  unfold labB at hl
                  rw [p1, p2] at hl
                  simpa using hl
                clear hl
                go_wp2_with fail
                refine (rname_t x.1 _ l1).mono ?_
                rintro e w1 ⟨rfl, rfl⟩
                go_wp2_with fail
                refine (rvalue_t x.2 _ l2).mono ?_
                rintro e w1 ⟨rfl, rfl⟩
                go_wp2_with fail
                go_ret
                exact ⟨(ret_bool HB.out).symm, hb⟩
              · have p2' : valueB x.2 = false := by simpa using p2
                clear hl p2
                go_wp2_with fail
                refine (rname_t x.1 _ l1).mono ?_
                rintro e w1 ⟨rfl, rfl⟩
                go_wp2_with fail
                refine (rvalue_t x.2 _ l2).mono ?_
                rintro e w1 ⟨rfl, rfl⟩
                go_wp2_with fail
                go_ret
                exact ⟨(ret_bool HB.out).symm, hb⟩
            · have p1' : nameB x.1 = false := by simpa using p1
              clear hl p1
              go_wp2_with fail
              refine (rname_t x.1 _ l1).mono ?_
              rintro e w1 ⟨rfl, rfl⟩
              go_wp2_with fail
              go_ret
              exact ⟨(ret_bool HB.out).symm, hb⟩
      · have HB : Hid (rightL l = true) := Lib.hid (by
          rw [right_is (fun k h => HS.out k h (by omega))]
          exact decide_eq_true h8)
        go_wp2_with fail
        go_ret
        exact ⟨(ret_bool HB.out).symm, hb⟩
  · have HB : Hid (rightL l = false) := Lib.hid (by unfold rightL; rw [decide_eq_false h8, Bool.and_false])
    have h8' : (l.length : Int) > 8 := by omega
    clear h8
    go_enter Tryd.func20, Tryd.ntmps20
    go_wp2_with fail
    go_ret
    exact ⟨(ret_bool HB.out).symm, by (repeat' (first | (with_reducible exact Below.refl _ _) | (with_reducible refine Below.alloc ?_ ?_ _) | (with_reducible refine Below.drew ?_) | (with_reducible refine below_drewN ?_ _) | (with_reducible refine Below.setCell ?_ ?_ _) | (with_reducible refine below_of (by assumption) ?_ ?_) | go_size))⟩

/-! ### Get -/
theorem getT_at {n : Tx} : ∀ {l : List Lb} {j : Nat} (hj : j < l.length), (∀ k (h : k < l.length), k < j → l[k].1 ≠ n) → l[j].1 = n → getT l n = l[j].2
  | x :: l, 0, _, _, h => by
    have h' : x.1 = n := h
    unfold getT
    rw [if_pos (by simp [h'])]; rfl
  | x :: l, j + 1, hj, h0, h => by
    have h1 : x.1 ≠ n := h0 0 (by simp) (by omega)
    unfold getT
    rw [if_neg (by simpa using h1)]
    exact getT_at (l := l) (by simpa using hj) (fun k hk hkj => h0 (k + 1) (by simpa using hk) (by omega)) h
theorem getT_none {n : Tx} : ∀ {l : List Lb}, (∀ k (h : k < l.length), l[k].1 ≠ n) → getT l n = []
  | [], _ => rfl
  | x :: l, h => by
    have h1 : x.1 ≠ n := h 0 (by simp)
    unfold getT
    rw [if_neg (by simpa using h1)]
    exact getT_none fun k hk => h (k + 1) (by simpa using hk)
theorem ret_str {a b : Tx} (h : a = b) : Ending.returned (.string (bsOf a)) = .returned (.string (bsOf b)) := by rw [h]

set_option maxHeartbeats 1000000 in
theorem Get_any (v : Value) (l : List Lb) (n : Tx) (w : World) (h : RdE lbE w v l) : Calls Tryd.prog 21 #[v, .string (bsOf n)] w fun e w' => e = .returned (.string (bsOf (getT l n))) ∧ Below w.heap.size w w' := by
  obtain ⟨A, c, rfl, hn, hc, hp⟩ := h.form
  have HP := Lib.hid hp
  clear hp h
  go_enter Tryd.func21, Tryd.ntmps21
  go_wp2_with fail
  go_loopg [9] l.length (fun q i wr => ∃ j : Nat, q = l.length - j ∧ j ≤ l.length ∧ i = .int .i64 j ∧ Hid (∀ k (h : k < l.length), k < j → l[k].1 ≠ n) ∧ Below w.heap.size w wr)
  case atStart => exact ⟨0, rfl, by omega, rfl, Lib.hid (fun k _ h => absurd h (by omega)), by (repeat' (first | (with_reducible exact Below.refl _ _) | (with_reducible refine Below.alloc ?_ ?_ _) | (with_reducible refine Below.drew ?_) | (with_reducible refine below_drewN ?_ _) | (with_reducible refine Below.setCell ?_ ?_ _) | (with_reducible refine below_of (by assumption) ?_ ?_) | go_size))⟩
  case round =>
    obtain ⟨j, hk, hj, rfl, HS, hb⟩ := hrel
    have HK := Lib.hid hk
    have hz := hb.size
    clear hk
    by_cases hlt : j < l.length
    · obtain ⟨g, off, rfl, hg, c0, c1⟩ := (HP.out.keep hb).lb hlt
      obtain ⟨x, hx⟩ : ∃ x, l[j] = x := ⟨_, rfl⟩
      rw [hx] at c0 c1
      have HX := Lib.hid hx
      clear hx
      by_cases he : x.1 = n
      · have HG : Hid (getT l n = x.2) := Lib.hid (by rw [getT_at hlt HS.out (by rw [HX.out]; exact he), HX.out])
        have hq : ((bsOf x.1).toList == (bsOf n).toList) = true := by rw [he]; simp
        clear he
        go_wp2_with fail
        go_ret
        exact ⟨(ret_str HG.out).symm, by (repeat' (first | (with_reducible exact Below.refl _ _) | (with_reducible refine Below.alloc ?_ ?_ _) | (with_reducible refine Below.drew ?_) | (with_reducible refine below_drewN ?_ _) | (with_reducible refine Below.setCell ?_ ?_ _) | (with_reducible refine below_of (by assumption) ?_ ?_) | go_size))⟩
      · have hq : ((bsOf x.1).toList == (bsOf n).toList) = false := by rw [bsOf_toList, bsOf_toList]; simpa using he
        have HN : Hid (∀ k (h : k < l.length), k < j + 1 → l[k].1 ≠ n) := Lib.hid (fun k h hk => by
          rcases Nat.lt_or_ge k j with h5 | h5
          · exact HS.out k h h5
          · obtain rfl : k = j := by omega
            rw [HX.out]; exact he)
        clear he
        go_wp2_with fail
        go_roundg (l.length - (j + 1))
        case measure => have := HK.out; omega
        case rel => exact ⟨j + 1, rfl, by omega, by go_num, HN, by (repeat' (first | (with_reducible exact Below.refl _ _) | (with_reducible refine Below.alloc ?_ ?_ _) | (with_reducible refine Below.drew ?_) | (with_reducible refine below_drewN ?_ _) | (with_reducible refine Below.setCell ?_ ?_ _) | (with_reducible refine below_of (by assumption) ?_ ?_) | go_size))⟩
    · have HG : Hid (getT l n = []) := Lib.hid (getT_none fun k h => HS.out k h (by omega))
      go_wp2_with fail
      go_ret
      exact ⟨(ret_str HG.out).symm, hb⟩
set_option maxHeartbeats 1000000 in
theorem rGet_any (v : Value) (l : List Lb) (n : Tx) (w : World) (h : RdE lbE w v l) : Calls Tryd.prog 22 #[v, .string (bsOf n)] w fun e w' => e = .returned (.string (bsOf (getT l n))) ∧ Below w.heap.size w w' := by
  obtain ⟨A, c, rfl, hn, hc, hp⟩ := h.form
  have HP := Lib.hid hp
  clear hp h
  go_enter Tryd.func22, Tryd.ntmps22
  go_wp2_with fail
  go_loopg [5] l.length (fun q i wr => ∃ j : Nat, q = l.length - j ∧ j ≤ l.length ∧ i = .int .i64 j ∧ Hid (∀ k (h : k < l.length), k < j → l[k].1 ≠ n) ∧ Below w.heap.size w wr)
  case atStart => exact ⟨0, rfl, by omega, rfl, Lib.hid (fun k _ h => absurd h (by omega)), by (repeat' (first | (with_reducible exact Below.refl _ _) | (with_reducible refine Below.alloc ?_ ?_ _) | (with_reducible refine Below.drew ?_) | (with_reducible refine below_drewN ?_ _) | (with_reducible refine Below.setCell ?_ ?_ _) | (with_reducible refine below_of (by assumption) ?_ ?_) | go_size))⟩
  case round =>
    obtain ⟨j, hk, hj, rfl, HS, hb⟩ := hrel
    have HK := Lib.hid hk
    have hz := hb.size
    clear hk
    by_cases hlt : j < l.length
    · obtain ⟨g, off, rfl, hg, c0, c1⟩ := (HP.out.keep hb).lb hlt
      obtain ⟨x, hx⟩ : ∃ x, l[j] = x := ⟨_, rfl⟩
      rw [hx] at c0 c1
      have HX := Lib.hid hx
      clear hx
      by_cases he : x.1 = n
      · have HG : Hid (getT l n = x.2) := Lib.hid (by rw [getT_at hlt HS.out (by rw [HX.out]; exact he), HX.out])
        have hq : ((bsOf x.1).toList == (bsOf n).toList) = true := by rw [he]; simp
        clear he
        go_wp2_with fail
        go_ret
        exact ⟨(ret_str HG.out).symm, by (repeat' (first | (with_reducible exact Below.refl _ _) | (with_reducible refine Below.alloc ?_ ?_ _) | (with_reducible refine Below.drew ?_) | (with_reducible refine below_drewN ?_ _) | (with_reducible refine Below.setCell ?_ ?_ _) | (with_reducible refine below_of (by assumption) ?_ ?_) | go_size))⟩
      · have hq : ((bsOf x.1).toList == (bsOf n).toList) = false := by rw [bsOf_toList, bsOf_toList]; simpa using he
        have HN : Hid (∀ k (h : k < l.length), k < j + 1 → l[k].1 ≠ n) := Lib.hid (fun k h hk => by
          rcases Nat.lt_or_ge k j with h5 | h5
          · exact HS.out k h h5
          · obtain rfl : k = j := by omega
            rw [HX.out]; exact he)
        clear he
        go_wp2_with fail
        go_roundg (l.length - (j + 1))
        case measure => have := HK.out; omega
        case rel => exact ⟨j + 1, rfl, by omega, by go_num, HN, by (repeat' (first | (with_reducible exact Below.refl _ _) | (with_reducible refine Below.alloc ?_ ?_ _) | (with_reducible refine Below.drew ?_) | (with_reducible refine below_drewN ?_ _) | (with_reducible refine Below.setCell ?_ ?_ _) | (with_reducible refine below_of (by assumption) ?_ ?_) | go_size))⟩
    · have HG : Hid (getT l n = []) := Lib.hid (getT_none fun k h => HS.out k h (by omega))
      go_wp2_with fail
      go_ret
      exact ⟨(ret_str HG.out).symm, hb⟩
/-! ### Same, Text of the reference -/
set_option maxHeartbeats 1000000 in
theorem lsame_any (u v : Value) (l k : List Lb) (w : World) (h : RdE lbE w u l) (h' : RdE lbE w v k) :
    Calls Tryd.prog 12 #[u, v] w fun e w' => e = .returned (.bool (decide (l = k))) ∧ Below w.heap.size w w' := by
  obtain ⟨A, c, rfl, hn, hc, hp⟩ := h.form
  obtain ⟨A', c', rfl, hn', hc', hp'⟩ := h'.form
  have HP := Lib.hid hp
  have HP' := Lib.hid hp'
  clear hp h hp' h'
  by_cases hl : l.length = k.length
  · have hlb : ((l.length : Int) != (k.length : Int)) = false := by simp; omega
    have HL := Lib.hid hl
    clear hl
    go_enter Tryd.func12, Tryd.ntmps12
    go_wp2_with fail
    go_loopg [5] l.length (fun q i wr => ∃ j : Nat, q = l.length - j ∧ j ≤ l.length ∧ i = .int .i64 j ∧ Hid (l.take j = k.take j) ∧ Below w.heap.size w wr)
    case atStart => exact ⟨0, rfl, by omega, rfl, rfl, by (repeat' (first | (with_reducible exact Below.refl _ _) | (with_reducible refine Below.alloc ?_ ?_ _) | (with_reducible refine Below.drew ?_) | (with_reducible refine below_drewN ?_ _) | (with_reducible refine Below.setCell ?_ ?_ _) | (with_reducible refine below_of (by assumption) ?_ ?_) | go_size))⟩
    case round =>
      obtain ⟨j, hk, hj, rfl, hs, hb⟩ := hrel
      have HK := Lib.hid hk
      have hz := hb.size
      clear hk
      by_cases hlt : j < l.length
      · have hlt' : j < k.length := by have := HL.out; omega
        obtain ⟨g, off, rfl, hg, c0, c1⟩ := (HP.out.keep hb).lb hlt
        obtain ⟨g', off', rfl, hg', c0', c1'⟩ := (HP'.out.keep hb).lb hlt'
        by_cases he : l[j] = k[j]
        · rw [← he] at c0' c1'
          have HN : Hid (l.take (j + 1) = k.take (j + 1)) := by
            show _ = _
            rw [List.take_succ_eq_append_getElem hlt, List.take_succ_eq_append_getElem hlt', hs.out, he]
          clear he
          go_wp2_with fail
          go_quiet (fail)
          go_wp2_with fail
          go_roundg (l.length - (j + 1))
          case measure => have := HK.out; omega
          case rel => exact ⟨j + 1, rfl, by omega, by go_num, HN, by (repeat' (first | (with_reducible exact Below.refl _ _) | (with_reducible refine Below.alloc ?_ ?_ _) | (with_reducible refine Below.drew ?_) | (with_reducible refine below_drewN ?_ _) | (with_reducible refine Below.setCell ?_ ?_ _) | (with_reducible refine below_of (by assumption) ?_ ?_) | go_size))⟩
        · have hne : ¬ l = k := fun e => he (by subst e; rfl)
          have HNE := Lib.hid hne
          clear hne
          by_cases h0 : l[j].1 = k[j].1
          · have h1 : l[j].2 ≠ k[j].2 := fun h => he (Prod.ext h0 h)
            rw [← h0] at c0'
            have q1 : ((bsOf l[j].2).toList == (bsOf k[j].2).toList) = false := by rw [bsOf_toList, bsOf_toList]; simpa using h1
            have q2 : (bsOf l[j].2 == bsOf k[j].2) = false := by rw [beq_toListBytes]; exact q1
            clear he h0 h1
            go_wp2_with fail
            go_quiet (fail)
            go_wp2_with fail
            go_ret
            exact ⟨ret_bool (decide_eq_false HNE.out).symm, by (repeat' (first | (with_reducible exact Below.refl _ _) | (with_reducible refine Below.alloc ?_ ?_ _) | (with_reducible refine Below.drew ?_) | (with_reducible refine below_drewN ?_ _) | (with_reducible refine Below.setCell ?_ ?_ _) | (with_reducible refine below_of (by assumption) ?_ ?_) | go_size))⟩
          · have q1 : ((bsOf l[j].1).toList == (bsOf k[j].1).toList) = false := by rw [bsOf_toList, bsOf_toList]; simpa using h0
            have q2 : (bsOf l[j].1 == bsOf k[j].1) = false := by rw [beq_toListBytes]; exact q1
            clear he h0
            go_wp2_with fail
            go_quiet (fail)
            go_wp2_with fail
            go_ret
            exact ⟨ret_bool (decide_eq_false HNE.out).symm, by (repeat' (first | (with_reducible exact Below.refl _ _) | (with_reducible refine Below.alloc ?_ ?_ _) | (with_reducible refine Below.drew ?_) | (with_reducible refine below_drewN ?_ _) | (with_reducible refine Below.setCell ?_ ?_ _) | (with_reducible refine below_of (by assumption) ?_ ?_) | go_size))⟩
      · have HE : Hid (l = k) := by
          show _ = _
          have h1 := hs.out
          have h2 := HL.out
          rw [List.take_of_length_le (by omega), List.take_of_length_le (by omega)] at h1
          exact h1
        go_wp2_with fail
        go_ret
        exact ⟨ret_bool (decide_eq_true HE.out).symm, hb⟩
  · have hlb : ((l.length : Int) != (k.length : Int)) = true := by simp; omega
    have HB : Hid (decide (l = k) = false) := Lib.hid (decide_eq_false (fun e => hl (by rw [e])))
    clear hl
    go_enter Tryd.func12, Tryd.ntmps12
    go_wp2_with fail
    go_ret
    exact ⟨(ret_bool HB.out).symm, by (repeat' (first | (with_reducible exact Below.refl _ _) | (with_reducible refine Below.alloc ?_ ?_ _) | (with_reducible refine Below.drew ?_) | (with_reducible refine below_drewN ?_ _) | (with_reducible refine Below.setCell ?_ ?_ _) | (with_reducible refine below_of (by assumption) ?_ ?_) | go_size))⟩

theorem text_take {l : List Lb} {j : Nat} (hj : j < l.length) : textT (l.take (j + 1)) = (if 0 < j then textT (l.take j) ++ [44] else []) ++ (l[j].1 ++ ([61] ++ l[j].2)) := by
  rw [List.take_succ_eq_append_getElem hj]
  by_cases h : 0 < j
  · rw [textT_snoc _ _ (by intro e; have h2 : (l.take j).length = j := by { rw [List.length_take]; omega }; rw [e] at h2; exact absurd h2 (by simp; omega)), if_pos h]
    simp [itemT]
  · obtain rfl : j = 0 := by omega
    simp [textT, itemT]
theorem lab_len {x : Lb} (h : labB x = true) : x.1.length ≤ 16 ∧ x.2.length ≤ 32 := by
  unfold labB nameB valueB at h
  simp only [Bool.and_eq_true, decide_eq_true_eq] at h
  exact ⟨h.1.1.1.2, h.1.2.2⟩
theorem text_len {l : List Lb} (h : l.all labB = true) : ∀ j, j ≤ l.length → (textT (l.take j)).length ≤ 50 * j := by
  intro j
  induction j with
  | zero => intro _; simp [textT]
  | succ j ih =>
    intro hj
    have h1 := ih (by omega)
    have h2 := lab_len (List.all_eq_true.1 h _ (List.getElem_mem (show j < l.length by omega)))
    rw [text_take (by omega)]
    split <;> simp <;> omega
set_option maxRecDepth 100000 in
set_option maxHeartbeats 2000000 in
theorem rText_any (v : Value) (l : List Lb) (w : World) (h : RdE lbE w v l) (hr : rightL l = true) : Calls Tryd.prog 14 #[v] w fun e w' => e = .returned (.string (bsOf (textT l))) ∧ Below w.heap.size w w' := by
  obtain ⟨A, c, rfl, hn, hc, hp⟩ := h.form
  have HP := Lib.hid hp
  have hr' := hr
  unfold rightL at hr'
  simp only [Bool.and_eq_true, decide_eq_true_eq] at hr'
  have HA := Lib.hid hr'.1.1
  have h8 := hr'.2
  clear hp h hr hr'
  go_enter Tryd.func14, Tryd.ntmps14
  go_wp2_with fail
  go_loopg [3, 4] l.length (fun q s i wr => ∃ j : Nat, q = l.length - j ∧ j ≤ l.length ∧ s = .string (bsOf (textT (l.take j))) ∧ i = .int .i64 j ∧ Below w.heap.size w wr)
  case atStart => exact ⟨0, rfl, by omega, rfl, rfl, by (repeat' (first | (with_reducible exact Below.refl _ _) | (with_reducible refine Below.alloc ?_ ?_ _) | (with_reducible refine Below.drew ?_) | (with_reducible refine below_drewN ?_ _) | (with_reducible refine Below.setCell ?_ ?_ _) | (with_reducible refine below_of (by assumption) ?_ ?_) | go_size))⟩
  case round =>
    obtain ⟨j, hk, hj, rfl, rfl, hb⟩ := hrel
    have HK := Lib.hid hk
    have hz := hb.size
    clear hk
    by_cases hlt : j < l.length
    · obtain ⟨g, off, rfl, hg, c0, c1⟩ := (HP.out.keep hb).lb hlt
      have hlen := text_len HA.out j (by omega)
      have hx := lab_len (List.all_eq_true.1 HA.out _ (List.getElem_mem hlt))
      have HT := Lib.hid (text_take hlt)
      obtain ⟨x, hxx⟩ : ∃ x, l[j] = x := ⟨_, rfl⟩
      rw [hxx] at c0 c1 hx HT
      have ap := bsOf_append
      have sz := bsOf_size
      have e44 : (⟨#[44]⟩ : ByteArray) = bsOf [44] := rfl
      have e61 : (⟨#[61]⟩ : ByteArray) = bsOf [61] := rfl
      have HTE : Hid (j = 0 → textT (l.take j) = []) := Lib.hid (fun h => by subst h; rfl)
      obtain ⟨t, ht⟩ : ∃ t, textT (l.take j) = t := ⟨_, rfl⟩
      rw [ht] at hlen HT HTE
      obtain ⟨h1, h2⟩ := hx
      rw [ht]
      clear hxx ht
      by_cases h0 : 0 < j
      · go_wp2_with fail
        go_quiet (fail)
        clear ap sz e44 e61
        go_wp2_with fail
        go_roundg (l.length - (j + 1))
        case measure => have := HK.out; omega
        case rel => exact ⟨j + 1, rfl, by omega, by rw [HT.out, if_pos h0]; simp [List.append_assoc], by go_num, by (repeat' (first | (with_reducible exact Below.refl _ _) | (with_reducible refine Below.alloc ?_ ?_ _) | (with_reducible refine Below.drew ?_) | (with_reducible refine below_drewN ?_ _) | (with_reducible refine Below.setCell ?_ ?_ _) | (with_reducible refine below_of (by assumption) ?_ ?_) | go_size))⟩
      · have h0' : ¬ (j : Int) > 0 := by omega
        have hj0 : Hid (j = 0) := Lib.hid (by omega)
        go_wp2_with fail
        go_quiet (fail)
        clear ap sz e44 e61
        go_wp2_with fail
        go_roundg (l.length - (j + 1))
        case measure => have := HK.out; omega
        case rel => exact ⟨j + 1, rfl, by omega, by rw [HT.out, if_neg h0]; have := HTE.out hj0.out; rw [this]; simp, by go_num, by (repeat' (first | (with_reducible exact Below.refl _ _) | (with_reducible refine Below.alloc ?_ ?_ _) | (with_reducible refine Below.drew ?_) | (with_reducible refine below_drewN ?_ _) | (with_reducible refine Below.setCell ?_ ?_ _) | (with_reducible refine below_of (by assumption) ?_ ?_) | go_size))⟩
    · have HE : Hid (l.take j = l) := Lib.hid (List.take_of_length_le (by omega))
      go_wp2_with fail
      go_ret
      exact ⟨ret_str (by rw [HE.out]), hb⟩
end Go.Proofs.YtmfocgaojbebgaaDoor
