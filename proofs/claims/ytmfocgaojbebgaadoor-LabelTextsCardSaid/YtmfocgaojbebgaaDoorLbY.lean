/- Same and Cmp of labels; LabelTexts' walk. No condition but the library's variable. -/
import Derived.Test.YtmfocgaojbebgaaDoorLbV
import Derived.Test.YtmfocgaojbebgaaDoorLbG
import Derived.Test.YtmfocgaojbebgaaDoorLbF
namespace Go.Proofs.YtmfocgaojbebgaaDoor
open Go.RowKit

set_option maxHeartbeats 1000000 in
theorem equal_any (u v : Value) (l k : List Lb) (w : World) (h : RdE lbE w u l) (h' : RdE lbE w v k) :
    Calls Tryd.prog 40 #[u, v] w fun e w' => e = .returned (.bool (decide (l = k))) ∧ Below w.heap.size w w' := by
  obtain ⟨A, c, rfl, hn, hc, hp⟩ := h.form
  obtain ⟨A', c', rfl, hn', hc', hp'⟩ := h'.form
  have HP := Lib.hid hp
  have HP' := Lib.hid hp'
  clear hp h hp' h'
  by_cases hl : l.length = k.length
  · have hlb : ((l.length : Int) != (k.length : Int)) = false := by simp; omega
    have HL := Lib.hid hl
    clear hl
    go_enter Tryd.func40, Tryd.ntmps40
    go_wp2_with fail
    go_loopg [5, 13] l.length (fun q _ i wr => ∃ j : Nat, q = l.length - j ∧ j ≤ l.length ∧ i = .int .i64 j ∧ Hid (l.take j = k.take j) ∧ Below w.heap.size w wr)
    case atStart => exact ⟨0, rfl, by omega, rfl, rfl, by (repeat' (first | (with_reducible exact Below.refl _ _) | (with_reducible refine Below.alloc ?_ ?_ _) | (with_reducible refine Below.drew ?_) | (with_reducible refine below_drewN ?_ _) | (with_reducible refine Below.setCell ?_ ?_ _) | (with_reducible refine below_of (by assumption) ?_ ?_) | go_size))⟩
    case round =>
      obtain ⟨j, hk, hj, rfl, hs, hb⟩ := hrel
      have HK := Lib.hid hk
      have hz := hb.size
      clear hk
      by_cases hlt : j < l.length
      · have hlt' : j < k.length := by have := HL.out; omega
        obtain ⟨g, off, rfl, hg, c0, c1⟩ := (HP.out.keep hb).lb hlt
        obtain ⟨g', off', rfl, hg', c0', c1'⟩ := (HP'.out.keep hb).lb hlt'
        by_cases he : l[j] = k[j]
        · rw [← he] at c0' c1'
          have HN : Hid (l.take (j + 1) = k.take (j + 1)) := by
            show _ = _
            rw [List.take_succ_eq_append_getElem hlt, List.take_succ_eq_append_getElem hlt', hs.out, he]
          clear he
          go_wp2_with fail
          go_quiet (fail)
          go_wp2_with fail
          go_roundg (l.length - (j + 1))
          case measure => have := HK.out; omega
          case rel => exact ⟨j + 1, rfl, by omega, by go_num, HN, by (repeat' (first | (with_reducible exact Below.refl _ _) | (with_reducible refine Below.alloc ?_ ?_ _) | (with_reducible refine Below.drew ?_) | (with_reducible refine below_drewN ?_ _) | (with_reducible refine Below.setCell ?_ ?_ _) | (with_reducible refine below_of (by assumption) ?_ ?_) | go_size))⟩
        · have hne : ¬ l = k := fun e => he (by subst e; rfl)
          have HNE := Lib.hid hne
          clear hne
          by_cases h0 : l[j].1 = k[j].1
          · have h1 : l[j].2 ≠ k[j].2 := fun h => he (Prod.ext h0 h)
            rw [← h0] at c0'
            have q1 : ((bsOf l[j].2).toList == (bsOf k[j].2).toList) = false := by rw [bsOf_toList, bsOf_toList]; simpa using h1
            have q2 : (bsOf l[j].2 == bsOf k[j].2) = false := by rw [beq_toListBytes]; exact q1
            clear he h0 h1
            go_wp2_with fail
            go_quiet (fail)
            go_wp2_with fail
            go_ret
            exact ⟨ret_bool (decide_eq_false HNE.out).symm, by (repeat' (first | (with_reducible exact Below.refl _ _) | (with_reducible refine Below.alloc ?_ ?_ _) | (with_reducible refine Below.drew ?_) | (with_reducible refine below_drewN ?_ _) | (with_reducible refine Below.setCell ?_ ?_ _) | (with_reducible refine below_of (by assumption) ?_ ?_) | go_size))⟩
          · have q1 : ((bsOf l[j].1).toList == (bsOf k[j].1).toList) = false := by rw [bsOf_toList, bsOf_toList]; simpa using h0
            have q2 : (bsOf l[j].1 == bsOf k[j].1) = false := by rw [beq_toListBytes]; exact q1
            clear he h0
            go_wp2_with fail
            go_quiet (fail)
            go_wp2_with fail
            go_ret
            exact ⟨ret_bool (decide_eq_false HNE.out).symm, by (repeat' (first | (with_reducible exact Below.refl _ _) | (with_reducible refine Below.alloc ?_ ?_ _) | (with_reducible refine Below.drew ?_) | (with_reducible refine below_drewN ?_ _) | (with_reducible refine Below.setCell ?_ ?_ _) | (with_reducible refine below_of (by assumption) ?_ ?_) | go_size))⟩
      · have HE : Hid (l = k) := by
          show _ = _
          have h1 := hs.out
          have h2 := HL.out
          rw [List.take_of_length_le (by omega), List.take_of_length_le (by omega)] at h1
          exact h1
        go_wp2_with fail
        go_ret
        exact ⟨ret_bool (decide_eq_true HE.out).symm, hb⟩
  · have hlb : ((l.length : Int) != (k.length : Int)) = true := by simp; omega
    have HB : Hid (decide (l = k) = false) := Lib.hid (decide_eq_false (fun e => hl (by rw [e])))
    clear hl
    go_enter Tryd.func40, Tryd.ntmps40
    go_wp2_with fail
    go_ret
    exact ⟨(ret_bool HB.out).symm, by (repeat' (first | (with_reducible exact Below.refl _ _) | (with_reducible refine Below.alloc ?_ ?_ _) | (with_reducible refine Below.drew ?_) | (with_reducible refine below_drewN ?_ _) | (with_reducible refine Below.setCell ?_ ?_ _) | (with_reducible refine below_of (by assumption) ?_ ?_) | go_size))⟩
theorem psame_any (u v : Value) (l k : List Lb) (w : World) (h : RdE lbE w u l) (h' : RdE lbE w v k) :
    Calls Tryd.prog 24 #[u, v] w fun e w' => e = .returned (.bool (decide (l = k))) ∧ Below w.heap.size w w' := by
  have HE := Lib.hid (equal_any u v l k w h h')
  obtain ⟨A, c, rfl, _, _, _⟩ := h.form
  obtain ⟨A', c', rfl, _, _, _⟩ := h'.form
  clear h h'
  go_enter Tryd.func24, Tryd.ntmps24
  go_wp2_with fail
  refine HE.out.mono ?_
  rintro e w1 ⟨rfl, hb1⟩
  go_wp2_with fail
  go_ret
  exact ⟨rfl, hb1⟩
theorem cmp_any (u v : Value) (l k : List Lb) (w : World) (h : RdE lbE w u l) (h' : RdE lbE w v k) :
    Calls Tryd.prog 23 #[u, v] w fun e w' => e = .returned (.int .i64 (cmpT (textR l) (textR k))) ∧ Below w.heap.size w w' := by
  have H := Lib.hid h
  have H' := Lib.hid h'
  obtain ⟨A, c, rfl, _, _, _⟩ := h.form
  obtain ⟨A', c', rfl, _, _, _⟩ := h'.form
  clear h h'
  go_enter Tryd.func23, Tryd.ntmps23
  go_wp2_with fail
  refine (Text_any _ l w H.out).mono ?_
  rintro e w1 ⟨rfl, hb1⟩
  have hz1 := hb1.size
  go_wp2_with fail
  refine (Text_any _ k w1 (H'.out.keep hb1)).mono ?_
  rintro e w2 ⟨rfl, hb2⟩
  go_wp2_with fail
  refine (compare_t _ _ w2).mono ?_
  rintro e w3 ⟨rfl, rfl⟩
  go_wp2_with fail
  go_ret
  exact ⟨rfl, hb1.trans (hb2.mono hz1)⟩
end Go.Proofs.YtmfocgaojbebgaaDoor
