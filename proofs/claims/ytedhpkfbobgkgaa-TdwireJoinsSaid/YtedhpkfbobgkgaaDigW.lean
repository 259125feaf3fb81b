/- Package digest and its reference: the functions on means. Conditions: weights are positive and together at most 2^48; the fineness is from 0 to 1000. -/
import Derived.Test.YtedhpkfbobgkgaaDigP
import Derived.Test.YtedhpkfbobgkgaaRefTen
namespace Go.Proofs.Ytedhpkfbobgkgaa
open Go.RowKit Go.Lib

/-- The bounds under which may and May reckon without going round. -/
structure MayB (d n done weight : Int) : Prop where
  d0 : 0 ≤ d
  d1 : d ≤ 1000
  n1 : n ≤ 281474976710656
  e0 : 0 ≤ done
  w0 : 0 < weight
  dw : done + weight ≤ n

set_option maxRecDepth 100000 in
set_option maxHeartbeats 400000 in
theorem may_any (d n done weight : Int) (w : World) (M : MayB d n done weight) :
    Calls Try.prog 95 #[.int .i64 d, .int .u64 n, .int .u64 done, .int .u64 weight] w fun e w' => e = .returned (.bool (mayI d n done weight)) ∧ Below w.heap.size w w' := by
  obtain ⟨d0, d1, n1, e0, w0, dw⟩ := M
  have p0 : 0 ≤ weight * d := Int.mul_nonneg (by omega) d0
  have p1 : weight * d ≤ weight * 1000 := Int.mul_le_mul_of_nonneg_left d1 (by omega)
  have HF := Lib.hid (cmpI_le (weight * d * n) ((2 * done + weight) * (2 * n - 2 * done - weight)))
  go_enter Try.func95, Try.ntmps95
  go_wp2_with fail
  refine (wmul_any (weight * d) n _ p0 (by omega) (by omega) (by omega)).mono ?_
  rintro e w1 ⟨rfl, hb1⟩
  have hz1 := hb1.size
  go_wp2_with fail
  refine (wmul_any (2 * done + weight) (2 * n - 2 * done - weight) _ (by omega) (by omega) (by omega) (by omega)).mono ?_
  rintro e w2 ⟨rfl, hb2⟩
  have hz2 := hb2.size
  go_wp2_with fail
  refine (wcmp_of _ _ _).mono ?_
  rintro e w3 ⟨rfl, hb3⟩
  have hz3 := hb3.size
  go_wp2_with fail
  go_ret
  exact ⟨ret_bool HF.out, by (repeat' (first | (with_reducible exact Below.refl _ _) | (with_reducible refine Below.alloc ?_ ?_ _) | (with_reducible refine Below.drew ?_) | (with_reducible refine below_drewN ?_ _) | (with_reducible refine Below.setCell ?_ ?_ _) | (with_reducible refine below_of (by assumption) ?_ ?_) | go_size))⟩

set_option maxRecDepth 100000 in
set_option maxHeartbeats 400000 in
theorem rmay_any (d n done weight : Int) (w : World) (M : MayB d n done weight) :
    Calls Try.prog 65 #[.int .i64 d, .int .u64 n, .int .u64 done, .int .u64 weight] w fun e w' => e = .returned (.bool (mayI d n done weight)) ∧ Below w.heap.size w w' := by
  obtain ⟨d0, d1, n1, e0, w0, dw⟩ := M
  have p0 : 0 ≤ weight * d := Int.mul_nonneg (by omega) d0
  have p1 : weight * d ≤ weight * 1000 := Int.mul_le_mul_of_nonneg_left d1 (by omega)
  have HF := Lib.hid (cmpI_le (weight * d * n) ((2 * done + weight) * (2 * n - 2 * done - weight)))
  have HE := Lib.hid (show 2 * (n - done) - weight = 2 * n - 2 * done - weight by omega)
  obtain ⟨m0, m1⟩ := mul_lt128 (a := weight * d) (b := n) p0 (by omega) (by omega) (by omega)
  obtain ⟨k0, k1⟩ := mul_lt128 (a := 2 * done + weight) (b := 2 * (n - done) - weight) (by omega) (by omega) (by omega) (by omega)
  go_enter Try.func65, Try.ntmps65
  go_wp2_with fail
  refine (rmul_any (weight * d) n _ p0 (by omega) (by omega) (by omega)).mono ?_
  rintro e w1 ⟨v1, rfl, x1, hb1⟩
  have D1 := Lib.hid x1
  have hz1 := hb1.size
  clear x1
  go_wp2_with fail
  refine (rmul_any (2 * done + weight) (2 * (n - done) - weight) _ (by omega) (by omega) (by omega) (by omega)).mono ?_
  rintro e w2 ⟨v2, rfl, x2, hb2⟩
  have D2 := Lib.hid x2
  have hz2 := hb2.size
  clear x2
  go_wp2_with fail
  refine (rcmp_any v1 v2 _ _ _ (D1.out.keep hb2) D2.out m0 m1 k0 k1).mono ?_
  rintro e w3 ⟨rfl, hb3⟩
  have hz3 := hb3.size
  rw [HE.out]
  go_wp2_with fail
  go_ret
  exact ⟨ret_bool HF.out, by (repeat' (first | (with_reducible exact Below.refl _ _) | (with_reducible refine Below.alloc ?_ ?_ _) | (with_reducible refine Below.drew ?_) | (with_reducible refine below_drewN ?_ _) | (with_reducible refine Below.setCell ?_ ?_ _) | (with_reducible refine below_of (by assumption) ?_ ?_) | go_size))⟩

set_option maxHeartbeats 400000 in
theorem ravg_any (low v high z : Int) (w : World) (m0 : -9223372036854775808 ≤ low) (mn : low ≤ high) (n1 : high ≤ 9223372036854775807) (v0 : 0 ≤ v) (z0 : 0 < z) (vz : v + z < 18446744073709551616) :
    Calls Try.prog 66 #[.int .i64 low, .int .u64 v, .int .i64 high, .int .u64 z] w fun e w' => e = .returned (.int .i64 (lerpI low high z (v + z))) ∧ Below w.heap.size w w' := by
  have ew : IntKind.u64.wrap (IntKind.u64.wrap high - IntKind.u64.wrap low) = high - low := by simp only [u64w]; omega
  obtain ⟨b1, b2⟩ := lerpI_bd mn (x := z) (y := v + z) (by omega) (by omega) (by omega)
  have f0 : 0 ≤ (high - low) * z / (v + z) := Int.ediv_nonneg (Int.mul_nonneg (by omega) (by omega)) (by omega)
  have eF : wrap64 (IntKind.u64.wrap (IntKind.u64.wrap low + (high - low) * z / (v + z))) = lerpI low high z (v + z) := by
    simp only [u64w, wrap64]
    unfold lerpI at *
    omega
  have EF := Lib.hid eF
  clear b1 b2 eF
  go_enter Try.func66, Try.ntmps66
  go_wp2_with (first | (go_at_call 74; refine (rmuldiv_le (high - low) _ _ _ (by omega) (by omega) (by omega) (by omega) (by omega) vz).mono ?_; rintro e w1 ⟨rfl, hb1⟩; have ⟨hc1, hf1⟩ := bcell hb1; have hz1 := hb1.size; try simp only [World.size_alloc, World.size_setCell, World.size_drew, World.size_drewN] at hz1))
  go_ret
  exact ⟨ret_int EF.out, by (repeat' (first | (with_reducible exact Below.refl _ _) | (with_reducible refine Below.alloc ?_ ?_ _) | (with_reducible refine Below.drew ?_) | (with_reducible refine below_drewN ?_ _) | (with_reducible refine Below.setCell ?_ ?_ _) | (with_reducible refine below_of (by assumption) ?_ ?_) | go_size))⟩

set_option maxHeartbeats 400000 in
theorem ahead_any (a b : Mn) (w : World) :
    Calls Try.prog 70 #[.agg #[.int .i64 a.1, .int .u64 a.2], .agg #[.int .i64 b.1, .int .u64 b.2]] w fun e w' => e = .returned (.bool (decide (a.1 < b.1))) ∧ Below w.heap.size w w' := by
  go_enter Try.func70, Try.ntmps70
  go_wp2
  go_ret
  exact ⟨rfl, by (repeat' (first | (with_reducible exact Below.refl _ _) | (with_reducible refine Below.alloc ?_ ?_ _) | (with_reducible refine Below.drew ?_) | (with_reducible refine below_drewN ?_ _) | (with_reducible refine Below.setCell ?_ ?_ _) | (with_reducible refine below_of (by assumption) ?_ ?_) | go_size))⟩

set_option maxHeartbeats 400000 in
theorem rtotal_any (v : Value) (l : List Mn) (w : World) (h : RdM w v l) (ho : okL l) (ht : tot l ≤ 18446744073709551615) :
    Calls Try.prog 28 #[v] w fun e w' => e = .returned (.int .u64 (tot l)) ∧ Below w.heap.size w w' := by
  obtain ⟨A, c, rfl, hn, hc, hp⟩ := h.form
  have HP := Lib.hid hp
  clear hp h
  go_enter Try.func28, Try.ntmps28
  go_wp2_with fail
  go_loopg [3, 4] l.length (fun k n i wr => ∃ j : Nat, k = l.length - j ∧ j ≤ l.length ∧ n = .int .u64 (tot (l.take j)) ∧ i = .int .i64 j ∧ Below w.heap.size w wr)
  case atStart => exact ⟨0, rfl, by omega, rfl, rfl, Below.refl _ _⟩
  case round =>
    obtain ⟨j, hk, hj, rfl, rfl, hb⟩ := hrel
    have HK := Lib.hid hk
    have hz := hb.size
    clear hk
    by_cases hlt : j < l.length
    · obtain ⟨g, off, rfl, hg, c0, c1⟩ := (HP.out.keep hb).at_ hlt
      have t0 := ho.tot_take j
      have t1 := ho.tot_get hlt
      have o1 := (ho.get hlt).2.2
      have HT := Lib.hid (tot_take_succ l j hlt)
      obtain ⟨x, hx⟩ : ∃ x, l[j].2 = x := ⟨_, rfl⟩
      rw [hx] at c1 t1 o1
      have HX := Lib.hid hx
      clear hx c0
      go_wp2_with fail
      go_roundg (l.length - (j + 1))
      case measure => have := HK.out; omega
      case rel => exact ⟨j + 1, rfl, by omega, by rw [HT.out, HX.out], by go_num, by (repeat' (first | (with_reducible exact Below.refl _ _) | (with_reducible refine Below.alloc ?_ ?_ _) | (with_reducible refine Below.drew ?_) | (with_reducible refine below_drewN ?_ _) | (with_reducible refine Below.setCell ?_ ?_ _) | (with_reducible refine below_of (by assumption) ?_ ?_) | go_size))⟩
    · go_wp2_with fail
      go_ret
      exact ⟨ret_int (by rw [List.take_of_length_le (by omega)]), by (repeat' (first | (with_reducible exact Below.refl _ _) | (with_reducible refine Below.alloc ?_ ?_ _) | (with_reducible refine Below.drew ?_) | (with_reducible refine below_drewN ?_ _) | (with_reducible refine Below.setCell ?_ ?_ _) | (with_reducible refine below_of (by assumption) ?_ ?_) | go_size))⟩

set_option maxHeartbeats 400000 in
theorem rsame_any (u v : Value) (l k : List Mn) (w : World) (h : RdM w u l) (h' : RdM w v k) :
    Calls Try.prog 72 #[u, v] w fun e w' => e = .returned (.bool (decide (l = k))) ∧ Below w.heap.size w w' := by
  obtain ⟨A, c, rfl, hn, hc, hp⟩ := h.form
  obtain ⟨A', c', rfl, hn', hc', hp'⟩ := h'.form
  have HP := Lib.hid hp
  have HP' := Lib.hid hp'
  clear hp h hp' h'
  by_cases hl : l.length = k.length
  · have hlb : ((l.length : Int) != (k.length : Int)) = false := by simp; omega
    have HL := Lib.hid hl
    clear hl
    go_enter Try.func72, Try.ntmps72
    go_wp2_with fail
    go_loopg [5] l.length (fun q i wr => ∃ j : Nat, q = l.length - j ∧ j ≤ l.length ∧ i = .int .i64 j ∧ Hid (l.take j = k.take j) ∧ Below w.heap.size w wr)
    case atStart => exact ⟨0, rfl, by omega, rfl, rfl, by (repeat' (first | (with_reducible exact Below.refl _ _) | (with_reducible refine Below.alloc ?_ ?_ _) | (with_reducible refine Below.drew ?_) | (with_reducible refine below_drewN ?_ _) | (with_reducible refine Below.setCell ?_ ?_ _) | (with_reducible refine below_of (by assumption) ?_ ?_) | go_size))⟩
    case round =>
      obtain ⟨j, hk, hj, rfl, hs, hb⟩ := hrel
      have HK := Lib.hid hk
      have hz := hb.size
      clear hk
      by_cases hlt : j < l.length
      · have hlt' : j < k.length := by have := HL.out; omega
        obtain ⟨g, off, rfl, hg, c0, c1⟩ := (HP.out.keep hb).at_ hlt
        obtain ⟨g', off', rfl, hg', c0', c1'⟩ := (HP'.out.keep hb).at_ hlt'
        by_cases he : l[j] = k[j]
        · rw [← he] at c0' c1'
          have HN : Hid (l.take (j + 1) = k.take (j + 1)) := by
            show _ = _
            rw [List.take_succ_eq_append_getElem hlt, List.take_succ_eq_append_getElem hlt', hs.out, he]
          clear he
          go_wp2_with fail
          go_quiet (fail)
          go_wp2_with fail
          go_roundg (l.length - (j + 1))
          case measure => have := HK.out; omega
          case rel => exact ⟨j + 1, rfl, by omega, by go_num, HN, by (repeat' (first | (with_reducible exact Below.refl _ _) | (with_reducible refine Below.alloc ?_ ?_ _) | (with_reducible refine Below.drew ?_) | (with_reducible refine below_drewN ?_ _) | (with_reducible refine Below.setCell ?_ ?_ _) | (with_reducible refine below_of (by assumption) ?_ ?_) | go_size))⟩
        · have hd : ((l[j].1 == k[j].1) && (l[j].2 == k[j].2)) = false := by
            rw [Bool.eq_false_iff]; intro h2; simp only [Bool.and_eq_true, beq_iff_eq] at h2; exact he (Prod.ext h2.1 h2.2)
          have hne : ¬ l = k := fun e => he (by subst e; rfl)
          have HNE := Lib.hid hne
          clear hne he
          by_cases h0 : (l[j].1 == k[j].1) = true
          · have h1 : (l[j].2 == k[j].2) = false := by rw [h0] at hd; simpa using hd
            clear hd
            go_wp2_with fail
            go_quiet (fail)
            go_wp2_with fail
            go_ret
            exact ⟨ret_bool (decide_eq_false HNE.out).symm, by (repeat' (first | (with_reducible exact Below.refl _ _) | (with_reducible refine Below.alloc ?_ ?_ _) | (with_reducible refine Below.drew ?_) | (with_reducible refine below_drewN ?_ _) | (with_reducible refine Below.setCell ?_ ?_ _) | (with_reducible refine below_of (by assumption) ?_ ?_) | go_size))⟩
          · have h0' : (l[j].1 == k[j].1) = false := by simpa using h0
            clear hd h0
            go_wp2_with fail
            go_quiet (fail)
            go_wp2_with fail
            go_ret
            exact ⟨ret_bool (decide_eq_false HNE.out).symm, by (repeat' (first | (with_reducible exact Below.refl _ _) | (with_reducible refine Below.alloc ?_ ?_ _) | (with_reducible refine Below.drew ?_) | (with_reducible refine below_drewN ?_ _) | (with_reducible refine Below.setCell ?_ ?_ _) | (with_reducible refine below_of (by assumption) ?_ ?_) | go_size))⟩
      · have HE : Hid (l = k) := by
          show _ = _
          have h1 := hs.out
          have h2 := HL.out
          rwa [List.take_of_length_le (by omega), List.take_of_length_le (by omega)] at h1
        clear hs
        go_wp2_with fail
        go_ret
        exact ⟨ret_bool (decide_eq_true HE.out).symm, by (repeat' (first | (with_reducible exact Below.refl _ _) | (with_reducible refine Below.alloc ?_ ?_ _) | (with_reducible refine Below.drew ?_) | (with_reducible refine below_drewN ?_ _) | (with_reducible refine Below.setCell ?_ ?_ _) | (with_reducible refine below_of (by assumption) ?_ ?_) | go_size))⟩
  · have hlb : ((l.length : Int) != (k.length : Int)) = true := by simp; omega
    have HNE : Hid (¬ l = k) := fun e => hl (by rw [e])
    clear hl
    go_enter Try.func72, Try.ntmps72
    go_wp2_with fail
    go_ret
    exact ⟨ret_bool (decide_eq_false HNE.out).symm, by (repeat' (first | (with_reducible exact Below.refl _ _) | (with_reducible refine Below.alloc ?_ ?_ _) | (with_reducible refine Below.drew ?_) | (with_reducible refine below_drewN ?_ _) | (with_reducible refine Below.setCell ?_ ?_ _) | (with_reducible refine below_of (by assumption) ?_ ?_) | go_size))⟩
end Go.Proofs.Ytedhpkfbobgkgaa
