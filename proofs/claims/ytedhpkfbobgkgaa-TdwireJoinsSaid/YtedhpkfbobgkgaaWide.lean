/- Packages wide and rank: numbers of 128 bits, Check and Spot. Conditions: of MulDiv and Div the divisor isn't 0 and the quotient has 64 bits. -/
import Derived.Test.YtedhpkfbobgkgaaBits
namespace Go.Proofs.Ytedhpkfbobgkgaa
open Go.RowKit Go.Lib

/-- Which of two numbers is less: -1, 0, 1. -/
def cmpI (x y : Int) : Int := if x = y then 0 else if x < y then -1 else 1

set_option maxHeartbeats 400000 in
theorem wmul_any (x y : Int) (w : World) (x0 : 0 ≤ x) (x1 : x < 18446744073709551616) (y0 : 0 ≤ y) (y1 : y < 18446744073709551616) :
    Calls Try.prog 92 #[.int .u64 x, .int .u64 y] w fun e w' => e = .returned (.agg #[.int .u64 (x * y / 18446744073709551616), .int .u64 (x * y % 18446744073709551616)]) ∧ Below w.heap.size w w' := by
  go_enter Try.func92, Try.ntmps92
  go_wp2_with (go_at_call 106; refine (mul64_any _ _ _ x0 x1 y0 y1).mono ?_; rintro e w' ⟨rfl, rfl⟩)
  exact bodyPost_ret (v := .agg #[.int .u64 (x * y / 18446744073709551616), .int .u64 (x * y % 18446744073709551616)]) (by simp [results, Try.results92, go_sem]) rfl ⟨rfl, (Below.refl _ _).alloc (Nat.le_refl _) _⟩

set_option maxHeartbeats 400000 in
theorem wcmp_any (a b c d : Int) (w : World) (b0 : 0 ≤ b) (b1 : b < 18446744073709551616) (d0 : 0 ≤ d) (d1 : d < 18446744073709551616) :
    Calls Try.prog 108 #[.agg #[.int .u64 a, .int .u64 b], .agg #[.int .u64 c, .int .u64 d]] w fun e w' => e = .returned (.int .i64 (cmpI (a * 18446744073709551616 + b) (c * 18446744073709551616 + d))) ∧ Below w.heap.size w w' := by
  go_enter Try.func108, Try.ntmps108
  go_wp2
  all_goals (go_ret; refine ⟨ret_int ?_, ((Below.refl _ _).alloc (Nat.le_refl _) _).alloc (by simp) _⟩)
  all_goals (unfold cmpI; (repeat' split) <;> omega)

theorem wcmp_of (L R : Int) (w : World) :
    Calls Try.prog 108 #[.agg #[.int .u64 (L / 18446744073709551616), .int .u64 (L % 18446744073709551616)], .agg #[.int .u64 (R / 18446744073709551616), .int .u64 (R % 18446744073709551616)]] w fun e w' => e = .returned (.int .i64 (cmpI L R)) ∧ Below w.heap.size w w' := by
  have h := wcmp_any (L / 18446744073709551616) (L % 18446744073709551616) (R / 18446744073709551616) (R % 18446744073709551616) w (by omega) (by omega) (by omega) (by omega)
  rw [show L / 18446744073709551616 * 18446744073709551616 + L % 18446744073709551616 = L by omega, show R / 18446744073709551616 * 18446744073709551616 + R % 18446744073709551616 = R by omega] at h
  exact h
theorem cmpI_le (L R : Int) : (decide (cmpI L R ≤ 0)) = decide (L ≤ R) := by
  unfold cmpI
  by_cases h : L = R
  · rw [if_pos h]; simp; omega
  · rw [if_neg h]
    by_cases h2 : L < R
    · rw [if_pos h2]; simp; omega
    · rw [if_neg h2]; simp; omega

theorem wdiv_eqs (h l d : Int) (l0 : 0 ≤ l) (l1 : l < 18446744073709551616) (d0 : 0 < d) :
    (h * 18446744073709551616 + l) / d / 18446744073709551616 = h / d ∧ (h * 18446744073709551616 + l) / d % 18446744073709551616 = (h % d * 18446744073709551616 + l) / d ∧
    (h * 18446744073709551616 + l) % d = (h % d * 18446744073709551616 + l) % d := by
  have h3 := Int.mul_ediv_add_emod h d
  have h4 := Int.emod_nonneg h (show d ≠ 0 by omega)
  have h5 := Int.emod_lt_of_pos h d0
  generalize h / d = k at *
  generalize h % d = m at *
  have e1 : h * 18446744073709551616 + l = (m * 18446744073709551616 + l) + d * (k * 18446744073709551616) := by
    have : d * (k * 18446744073709551616) = d * k * 18446744073709551616 := by rw [Int.mul_assoc]
    omega
  have q0 : 0 ≤ (m * 18446744073709551616 + l) / d := Int.ediv_nonneg (by omega) (by omega)
  have q1 : (m * 18446744073709551616 + l) / d < 18446744073709551616 := Int.ediv_lt_of_lt_mul (by omega) (by omega)
  rw [e1, Int.add_mul_ediv_left _ _ (by omega), Int.add_mul_emod_self_left]
  refine ⟨by omega, by omega, rfl⟩

set_option maxHeartbeats 400000 in
theorem wdiv_any (h l d : Int) (w : World) (h0 : 0 ≤ h) (h1 : h < 18446744073709551616) (l0 : 0 ≤ l) (l1 : l < 18446744073709551616) (d0 : 0 < d) (d1 : d < 18446744073709551616) :
    Calls Try.prog 93 #[.agg #[.int .u64 h, .int .u64 l], .int .u64 d] w fun e w' => e = .returned (.tuple #[.agg #[.int .u64 ((h * 18446744073709551616 + l) / d / 18446744073709551616), .int .u64 ((h * 18446744073709551616 + l) / d % 18446744073709551616)], .int .u64 ((h * 18446744073709551616 + l) % d), .int .i64 0]) ∧ Below w.heap.size w w' := by
  have hd : (d == 0) = false := by simp; omega
  go_enter Try.func93, Try.ntmps93
  go_wp2
  go_region
  all_goals
    go_wp2_with (go_at_call 107; refine (div64_any _ _ _ _ (Int.emod_nonneg _ (by omega)) (Int.emod_lt_of_pos _ d0) l0 l1 d1).mono ?_; rintro e w1 ⟨rfl, hb1⟩; have ⟨hc1, hf1⟩ := bcell hb1; have hz1 := hb1.size; try simp only [World.size_alloc, World.size_setCell, World.size_drew, World.size_drewN] at hz1)
    refine bodyPost_ret (by simp [results, Try.results93, go_sem, *]; try rfl) rfl ?_
    obtain ⟨e1, e2, e3⟩ := wdiv_eqs h l d l0 l1 d0
    rw [e1, e2, e3]
    exact ⟨rfl, by (repeat' (first | (with_reducible exact Below.refl _ _) | (with_reducible refine Below.alloc ?_ ?_ _) | (with_reducible refine Below.drew ?_) | (with_reducible refine below_drewN ?_ _) | (with_reducible refine Below.setCell ?_ ?_ _) | (with_reducible refine below_of (by assumption) ?_ ?_) | go_size))⟩

theorem mul_lt128 {a b : Int} (a0 : 0 ≤ a) (a1 : a < 18446744073709551616) (b0 : 0 ≤ b) (b1 : b < 18446744073709551616) : 0 ≤ a * b ∧ a * b < 340282366920938463463374607431768211456 := by
  have h1 : a * b ≤ 18446744073709551615 * b := Int.mul_le_mul_of_nonneg_right (by omega) b0
  exact ⟨Int.mul_nonneg a0 b0, by omega⟩
/-- Div of a number given whole, where the quotient has 64 bits. -/
theorem wdiv_small (X d : Int) (w : World) (x0 : 0 ≤ X) (x1 : X < 340282366920938463463374607431768211456) (d0 : 0 < d) (d1 : d < 18446744073709551616) (hq : X / d < 18446744073709551616) :
    Calls Try.prog 93 #[.agg #[.int .u64 (X / 18446744073709551616), .int .u64 (X % 18446744073709551616)], .int .u64 d] w fun e w' => e = .returned (.tuple #[.agg #[.int .u64 0, .int .u64 (X / d)], .int .u64 (X % d), .int .i64 0]) ∧ Below w.heap.size w w' := by
  have q0 : 0 ≤ X / d := Int.ediv_nonneg x0 (by omega)
  have h := wdiv_any (X / 18446744073709551616) (X % 18446744073709551616) d w (by omega) (by omega) (by omega) (by omega) d0 d1
  rw [show X / 18446744073709551616 * 18446744073709551616 + X % 18446744073709551616 = X by omega, show X / d / 18446744073709551616 = 0 by omega, show X / d % 18446744073709551616 = X / d by omega] at h
  exact h

set_option maxHeartbeats 400000 in
theorem muldiv_any (a b d : Int) (w : World) (a0 : 0 ≤ a) (a1 : a < 18446744073709551616) (b0 : 0 ≤ b) (b1 : b < 18446744073709551616) (d0 : 0 < d) (d1 : d < 18446744073709551616) (hq : a * b / d < 18446744073709551616) :
    Calls Try.prog 60 #[.int .u64 a, .int .u64 b, .int .u64 d] w fun e w' => e = .returned (.tuple #[.int .u64 (a * b / d), .int .u64 (a * b % d), .int .i64 0]) ∧ Below w.heap.size w w' := by
  obtain ⟨m0, m1⟩ := mul_lt128 a0 a1 b0 b1
  go_enter Try.func60, Try.ntmps60
  go_wp2_with (first | (go_at_call 92; refine (wmul_any _ _ _ a0 a1 b0 b1).mono ?_; rintro e w1 ⟨rfl, hb1⟩; have ⟨hc1, hf1⟩ := bcell hb1; have hz1 := hb1.size; try simp only [World.size_alloc, World.size_setCell, World.size_drew, World.size_drewN] at hz1) | (go_at_call 93; refine (wdiv_small _ _ _ m0 m1 d0 d1 hq).mono ?_; rintro e w2 ⟨rfl, hb2⟩; have ⟨hc2, hf2⟩ := bcell hb2; have hz2 := hb2.size; try simp only [World.size_alloc, World.size_setCell, World.size_drew, World.size_drewN] at hz2))
  all_goals (go_ret3; exact ⟨rfl, by (repeat' (first | (with_reducible exact Below.refl _ _) | (with_reducible refine Below.alloc ?_ ?_ _) | (with_reducible refine Below.drew ?_) | (with_reducible refine below_drewN ?_ _) | (with_reducible refine Below.setCell ?_ ?_ _) | (with_reducible refine below_of (by assumption) ?_ ?_) | go_size))⟩)

/-- MulDiv where the result is at most one of the factors. -/
theorem muldiv_le (a b d : Int) (w : World) (a0 : 0 ≤ a) (a1 : a < 18446744073709551616) (b0 : 0 ≤ b) (b1 : b ≤ d) (d0 : 0 < d) (d1 : d < 18446744073709551616) :
    Calls Try.prog 60 #[.int .u64 a, .int .u64 b, .int .u64 d] w fun e w' => e = .returned (.tuple #[.int .u64 (a * b / d), .int .u64 (a * b % d), .int .i64 0]) ∧ Below w.heap.size w w' :=
  muldiv_any a b d w a0 a1 b0 (by omega) d0 d1 (Int.ediv_lt_of_lt_mul d0 (by have : a * b ≤ a * d := Int.mul_le_mul_of_nonneg_left b1 a0; have : a * d ≤ 18446744073709551615 * d := Int.mul_le_mul_of_nonneg_right (by omega) (by omega); omega))

/-- Between two numbers, at a part of the way. -/
def lerpI (low high at_ of_ : Int) : Int := low + (high - low) * at_ / of_
theorem lerpI_bd {low high x y : Int} (h : low ≤ high) (x0 : 0 ≤ x) (xy : x ≤ y) (y0 : 0 < y) : low ≤ lerpI low high x y ∧ lerpI low high x y ≤ high := by
  have h1 : 0 ≤ (high - low) * x / y := Int.ediv_nonneg (Int.mul_nonneg (by omega) x0) (by omega)
  have h2 : (high - low) * x / y ≤ high - low := by
    have h3 : (high - low) * x ≤ (high - low) * y := Int.mul_le_mul_of_nonneg_left xy (by omega)
    exact Int.ediv_le_of_le_mul y0 h3
  unfold lerpI
  omega

set_option maxHeartbeats 400000 in
theorem lerp_any (low high x y : Int) (w : World) (l0 : -9223372036854775808 ≤ low) (lh : low ≤ high) (h1 : high ≤ 9223372036854775807) (x0 : 0 ≤ x) (xy : x ≤ y) (y0 : 0 < y) (y1 : y < 18446744073709551616) :
    Calls Try.prog 58 #[.int .i64 low, .int .i64 high, .int .u64 x, .int .u64 y] w fun e w' => e = .returned (.tuple #[.int .i64 (lerpI low high x y), .int .i64 0]) ∧ Below w.heap.size w w' := by
  have hy : (y == 0) = false := by simp; omega
  have ew : IntKind.u64.wrap (IntKind.u64.wrap high - IntKind.u64.wrap low) = high - low := by simp only [u64w]; omega
  obtain ⟨b1, b2⟩ := lerpI_bd lh x0 xy y0
  have f0 : 0 ≤ (high - low) * x / y := Int.ediv_nonneg (Int.mul_nonneg (by omega) x0) (by omega)
  have eF : wrap64 (IntKind.u64.wrap (IntKind.u64.wrap low + (high - low) * x / y)) = lerpI low high x y := by
    simp only [u64w, wrap64]
    unfold lerpI at *
    omega
  clear b1 b2
  go_enter Try.func58, Try.ntmps58
  go_wp2_with (first | (go_at_call 60; refine (muldiv_le (high - low) _ _ _ (by omega) (by omega) x0 xy y0 y1).mono ?_; rintro e w1 ⟨rfl, hb1⟩; have ⟨hc1, hf1⟩ := bcell hb1; have hz1 := hb1.size; try simp only [World.size_alloc, World.size_setCell, World.size_drew, World.size_drewN] at hz1))
  go_ret2
  exact ⟨congrArg (fun z => Ending.returned (.tuple #[.int .i64 z, .int .i64 0])) eF, by (repeat' (first | (with_reducible exact Below.refl _ _) | (with_reducible refine Below.alloc ?_ ?_ _) | (with_reducible refine Below.drew ?_) | (with_reducible refine below_drewN ?_ _) | (with_reducible refine Below.setCell ?_ ?_ _) | (with_reducible refine below_of (by assumption) ?_ ?_) | go_size))⟩

/-- The average of two numbers by their weights, of which neither is 0. -/
def avgI (m v n w : Int) : Int := if n < m then lerpI n m v (v + w) else lerpI m n w (v + w)

set_option maxRecDepth 100000 in
set_option maxHeartbeats 400000 in
theorem avg_any (m v n z : Int) (w : World) (m0 : -9223372036854775808 ≤ m) (mn : m ≤ n) (n1 : n ≤ 9223372036854775807) (v0 : 0 ≤ v) (z0 : 0 < z) (vz : v + z < 18446744073709551616) :
    Calls Try.prog 96 #[.int .i64 m, .int .u64 v, .int .i64 n, .int .u64 z] w fun e w' => e = .returned (.tuple #[.int .i64 (lerpI m n z (v + z)), .int .i64 0]) ∧ Below w.heap.size w w' := by
  have ha := add64_run v z 0 w v0 (by omega) (by omega) (by omega)
  have e1 : (v + z + 0) % 18446744073709551616 = v + z := by omega
  have e2 : (v + z + 0) / 18446744073709551616 = 0 := by omega
  have e3 : (v + z == 0) = false := by simp; omega
  rw [e1, e2] at ha
  clear e1 e2
  go_enter Try.func96, Try.ntmps96
  go_wp2_with (first | (go_at_call 58; refine (lerp_any _ _ _ _ _ m0 mn n1 (by omega) (by omega) (by omega) vz).mono ?_; rintro e w1 ⟨rfl, hb1⟩; have ⟨hc1, hf1⟩ := bcell hb1; have hz1 := hb1.size; try simp only [World.size_alloc, World.size_setCell, World.size_drew, World.size_drewN] at hz1))
  go_ret2
  exact ⟨rfl, by (repeat' (first | (with_reducible exact Below.refl _ _) | (with_reducible refine Below.alloc ?_ ?_ _) | (with_reducible refine Below.drew ?_) | (with_reducible refine below_drewN ?_ _) | (with_reducible refine Below.setCell ?_ ?_ _) | (with_reducible refine below_of (by assumption) ?_ ?_) | go_size))⟩

set_option maxHeartbeats 400000 in
theorem rcheck_any (num den : Int) (w : World) :
    Calls Try.prog 91 #[.int .u64 num, .int .u64 den] w fun e w' => e = .returned (.int .i64 (if den = 0 ∨ den < num then 7 else 0)) ∧ w = w' := by
  by_cases h : den = 0 ∨ den < num
  · rw [if_pos h]
    have hd : ((den == 0) || decide (den < num)) = true := by simpa using h
    go_enter Try.func91, Try.ntmps91
    go_wp2
    all_goals (go_ret; exact ⟨rfl, rfl⟩)
  · rw [if_neg h]
    have hd : (den == 0) = false := by simp; omega
    go_enter Try.func91, Try.ntmps91
    go_wp2
    all_goals (go_ret; exact ⟨rfl, rfl⟩)

/-- Spot: an error's number, or where a part stands in twice the whole. -/
def spotI (num den n : Int) : Int × Int := if den = 0 ∨ den < num then (0, 7) else if n = 0 then (0, 8) else if 4611686018427387904 < n then (0, 6) else (2 * n * num / den, 0)

set_option maxHeartbeats 400000 in
theorem rspot_any (num den n : Int) (w : World) (a0 : 0 ≤ num) (_a1 : num < 18446744073709551616) (d0 : 0 ≤ den) (d1 : den < 18446744073709551616) (n0 : 0 ≤ n) (n1 : n < 18446744073709551616) :
    Calls Try.prog 54 #[.int .u64 num, .int .u64 den, .int .u64 n] w fun e w' => e = .returned (.tuple #[.int .u64 (spotI num den n).1, .int .i64 (spotI num den n).2]) ∧ Below w.heap.size w w' := by
  unfold spotI
  have HC := Lib.hid (rcheck_any num den w)
  by_cases h : den = 0 ∨ den < num
  · rw [if_pos h] at HC ⊢
    go_enter Try.func54, Try.ntmps54
    go_wp2_with (first | (go_at_call 91; refine (HC.out).mono ?_; rintro e w' ⟨rfl, rfl⟩))
    all_goals (go_ret2; exact ⟨rfl, by (repeat' (first | (with_reducible exact Below.refl _ _) | (with_reducible refine Below.alloc ?_ ?_ _) | (with_reducible refine Below.drew ?_) | (with_reducible refine below_drewN ?_ _) | (with_reducible refine Below.setCell ?_ ?_ _) | (with_reducible refine below_of (by assumption) ?_ ?_) | go_size))⟩)
  · rw [if_neg h] at HC ⊢
    by_cases h8 : n = 0
    · rw [if_pos h8]
      subst h8
      go_enter Try.func54, Try.ntmps54
      go_wp2_with (first | (go_at_call 91; refine (HC.out).mono ?_; rintro e w' ⟨rfl, rfl⟩))
      all_goals (go_ret2; exact ⟨rfl, by (repeat' (first | (with_reducible exact Below.refl _ _) | (with_reducible refine Below.alloc ?_ ?_ _) | (with_reducible refine Below.drew ?_) | (with_reducible refine below_drewN ?_ _) | (with_reducible refine Below.setCell ?_ ?_ _) | (with_reducible refine below_of (by assumption) ?_ ?_) | go_size))⟩)
    · rw [if_neg h8]
      have hn : (n == 0) = false := by simp; omega
      clear h8
      by_cases h6 : 4611686018427387904 < n
      · rw [if_pos h6]
        go_enter Try.func54, Try.ntmps54
        go_wp2_with (first | (go_at_call 91; refine (HC.out).mono ?_; rintro e w' ⟨rfl, rfl⟩))
        all_goals (go_ret2; exact ⟨rfl, by (repeat' (first | (with_reducible exact Below.refl _ _) | (with_reducible refine Below.alloc ?_ ?_ _) | (with_reducible refine Below.drew ?_) | (with_reducible refine below_drewN ?_ _) | (with_reducible refine Below.setCell ?_ ?_ _) | (with_reducible refine below_of (by assumption) ?_ ?_) | go_size))⟩)
      · rw [if_neg h6]
        go_enter Try.func54, Try.ntmps54
        go_wp2_with (first | (go_at_call 91; refine (HC.out).mono ?_; rintro e w' ⟨rfl, rfl⟩) | (go_at_call 60; refine (muldiv_le (2 * n) _ _ _ (by omega) (by omega) a0 (by omega) (by omega) d1).mono ?_; rintro e w1 ⟨rfl, hb1⟩; have ⟨hc1, hf1⟩ := bcell hb1; have hz1 := hb1.size; try simp only [World.size_alloc, World.size_setCell, World.size_drew, World.size_drewN] at hz1))
        all_goals (go_ret2; exact ⟨rfl, by (repeat' (first | (with_reducible exact Below.refl _ _) | (with_reducible refine Below.alloc ?_ ?_ _) | (with_reducible refine Below.drew ?_) | (with_reducible refine below_drewN ?_ _) | (with_reducible refine Below.setCell ?_ ?_ _) | (with_reducible refine below_of (by assumption) ?_ ?_) | go_size))⟩)
end Go.Proofs.Ytedhpkfbobgkgaa
