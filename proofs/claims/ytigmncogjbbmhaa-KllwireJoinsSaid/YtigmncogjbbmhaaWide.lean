/- Packages wide and rank: numbers of 128 bits, Check and Spot. Conditions: of MulDiv and Div the divisor isn't 0 and the quotient has 64 bits. -/
import Derived.Test.YtigmncogjbbmhaaBits
namespace Go.Proofs.Ytigmncogjbbmhaa
open Go.RowKit Go.Lib

/-- Which of two numbers is less: -1, 0, 1. -/
def cmpI (x y : Int) : Int := if x = y then 0 else if x < y then -1 else 1

set_option maxHeartbeats 400000 in
theorem wmul_any (x y : Int) (w : World) (x0 : 0 ≤ x) (x1 : x < 18446744073709551616) (y0 : 0 ≤ y) (y1 : y < 18446744073709551616) :
    Calls Try.prog 96 #[.int .u64 x, .int .u64 y] w fun e w' => e = .returned (.agg #[.int .u64 (x * y / 18446744073709551616), .int .u64 (x * y % 18446744073709551616)]) ∧ Below w.heap.size w w' := by
  go_enter Try.func96, Try.ntmps96
  go_wp2_with (go_at_call 118; refine (mul64_any _ _ _ x0 x1 y0 y1).mono ?_; rintro e w' ⟨rfl, rfl⟩)
  exact bodyPost_ret (v := .agg #[.int .u64 (x * y / 18446744073709551616), .int .u64 (x * y % 18446744073709551616)]) (by simp [results, Try.results96, go_sem]) rfl ⟨rfl, (Below.refl _ _).alloc (Nat.le_refl _) _⟩

theorem cmpI_le (L R : Int) : (decide (cmpI L R ≤ 0)) = decide (L ≤ R) := by
  unfold cmpI
  by_cases h : L = R
  · rw [if_pos h]; simp; omega
  · rw [if_neg h]
    by_cases h2 : L < R
    · rw [if_pos h2]; simp; omega
    · rw [if_neg h2]; simp; omega

theorem wdiv_eqs (h l d : Int) (l0 : 0 ≤ l) (l1 : l < 18446744073709551616) (d0 : 0 < d) :
    (h * 18446744073709551616 + l) / d / 18446744073709551616 = h / d ∧ (h * 18446744073709551616 + l) / d % 18446744073709551616 = (h % d * 18446744073709551616 + l) / d ∧
    (h * 18446744073709551616 + l) % d = (h % d * 18446744073709551616 + l) % d := by
  have h3 := Int.mul_ediv_add_emod h d
  have h4 := Int.emod_nonneg h (show d ≠ 0 by omega)
  have h5 := Int.emod_lt_of_pos h d0
  generalize h / d = k at *
  generalize h % d = m at *
  have e1 : h * 18446744073709551616 + l = (m * 18446744073709551616 + l) + d * (k * 18446744073709551616) := by
    have : d * (k * 18446744073709551616) = d * k * 18446744073709551616 := by rw [Int.mul_assoc]
    omega
  have q0 : 0 ≤ (m * 18446744073709551616 + l) / d := Int.ediv_nonneg (by omega) (by omega)
  have q1 : (m * 18446744073709551616 + l) / d < 18446744073709551616 := Int.ediv_lt_of_lt_mul (by omega) (by omega)
  rw [e1, Int.add_mul_ediv_left _ _ (by omega), Int.add_mul_emod_self_left]
  refine ⟨by omega, by omega, rfl⟩

set_option maxHeartbeats 400000 in
theorem wdiv_any (h l d : Int) (w : World) (h0 : 0 ≤ h) (h1 : h < 18446744073709551616) (l0 : 0 ≤ l) (l1 : l < 18446744073709551616) (d0 : 0 < d) (d1 : d < 18446744073709551616) :
    Calls Try.prog 97 #[.agg #[.int .u64 h, .int .u64 l], .int .u64 d] w fun e w' => e = .returned (.tuple #[.agg #[.int .u64 ((h * 18446744073709551616 + l) / d / 18446744073709551616), .int .u64 ((h * 18446744073709551616 + l) / d % 18446744073709551616)], .int .u64 ((h * 18446744073709551616 + l) % d), .int .i64 0]) ∧ Below w.heap.size w w' := by
  have hd : (d == 0) = false := by simp; omega
  go_enter Try.func97, Try.ntmps97
  go_wp2
  go_region
  all_goals
    go_wp2_with (go_at_call 119; refine (div64_any _ _ _ _ (Int.emod_nonneg _ (by omega)) (Int.emod_lt_of_pos _ d0) l0 l1 d1).mono ?_; rintro e w1 ⟨rfl, hb1⟩; have ⟨hc1, hf1⟩ := bcell hb1; have hz1 := hb1.size; try simp only [World.size_alloc, World.size_setCell, World.size_drew, World.size_drewN] at hz1)
    refine bodyPost_ret (by simp [results, Try.results97, go_sem, *]; try rfl) rfl ?_
    obtain ⟨e1, e2, e3⟩ := wdiv_eqs h l d l0 l1 d0
    rw [e1, e2, e3]
    exact ⟨rfl, by (repeat' (first | (with_reducible exact Below.refl _ _) | (with_reducible refine Below.alloc ?_ ?_ _) | (with_reducible refine Below.drew ?_) | (with_reducible refine below_drewN ?_ _) | (with_reducible refine Below.setCell ?_ ?_ _) | (with_reducible refine below_of (by assumption) ?_ ?_) | go_size))⟩

theorem mul_lt128 {a b : Int} (a0 : 0 ≤ a) (a1 : a < 18446744073709551616) (b0 : 0 ≤ b) (b1 : b < 18446744073709551616) : 0 ≤ a * b ∧ a * b < 340282366920938463463374607431768211456 := by
  have h1 : a * b ≤ 18446744073709551615 * b := Int.mul_le_mul_of_nonneg_right (by omega) b0
  exact ⟨Int.mul_nonneg a0 b0, by omega⟩
/-- Div of a number given whole, where the quotient has 64 bits. -/
theorem wdiv_small (X d : Int) (w : World) (x0 : 0 ≤ X) (x1 : X < 340282366920938463463374607431768211456) (d0 : 0 < d) (d1 : d < 18446744073709551616) (hq : X / d < 18446744073709551616) :
    Calls Try.prog 97 #[.agg #[.int .u64 (X / 18446744073709551616), .int .u64 (X % 18446744073709551616)], .int .u64 d] w fun e w' => e = .returned (.tuple #[.agg #[.int .u64 0, .int .u64 (X / d)], .int .u64 (X % d), .int .i64 0]) ∧ Below w.heap.size w w' := by
  have q0 : 0 ≤ X / d := Int.ediv_nonneg x0 (by omega)
  have h := wdiv_any (X / 18446744073709551616) (X % 18446744073709551616) d w (by omega) (by omega) (by omega) (by omega) d0 d1
  rw [show X / 18446744073709551616 * 18446744073709551616 + X % 18446744073709551616 = X by omega, show X / d / 18446744073709551616 = 0 by omega, show X / d % 18446744073709551616 = X / d by omega] at h
  exact h

set_option maxHeartbeats 400000 in
theorem muldiv_any (a b d : Int) (w : World) (a0 : 0 ≤ a) (a1 : a < 18446744073709551616) (b0 : 0 ≤ b) (b1 : b < 18446744073709551616) (d0 : 0 < d) (d1 : d < 18446744073709551616) (hq : a * b / d < 18446744073709551616) :
    Calls Try.prog 106 #[.int .u64 a, .int .u64 b, .int .u64 d] w fun e w' => e = .returned (.tuple #[.int .u64 (a * b / d), .int .u64 (a * b % d), .int .i64 0]) ∧ Below w.heap.size w w' := by
  obtain ⟨m0, m1⟩ := mul_lt128 a0 a1 b0 b1
  go_enter Try.func106, Try.ntmps106
  go_wp2_with (first | (go_at_call 96; refine (wmul_any _ _ _ a0 a1 b0 b1).mono ?_; rintro e w1 ⟨rfl, hb1⟩; have ⟨hc1, hf1⟩ := bcell hb1; have hz1 := hb1.size; try simp only [World.size_alloc, World.size_setCell, World.size_drew, World.size_drewN] at hz1) | (go_at_call 97; refine (wdiv_small _ _ _ m0 m1 d0 d1 hq).mono ?_; rintro e w2 ⟨rfl, hb2⟩; have ⟨hc2, hf2⟩ := bcell hb2; have hz2 := hb2.size; try simp only [World.size_alloc, World.size_setCell, World.size_drew, World.size_drewN] at hz2))
  all_goals (go_ret3; exact ⟨rfl, by (repeat' (first | (with_reducible exact Below.refl _ _) | (with_reducible refine Below.alloc ?_ ?_ _) | (with_reducible refine Below.drew ?_) | (with_reducible refine below_drewN ?_ _) | (with_reducible refine Below.setCell ?_ ?_ _) | (with_reducible refine below_of (by assumption) ?_ ?_) | go_size))⟩)

/-- MulDiv where the result is at most one of the factors. -/
theorem muldiv_le (a b d : Int) (w : World) (a0 : 0 ≤ a) (a1 : a < 18446744073709551616) (b0 : 0 ≤ b) (b1 : b ≤ d) (d0 : 0 < d) (d1 : d < 18446744073709551616) :
    Calls Try.prog 106 #[.int .u64 a, .int .u64 b, .int .u64 d] w fun e w' => e = .returned (.tuple #[.int .u64 (a * b / d), .int .u64 (a * b % d), .int .i64 0]) ∧ Below w.heap.size w w' :=
  muldiv_any a b d w a0 a1 b0 (by omega) d0 d1 (Int.ediv_lt_of_lt_mul d0 (by have : a * b ≤ a * d := Int.mul_le_mul_of_nonneg_left b1 a0; have : a * d ≤ 18446744073709551615 * d := Int.mul_le_mul_of_nonneg_right (by omega) (by omega); omega))

/-- Between two numbers, at a part of the way. -/
def lerpI (low high at_ of_ : Int) : Int := low + (high - low) * at_ / of_
theorem lerpI_bd {low high x y : Int} (h : low ≤ high) (x0 : 0 ≤ x) (xy : x ≤ y) (y0 : 0 < y) : low ≤ lerpI low high x y ∧ lerpI low high x y ≤ high := by
  have h1 : 0 ≤ (high - low) * x / y := Int.ediv_nonneg (Int.mul_nonneg (by omega) x0) (by omega)
  have h2 : (high - low) * x / y ≤ high - low := by
    have h3 : (high - low) * x ≤ (high - low) * y := Int.mul_le_mul_of_nonneg_left xy (by omega)
    exact Int.ediv_le_of_le_mul y0 h3
  unfold lerpI
  omega

/-- The average of two numbers by their weights, of which neither is 0. -/
def avgI (m v n w : Int) : Int := if n < m then lerpI n m v (v + w) else lerpI m n w (v + w)

set_option maxHeartbeats 400000 in
theorem rcheck_any (num den : Int) (w : World) :
    Calls Try.prog 83 #[.int .u64 num, .int .u64 den] w fun e w' => e = .returned (.int .i64 (if den = 0 ∨ den < num then 7 else 0)) ∧ w = w' := by
  by_cases h : den = 0 ∨ den < num
  · rw [if_pos h]
    have hd : ((den == 0) || decide (den < num)) = true := by simpa using h
    go_enter Try.func83, Try.ntmps83
    go_wp2
    all_goals (go_ret; exact ⟨rfl, rfl⟩)
  · rw [if_neg h]
    have hd : (den == 0) = false := by simp; omega
    go_enter Try.func83, Try.ntmps83
    go_wp2
    all_goals (go_ret; exact ⟨rfl, rfl⟩)

/-- Spot: an error's number, or where a part stands in twice the whole. -/
def spotI (num den n : Int) : Int × Int := if den = 0 ∨ den < num then (0, 7) else if n = 0 then (0, 8) else if 4611686018427387904 < n then (0, 6) else (2 * n * num / den, 0)

end Go.Proofs.Ytigmncogjbbmhaa
