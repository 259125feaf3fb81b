/- sort.Search; At and Upto of the program's digest. -/
import Derived.Test.YtedhpkfbobgkgaaDigI
namespace Go.Proofs.Ytedhpkfbobgkgaa
open Go.RowKit Go.Lib

def Found (n : Nat) (p : Nat → Bool) (w : World) (e : Ending) (w' : World) : Prop := ∃ i q : Nat, e = .returned (.int .i64 i) ∧ i ≤ n ∧ (∀ t, t < i → p t = false) ∧ (∀ t, i ≤ t → t < n → p t = true) ∧ w' = w.drewN q

set_option maxRecDepth 100000 in
set_option maxHeartbeats 2000000 in
theorem search_any (K : Nat) (cb : Array Value) (n : Nat) (p : Nat → Bool) (w : World) (eg : ∀ args w, (callFunc K args).run Try.prog w = .ok (.enter K args) w) (hsz : n < 4611686018427387904)
    (hf : ∀ (m i : Nat), i < n → Calls Try.prog K (#[.int .i64 i] ++ cb) (w.drewN m) fun e w' => e = .returned (.bool (p i)) ∧ ∃ q, w' = (w.drewN m).drewN q)
    (hmono : ∀ a b, a ≤ b → b < n → p a = true → p b = true) :
    Calls Try.prog 56 #[.int .i64 n, .func (.func K) #[] cb] w (Found n p w) := by
  have HF := Lib.hid hf
  have M := Lib.hid hmono
  clear hf hmono
  go_enter Try.func56, Try.ntmps56
  go_wp2_with fail
  go_loopg [5, 6] n (fun kx s5 s6 wr => ∃ lo hi q : Nat, s5 = .int .i64 lo ∧ s6 = .int .i64 hi ∧ lo ≤ hi ∧ hi ≤ n ∧ hi - lo ≤ kx ∧ wr = w.drewN q ∧
    Hid ((∀ t, t < lo → p t = false) ∧ (∀ t, hi ≤ t → t < n → p t = true)))
  case atStart => exact ⟨0, n, 0, rfl, rfl, Nat.zero_le _, Nat.le_refl _, by omega, rfl, (⟨fun t ht => absurd ht (Nat.not_lt_zero _), fun t h1 h2 => by omega⟩ : (∀ t, t < 0 → p t = false) ∧ (∀ t, n ≤ t → t < n → p t = true))⟩
  case round =>
    obtain ⟨lo, hi, q, rfl, rfl, hlh, hin, hg, rfl, I⟩ := hrel
    by_cases hlt : lo < hi
    · have hc := HF.out q ((lo + hi) / 2) (by omega)
      rw [show (((lo + hi) / 2 : Nat) : Int) = ((lo : Int) + (hi : Int)) / 2 by omega] at hc
      cases hp : p ((lo + hi) / 2) <;> rw [hp] at hc
      · have HP := Lib.hid hp
        have HC := Lib.hid hc
        clear hp hc
        go_wp2_with (go_at_fn K; refine HC.out.mono ?_; rintro e w' ⟨rfl, nq, rfl⟩)
        go_roundg (hi - ((lo + hi) / 2 + 1))
        case measure => omega
        case rel =>
          have I2 : Hid ((∀ t, t < (lo + hi) / 2 + 1 → p t = false) ∧ (∀ t, hi ≤ t → t < n → p t = true)) := ⟨fun t ht => (by
            cases h : p t with
            | false => rfl
            | true => have := M.out t ((lo + hi) / 2) (by omega) (by omega) h; rw [HP.out] at this; cases this), I.out.2⟩
          exact ⟨(lo + hi) / 2 + 1, hi, q + nq, by rw [show ((lo : Int) + (hi : Int)) / 2 + 1 = (((lo + hi) / 2 + 1 : Nat) : Int) by omega], rfl, by omega, hin, Nat.le_refl _, rfl, I2⟩
      · have HP := Lib.hid hp
        have HC := Lib.hid hc
        clear hp hc
        go_wp2_with (go_at_fn K; refine HC.out.mono ?_; rintro e w' ⟨rfl, nq, rfl⟩)
        go_roundg ((lo + hi) / 2 - lo)
        case measure => omega
        case rel =>
          have I2 : Hid ((∀ t, t < lo → p t = false) ∧ (∀ t, (lo + hi) / 2 ≤ t → t < n → p t = true)) := ⟨I.out.1, fun t ht htn => M.out ((lo + hi) / 2) t ht htn HP.out⟩
          exact ⟨lo, (lo + hi) / 2, q + nq, rfl, by rw [show ((lo : Int) + (hi : Int)) / 2 = (((lo + hi) / 2 : Nat) : Int) by omega], by omega, by omega, Nat.le_refl _, rfl, I2⟩
    · obtain rfl : hi = lo := by omega
      go_wp2_with fail
      go_ret
      exact ⟨hi, q, rfl, hin, I.out.1, I.out.2, rfl⟩

set_option maxRecDepth 100000 in
set_option maxHeartbeats 2000000 in
theorem at1_any (ba bx blk off c : Nat) (l : List Pt) (x : Int) (i : Nat) (W : World) (hi : i < l.length) (_hl : l.length ≤ 1099511627776)
    (ha : W.cell? ⟨ba, 0, none⟩ = some (.slice (some ⟨blk, off, none⟩) l.length c)) (hx : W.cell? ⟨bx, 0, none⟩ = some (.int .u64 x)) (hc : W.cell? ⟨blk, off + i * 2 + 1, none⟩ = some (.int .u64 l[i].2)) :
    Calls Try.prog 57 (#[.int .i64 i] ++ #[.pointer (some ⟨ba, 0, none⟩), .pointer (some ⟨bx, 0, none⟩)]) W fun e w' => e = .returned (.bool (decide (x < l[i].2))) ∧ ∃ q, w' = W.drewN q := by
  generalize l[i].2 = y at hc ⊢
  have hiz : (i : Int) < (l.length : Int) := by omega
  have hi0 : (0 : Int) ≤ (i : Int) := by omega
  go_enter Try.func57, Try.ntmps57
  go_wp2_with fail
  go_quiet (fail)
  go_wp2_with fail
  go_ret
  exact ⟨rfl, _, rfl⟩
set_option maxRecDepth 100000 in
set_option maxHeartbeats 2000000 in
theorem upto1_any (ba bx blk off c : Nat) (l : List Pt) (x : Int) (i : Nat) (W : World) (hi : i < l.length) (_hl : l.length ≤ 1099511627776)
    (ha : W.cell? ⟨ba, 0, none⟩ = some (.slice (some ⟨blk, off, none⟩) l.length c)) (hx : W.cell? ⟨bx, 0, none⟩ = some (.int .i64 x)) (hc : W.cell? ⟨blk, off + i * 2, none⟩ = some (.int .i64 l[i].1)) :
    Calls Try.prog 59 (#[.int .i64 i] ++ #[.pointer (some ⟨ba, 0, none⟩), .pointer (some ⟨bx, 0, none⟩)]) W fun e w' => e = .returned (.bool (decide (x < l[i].1))) ∧ ∃ q, w' = W.drewN q := by
  generalize l[i].1 = y at hc ⊢
  have hiz : (i : Int) < (l.length : Int) := by omega
  have hi0 : (0 : Int) ≤ (i : Int) := by omega
  go_enter Try.func59, Try.ntmps59
  go_wp2_with fail
  go_quiet (fail)
  go_wp2_with fail
  go_ret
  exact ⟨rfl, _, rfl⟩
end Go.Proofs.Ytedhpkfbobgkgaa
