/- The operators of a condition. No condition. -/
import Derived.Test.YtmfocgaojbebgaaDoorLbK
import Derived.Laws.EntriesVeiled
namespace Go.Proofs.YtmfocgaojbebgaaDoor
open Go.RowKit

def fnF (k : Nat) : Value := .func (.func k) #[] #[]
def fnNot (h : Nat) : Value := .func (.func 54) #[] #[.pointer (some ⟨h, 0, none⟩)]
set_option maxHeartbeats 400000 in
theorem opSame_t (a b : Tx) (w : World) : Calls Tryd.prog 55 #[.string (bsOf a), .string (bsOf b)] w fun e w' => e = .returned (.bool (a == b)) ∧ w = w' := by
  have t1 := bsOf_toList a
  have t2 := bsOf_toList b
  go_enter Tryd.func55, Tryd.ntmps55
  go_wp2_with fail
  go_ret
  exact ⟨rfl, rfl⟩
set_option maxHeartbeats 400000 in
theorem opPre_t (a b : Tx) (w : World) : Calls Tryd.prog 56 #[.string (bsOf a), .string (bsOf b)] w fun e w' => e = .returned (.bool (b.isPrefixOf a)) ∧ w = w' := by
  have h := Tryd.strings_HasPrefix (bsOf a) (bsOf b) w
  rw [bsOf_data, bsOf_data] at h
  exact h.mono fun e w' he => ⟨he.1, he.2.symm⟩
set_option maxHeartbeats 400000 in
theorem opNot_t (h k : Nat) (a b : Tx) (r : Bool) (w : World) (hc : w.cell? ⟨h, 0, none⟩ = some (fnF k))
    (hk : k = 55 ∧ r = (a == b) ∨ k = 56 ∧ r = b.isPrefixOf a) :
    Calls Tryd.prog 54 #[.string (bsOf a), .string (bsOf b), .pointer (some ⟨h, 0, none⟩)] w fun e w' => e = .returned (.bool (!r)) ∧ w = w' := by
  unfold fnF at hc
  rcases hk with ⟨rfl, hr⟩ | ⟨rfl, hr⟩
  · have HR := Lib.hid hr
    clear hr
    go_enter Tryd.func54, Tryd.ntmps54
    go_wp2_with fail
    refine (opSame_t a b w).mono ?_
    rintro e w1 ⟨rfl, rfl⟩
    go_wp2_with fail
    go_ret
    exact ⟨by rw [HR.out]; rfl, rfl⟩
  · have HR := Lib.hid hr
    clear hr
    go_enter Tryd.func54, Tryd.ntmps54
    go_wp2_with fail
    refine (opPre_t a b w).mono ?_
    rintro e w1 ⟨rfl, rfl⟩
    go_wp2_with fail
    go_ret
    exact ⟨by rw [HR.out]; rfl, rfl⟩
set_option maxRecDepth 100000 in
set_option maxHeartbeats 1000000 in
theorem operators_any (w : World) : Calls Tryd.prog 38 #[] w fun e w' => ∃ h1 h2 : Nat, e = .returned (.agg #[.string ⟨#[33, 61]⟩, fnNot h1, .string ⟨#[33, 126]⟩, fnNot h2, .string ⟨#[61]⟩, fnF 55, .string ⟨#[126]⟩, fnF 56]) ∧
    w'.cell? ⟨h1, 0, none⟩ = some (fnF 55) ∧ w'.cell? ⟨h2, 0, none⟩ = some (fnF 56) ∧ h1 < w'.heap.size ∧ h2 < w'.heap.size ∧ Below w.heap.size w w' := by
  unfold fnF fnNot
  go_enter Tryd.func38, Tryd.ntmps38
  go_wp2
  refine bodyPost_ret (v := .agg #[.string ⟨#[33, 61]⟩, .func (.func 54) #[] #[.pointer (some ⟨w.heap.size + 1, 0, none⟩)], .string ⟨#[33, 126]⟩, .func (.func 54) #[] #[.pointer (some ⟨w.heap.size + 2, 0, none⟩)], .string ⟨#[61]⟩, .func (.func 55) #[] #[], .string ⟨#[126]⟩, .func (.func 56) #[] #[]]) ?_ rfl ⟨w.heap.size + 1, w.heap.size + 2, rfl, ?_, ?_, ?_, ?_, ?_⟩
  · simp [results, Tryd.results38, go_sem]
  · go_simp
  · go_simp
  · simp
  · simp
  · (repeat' (first | (with_reducible exact Below.refl _ _) | (with_reducible refine Below.alloc ?_ ?_ _) | (with_reducible refine Below.drew ?_) | (with_reducible refine below_drewN ?_ _) | (with_reducible refine Below.setCell ?_ ?_ _) | (with_reducible refine below_of (by assumption) ?_ ?_) | go_size))
end Go.Proofs.YtmfocgaojbebgaaDoor
