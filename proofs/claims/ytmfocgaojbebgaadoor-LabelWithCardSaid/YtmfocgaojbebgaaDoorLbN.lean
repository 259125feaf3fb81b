/- Fits: which sets meet conditions. No condition. -/
import Derived.Test.YtmfocgaojbebgaaDoorLbM
namespace Go.Proofs.YtmfocgaojbebgaaDoor
open Go.RowKit

def cdE : Lie Cd where
  k := 3
  t := 39
  enc x := [.string (bsOf x.1), .string (bsOf x.2.1), .string (bsOf x.2.2)]
  len _ := rfl
  one x u hu := by
    simp only [List.mem_cons, List.not_mem_nil, or_false] at hu
    rcases hu with rfl | rfl | rfl <;> rfl
theorem EForm.cd {w : World} {A : Option Addr} {l : List Cd} (h : EForm cdE w A l) {j : Nat} (hj : j < l.length) :
    ∃ g off, A = some ⟨g, off, none⟩ ∧ g < w.heap.size ∧ w.cell? ⟨g, off + j * 3, none⟩ = some (.string (bsOf l[j].1)) ∧ w.cell? ⟨g, off + j * 3 + 1, none⟩ = some (.string (bsOf l[j].2.1)) ∧ w.cell? ⟨g, off + j * 3 + 2, none⟩ = some (.string (bsOf l[j].2.2)) := by
  obtain ⟨g, off, hA, hg, hc⟩ := h (by omega)
  exact ⟨g, off, hA, hg, hc j hj 0 (by decide), hc j hj 1 (by decide), hc j hj 2 (by decide)⟩
def signs : List Tx := [[33, 61], [33, 126], [61], [126]]
def okAt (l : List Lb) (x : Cd) (i : Nat) : Bool := (signs.take i).contains x.2.1 && holdsT l x
theorem okAt_end (l : List Lb) (x : Cd) : okAt l x 4 = holdsT l x := by
  unfold okAt
  cases h : (signs.take 4).contains x.2.1
  · have h1 : ∀ s ∈ signs, ¬ (x.2.1 == s) = true := fun s hs e => by
      have : x.2.1 = s := by simpa using e
      rw [← Bool.not_eq_true] at h
      exact h (by simp only [signs, List.take] at hs ⊢; simp only [List.contains_iff_mem]; rw [this]; exact hs)
    unfold holdsT
    rw [if_neg (h1 [61] (by simp [signs])), if_neg (h1 [33, 61] (by simp [signs])), if_neg (h1 [126] (by simp [signs])), if_neg (h1 [33, 126] (by simp [signs]))]; rfl
  · rfl
theorem okAt_miss (l : List Lb) (x : Cd) (i : Nat) (hi : i < signs.length) (h : x.2.1 ≠ signs[i]) : okAt l x (i + 1) = okAt l x i := by
  unfold okAt
  rw [List.take_succ_eq_append_getElem hi]
  congr 1
  rw [Bool.eq_iff_iff]
  simp only [List.contains_iff_mem, List.mem_append, List.mem_singleton]
  exact ⟨fun h1 => h1.resolve_right h, .inl⟩
theorem okAt_hit (l : List Lb) (x : Cd) (i : Nat) (hi : i < signs.length) (h : x.2.1 = signs[i]) : okAt l x (i + 1) = holdsT l x := by
  unfold okAt
  have : (signs.take (i + 1)).contains x.2.1 = true := by
    rw [List.take_succ_eq_append_getElem hi]
    simp only [List.contains_iff_mem, List.mem_append, List.mem_singleton]
    exact .inr h
  rw [this]; rfl
/-- The operators' array. -/
def opsV (h1 h2 : Nat) : Value := .agg #[.string ⟨#[33, 61]⟩, fnNot h1, .string ⟨#[33, 126]⟩, fnNot h2, .string ⟨#[61]⟩, fnF 55, .string ⟨#[126]⟩, fnF 56]
theorem opsV_0 (h1 h2 : Nat) (w : World) : (Instr.index 70 (opsV h1 h2) (.int .i64 0)).run Tryd.prog w = .ok (.agg #[.string ⟨#[33, 61]⟩, fnNot h1]) w := by kernel_rfl
theorem opsV_1 (h1 h2 : Nat) (w : World) : (Instr.index 70 (opsV h1 h2) (.int .i64 1)).run Tryd.prog w = .ok (.agg #[.string ⟨#[33, 126]⟩, fnNot h2]) w := by kernel_rfl
theorem opsV_2 (h1 h2 : Nat) (w : World) : (Instr.index 70 (opsV h1 h2) (.int .i64 2)).run Tryd.prog w = .ok (.agg #[.string ⟨#[61]⟩, fnF 55]) w := by kernel_rfl
theorem opsV_3 (h1 h2 : Nat) (w : World) : (Instr.index 70 (opsV h1 h2) (.int .i64 3)).run Tryd.prog w = .ok (.agg #[.string ⟨#[126]⟩, fnF 56]) w := by kernel_rfl
theorem opsF_0 (h1 h2 : Nat) (w : World) : (Instr.index 70 (opsV h1 h2) (.int .i64 0)).run Tryd.prog w = .ok (.agg #[.string ⟨#[33, 61]⟩, .func (.func 54) #[] #[.pointer (some ⟨h1, 0, none⟩)]]) w := opsV_0 h1 h2 w
theorem opsF_1 (h1 h2 : Nat) (w : World) : (Instr.index 70 (opsV h1 h2) (.int .i64 1)).run Tryd.prog w = .ok (.agg #[.string ⟨#[33, 126]⟩, .func (.func 54) #[] #[.pointer (some ⟨h2, 0, none⟩)]]) w := opsV_1 h1 h2 w
theorem opsF_2 (h1 h2 : Nat) (w : World) : (Instr.index 70 (opsV h1 h2) (.int .i64 2)).run Tryd.prog w = .ok (.agg #[.string ⟨#[61]⟩, .func (.func 55) #[] #[]]) w := opsV_2 h1 h2 w
theorem opsF_3 (h1 h2 : Nat) (w : World) : (Instr.index 70 (opsV h1 h2) (.int .i64 3)).run Tryd.prog w = .ok (.agg #[.string ⟨#[126]⟩, .func (.func 56) #[] #[]]) w := opsV_3 h1 h2 w
theorem holds_0 (l : List Lb) (x : Cd) (h : x.2.1 = [33, 61]) : holdsT l x = !(getT l x.1 == x.2.2) := by unfold holdsT; rw [h]; rfl
theorem holds_1 (l : List Lb) (x : Cd) (h : x.2.1 = [33, 126]) : holdsT l x = !(x.2.2.isPrefixOf (getT l x.1)) := by unfold holdsT; rw [h]; rfl
theorem holds_2 (l : List Lb) (x : Cd) (h : x.2.1 = [61]) : holdsT l x = (getT l x.1 == x.2.2) := by unfold holdsT; rw [h]; rfl
theorem holds_3 (l : List Lb) (x : Cd) (h : x.2.1 = [126]) : holdsT l x = x.2.2.isPrefixOf (getT l x.1) := by unfold holdsT; rw [h]; rfl
theorem operators_t (w : World) : Calls Tryd.prog 38 #[] w fun e w' => ∃ h1 h2 : Nat, e = .returned (opsV h1 h2) ∧ w'.cell? ⟨h1, 0, none⟩ = some (fnF 55) ∧ w'.cell? ⟨h2, 0, none⟩ = some (fnF 56) ∧ h1 < w'.heap.size ∧ h2 < w'.heap.size ∧ Below w.heap.size w w' := operators_any w
theorem fits_bad {l : List Lb} {cs : List Cd} {j : Nat} (hj : j < cs.length) (h : holdsT l cs[j] = false) : fitsT l cs = false := by
  unfold fitsT
  have : cs.all (holdsT l) = false := by
    rw [← Bool.not_eq_true, List.all_eq_true]
    intro h1
    rw [h1 _ (List.getElem_mem hj)] at h; cases h
  rw [this, Bool.and_false]
theorem fits_good {l : List Lb} {cs : List Cd} (hr : rightL l = true) (h : ∀ j (hj : j < cs.length), holdsT l cs[j] = true) : fitsT l cs = true := by
  unfold fitsT
  rw [hr, Bool.true_and, List.all_eq_true]
  intro x hx
  obtain ⟨j, hj, rfl⟩ := List.getElem_of_mem hx
  exact h j hj
end Go.Proofs.YtmfocgaojbebgaaDoor
