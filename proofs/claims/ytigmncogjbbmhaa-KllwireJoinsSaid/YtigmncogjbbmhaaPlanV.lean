/- A plan for a region in which an effect, operation t, turns what later operations read: two conditions on the world, one ahead of t, one behind it. No program; the side conditions are the kit's own. -/
import Derived.Test.YtigmncogjbbmhaaPlan
namespace Go.Proofs.Ytigmncogjbbmhaa
open Go.RowKit

section
variable {P : Program} {ops : Array Oper} {md : Region.Mode} {Sx : Array Bool → World → Prop} {Q : Exit → Act → World → Prop}

def wpAnyV (P : Program) (md : Region.Mode) (ops : Array Oper) (Q : Exit → Act → World → Prop) (Sx : Array Bool → World → Prop) : Nat → Array Bool → Act → World → Prop
  | 0, listed, a, w => Region.ready md ops listed = [] ∧ Q .normal a w
  | fuel + 1, listed, a, w =>
    (Region.ready md ops listed = [] → Q .normal a w) ∧
    ∀ i ∈ Region.ready md ops listed, wpOp P ops Q i (fun a' w' => Sx (listed.setIfInBounds i true) w' ∧ wpAnyV P md ops Q Sx fuel (listed.setIfInBounds i true) a' w') a w
theorem wpAny_of_V : ∀ (fuel : Nat) (listed : Array Bool) (a : Act) (w : World), wpAnyV P md ops Q Sx fuel listed a w → wpAny P md ops Q fuel listed a w
  | 0, _, _, _, h => h
  | fuel + 1, _, _, _, h => ⟨h.1, fun i hi => wpOp_mono (fun a' w' h' => wpAny_of_V fuel _ a' w' h'.2) (h.2 i hi)⟩
/-- The worlds that may be met from here on. -/
def From (Sx : Array Bool → World → Prop) (listed : Array Bool) (w : World) : Prop := ∃ l : Array Bool, (∀ j, listed.getD j true = true → l.getD j true = true) ∧ Sx l w
theorem yieldsIf_less {S S' : World → Prop} {o : Oper} {v : Value} {a : Act} (h : YieldsIf P ops S o v a) (hS : ∀ w, S' w → S w) : YieldsIf P ops S' o v a := h.imp (fun ⟨h1, h2⟩ => ⟨h1, fun w hw => h2 w (hS w hw)⟩) id
theorem from_set {listed : Array Bool} {j : Nat} {w : World} (h : From Sx (listed.setIfInBounds j true) w) : From Sx listed w := by
  obtain ⟨l, h1, h2⟩ := h
  refine ⟨l, fun k hk => h1 k ?_, h2⟩
  by_cases e : j = k
  · subst e
    rcases Nat.lt_or_ge j listed.size with h3 | h3
    · simp [h3]
    · rw [Array.setIfInBounds_eq_of_size_le (by omega)]; exact hk
  · rw [getD_set_ne true e]; exact hk
theorem wpAnyV_first {i : Nat} {oi : Oper} {v : Value} (hi : ops[i]? = some oi) (hsel : ∀ (j : Nat) (o : Oper) cs b, ops[j]? = some o → o.op ≠ .select cs b)
    (hQ : ∀ c a w, Q (.panic c) (a.put oi.dst v) w → Q (.panic c) a w) (hx : ∀ l w, Sx (l.setIfInBounds i true) w ↔ Sx l w) :
    ∀ (fuel : Nat) (listed : Array Bool) (a : Act) (w : World),
      (∀ j oj, ops[j]? = some oj → j ≠ i → listed.getD j true = false → (∀ e ∈ oj.after, Region.binds md e = true → e.on ≠ i) → oi.apart ops oj = true) →
      i ∈ Region.ready md ops listed → YieldsIf P ops (From Sx listed) oi v a → Sx listed w →
      wpAnyV P md ops Q Sx fuel (listed.setIfInBounds i true) (a.put oi.dst v) w → wpAnyV P md ops Q Sx (fuel + 1) listed a w := by
  intro fuel
  induction fuel with
  | zero =>
    intro listed a w _ hr hy hS H
    refine ⟨fun h => (by rw [h] at hr; cases hr), fun j hj => ?_⟩
    by_cases hji : j = i
    · subst hji; exact hy.wpOp hi ⟨listed, fun _ h => h, hS⟩ ⟨(hx _ _).2 hS, H⟩
    · have := ready_mono hj hji
      rw [H.1] at this
      cases this
  | succ fuel ih =>
    intro listed a w hfree hr hy hS H
    refine ⟨fun h => (by rw [h] at hr; cases hr), fun j hj => ?_⟩
    by_cases hji : j = i
    · subst hji; exact hy.wpOp hi ⟨listed, fun _ h => h, hS⟩ ⟨(hx _ _).2 hS, H⟩
    · have h1 := H.2 j (ready_mono hj hji)
      obtain ⟨hjun, oj, hoj, hall⟩ := mem_ready.1 hj
      have hnot : ∀ e ∈ oj.after, Region.binds md e = true → e.on ≠ i := fun e he hb heq => by
        have h1 := hall e he hb
        have h0 := (mem_ready.1 hr).1
        rw [heq] at h1
        rcases Nat.lt_or_ge i listed.size with h' | h'
        · simp [h'] at h0 h1; rw [h0] at h1; cases h1
        · simp [Array.getElem?_eq_none h'] at h1
      have h2 := wpOp_putIf hoj (hfree j oj hoj hji hjun hnot) (fun cs b => hsel i oi cs b hi) (fun cs b => hsel j oj cs b hoj) hQ hy h1
      have hfree' : ∀ k ok, ops[k]? = some ok → k ≠ i → (listed.setIfInBounds j true).getD k true = false →
          (∀ e ∈ ok.after, Region.binds md e = true → e.on ≠ i) → oi.apart ops ok = true := fun k ok hk hki hun hno => by
        refine hfree k ok hk hki ?_ hno
        by_cases hjk : j = k
        · subst hjk; exact hjun
        · rw [getD_set_ne true hjk] at hun; exact hun
      refine wpOp_mono (fun a' w' h3 => ?_) h2
      have h4 := h3.2.1
      rw [Array.setIfInBounds_comm _ _ (Ne.symm hji)] at h4
      have h5 := (hx _ _).1 h4
      refine ⟨h5, ih (listed.setIfInBounds j true) a' w' hfree' (ready_mono hr (Ne.symm hji)) (yieldsIf_less h3.1 fun _ => from_set) h5 ?_⟩
      rw [Array.setIfInBounds_comm _ _ hji]
      exact h3.2.2
end

section
variable {P : Program} {ops : Array Oper} {S0 S1 : World → Prop} {t : Nat} {Q : Exit → Act → World → Prop}
def Two01 (S0 S1 : World → Prop) (t : Nat) (l : Array Bool) (w : World) : Prop := if l.getD t true = true then S1 w else S0 w
theorem two01_set {i : Nat} (h : i ≠ t) (l : Array Bool) (w : World) : Two01 S0 S1 t (l.setIfInBounds i true) w ↔ Two01 S0 S1 t l w := by
  unfold Two01
  rw [getD_set_ne true h]
def planVB (md : Region.Mode) (ops : Array Oper) (t : Nat) : Bool → List (Nat × Bool) → Array Bool → Bool
  | _, [], listed => (Region.ready md ops listed).isEmpty
  | d, (i, true) :: r, listed => decide (i ≠ t) && (listed.getD t true == d) && (Region.ready md ops listed).contains i && Region.free md ops listed i && planVB md ops t d r (listed.setIfInBounds i true)
  | d, (i, false) :: r, listed => (listed.getD t true == d) && ((listed.setIfInBounds i true).getD t true == (d || i == t)) && decide (Region.ready md ops listed = [i]) && planVB md ops t (d || i == t) r (listed.setIfInBounds i true)
def wpPlanV (P : Program) (ops : Array Oper) (Q : Exit → Act → World → Prop) (S0 S1 : World → Prop) (t : Nat) : Bool → List (Nat × Bool) → Act → World → Prop
  | _, [], a, w => Q .normal a w
  | d, (i, true) :: r, a, w => ∃ o v, ops[i]? = some o ∧ YieldsIf P ops (fun w => S1 w ∨ (d = false ∧ S0 w)) o v a ∧ wpPlanV P ops Q S0 S1 t d r (a.put o.dst v) w
  | d, (i, false) :: r, a, w => wpOp P ops Q i (fun a' w' => (if (d || i == t) = true then S1 w' else S0 w') ∧ wpPlanV P ops Q S0 S1 t (d || i == t) r a' w') a w
theorem planV_sound {md : Region.Mode} (hsel : Region.noSelect ops = true) (hQ : ∀ c a w, ¬ Q (.panic c) a w) : ∀ (l : List (Nat × Bool)) (d : Bool) (listed : Array Bool) (a : Act) (w : World), planVB md ops t d l listed = true → (if d = true then S1 w else S0 w) →
    wpPlanV P ops Q S0 S1 t d l a w → wpAnyV P md ops Q (Two01 S0 S1 t) l.length listed a w
  | [], d, listed, a, w, hB, _, h => ⟨by simpa [planVB] using hB, h⟩
  | (i, true) :: r, d, listed, a, w, hB, hS, h => by
    simp only [planVB, Bool.and_eq_true, decide_eq_true_eq, beq_iff_eq] at hB
    obtain ⟨o, v, ho, hy, hn⟩ := h
    have hS' : Two01 S0 S1 t listed w := by unfold Two01; rw [hB.1.1.1.2]; exact hS
    refine wpAnyV_first ho (Region.noSelect_spec hsel) (fun c a w hp => absurd hp (hQ c _ w)) (two01_set hB.1.1.1.1) _ listed a w (Region.free_spec ho hB.1.2) (by simpa using hB.1.1.2) (yieldsIf_less hy ?_) hS' (planV_sound hsel hQ r d _ _ w hB.2 hS hn)
    rintro w' ⟨l, h1, h2⟩
    unfold Two01 at h2
    by_cases e : l.getD t true = true
    · rw [if_pos e] at h2; exact .inl h2
    · rw [if_neg e] at h2
      refine .inr ⟨?_, h2⟩
      cases d with
      | false => rfl
      | true => exact absurd (h1 t hB.1.1.1.2) e
  | (i, false) :: r, d, listed, a, w, hB, hS, h => by
    simp only [planVB, Bool.and_eq_true, decide_eq_true_eq, beq_iff_eq] at hB
    refine ⟨fun h0 => (by rw [hB.1.2] at h0; cases h0), fun j hj => ?_⟩
    rw [hB.1.2] at hj
    have hji : j = i := by simpa using hj
    subst hji
    refine wpOp_mono (fun a' w' h' => ⟨?_, planV_sound hsel hQ r _ _ a' w' hB.2 h'.1 h'.2⟩) h
    unfold Two01
    rw [hB.1.1.2]
    exact h'.1
theorem wp_region_planV {id : Nat} {a : Act} {w : World} (S0 S1 : World → Prop) (t : Nat) (l : List (Nat × Bool)) (hm : P.follows .mixedOrders = true)
    (hB : (Region.noSelect ops && decide (l.length = ops.size) && planVB .any ops t false l (Array.replicate ops.size false)) = true)
    (hS : S0 w.drew) (h : wpPlanV P ops (Calm Q) S0 S1 t false l a w.drew) : (Code.region id ops true).wp P Q a w := by
  simp only [Bool.and_eq_true, decide_eq_true_eq] at hB
  have H := planV_sound (Q := Calm Q) (S0 := S0) (S1 := S1) (t := t) (md := .any) hB.1.1 (fun _ _ _ h => h) l false _ a _ hB.2 hS h
  rw [hB.1.2] at H
  exact Code.wp_mono Calm.imp (wp_region_any hm (wpAny_of_V _ _ _ _ H))
theorem wpPlanV_read {d : Bool} {i : Nat} {r : List (Nat × Bool)} {a : Act} {w : World} {o : Oper} (ho : ops[i]? = some o) (hw : Region.wanted o (yielded ops a.tmps) = true)
    (h : ∀ R : Act → Prop, (∀ a', wpPlanV P ops Q S0 S1 t d r a' w → R a') → ∃ v, (∀ w', (S1 w' ∨ (d = false ∧ S0 w')) → IsVal v w' ((execOp a.eval o).run P w')) ∧ R (a.put o.dst v)) : wpPlanV P ops Q S0 S1 t d ((i, true) :: r) a w := by
  obtain ⟨v, h1, h2⟩ := h _ (fun _ h => h)
  refine ⟨o, v, ho, .inl ⟨hw, fun w' hS => ?_⟩, h2⟩
  have h3 := h1 w' hS
  generalize (execOp a.eval o).run P w' = x at *
  cases x with
  | ok n w'' => obtain ⟨rfl, rfl⟩ := h3; rfl
  | halt x w'' => exact h3.elim
theorem wpPlanV_do {d : Bool} {i : Nat} {r : List (Nat × Bool)} {a : Act} {w : World} {o : Oper} (ho : ops[i]? = some o) (hw : Region.wanted o (yielded ops a.tmps) = true) (d' : Bool) (hd : (d || i == t) = d')
    (h : ∀ K : Act → World → Prop, (∀ a' w', (if d' = true then S1 w' else S0 w') → wpPlanV P ops Q S0 S1 t d' r a' w' → K a' w') → o.wp P a w K Q) : wpPlanV P ops Q S0 S1 t d ((i, false) :: r) a w := by
  subst hd
  unfold wpPlanV wpOp
  simp only [ho, hw, if_true]
  exact .inl (h _ fun _ _ h1 h2 => ⟨h1, h2⟩)
theorem wpPlanV_skip {d : Bool} {i : Nat} {r : List (Nat × Bool)} {a : Act} {w : World} {o : Oper} (ho : ops[i]? = some o) (hw : Region.wanted o (yielded ops a.tmps) = false)
    (h : wpPlanV P ops Q S0 S1 t d r (a.put o.dst undef) w) : wpPlanV P ops Q S0 S1 t d ((i, true) :: r) a w := ⟨o, undef, ho, .inr ⟨hw, rfl⟩, h⟩
theorem wpPlanV_nil {d : Bool} {a : Act} {w : World} (h : Q .normal a w) : wpPlanV P ops (Calm Q) S0 S1 t d [] a w := h
end
end Go.Proofs.Ytigmncogjbbmhaa
