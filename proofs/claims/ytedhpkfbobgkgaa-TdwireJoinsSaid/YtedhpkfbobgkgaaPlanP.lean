/- A region that draws its order and whose calls may panic: the panic is met where the plan comes to the call. No program; the side conditions are the kit's own. -/
import Derived.Test.YtedhpkfbobgkgaaPlan
namespace Go.Proofs.Ytedhpkfbobgkgaa
open Go.RowKit

/-- Q, but at a panic: the slots of K and the deferred calls are those of a0, and X holds. -/
def SoftQ (K : List Nat) (a0 : Act) (X : List PanicEntry → World → Prop) (Q : Exit → Act → World → Prop) : Exit → Act → World → Prop
  | .panic c, a, w => (∀ t ∈ K, a.tmps[t]? = a0.tmps[t]?) ∧ a.defers = a0.defers ∧ X c w
  | e, a, w => Q e a w
def dstFree (K : List Nat) (o : Oper) : Bool := match o.dst with
  | some t => !K.contains t
  | none => true
theorem SoftQ.put {K : List Nat} {a0 : Act} {X : List PanicEntry → World → Prop} {Q : Exit → Act → World → Prop} {o : Oper} (h : dstFree K o = true) {c : List PanicEntry} {a : Act} {w : World} {v : Value} (hp : SoftQ K a0 X Q (.panic c) (a.put o.dst v) w) : SoftQ K a0 X Q (.panic c) a w := by
  obtain ⟨h1, h2, h3⟩ := hp
  unfold dstFree at h
  unfold Act.put at h1 h2
  cases hd : o.dst with
  | none => rw [hd] at h1 h2; exact ⟨h1, h2, h3⟩
  | some t =>
    rw [hd] at h h1 h2
    refine ⟨fun s hs => ?_, h2, h3⟩
    have := h1 s hs
    have hne : t ≠ s := by rintro rfl; simp at h; exact h hs
    simp only [Array.getElem?_setIfInBounds_ne hne] at this
    exact this

section
variable {P : Program} {ops : Array Oper} {md : Region.Mode} {S : World → Prop} {Q : Exit → Act → World → Prop} {K : List Nat} {a0 : Act} {X : List PanicEntry → World → Prop}
def planPB (md : Region.Mode) (K : List Nat) (ops : Array Oper) : List (Nat × Bool) → Array Bool → Bool
  | [], listed => (Region.ready md ops listed).isEmpty
  | (i, true) :: r, listed => (Region.ready md ops listed).contains i && Region.free md ops listed i && ((ops[i]?).map (dstFree K)).getD false && planPB md K ops r (listed.setIfInBounds i true)
  | (i, false) :: r, listed => decide (Region.ready md ops listed = [i]) && planPB md K ops r (listed.setIfInBounds i true)

theorem planP_sound (hsel : Region.noSelect ops = true) : ∀ (l : List (Nat × Bool)) (listed : Array Bool) (a : Act) (w : World), planPB md K ops l listed = true → S w →
    wpPlan P ops (SoftQ K a0 X Q) S l a w → wpAnyH P md ops (SoftQ K a0 X Q) S l.length listed a w
  | [], listed, a, w, hB, _, h => ⟨by simpa [planPB] using hB, h⟩
  | (i, true) :: r, listed, a, w, hB, hS, h => by
    simp only [planPB, Bool.and_eq_true] at hB
    obtain ⟨⟨⟨h1, h2⟩, h3⟩, h4⟩ := hB
    obtain ⟨o, v, ho, hy, hn⟩ := h
    have hd : dstFree K o = true := by rw [ho] at h3; simpa using h3
    exact wpAnyH_take ho hsel h2 h1 (fun c a w hp => SoftQ.put hd hp) hy hS (planP_sound hsel r _ _ w h4 hS hn)
  | (i, false) :: r, listed, a, w, hB, hS, h => by
    simp only [planPB, Bool.and_eq_true, decide_eq_true_eq] at hB
    refine ⟨fun h0 => (by rw [hB.1] at h0; cases h0), fun j hj => ?_⟩
    rw [hB.1] at hj
    have hji : j = i := by simpa using hj
    subst hji
    exact wpOp_mono (fun a' w' h' => ⟨h'.1, planP_sound hsel r _ a' w' hB.2 h'.1 h'.2⟩) h

theorem wp_region_planP {id : Nat} {a : Act} {w : World} (K : List Nat) (X : List PanicEntry → World → Prop) (S : World → Prop) (l : List (Nat × Bool)) (hm : P.follows .mixedOrders = true)
    (hB : (Region.noSelect ops && decide (l.length = ops.size) && planPB .any K ops l (Array.replicate ops.size false)) = true)
    (hX : ∀ c a' w', (∀ t ∈ K, a'.tmps[t]? = a.tmps[t]?) → a'.defers = a.defers → X c w' → Q (.panic c) a' w')
    (hS : S w.drew) (h : wpPlan P ops (SoftQ K a X Q) S l a w.drew) : (Code.region id ops true).wp P Q a w := by
  simp only [Bool.and_eq_true, decide_eq_true_eq] at hB
  have H := planP_sound (Q := Q) hB.1.1 l _ a _ hB.2 hS h
  rw [hB.1.2] at H
  refine Code.wp_mono (fun e a' w' hq => ?_) (wp_region_any hm (wpAny_of_held _ _ _ _ H))
  cases e with
  | panic c => exact hX c a' w' hq.1 hq.2.1 hq.2.2
  | _ => exact hq
theorem wpPlanP_nil {a : Act} {w : World} (h : Q .normal a w) : wpPlan P ops (SoftQ K a0 X Q) S [] a w := h
end
end Go.Proofs.Ytedhpkfbobgkgaa
