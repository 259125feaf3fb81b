/- A level more behind an append; Add of both, and what it leaves alone. Conditions: sizes from 8 to 4096. -/
import Derived.Test.YtigmncogjbbmhaaKlZ
namespace Go.Proofs.Ytigmncogjbbmhaa
open Go.RowKit

/-- A level more, behind an append. -/
theorem StG.push {t : TypeId} {a : Value} {rest : List Value} {F : Nat → Prop} {w w1 : World} {g : Nat} {lv lv' : Value} {vs : List Sv} {L : LL} {s : Sv} {l : List Int} (h : StG t a rest F w g lv vs L) (ho : OwnE slE 0 w1 lv' (vs ++ [s])) (hg : w.grownBy w1 lv.ownBlock)
    (hn : lv'.ownBlock = lv.ownBlock ∨ lv'.ownBlock = some w.heap.size) (hs : OwnE i64E 0 w (svV s) l) (hf : ∀ k, (svV s).ownBlock = some k → ¬ F k) :
    StG t a rest (fun k => F k ∨ lv'.ownBlock = some k ∨ (svV s).ownBlock = some k) (w1.setCell ⟨g, 1, none⟩ lv') g lv' (vs ++ [s]) (L ++ [l]) := by
  have hgl := h.blk.lt
  have hz : w.heap.size ≤ w1.heap.size := hg.size
  have hg' : lv'.ownBlock ≠ some g := by
    rcases hn with e | e
    · rw [e]; exact h.g1
    · rw [e]; intro e2; injection e2 with e2; omega
  have hsg : (svV s).ownBlock ≠ some g := fun e => hf g e h.fg
  have hslt : ∀ k, (svV s).ownBlock = some k → k < w.heap.size := fun k e => (hs.lt k e).2
  have hsl : ∀ k, (svV s).ownBlock = some k → lv.ownBlock ≠ some k := fun k e e2 => hf k e (h.lev.fl k e2)
  have hsl' : ∀ k, (svV s).ownBlock = some k → lv'.ownBlock ≠ some k := fun k e => by
    rcases hn with e2 | e2
    · rw [e2]; exact hsl k e
    · rw [e2]; intro e3; injection e3 with e3; have := hslt k e; omega
  have hblk : ∀ k, k < w.heap.size → lv.ownBlock ≠ some k → k ≠ g → (w1.setCell ⟨g, 1, none⟩ lv').heap[k]? = w.heap[k]? := fun k h1 h2 h3 =>
    (Below.heap_setCell w1 ⟨g, 1, none⟩ lv' k h3).trans (hg.block k h1 (fun e => h2 e.symm))
  have hone : ∀ i (hi : i < (vs ++ [s]).length), ∀ k, (svV ((vs ++ [s])[i])).ownBlock = some k → (∃ hi' : i < vs.length, (svV vs[i]).ownBlock = some k) ∨ (i = vs.length ∧ (svV s).ownBlock = some k) := fun i hi k e => by
    rcases Nat.lt_or_ge i vs.length with h1 | h1
    · rw [List.getElem_append_left h1] at e; exact .inl ⟨h1, e⟩
    · have hi' : i = vs.length := by rw [List.length_append] at hi; simp only [List.length_singleton] at hi; omega
      subst hi'
      simp only [List.getElem_append_right (Nat.le_refl _), Nat.sub_self, List.getElem_cons_zero] at e
      exact .inr ⟨rfl, e⟩
  have hfar : ∀ i (hi : i < vs.length) k, (svV vs[i]).ownBlock = some k → lv'.ownBlock ≠ some k := fun i hi k e => by
    rcases hn with e2 | e2
    · rw [e2]; exact h.lev.apart i hi k e
    · rw [e2]; intro e3; injection e3 with e3; have := h.lev.lt hi k e; omega
  refine ⟨?_, ⟨?_, by rw [List.length_append, List.length_append, h.lev.len]; rfl, fun i hi => ?_, fun i hi k e => ?_, fun i j hi hj hij k e e2 => ?_, fun k e => .inr (.inl e), fun i hi k e => ?_⟩, .inl h.fg, hg', fun i hi e => ?_, fun k hk => ?_⟩
  · have h1 : Blk w1 g t (a :: lv :: rest).toArray := (hg.block g hgl (fun e => h.g1 e.symm)).trans h.blk
    have := h1.set_ 1 lv'
    simpa using this
  · exact ho.far hg' lv'
  · rcases Nat.lt_or_ge i vs.length with h1 | h1
    · rw [List.getElem_append_left h1]
      have e : lvl (L ++ [l]) i = lvl L i := by
        unfold lvl
        simp only [List.getD]
        rw [List.getElem?_append_left (by rw [← h.lev.len]; exact h1)]
      rw [e]
      exact (h.lev.each i h1).stay fun k e => hblk k (h.lev.lt h1 k e) (h.lev.apart i h1 k e) (fun e2 => h.g2 i h1 (by rw [e, e2]))
    · have hi' : i = vs.length := by rw [List.length_append] at hi; simp only [List.length_singleton] at hi; omega
      subst hi'
      have e : lvl (L ++ [l]) vs.length = l := by
        unfold lvl
        simp only [List.getD]
        rw [h.lev.len, List.getElem?_append_right (Nat.le_refl _)]; simp
      rw [e]
      simp only [List.getElem_append_right (Nat.le_refl _), Nat.sub_self, List.getElem_cons_zero]
      exact hs.stay fun k e => hblk k (hslt k e) (hsl k e) (fun e2 => hsg (by rw [e, e2]))
  · rcases hone i hi k e with ⟨h1, h2⟩ | ⟨h1, h2⟩
    · exact hfar i h1 k h2
    · exact hsl' k h2
  · rcases hone i hi k e with ⟨h1, h2⟩ | ⟨h1, h2⟩ <;> rcases hone j hj k e2 with ⟨h3, h4⟩ | ⟨h3, h4⟩
    · exact h.lev.diff i j h1 h3 hij k h2 h4
    · exact hf k h4 (h.lev.fv i h1 k h2)
    · exact hf k h2 (h.lev.fv j h3 k h4)
    · omega
  · rcases hone i hi k e with ⟨h1, h2⟩ | ⟨h1, h2⟩
    · exact .inl (h.lev.fv i h1 k h2)
    · exact .inr (.inr h2)
  · rcases hone i hi g e with ⟨h1, h2⟩ | ⟨h1, h2⟩
    · exact h.g2 i h1 h2
    · exact hsg h2
  · rcases hk with hk | hk | hk
    · have := h.low k hk; simp; omega
    · have := (ho.lt k hk).2; simpa using this
    · have := hslt k hk; simp; omega
/-- The reference's stack while levels are laid into it. -/
structure PuAt (w : World) (g k led : Nat) (L : LL) (j : Nat) (F : Nat → Prop) (wr : World) (lv : Value) (vs : List Sv) : Prop where
  st : Rst F wr g k led lv vs (L.take j)
  new : ∀ x, F x → w.heap.size ≤ x
  below : Below w.heap.size w wr
section
variable {F : Nat → Prop} {w : World} {g k led cg r a : Nat} {cv : Value} {B : List Int} {L : LL}
theorem kadd_touch (v : Int) (n : Nat) (hs : KAt F w g k L led) (hkc : KC w cg r cv B a) (hfar : CoFar F w cg r cv) (hf : Fit k L led) (h8 : 8 ≤ k) (hk : k ≤ 4096) (hn : n < 18446744073709551616) :
    Calls Try.prog 43 #[.pointer (some ⟨g, 0, none⟩), .int .i64 v, .int .u64 n, .pointer (some ⟨cg, 0, none⟩)] w fun e w' => e = .returned (.int .i64 (addE L n)) ∧ ∃ F', KAt F' w' g k (addS k B v n (L, led, a)).1 (addS k B v n (L, led, a)).2.1 ∧ Touch (fun x => F x ∨ x = r) w w' ∧ (∀ x, F' x → F x ∨ w.heap.size ≤ x) := by
  obtain ⟨lv, vs, hs⟩ := hs
  have hcnt : cnt L ≤ 200704 := hf.cnt (by omega) hk
  have hw : wt L ≤ 281474976710656 := hf.ok.wtL
  unfold addS
  by_cases h0 : n = 0
  · subst h0
    have e : addE L 0 = 4 := rfl
    rw [e, if_neg (by decide)]
    refine (add_zero g v _ w).mono ?_
    rintro _ w' ⟨rfl, rfl⟩
    exact ⟨rfl, F, ⟨lv, vs, hs⟩, Touch.refl _ _, fun _ h => .inl h⟩
  · by_cases h6 : 281474976710656 < wt L + n
    · have e : addE L n = 6 := by unfold addE; rw [if_neg h0, if_pos h6]
      rw [e, if_neg (by decide)]
      refine (add_over v n _ w hs hw h6 hn).mono ?_
      rintro _ w' ⟨rfl, rfl⟩
      exact ⟨rfl, F, ⟨lv, vs, hs⟩, Touch.refl _ _, fun _ h => .inl h⟩
    · have e : addE L n = 0 := by unfold addE; rw [if_neg h0, if_neg h6]
      rw [e, if_pos rfl]
      refine (add_yes v w hs hkc hfar hf.pk rfl (by omega) (by omega) (by omega) (by omega) (by omega)).mono ?_
      rintro _ w' ⟨rfl, F', lv', vs', hp, _⟩
      have hst := hp.st
      rw [show wt L + n = wt (packA k B (addL L v n, led, a)).1 by rw [packA_wt]; exact (addL_wt _ _ (by omega)).symm] at hst
      exact ⟨rfl, F', ⟨lv', vs', hst⟩, hp.touch, hp.sub⟩
theorem radd_touch (v : Int) (n : Nat) (hs : RAt F w g k L led) (hco : RC w cg cv B a) (hfar : RoFar F w cg cv) (hf : Fit k L led) (h8 : 8 ≤ k) (hk : k ≤ 4096) (hn : n < 18446744073709551616) :
    Calls Try.prog 44 #[.pointer (some ⟨g, 0, none⟩), .int .i64 v, .int .u64 n, .pointer (some ⟨cg, 0, none⟩)] w fun e w' => e = .returned (.int .i64 (addE L n)) ∧ ∃ F', RAt F' w' g k (addS k B v n (L, led, a)).1 (addS k B v n (L, led, a)).2.1 ∧ Touch (fun x => F x ∨ x = cg) w w' := by
  obtain ⟨lv, vs, hs⟩ := hs
  have hcnt : cnt L ≤ 200704 := hf.cnt (by omega) hk
  have hw : wt L ≤ 281474976710656 := hf.ok.wtL
  unfold addS
  by_cases h0 : n = 0
  · subst h0
    have e : addE L 0 = 4 := rfl
    rw [e, if_neg (by decide)]
    refine (radd_zero g v _ w).mono ?_
    rintro _ w' ⟨rfl, rfl⟩
    exact ⟨rfl, F, ⟨lv, vs, hs⟩, Touch.refl _ _⟩
  · by_cases h6 : 281474976710656 < wt L + n
    · have e : addE L n = 6 := by unfold addE; rw [if_neg h0, if_pos h6]
      rw [e, if_neg (by decide)]
      refine (radd_over v n _ w hs hw hf.ok.lenL h6 hn).mono ?_
      rintro _ w' ⟨rfl, rfl⟩
      exact ⟨rfl, F, ⟨lv, vs, hs⟩, Touch.refl _ _⟩
    · have e : addE L n = 0 := by unfold addE; rw [if_neg h0, if_neg h6]
      rw [e, if_pos rfl]
      refine (radd_yes v w hs hco hfar hf.pk (by omega) (by omega) (by omega) (by omega) (by omega)).mono ?_
      rintro _ w' ⟨rfl, F', lv', vs', hp⟩
      exact ⟨rfl, F', ⟨lv', vs', hp.st⟩, hp.touch⟩
end
end Go.Proofs.Ytigmncogjbbmhaa
