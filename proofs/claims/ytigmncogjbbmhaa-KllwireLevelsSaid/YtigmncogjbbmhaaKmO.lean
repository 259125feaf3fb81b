/- Slices of slices of numbers among a law's arguments. No condition. -/
import Derived.Test.YtigmncogjbbmhaaLaw
import Derived.Test.YtigmncogjbbmhaaKmB
import Derived.Deep.SlicePairs
namespace Go.Proofs.Ytigmncogjbbmhaa
open Go.RowKit Go.ChangeShapes Go.WideShapes Go.Deep

section
variable {H : Type} {enc : TypeId × Value → H} {w : World} {base : Nat} {held : Bool}
/-- Numbers of 64 bits with a sign. -/
def I64s (l : List Int) : Prop := ∀ x ∈ l, -9223372036854775808 ≤ x ∧ x ≤ 9223372036854775807
set_option maxRecDepth 100000 in
theorem open_LLR {v : Value} {d : DataW H} {ps : List MemPlace} {r : Reach} {b0 : Nat}
    (hval : Value.okWide Try.prog w r b0 48 v) (h : DataW.Trod enc Try.prog w base (fun _ => true) held 48 v d ps) : ∃ L : LL, LLR w v L ∧ ∀ j, I64s (lvl L j) := by
  obtain ⟨a0, l0, c0, rfl⟩ := okWide_slice Try.underlying48 hval
  obtain ⟨n, h⟩ := h
  rcases open_slice Try.underlying48 h with ⟨hcs, _⟩ | ⟨a, len, cap, m, q, D, Pl, hcs, _, hl, hm, hmm, _, hx⟩
  · simp [Value.cells] at hcs
    obtain ⟨rfl, rfl, rfl⟩ := hcs
    exact ⟨[], ⟨[], rfl, RdE.nil_ w, fun i hi => absurd hi (by simp)⟩, fun j x hx => by simp [lvl] at hx⟩
  · simp [Value.cells] at hcs
    obtain ⟨rfl, rfl, rfl⟩ := hcs
    simp only [if_true] at hmm
    have ce : Try.prog.cellsOf 24 = 1 := by kernel_rfl
    have each : ∀ i, i < m → ∃ y : Sv × List Int, w.cell? (a.add (i * 1)) = some (svV y.1) ∧ RdE i64E w (svV y.1) y.2 ∧ I64s y.2 := by
      intro i hi
      obtain ⟨cs', h1, h2⟩ := hx i hi
      rw [ce] at h1
      obtain ⟨_, hlen, hcell⟩ := World.cells?_some h1
      have e0 := hcell 0 (by omega)
      rw [add_add] at e0
      rcases open_ints (k := .i64) Try.underlying24 Try.underlying2 (by kernel_rfl) h2 with ⟨hcs, _⟩ | ⟨a1, l1, c1, zs, hcs, _, hl1, hm1, hz, _, hcc, hw⟩
      · subst hcs
        exact ⟨((none, 0, 0), []), by simpa [ce, svV] using e0, RdE.nil_ w, fun x hx => by simp at hx⟩
      · subst hcs
        simp only [if_true] at hz
        have hll : (zs.take l1).length = l1 := by rw [List.length_take]; omega
        refine ⟨((some a1, l1, c1), zs.take l1), by simpa [ce, svV] using e0, ?_, fun x hx => ?_⟩
        · refine (rd_i64).2 ?_
          rw [hll]
          refine ⟨by rw [List.length_map, hll]; omega, some a1, c1, rfl, hl1, hm1, fun h0 => ?_⟩
          obtain ⟨b, off, rfl, hcc⟩ := ints_at hcc (by omega)
          refine ⟨b, off, rfl, World.block_lt_of_cell? _ _ (hcc 0 (by omega)), fun j hj => ?_⟩
          have h9 := hcc j (by omega)
          rw [add_plain] at h9
          rw [h9]
          have hj' : j < zs.length := by omega
          simp [List.getElem?_eq_getElem hj', show j < l1 by omega, List.getD]
        · have := bounds_i64 (hw x (List.mem_of_mem_take hx))
          exact this
    obtain ⟨f, hf⟩ := choose_lt each
    have hlen : ((List.range l0).map fun i => (f i).1).length = l0 := by simp
    have hlen2 : ((List.range l0).map fun i => (f i).2).length = l0 := by simp
    have hlv : ∀ j, j < l0 → lvl ((List.range l0).map fun i => (f i).2) j = (f j).2 := fun j hj => by
      rw [lvl_at (by rw [hlen2]; exact hj)]; simp
    refine ⟨(List.range l0).map fun i => (f i).2, ⟨(List.range l0).map fun i => (f i).1, by rw [hlen, hlen2], ?_, fun i hi => ?_⟩, fun j => ?_⟩
    · have hfm : EForm slE w (some a) ((List.range l0).map fun i => (f i).1) := fun hp => by
        rw [hlen] at hp
        obtain ⟨b, off, spot⟩ := a
        have hspot : spot = none := by simpa [Addr.add] using World.cell?_spot (hf 0 (by omega)).1
        subst hspot
        refine ⟨b, off, rfl, World.block_lt_of_cell? _ _ (hf 0 (by omega)).1, fun j hj i hi => ?_⟩
        rw [hlen] at hj
        have hk : slE.k = 1 := rfl
        obtain rfl : i = 0 := by omega
        have h1 := (hf j (by omega)).1
        rw [add_plain] at h1
        simp only [List.getElem_map, List.getElem_range]
        rw [show off + j * slE.k + 0 = off + j * 1 by rw [hk]; omega, h1]; rfl
      have hrd := RdE.of_form (c := c0) (by rw [hlen]; exact hl) (by unfold maxLen at hm; omega) hfm
      rw [hlen] at hrd
      exact hrd
    · rw [hlen] at hi
      rw [hlv i hi]
      simp only [List.getElem_map, List.getElem_range]
      exact (hf i (by omega)).2.1
    · rcases Nat.lt_or_ge j l0 with h1 | h1
      · rw [hlv j h1]; exact (hf j (by omega)).2.2
      · rw [lvl_of_ge (by rw [hlen2]; exact h1)]; intro x hx; simp at hx
end
end Go.Proofs.Ytigmncogjbbmhaa
