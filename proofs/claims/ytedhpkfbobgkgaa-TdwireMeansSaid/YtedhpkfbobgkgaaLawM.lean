/- Slices of means among a law's arguments. No condition. -/
import Derived.Test.YtedhpkfbobgkgaaLaw
import Derived.Test.YtedhpkfbobgkgaaGood
import Derived.Deep.SlicePairs
namespace Go.Proofs.Ytedhpkfbobgkgaa
open Go.RowKit Go.ChangeShapes Go.WideShapes Go.Deep

section
variable {H : Type} {enc : TypeId × Value → H} {w : World} {base : Nat} {held : Bool}
set_option maxRecDepth 100000 in
/-- A slice of means among the arguments. -/
theorem open_RdM {v : Value} {d : DataW H} {ps : List MemPlace} {r : Reach} {b0 : Nat}
    (hval : Value.okWide Try.prog w r b0 35 v) (h : DataW.Trod enc Try.prog w base (fun _ => true) held 35 v d ps) : ∃ l : List Mn, RdM w v l ∧ rawL l := by
  obtain ⟨a0, l0, c0, rfl⟩ := okWide_slice Try.underlying35 hval
  obtain ⟨n, h⟩ := h
  rcases open_slice_pairs Try.underlying35 Try.underlying45 (by kernel_rfl) rfl rfl (by kernel_rfl) (by kernel_rfl) h with ⟨hcs, _⟩ | ⟨a, len, cap, m, q, V0, V1, D0, D1, P0, P1, hcs, _, hl, hm, hmm, _, hx⟩
  · simp [Value.cells] at hcs
    obtain ⟨rfl, rfl, rfl⟩ := hcs
    exact ⟨[], Rd.nil_ w 2, fun m hm => by cases hm⟩
  · simp [Value.cells] at hcs
    obtain ⟨rfl, rfl, rfl⟩ := hcs
    simp only [if_true] at hmm
    have each : ∀ i, i < m → ∃ q : Mn, w.cell? (a.add (i * 2)) = some (.int .i64 q.1) ∧ w.cell? (a.add (i * 2 + 1)) = some (.int .u64 q.2) ∧ (Lit.int .i64 q.1).wf = true ∧ (Lit.int .u64 q.2).wf = true := by
      intro i hi
      obtain ⟨h1, h2, h3, h4⟩ := hx i hi
      obtain ⟨x, e1, _, w1⟩ := DataW.trod_int (k := .i64) Try.underlying2 h3
      obtain ⟨y, e2, _, w2⟩ := DataW.trod_int (k := .u64) Try.underlying25 h4
      simp only [List.cons.injEq, and_true] at e1 e2
      rw [e1] at h1
      rw [e2] at h2
      exact ⟨(x, y), h1, h2, w1, w2⟩
    obtain ⟨f, hf⟩ := choose_lt each
    have hlen : ((List.range l0).map f).length = l0 := by simp
    refine ⟨(List.range l0).map f, ?_, fun x hx => ?_⟩
    · refine ⟨cellsM_length _, some a, c0, by rw [hlen], by rw [hlen]; exact hl, hm, fun hp => ?_⟩
      rw [hlen] at hp ⊢
      obtain ⟨b, off, spot⟩ := a
      have hspot : spot = none := by simpa [Addr.add] using World.cell?_spot (hf 0 (by omega)).1
      subst hspot
      refine ⟨b, off, rfl, World.block_lt_of_cell? _ _ (hf 0 (by omega)).1, fun j hj => ?_⟩
      have hi : j / 2 < l0 := by omega
      have h1 := (hf (j / 2) (by omega)).1
      have h2 := (hf (j / 2) (by omega)).2.1
      rw [add_plain] at h1 h2
      have g0 := cellsM_get0 ((List.range l0).map f) (j / 2) (by rw [hlen]; exact hi)
      have g1 := cellsM_get1 ((List.range l0).map f) (j / 2) (by rw [hlen]; exact hi)
      simp only [List.getElem_map, List.getElem_range] at g0 g1
      rcases Nat.mod_two_eq_zero_or_one j with h | h
      · have e : j / 2 * 2 = j := by omega
        rw [e] at h1 g0
        rw [h1, g0]
      · have e : j / 2 * 2 + 1 = j := by omega
        rw [e] at h2 g1
        rw [h2, g1]
    · obtain ⟨i, hi, rfl⟩ := List.mem_map.1 hx
      have hi' := List.mem_range.1 hi
      obtain ⟨_, _, h3, h4⟩ := hf i (by omega)
      have := bounds_i64 h3
      have := bounds_u64 h4
      omega
end
end Go.Proofs.Ytedhpkfbobgkgaa
