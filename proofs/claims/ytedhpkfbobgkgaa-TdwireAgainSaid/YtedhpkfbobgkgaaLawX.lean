/- Slices of means among a law's arguments. No condition. · Slices of acts among a law's arguments. No condition. -/
import Derived.Test.YtedhpkfbobgkgaaLaw
import Derived.Test.YtedhpkfbobgkgaaGood
import Derived.Deep.SlicePairs
import Derived.Test.YtedhpkfbobgkgaaOpsX
namespace Go.Proofs.Ytedhpkfbobgkgaa
section
open Go.RowKit Go.ChangeShapes Go.WideShapes Go.Deep
section
variable {H : Type} {enc : TypeId × Value → H} {w : World} {base : Nat} {held : Bool}
set_option maxRecDepth 100000 in
/-- A slice of means among the arguments. -/
theorem open_RdM {v : Value} {d : DataW H} {ps : List MemPlace} {r : Reach} {b0 : Nat}
    (hval : Value.okWide Try.prog w r b0 35 v) (h : DataW.Trod enc Try.prog w base (fun _ => true) held 35 v d ps) : ∃ l : List Mn, RdM w v l ∧ rawL l := by
  obtain ⟨a0, l0, c0, rfl⟩ := okWide_slice Try.underlying35 hval
  obtain ⟨n, h⟩ := h
  rcases open_slice_pairs Try.underlying35 Try.underlying45 (by kernel_rfl) rfl rfl (by kernel_rfl) (by kernel_rfl) h with ⟨hcs, _⟩ | ⟨a, len, cap, m, q, V0, V1, D0, D1, P0, P1, hcs, _, hl, hm, hmm, _, hx⟩
  · simp [Value.cells] at hcs
    obtain ⟨rfl, rfl, rfl⟩ := hcs
    exact ⟨[], Rd.nil_ w 2, fun m hm => by cases hm⟩
  · simp [Value.cells] at hcs
    obtain ⟨rfl, rfl, rfl⟩ := hcs
    simp only [if_true] at hmm
    have each : ∀ i, i < m → ∃ q : Mn, w.cell? (a.add (i * 2)) = some (.int .i64 q.1) ∧ w.cell? (a.add (i * 2 + 1)) = some (.int .u64 q.2) ∧ (Lit.int .i64 q.1).wf = true ∧ (Lit.int .u64 q.2).wf = true := by
      intro i hi
      obtain ⟨h1, h2, h3, h4⟩ := hx i hi
      obtain ⟨x, e1, _, w1⟩ := DataW.trod_int (k := .i64) Try.underlying2 h3
      obtain ⟨y, e2, _, w2⟩ := DataW.trod_int (k := .u64) Try.underlying25 h4
      simp only [List.cons.injEq, and_true] at e1 e2
      rw [e1] at h1
      rw [e2] at h2
      exact ⟨(x, y), h1, h2, w1, w2⟩
    obtain ⟨f, hf⟩ := choose_lt each
    have hlen : ((List.range l0).map f).length = l0 := by simp
    refine ⟨(List.range l0).map f, ?_, fun x hx => ?_⟩
    · refine ⟨cellsM_length _, some a, c0, by rw [hlen], by rw [hlen]; exact hl, hm, fun hp => ?_⟩
      rw [hlen] at hp ⊢
      obtain ⟨b, off, spot⟩ := a
      have hspot : spot = none := by simpa [Addr.add] using World.cell?_spot (hf 0 (by omega)).1
      subst hspot
      refine ⟨b, off, rfl, World.block_lt_of_cell? _ _ (hf 0 (by omega)).1, fun j hj => ?_⟩
      have hi : j / 2 < l0 := by omega
      have h1 := (hf (j / 2) (by omega)).1
      have h2 := (hf (j / 2) (by omega)).2.1
      rw [add_plain] at h1 h2
      have g0 := cellsM_get0 ((List.range l0).map f) (j / 2) (by rw [hlen]; exact hi)
      have g1 := cellsM_get1 ((List.range l0).map f) (j / 2) (by rw [hlen]; exact hi)
      simp only [List.getElem_map, List.getElem_range] at g0 g1
      rcases Nat.mod_two_eq_zero_or_one j with h | h
      · have e : j / 2 * 2 = j := by omega
        rw [e] at h1 g0
        rw [h1, g0]
      · have e : j / 2 * 2 + 1 = j := by omega
        rw [e] at h2 g1
        rw [h2, g1]
    · obtain ⟨i, hi, rfl⟩ := List.mem_map.1 hx
      have hi' := List.mem_range.1 hi
      obtain ⟨_, _, h3, h4⟩ := hf i (by omega)
      have := bounds_i64 h3
      have := bounds_u64 h4
      omega
end
end
section
open Go.RowKit Go.ChangeShapes Go.WideShapes Go.Deep
instance : Inhabited Act4 := ⟨⟨0, false, 0, 0⟩⟩
section
variable {H : Type} {enc : TypeId × Value → H} {w : World} {base : Nat} {held : Bool}
set_option maxRecDepth 100000 in
/-- A slice of acts among the arguments. -/
theorem open_RdO {v : Value} {d : DataW H} {ps : List MemPlace} {r : Reach} {b0 : Nat}
    (hval : Value.okWide Try.prog w r b0 65 v) (h : DataW.Trod enc Try.prog w base (fun _ => true) held 65 v d ps) : ∃ l : List Act4, RdO w v l ∧ ∀ o ∈ l, o.fits := by
  obtain ⟨a0, l0, c0, rfl⟩ := okWide_slice Try.underlying65 hval
  obtain ⟨n, h⟩ := h
  rcases open_slice Try.underlying65 h with ⟨hcs, _⟩ | ⟨a, len, cap, m, q, D, Pl, hcs, _, hl, hm, hmm, _, hx⟩
  · simp [Value.cells] at hcs
    obtain ⟨rfl, rfl, rfl⟩ := hcs
    exact ⟨[], ⟨none, 0, rfl, Nat.le_refl _, by omega, fun h => absurd h (by simp)⟩, fun o ho => by cases ho⟩
  · simp [Value.cells] at hcs
    obtain ⟨rfl, rfl, rfl⟩ := hcs
    simp only [if_true] at hmm
    have ce : Try.prog.cellsOf 70 = 4 := by kernel_rfl
    have each : ∀ i, i < m → ∃ o : Act4, (w.cell? (a.add (i * 4)) = some (.int .u8 o.kd) ∧ w.cell? (a.add (i * 4 + 1)) = some (.bool o.who) ∧ w.cell? (a.add (i * 4 + 2)) = some (.int .i64 o.v) ∧ w.cell? (a.add (i * 4 + 3)) = some (.int .u64 o.n)) ∧ o.fits := by
      intro i hi
      obtain ⟨cs', h1, h2⟩ := hx i hi
      rw [ce] at h1
      obtain ⟨_, hlen, hcell⟩ := World.cells?_some h1
      obtain ⟨xs, k, hk, hxy, _, hxl, hf⟩ := DataW.trod_struct Try.underlying70 h2
      match xs, hxl, cs', hlen with
      | [y0, y1, y2, y3], _, [v0, v1, v2, v3], _ =>
        have g0 := hf 0 _ rfl
        have g1 := hf 1 _ rfl
        have g2 := hf 2 _ rfl
        have g3 := hf 3 _ rfl
        simp [show Try.prog.cellsOf 5 = 1 by kernel_rfl, show Try.prog.cellsOf 4 = 1 by kernel_rfl, show Try.prog.cellsOf 2 = 1 by kernel_rfl, show Try.prog.cellsOf 25 = 1 by kernel_rfl] at g0 g1 g2 g3
        have e0 := hcell 0 (by omega)
        have e1 := hcell 1 (by omega)
        have e2 := hcell 2 (by omega)
        have e3 := hcell 3 (by omega)
        rw [add_add] at e0 e1 e2 e3
        obtain ⟨x0, p0, _, b0⟩ := DataW.trod_int (k := .u8) Try.underlying5 g0
        obtain ⟨x1, p1, _⟩ := DataW.trod_bool Try.underlying4 g1
        obtain ⟨x2, p2, _, b2⟩ := DataW.trod_int (k := .i64) Try.underlying2 g2
        obtain ⟨x3, p3, _, b3⟩ := DataW.trod_int (k := .u64) Try.underlying25 g3
        simp only [List.cons.injEq, and_true] at p0 p1 p2 p3
        subst p0; subst p1; subst p2; subst p3
        refine ⟨⟨x0, x1, x2, x3⟩, ⟨by simpa [ce] using e0, by simpa [ce] using e1, by simpa [ce] using e2, by simpa [ce] using e3⟩, ?_⟩
        have := bounds_i64 b2
        have := bounds_u64 b3
        have := bounds_u8 b0
        unfold Act4.fits
        simp only
        omega
    obtain ⟨f, hf⟩ := choose_lt each
    have hlen : ((List.range l0).map f).length = l0 := by simp
    refine ⟨(List.range l0).map f, ⟨some a, c0, by rw [hlen], by rw [hlen]; exact hl, by unfold maxLen at hm; omega, fun hp => ?_⟩, fun x hx => ?_⟩
    · rw [hlen] at hp
      obtain ⟨b, off, spot⟩ := a
      have hspot : spot = none := by simpa [Addr.add] using World.cell?_spot (hf 0 (by omega)).1.1
      subst hspot
      refine ⟨b, off, rfl, World.block_lt_of_cell? _ _ (hf 0 (by omega)).1.1, fun j hj => ?_⟩
      rw [hlen] at hj
      obtain ⟨⟨h1, h2, h3, h4⟩, _⟩ := hf j (by omega)
      rw [add_plain] at h1 h2 h3 h4
      simp only [List.getElem_map, List.getElem_range]
      exact ⟨h1, h2, h3, h4⟩
    · obtain ⟨i, hi, rfl⟩ := List.mem_map.1 hx
      have hi' := List.mem_range.1 hi
      exact (hf i (by omega)).2
end
end
end Go.Proofs.Ytedhpkfbobgkgaa
