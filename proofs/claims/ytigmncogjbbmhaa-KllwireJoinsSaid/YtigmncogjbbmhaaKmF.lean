/- Acts among a law's arguments; KllPlays, walked. Conditions: bytes are bytes. -/
import Derived.Test.YtigmncogjbbmhaaKmE
import Derived.Deep.SlicePairs
namespace Go.Proofs.Ytigmncogjbbmhaa
open Go.RowKit

structure Act4 where
  kd : Int
  who : Bool
  v : Int
  n : Int
instance : Inhabited Act4 := ⟨⟨0, false, 0, 0⟩⟩
def Act4.fits (o : Act4) : Prop := 0 ≤ o.kd ∧ o.kd ≤ 255 ∧ -9223372036854775808 ≤ o.v ∧ o.v ≤ 9223372036854775807 ∧ 0 ≤ o.n ∧ o.n ≤ 18446744073709551615
def OForm (w : World) (A : Option Addr) (l : List Act4) : Prop := 0 < l.length → ∃ g off, A = some ⟨g, off, none⟩ ∧ g < w.heap.size ∧ ∀ j (h : j < l.length),
  w.cell? ⟨g, off + j * 4, none⟩ = some (.int .u8 l[j].kd) ∧ w.cell? ⟨g, off + j * 4 + 1, none⟩ = some (.bool l[j].who) ∧ w.cell? ⟨g, off + j * 4 + 2, none⟩ = some (.int .i64 l[j].v) ∧ w.cell? ⟨g, off + j * 4 + 3, none⟩ = some (.int .u64 l[j].n)
/-- A slice value that reads as acts. -/
def RdO (w : World) (v : Value) (l : List Act4) : Prop := ∃ A c, v = .slice A l.length c ∧ l.length ≤ c ∧ c ≤ 9223372036854775807 ∧ OForm w A l
theorem OForm.keep {w w' : World} {A : Option Addr} {l : List Act4} (h : OForm w A l) (hb : Below w.heap.size w w') : OForm w' A l := fun h0 => by
  obtain ⟨g, off, hA, hg, hj⟩ := h h0
  refine ⟨g, off, hA, Nat.lt_of_lt_of_le hg hb.size, fun j hj' => ?_⟩
  obtain ⟨h1, h2, h3, h4⟩ := hj j hj'
  exact ⟨(hb.cell (p := ⟨g, off + j * 4, none⟩) hg).trans h1, (hb.cell (p := ⟨g, off + j * 4 + 1, none⟩) hg).trans h2, (hb.cell (p := ⟨g, off + j * 4 + 2, none⟩) hg).trans h3, (hb.cell (p := ⟨g, off + j * 4 + 3, none⟩) hg).trans h4⟩
theorem RdO.keep {w w' : World} {v : Value} {l : List Act4} (h : RdO w v l) (hb : Below w.heap.size w w') : RdO w' v l := by
  obtain ⟨A, c, h1, h2, h3, h4⟩ := h
  exact ⟨A, c, h1, h2, h3, h4.keep hb⟩
section
open Go.ChangeShapes Go.WideShapes Go.Deep
variable {H : Type} {enc : TypeId × Value → H} {w : World} {base : Nat} {held : Bool}
set_option maxRecDepth 100000 in
/-- A slice of acts among the arguments. -/
theorem open_RdO {v : Value} {d : DataW H} {ps : List MemPlace} {r : Reach} {b0 : Nat}
    (hval : Value.okWide Try.prog w r b0 63 v) (h : DataW.Trod enc Try.prog w base (fun _ => true) held 63 v d ps) : ∃ l : List Act4, RdO w v l ∧ ∀ o ∈ l, o.fits := by
  obtain ⟨a0, l0, c0, rfl⟩ := okWide_slice Try.underlying63 hval
  obtain ⟨n, h⟩ := h
  rcases open_slice Try.underlying63 h with ⟨hcs, _⟩ | ⟨a, len, cap, m, q, D, Pl, hcs, _, hl, hm, hmm, _, hx⟩
  · simp [Value.cells] at hcs
    obtain ⟨rfl, rfl, rfl⟩ := hcs
    exact ⟨[], ⟨none, 0, rfl, Nat.le_refl _, by omega, fun h => absurd h (by simp)⟩, fun o ho => by cases ho⟩
  · simp [Value.cells] at hcs
    obtain ⟨rfl, rfl, rfl⟩ := hcs
    simp only [if_true] at hmm
    have ce : Try.prog.cellsOf 68 = 4 := by kernel_rfl
    have each : ∀ i, i < m → ∃ o : Act4, (w.cell? (a.add (i * 4)) = some (.int .u8 o.kd) ∧ w.cell? (a.add (i * 4 + 1)) = some (.bool o.who) ∧ w.cell? (a.add (i * 4 + 2)) = some (.int .i64 o.v) ∧ w.cell? (a.add (i * 4 + 3)) = some (.int .u64 o.n)) ∧ o.fits := by
      intro i hi
      obtain ⟨cs', h1, h2⟩ := hx i hi
      rw [ce] at h1
      obtain ⟨_, hlen, hcell⟩ := World.cells?_some h1
      obtain ⟨xs, k, hk, hxy, _, hxl, hf⟩ := DataW.trod_struct Try.underlying68 h2
      match xs, hxl, cs', hlen with
      | [y0, y1, y2, y3], _, [v0, v1, v2, v3], _ =>
        have g0 := hf 0 _ rfl
        have g1 := hf 1 _ rfl
        have g2 := hf 2 _ rfl
        have g3 := hf 3 _ rfl
        simp [show Try.prog.cellsOf 5 = 1 by kernel_rfl, show Try.prog.cellsOf 4 = 1 by kernel_rfl, show Try.prog.cellsOf 2 = 1 by kernel_rfl, show Try.prog.cellsOf 26 = 1 by kernel_rfl] at g0 g1 g2 g3
        have e0 := hcell 0 (by omega)
        have e1 := hcell 1 (by omega)
        have e2 := hcell 2 (by omega)
        have e3 := hcell 3 (by omega)
        rw [add_add] at e0 e1 e2 e3
        obtain ⟨x0, p0, _, b0⟩ := DataW.trod_int (k := .u8) Try.underlying5 g0
        obtain ⟨x1, p1, _⟩ := DataW.trod_bool Try.underlying4 g1
        obtain ⟨x2, p2, _, b2⟩ := DataW.trod_int (k := .i64) Try.underlying2 g2
        obtain ⟨x3, p3, _, b3⟩ := DataW.trod_int (k := .u64) Try.underlying26 g3
        simp only [List.cons.injEq, and_true] at p0 p1 p2 p3
        subst p0; subst p1; subst p2; subst p3
        refine ⟨⟨x0, x1, x2, x3⟩, ⟨by simpa [ce] using e0, by simpa [ce] using e1, by simpa [ce] using e2, by simpa [ce] using e3⟩, ?_⟩
        have := bounds_i64 b2
        have := bounds_u64 b3
        have := bounds_u8 b0
        unfold Act4.fits
        simp only
        omega
    obtain ⟨f, hf⟩ := choose_lt each
    have hlen : ((List.range l0).map f).length = l0 := by simp
    refine ⟨(List.range l0).map f, ⟨some a, c0, by rw [hlen], by rw [hlen]; exact hl, by unfold maxLen at hm; omega, fun hp => ?_⟩, fun x hx => ?_⟩
    · rw [hlen] at hp
      obtain ⟨b, off, spot⟩ := a
      have hspot : spot = none := by simpa [Addr.add] using World.cell?_spot (hf 0 (by omega)).1.1
      subst hspot
      refine ⟨b, off, rfl, World.block_lt_of_cell? _ _ (hf 0 (by omega)).1.1, fun j hj => ?_⟩
      rw [hlen] at hj
      obtain ⟨⟨h1, h2, h3, h4⟩, _⟩ := hf j (by omega)
      rw [add_plain] at h1 h2 h3 h4
      simp only [List.getElem_map, List.getElem_range]
      exact ⟨h1, h2, h3, h4⟩
    · obtain ⟨i, hi, rfl⟩ := List.mem_map.1 hx
      have hi' := List.mem_range.1 hi
      exact (hf i (by omega)).2
end

/-! ### Two pairs -/
theorem DuoAt.swap {W w : World} {Ow : Nat → Nat → Prop} {k : Nat} {B : List Int} {p q p' q' g h g' h' a cg r dg : Nat} {s t : LL × Nat} {cv dv : Value} (hd : DuoAt W w Ow k B p q p' q' g h g' h' s t a cg r dg cv dv) : DuoAt W w Ow k B p' q' p q g' h' g h t s a cg r dg cv dv :=
  ⟨hd.env, hd.co, hd.k1, hd.r1, hd.k0, hd.r0, hd.f1, hd.f0⟩
abbrev D2 := (LL × Nat) × (LL × Nat) × Nat
def duoD (k : Nat) (B : List Int) (o : Act4) (x : D2) : D2 :=
  if o.who then (x.1, ((stepD k B o.kd.toNat o.v o.n.toNat x.1 (x.2.1.1, x.2.1.2, x.2.2)).1, (stepD k B o.kd.toNat o.v o.n.toNat x.1 (x.2.1.1, x.2.1.2, x.2.2)).2.1), (stepD k B o.kd.toNat o.v o.n.toNat x.1 (x.2.1.1, x.2.1.2, x.2.2)).2.2)
  else (((stepD k B o.kd.toNat o.v o.n.toNat x.2.1 (x.1.1, x.1.2, x.2.2)).1, (stepD k B o.kd.toNat o.v o.n.toNat x.2.1 (x.1.1, x.1.2, x.2.2)).2.1), x.2.1, (stepD k B o.kd.toNat o.v o.n.toNat x.2.1 (x.1.1, x.1.2, x.2.2)).2.2)
/-- Two pairs in their places, their rows of pointers. -/
structure PlayAt (W w : World) (Ow : Nat → Nat → Prop) (k : Nat) (B : List Int) (g h g' h' : Nat) (x : D2) (sb wb cg r dg : Nat) (cv dv : Value) : Prop where
  duo : DuoAt W w Ow k B 0 1 2 3 g h g' h' x.1 x.2.1 x.2.2 cg r dg cv dv
  o1 : Ow 4 sb
  o2 : Ow 4 wb
  x0 : w.cell? ⟨sb, 0, none⟩ = some (.pointer (some ⟨g, 0, none⟩))
  x1 : w.cell? ⟨sb, 1, none⟩ = some (.pointer (some ⟨g', 0, none⟩))
  y0 : w.cell? ⟨wb, 0, none⟩ = some (.pointer (some ⟨h, 0, none⟩))
  y1 : w.cell? ⟨wb, 1, none⟩ = some (.pointer (some ⟨h', 0, none⟩))
section
variable {W w w' : World} {Ow Ow' : Nat → Nat → Prop} {k : Nat} {B : List Int} {g h g' h' sb wb cg r dg : Nat} {x : D2} {cv dv : Value}
theorem DuoAt.keep {p q p' q' a : Nat} {s t : LL × Nat} (hd : DuoAt W w Ow k B p q p' q' g h g' h' s t a cg r dg cv dv) (hb : Below w.heap.size w w') : DuoAt W w' Ow k B p q p' q' g h g' h' s t a cg r dg cv dv :=
  ⟨hd.env.keep hb, hd.co.keep hd.env hb, hd.k0.keep hb, hd.r0.keep hb, hd.k1.keep hb, hd.r1.keep hb, hd.f0, hd.f1⟩
theorem PlayAt.keep (hp : PlayAt W w Ow k B g h g' h' x sb wb cg r dg cv dv) (hb : Below w.heap.size w w') : PlayAt W w' Ow k B g h g' h' x sb wb cg r dg cv dv := by
  have l1 := hp.duo.env.lt _ _ hp.o1
  have l2 := hp.duo.env.lt _ _ hp.o2
  exact ⟨hp.duo.keep hb, hp.o1, hp.o2, (hb.cell (p := ⟨sb, 0, none⟩) l1).trans hp.x0, (hb.cell (p := ⟨sb, 1, none⟩) l1).trans hp.x1, (hb.cell (p := ⟨wb, 0, none⟩) l2).trans hp.y0, (hb.cell (p := ⟨wb, 1, none⟩) l2).trans hp.y1⟩
theorem Four.cell (hf : Four Ow Ow' w w') {b : Nat} (hb : Ow 4 b) (i : Nat) : w'.cell? ⟨b, i, none⟩ = w.cell? ⟨b, i, none⟩ := World.cell?_of_block (a := ⟨b, i, none⟩) (hf.1 b hb).2
theorem do_two (o : Act4) (ho : o.fits) (hp : PlayAt W w Ow k B g h g' h' x sb wb cg r dg cv dv) (h8 : 8 ≤ k) (hk : k ≤ 4096) :
    Calls Try.prog 40 #[.slice (some ⟨sb, 0, none⟩) 2 2, .slice (some ⟨wb, 0, none⟩) 2 2, .agg #[.int .u8 o.kd, .bool o.who, .int .i64 o.v, .int .u64 o.n], .pointer (some ⟨cg, 0, none⟩), .pointer (some ⟨dg, 0, none⟩)] w fun e w' => e = .returned (.bool true) ∧
      ∃ Ow', PlayAt W w' Ow' k B g h g' h' (duoD k B o x) sb wb cg r dg cv dv ∧ Four Ow Ow' w w' := by
  obtain ⟨kd, who, v, n⟩ := o
  obtain ⟨h0, h1, h2, h3, h4, h5⟩ := ho
  simp only at h0 h1 h2 h3 h4 h5
  obtain ⟨m, rfl⟩ : ∃ m : Nat, kd = m := ⟨kd.toNat, by omega⟩
  obtain ⟨c, rfl⟩ : ∃ c : Nat, n = c := ⟨n.toNat, by omega⟩
  have back : ∀ {w' : World} {Ow' : Nat → Nat → Prop} {y : D2}, Four Ow Ow' w w' → DuoAt W w' Ow' k B 0 1 2 3 g h g' h' y.1 y.2.1 y.2.2 cg r dg cv dv → PlayAt W w' Ow' k B g h g' h' y sb wb cg r dg cv dv := fun hf hd =>
    ⟨hd, (hf.1 _ hp.o1).1, (hf.1 _ hp.o2).1, (hf.cell hp.o1 0).trans hp.x0, (hf.cell hp.o1 1).trans hp.x1, (hf.cell hp.o2 0).trans hp.y0, (hf.cell hp.o2 1).trans hp.y1⟩
  unfold duoD
  cases who with
  | false =>
    refine (do_any m false v c hp.duo (.inl ⟨rfl, rfl, rfl⟩) (by decide) (by decide) (by decide) (by decide) (by decide) h8 hk hp.o1 hp.o2 hp.x0 hp.x1 hp.y0 hp.y1 (by omega) (by omega)).mono ?_
    rintro _ w' ⟨rfl, Ow', hd, hf⟩
    refine ⟨rfl, Ow', back hf ?_, hf⟩
    simp only [Bool.false_eq_true, if_false, Int.toNat_natCast]
    exact hd
  | true =>
    refine (do_any m true v c hp.duo.swap (.inr ⟨rfl, rfl, rfl⟩) (by decide) (by decide) (by decide) (by decide) (by decide) h8 hk hp.o1 hp.o2 hp.x1 hp.x0 hp.y1 hp.y0 (by omega) (by omega)).mono ?_
    rintro _ w' ⟨rfl, Ow', hd, hf⟩
    refine ⟨rfl, Ow', back hf ?_, hf⟩
    simp only [if_true, Int.toNat_natCast]
    exact hd.swap
end
end Go.Proofs.Ytigmncogjbbmhaa
