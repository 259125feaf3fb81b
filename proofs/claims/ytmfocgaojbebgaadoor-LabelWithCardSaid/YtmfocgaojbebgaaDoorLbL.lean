/- What a label law's proof needs behind its walk: the wrap that keeps the world's shape, slices of texts, labels and conditions among the arguments. No condition. -/
import Derived.Test.YtmfocgaojbebgaaDoorLaw
import Derived.Test.YtmfocgaojbebgaaDoorLbT
import Derived.Deep.Slices
import Derived.ChangeMaps5
import Derived.HandedShaped
import Derived.LaidMore
import Derived.Lay
import Derived.Shelf.Vars
namespace Go.Proofs.YtmfocgaojbebgaaDoor
open Go.RowKit Go.ChangeShapes Go.WideShapes Go.Deep

section
variable {H : Type} {enc : TypeId × Value → H}
/-- The wrap of a row that lists variables, the world's shape kept. -/
theorem returns_listed {a : Assume} {C : Checked} {os : Os} {f : FuncId} {fn : Func} {s : ChangeSpec} {conds : List PathCond} {apart fresh handsOn again : Bool} {X : World → Array Value → Prop}
    (hX : ∀ (w w' : World) (args : Array Value), w.heap = w'.heap → X w args → X w' args)
    (own : ownKnob C.prog.godebug = none) (started : os.Started) (noInit : C.prog.inits.idxOf? f = none) (hfn : C.prog.funcs[f]? = some fn)
    (witness : ∃ (w : World) (tape : Tape) (i : Input), w.os = os ∧ (w.forCall tape i).Shaped C.prog ∧ i.vars = [] ∧ Input.okWide C.prog (w.forCall tape i) .any w.heap.size f i ∧
      ((s.pre enc C.prog fn conds apart (w.forCall tape i).memory i.args ∧ X (w.forCall tape i).memory i.args) ∧ sizedMet enc C.prog fn (OpenSpec.ofChange s) apart (w.forCall tape i).memory i.args) ∧ a.holds C.prog (lone (Frame.enter C.prog f i.args .normal) [] (w.forCall tape i)))
    (contract : ∀ (W : World) (base : Nat) (args : Array Value) (ds gs : List (DataW H)) (before : List MemPlace),
      (∀ (j : Nat) t v, fn.params[j]? = some t → args[j]? = some v → Value.okWide C.prog W .any base t v) →
      DataW.Whole enc C.prog fn.params.toList s.vars apart W args.toList ds gs before →
      X W args → W.ShapedOpen C.prog →
      Calls C.prog f args W fun e W' => ∃ v, e = .returned v ∧ s.post enc C.prog fn apart fresh handsOn again W args v W') :
    ReturnsInHanded a C os f .any (fun w args => (s.pre enc C.prog fn conds apart w args ∧ X w args) ∧ sizedMet enc C.prog fn (OpenSpec.ofChange s) apart w args) (s.post enc C.prog fn apart fresh handsOn again) := by
  refine returnsInHanded_of_calls own started noInit witness ?_
  intro w tape i _ hsh _ hok hpre _
  obtain ⟨_, _, _, fn', hfn', _, _, _, _, hval⟩ := hok
  have e : fn' = fn := Option.some.inj (hfn'.symm.trans hfn)
  subst e
  obtain ⟨⟨⟨ds, gs, before, hw, _⟩, hx⟩, _⟩ := hpre
  have hw' := DataW.Whole.of_heap (w' := w.forCall tape i) (by rfl) hw
  refine (contract (w.forCall tape i) w.heap.size i.args ds gs before hval hw' (hX _ _ _ (by rfl) hx) hsh).mono fun e W' ⟨v, he, hp⟩ => ?_
  subst he
  exact ChangeSpec.post_blind hp
end

section
variable {H : Type} {enc : TypeId × Value → H} {P : Program} {w : World} {base : Nat} {held : Bool}
/-- A text among the arguments. -/
theorem open_tx {r : Reach} {b0 : Nat} {t : TypeId} {v : Value} {d : DataW H} {ps : List MemPlace} (ht : P.underlying t = some .string) (hval : Value.okWide P w r b0 t v) (hd : DataW.Trod enc P w base (fun _ => true) held t v d ps) :
    ∃ s : Tx, v = .string (bsOf s) ∧ s.length ≤ 9223372036854775807 := by
  obtain ⟨s, rfl, _, _, hs⟩ := Go.ChangeMaps.open_string ht hval hd
  refine ⟨s.data.toList, by rw [bsOf_eta], ?_⟩
  rw [Array.length_toList]
  unfold maxLen at hs
  have : s.data.size = s.size := rfl
  omega
/-- A slice among the arguments, each of whose elements lies as one of a kind. -/
theorem open_seq {α : Type} [Inhabited α] {E : Lie α} {Ok : α → Prop} {t e : TypeId} {v : Value} {d : DataW H} {ps : List MemPlace} {r : Reach} {b0 : Nat} (ht : P.underlying t = some (.slice e)) (hc : P.cellsOf e = E.k) (hk : 0 < E.k)
    (each : ∀ n cs x, cs.length = E.k → DataW.trod enc P w base (fun _ => true) held n e cs = some x → ∃ y : α, cs = E.enc y ∧ Ok y)
    (hval : Value.okWide P w r b0 t v) (h : DataW.Trod enc P w base (fun _ => true) held t v d ps) : ∃ l : List α, RdE E w v l ∧ ∀ y ∈ l, Ok y := by
  obtain ⟨a0, l0, c0, rfl⟩ := okWide_slice ht hval
  obtain ⟨n, h⟩ := h
  rcases open_slice ht h with ⟨hcs, _⟩ | ⟨a, len, cap, m, q, D, Pl, hcs, _, hl, hm, hmm, _, hx⟩
  · simp [Value.cells] at hcs
    obtain ⟨rfl, rfl, rfl⟩ := hcs
    exact ⟨[], RdE.nil_ w, fun y hy => by cases hy⟩
  · simp [Value.cells] at hcs
    obtain ⟨rfl, rfl, rfl⟩ := hcs
    simp only [if_true] at hmm
    have each' : ∀ i, i < m → ∃ y : α, (∀ j, j < E.k → w.cell? ((a.add (i * E.k)).add j) = (E.enc y)[j]?) ∧ Ok y := by
      intro i hi
      obtain ⟨cs', h1, h2⟩ := hx i hi
      rw [hc] at h1
      obtain ⟨_, hlen, hcell⟩ := World.cells?_some h1
      obtain ⟨y, rfl, hy⟩ := each _ _ _ hlen h2
      exact ⟨y, hcell, hy⟩
    obtain ⟨f, hf⟩ := choose_lt each'
    have hlen : ((List.range l0).map f).length = l0 := by simp
    refine ⟨(List.range l0).map f, ?_, fun x hx => ?_⟩
    · have key : RdE E w (.slice (some a) ((List.range l0).map f).length c0) ((List.range l0).map f) := by
        refine RdE.of_form (by rw [hlen]; exact hl) (by unfold maxLen at hm; omega) fun hp => ?_
        rw [hlen] at hp
        obtain ⟨b, off, spot⟩ := a
        have h0 := (hf 0 (by omega)).1 0 hk
        have hget : ∀ (y : α) (j : Nat), j < E.k → ∃ u, (E.enc y)[j]? = some u := fun y j hj => ⟨_, List.getElem?_eq_getElem (by rw [E.len]; exact hj)⟩
        obtain ⟨u0, hu0⟩ := hget (f 0) 0 hk
        rw [hu0] at h0
        have hspot : spot = none := by simpa [Addr.add] using World.cell?_spot h0
        subst hspot
        refine ⟨b, off, rfl, by have := World.block_lt_of_cell? _ _ h0; simpa [Addr.add] using this, fun j hj i hi => ?_⟩
        rw [hlen] at hj
        have h1 := (hf j (by omega)).1 i hi
        rw [add_plain, add_plain] at h1
        simp only [List.getElem_map, List.getElem_range]
        exact h1
      rw [hlen] at key
      exact key
    · obtain ⟨i, hi, rfl⟩ := List.mem_map.1 hx
      have hi' := List.mem_range.1 hi
      exact (hf i (by omega)).2
end
section
variable {H : Type} {enc : TypeId × Value → H} {w : World} {base : Nat} {held : Bool} {r : Reach} {b0 : Nat} {v : Value} {d : DataW H} {ps : List MemPlace}
theorem tx_of {s : ByteArray} (h : s.size ≤ maxLen) : ∃ x : Tx, s = bsOf x ∧ x.length ≤ 9223372036854775807 := by
  refine ⟨s.data.toList, by rw [bsOf_eta], ?_⟩
  rw [Array.length_toList]
  unfold maxLen at h
  have : s.data.size = s.size := rfl
  omega
theorem open_txs (hval : Value.okWide Tryd.prog w r b0 36 v) (h : DataW.Trod enc Tryd.prog w base (fun _ => true) held 36 v d ps) : ∃ l : List Tx, RdE txE w v l ∧ ∀ y ∈ l, y.length ≤ 9223372036854775807 := by
  refine open_seq (E := txE) Tryd.underlying36 (by kernel_rfl) (by decide) (fun n cs x hcs hx => ?_) hval h
  obtain ⟨s, e, _, hs⟩ := DataW.trod_string Tryd.underlying9 hx
  obtain ⟨y, rfl, hy⟩ := tx_of hs
  exact ⟨y, e, hy⟩
set_option maxRecDepth 100000 in
theorem open_lbs (hval : Value.okWide Tryd.prog w r b0 23 v) (h : DataW.Trod enc Tryd.prog w base (fun _ => true) held 23 v d ps) : ∃ l : List Lb, RdE lbE w v l ∧ ∀ y ∈ l, y.1.length ≤ 9223372036854775807 ∧ y.2.length ≤ 9223372036854775807 := by
  refine open_seq (E := lbE) Tryd.underlying23 (by kernel_rfl) (by decide) (fun n cs x hcs hx => ?_) hval h
  obtain ⟨xs, k, hk, hxy, hcl, hxl, hf⟩ := DataW.trod_struct Tryd.underlying50 hx
  match xs, hxl with
  | [y0, y1], _ =>
    have g0 := hf 0 _ rfl
    have g1 := hf 1 _ rfl
    simp [show Tryd.prog.cellsOf 9 = 1 by kernel_rfl] at g0 g1
    obtain ⟨s0, e0, _, q0⟩ := DataW.trod_string Tryd.underlying9 g0
    obtain ⟨s1, e1, _, q1⟩ := DataW.trod_string Tryd.underlying9 g1
    obtain ⟨a0, rfl, z0⟩ := tx_of q0
    obtain ⟨a1, rfl, z1⟩ := tx_of q1
    refine ⟨(a0, a1), ?_, z0, z1⟩
    match cs, hcs with
    | [u0, u1], _ =>
      simp at e0 e1
      subst e0; subst e1
      rfl
set_option maxRecDepth 100000 in
theorem open_cds (hval : Value.okWide Tryd.prog w r b0 33 v) (h : DataW.Trod enc Tryd.prog w base (fun _ => true) held 33 v d ps) : ∃ l : List Cd, RdE cdE w v l ∧ ∀ y ∈ l, y.1.length ≤ 9223372036854775807 ∧ y.2.1.length ≤ 9223372036854775807 ∧ y.2.2.length ≤ 9223372036854775807 := by
  refine open_seq (E := cdE) Tryd.underlying33 (by kernel_rfl) (by decide) (fun n cs x hcs hx => ?_) hval h
  obtain ⟨xs, k, hk, hxy, hcl, hxl, hf⟩ := DataW.trod_struct Tryd.underlying39 hx
  match xs, hxl with
  | [y0, y1, y2], _ =>
    have g0 := hf 0 _ rfl
    have g1 := hf 1 _ rfl
    have g2 := hf 2 _ rfl
    simp [show Tryd.prog.cellsOf 9 = 1 by kernel_rfl] at g0 g1 g2
    obtain ⟨s0, e0, _, q0⟩ := DataW.trod_string Tryd.underlying9 g0
    obtain ⟨s1, e1, _, q1⟩ := DataW.trod_string Tryd.underlying9 g1
    obtain ⟨s2, e2, _, q2⟩ := DataW.trod_string Tryd.underlying9 g2
    obtain ⟨a0, rfl, z0⟩ := tx_of q0
    obtain ⟨a1, rfl, z1⟩ := tx_of q1
    obtain ⟨a2, rfl, z2⟩ := tx_of q2
    refine ⟨(a0, a1, a2), ?_, z0, z1, z2⟩
    match cs, hcs with
    | [u0, u1, u2], _ =>
      simp at e0 e1 e2
      subst e0; subst e1; subst e2
      rfl
end
end Go.Proofs.YtmfocgaojbebgaaDoor
