/- Slices of numbers that came in; what a law's proof needs behind its walk. No condition. -/
import Derived.Test.YtigmncogjbbmhaaSlice
import Derived.ProofKit
import Derived.OpenShut
import Derived.Carry
import Derived.ChangeSame
namespace Go.Proofs.Ytigmncogjbbmhaa
open Go.RowKit Go.ChangeShapes Go.WideShapes

/-- A slice that reads as numbers of one kind. -/
def RdI (k : IntKind) (w : World) (v : Value) (zs : List Int) : Prop := Rd 1 w v zs.length (zs.map (Value.int k))
def IForm (k : IntKind) (w : World) (A : Option Addr) (zs : List Int) : Prop := 0 < zs.length → ∃ g off, A = some ⟨g, off, none⟩ ∧ g < w.heap.size ∧ ∀ j (h : j < zs.length), w.cell? ⟨g, off + j, none⟩ = some (.int k zs[j])
section
variable {k : IntKind} {w w' : World} {v : Value} {zs : List Int}
theorem RdI.keep (h : RdI k w v zs) (hb : Below w.heap.size w w') : RdI k w' v zs := Rd.keep h hb
theorem RdI.form (h : RdI k w v zs) : ∃ A c, v = .slice A zs.length c ∧ zs.length ≤ c ∧ c ≤ 9223372036854775807 ∧ IForm k w A zs := by
  obtain ⟨_, A, c, hv, h1, h2, h3⟩ := h
  refine ⟨A, c, hv, h1, by unfold maxLen at h2; omega, fun h0 => ?_⟩
  obtain ⟨g, off, hA, hg, hj⟩ := h3 h0
  refine ⟨g, off, hA, hg, fun j h => ?_⟩
  rw [hj j (by omega)]
  simp [List.getElem?_eq_getElem h]
theorem IForm.keep {A : Option Addr} (h : IForm k w A zs) (hb : Below w.heap.size w w') : IForm k w' A zs := fun h0 => by
  obtain ⟨g, off, hA, hg, hj⟩ := h h0
  exact ⟨g, off, hA, Nat.lt_of_lt_of_le hg hb.size, fun j hj' => (hb.cell (p := ⟨g, off + j, none⟩) hg).trans (hj j hj')⟩
theorem IForm.at_ {A : Option Addr} (h : IForm k w A zs) {j : Nat} (hj : j < zs.length) : ∃ g off, A = some ⟨g, off, none⟩ ∧ g < w.heap.size ∧ w.cell? ⟨g, off + j, none⟩ = some (.int k zs[j]) := by
  obtain ⟨g, off, hA, hg, hc⟩ := h (by omega)
  exact ⟨g, off, hA, hg, hc j hj⟩
end

section
variable {H : Type} {enc : TypeId × Value → H} {P : Program} {w : World} {base : Nat} {held : Bool}
/-- A slice of numbers among the arguments. -/
theorem open_RdI {t e : TypeId} {k : IntKind} {v : Value} {d : DataW H} {ps : List MemPlace} (ht : P.underlying t = some (.slice e)) (he : P.underlying e = some (.int k)) (hc : P.cellsOf e = 1) {r : Reach} {b0 : Nat}
    (hval : Value.okWide P w r b0 t v) (h : DataW.Trod enc P w base (fun _ => true) held t v d ps) : ∃ zs : List Int, RdI k w v zs ∧ (∀ n ∈ zs, (Lit.int k n).wf = true) := by
  obtain ⟨a0, l0, c0, rfl⟩ := okWide_slice ht hval
  obtain ⟨n, h⟩ := h
  rcases open_ints ht he hc h with ⟨hcs, _⟩ | ⟨a, len, cap, zs, hcs, _, hl, hm, hz, _, hcell, hw⟩
  · simp [Value.cells] at hcs
    obtain ⟨rfl, rfl, rfl⟩ := hcs
    exact ⟨[], Rd.nil_ w 1, fun n hn => by cases hn⟩
  · simp [Value.cells] at hcs
    obtain ⟨rfl, rfl, rfl⟩ := hcs
    simp only [if_true] at hz
    refine ⟨zs.take l0, ?_, fun n hn => hw n (List.mem_of_mem_take hn)⟩
    have hlen : (zs.take l0).length = l0 := by rw [List.length_take]; omega
    unfold RdI
    rw [hlen]
    refine ⟨by rw [List.length_map, hlen]; omega, some a, c0, rfl, hl, hm, fun h0 => ?_⟩
    obtain ⟨b, off, rfl, hcc⟩ := ints_at hcell (by omega)
    refine ⟨b, off, rfl, ?_, fun j hj => ?_⟩
    · exact World.block_lt_of_cell? _ _ (hcc 0 (by omega))
    · rw [hcc j (by omega)]
      have hj' : j < zs.length := by omega
      simp [List.getElem?_eq_getElem hj', show j < l0 by omega, List.getD]

/-- Arguments read behind the call as before, where below the heap's old size nothing has turned. -/
theorem trodAll_stays (hl : laidOutB P = true) {W W' : World} (hb : Below W.heap.size W W') {sp : Nat → Bool} : ∀ {ts : List TypeId} {vs : List Value} {ds : List (DataW H)} {ps : List MemPlace},
    (∀ t ∈ ts, P.readableRec t = true ∧ t < P.types.size) → DataW.TrodAll enc P W 0 (fun _ => true) true ts vs ds ps → (∀ x ∈ ps, x.block < W.heap.size) → (∀ x ∈ ps, sp x.block = true) → DataW.TrodAll enc P W' 0 sp true ts vs ds ps
  | [], _, _, _, _, h, _, _ => by
    obtain ⟨rfl, rfl, rfl⟩ := trodAll_nil h
    exact trodAll_mk0
  | t :: ts, _, _, _, hr, h, hlt, hsp => by
    obtain ⟨v, vs1, d, ds1, a, b, rfl, rfl, rfl, h1, h2⟩ := trodAll_cons h
    obtain ⟨r1, r2⟩ := hr t (List.mem_cons_self ..)
    refine trodAll_cons_mk (WideElems.Trod_stays hl r1 r2 h1 (fun x hx => hb.same (hlt x (by simp [hx]))) (fun x hx => hsp x (by simp [hx]))) ?_
    exact trodAll_stays hl hb (fun t ht => hr t (List.mem_cons_of_mem _ ht)) h2 (fun x hx => hlt x (by simp [hx])) (fun x hx => hsp x (by simp [hx]))
end

section
variable {H : Type} {enc : TypeId × Value → H} {P : Program}
/-- The row's last step: a law that returns true, below whose start nothing has turned, with one result. -/
theorem law_post {f : Func} {s : ChangeSpec} {fresh handsOn again : Bool} {W W' : World} {args : Array Value} {ds : List (DataW H)} {before : List MemPlace} {t : TypeId}
    (hl : laidOutB P = true) (hr : (f.params.toList.all fun t => P.readableRec t && decide (t < P.types.size)) = true) (hv : s.vars = []) (hrt : f.resultTypes = #[t]) (ht : P.underlying t = some .bool)
    (hW : DataW.Whole enc P f.params.toList s.vars false W args.toList ds [] before) (hsp : s.fn H ds = { results := [.lit (.bool true)], args := ds }) (hb : Below W.heap.size W W') :
    s.post enc P f false fresh handsOn again W args (.bool true) W' := by
  have hlt : ∀ p ∈ before, p.block < W.heap.size := fun p hp => hW.lt p hp
  have hold : ∀ p ∈ before, (fun b => decide (b < W.heap.size)) p.block = true := fun p hp => by simpa using hlt p hp
  have hW' := hW
  obtain ⟨p, q, hA, hV, rfl, hz, hn⟩ := hW
  have hr' : ∀ t ∈ f.params.toList, P.readableRec t = true ∧ t < P.types.size := fun t ht => by
    have := List.all_eq_true.1 hr t ht
    simpa using this
  rw [hv] at hV
  obtain ⟨_, rfl⟩ := trodVars_none hV
  have hlt' : ∀ x ∈ p, x.block < W.heap.size := fun x hx => hlt x (by simp [hx])
  have hargs : ∀ sp : Nat → Bool, (∀ x ∈ p, sp x.block = true) → DataW.TrodAll enc P W' 0 sp true f.params.toList args.toList (s.fn H (ds ++ [])).args p := fun sp hsp2 => by
    rw [List.append_nil, hsp]
    exact trodAll_stays hl hb hr' hA hlt' hsp2
  have hres : ∀ (b : Nat) (sp : Nat → Bool) (hd : Bool), DataW.TrodAll enc P W' b sp hd f.resultTypes.toList ((Value.bool true).resultList f.resultTypes.size) (s.fn H (ds ++ [])).results [] := fun b sp hd => by
    rw [List.append_nil, hsp, hrt]
    exact trodAll_cons_mk (shut_bool ht _) trodAll_mk0
  have hvars : ∀ sp : Nat → Bool, DataW.TrodVars enc P W' sp s.vars (s.fn H (ds ++ [])).vars [] := fun sp => by
    rw [List.append_nil, hsp, hv]
    exact rfl
  refine ⟨ds, [], p ++ [], [], p, [], hW', hres _ _ _, hargs _ (fun x hx => by simpa using hlt' x hx), hvars _, World.keptBut_mono (fun x hx => ⟨hx, .inr (by simpa using hx)⟩) (hb.frame (· ∈ p ++ [])), fun _ => ?_⟩
  refine ⟨ok_one hrt rfl (okWide_bool_mk ht _), _, _, ([] ++ p) ++ [], ⟨[] ++ p, [], trodAll_append (hargs _ (fun _ _ => rfl)) (hres _ _ _), hvars _, rfl, ?_, ?_⟩, ?_⟩
  · intro b off hp
    have hin : MemPlace.cell b off ∈ p := by simpa using hp
    rw [hb.frozen (hlt' _ hin)]
    exact hz b off (by simpa using hin)
  · intro ha
    cases ha
  · intro x hx _
    simpa using hx
end
end Go.Proofs.Ytigmncogjbbmhaa
