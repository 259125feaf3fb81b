/- LabelSelects: which texts are selectors, and with which conditions, is the document's; which sets fit them, too. Condition of the row: the two listed tables of the library, tied to the text by the card. -/
import Derived.Test.YtmfocgaojbebgaaDoorRows
import Derived.Test.YtmfocgaojbebgaaDoorCards
import Derived.Test.YtmfocgaojbebgaaDoorTie
import Derived.Test.YtmfocgaojbebgaaDoorLcA
import Derived.Test.YtmfocgaojbebgaaDoorLbL
import Derived.LaidLaws
import Derived.SevenTiedAt
import Derived.Stop.Joined
namespace Go.Proofs.YtmfocgaojbebgaaDoor
open Go.ChangeShapes Go.WideShapes Go.ChangeAt Go.RowKit

theorem own_labelSelects : ownKnob Tryd.prog.godebug = none := by kernel_rfl
theorem laid_labelSelects : laidOutB Tryd.prog = true := by kernel_rfl
set_option maxRecDepth 100000 in
theorem lifted_labelSelects (os : Os) (started : os.Started) (H : Type) (enc : TypeId × Value → H) :
    ReturnsInHanded {} Tryd.checked os 4 .any (fun w args => (Rows.labelSelectsSpec.pre enc Tryd.prog Tryd.f4 Rows.labelSelectsRow.domain false w args ∧ laidMetH Tryd.prog Rows.labelSelectsRow.laid w) ∧ sizedMet enc Tryd.prog Tryd.f4 (OpenSpec.ofChange Rows.labelSelectsSpec) false w args) (Rows.labelSelectsSpec.post enc Tryd.prog Tryd.f4 false true false false) := by
  refine returns_listed (C := Tryd.checked) (X := fun w _ => laidMetH Tryd.prog Rows.labelSelectsRow.laid w) (fun _ _ _ hh h => h.of_heap hh) own_labelSelects started (by kernel_rfl) Tryd.func4
    (ChangeSpec.witness_shaped (enc := enc) (C := Tryd.checked) (os := os) (X := fun w _ => laidMetH Tryd.prog Rows.labelSelectsRow.laid w) false (World.laidAll Tryd.prog os Rows.labelSelectsRow.laid) #[.string ⟨#[]⟩, .string ⟨#[]⟩] 8 (World.laidAll_os _ _ _)
      (World.shaped_of_ZipB (by kernel_rfl) (by kernel_rfl)) (by kernel_rfl) (by kernel_rfl) (by kernel_rfl)
      (by rw [MakeChecks.laidMetH_plain _ _ _ (by kernel_rfl)]; exact laidMet_laidAll _ (by kernel_rfl) (by kernel_rfl))) ?_
  intro W base args ds gs before hval0 hW _ hsh
  have hval : ∀ (j : Nat) t v, Tryd.f4.params[j]? = some t → args[j]? = some v → Value.okWide Tryd.prog W .any base t v := hval0
  have hW' := hW
  obtain ⟨p, q, hA0, hV, rfl, hfz, hnd⟩ := hW
  have hA : DataW.TrodAll enc Tryd.prog W 0 (fun _ => true) true Tryd.f4.params.toList args.toList ds p := hA0
  rw [Tryd.params4] at hA hval
  obtain ⟨v0, vs0, d0, ds0, p0, q0, hargs, rfl, rfl, h0, r0⟩ := trodAll_cons hA
  obtain ⟨v1, vs1, d1, ds1, p1, q1, rfl, rfl, rfl, h1, r1⟩ := trodAll_cons r0
  obtain ⟨rfl, rfl, rfl⟩ := trodAll_nil r1
  obtain rfl : args = #[v0, v1] := by cases args; simp_all
  obtain ⟨rfl, rfl⟩ := trodVars_none hV
  obtain ⟨s0, rfl, L0⟩ := open_tx Tryd.underlying9 (hval 0 9 v0 rfl rfl) h0
  obtain ⟨s1, rfl, L1⟩ := open_tx Tryd.underlying9 (hval 1 9 v1 rfl rfl) h1
  clear hA0 hval0 hval hfz hnd
  have HC : Calls Tryd.prog 4 #[.string (bsOf s0), .string (bsOf s1)] W fun e W' => e = .returned (.bool true) ∧ Below W.heap.size W W' := by
    exact selects_any s0 s1 W (Tryd.laysM146.s1_3 W hsh) L0 L1
  refine HC.mono fun e W' ⟨he, hb⟩ => ?_
  subst he
  exact ⟨_, rfl, law_post laid_labelSelects (by kernel_rfl) rfl (by kernel_rfl) Tryd.underlying4 hW' rfl hb⟩
/-- The row. -/
theorem row_labelSelects : Rows.LabelSelectsSaid :=
  OpenClaim.holds_of_wide 4 Tryd.f4 rfl rfl rfl rfl rfl rfl rfl ⟨rfl, rfl, rfl, rfl, rfl⟩ rfl rfl rfl rfl rfl (by kernel_rfl) Tryd.func4 (by kernel_rfl)
    (of_decide_eq_true (by kernel_rfl)) (by unfold Func.isWrapper; first | (rw [if_pos (by decide +kernel)]; kernel_rfl) | (rw [if_neg (by decide +kernel)]; exact ⟨rfl, rfl⟩))
    (fun os started H enc _ => lifted_labelSelects os started H enc)
/-- The statement. -/
theorem proved_labelSelects : Rows.LabelSelectsCardSaid :=
  Claim7.holds_tied_plain_at .later [] [.data, .pinned] true (true, "20b2a4fca3414cee51f738b440eaa6f0fefd3239970039fb59f61b2c3af16353") false row_labelSelects (fun _ h => by cases h) (by kernel_rfl) (fun _ h => by cases h) labelSelects_row_tie rfl ⟨rfl, rfl⟩ (by kernel_rfl) rfl
    (fun f fn hf hfn => by
      obtain rfl : f = 4 := Option.some.inj ((show Tryd.prog.funcNamed "theodolite/theodolitelaw31.LabelSelects" = some 4 by kernel_rfl).symm.trans hf) |>.symm
      obtain rfl : fn = Tryd.f4 := (Option.some.inj (Tryd.func4.symm.trans hfn)).symm
      exact ⟨by kernel_rfl, fun j t ht => by
        rw [Tryd.params4] at ht
        have hm : t ∈ [9, 9] := by simpa using Array.mem_of_getElem? ht
        have hall : ([9, 9].all fun u => !Tryd.prog.wantsStandIn u) = true := by kernel_rfl
        exact (show Tryd.prog.wantsStandIn t = false by simpa using List.all_eq_true.1 hall t hm)⟩)
    (by kernel_rfl)
end Go.Proofs.YtmfocgaojbebgaaDoor
