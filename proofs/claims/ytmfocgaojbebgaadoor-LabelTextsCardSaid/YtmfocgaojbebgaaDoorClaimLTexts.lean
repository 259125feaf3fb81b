/- LabelTexts: of any labels, whether they are a set, their text, and what any name has, are the document's; which one of two is less, too. Condition of the row: the two listed tables of the library, tied to the text by the card. -/
import Derived.Test.YtmfocgaojbebgaaDoorRows
import Derived.Test.YtmfocgaojbebgaaDoorCards
import Derived.Test.YtmfocgaojbebgaaDoorTie
import Derived.Test.YtmfocgaojbebgaaDoorLbZ
import Derived.Test.YtmfocgaojbebgaaDoorLbL
import Derived.LaidLaws
import Derived.SevenTiedAt
import Derived.Stop.Joined
namespace Go.Proofs.YtmfocgaojbebgaaDoor
open Go.ChangeShapes Go.WideShapes Go.ChangeAt Go.RowKit

theorem own_labelTexts : ownKnob Tryd.prog.godebug = none := by kernel_rfl
theorem laid_labelTexts : laidOutB Tryd.prog = true := by kernel_rfl
set_option maxRecDepth 100000 in
theorem lifted_labelTexts (os : Os) (started : os.Started) (H : Type) (enc : TypeId × Value → H) :
    ReturnsInHanded {} Tryd.checked os 6 .any (fun w args => (Rows.labelTextsSpec.pre enc Tryd.prog Tryd.f6 Rows.labelTextsRow.domain false w args ∧ laidMetH Tryd.prog Rows.labelTextsRow.laid w) ∧ sizedMet enc Tryd.prog Tryd.f6 (OpenSpec.ofChange Rows.labelTextsSpec) false w args) (Rows.labelTextsSpec.post enc Tryd.prog Tryd.f6 false true false false) := by
  refine returns_listed (C := Tryd.checked) (X := fun w _ => laidMetH Tryd.prog Rows.labelTextsRow.laid w) (fun _ _ _ hh h => h.of_heap hh) own_labelTexts started (by kernel_rfl) Tryd.func6
    (ChangeSpec.witness_shaped (enc := enc) (C := Tryd.checked) (os := os) (X := fun w _ => laidMetH Tryd.prog Rows.labelTextsRow.laid w) false (World.laidAll Tryd.prog os Rows.labelTextsRow.laid) #[.slice none 0 0, .slice none 0 0, .string ⟨#[]⟩] 8 (World.laidAll_os _ _ _)
      (World.shaped_of_ZipB (by kernel_rfl) (by kernel_rfl)) (by kernel_rfl) (by kernel_rfl) (by kernel_rfl)
      (by rw [MakeChecks.laidMetH_plain _ _ _ (by kernel_rfl)]; exact laidMet_laidAll _ (by kernel_rfl) (by kernel_rfl))) ?_
  intro W base args ds gs before hval0 hW _ hsh
  have hval : ∀ (j : Nat) t v, Tryd.f6.params[j]? = some t → args[j]? = some v → Value.okWide Tryd.prog W .any base t v := hval0
  have hW' := hW
  obtain ⟨p, q, hA0, hV, rfl, hfz, hnd⟩ := hW
  have hA : DataW.TrodAll enc Tryd.prog W 0 (fun _ => true) true Tryd.f6.params.toList args.toList ds p := hA0
  rw [Tryd.params6] at hA hval
  obtain ⟨v0, vs0, d0, ds0, p0, q0, hargs, rfl, rfl, h0, r0⟩ := trodAll_cons hA
  obtain ⟨v1, vs1, d1, ds1, p1, q1, rfl, rfl, rfl, h1, r1⟩ := trodAll_cons r0
  obtain ⟨v2, vs2, d2, ds2, p2, q2, rfl, rfl, rfl, h2, r2⟩ := trodAll_cons r1
  obtain ⟨rfl, rfl, rfl⟩ := trodAll_nil r2
  obtain rfl : args = #[v0, v1, v2] := by cases args; simp_all
  obtain ⟨rfl, rfl⟩ := trodVars_none hV
  have ok0 := hval 0 23 v0 rfl rfl
  have ok1 := hval 1 23 v1 rfl rfl
  obtain ⟨s2, rfl, L2⟩ := open_tx Tryd.underlying9 (hval 2 9 v2 rfl rfl) h2
  clear hA0 hval0 hval hfz hnd
  have HC : Calls Tryd.prog 6 #[v0, v1, .string (bsOf s2)] W fun e W' => e = .returned (.bool true) ∧ Below W.heap.size W W' := by
    obtain ⟨z0, R0, q0⟩ := open_lbs ok0 h0
    obtain ⟨z1, R1, q1⟩ := open_lbs ok1 h1
    exact texts_any v0 v1 z0 z1 s2 W (Tryd.laysM146.s1_3 W hsh) R0 q0 R1 q1
  refine HC.mono fun e W' ⟨he, hb⟩ => ?_
  subst he
  exact ⟨_, rfl, law_post laid_labelTexts (by kernel_rfl) rfl (by kernel_rfl) Tryd.underlying4 hW' rfl hb⟩
/-- The row. -/
theorem row_labelTexts : Rows.LabelTextsSaid :=
  OpenClaim.holds_of_wide 6 Tryd.f6 rfl rfl rfl rfl rfl rfl rfl ⟨rfl, rfl, rfl, rfl, rfl⟩ rfl rfl rfl rfl rfl (by kernel_rfl) Tryd.func6 (by kernel_rfl)
    (of_decide_eq_true (by kernel_rfl)) (by unfold Func.isWrapper; first | (rw [if_pos (by decide +kernel)]; kernel_rfl) | (rw [if_neg (by decide +kernel)]; exact ⟨rfl, rfl⟩))
    (fun os started H enc _ => lifted_labelTexts os started H enc)
/-- The statement. -/
theorem proved_labelTexts : Rows.LabelTextsCardSaid :=
  Claim7.holds_tied_plain_at .later [] [.data, .pinned] true (true, "20b2a4fca3414cee51f738b440eaa6f0fefd3239970039fb59f61b2c3af16353") false row_labelTexts (fun _ h => by cases h) (by kernel_rfl) (fun _ h => by cases h) labelTexts_row_tie rfl ⟨rfl, rfl⟩ (by kernel_rfl) rfl
    (fun f fn hf hfn => by
      obtain rfl : f = 6 := Option.some.inj ((show Tryd.prog.funcNamed "theodolite/theodolitelaw31.LabelTexts" = some 6 by kernel_rfl).symm.trans hf) |>.symm
      obtain rfl : fn = Tryd.f6 := (Option.some.inj (Tryd.func6.symm.trans hfn)).symm
      exact ⟨by kernel_rfl, fun j t ht => by
        rw [Tryd.params6] at ht
        have hm : t ∈ [23, 23, 9] := by simpa using Array.mem_of_getElem? ht
        have hall : ([23, 23, 9].all fun u => !Tryd.prog.wantsStandIn u) = true := by kernel_rfl
        exact (show Tryd.prog.wantsStandIn t = false by simpa using List.all_eq_true.1 hall t hm)⟩)
    (by kernel_rfl)
end Go.Proofs.YtmfocgaojbebgaaDoor
