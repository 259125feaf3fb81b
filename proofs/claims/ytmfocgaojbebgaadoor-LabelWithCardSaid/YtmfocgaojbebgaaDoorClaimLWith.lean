/- LabelWith: a set with a name's value turned, or put to it, is the document's; only some names leave just these labels. Condition of the row: the two listed tables of the library, tied to the text by the card. -/
import Derived.Test.YtmfocgaojbebgaaDoorRows
import Derived.Test.YtmfocgaojbebgaaDoorCards
import Derived.Test.YtmfocgaojbebgaaDoorTie
import Derived.Test.YtmfocgaojbebgaaDoorLcE
import Derived.Test.YtmfocgaojbebgaaDoorLbL
import Derived.LaidLaws
import Derived.SevenTiedAt
import Derived.Stop.Joined
namespace Go.Proofs.YtmfocgaojbebgaaDoor
open Go.ChangeShapes Go.WideShapes Go.ChangeAt Go.RowKit

theorem own_labelWith : ownKnob Tryd.prog.godebug = none := by kernel_rfl
theorem laid_labelWith : laidOutB Tryd.prog = true := by kernel_rfl
set_option maxRecDepth 100000 in
theorem lifted_labelWith (os : Os) (started : os.Started) (H : Type) (enc : TypeId × Value → H) :
    ReturnsInHanded {} Tryd.checked os 7 .any (fun w args => (Rows.labelWithSpec.pre enc Tryd.prog Tryd.f7 Rows.labelWithRow.domain false w args ∧ laidMetH Tryd.prog Rows.labelWithRow.laid w) ∧ sizedMet enc Tryd.prog Tryd.f7 (OpenSpec.ofChange Rows.labelWithSpec) false w args) (Rows.labelWithSpec.post enc Tryd.prog Tryd.f7 false true false false) := by
  refine returns_listed (C := Tryd.checked) (X := fun w _ => laidMetH Tryd.prog Rows.labelWithRow.laid w) (fun _ _ _ hh h => h.of_heap hh) own_labelWith started (by kernel_rfl) Tryd.func7
    (ChangeSpec.witness_shaped (enc := enc) (C := Tryd.checked) (os := os) (X := fun w _ => laidMetH Tryd.prog Rows.labelWithRow.laid w) false (World.laidAll Tryd.prog os Rows.labelWithRow.laid) #[.string ⟨#[]⟩, .string ⟨#[]⟩, .string ⟨#[]⟩, .slice none 0 0] 8 (World.laidAll_os _ _ _)
      (World.shaped_of_ZipB (by kernel_rfl) (by kernel_rfl)) (by kernel_rfl) (by kernel_rfl) (by kernel_rfl)
      (by rw [MakeChecks.laidMetH_plain _ _ _ (by kernel_rfl)]; exact laidMet_laidAll _ (by kernel_rfl) (by kernel_rfl))) ?_
  intro W base args ds gs before hval0 hW _ hsh
  have hval : ∀ (j : Nat) t v, Tryd.f7.params[j]? = some t → args[j]? = some v → Value.okWide Tryd.prog W .any base t v := hval0
  have hW' := hW
  obtain ⟨p, q, hA0, hV, rfl, hfz, hnd⟩ := hW
  have hA : DataW.TrodAll enc Tryd.prog W 0 (fun _ => true) true Tryd.f7.params.toList args.toList ds p := hA0
  rw [Tryd.params7] at hA hval
  obtain ⟨v0, vs0, d0, ds0, p0, q0, hargs, rfl, rfl, h0, r0⟩ := trodAll_cons hA
  obtain ⟨v1, vs1, d1, ds1, p1, q1, rfl, rfl, rfl, h1, r1⟩ := trodAll_cons r0
  obtain ⟨v2, vs2, d2, ds2, p2, q2, rfl, rfl, rfl, h2, r2⟩ := trodAll_cons r1
  obtain ⟨v3, vs3, d3, ds3, p3, q3, rfl, rfl, rfl, h3, r3⟩ := trodAll_cons r2
  obtain ⟨rfl, rfl, rfl⟩ := trodAll_nil r3
  obtain rfl : args = #[v0, v1, v2, v3] := by cases args; simp_all
  obtain ⟨rfl, rfl⟩ := trodVars_none hV
  obtain ⟨s0, rfl, L0⟩ := open_tx Tryd.underlying9 (hval 0 9 v0 rfl rfl) h0
  obtain ⟨s1, rfl, L1⟩ := open_tx Tryd.underlying9 (hval 1 9 v1 rfl rfl) h1
  obtain ⟨s2, rfl, L2⟩ := open_tx Tryd.underlying9 (hval 2 9 v2 rfl rfl) h2
  have ok3 := hval 3 36 v3 rfl rfl
  clear hA0 hval0 hval hfz hnd
  have HC : Calls Tryd.prog 7 #[.string (bsOf s0), .string (bsOf s1), .string (bsOf s2), v3] W fun e W' => e = .returned (.bool true) ∧ Below W.heap.size W W' := by
    obtain ⟨z3, R3, _⟩ := open_txs ok3 h3
    exact withs_any s0 s1 s2 v3 z3 W (Tryd.laysM146.s1_3 W hsh) L0 L1 L2 R3
  refine HC.mono fun e W' ⟨he, hb⟩ => ?_
  subst he
  exact ⟨_, rfl, law_post laid_labelWith (by kernel_rfl) rfl (by kernel_rfl) Tryd.underlying4 hW' rfl hb⟩
/-- The row. -/
theorem row_labelWith : Rows.LabelWithSaid :=
  OpenClaim.holds_of_wide 7 Tryd.f7 rfl rfl rfl rfl rfl rfl rfl ⟨rfl, rfl, rfl, rfl, rfl⟩ rfl rfl rfl rfl rfl (by kernel_rfl) Tryd.func7 (by kernel_rfl)
    (of_decide_eq_true (by kernel_rfl)) (by unfold Func.isWrapper; first | (rw [if_pos (by decide +kernel)]; kernel_rfl) | (rw [if_neg (by decide +kernel)]; exact ⟨rfl, rfl⟩))
    (fun os started H enc _ => lifted_labelWith os started H enc)
/-- The statement. -/
theorem proved_labelWith : Rows.LabelWithCardSaid :=
  Claim7.holds_tied_plain_at .later [] [.data, .pinned] true (true, "20b2a4fca3414cee51f738b440eaa6f0fefd3239970039fb59f61b2c3af16353") false row_labelWith (fun _ h => by cases h) (by kernel_rfl) (fun _ h => by cases h) labelWith_row_tie rfl ⟨rfl, rfl⟩ (by kernel_rfl) rfl
    (fun f fn hf hfn => by
      obtain rfl : f = 7 := Option.some.inj ((show Tryd.prog.funcNamed "theodolite/theodolitelaw31.LabelWith" = some 7 by kernel_rfl).symm.trans hf) |>.symm
      obtain rfl : fn = Tryd.f7 := (Option.some.inj (Tryd.func7.symm.trans hfn)).symm
      exact ⟨by kernel_rfl, fun j t ht => by
        rw [Tryd.params7] at ht
        have hm : t ∈ [9, 9, 9, 36] := by simpa using Array.mem_of_getElem? ht
        have hall : ([9, 9, 9, 36].all fun u => !Tryd.prog.wantsStandIn u) = true := by kernel_rfl
        exact (show Tryd.prog.wantsStandIn t = false by simpa using List.all_eq_true.1 hall t hm)⟩)
    (by kernel_rfl)
end Go.Proofs.YtmfocgaojbebgaaDoor
