/- LabelTurns: a set fits a condition just if it doesn't fit its contrary; any conditions, just if it fits each alone; what is no set fits none. Condition of the row: the two listed tables of the library, tied to the text by the card. -/
import Derived.Test.YtmfocgaojbebgaaDoorRows
import Derived.Test.YtmfocgaojbebgaaDoorCards
import Derived.Test.YtmfocgaojbebgaaDoorTie
import Derived.Test.YtmfocgaojbebgaaDoorLbW
import Derived.Test.YtmfocgaojbebgaaDoorLbL
import Derived.LaidLaws
import Derived.SevenTiedAt
import Derived.Stop.Joined
namespace Go.Proofs.YtmfocgaojbebgaaDoor
open Go.ChangeShapes Go.WideShapes Go.ChangeAt Go.RowKit

theorem own_labelTurns : ownKnob Tryd.prog.godebug = none := by kernel_rfl
theorem laid_labelTurns : laidOutB Tryd.prog = true := by kernel_rfl
set_option maxRecDepth 100000 in
theorem lifted_labelTurns (os : Os) (started : os.Started) (H : Type) (enc : TypeId × Value → H) :
    ReturnsInHanded {} Tryd.checked os 5 .any (fun w args => (Rows.labelTurnsSpec.pre enc Tryd.prog Tryd.f5 Rows.labelTurnsRow.domain false w args ∧ laidMetH Tryd.prog Rows.labelTurnsRow.laid w) ∧ sizedMet enc Tryd.prog Tryd.f5 (OpenSpec.ofChange Rows.labelTurnsSpec) false w args) (Rows.labelTurnsSpec.post enc Tryd.prog Tryd.f5 false true false false) := by
  refine returns_listed (C := Tryd.checked) (X := fun w _ => laidMetH Tryd.prog Rows.labelTurnsRow.laid w) (fun _ _ _ hh h => h.of_heap hh) own_labelTurns started (by kernel_rfl) Tryd.func5
    (ChangeSpec.witness_shaped (enc := enc) (C := Tryd.checked) (os := os) (X := fun w _ => laidMetH Tryd.prog Rows.labelTurnsRow.laid w) false (World.laidAll Tryd.prog os Rows.labelTurnsRow.laid) #[.slice none 0 0, .slice none 0 0] 8 (World.laidAll_os _ _ _)
      (World.shaped_of_ZipB (by kernel_rfl) (by kernel_rfl)) (by kernel_rfl) (by kernel_rfl) (by kernel_rfl)
      (by rw [MakeChecks.laidMetH_plain _ _ _ (by kernel_rfl)]; exact laidMet_laidAll _ (by kernel_rfl) (by kernel_rfl))) ?_
  intro W base args ds gs before hval0 hW _ hsh
  have hval : ∀ (j : Nat) t v, Tryd.f5.params[j]? = some t → args[j]? = some v → Value.okWide Tryd.prog W .any base t v := hval0
  have hW' := hW
  obtain ⟨p, q, hA0, hV, rfl, hfz, hnd⟩ := hW
  have hA : DataW.TrodAll enc Tryd.prog W 0 (fun _ => true) true Tryd.f5.params.toList args.toList ds p := hA0
  rw [Tryd.params5] at hA hval
  obtain ⟨v0, vs0, d0, ds0, p0, q0, hargs, rfl, rfl, h0, r0⟩ := trodAll_cons hA
  obtain ⟨v1, vs1, d1, ds1, p1, q1, rfl, rfl, rfl, h1, r1⟩ := trodAll_cons r0
  obtain ⟨rfl, rfl, rfl⟩ := trodAll_nil r1
  obtain rfl : args = #[v0, v1] := by cases args; simp_all
  obtain ⟨rfl, rfl⟩ := trodVars_none hV
  have ok0 := hval 0 23 v0 rfl rfl
  have ok1 := hval 1 33 v1 rfl rfl
  clear hA0 hval0 hval hfz hnd
  have HC : Calls Tryd.prog 5 #[v0, v1] W fun e W' => e = .returned (.bool true) ∧ Below W.heap.size W W' := by
    obtain ⟨z0, R0, q0⟩ := open_lbs ok0 h0
    obtain ⟨z1, R1, _⟩ := open_cds ok1 h1
    exact turns_any v0 v1 z0 z1 W (Tryd.laysM146.s1_3 W hsh) R0 q0 R1
  refine HC.mono fun e W' ⟨he, hb⟩ => ?_
  subst he
  exact ⟨_, rfl, law_post laid_labelTurns (by kernel_rfl) rfl (by kernel_rfl) Tryd.underlying4 hW' rfl hb⟩
/-- The row. -/
theorem row_labelTurns : Rows.LabelTurnsSaid :=
  OpenClaim.holds_of_wide 5 Tryd.f5 rfl rfl rfl rfl rfl rfl rfl ⟨rfl, rfl, rfl, rfl, rfl⟩ rfl rfl rfl rfl rfl (by kernel_rfl) Tryd.func5 (by kernel_rfl)
    (of_decide_eq_true (by kernel_rfl)) (by unfold Func.isWrapper; first | (rw [if_pos (by decide +kernel)]; kernel_rfl) | (rw [if_neg (by decide +kernel)]; exact ⟨rfl, rfl⟩))
    (fun os started H enc _ => lifted_labelTurns os started H enc)
/-- The statement. -/
theorem proved_labelTurns : Rows.LabelTurnsCardSaid :=
  Claim7.holds_tied_plain_at .later [] [.data, .pinned] true (true, "20b2a4fca3414cee51f738b440eaa6f0fefd3239970039fb59f61b2c3af16353") false row_labelTurns (fun _ h => by cases h) (by kernel_rfl) (fun _ h => by cases h) labelTurns_row_tie rfl ⟨rfl, rfl⟩ (by kernel_rfl) rfl
    (fun f fn hf hfn => by
      obtain rfl : f = 5 := Option.some.inj ((show Tryd.prog.funcNamed "theodolite/theodolitelaw31.LabelTurns" = some 5 by kernel_rfl).symm.trans hf) |>.symm
      obtain rfl : fn = Tryd.f5 := (Option.some.inj (Tryd.func5.symm.trans hfn)).symm
      exact ⟨by kernel_rfl, fun j t ht => by
        rw [Tryd.params5] at ht
        have hm : t ∈ [23, 33] := by simpa using Array.mem_of_getElem? ht
        have hall : ([23, 33].all fun u => !Tryd.prog.wantsStandIn u) = true := by kernel_rfl
        exact (show Tryd.prog.wantsStandIn t = false by simpa using List.all_eq_true.1 hall t hm)⟩)
    (by kernel_rfl)
end Go.Proofs.YtmfocgaojbebgaaDoor
