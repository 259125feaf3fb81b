/- SuiteFull: as many sketches as there may be, and no more; a handle that is free again may be used. No condition. -/
import Derived.Test.YtilcnjbpmoijmaaGreatRows
import Derived.Test.YtilcnjbpmoijmaaGreatPs52
namespace Go.Proofs.YtilcnjbpmoijmaaGreat
open Go.ChangeShapes Go.WideShapes Go.ChangeAt Go.RowKit

theorem own_suiteFull : ownKnob Tryz.prog.godebug = none := by kernel_rfl
theorem laid_suiteFull : laidOutB Tryz.prog = true := by kernel_rfl
set_option maxRecDepth 100000 in
theorem lifted_suiteFull (os : Os) (started : os.Started) (H : Type) (enc : TypeId × Value → H) :
    ReturnsInHanded {} Tryz.checked os 7 .any (Rows.suiteFullSpec.pre6 enc Tryz.prog Tryz.f7 Rows.suiteFullRow.domain false) (Rows.suiteFullSpec.post enc Tryz.prog Tryz.f7 false true false false) := by
  refine returnsInHanded_of_change (C := Tryz.checked) own_suiteFull started (by kernel_rfl) Tryz.func7
    (ChangeSpec.witness6 (enc := enc) (C := Tryz.checked) false ⟨#[], #[.int .u8 0, .int .u16 0, .int .u8 0], []⟩ 8 (by kernel_rfl) (by kernel_rfl) (by kernel_rfl) (by kernel_rfl)) ?_
  intro W base args ds gs before hval0 hW hcnd _
  have hval : ∀ (j : Nat) t v, Tryz.f7.params[j]? = some t → args[j]? = some v → Value.okWide Tryz.prog W .any base t v := hval0
  have hW' := hW
  obtain ⟨p, q, hA0, hV, rfl, hfz, hnd⟩ := hW
  have hA : DataW.TrodAll enc Tryz.prog W 0 (fun _ => true) true Tryz.f7.params.toList args.toList ds p := hA0
  rw [Tryz.params7] at hA hval
  obtain ⟨v0, vs0, d0, ds0, p0, q0, hargs, rfl, rfl, h0, r0⟩ := trodAll_cons hA
  obtain ⟨v1, vs1, d1, ds1, p1, q1, rfl, rfl, rfl, h1, r1⟩ := trodAll_cons r0
  obtain ⟨v2, vs2, d2, ds2, p2, q2, rfl, rfl, rfl, h2, r2⟩ := trodAll_cons r1
  obtain ⟨rfl, rfl, rfl⟩ := trodAll_nil r2
  obtain rfl : args = #[v0, v1, v2] := by cases args; simp_all
  obtain ⟨rfl, rfl⟩ := trodVars_none hV
  obtain ⟨a0, rfl, rfl, rfl, w0⟩ := open_int Tryz.underlying5 (hval 0 5 v0 rfl rfl) h0
  obtain ⟨a1, rfl, rfl, rfl, w1⟩ := open_int Tryz.underlying37 (hval 1 37 v1 rfl rfl) h1
  obtain ⟨a2, rfl, rfl, rfl, w2⟩ := open_int Tryz.underlying5 (hval 2 5 v2 rfl rfl) h2
  clear hA0 hval0 hval hfz hnd hcnd
  have HC : Calls Tryz.prog 7 #[.int .u8 a0, .int .u16 a1, .int .u8 a2] W fun e W' => e = .returned (.bool true) ∧ Below W.heap.size W W' := by
    have b0 := bounds_u8 w0
    have b1 := bounds_u16 w1
    have b2 := bounds_u8 w2
    exact D.full28_any (by omega) (by omega) (by omega) (by omega) (by omega) (by omega) W
  refine HC.mono fun e W' ⟨he, hb⟩ => ?_
  subst he
  exact ⟨_, rfl, law_post laid_suiteFull (by kernel_rfl) rfl (by kernel_rfl) Tryz.underlying4 hW' rfl hb⟩
theorem wf_suiteFull : (Rows.suiteFullRow.wf (OpenSpec.ofChange Rows.suiteFullSpec)) = true := by kernel_rfl
theorem rowed_suiteFull : mapsRowed Tryz.prog = true := by kernel_rfl
theorem inPlace_suiteFull : (Rows.suiteFullRow.inPlace == Tryz.prog.inPlace 7) = true := by kernel_rfl
theorem unfollowed_suiteFull : (Rows.suiteFullRow.unfollowed == Tryz.prog.unfollowed 7) = true := by kernel_rfl
theorem recurses_suiteFull : (Rows.suiteFullRow.recurses == Tryz.prog.recurses 7) = true := by kernel_rfl
theorem named_suiteFull : (Rows.suiteFullRow.named == Tryz.prog.varsNamed 7) = true := by kernel_rfl
theorem keys_suiteFull : (Rows.suiteFullRow.plainKeys == Tryz.prog.plainKeys) = true := by kernel_rfl
theorem heard_suiteFull : Tryz.prog.stopsHeard = true := by kernel_rfl
theorem enter_suiteFull : Tryz.prog.mayEnter = true := by kernel_rfl
theorem lifts_suiteFull : (Rows.suiteFullRow.lifted == Tryz.prog.liftsFinal) = true := by kernel_rfl
theorem joined_suiteFull : joinedFacts Tryz.prog 7 Tryz.f7 Rows.suiteFullSpec Rows.suiteFullRow = true := by
  unfold joinedFacts
  simp only [Bool.and_eq_true]
  exact ⟨⟨⟨⟨⟨⟨⟨⟨⟨⟨⟨⟨⟨⟨⟨⟨⟨⟨⟨⟨⟨⟨⟨⟨⟨⟨⟨⟨⟨⟨⟨wf_suiteFull, laid_suiteFull⟩, rowed_suiteFull⟩, (by kernel_rfl)⟩, (by kernel_rfl)⟩, (by kernel_rfl)⟩, (by kernel_rfl)⟩, (by kernel_rfl)⟩, (by kernel_rfl)⟩, inPlace_suiteFull⟩, unfollowed_suiteFull⟩, recurses_suiteFull⟩, named_suiteFull⟩, (by kernel_rfl)⟩, (by kernel_rfl)⟩, (by kernel_rfl)⟩, (by kernel_rfl)⟩, (by kernel_rfl)⟩, (by kernel_rfl)⟩, (by kernel_rfl)⟩, (by kernel_rfl)⟩, (by kernel_rfl)⟩, keys_suiteFull⟩, (by kernel_rfl)⟩, heard_suiteFull⟩, enter_suiteFull⟩, lifts_suiteFull⟩, (by kernel_rfl)⟩, (by kernel_rfl)⟩, (by kernel_rfl)⟩, (by kernel_rfl)⟩, (by kernel_rfl)⟩
/-- The statement. -/
theorem proved_suiteFull : Rows.SuiteFullSaid :=
  OpenClaim.holds_of_wide 7 Tryz.f7 rfl rfl rfl rfl rfl rfl rfl ⟨rfl, rfl, rfl, rfl, rfl⟩ rfl rfl rfl rfl rfl (by kernel_rfl) Tryz.func7 joined_suiteFull
    (of_decide_eq_true (by kernel_rfl)) (by unfold Func.isWrapper; first | (rw [if_pos (by decide +kernel)]; kernel_rfl) | (rw [if_neg (by decide +kernel)]; exact ⟨rfl, rfl⟩))
    (fun os started H enc _ => lifted_suiteFull os started H enc)
end Go.Proofs.YtilcnjbpmoijmaaGreat
