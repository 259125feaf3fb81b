/- JoinMakes: which specs may be is the document's; sketches of unlike ones aren't taken together. No condition. -/
import Derived.Test.YtingnldfpokckaaGreatRows
import Derived.Test.YtingnldfpokckaaGreatPm53
import Derived.Test.YtingnldfpokckaaGreatPm53
namespace Go.Proofs.YtingnldfpokckaaGreat
open Go.ChangeShapes Go.WideShapes Go.ChangeAt Go.RowKit

theorem own_joinMakes : ownKnob Tryz.prog.godebug = none := by kernel_rfl
theorem laid_joinMakes : laidOutB Tryz.prog = true := by kernel_rfl
set_option maxRecDepth 100000 in
theorem lifted_joinMakes (os : Os) (started : os.Started) (H : Type) (enc : TypeId × Value → H) :
    ReturnsInHanded {} Tryz.checked os 3 .any (Rows.joinMakesSpec.pre6 enc Tryz.prog Tryz.f3 Rows.joinMakesRow.domain false) (Rows.joinMakesSpec.post enc Tryz.prog Tryz.f3 false true false false) := by
  refine returnsInHanded_of_change (C := Tryz.checked) own_joinMakes started (by kernel_rfl) Tryz.func3
    (ChangeSpec.witness6 (enc := enc) (C := Tryz.checked) false ⟨#[], #[.agg #[.int .u8 0, .int .i64 0, .int .i64 0, .int .i64 0, .bool false, .int .i64 0, .int .i64 0], .agg #[.int .u8 0, .int .i64 0, .int .i64 0, .int .i64 0, .bool false, .int .i64 0, .int .i64 0]], []⟩ 8 (by kernel_rfl) (by kernel_rfl) (by kernel_rfl) (by kernel_rfl)) ?_
  intro W base args ds gs before hval0 hW hcnd _
  have hval : ∀ (j : Nat) t v, Tryz.f3.params[j]? = some t → args[j]? = some v → Value.okWide Tryz.prog W .any base t v := hval0
  have hW' := hW
  obtain ⟨p, q, hA0, hV, rfl, hfz, hnd⟩ := hW
  have hA : DataW.TrodAll enc Tryz.prog W 0 (fun _ => true) true Tryz.f3.params.toList args.toList ds p := hA0
  rw [Tryz.params3] at hA hval
  obtain ⟨v0, vs0, d0, ds0, p0, q0, hargs, rfl, rfl, h0, r0⟩ := trodAll_cons hA
  obtain ⟨v1, vs1, d1, ds1, p1, q1, rfl, rfl, rfl, h1, r1⟩ := trodAll_cons r0
  obtain ⟨rfl, rfl, rfl⟩ := trodAll_nil r1
  obtain rfl : args = #[v0, v1] := by cases args; simp_all
  obtain ⟨rfl, rfl⟩ := trodVars_none hV
  have ok0 := hval 0 25 v0 rfl rfl
  have ok1 := hval 1 25 v1 rfl rfl
  clear hA0 hval0 hval hfz hnd hcnd
  have HC : Calls Tryz.prog 3 #[v0, v1] W fun e W' => e = .returned (.bool true) ∧ Below W.heap.size W W' := by
    obtain ⟨k1, l1, p1, d1, a1, s1, g1, e1, b0, b1⟩ := D.open_spec ok0 h0
    obtain ⟨k2, l2, p2, d2, a2, s2, g2, e2, c0, c1⟩ := D.open_spec ok1 h1
    subst e1; subst e2
    exact D.makes27_any k1 l1 p1 d1 a1 s1 k2 l2 p2 d2 a2 s2 g1 g2 W b0 b1 c0 c1
  refine HC.mono fun e W' ⟨he, hb⟩ => ?_
  subst he
  exact ⟨_, rfl, law_post laid_joinMakes (by kernel_rfl) rfl (by kernel_rfl) Tryz.underlying4 hW' rfl hb⟩
theorem wf_joinMakes : (Rows.joinMakesRow.wf (OpenSpec.ofChange Rows.joinMakesSpec)) = true := by kernel_rfl
theorem rowed_joinMakes : mapsRowed Tryz.prog = true := by kernel_rfl
theorem inPlace_joinMakes : (Rows.joinMakesRow.inPlace == Tryz.prog.inPlace 3) = true := by kernel_rfl
theorem unfollowed_joinMakes : (Rows.joinMakesRow.unfollowed == Tryz.prog.unfollowed 3) = true := by kernel_rfl
theorem recurses_joinMakes : (Rows.joinMakesRow.recurses == Tryz.prog.recurses 3) = true := by kernel_rfl
theorem named_joinMakes : (Rows.joinMakesRow.named == Tryz.prog.varsNamed 3) = true := by kernel_rfl
theorem keys_joinMakes : (Rows.joinMakesRow.plainKeys == Tryz.prog.plainKeys) = true := by kernel_rfl
theorem heard_joinMakes : Tryz.prog.stopsHeard = true := by kernel_rfl
theorem enter_joinMakes : Tryz.prog.mayEnter = true := by kernel_rfl
theorem lifts_joinMakes : (Rows.joinMakesRow.lifted == Tryz.prog.liftsFinal) = true := by kernel_rfl
theorem joined_joinMakes : joinedFacts Tryz.prog 3 Tryz.f3 Rows.joinMakesSpec Rows.joinMakesRow = true := by
  unfold joinedFacts
  simp only [Bool.and_eq_true]
  exact ⟨⟨⟨⟨⟨⟨⟨⟨⟨⟨⟨⟨⟨⟨⟨⟨⟨⟨⟨⟨⟨⟨⟨⟨⟨⟨⟨⟨⟨⟨⟨wf_joinMakes, laid_joinMakes⟩, rowed_joinMakes⟩, (by kernel_rfl)⟩, (by kernel_rfl)⟩, (by kernel_rfl)⟩, (by kernel_rfl)⟩, (by kernel_rfl)⟩, (by kernel_rfl)⟩, inPlace_joinMakes⟩, unfollowed_joinMakes⟩, recurses_joinMakes⟩, named_joinMakes⟩, (by kernel_rfl)⟩, (by kernel_rfl)⟩, (by kernel_rfl)⟩, (by kernel_rfl)⟩, (by kernel_rfl)⟩, (by kernel_rfl)⟩, (by kernel_rfl)⟩, (by kernel_rfl)⟩, (by kernel_rfl)⟩, keys_joinMakes⟩, (by kernel_rfl)⟩, heard_joinMakes⟩, enter_joinMakes⟩, lifts_joinMakes⟩, (by kernel_rfl)⟩, (by kernel_rfl)⟩, (by kernel_rfl)⟩, (by kernel_rfl)⟩, (by kernel_rfl)⟩
/-- The statement. -/
theorem proved_joinMakes : Rows.JoinMakesSaid :=
  OpenClaim.holds_of_wide 3 Tryz.f3 rfl rfl rfl rfl rfl rfl rfl ⟨rfl, rfl, rfl, rfl, rfl⟩ rfl rfl rfl rfl rfl (by kernel_rfl) Tryz.func3 joined_joinMakes
    (of_decide_eq_true (by kernel_rfl)) (by unfold Func.isWrapper; first | (rw [if_pos (by decide +kernel)]; kernel_rfl) | (rw [if_neg (by decide +kernel)]; exact ⟨rfl, rfl⟩))
    (fun os started H enc _ => lifted_joinMakes os started H enc)
end Go.Proofs.YtingnldfpokckaaGreat
