/- WindowMakes: which windows may be is the document's; unlike ones aren't taken together. No condition. -/
import Derived.Test.YtilcnjbpmoijmaaGreatRows
import Derived.Test.YtilcnjbpmoijmaaGreatPw51
namespace Go.Proofs.YtilcnjbpmoijmaaGreat
open Go.ChangeShapes Go.WideShapes Go.ChangeAt Go.RowKit

theorem Ea : ownKnob Tryz.prog.godebug = none := by kernel_rfl
theorem rY : laidOutB Tryz.prog = true := by kernel_rfl
set_option maxRecDepth 100000 in
theorem yE (os : Os) (started : os.Started) (H : Type) (enc : TypeId × Value → H) :
    ReturnsInHanded {} Tryz.checked os 3 .any (Rows.windowMakesSpec.pre6 enc Tryz.prog Tryz.f3 Rows.windowMakesRow.domain false) (Rows.windowMakesSpec.post enc Tryz.prog Tryz.f3 false true false false) := by
  refine returnsInHanded_of_change (C := Tryz.checked) Ea started (by kernel_rfl) Tryz.func3
    (ChangeSpec.witness6 (enc := enc) (C := Tryz.checked) false ⟨#[], #[.agg #[.int .u8 0, .int .i64 0, .int .i64 0, .int .i64 0, .bool false, .int .i64 0, .int .i64 0], .agg #[.int .u8 0, .int .i64 0, .int .i64 0, .int .i64 0, .bool false, .int .i64 0, .int .i64 0], .int .i64 0, .int .i64 0], []⟩ 8 (by kernel_rfl) (by kernel_rfl) (by kernel_rfl) (by kernel_rfl)) ?_
  intro W base args ds gs before hval0 hW hcnd _
  have hval : ∀ (j : Nat) t v, Tryz.f3.params[j]? = some t → args[j]? = some v → Value.okWide Tryz.prog W .any base t v := hval0
  have hW' := hW
  obtain ⟨p, q, hA0, hV, rfl, hfz, hnd⟩ := hW
  have hA : DataW.TrodAll enc Tryz.prog W 0 (fun _ => true) true Tryz.f3.params.toList args.toList ds p := hA0
  rw [Tryz.params3] at hA hval
  obtain ⟨v0, vs0, d0, ds0, p0, q0, hargs, rfl, rfl, h0, r0⟩ := trodAll_cons hA
  obtain ⟨v1, vs1, d1, ds1, p1, q1, rfl, rfl, rfl, h1, r1⟩ := trodAll_cons r0
  obtain ⟨v2, vs2, d2, ds2, p2, q2, rfl, rfl, rfl, h2, r2⟩ := trodAll_cons r1
  obtain ⟨v3, vs3, d3, ds3, p3, q3, rfl, rfl, rfl, h3, r3⟩ := trodAll_cons r2
  obtain ⟨rfl, rfl, rfl⟩ := trodAll_nil r3
  obtain rfl : args = #[v0, v1, v2, v3] := by cases args; simp_all
  obtain ⟨rfl, rfl⟩ := trodVars_none hV
  have ok0 := hval 0 25 v0 rfl rfl
  have ok1 := hval 1 25 v1 rfl rfl
  obtain ⟨a2, rfl, rfl, rfl, w2⟩ := open_int Tryz.underlying3 (hval 2 3 v2 rfl rfl) h2
  obtain ⟨a3, rfl, rfl, rfl, w3⟩ := open_int Tryz.underlying3 (hval 3 3 v3 rfl rfl) h3
  clear hA0 hval0 hval hfz hnd hcnd
  have HC : Calls Tryz.prog 3 #[v0, v1, .int .i64 a2, .int .i64 a3] W fun e W' => e = .returned (.bool true) ∧ Below W.heap.size W W' := by
    obtain ⟨k1, l1, p1, y1, q1, s1, g1, e1, b0, b1⟩ := D.bj5 ok0 h0
    obtain ⟨k2, l2, p2, y2, q2, s2, g2, e2, c0, c1⟩ := D.bj5 ok1 h1
    subst e1; subst e2
    exact D.ay8 k1 l1 p1 y1 q1 s1 k2 l2 p2 y2 q2 s2 g1 g2 a2 a3 W b0 b1 c0 c1
  refine HC.mono fun e W' ⟨he, hb⟩ => ?_
  subst he
  exact ⟨_, rfl, bk0 rY (by kernel_rfl) rfl (by kernel_rfl) Tryz.underlying4 hW' rfl hb⟩
theorem Ic : (Rows.windowMakesRow.wf (OpenSpec.ofChange Rows.windowMakesSpec)) = true := by kernel_rfl
theorem Ae : mapsRowed Tryz.prog = true := by kernel_rfl
theorem xk : (Rows.windowMakesRow.inPlace == Tryz.prog.inPlace 3) = true := by kernel_rfl
theorem ui : (Rows.windowMakesRow.unfollowed == Tryz.prog.unfollowed 3) = true := by kernel_rfl
theorem vZ : (Rows.windowMakesRow.recurses == Tryz.prog.recurses 3) = true := by kernel_rfl
theorem Af : (Rows.windowMakesRow.named == Tryz.prog.varsNamed 3) = true := by kernel_rfl
theorem BV : (Rows.windowMakesRow.plainKeys == Tryz.prog.plainKeys) = true := by kernel_rfl
theorem Ag : Tryz.prog.stopsHeard = true := by kernel_rfl
theorem Ah : Tryz.prog.mayEnter = true := by kernel_rfl
theorem Ai : (Rows.windowMakesRow.lifted == Tryz.prog.liftsFinal) = true := by kernel_rfl
theorem yF : joinedFacts Tryz.prog 3 Tryz.f3 Rows.windowMakesSpec Rows.windowMakesRow = true := by
  unfold joinedFacts
  simp only [Bool.and_eq_true]
  exact ⟨⟨⟨⟨⟨⟨⟨⟨⟨⟨⟨⟨⟨⟨⟨⟨⟨⟨⟨⟨⟨⟨⟨⟨⟨⟨⟨⟨⟨⟨⟨Ic, rY⟩, Ae⟩, (by kernel_rfl)⟩, (by kernel_rfl)⟩, (by kernel_rfl)⟩, (by kernel_rfl)⟩, (by kernel_rfl)⟩, (by kernel_rfl)⟩, xk⟩, ui⟩, vZ⟩, Af⟩, (by kernel_rfl)⟩, (by kernel_rfl)⟩, (by kernel_rfl)⟩, (by kernel_rfl)⟩, (by kernel_rfl)⟩, (by kernel_rfl)⟩, (by kernel_rfl)⟩, (by kernel_rfl)⟩, (by kernel_rfl)⟩, BV⟩, (by kernel_rfl)⟩, Ag⟩, Ah⟩, Ai⟩, (by kernel_rfl)⟩, (by kernel_rfl)⟩, (by kernel_rfl)⟩, (by kernel_rfl)⟩, (by kernel_rfl)⟩
/-- The statement. -/
theorem proved_windowMakes : Rows.WindowMakesSaid :=
  OpenClaim.holds_of_wide 3 Tryz.f3 rfl rfl rfl rfl rfl rfl rfl ⟨rfl, rfl, rfl, rfl, rfl⟩ rfl rfl rfl rfl rfl (by kernel_rfl) Tryz.func3 yF
    (of_decide_eq_true (by kernel_rfl)) (by unfold Func.isWrapper; first | (rw [if_pos (by decide +kernel)]; kernel_rfl) | (rw [if_neg (by decide +kernel)]; exact ⟨rfl, rfl⟩))
    (fun os started H enc _ => yE os started H enc)
end Go.Proofs.YtilcnjbpmoijmaaGreat
