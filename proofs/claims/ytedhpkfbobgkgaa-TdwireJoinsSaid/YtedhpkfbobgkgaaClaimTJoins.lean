/- TdwireJoins: bytes of two digests joined are those of the one that takes the other one; of unlike ones the error is Take's; of cut bytes there are none. No condition. -/
import Derived.Test.YtedhpkfbobgkgaaRows
import Derived.Test.YtedhpkfbobgkgaaTeI
import Derived.Test.YtedhpkfbobgkgaaTeK
namespace Go.Proofs.Ytedhpkfbobgkgaa
open Go.ChangeShapes Go.WideShapes Go.ChangeAt Go.RowKit

theorem own_tdwireJoins : ownKnob Try.prog.godebug = none := by kernel_rfl
theorem laid_tdwireJoins : laidOutB Try.prog = true := by kernel_rfl
set_option maxRecDepth 100000 in
theorem lifted_tdwireJoins (os : Os) (started : os.Started) (H : Type) (enc : TypeId × Value → H) :
    ReturnsInHanded {} Try.checked os 16 .any (Rows.tdwireJoinsSpec.pre6 enc Try.prog Try.f16 Rows.tdwireJoinsRow.domain false) (Rows.tdwireJoinsSpec.post enc Try.prog Try.f16 false true false false) := by
  refine returnsInHanded_of_change (C := Try.checked) own_tdwireJoins started (by kernel_rfl) Try.func16
    (ChangeSpec.witness6 (enc := enc) (C := Try.checked) false ⟨#[], #[.int .u16 0, .slice none 0 0, .slice none 0 0, .slice none 0 0, .bool false, .int .i64 0], []⟩ 8 (by kernel_rfl) (by kernel_rfl) (by kernel_rfl) (by kernel_rfl)) ?_
  intro W base args ds gs before hval0 hW hcnd _
  have hval : ∀ (j : Nat) t v, Try.f16.params[j]? = some t → args[j]? = some v → Value.okWide Try.prog W .any base t v := hval0
  have hW' := hW
  obtain ⟨p, q, hA0, hV, rfl, hfz, hnd⟩ := hW
  have hA : DataW.TrodAll enc Try.prog W 0 (fun _ => true) true Try.f16.params.toList args.toList ds p := hA0
  rw [Try.params16] at hA hval
  obtain ⟨v0, vs0, d0, ds0, p0, q0, hargs, rfl, rfl, h0, r0⟩ := trodAll_cons hA
  obtain ⟨v1, vs1, d1, ds1, p1, q1, rfl, rfl, rfl, h1, r1⟩ := trodAll_cons r0
  obtain ⟨v2, vs2, d2, ds2, p2, q2, rfl, rfl, rfl, h2, r2⟩ := trodAll_cons r1
  obtain ⟨v3, vs3, d3, ds3, p3, q3, rfl, rfl, rfl, h3, r3⟩ := trodAll_cons r2
  obtain ⟨v4, vs4, d4, ds4, p4, q4, rfl, rfl, rfl, h4, r4⟩ := trodAll_cons r3
  obtain ⟨v5, vs5, d5, ds5, p5, q5, rfl, rfl, rfl, h5, r5⟩ := trodAll_cons r4
  obtain ⟨rfl, rfl, rfl⟩ := trodAll_nil r5
  obtain rfl : args = #[v0, v1, v2, v3, v4, v5] := by cases args; simp_all
  obtain ⟨rfl, rfl⟩ := trodVars_none hV
  obtain ⟨a0, rfl, rfl, rfl, w0⟩ := open_int Try.underlying22 (hval 0 22 v0 rfl rfl) h0
  obtain ⟨z1, R1, Z1⟩ := open_RdI (k := .i64) Try.underlying23 Try.underlying2 (by kernel_rfl) (hval 1 23 v1 rfl rfl) h1
  obtain ⟨z2, R2, Z2⟩ := open_RdI (k := .i64) Try.underlying23 Try.underlying2 (by kernel_rfl) (hval 2 23 v2 rfl rfl) h2
  obtain ⟨z3, R3, Z3⟩ := open_RdI (k := .u16) Try.underlying24 Try.underlying22 (by kernel_rfl) (hval 3 24 v3 rfl rfl) h3
  obtain ⟨a4, rfl, rfl, rfl⟩ := open_bool Try.underlying4 (hval 4 4 v4 rfl rfl) h4
  obtain ⟨a5, rfl, rfl, rfl, w5⟩ := open_int Try.underlying3 (hval 5 3 v5 rfl rfl) h5
  clear hA0 hval0 hval hfz hnd hcnd
  have HC : Calls Try.prog 16 #[.int .u16 a0, v1, v2, v3, .bool a4, .int .i64 a5] W fun e W' => e = .returned (.bool true) ∧ Below W.heap.size W W' := by
    have b0 := bounds_u16 w0
    have b5 := bounds_i64 w5
    cases a4
    · exact joins_like a0 v1 v2 v3 a5 z1 z2 z3 W b0.1 (by omega) R1 R2 R3 (fun x hx => bounds_i64 (Z1 x hx)) (fun x hx => bounds_i64 (Z2 x hx)) (fun x hx => bounds_u16 (Z3 x hx)) b5.1 b5.2
    · exact joins_unlike a0 v1 v2 v3 a5 z1 z2 z3 W b0.1 (by omega) R1 R2 R3 (fun x hx => bounds_i64 (Z1 x hx)) (fun x hx => bounds_i64 (Z2 x hx)) (fun x hx => bounds_u16 (Z3 x hx)) b5.1 b5.2
  refine HC.mono fun e W' ⟨he, hb⟩ => ?_
  subst he
  exact ⟨_, rfl, law_post laid_tdwireJoins (by kernel_rfl) rfl (by kernel_rfl) Try.underlying4 hW' rfl hb⟩
/-- The statement. -/
theorem proved_tdwireJoins : Rows.TdwireJoinsSaid :=
  OpenClaim.holds_of_wide 16 Try.f16 rfl rfl rfl rfl rfl rfl rfl ⟨rfl, rfl, rfl, rfl, rfl⟩ rfl rfl rfl rfl rfl (by kernel_rfl) Try.func16 (by kernel_rfl)
    (of_decide_eq_true (by kernel_rfl)) (by unfold Func.isWrapper; first | (rw [if_pos (by decide +kernel)]; kernel_rfl) | (rw [if_neg (by decide +kernel)]; exact ⟨rfl, rfl⟩))
    (fun os started H enc _ => lifted_tdwireJoins os started H enc)
end Go.Proofs.Ytedhpkfbobgkgaa
