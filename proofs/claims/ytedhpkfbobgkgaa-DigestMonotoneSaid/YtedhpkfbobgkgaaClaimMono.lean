/- DigestMonotone: at 0 stands the least value, at 1 the greatest one; a greater part has no lesser value; how much is up to a value never falls when that grows. No condition. -/
import Derived.Test.YtedhpkfbobgkgaaRows
import Derived.Test.YtedhpkfbobgkgaaMono
namespace Go.Proofs.Ytedhpkfbobgkgaa
open Go.ChangeShapes Go.WideShapes Go.ChangeAt Go.RowKit

theorem own_digestMonotone : ownKnob Try.prog.godebug = none := by kernel_rfl
theorem laid_digestMonotone : laidOutB Try.prog = true := by kernel_rfl
set_option maxRecDepth 100000 in
theorem lifted_digestMonotone (os : Os) (started : os.Started) (H : Type) (enc : TypeId × Value → H) :
    ReturnsInHanded {} Try.checked os 3 .any (Rows.digestMonotoneSpec.pre6 enc Try.prog Try.f3 Rows.digestMonotoneRow.domain false) (Rows.digestMonotoneSpec.post enc Try.prog Try.f3 false true false false) := by
  refine returnsInHanded_of_change (C := Try.checked) own_digestMonotone started (by kernel_rfl) Try.func3
    (ChangeSpec.witness6 (enc := enc) (C := Try.checked) false ⟨#[], #[.int .u16 0, .slice none 0 0, .slice none 0 0, .int .u64 0, .int .u64 0, .int .u64 0, .int .u64 0, .int .i64 0, .int .i64 0], []⟩ 8 (by kernel_rfl) (by kernel_rfl) (by kernel_rfl) (by kernel_rfl)) ?_
  intro W base args ds gs before hval0 hW hcnd _
  have hval : ∀ (j : Nat) t v, Try.f3.params[j]? = some t → args[j]? = some v → Value.okWide Try.prog W .any base t v := hval0
  have hW' := hW
  obtain ⟨p, q, hA0, hV, rfl, hfz, hnd⟩ := hW
  have hA : DataW.TrodAll enc Try.prog W 0 (fun _ => true) true Try.f3.params.toList args.toList ds p := hA0
  rw [Try.params3] at hA hval
  obtain ⟨v0, vs0, d0, ds0, p0, q0, hargs, rfl, rfl, h0, r0⟩ := trodAll_cons hA
  obtain ⟨v1, vs1, d1, ds1, p1, q1, rfl, rfl, rfl, h1, r1⟩ := trodAll_cons r0
  obtain ⟨v2, vs2, d2, ds2, p2, q2, rfl, rfl, rfl, h2, r2⟩ := trodAll_cons r1
  obtain ⟨v3, vs3, d3, ds3, p3, q3, rfl, rfl, rfl, h3, r3⟩ := trodAll_cons r2
  obtain ⟨v4, vs4, d4, ds4, p4, q4, rfl, rfl, rfl, h4, r4⟩ := trodAll_cons r3
  obtain ⟨v5, vs5, d5, ds5, p5, q5, rfl, rfl, rfl, h5, r5⟩ := trodAll_cons r4
  obtain ⟨v6, vs6, d6, ds6, p6, q6, rfl, rfl, rfl, h6, r6⟩ := trodAll_cons r5
  obtain ⟨v7, vs7, d7, ds7, p7, q7, rfl, rfl, rfl, h7, r7⟩ := trodAll_cons r6
  obtain ⟨v8, vs8, d8, ds8, p8, q8, rfl, rfl, rfl, h8, r8⟩ := trodAll_cons r7
  obtain ⟨rfl, rfl, rfl⟩ := trodAll_nil r8
  obtain rfl : args = #[v0, v1, v2, v3, v4, v5, v6, v7, v8] := by cases args; simp_all
  obtain ⟨rfl, rfl⟩ := trodVars_none hV
  obtain ⟨a0, rfl, rfl, rfl, w0⟩ := open_int Try.underlying22 (hval 0 22 v0 rfl rfl) h0
  obtain ⟨z1, R1, Z1⟩ := open_RdI (k := .i64) Try.underlying23 Try.underlying2 (by kernel_rfl) (hval 1 23 v1 rfl rfl) h1
  obtain ⟨z2, R2, Z2⟩ := open_RdI (k := .u16) Try.underlying24 Try.underlying22 (by kernel_rfl) (hval 2 24 v2 rfl rfl) h2
  obtain ⟨a3, rfl, rfl, rfl, w3⟩ := open_int Try.underlying25 (hval 3 25 v3 rfl rfl) h3
  obtain ⟨a4, rfl, rfl, rfl, w4⟩ := open_int Try.underlying25 (hval 4 25 v4 rfl rfl) h4
  obtain ⟨a5, rfl, rfl, rfl, w5⟩ := open_int Try.underlying25 (hval 5 25 v5 rfl rfl) h5
  obtain ⟨a6, rfl, rfl, rfl, w6⟩ := open_int Try.underlying25 (hval 6 25 v6 rfl rfl) h6
  obtain ⟨a7, rfl, rfl, rfl, w7⟩ := open_int Try.underlying2 (hval 7 2 v7 rfl rfl) h7
  obtain ⟨a8, rfl, rfl, rfl, w8⟩ := open_int Try.underlying2 (hval 8 2 v8 rfl rfl) h8
  clear hA0 hval0 hval hfz hnd hcnd
  have HC : Calls Try.prog 3 #[.int .u16 a0, v1, v2, .int .u64 a3, .int .u64 a4, .int .u64 a5, .int .u64 a6, .int .i64 a7, .int .i64 a8] W fun e W' => e = .returned (.bool true) ∧ Below W.heap.size W W' := by
    have b0 := bounds_u16 w0
    have b3 := bounds_u64 w3
    have b4 := bounds_u64 w4
    have b5 := bounds_u64 w5
    have b6 := bounds_u64 w6
    have b7 := bounds_i64 w7
    have b8 := bounds_i64 w8
    exact monotone_any a0 v1 v2 z1 z2 a3 a4 a5 a6 a7 a8 W b0.1 b0.2 R1 R2 (fun x hx => bounds_i64 (Z1 x hx)) (fun x hx => bounds_u16 (Z2 x hx)) b3.1 (by omega) b4.1 (by omega) b5.1 (by omega) b6.1 (by omega) b7.1 b7.2 b8.1 b8.2
  refine HC.mono fun e W' ⟨he, hb⟩ => ?_
  subst he
  exact ⟨_, rfl, law_post laid_digestMonotone (by kernel_rfl) rfl (by kernel_rfl) Try.underlying4 hW' rfl hb⟩
/-- The statement. -/
theorem proved_digestMonotone : Rows.DigestMonotoneSaid :=
  OpenClaim.holds_of_wide 3 Try.f3 rfl rfl rfl rfl rfl rfl rfl ⟨rfl, rfl, rfl, rfl, rfl⟩ rfl rfl rfl rfl rfl (by kernel_rfl) Try.func3 (by kernel_rfl)
    (of_decide_eq_true (by kernel_rfl)) (by unfold Func.isWrapper; first | (rw [if_pos (by decide +kernel)]; kernel_rfl) | (rw [if_neg (by decide +kernel)]; exact ⟨rfl, rfl⟩))
    (fun os started H enc _ => lifted_digestMonotone os started H enc)
end Go.Proofs.Ytedhpkfbobgkgaa
