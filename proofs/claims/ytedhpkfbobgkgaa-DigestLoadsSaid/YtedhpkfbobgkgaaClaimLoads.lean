/- DigestLoads: which means are a digest's is the document's; one that was loaded tells them, and goes on as it says. No condition. -/
import Derived.Test.YtedhpkfbobgkgaaRows
import Derived.Test.YtedhpkfbobgkgaaLoads
import Derived.Test.YtedhpkfbobgkgaaLawM
namespace Go.Proofs.Ytedhpkfbobgkgaa
open Go.ChangeShapes Go.WideShapes Go.ChangeAt Go.RowKit

theorem own_digestLoads : ownKnob Try.prog.godebug = none := by kernel_rfl
theorem laid_digestLoads : laidOutB Try.prog = true := by kernel_rfl
set_option maxRecDepth 100000 in
theorem lifted_digestLoads (os : Os) (started : os.Started) (H : Type) (enc : TypeId × Value → H) :
    ReturnsInHanded {} Try.checked os 8 .any (Rows.digestLoadsSpec.pre6 enc Try.prog Try.f8 Rows.digestLoadsRow.domain false) (Rows.digestLoadsSpec.post enc Try.prog Try.f8 false true false false) := by
  refine returnsInHanded_of_change (C := Try.checked) own_digestLoads started (by kernel_rfl) Try.func8
    (ChangeSpec.witness6 (enc := enc) (C := Try.checked) false ⟨#[], #[.int .i64 0, .int .i64 0, .int .i64 0, .slice none 0 0, .slice none 0 0, .int .i64 0, .int .u64 0], []⟩ 8 (by kernel_rfl) (by kernel_rfl) (by kernel_rfl) (by kernel_rfl)) ?_
  intro W base args ds gs before hval0 hW hcnd _
  have hval : ∀ (j : Nat) t v, Try.f8.params[j]? = some t → args[j]? = some v → Value.okWide Try.prog W .any base t v := hval0
  have hW' := hW
  obtain ⟨p, q, hA0, hV, rfl, hfz, hnd⟩ := hW
  have hA : DataW.TrodAll enc Try.prog W 0 (fun _ => true) true Try.f8.params.toList args.toList ds p := hA0
  rw [Try.params8] at hA hval
  obtain ⟨v0, vs0, d0, ds0, p0, q0, hargs, rfl, rfl, h0, r0⟩ := trodAll_cons hA
  obtain ⟨v1, vs1, d1, ds1, p1, q1, rfl, rfl, rfl, h1, r1⟩ := trodAll_cons r0
  obtain ⟨v2, vs2, d2, ds2, p2, q2, rfl, rfl, rfl, h2, r2⟩ := trodAll_cons r1
  obtain ⟨v3, vs3, d3, ds3, p3, q3, rfl, rfl, rfl, h3, r3⟩ := trodAll_cons r2
  obtain ⟨v4, vs4, d4, ds4, p4, q4, rfl, rfl, rfl, h4, r4⟩ := trodAll_cons r3
  obtain ⟨v5, vs5, d5, ds5, p5, q5, rfl, rfl, rfl, h5, r5⟩ := trodAll_cons r4
  obtain ⟨v6, vs6, d6, ds6, p6, q6, rfl, rfl, rfl, h6, r6⟩ := trodAll_cons r5
  obtain ⟨rfl, rfl, rfl⟩ := trodAll_nil r6
  obtain rfl : args = #[v0, v1, v2, v3, v4, v5, v6] := by cases args; simp_all
  obtain ⟨rfl, rfl⟩ := trodVars_none hV
  obtain ⟨a0, rfl, rfl, rfl, w0⟩ := open_int Try.underlying3 (hval 0 3 v0 rfl rfl) h0
  obtain ⟨a1, rfl, rfl, rfl, w1⟩ := open_int Try.underlying2 (hval 1 2 v1 rfl rfl) h1
  obtain ⟨a2, rfl, rfl, rfl, w2⟩ := open_int Try.underlying2 (hval 2 2 v2 rfl rfl) h2
  have ok3 := hval 3 35 v3 rfl rfl
  have ok4 := hval 4 35 v4 rfl rfl
  obtain ⟨a5, rfl, rfl, rfl, w5⟩ := open_int Try.underlying2 (hval 5 2 v5 rfl rfl) h5
  obtain ⟨a6, rfl, rfl, rfl, w6⟩ := open_int Try.underlying25 (hval 6 25 v6 rfl rfl) h6
  clear hA0 hval0 hval hfz hnd hcnd
  have HC : Calls Try.prog 8 #[.int .i64 a0, .int .i64 a1, .int .i64 a2, v3, v4, .int .i64 a5, .int .u64 a6] W fun e W' => e = .returned (.bool true) ∧ Below W.heap.size W W' := by
    obtain ⟨z3, R3, q3⟩ := open_RdM ok3 h3
    obtain ⟨z4, R4, q4⟩ := open_RdM ok4 h4
    have b1 := bounds_i64 w1
    have b2 := bounds_i64 w2
    have b5 := bounds_i64 w5
    have b6 := bounds_u64 w6
    exact loads_any a0 a1 a2 v3 v4 z3 z4 a5 a6 W R3 R4 (fun m hm => (List.mem_append.1 hm).elim (q3 m) (q4 m)) b1.1 b1.2 b2.1 b2.2 b5.1 b5.2 b6.1 b6.2
  refine HC.mono fun e W' ⟨he, hb⟩ => ?_
  subst he
  exact ⟨_, rfl, law_post laid_digestLoads (by kernel_rfl) rfl (by kernel_rfl) Try.underlying4 hW' rfl hb⟩
/-- The statement. -/
theorem proved_digestLoads : Rows.DigestLoadsSaid :=
  OpenClaim.holds_of_wide 8 Try.f8 rfl rfl rfl rfl rfl rfl rfl ⟨rfl, rfl, rfl, rfl, rfl⟩ rfl rfl rfl rfl rfl (by kernel_rfl) Try.func8 (by kernel_rfl)
    (of_decide_eq_true (by kernel_rfl)) (by unfold Func.isWrapper; first | (rw [if_pos (by decide +kernel)]; kernel_rfl) | (rw [if_neg (by decide +kernel)]; exact ⟨rfl, rfl⟩))
    (fun os started H enc _ => lifted_digestLoads os started H enc)
end Go.Proofs.Ytedhpkfbobgkgaa
