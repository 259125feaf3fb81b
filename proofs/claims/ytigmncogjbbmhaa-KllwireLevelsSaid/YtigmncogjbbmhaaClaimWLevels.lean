/- KllwireLevels: of any levels, with any ledger, the bytes are read just if a stack may have them. No condition. -/
import Derived.Test.YtigmncogjbbmhaaRows
import Derived.Test.YtigmncogjbbmhaaWmL
namespace Go.Proofs.Ytigmncogjbbmhaa
open Go.ChangeShapes Go.WideShapes Go.ChangeAt Go.RowKit

theorem own_kllwireLevels : ownKnob Try.prog.godebug = none := by kernel_rfl
theorem laid_kllwireLevels : laidOutB Try.prog = true := by kernel_rfl
set_option maxRecDepth 100000 in
theorem lifted_kllwireLevels (os : Os) (started : os.Started) (H : Type) (enc : TypeId × Value → H) :
    ReturnsInHanded {} Try.checked os 12 .any (Rows.kllwireLevelsSpec.pre6 enc Try.prog Try.f12 Rows.kllwireLevelsRow.domain false) (Rows.kllwireLevelsSpec.post enc Try.prog Try.f12 false true false false) := by
  refine returnsInHanded_of_change (C := Try.checked) own_kllwireLevels started (by kernel_rfl) Try.func12
    (ChangeSpec.witness6 (enc := enc) (C := Try.checked) false ⟨#[], #[.int .i64 0, .slice none 0 0, .int .u64 0], []⟩ 8 (by kernel_rfl) (by kernel_rfl) (by kernel_rfl) (by kernel_rfl)) ?_
  intro W base args ds gs before hval0 hW hcnd _
  have hval : ∀ (j : Nat) t v, Try.f12.params[j]? = some t → args[j]? = some v → Value.okWide Try.prog W .any base t v := hval0
  have hW' := hW
  obtain ⟨p, q, hA0, hV, rfl, hfz, hnd⟩ := hW
  have hA : DataW.TrodAll enc Try.prog W 0 (fun _ => true) true Try.f12.params.toList args.toList ds p := hA0
  rw [Try.params12] at hA hval
  obtain ⟨v0, vs0, d0, ds0, p0, q0, hargs, rfl, rfl, h0, r0⟩ := trodAll_cons hA
  obtain ⟨v1, vs1, d1, ds1, p1, q1, rfl, rfl, rfl, h1, r1⟩ := trodAll_cons r0
  obtain ⟨v2, vs2, d2, ds2, p2, q2, rfl, rfl, rfl, h2, r2⟩ := trodAll_cons r1
  obtain ⟨rfl, rfl, rfl⟩ := trodAll_nil r2
  obtain rfl : args = #[v0, v1, v2] := by cases args; simp_all
  obtain ⟨rfl, rfl⟩ := trodVars_none hV
  obtain ⟨a0, rfl, rfl, rfl, w0⟩ := open_int Try.underlying3 (hval 0 3 v0 rfl rfl) h0
  have ok1 := hval 1 48 v1 rfl rfl
  obtain ⟨a2, rfl, rfl, rfl, w2⟩ := open_int Try.underlying26 (hval 2 26 v2 rfl rfl) h2
  clear hA0 hval0 hfz hnd hcnd
  have HC : Calls Try.prog 12 #[.int .i64 a0, v1, .int .u64 a2] W fun e W' => e = .returned (.bool true) ∧ Below W.heap.size W W' := by
    have b0 := bounds_i64 w0
    have b2 := bounds_u64 w2
    obtain ⟨z1, R1, Z1⟩ := open_LLR (hval 1 _ _ rfl rfl) h1
    obtain ⟨n2, hn2⟩ : ∃ n : Nat, a2 = n := ⟨a2.toNat, by omega⟩
    subst hn2
    exact wlevels_any a0 v1 z1 n2 W R1 Z1 b0.1 b0.2 (by omega)
  refine HC.mono fun e W' ⟨he, hb⟩ => ?_
  subst he
  exact ⟨_, rfl, law_post laid_kllwireLevels (by kernel_rfl) rfl (by kernel_rfl) Try.underlying4 hW' rfl hb⟩
/-- The statement. -/
theorem proved_kllwireLevels : Rows.KllwireLevelsSaid :=
  OpenClaim.holds_of_wide 12 Try.f12 rfl rfl rfl rfl rfl rfl rfl ⟨rfl, rfl, rfl, rfl, rfl⟩ rfl rfl rfl rfl rfl (by kernel_rfl) Try.func12 (by kernel_rfl)
    (of_decide_eq_true (by kernel_rfl)) (by unfold Func.isWrapper; first | (rw [if_pos (by decide +kernel)]; kernel_rfl) | (rw [if_neg (by decide +kernel)]; exact ⟨rfl, rfl⟩))
    (fun os started H enc _ => lifted_kllwireLevels os started H enc)
end Go.Proofs.Ytigmncogjbbmhaa
