/- JoinPlays: whatever is added and taken together, each answer, and the texts, are the at6, for each kind. No condition. -/
import Derived.Test.YtkiebccnpheloaaGreatRows
import Derived.Test.YtkiebccnpheloaaGreatPk52
namespace Go.Proofs.YtkiebccnpheloaaGreat
open Go.ChangeShapes Go.WideShapes Go.ChangeAt Go.RowKit

theorem FD : ownKnob Tryz.prog.godebug = none := by kernel_rfl
theorem uh : laidOutB Tryz.prog = true := by kernel_rfl
set_option maxRecDepth 100000 in
theorem zA (os : Os) (started : os.Started) (H : Type) (enc : TypeId × Value → H) :
    ReturnsInHanded {} Tryz.checked os 5 .any (Rows.joinPlaysSpec.pre6 enc Tryz.prog Tryz.f5 Rows.joinPlaysRow.domain false) (Rows.joinPlaysSpec.post enc Tryz.prog Tryz.f5 false true false false) := by
  refine returnsInHanded_of_change (C := Tryz.checked) FD started (by kernel_rfl) Tryz.func5
    (ChangeSpec.witness6 (enc := enc) (C := Tryz.checked) false ⟨#[], #[.int .u8 0, .int .u16 0, .int .u16 0, .bool false, .slice none 0 0], []⟩ 8 (by kernel_rfl) (by kernel_rfl) (by kernel_rfl) (by kernel_rfl)) ?_
  intro W base args ds gs before hval0 hW hcnd _
  have hval : ∀ (j : Nat) t v, Tryz.f5.params[j]? = some t → args[j]? = some v → Value.okWide Tryz.prog W .any base t v := hval0
  have hW' := hW
  obtain ⟨p, q, hA0, hV, rfl, hfz, hnd⟩ := hW
  have hA : DataW.TrodAll enc Tryz.prog W 0 (fun _ => true) true Tryz.f5.params.toList args.toList ds p := hA0
  rw [Tryz.params5] at hA hval
  obtain ⟨v0, vs0, d0, ds0, p0, q0, hargs, rfl, rfl, h0, r0⟩ := trodAll_cons hA
  obtain ⟨v1, vs1, d1, ds1, p1, q1, rfl, rfl, rfl, h1, r1⟩ := trodAll_cons r0
  obtain ⟨v2, vs2, d2, ds2, p2, q2, rfl, rfl, rfl, h2, r2⟩ := trodAll_cons r1
  obtain ⟨v3, vs3, d3, ds3, p3, q3, rfl, rfl, rfl, h3, r3⟩ := trodAll_cons r2
  obtain ⟨v4, vs4, d4, ds4, p4, q4, rfl, rfl, rfl, h4, r4⟩ := trodAll_cons r3
  obtain ⟨rfl, rfl, rfl⟩ := trodAll_nil r4
  obtain rfl : args = #[v0, v1, v2, v3, v4] := by cases args; simp_all
  obtain ⟨rfl, rfl⟩ := trodVars_none hV
  obtain ⟨a0, rfl, rfl, rfl, w0⟩ := open_int Tryz.underlying5 (hval 0 5 v0 rfl rfl) h0
  obtain ⟨a1, rfl, rfl, rfl, w1⟩ := open_int Tryz.underlying44 (hval 1 44 v1 rfl rfl) h1
  obtain ⟨a2, rfl, rfl, rfl, w2⟩ := open_int Tryz.underlying44 (hval 2 44 v2 rfl rfl) h2
  obtain ⟨a3, rfl, rfl, rfl⟩ := open_bool Tryz.underlying4 (hval 3 4 v3 rfl rfl) h3
  have ok4 := hval 4 45 v4 rfl rfl
  clear hA0 hval0 hfz hnd hcnd
  have HC : Calls Tryz.prog 5 #[.int .u8 a0, .int .u16 a1, .int .u16 a2, .bool a3, v4] W fun e W' => e = .returned (.bool true) ∧ Below W.heap.size W W' := by
    have b0 := bounds_u8 w0
    have b1 := bounds_u16 w1
    have b2 := bounds_u16 w2
    obtain ⟨z4, R4, Z4⟩ := D.Vr (hval 4 _ _ rfl rfl) h4
    obtain ⟨n0, rfl⟩ : ∃ n : Nat, a0 = n := ⟨a0.toNat, by omega⟩
    obtain ⟨n1, rfl⟩ : ∃ n : Nat, a1 = n := ⟨a1.toNat, by omega⟩
    obtain ⟨n2, rfl⟩ : ∃ n : Nat, a2 = n := ⟨a2.toNat, by omega⟩
    exact D.Nq n0 n1 n2 a3 v4 z4 W (by omega) (by omega) (by omega) R4 Z4
  refine HC.mono fun e W' ⟨he, hb⟩ => ?_
  subst he
  exact ⟨_, rfl, VX uh (by kernel_rfl) rfl (by kernel_rfl) Tryz.underlying4 hW' rfl hb⟩
theorem Jh : (Rows.joinPlaysRow.wf (OpenSpec.ofChange Rows.joinPlaysSpec)) = true := by kernel_rfl
theorem Ai : mapsRowed Tryz.prog = true := by kernel_rfl
theorem yu : (Rows.joinPlaysRow.inPlace == Tryz.prog.inPlace 5) = true := by kernel_rfl
theorem ui : (Rows.joinPlaysRow.unfollowed == Tryz.prog.unfollowed 5) = true := by kernel_rfl
theorem wR : (Rows.joinPlaysRow.recurses == Tryz.prog.recurses 5) = true := by kernel_rfl
theorem Aj : (Rows.joinPlaysRow.named == Tryz.prog.varsNamed 5) = true := by kernel_rfl
theorem EJ : (Rows.joinPlaysRow.plainKeys == Tryz.prog.plainKeys) = true := by kernel_rfl
theorem Ak : Tryz.prog.stopsHeard = true := by kernel_rfl
theorem Am : Tryz.prog.mayEnter = true := by kernel_rfl
theorem Ap : (Rows.joinPlaysRow.lifted == Tryz.prog.liftsFinal) = true := by kernel_rfl
theorem zB : joinedFacts Tryz.prog 5 Tryz.f5 Rows.joinPlaysSpec Rows.joinPlaysRow = true := by
  unfold joinedFacts
  simp only [Bool.and_eq_true]
  exact ⟨⟨⟨⟨⟨⟨⟨⟨⟨⟨⟨⟨⟨⟨⟨⟨⟨⟨⟨⟨⟨⟨⟨⟨⟨⟨⟨⟨⟨⟨⟨Jh, uh⟩, Ai⟩, (by kernel_rfl)⟩, (by kernel_rfl)⟩, (by kernel_rfl)⟩, (by kernel_rfl)⟩, (by kernel_rfl)⟩, (by kernel_rfl)⟩, yu⟩, ui⟩, wR⟩, Aj⟩, (by kernel_rfl)⟩, (by kernel_rfl)⟩, (by kernel_rfl)⟩, (by kernel_rfl)⟩, (by kernel_rfl)⟩, (by kernel_rfl)⟩, (by kernel_rfl)⟩, (by kernel_rfl)⟩, (by kernel_rfl)⟩, EJ⟩, (by kernel_rfl)⟩, Ak⟩, Am⟩, Ap⟩, (by kernel_rfl)⟩, (by kernel_rfl)⟩, (by kernel_rfl)⟩, (by kernel_rfl)⟩, (by kernel_rfl)⟩
/-- The statement. -/
theorem proved_joinPlays : Rows.JoinPlaysSaid :=
  OpenClaim.holds_of_wide 5 Tryz.f5 rfl rfl rfl rfl rfl rfl rfl ⟨rfl, rfl, rfl, rfl, rfl⟩ rfl rfl rfl rfl rfl (by kernel_rfl) Tryz.func5 zB
    (of_decide_eq_true (by kernel_rfl)) (by unfold Func.isWrapper; first | (rw [if_pos (by decide +kernel)]; kernel_rfl) | (rw [if_neg (by decide +kernel)]; exact ⟨rfl, rfl⟩))
    (fun os started H enc _ => zA os started H enc)
end Go.Proofs.YtkiebccnpheloaaGreat
