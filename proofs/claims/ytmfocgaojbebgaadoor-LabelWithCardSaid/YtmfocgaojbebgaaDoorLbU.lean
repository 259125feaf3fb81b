/- LabelParses' walk. No condition but the library's variable. -/
import Derived.Test.YtmfocgaojbebgaaDoorLbT
namespace Go.Proofs.YtmfocgaojbebgaaDoor
open Go.RowKit

theorem rparse_no {s : Tx} (w : World) (hs : s.length ≤ 1000000) (h : parseT s = none) : Calls Tryd.prog 10 #[.string (bsOf s)] w fun e w' => ∃ v, e = .returned (.tuple #[v, .bool false]) ∧ Below w.heap.size w w' := by
  refine (rParse_t s w hs).mono fun e w' hP => ?_
  unfold RParseP at hP
  obtain ⟨hb, hP⟩ := hP
  unfold parseT at h
  by_cases h8 : 8 < (partsT s).length
  · rw [if_pos h8] at hP; exact ⟨_, hP, hb⟩
  · rw [if_neg h8] at hP h
    cases hc : cutL (partsT s) with
    | none => rw [hc] at hP; exact ⟨_, hP, hb⟩
    | some l =>
      rw [hc] at hP h
      obtain ⟨v, he, _⟩ := hP
      simp only at h
      split at h
      · cases h
      · rename_i hr
        rw [(by simpa using hr : rightL (srtT l) = false)] at he
        exact ⟨v, he, hb⟩
theorem rparse_yes {s : Tx} {l : List Lb} (w : World) (hs : s.length ≤ 1000000) (h : parseT s = some l) : Calls Tryd.prog 10 #[.string (bsOf s)] w fun e w' => ∃ A c, e = .returned (.tuple #[.slice A l.length c, .bool true]) ∧ OwnE lbE w.heap.size w' (.slice A l.length c) l ∧ Below w.heap.size w w' := by
  refine (rParse_t s w hs).mono fun e w' hP => ?_
  unfold RParseP at hP
  obtain ⟨hb, hP⟩ := hP
  unfold parseT at h
  by_cases h8 : 8 < (partsT s).length
  · rw [if_pos h8] at h; cases h
  · rw [if_neg h8] at hP h
    cases hc : cutL (partsT s) with
    | none => rw [hc] at h; cases h
    | some l' =>
      rw [hc] at hP h
      obtain ⟨v, he, ho⟩ := hP
      simp only at h
      split at h
      · rename_i hr
        simp only [Option.some.injEq] at h
        subst h
        rw [hr] at he
        obtain ⟨A, c, rfl, _, _, _⟩ := ho.form
        exact ⟨A, c, he, ho, hb⟩
      · cases h
theorem text_short {l : List Lb} (h : rightL l = true) : (textT l).length ≤ 400 := by
  unfold rightL at h
  simp only [Bool.and_eq_true, decide_eq_true_eq] at h
  have := text_len h.1.1 l.length (Nat.le_refl _)
  rw [List.take_length] at this
  omega
set_option maxRecDepth 100000 in
set_option maxHeartbeats 4000000 in
theorem parses_any (s : Tx) (w : World) (hM : MaxAt w) (hs : s.length ≤ 9223372036854775807) : Calls Tryd.prog 3 #[.string (bsOf s)] w fun e w' => e = .returned (.bool true) ∧ Below w.heap.size w w' := by
  have HM := Lib.hid hM
  have sz := bsOf_size s
  clear hM
  by_cases h1 : s.length ≤ 1000
  · have h1' : ¬ (s.length : Int) > 1000 := by omega
    cases hp : parseT s with
    | none =>
      have HP := Lib.hid hp
      clear hp
      go_enter Tryd.func3, Tryd.ntmps3
      go_wp2_with fail
      refine (alive31_any w HM.out).mono ?_
      rintro e w1 ⟨rfl, hb1⟩
      have hz1 := hb1.size
      go_wp2_with fail
      refine (parse_no w1 (HM.out.keep hb1) (by omega) HP.out).mono ?_
      rintro e w2 ⟨rfl, hb2⟩
      have hz2 := hb2.size
      go_wp2_with fail
      refine (rparse_no w2 (by omega) HP.out).mono ?_
      rintro e w3 ⟨v3, rfl, hb3⟩
      go_wp2_with fail
      go_ret
      exact ⟨rfl, hb1.trans ((hb2.trans (hb3.mono hz2)).mono hz1)⟩
    | some l =>
      have HP := Lib.hid hp
      have hr := parse_right hp
      have HR := Lib.hid hr
      have HTX : Hid (textR l = textT l) := Lib.hid (by unfold textR; rw [if_pos hr])
      have hts := text_short hr
      have HPT := Lib.hid (parse_text hr)
      clear hp hr
      go_enter Tryd.func3, Tryd.ntmps3
      go_wp2_with fail
      refine (alive31_any w HM.out).mono ?_
      rintro e w1 ⟨rfl, hb1⟩
      have hz1 := hb1.size
      go_wp2_with fail
      refine (parse_yes w1 (HM.out.keep hb1) (by omega) HP.out).mono ?_
      rintro e w2 ⟨A2, c2, rfl, o2, hb2⟩
      have hz2 := hb2.size
      have O2 := Lib.hid o2
      clear o2
      go_wp2_with fail
      refine (rparse_yes w2 (by omega) HP.out).mono ?_
      rintro e w3 ⟨A3, c3, rfl, o3, hb3⟩
      have hz3 := hb3.size
      have O3 := Lib.hid o3
      clear o3
      go_wp2_with fail
      refine (Text_any _ l w3 (O2.out.keep hb3).rd).mono ?_
      rintro e w4 ⟨rfl, hb4⟩
      have hz4 := hb4.size
      rw [HTX.out]
      have M4 := Lib.hid (HM.out.keep (hb1.trans ((hb2.trans ((hb3.trans (hb4.mono hz3)).mono hz2)).mono hz1)))
      go_wp2_with fail
      refine (parse_yes w4 M4.out (by omega) HPT.out).mono ?_
      rintro e w5 ⟨A5, c5, rfl, o5, hb5⟩
      have hz5 := hb5.size
      have R2 := Lib.hid (O2.out.keep (hb3.trans ((hb4.trans (hb5.mono hz4)).mono hz3))).rd
      have R3 := Lib.hid (O3.out.keep (hb4.trans (hb5.mono hz4))).rd
      have R5 := Lib.hid o5.rd
      have HB5 := Lib.hid (hb1.trans ((hb2.trans ((hb3.trans ((hb4.trans (hb5.mono hz4)).mono hz3)).mono hz2)).mono hz1))
      have hz05 := HB5.out.size
      clear o5 hb1 hb2 hb3 hb4 hb5
      go_wp2_with fail
      refine (lsame_any _ _ l l w5 R2.out R3.out).mono ?_
      rintro e w6 ⟨rfl, hb6⟩
      have hz6 := hb6.size
      have R2 := Lib.hid (R2.out.keep hb6)
      have R3 := Lib.hid (R3.out.keep hb6)
      have R5 := Lib.hid (R5.out.keep hb6)
      have hr := HR.out
      go_wp2_with fail
      refine (Right_any _ l w6 R2.out).mono ?_
      rintro e w7 ⟨rfl, hb7⟩
      have hz7 := hb7.size
      have R3 := Lib.hid (R3.out.keep hb7)
      have R5 := Lib.hid (R5.out.keep hb7)
      go_wp2_with fail
      refine (rText_any _ l w7 R3.out hr).mono ?_
      rintro e w8 ⟨rfl, hb8⟩
      have hz8 := hb8.size
      have R3 := Lib.hid (R3.out.keep hb8)
      have R5 := Lib.hid (R5.out.keep hb8)
      go_wp2_with fail
      refine (lsame_any _ _ l l w8 R5.out R3.out).mono ?_
      rintro e w9 ⟨rfl, hb9⟩
      go_wp2_with fail
      go_ret
      exact ⟨by simp, HB5.out.trans ((hb6.trans ((hb7.trans ((hb8.trans (hb9.mono hz8)).mono hz7)).mono hz6)).mono hz05)⟩
  · have h1' : (s.length : Int) > 1000 := by omega
    go_enter Tryd.func3, Tryd.ntmps3
    go_wp2_with fail
    refine (alive31_any w HM.out).mono ?_
    rintro e w1 ⟨rfl, hb1⟩
    go_wp2_with fail
    go_ret
    exact ⟨rfl, hb1⟩
end Go.Proofs.YtmfocgaojbebgaaDoor
