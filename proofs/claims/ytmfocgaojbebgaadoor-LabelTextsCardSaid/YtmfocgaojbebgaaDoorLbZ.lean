/- LabelTexts' walk. No condition but the library's variable. -/
import Derived.Test.YtmfocgaojbebgaaDoorLbY
import Derived.Test.YtmfocgaojbebgaaDoorLbT
namespace Go.Proofs.YtmfocgaojbebgaaDoor
open Go.RowKit

theorem textR_yes {l : List Lb} (h : rightL l = true) : textR l = textT l := by unfold textR; rw [if_pos h]
theorem textR_no {l : List Lb} (h : rightL l = false) : textR l = [] := by unfold textR; rw [if_neg (by simp [h])]
theorem textless (a b : Tx) : ∃ k : Int, cmpT a b = k ∧ ((k = -1 ∧ Op.bytesLess a b = true ∧ Op.bytesLess b a = false ∧ (a == b) = false) ∨ (k = 0 ∧ Op.bytesLess a b = false ∧ Op.bytesLess b a = false ∧ (a == b) = true) ∨ (k = 1 ∧ Op.bytesLess a b = false ∧ Op.bytesLess b a = true ∧ (a == b) = false)) := by
  refine ⟨_, rfl, ?_⟩
  have h := lessT_turn a b
  unfold cmpT
  show _ ∨ _ ∨ _
  cases h1 : lessT a b
  · rw [h1] at h
    cases h2 : (a == b)
    · rw [h2] at h
      exact .inr (.inr ⟨rfl, h1, h, rfl⟩)
    · rw [h2] at h
      exact .inr (.inl ⟨rfl, h1, h, rfl⟩)
  · rw [h1, Bool.true_or] at h
    refine .inl ⟨rfl, h1, h, ?_⟩
    rw [beq_eq_false_iff_ne]
    rintro rfl
    rw [lessT_irrefl] at h1
    cases h1
set_option maxRecDepth 100000 in
set_option maxHeartbeats 8000000 in
theorem texts_any (v u : Value) (l m : List Lb) (n : Tx) (w : World) (hM : MaxAt w) (h : RdE lbE w v l) (ho : okLb l) (h' : RdE lbE w u m) (ho' : okLb m) : Calls Tryd.prog 6 #[v, u, .string (bsOf n)] w fun e w' => e = .returned (.bool true) ∧ Below w.heap.size w w' := by
  have HM := Lib.hid hM
  have HR := Lib.hid h
  have HO := Lib.hid ho
  have HR' := Lib.hid h'
  have HO' := Lib.hid ho'
  obtain ⟨A, c, rfl, _, _, _⟩ := h.form
  obtain ⟨A', c', rfl, _, _, _⟩ := h'.form
  clear hM h ho h' ho'
  by_cases hl1 : l.length ≤ 100
  · have g1 : ¬ (l.length : Int) > 100 := by omega
    by_cases hl2 : m.length ≤ 100
    · have g2 : ¬ (m.length : Int) > 100 := by omega
      go_enter Tryd.func6, Tryd.ntmps6
      go_wp2_with fail
      refine (alive31_any w HM.out).mono ?_
      rintro e w1 ⟨rfl, hb1⟩
      have hz1 := hb1.size
      have HB1 := Lib.hid hb1
      have HR := Lib.hid (HR.out.keep hb1)
      have HR' := Lib.hid (HR'.out.keep hb1)
      clear hb1
      obtain ⟨r, hr⟩ : ∃ r, rightL l = r := ⟨_, rfl⟩
      obtain ⟨r', hr'⟩ : ∃ r, rightL m = r := ⟨_, rfl⟩
      have HX := Lib.hid hr
      have HX' := Lib.hid hr'
      have C1 := Lib.hid (fun w h => rRight_any (.slice A l.length c) l w h HO.out)
      have C1' := Lib.hid (fun w h => rRight_any (.slice A' m.length c') m w h HO'.out)
      rw [hr] at C1
      rw [hr'] at C1'
      clear hr hr'
      go_wp2_with fail
      refine (C1.out w1 HR.out).mono ?_
      rintro e w2 ⟨rfl, hb2⟩
      have hz2 := hb2.size
      have HB2 := Lib.hid hb2
      clear hb2
      go_upto_if 21 with fail
      go_cut [7] (fun v wr => v = .string (bsOf (textR l)) ∧ Hid (Below w2.heap.size w2 wr))
      case first =>
        cases r
        · have HT := Lib.hid (textR_no HX.out)
          go_wp2_with fail
          go_meet
          exact ⟨by rw [HT.out]; rfl, Lib.hid (Below.refl _ _)⟩
        · have HT := Lib.hid (textR_yes HX.out)
          go_wp2_with fail
          refine (rText_any _ l w2 (HR.out.keep HB2.out) HX.out).mono ?_
          rintro e w3 ⟨rfl, hb3⟩
          go_wp2_with fail
          go_meet
          exact ⟨by rw [HT.out], Lib.hid hb3⟩
      case rest =>
        obtain ⟨rfl, HB3⟩ := hcut
        generalize wc = w3 at *
        have hz3 := HB3.out.size
        have HB13 := Lib.hid (HB2.out.trans (HB3.out.mono hz2))
        have HR3' := Lib.hid (HR'.out.keep HB13.out)
        go_wp2_with fail
        refine (C1'.out w3 HR3'.out).mono ?_
        rintro e w4 ⟨rfl, hb4⟩
        have hz4 := hb4.size
        have HB4 := Lib.hid hb4
        clear hb4
        go_upto_if 25 with fail
        go_cut [8] (fun v wr => v = .string (bsOf (textR m)) ∧ Hid (Below w4.heap.size w4 wr))
        case first =>
          cases r'
          · have HT := Lib.hid (textR_no HX'.out)
            go_wp2_with fail
            go_meet
            exact ⟨by rw [HT.out]; rfl, Lib.hid (Below.refl _ _)⟩
          · have HT := Lib.hid (textR_yes HX'.out)
            go_wp2_with fail
            refine (rText_any _ m w4 (HR3'.out.keep HB4.out) HX'.out).mono ?_
            rintro e w5 ⟨rfl, hb5⟩
            go_wp2_with fail
            go_meet
            exact ⟨by rw [HT.out], Lib.hid hb5⟩
        case rest =>
          obtain ⟨rfl, HB5⟩ := hcut
          generalize wc = w5 at *
          have hz5 := HB5.out.size
          have HB15 := Lib.hid (HB13.out.trans ((HB4.out.trans (HB5.out.mono hz4)).mono (by have := HB13.out.size; omega)))
          have hz15 := HB15.out.size
          have R5 := Lib.hid (HR.out.keep HB15.out)
          have R5' := Lib.hid (HR'.out.keep HB15.out)
          have hz01 := hz1
          have HB05 := Lib.hid (HB1.out.trans (HB15.out.mono hz1))
          have C2 := Lib.hid (fun w h h' => cmp_any (.slice A l.length c) (.slice A' m.length c') l m w h h')
          have C3 := Lib.hid (fun w h => Text_any (.slice A l.length c) l w h)
          clear HB2 HB3 HB4 HB5 HB13 HR3' HB15 hz2 hz3 hz4 hz5 hz15
          generalize textR l = a at *
          generalize textR m = b at *
          have ta := bsOf_toList a
          have tb := bsOf_toList b
          have hzz := HB05.out.size
          have ga := textless a b
          obtain ⟨k, hk, hw⟩ := ga
          have HCM := Lib.hid hk
          rw [hk] at C2
          clear hk
          rcases hw with ⟨rfl, q1, q2, q3⟩ | ⟨rfl, q1, q2, q3⟩ | ⟨rfl, q1, q2, q3⟩
          all_goals
            go_wp2_with fail
            refine (Right_any _ l w5 R5.out).mono ?_
            rintro e w6 ⟨rfl, hb6⟩
            have hz6 := hb6.size
            rw [HX.out]
            have B6 := Lib.hid (HB05.out.trans (hb6.mono hzz))
            have R6 := Lib.hid (R5.out.keep hb6)
            have R6' := Lib.hid (R5'.out.keep hb6)
            clear hb6
            go_wp2_with fail
            refine (C1.out w6 R6.out).mono ?_
            rintro e w7 ⟨rfl, hb7⟩
            have hz7 := hb7.size
            have B7 := Lib.hid (B6.out.trans (hb7.mono B6.out.size))
            have R7 := Lib.hid (R6.out.keep hb7)
            have R7' := Lib.hid (R6'.out.keep hb7)
            clear hb7
            go_wp2_with fail
            refine (C3.out w7 R7.out).mono ?_
            rintro e w8 ⟨rfl, hb8⟩
            have B8 := Lib.hid (B7.out.trans (hb8.mono B7.out.size))
            have R8 := Lib.hid (R7.out.keep hb8)
            have R8' := Lib.hid (R7'.out.keep hb8)
            clear hb8
            go_wp2_with fail
            refine (Get_any _ l n w8 R8.out).mono ?_
            rintro e w9 ⟨rfl, hb9⟩
            have B9 := Lib.hid (B8.out.trans (hb9.mono B8.out.size))
            have R9 := Lib.hid (R8.out.keep hb9)
            have R9' := Lib.hid (R8'.out.keep hb9)
            clear hb9
            go_wp2_with fail
            refine (rGet_any _ l n w9 R9.out).mono ?_
            rintro e w10 ⟨rfl, hb10⟩
            have B10 := Lib.hid (B9.out.trans (hb10.mono B9.out.size))
            have R10 := Lib.hid (R9.out.keep hb10)
            have R10' := Lib.hid (R9'.out.keep hb10)
            clear hb10
            go_wp2_with fail
            refine (C2.out w10 R10.out R10'.out).mono ?_
            rintro e w11 ⟨rfl, hb11⟩
            have B11 := Lib.hid (B10.out.trans (hb11.mono B10.out.size))
            have R11 := Lib.hid (R10.out.keep hb11)
            have R11' := Lib.hid (R10'.out.keep hb11)
            clear hb11
            skip
            go_wp2_with fail
            refine (psame_any _ _ l m w11 R11.out R11'.out).mono ?_
            rintro e w12 ⟨rfl, hb12⟩
            have B12 := Lib.hid (B11.out.trans (hb12.mono B11.out.size))
            have R12 := Lib.hid (R11.out.keep hb12)
            have R12' := Lib.hid (R11'.out.keep hb12)
            clear hb12
            go_wp2_with fail
            refine (lsame_any _ _ l m w12 R12.out R12'.out).mono ?_
            rintro e w13 ⟨rfl, hb13⟩
            go_wp2_with fail
            go_ret
            exact ⟨by simp, B12.out.trans (hb13.mono B12.out.size)⟩
    · have g2 : (m.length : Int) > 100 := by omega
      go_enter Tryd.func6, Tryd.ntmps6
      go_wp2_with fail
      refine (alive31_any w HM.out).mono ?_
      rintro e w1 ⟨rfl, hb1⟩
      go_wp2_with fail
      go_ret
      exact ⟨rfl, hb1⟩
  · have g1 : (l.length : Int) > 100 := by omega
    go_enter Tryd.func6, Tryd.ntmps6
    go_wp2_with fail
    refine (alive31_any w HM.out).mono ?_
    rintro e w1 ⟨rfl, hb1⟩
    go_wp2_with fail
    go_ret
    exact ⟨rfl, hb1⟩
end Go.Proofs.YtmfocgaojbebgaaDoor
