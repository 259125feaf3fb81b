/- The document's examples. No condition but the library's variable. -/
import Derived.Test.YtmfocgaojbebgaaDoorLbR
namespace Go.Proofs.YtmfocgaojbebgaaDoor
open Go.RowKit

theorem ex_1 : parseT [98, 61, 50, 44, 97, 61, 49] = some [([97], [49]), ([98], [50])] := by decide +kernel
theorem ex_2 : parseT [97, 61, 49, 44, 97, 61, 50] = none := by decide +kernel
theorem ex_3 : selT [97, 61, 49, 44, 98, 33, 126, 120] = some [([97], [61], [49]), ([98], [33, 126], [120])] := by decide +kernel
theorem ex_4 : parseT [97, 61, 49, 44, 98, 61, 120, 121] = some [([97], [49]), ([98], [120, 121])] := by decide +kernel
theorem ex_5 : parseT [97, 61, 49] = some [([97], [49])] := by decide +kernel
theorem ex_6 : textR [([97], [49]), ([98], [50])] = [97, 61, 49, 44, 98, 61, 50] := by decide +kernel
theorem ex_7 : fitsT [([97], [49]), ([98], [50])] [([97], [61], [49]), ([98], [33, 126], [120])] = true := by decide +kernel
theorem ex_8 : fitsT [([97], [49]), ([98], [120, 121])] [([97], [61], [49]), ([98], [33, 126], [120])] = false := by decide +kernel
theorem ex_9 : fitsT [([97], [49])] [([97], [61], [49]), ([98], [33, 126], [120])] = true := by decide +kernel
theorem parse_yes {s : Tx} {l : List Lb} (w : World) (hM : MaxAt w) (hs : s.length ≤ 1000000) (h : parseT s = some l) : Calls Tryd.prog 9 #[.string (bsOf s)] w fun e w' => ∃ A c, e = .returned (.tuple #[.slice A l.length c, .int .i64 0]) ∧ OwnE lbE w.heap.size w' (.slice A l.length c) l ∧ Below w.heap.size w w' := by
  refine (Parse_t s w hM hs).mono fun e w' hP => ?_
  unfold ParseP at hP
  rw [h] at hP
  obtain ⟨hb, v, he, ho⟩ := hP
  obtain ⟨A, c, rfl, _, _, _⟩ := ho.form
  exact ⟨A, c, he, ho, hb⟩
theorem parse_no {s : Tx} (w : World) (hM : MaxAt w) (hs : s.length ≤ 1000000) (h : parseT s = none) : Calls Tryd.prog 9 #[.string (bsOf s)] w fun e w' => e = .returned (.tuple #[.slice none 0 0, .int .i64 1]) ∧ Below w.heap.size w w' := by
  refine (Parse_t s w hM hs).mono fun e w' hP => ?_
  unfold ParseP at hP
  rw [h] at hP
  exact ⟨hP.2, hP.1⟩
theorem select_yes {s : Tx} {l : List Cd} (w : World) (hM : MaxAt w) (hs : s.length ≤ 1000000) (h : selT s = some l) : Calls Tryd.prog 15 #[.string (bsOf s)] w fun e w' => ∃ A c, e = .returned (.tuple #[.slice A l.length c, .int .i64 0]) ∧ OwnE cdE w.heap.size w' (.slice A l.length c) l ∧ Below w.heap.size w w' := by
  refine (Select_t s w hM hs).mono fun e w' hP => ?_
  unfold SelP at hP
  rw [h] at hP
  obtain ⟨hb, v, he, ho⟩ := hP
  obtain ⟨A, c, rfl, _, _, _⟩ := ho.form
  exact ⟨A, c, he, ho, hb⟩
theorem select_no {s : Tx} (w : World) (hM : MaxAt w) (hs : s.length ≤ 1000000) (h : selT s = none) : Calls Tryd.prog 15 #[.string (bsOf s)] w fun e w' => e = .returned (.tuple #[.slice none 0 0, .int .i64 1]) ∧ Below w.heap.size w w' := by
  refine (Select_t s w hM hs).mono fun e w' hP => ?_
  unfold SelP at hP
  rw [h] at hP
  exact ⟨hP.2, hP.1⟩
set_option maxRecDepth 100000 in
set_option maxHeartbeats 4000000 in
theorem alive31_any (w : World) (hM : MaxAt w) : Calls Tryd.prog 8 #[] w fun e w' => e = .returned (.bool true) ∧ Below w.heap.size w w' := by
  have HM := Lib.hid hM
  clear hM
  go_enter Tryd.func8, Tryd.ntmps8
  go_wp2_with fail
  refine (parse_yes w HM.out (by decide) ex_1).mono ?_
  rintro e w1 ⟨A1, c1, rfl, o1, hb1⟩
  have hz1 := hb1.size
  have O1 := Lib.hid o1
  have M1 := Lib.hid (HM.out.keep hb1)
  clear o1
  go_wp2_with fail
  refine (parse_no w1 M1.out (by decide) ex_2).mono ?_
  rintro e w2 ⟨rfl, hb2⟩
  have hz2 := hb2.size
  have M2 := Lib.hid (M1.out.keep hb2)
  go_wp2_with fail
  refine (select_yes w2 M2.out (by decide) ex_3).mono ?_
  rintro e w3 ⟨A3, c3, rfl, o3, hb3⟩
  have hz3 := hb3.size
  have O3 := Lib.hid o3
  have M3 := Lib.hid (M2.out.keep hb3)
  clear o3
  go_wp2_with fail
  refine (parse_yes w3 M3.out (by decide) ex_4).mono ?_
  rintro e w4 ⟨A4, c4, rfl, o4, hb4⟩
  have hz4 := hb4.size
  have O4 := Lib.hid o4
  have M4 := Lib.hid (M3.out.keep hb4)
  clear o4
  go_wp2_with fail
  refine (parse_yes w4 M4.out (by decide) ex_5).mono ?_
  rintro e w5 ⟨A5, c5, rfl, o5, hb5⟩
  have hz5 := hb5.size
  have O5 := Lib.hid o5
  have R1 := Lib.hid ((O1.out.keep (hb2.trans ((hb3.trans ((hb4.trans (hb5.mono hz4)).mono hz3)).mono hz2))).rd)
  have R3 := Lib.hid ((O3.out.keep (hb4.trans (hb5.mono hz4))).rd)
  have R4 := Lib.hid ((O4.out.keep hb5).rd)
  have R5 := Lib.hid O5.out.rd
  have HB5 := Lib.hid (hb1.trans ((hb2.trans ((hb3.trans ((hb4.trans (hb5.mono hz4)).mono hz3)).mono hz2)).mono hz1))
  have hz05 := HB5.out.size
  clear o5 hb1 hb2 hb3 hb4 hb5
  go_wp2_with fail
  refine (Text_any _ _ w5 R1.out).mono ?_
  rintro e w6 ⟨rfl, hb6⟩
  have hz6 := hb6.size
  have R1 := Lib.hid (R1.out.keep hb6)
  have R3 := Lib.hid (R3.out.keep hb6)
  have R4 := Lib.hid (R4.out.keep hb6)
  have R5 := Lib.hid (R5.out.keep hb6)
  rw [ex_6]
  have hq : ((bsOf [97, 61, 49, 44, 98, 61, 50]).toList == (⟨#[97, 61, 49, 44, 98, 61, 50]⟩ : ByteArray).toList) = true := beq_self_eq_true ((bsOf [97, 61, 49, 44, 98, 61, 50]).toList)
  have hq2 : ((bsOf [97, 61, 49, 44, 98, 61, 50]).toList == ([97, 61, 49, 44, 98, 61, 50] : List UInt8)) = true := by rw [bsOf_toList]; rfl
  go_wp2_with fail
  refine (Fits_any _ _ _ _ w6 R1.out R3.out).mono ?_
  rintro e w7 ⟨rfl, hb7⟩
  have hz7 := hb7.size
  have R3 := Lib.hid (R3.out.keep hb7)
  have R4 := Lib.hid (R4.out.keep hb7)
  have R5 := Lib.hid (R5.out.keep hb7)
  rw [ex_7]
  clear hq hq2
  go_wp2_with fail
  refine (Fits_any _ _ _ _ w7 R4.out R3.out).mono ?_
  rintro e w8 ⟨rfl, hb8⟩
  have hz8 := hb8.size
  have R3 := Lib.hid (R3.out.keep hb8)
  have R5 := Lib.hid (R5.out.keep hb8)
  rw [ex_8]
  go_wp2_with fail
  refine (Fits_any _ _ _ _ w8 R5.out R3.out).mono ?_
  rintro e w9 ⟨rfl, hb9⟩
  rw [ex_9]
  go_wp2_with fail
  go_ret
  exact ⟨rfl, HB5.out.trans ((hb6.trans ((hb7.trans ((hb8.trans (hb9.mono hz8)).mono hz7)).mono hz6)).mono hz05)⟩
end Go.Proofs.YtmfocgaojbebgaaDoor
