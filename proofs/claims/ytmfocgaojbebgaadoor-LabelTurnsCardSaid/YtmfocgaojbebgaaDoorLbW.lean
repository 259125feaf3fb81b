/- LabelTurns' walk. No condition but the library's variable. -/
import Derived.Test.YtmfocgaojbebgaaDoorLbV
import Derived.Test.YtmfocgaojbebgaaDoorLbU
namespace Go.Proofs.YtmfocgaojbebgaaDoor
open Go.RowKit

theorem fits_one (l : List Lb) (x : Cd) : fitsT l [x] = (rightL l && holdsT l x) := by simp [fitsT]
theorem fits_all (l : List Lb) (cs : List Cd) : fitsT l cs = (cs.all (fun x => fitsT l [x]) && rightL l) := by
  cases h : rightL l
  · simp [fitsT, h]
  · simp [fitsT, h]
def turnT (o : Tx) : Tx := if o == [61] then [33, 61] else if o == [33, 61] then [61] else if o == [126] then [33, 126] else [126]
theorem turn_holds {l : List Lb} {x : Cd} (h : x.2.1 = [61] ∨ x.2.1 = [33, 61] ∨ x.2.1 = [126] ∨ x.2.1 = [33, 126]) : holdsT l (x.1, turnT x.2.1, x.2.2) = !(holdsT l x) := by
  obtain ⟨n, o, v⟩ := x
  simp only at h ⊢
  rcases h with rfl | rfl | rfl | rfl
  · rw [holds_eq (c := (n, [61], v)) rfl, holds_neq rfl]
  · rw [holds_neq (c := (n, [33, 61], v)) rfl, holds_eq rfl]; simp
  · rw [holds_pre (c := (n, [126], v)) rfl, holds_npre rfl]
  · rw [holds_npre (c := (n, [33, 126], v)) rfl, holds_pre rfl]; simp
theorem RdE.at_one {α : Type} {E : Lie α} {w : World} {A : Option Addr} {cs : List α} (h : EForm E w A cs) {j c : Nat} (hj : j < cs.length) (h1 : 1 ≤ c) (h2 : c ≤ 9223372036854775807) : ∃ g off, A = some ⟨g, off, none⟩ ∧ RdE E w (.slice (some ⟨g, off + j * E.k, none⟩) 1 c) [cs[j]] := by
  obtain ⟨g, off, hA, hg, hc⟩ := h (by omega)
  refine ⟨g, off, hA, RdE.of_form (l := [cs[j]]) h1 h2 fun _ => ⟨g, off + j * E.k, rfl, hg, fun i hi k hk => ?_⟩⟩
  obtain rfl : i = 0 := by simpa using hi
  rw [Nat.zero_mul, Nat.add_zero]
  exact hc j hj k hk
set_option maxRecDepth 100000 in
set_option maxHeartbeats 8000000 in
theorem turns_any (v vc : Value) (l : List Lb) (cs : List Cd) (w : World) (hM : MaxAt w) (h : RdE lbE w v l) (ho : okLb l) (h' : RdE cdE w vc cs) : Calls Tryd.prog 5 #[v, vc] w fun e w' => e = .returned (.bool true) ∧ Below w.heap.size w w' := by
  obtain ⟨A, c, rfl, hn, hc, _⟩ := h.form
  obtain ⟨A', c', rfl, hn', hc', hp'⟩ := h'.form
  have HM := Lib.hid hM
  have HR := Lib.hid h
  have HO := Lib.hid ho
  have HQ := Lib.hid h'
  have HP' := Lib.hid hp'
  clear hM h ho h' hp'
  by_cases hl1 : l.length ≤ 100
  · have g1 : ¬ (l.length : Int) > 100 := by omega
    by_cases hl2 : cs.length ≤ 100
    · have g2 : ¬ (cs.length : Int) > 100 := by omega
      go_enter Tryd.func5, Tryd.ntmps5
      go_wp2_with fail
      refine (alive31_any w HM.out).mono ?_
      rintro e w1 ⟨rfl, hb1⟩
      have hz1 := hb1.size
      have HB1 := Lib.hid hb1
      have HR1 := Lib.hid (HR.out.keep hb1)
      have HQ1 := Lib.hid (HQ.out.keep hb1)
      have HP1 := Lib.hid (HP'.out.keep hb1)
      clear HR HQ HP' hb1
      go_wp2_with fail
      go_loopg [5, 6] cs.length (fun q acc i wr => ∃ j : Nat, q = cs.length - j ∧ j ≤ cs.length ∧ i = .int .i64 j ∧ acc = .bool ((cs.take j).all (fun x => fitsT l [x])) ∧ Below w1.heap.size w1 wr)
      case atStart => exact ⟨0, rfl, by omega, rfl, by simp, Below.refl _ _⟩
      case round =>
        obtain ⟨j, hk, hj, rfl, rfl, hb⟩ := hrel
        have HK := Lib.hid hk
        have hz := hb.size
        clear hk
        obtain ⟨acc, hacc⟩ : ∃ b, (cs.take j).all (fun x => fitsT l [x]) = b := ⟨_, rfl⟩
        rw [hacc]
        have HA := Lib.hid hacc
        clear hacc
        by_cases hlt : j < cs.length
        · obtain ⟨g, off, e1, o1⟩ := RdE.at_one (c := c' - j) (HP1.out.keep hb) hlt (by omega) (by omega)
          have O1 := Lib.hid o1
          obtain ⟨g', off', e2, hg, c0, c1, c2⟩ := (HP1.out.keep hb).cd hlt
          subst e1
          obtain ⟨rfl, rfl⟩ : g = g' ∧ off = off' := by injection e2 with e2; injection e2 with e3 e4; exact ⟨e3, e4⟩
          clear e2 o1
          have HT : Hid ((cs.take (j + 1)).all (fun x => fitsT l [x]) = (acc && fitsT l [cs[j]])) := Lib.hid (by
            rw [List.take_succ_eq_append_getElem hlt, List.all_append, HA.out]; simp)
          obtain ⟨x, hx⟩ : ∃ x, cs[j] = x := ⟨_, rfl⟩
          rw [hx] at c0 c1 c2 HT O1
          clear hx
          have HRR := Lib.hid (HR1.out.keep hb)
          obtain ⟨r, hr⟩ : ∃ r, rightL l = r := ⟨_, rfl⟩
          obtain ⟨hd, hh⟩ : ∃ r, holdsT l x = r := ⟨_, rfl⟩
          have FT := Lib.hid (fun W h h' => Fits_any (.slice A l.length c) (.slice (some ⟨g, off + j * cdE.k, none⟩) 1 (c' - j)) l [x] W h h')
          have FR := Lib.hid (fun W h => rRight_any (.slice A l.length c) l W h HO.out)
          have FH := Lib.hid (fun W h => rHolds_any (.slice A l.length c) l x W h)
          have FX := Lib.hid (fun vv W h h' => Fits_any (.slice A l.length c) vv l [(x.1, turnT x.2.1, x.2.2)] W h h')
          have HTH := Lib.hid (turn_holds (l := l) (x := x))
          have HNO := Lib.hid (holds_no (l := l) (c := x))
          rw [fits_one, hr, hh] at FT HT
          rw [hr] at FR
          rw [hh] at FH HNO HTH
          simp only [fits_one, hr] at FX
          clear hr hh
          have t1 := bsOf_toList x.2.1
          go_wp2_with fail
          refine (FT.out _ HRR.out O1.out).mono ?_
          rintro e w2 ⟨rfl, hb2⟩
          have hz2 := hb2.size
          have HB2 := Lib.hid hb2
          clear hb2
          go_upto_region 10 with fail
          go_cut [5] (fun v wr => v = .bool (acc && (r && hd)) ∧ w2 = wr)
          case first =>
            cases acc
            · go_wp2_with fail
              go_meet
              exact ⟨rfl, rfl⟩
            · go_wp2_with fail
              go_meet
              exact ⟨rfl, rfl⟩
          case rest =>
            obtain ⟨rfl, rfl⟩ := hcut
            have hgw : g < w2.heap.size := by omega
            have C0 := Lib.hid ((HB2.out.cell (p := ⟨g, off + j * 3, none⟩) hg).trans c0)
            have C1 := Lib.hid ((HB2.out.cell (p := ⟨g, off + j * 3 + 1, none⟩) hg).trans c1)
            have C2 := Lib.hid ((HB2.out.cell (p := ⟨g, off + j * 3 + 2, none⟩) hg).trans c2)
            have HR2 := Lib.hid (HRR.out.keep HB2.out)
            have HBT := Lib.hid (hb.trans (HB2.out.mono (by omega)))
            clear c0 c1 c2 O1 HRR HB2 FT hb
            have d0 := C0.out
            have d1 := C1.out
            have d2 := C2.out
            clear C0 C1 C2
            by_cases o0 : x.2.1 = [61]
            · have q0 : (x.2.1 == ([61] : Tx)) = true := by rw [o0]; rfl
              have HT1 : Hid (turnT x.2.1 = [33, 61]) := Lib.hid (by rw [o0]; rfl)
              have HTH := Lib.hid (HTH.out ((.inl o0)))
              have FX := Lib.hid (FX.out)
              rw [HT1.out] at HTH FX
              simp only [HTH.out] at FX
              clear o0
              go_wp2_with fail
              obtain ⟨u, hu⟩ : ∃ u, w2.alloc (.cells #[.string (bsOf x.1), .string ⟨#[33, 61]⟩, .string (bsOf x.2.2)] 39) = u := ⟨_, rfl⟩
              have hbk : Blk u w2.heap.size 39 #[.string (bsOf x.1), .string (bsOf [33, 61]), .string (bsOf x.2.2)] := by rw [← hu]; exact Blk.new w2 _ _
              have hbu : Below w2.heap.size w2 u := by rw [← hu]; exact (Below.refl _ _).alloc (Nat.le_refl _) _
              rw [hu]
              have HBK := Lib.hid hbk
              have HRU := Lib.hid (HR2.out.keep hbu)
              have HBV := Lib.hid (HBT.out.trans (hbu.mono (by have := HBT.out.size; omega)))
              have u0 := (hbu.cell (p := ⟨g, off + j * 3, none⟩) hgw).trans d0
              have u1 := (hbu.cell (p := ⟨g, off + j * 3 + 1, none⟩) hgw).trans d1
              have u2 := (hbu.cell (p := ⟨g, off + j * 3 + 2, none⟩) hgw).trans d2
              have U0 := Lib.hid u0
              have U1 := Lib.hid u1
              have U2 := Lib.hid u2
              have hgu : g < u.heap.size := by have := hbu.size; omega
              have hwu := hbk.lt
              clear hu hbk hbu d0 d1 d2 u0 u1 u2 HR2 HBT
              refine (FR.out u HRU.out).mono ?_
              rintro e w3 ⟨rfl, hb3⟩
              have hz3 := hb3.size
              have HR3 := Lib.hid (HRU.out.keep hb3)
              have B3 := Lib.hid (HBV.out.trans (hb3.mono HBV.out.size))
              have HBK3 := Lib.hid (HBK.out.keep hb3)
              cases r
              · clear hb3
                go_wp2_with fail
                refine (FR.out w3 HR3.out).mono ?_
                rintro e w4 ⟨rfl, hb4⟩
                have B4 := Lib.hid (B3.out.trans (hb4.mono B3.out.size))
                clear hb4
                go_wp2_with fail
                go_roundg (cs.length - (j + 1))
                case measure => have := HK.out; omega
                case rel => exact ⟨j + 1, rfl, by omega, by go_num, by rw [HT.out]; simp, B4.out⟩
              · have u0 := (hb3.cell (p := ⟨g, off + j * 3, none⟩) hgu).trans U0.out
                have u1 := (hb3.cell (p := ⟨g, off + j * 3 + 1, none⟩) hgu).trans U1.out
                have u2 := (hb3.cell (p := ⟨g, off + j * 3 + 2, none⟩) hgu).trans U2.out
                clear hb3
                go_wp2_with fail
                refine (FH.out w3 HR3.out).mono ?_
                rintro e w4 ⟨rfl, hb4⟩
                have hz4 := hb4.size
                have HR4 := Lib.hid (HR3.out.keep hb4)
                have B4 := Lib.hid (B3.out.trans (hb4.mono B3.out.size))
                have HBK4 := Lib.hid (HBK3.out.keep hb4)
                clear hb4 u0 u1 u2
                cases hd
                all_goals
                  go_wp2_with fail
                  refine (FR.out w4 HR4.out).mono ?_
                  rintro e w5 ⟨rfl, hb5⟩
                  have hz5 := hb5.size
                  have HR5 := Lib.hid (HR4.out.keep hb5)
                  have B5 := Lib.hid (B4.out.trans (hb5.mono B4.out.size))
                  have b5 := HBK4.out.keep hb5
                  have e0 := b5.cell 0
                  have e1 := b5.cell 1
                  have e2 := b5.cell 2
                  simp only [List.getElem?_toArray, List.getElem?_cons_succ, List.getElem?_cons_zero] at e0 e1 e2
                  clear hb5 b5
                  go_wp2_with fail
                  refine (FX.out _ _ (HR5.out.keep (by (repeat' (first | (with_reducible exact Below.refl _ _) | (with_reducible refine Below.alloc ?_ ?_ _) | (with_reducible refine Below.drew ?_) | (with_reducible refine below_drewN ?_ _) | (with_reducible refine Below.setCell ?_ ?_ _) | (with_reducible refine below_of (by assumption) ?_ ?_) | go_size)))) (RdE.one_at (E := cdE) w5 (x.1, [33, 61], x.2.2) _ rfl _ rfl _ rfl)).mono ?_
                  rintro e w6 ⟨rfl, hb6⟩
                  have B6 := Lib.hid (B5.out.trans ((((Below.refl _ _).alloc (Nat.le_refl _) _).trans (hb6.mono (by simp))).mono B5.out.size))
                  clear hb6 e0 e1 e2
                  go_wp2_with fail
                  go_roundg (cs.length - (j + 1))
                  case measure => have := HK.out; omega
                  case rel => exact ⟨j + 1, rfl, by omega, by go_num, by rw [HT.out]; simp, B6.out⟩
            · skip
              by_cases o1 : x.2.1 = [33, 61]
              · have q0 : (x.2.1 == ([61] : Tx)) = false := by simpa using o0
                have q1 : (x.2.1 == ([33, 61] : Tx)) = true := by rw [o1]; rfl
                have HT1 : Hid (turnT x.2.1 = [61]) := Lib.hid (by rw [o1]; rfl)
                have HTH := Lib.hid (HTH.out ((.inr (.inl o1))))
                have FX := Lib.hid (FX.out)
                rw [HT1.out] at HTH FX
                simp only [HTH.out] at FX
                clear o0 o1
                go_wp2_with fail
                obtain ⟨u, hu⟩ : ∃ u, w2.alloc (.cells #[.string (bsOf x.1), .string ⟨#[61]⟩, .string (bsOf x.2.2)] 39) = u := ⟨_, rfl⟩
                have hbk : Blk u w2.heap.size 39 #[.string (bsOf x.1), .string (bsOf [61]), .string (bsOf x.2.2)] := by rw [← hu]; exact Blk.new w2 _ _
                have hbu : Below w2.heap.size w2 u := by rw [← hu]; exact (Below.refl _ _).alloc (Nat.le_refl _) _
                rw [hu]
                have HBK := Lib.hid hbk
                have HRU := Lib.hid (HR2.out.keep hbu)
                have HBV := Lib.hid (HBT.out.trans (hbu.mono (by have := HBT.out.size; omega)))
                have u0 := (hbu.cell (p := ⟨g, off + j * 3, none⟩) hgw).trans d0
                have u1 := (hbu.cell (p := ⟨g, off + j * 3 + 1, none⟩) hgw).trans d1
                have u2 := (hbu.cell (p := ⟨g, off + j * 3 + 2, none⟩) hgw).trans d2
                have U0 := Lib.hid u0
                have U1 := Lib.hid u1
                have U2 := Lib.hid u2
                have hgu : g < u.heap.size := by have := hbu.size; omega
                have hwu := hbk.lt
                clear hu hbk hbu d0 d1 d2 u0 u1 u2 HR2 HBT
                refine (FR.out u HRU.out).mono ?_
                rintro e w3 ⟨rfl, hb3⟩
                have hz3 := hb3.size
                have HR3 := Lib.hid (HRU.out.keep hb3)
                have B3 := Lib.hid (HBV.out.trans (hb3.mono HBV.out.size))
                have HBK3 := Lib.hid (HBK.out.keep hb3)
                cases r
                · clear hb3
                  go_wp2_with fail
                  refine (FR.out w3 HR3.out).mono ?_
                  rintro e w4 ⟨rfl, hb4⟩
                  have B4 := Lib.hid (B3.out.trans (hb4.mono B3.out.size))
                  clear hb4
                  go_wp2_with fail
                  go_roundg (cs.length - (j + 1))
                  case measure => have := HK.out; omega
                  case rel => exact ⟨j + 1, rfl, by omega, by go_num, by rw [HT.out]; simp, B4.out⟩
                · have u0 := (hb3.cell (p := ⟨g, off + j * 3, none⟩) hgu).trans U0.out
                  have u1 := (hb3.cell (p := ⟨g, off + j * 3 + 1, none⟩) hgu).trans U1.out
                  have u2 := (hb3.cell (p := ⟨g, off + j * 3 + 2, none⟩) hgu).trans U2.out
                  clear hb3
                  go_wp2_with fail
                  refine (FH.out w3 HR3.out).mono ?_
                  rintro e w4 ⟨rfl, hb4⟩
                  have hz4 := hb4.size
                  have HR4 := Lib.hid (HR3.out.keep hb4)
                  have B4 := Lib.hid (B3.out.trans (hb4.mono B3.out.size))
                  have HBK4 := Lib.hid (HBK3.out.keep hb4)
                  clear hb4 u0 u1 u2
                  cases hd
                  all_goals
                    go_wp2_with fail
                    refine (FR.out w4 HR4.out).mono ?_
                    rintro e w5 ⟨rfl, hb5⟩
                    have hz5 := hb5.size
                    have HR5 := Lib.hid (HR4.out.keep hb5)
                    have B5 := Lib.hid (B4.out.trans (hb5.mono B4.out.size))
                    have b5 := HBK4.out.keep hb5
                    have e0 := b5.cell 0
                    have e1 := b5.cell 1
                    have e2 := b5.cell 2
                    simp only [List.getElem?_toArray, List.getElem?_cons_succ, List.getElem?_cons_zero] at e0 e1 e2
                    clear hb5 b5
                    go_wp2_with fail
                    refine (FX.out _ _ (HR5.out.keep (by (repeat' (first | (with_reducible exact Below.refl _ _) | (with_reducible refine Below.alloc ?_ ?_ _) | (with_reducible refine Below.drew ?_) | (with_reducible refine below_drewN ?_ _) | (with_reducible refine Below.setCell ?_ ?_ _) | (with_reducible refine below_of (by assumption) ?_ ?_) | go_size)))) (RdE.one_at (E := cdE) w5 (x.1, [61], x.2.2) _ rfl _ rfl _ rfl)).mono ?_
                    rintro e w6 ⟨rfl, hb6⟩
                    have B6 := Lib.hid (B5.out.trans ((((Below.refl _ _).alloc (Nat.le_refl _) _).trans (hb6.mono (by simp))).mono B5.out.size))
                    clear hb6 e0 e1 e2
                    go_wp2_with fail
                    go_roundg (cs.length - (j + 1))
                    case measure => have := HK.out; omega
                    case rel => exact ⟨j + 1, rfl, by omega, by go_num, by rw [HT.out]; simp, B6.out⟩
              · skip
                by_cases o2 : x.2.1 = [126]
                · have q0 : (x.2.1 == ([61] : Tx)) = false := by simpa using o0
                  have q1 : (x.2.1 == ([33, 61] : Tx)) = false := by simpa using o1
                  have q2 : (x.2.1 == ([126] : Tx)) = true := by rw [o2]; rfl
                  have HT1 : Hid (turnT x.2.1 = [33, 126]) := Lib.hid (by rw [o2]; rfl)
                  have HTH := Lib.hid (HTH.out ((.inr (.inr (.inl o2)))))
                  have FX := Lib.hid (FX.out)
                  rw [HT1.out] at HTH FX
                  simp only [HTH.out] at FX
                  clear o0 o1 o2
                  go_wp2_with fail
                  obtain ⟨u, hu⟩ : ∃ u, w2.alloc (.cells #[.string (bsOf x.1), .string ⟨#[33, 126]⟩, .string (bsOf x.2.2)] 39) = u := ⟨_, rfl⟩
                  have hbk : Blk u w2.heap.size 39 #[.string (bsOf x.1), .string (bsOf [33, 126]), .string (bsOf x.2.2)] := by rw [← hu]; exact Blk.new w2 _ _
                  have hbu : Below w2.heap.size w2 u := by rw [← hu]; exact (Below.refl _ _).alloc (Nat.le_refl _) _
                  rw [hu]
                  have HBK := Lib.hid hbk
                  have HRU := Lib.hid (HR2.out.keep hbu)
                  have HBV := Lib.hid (HBT.out.trans (hbu.mono (by have := HBT.out.size; omega)))
                  have u0 := (hbu.cell (p := ⟨g, off + j * 3, none⟩) hgw).trans d0
                  have u1 := (hbu.cell (p := ⟨g, off + j * 3 + 1, none⟩) hgw).trans d1
                  have u2 := (hbu.cell (p := ⟨g, off + j * 3 + 2, none⟩) hgw).trans d2
                  have U0 := Lib.hid u0
                  have U1 := Lib.hid u1
                  have U2 := Lib.hid u2
                  have hgu : g < u.heap.size := by have := hbu.size; omega
                  have hwu := hbk.lt
                  clear hu hbk hbu d0 d1 d2 u0 u1 u2 HR2 HBT
                  refine (FR.out u HRU.out).mono ?_
                  rintro e w3 ⟨rfl, hb3⟩
                  have hz3 := hb3.size
                  have HR3 := Lib.hid (HRU.out.keep hb3)
                  have B3 := Lib.hid (HBV.out.trans (hb3.mono HBV.out.size))
                  have HBK3 := Lib.hid (HBK.out.keep hb3)
                  cases r
                  · clear hb3
                    go_wp2_with fail
                    refine (FR.out w3 HR3.out).mono ?_
                    rintro e w4 ⟨rfl, hb4⟩
                    have B4 := Lib.hid (B3.out.trans (hb4.mono B3.out.size))
                    clear hb4
                    go_wp2_with fail
                    go_roundg (cs.length - (j + 1))
                    case measure => have := HK.out; omega
                    case rel => exact ⟨j + 1, rfl, by omega, by go_num, by rw [HT.out]; simp, B4.out⟩
                  · have u0 := (hb3.cell (p := ⟨g, off + j * 3, none⟩) hgu).trans U0.out
                    have u1 := (hb3.cell (p := ⟨g, off + j * 3 + 1, none⟩) hgu).trans U1.out
                    have u2 := (hb3.cell (p := ⟨g, off + j * 3 + 2, none⟩) hgu).trans U2.out
                    clear hb3
                    go_wp2_with fail
                    refine (FH.out w3 HR3.out).mono ?_
                    rintro e w4 ⟨rfl, hb4⟩
                    have hz4 := hb4.size
                    have HR4 := Lib.hid (HR3.out.keep hb4)
                    have B4 := Lib.hid (B3.out.trans (hb4.mono B3.out.size))
                    have HBK4 := Lib.hid (HBK3.out.keep hb4)
                    clear hb4 u0 u1 u2
                    cases hd
                    all_goals
                      go_wp2_with fail
                      refine (FR.out w4 HR4.out).mono ?_
                      rintro e w5 ⟨rfl, hb5⟩
                      have hz5 := hb5.size
                      have HR5 := Lib.hid (HR4.out.keep hb5)
                      have B5 := Lib.hid (B4.out.trans (hb5.mono B4.out.size))
                      have b5 := HBK4.out.keep hb5
                      have e0 := b5.cell 0
                      have e1 := b5.cell 1
                      have e2 := b5.cell 2
                      simp only [List.getElem?_toArray, List.getElem?_cons_succ, List.getElem?_cons_zero] at e0 e1 e2
                      clear hb5 b5
                      go_wp2_with fail
                      refine (FX.out _ _ (HR5.out.keep (by (repeat' (first | (with_reducible exact Below.refl _ _) | (with_reducible refine Below.alloc ?_ ?_ _) | (with_reducible refine Below.drew ?_) | (with_reducible refine below_drewN ?_ _) | (with_reducible refine Below.setCell ?_ ?_ _) | (with_reducible refine below_of (by assumption) ?_ ?_) | go_size)))) (RdE.one_at (E := cdE) w5 (x.1, [33, 126], x.2.2) _ rfl _ rfl _ rfl)).mono ?_
                      rintro e w6 ⟨rfl, hb6⟩
                      have B6 := Lib.hid (B5.out.trans ((((Below.refl _ _).alloc (Nat.le_refl _) _).trans (hb6.mono (by simp))).mono B5.out.size))
                      clear hb6 e0 e1 e2
                      go_wp2_with fail
                      go_roundg (cs.length - (j + 1))
                      case measure => have := HK.out; omega
                      case rel => exact ⟨j + 1, rfl, by omega, by go_num, by rw [HT.out]; simp, B6.out⟩
                · skip
                  by_cases o3 : x.2.1 = [33, 126]
                  · have q0 : (x.2.1 == ([61] : Tx)) = false := by simpa using o0
                    have q1 : (x.2.1 == ([33, 61] : Tx)) = false := by simpa using o1
                    have q2 : (x.2.1 == ([126] : Tx)) = false := by simpa using o2
                    have q3 : (x.2.1 == ([33, 126] : Tx)) = true := by rw [o3]; rfl
                    have HT1 : Hid (turnT x.2.1 = [126]) := Lib.hid (by rw [o3]; rfl)
                    have HTH := Lib.hid (HTH.out (.inr (.inr (.inr o3))))
                    have FX := Lib.hid (FX.out)
                    rw [HT1.out] at HTH FX
                    simp only [HTH.out] at FX
                    clear o0 o1 o2 o3
                    go_wp2_with fail
                    obtain ⟨u, hu⟩ : ∃ u, w2.alloc (.cells #[.string (bsOf x.1), .string ⟨#[126]⟩, .string (bsOf x.2.2)] 39) = u := ⟨_, rfl⟩
                    have hbk : Blk u w2.heap.size 39 #[.string (bsOf x.1), .string (bsOf [126]), .string (bsOf x.2.2)] := by rw [← hu]; exact Blk.new w2 _ _
                    have hbu : Below w2.heap.size w2 u := by rw [← hu]; exact (Below.refl _ _).alloc (Nat.le_refl _) _
                    rw [hu]
                    have HBK := Lib.hid hbk
                    have HRU := Lib.hid (HR2.out.keep hbu)
                    have HBV := Lib.hid (HBT.out.trans (hbu.mono (by have := HBT.out.size; omega)))
                    have u0 := (hbu.cell (p := ⟨g, off + j * 3, none⟩) hgw).trans d0
                    have u1 := (hbu.cell (p := ⟨g, off + j * 3 + 1, none⟩) hgw).trans d1
                    have u2 := (hbu.cell (p := ⟨g, off + j * 3 + 2, none⟩) hgw).trans d2
                    have U0 := Lib.hid u0
                    have U1 := Lib.hid u1
                    have U2 := Lib.hid u2
                    have hgu : g < u.heap.size := by have := hbu.size; omega
                    have hwu := hbk.lt
                    clear hu hbk hbu d0 d1 d2 u0 u1 u2 HR2 HBT
                    refine (FR.out u HRU.out).mono ?_
                    rintro e w3 ⟨rfl, hb3⟩
                    have hz3 := hb3.size
                    have HR3 := Lib.hid (HRU.out.keep hb3)
                    have B3 := Lib.hid (HBV.out.trans (hb3.mono HBV.out.size))
                    have HBK3 := Lib.hid (HBK.out.keep hb3)
                    cases r
                    · clear hb3
                      go_wp2_with fail
                      refine (FR.out w3 HR3.out).mono ?_
                      rintro e w4 ⟨rfl, hb4⟩
                      have B4 := Lib.hid (B3.out.trans (hb4.mono B3.out.size))
                      clear hb4
                      go_wp2_with fail
                      go_roundg (cs.length - (j + 1))
                      case measure => have := HK.out; omega
                      case rel => exact ⟨j + 1, rfl, by omega, by go_num, by rw [HT.out]; simp, B4.out⟩
                    · have u0 := (hb3.cell (p := ⟨g, off + j * 3, none⟩) hgu).trans U0.out
                      have u1 := (hb3.cell (p := ⟨g, off + j * 3 + 1, none⟩) hgu).trans U1.out
                      have u2 := (hb3.cell (p := ⟨g, off + j * 3 + 2, none⟩) hgu).trans U2.out
                      clear hb3
                      go_wp2_with fail
                      refine (FH.out w3 HR3.out).mono ?_
                      rintro e w4 ⟨rfl, hb4⟩
                      have hz4 := hb4.size
                      have HR4 := Lib.hid (HR3.out.keep hb4)
                      have B4 := Lib.hid (B3.out.trans (hb4.mono B3.out.size))
                      have HBK4 := Lib.hid (HBK3.out.keep hb4)
                      clear hb4 u0 u1 u2
                      cases hd
                      all_goals
                        go_wp2_with fail
                        refine (FR.out w4 HR4.out).mono ?_
                        rintro e w5 ⟨rfl, hb5⟩
                        have hz5 := hb5.size
                        have HR5 := Lib.hid (HR4.out.keep hb5)
                        have B5 := Lib.hid (B4.out.trans (hb5.mono B4.out.size))
                        have b5 := HBK4.out.keep hb5
                        have e0 := b5.cell 0
                        have e1 := b5.cell 1
                        have e2 := b5.cell 2
                        simp only [List.getElem?_toArray, List.getElem?_cons_succ, List.getElem?_cons_zero] at e0 e1 e2
                        clear hb5 b5
                        go_wp2_with fail
                        refine (FX.out _ _ (HR5.out.keep (by (repeat' (first | (with_reducible exact Below.refl _ _) | (with_reducible refine Below.alloc ?_ ?_ _) | (with_reducible refine Below.drew ?_) | (with_reducible refine below_drewN ?_ _) | (with_reducible refine Below.setCell ?_ ?_ _) | (with_reducible refine below_of (by assumption) ?_ ?_) | go_size)))) (RdE.one_at (E := cdE) w5 (x.1, [126], x.2.2) _ rfl _ rfl _ rfl)).mono ?_
                        rintro e w6 ⟨rfl, hb6⟩
                        have B6 := Lib.hid (B5.out.trans ((((Below.refl _ _).alloc (Nat.le_refl _) _).trans (hb6.mono (by simp))).mono B5.out.size))
                        clear hb6 e0 e1 e2
                        go_wp2_with fail
                        go_roundg (cs.length - (j + 1))
                        case measure => have := HK.out; omega
                        case rel => exact ⟨j + 1, rfl, by omega, by go_num, by rw [HT.out]; simp, B6.out⟩
                  · have q0 : (x.2.1 == ([61] : Tx)) = false := by simpa using o0
                    have q1 : (x.2.1 == ([33, 61] : Tx)) = false := by simpa using o1
                    have q2 : (x.2.1 == ([126] : Tx)) = false := by simpa using o2
                    have q3 : (x.2.1 == ([33, 126] : Tx)) = false := by simpa using o3
                    obtain rfl : hd = false := HNO.out o0 o1 o2 o3
                    clear o0 o1 o2 o3
                    rw [Bool.and_false, Bool.and_false] at HT
                    cases r
                    all_goals
                      go_wp2_with fail
                      go_roundg (cs.length - (j + 1))
                      case measure => have := HK.out; omega
                      case rel => exact ⟨j + 1, rfl, by omega, by go_num, by rw [HT.out], by have := HBT.out; (repeat' (first | (with_reducible exact Below.refl _ _) | (with_reducible refine Below.alloc ?_ ?_ _) | (with_reducible refine Below.drew ?_) | (with_reducible refine below_drewN ?_ _) | (with_reducible refine Below.setCell ?_ ?_ _) | (with_reducible refine below_of (by assumption) ?_ ?_) | go_size))⟩
        · have hA : acc = cs.all (fun x => fitsT l [x]) := by rw [← HA.out, List.take_of_length_le (by omega)]
          have HF := Lib.hid (fits_all l cs)
          rw [← hA] at HF
          have HRR := Lib.hid (HR1.out.keep hb)
          have HQR := Lib.hid (HQ1.out.keep hb)
          obtain ⟨r, hr⟩ : ∃ r, rightL l = r := ⟨_, rfl⟩
          have FT := Lib.hid (fun W h h' => Fits_any (.slice A l.length c) (.slice A' cs.length c') l cs W h h')
          have FR := Lib.hid (fun W h => rRight_any (.slice A l.length c) l W h HO.out)
          rw [hr] at FR HF
          rw [HF.out] at FT
          have HBB := Lib.hid (HB1.out.trans (hb.mono hz1))
          clear hr hA hb
          go_wp2_with fail
          refine (FT.out _ HRR.out HQR.out).mono ?_
          rintro e w2 ⟨rfl, hb2⟩
          have hz2 := hb2.size
          have B2 := Lib.hid (HBB.out.trans (hb2.mono HBB.out.size))
          have HR2 := Lib.hid (HRR.out.keep hb2)
          clear hb2
          cases acc
          · go_wp2_with fail
            go_ret
            exact ⟨by simp, B2.out⟩
          · go_wp2_with fail
            refine (FR.out _ HR2.out).mono ?_
            rintro e w3 ⟨rfl, hb3⟩
            go_wp2_with fail
            go_ret
            exact ⟨by simp, B2.out.trans (hb3.mono B2.out.size)⟩
    · have g2 : (cs.length : Int) > 100 := by omega
      go_enter Tryd.func5, Tryd.ntmps5
      go_wp2_with fail
      refine (alive31_any w HM.out).mono ?_
      rintro e w1 ⟨rfl, hb1⟩
      go_wp2_with fail
      go_ret
      exact ⟨rfl, hb1⟩
  · have g1 : (l.length : Int) > 100 := by omega
    go_enter Tryd.func5, Tryd.ntmps5
    go_wp2_with fail
    refine (alive31_any w HM.out).mono ?_
    rintro e w1 ⟨rfl, hb1⟩
    go_wp2_with fail
    go_ret
    exact ⟨rfl, hb1⟩
end Go.Proofs.YtmfocgaojbebgaaDoor
