/- KllTakes, walked. Conditions: bytes are bytes; numbers of 64 bits. -/
import Derived.Test.YtigmncogjbbmhaaKmR
namespace Go.Proofs.Ytigmncogjbbmhaa
open Go.RowKit

set_option maxRecDepth 100000 in
set_option maxHeartbeats 16000000 in
theorem takes_any (k : Nat) (v1 v2 v3 : Value) (B a b : List Int) (num den : Int) (w : World) (hk : k ≤ 65535) (hB : RdE u8E w v1 B) (hby : ∀ x ∈ B, 0 ≤ x ∧ x ≤ 255) (hown : ∀ x, v1.ownBlock = some x → x < w.heap.size) (ha : RdE i64E w v2 a) (hb : RdE i64E w v3 b)
    (a0 : 0 ≤ num) (a1 : num < 18446744073709551616) (d0 : 0 ≤ den) (d1 : den < 18446744073709551616) :
    Calls Try.prog 7 #[.int .u16 k, v1, v2, v3, .int .u64 num, .int .u64 den] w fun e w' => e = .returned (.bool true) ∧ Below w.heap.size w w' := by
  have HAL := Lib.hid (alive_any w)
  obtain ⟨A1, c1, rfl, hB1, hB2, _⟩ := hB.form
  by_cases hlen : B.length ≤ 500
  · have HBT : Byt B := ⟨by omega, hby⟩
    have HN0 : Byt [] := ⟨by decide, fun x hx => by simp at hx⟩
    have HU0 : U16s [] := fun x hx => by simp at hx
    have HAD := Lib.hid (fun W (hw : Below w.heap.size w W) => added_any k (.slice A1 B.length c1) v2 (.slice none 0 0) B a [] W hk (hB.keep hw) HBT (fun x e => Nat.lt_of_lt_of_le (hown x e) hw.size) (ha.keep hw) (RdE.nil_ W) HU0)
    have HAD2 := Lib.hid (fun W (hw : Below w.heap.size w W) => added_any k (.slice none 0 0) v3 (.slice none 0 0) [] b [] W hk (RdE.nil_ W) HN0 (fun x e => by simp [Value.ownBlock] at e) (hb.keep hw) (RdE.nil_ W) HU0)
    have HCN := Lib.hid (fun W (hw : Below w.heap.size w W) => knew_any (.slice A1 B.length c1) B W (hB.keep hw) HBT)
    have HLA := Lib.hid (fun W (hw : Below w.heap.size w W) => ha.keep hw)
    have HLB := Lib.hid (fun W (hw : Below w.heap.size w W) => hb.keep hw)
    obtain ⟨A2, c2, rfl, hl1, hl2, _⟩ := ha.form
    obtain ⟨A3, c3, rfl, hl3, hl4, _⟩ := hb.form
    clear hB hown hby ha hb HBT HN0 HU0
    have hgt : ¬ (B.length : Int) > 500 := by omega
    obtain ⟨K, hK⟩ : ∃ K, 8 + k % 40 = K := ⟨_, rfl⟩
    have hK8 : 8 ≤ K := by omega
    have hK2 : K ≤ 47 := by omega
    rw [hK] at HAD HAD2
    have HTF := Lib.hid (take_facts (B := B) (a := a) (b := b) hK8 (show K ≤ 4096 by omega) _ _ _ rfl rfl rfl)
    clear hK
    obtain ⟨s, hs⟩ : ∃ s, addedS K B a [] = s := ⟨_, rfl⟩
    obtain ⟨t, ht⟩ : ∃ t, addedS K [] b [] = t := ⟨_, rfl⟩
    rw [hs] at HAD HTF
    rw [ht] at HAD2 HTF
    obtain ⟨L, led, ca⟩ := s
    obtain ⟨M, led2, cb⟩ := t
    obtain ⟨T, hT⟩ : ∃ T, takeS K B ((M, led2, cb).1, (M, led2, cb).2.1) ((L, led, ca).1, (L, led, ca).2.1, 0) = T := ⟨_, rfl⟩
    rw [hT] at HTF
    have HTE := Lib.hid hT
    obtain ⟨R, ledR, cr⟩ := T
    obtain ⟨e0, hwR, hge, hsum, hoff⟩ := HTF.out
    have E0 : Hid (takeE L M = 0) := Lib.hid e0
    have HOFF : Hid (∀ p, Down p → Off p (cntAB p a b 240) (R, ledR, cr)) := Lib.hid hoff
    have HWR : Hid (wt R = min a.length 120 + min b.length 120) := Lib.hid hwR
    have hge' : led + led2 ≤ ledR := hge
    have hsum' : led + led2 ≤ 4611686018427387904 := hsum
    clear hs ht hT HTF e0 hwR hge hsum hoff
    go_enter Try.func7, Try.ntmps7
    go_wp2_with fail
    refine (HAL.out).mono ?_
    rintro e w1 ⟨rfl, hb1⟩
    have HB1 := Lib.hid hb1
    have HAD1 := Lib.hid (HAD.out w1 hb1)
    clear hb1 HAL HAD
    go_wp2_with fail
    refine (HAD1.out).mono ?_
    rintro e w2 ⟨g, g', rfl, Ow, cg1, r1, dg1, cv1, hA⟩
    have HA := Lib.hid hA
    have HB2 : Hid (Below w.heap.size w w2) := Lib.hid (HB1.out.trans (hA.env.below.mono HB1.out.size))
    have HAD3 := Lib.hid (HAD2.out w2 HB2.out)
    clear hA HAD1 HAD2
    go_wp2_with fail
    refine (HAD3.out).mono ?_
    rintro e w3 ⟨h, h', rfl, Ow2, cg2, r2, dg2, cv2, hC⟩
    have HC := Lib.hid hC
    have HB3 : Hid (Below w.heap.size w w3) := Lib.hid (HB2.out.trans (hC.env.below.mono HB2.out.size))
    have HKS : Hid (KAt (Ow 0) w3 g K L led) := Lib.hid (HA.out.ks.keep hC.env.below)
    have HKT : Hid (KAt (Ow2 0) w3 h K M led2) := Lib.hid hC.ks
    have HF1 : Hid (Fit K L led) := Lib.hid HA.out.fit
    have HF2 : Hid (Fit K M led2) := Lib.hid hC.fit
    have HZ12 := Lib.hid HA.out.env.below
    have HZ23 := Lib.hid hC.env.below
    have HO1 : Hid (∀ x, Ow 0 x → w1.heap.size ≤ x ∧ x < w2.heap.size) := Lib.hid fun x hx => ⟨HA.out.env.new 0 x (by decide) hx, HA.out.env.lt 0 x hx⟩
    clear hC HAD3 HA HC
    obtain ⟨lv, vs, hs⟩ := HKS.out
    obtain ⟨lv2, vs2, ht⟩ := HKT.out
    have XL1 := Lib.hid (ledger_any w3 hs)
    have XL2 := Lib.hid (ledger_any w3 ht)
    clear hs ht
    go_wp2_with fail
    refine (XL1.out).mono ?_
    rintro e w4 ⟨rfl, hw4⟩
    subst hw4
    go_wp2_with fail
    refine (XL2.out).mono ?_
    rintro e w4 ⟨rfl, hw4⟩
    subst hw4
    go_wp2_with fail
    refine (HCN.out w3 HB3.out).mono ?_
    rintro e w4 ⟨cg, r, cv, rfl, hcg, hr, hkc, hcv, hb4⟩
    have hz2 := HZ12.out.size
    have hz3 := HZ23.out.size
    have hz4 := hb4.size
    have hb14 : Below w1.heap.size w1 w4 := HZ12.out.trans ((HZ23.out.trans (hb4.mono hz3)).mono hz2)
    have hlo : Lone w1 w4 (Ow 0) g K (L, led, 0) cg r cv B := ⟨hb14, HKS.out.keep hb4, hkc, ⟨fun e => by have := (HO1.out _ e).2; omega, fun e => by have := (HO1.out _ e).2; omega, fun x e => ⟨fun e2 => by have := (HO1.out _ e2).2; have := hcv x e; omega, (hcv x e).2⟩, hkc.blk.lt, hkc.rd.blk.lt⟩, HF1.out, fun x hx => (HO1.out x hx).1, by omega, fun x hx => by have := (HO1.out x hx).2; omega⟩
    have HTK := Lib.hid (lone_take hlo (HKT.out.keep hb4) HF2.out hK8 (by omega))
    have HTE2 : Hid (takeS K B (M, led2) (L, led, 0) = (R, ledR, cr)) := HTE
    rw [HTE2.out, show ((L, led, 0) : KS).1 = L from rfl, E0.out] at HTK
    clear hlo hb14 hz2 hz3 hz4 hcg hr hkc hcv hb4
    go_wp2_with fail
    refine (HTK.out).mono ?_
    rintro e w5 ⟨rfl, F5, hl5⟩
    have HL5 := Lib.hid hl5
    have HB5 : Hid (Below w.heap.size w w5) := Lib.hid (HB1.out.trans (hl5.below.mono HB1.out.size))
    have HF5 : Hid (Fit K R ledR) := Lib.hid hl5.fit
    clear hl5 HTK
    obtain ⟨lv, vs, hs⟩ := HL5.out.ks
    have hs : Kst F5 w5 g K (wt R) ledR lv vs R := hs
    have hwt : wt R ≤ 281474976710656 := HF5.out.ok.wtL
    have hledR : ledR ≤ 4611686018427387904 := HF5.out.ok.led
    have XLE := Lib.hid (fun W (hb : Below w5.heap.size w5 W) => ledger_any W (hs.keep hb))
    have XTO := Lib.hid (fun W (hb : Below w5.heap.size w5 W) => total_any W (hs.keep hb))
    have XAT := Lib.hid (fun W (hb : Below w5.heap.size w5 W) => at_any num den W (hs.keep hb) HF5.out.ok rfl a0 a1 d0 d1)
    have XRK := Lib.hid (fun W => rrank_any num den (wt R) W a0 a1 d0 d1 (by omega) (by omega))
    have HBD := Lib.hid (fun h => rankI_bd (num := num) (den := den) (n := wt R) a0 d0 (by omega) h)
    have HAR : Hid (atR R ledR num den = if (rankI num den (wt R)).2 = 0 then (atV R (rankI num den (wt R)).1.toNat, (ledR : Int), 0) else (0, 0, (rankI num den (wt R)).2)) := Lib.hid rfl
    have HSP := Lib.hid (fun r h1 h2 => atV_spec (L := R) (r := r) h1 h2)
    have HLS := Lib.hid (fun r h1 h2 => less_atV (L := R) (r := r) h1 h2)
    obtain ⟨rk, hrk⟩ : ∃ rk, (rankI num den (wt R)).1 = rk := ⟨_, rfl⟩
    obtain ⟨x, hx⟩ : ∃ x, (rankI num den (wt R)).2 = x := ⟨_, rfl⟩
    rw [hrk, hx] at XRK HBD HAR
    rw [HAR.out] at XAT
    obtain ⟨m, hm⟩ : ∃ m, wt R = m := ⟨_, rfl⟩
    rw [hm] at XTO XRK HBD HSP HLS hwt HWR
    have hmw : (m : Int) = min (a.length : Int) 120 + min (b.length : Int) 120 := by have := HWR.out; omega
    have HMW := Lib.hid hmw
    clear hmw
    have hm240 : m ≤ 240 := by have := HWR.out; omega
    have hlt : ¬ (ledR : Int) < (led : Int) + (led2 : Int) := by omega
    clear hs HAR hrk hx hm
    go_wp2_with fail
    refine (XLE.out w5 (Below.refl _ _)).mono ?_
    rintro e w6 ⟨rfl, hw6⟩
    subst hw6
    go_wp2_with fail
    refine (XTO.out w5 (Below.refl _ _)).mono ?_
    rintro e w6 ⟨rfl, hw6⟩
    subst hw6
    rw [HMW.out]
    have hmm : ((min (a.length : Int) 120 + min (b.length : Int) 120 : Int) == (min (a.length : Int) 120 + min (b.length : Int) 120)) = true := by simp
    by_cases hx0 : x = 0
    · subst hx0
      rw [if_pos rfl] at XAT
      obtain ⟨q1, q2⟩ := HBD.out rfl
      obtain ⟨q, rfl⟩ : ∃ q : Nat, rk = q := ⟨rk.toNat, by omega⟩
      rw [Int.toNat_natCast] at XAT
      have hsp := HSP.out q (by omega) (by omega)
      have hla := HLS.out q (by omega) (by omega)
      obtain ⟨y, hy⟩ : ∃ y, atV R q = y := ⟨_, rfl⟩
      rw [hy] at XAT hsp hla
      have o1 := (HOFF.out _ (lt_down y)).lo
      have o2 := (HOFF.out _ (le_down y)).up
      have HL1 : Hid (cntAB (fun x => decide (x < y)) a b 240 < q + ledR) := Lib.hid (by
        have e1 : cF (fun x => decide (x < y)) 1 R = lessL R y := rfl
        rw [show ((R, ledR, cr) : KS).1 = R from rfl, e1] at o1
        have : ((R, ledR, cr) : KS).2.1 = ledR := rfl
        omega)
      have HL2 : Hid (q ≤ cntAB (fun x => decide (x ≤ y)) a b 240 + ledR) := Lib.hid (by
        have e1 : cF (fun x => decide (x ≤ y)) 1 R = uptoL R y := rfl
        rw [show ((R, ledR, cr) : KS).1 = R from rfl, e1] at o2
        have := hsp.up
        have : ((R, ledR, cr) : KS).2.1 = ledR := rfl
        omega)
      clear hy hsp hla o1 o2 HOFF HSP HLS
      go_wp2_with fail
      refine (XAT.out w5 (Below.refl _ _)).mono ?_
      rintro e w6 ⟨rfl, hb6⟩
      have HB56 := Lib.hid hb6
      clear hb6
      go_wp2_with fail
      refine (XTO.out w6 HB56.out).mono ?_
      rintro e w7 ⟨rfl, hw7⟩
      subst hw7
      go_wp2_with fail
      refine (XRK.out w6).mono ?_
      rintro e w7 ⟨rfl, hb7⟩
      have HB7 : Hid (Below w.heap.size w w7) := Lib.hid (HB5.out.trans ((HB56.out.trans (hb7.mono HB56.out.size)).mono HB5.out.size))
      clear hb7
      go_wp2_with fail
      go_loopg [23, 24, 25, 26] 240 (fun z t1 t2 i _ wr => (∃ j : Nat, z = 240 - j ∧ j ≤ 240 ∧ t1 = .int .u64 ((cntAB (fun x => decide (x < y)) a b j : Nat) : Int) ∧ t2 = .int .u64 ((cntAB (fun x => decide (x ≤ y)) a b j : Nat) : Int) ∧ i = .int .i64 (j : Int)) ∧ w7 = wr)
      case atStart => exact ⟨⟨0, by omega, by omega, by simp [cntAB], by simp [cntAB], rfl⟩, rfl⟩
      case round =>
        obtain ⟨⟨j, hq, hj, rfl, rfl, rfl⟩, rfl⟩ := hrel
        have HQ := Lib.hid hq
        clear hq
        have c1' := cntAB_le (fun x => decide (x < y)) a b hj
        have c2' := cntAB_le (fun x => decide (x ≤ y)) a b hj
        by_cases hjl : j < 240
        · have hj240 : (j : Int) < 240 := by omega
          by_cases h120 : j < 120
          · have h120i : (j : Int) < 120 := by omega
            by_cases hja : j < a.length
            · have hjai : (j : Int) < (a.length : Int) := by omega
              have HA1 := Lib.hid (cntAB_a (fun x => decide (x < y)) (b := b) h120 hja)
              have HA2 := Lib.hid (cntAB_a (fun x => decide (x ≤ y)) (b := b) h120 hja)
              obtain ⟨_, _, e2, _, _, hf⟩ := (HLA.out w7 HB7.out).form
              injection e2 with e21 e22 e23
              subst e21; subst e23
              obtain ⟨ga, oa, eA, hga, ka⟩ := hf.i64 hja
              subst eA
              obtain ⟨z, hz⟩ : ∃ z, a[j] = z := ⟨_, rfl⟩
              rw [hz] at ka HA1 HA2
              obtain ⟨t1, ht1⟩ : ∃ t, cntAB (fun x => decide (x < y)) a b j = t := ⟨_, rfl⟩
              obtain ⟨t2, ht2⟩ : ∃ t, cntAB (fun x => decide (x ≤ y)) a b j = t := ⟨_, rfl⟩
              rw [ht1] at c1' HA1
              rw [ht2] at c2' HA2
              rw [ht1, ht2]
              clear hz ht1 ht2 hf e22
              by_cases hzy : z < y
              · have hzy2 : z ≤ y := by omega
                rw [decide_eq_true hzy, if_pos rfl] at HA1
                rw [decide_eq_true hzy2, if_pos rfl] at HA2
                go_wp2_with fail
                go_roundg (240 - (j + 1))
                case measure => have := HQ.out; omega
                case rel => exact ⟨⟨j + 1, rfl, by omega, by rw [HA1.out]; go_num, by rw [HA2.out]; go_num, by go_num⟩, rfl⟩
              by_cases hzy2 : z ≤ y
              · rw [decide_eq_false hzy] at HA1
                rw [decide_eq_true hzy2, if_pos rfl] at HA2
                simp only [Bool.false_eq_true, if_false, Nat.add_zero] at HA1
                go_wp2_with fail
                go_roundg (240 - (j + 1))
                case measure => have := HQ.out; omega
                case rel => exact ⟨⟨j + 1, rfl, by omega, by rw [HA1.out], by rw [HA2.out]; go_num, by go_num⟩, rfl⟩
              rw [decide_eq_false hzy] at HA1
              rw [decide_eq_false hzy2] at HA2
              simp only [Bool.false_eq_true, if_false, Nat.add_zero] at HA1 HA2
              go_wp2_with fail
              go_roundg (240 - (j + 1))
              case measure => have := HQ.out; omega
              case rel => exact ⟨⟨j + 1, rfl, by omega, by rw [HA1.out], by rw [HA2.out], by go_num⟩, rfl⟩
            · have hjai : ¬ (j : Int) < (a.length : Int) := by omega
              have HA1 := Lib.hid (cntAB_no (fun x => decide (x < y)) (a := a) (b := b) (i := j) (.inl ⟨h120, by omega⟩))
              have HA2 := Lib.hid (cntAB_no (fun x => decide (x ≤ y)) (a := a) (b := b) (i := j) (.inl ⟨h120, by omega⟩))
              go_wp2_with fail
              go_roundg (240 - (j + 1))
              case measure => have := HQ.out; omega
              case rel => exact ⟨⟨j + 1, rfl, by omega, by rw [HA1.out], by rw [HA2.out], by go_num⟩, rfl⟩
          · have h120i : ¬ (j : Int) < 120 := by omega
            have h120g : (j : Int) ≥ 120 := by omega
            obtain ⟨u, hu⟩ : ∃ u, j - 120 = u := ⟨_, rfl⟩
            have hui : (j : Int) - 120 = (u : Int) := by omega
            by_cases hja : u < b.length
            · have hjai : (u : Int) < (b.length : Int) := by omega
              have HA1 := Lib.hid (cntAB_b (fun x => decide (x < y)) (a := a) (b := b) (i := j) (by omega) (by omega))
              have HA2 := Lib.hid (cntAB_b (fun x => decide (x ≤ y)) (a := a) (b := b) (i := j) (by omega) (by omega))
              simp only [hu] at HA1 HA2
              obtain ⟨_, _, e2, _, _, hf⟩ := (HLB.out w7 HB7.out).form
              injection e2 with e21 e22 e23
              subst e21; subst e23
              obtain ⟨ga, oa, eA, hga, ka⟩ := hf.i64 hja
              subst eA
              obtain ⟨z, hz⟩ : ∃ z, b[u] = z := ⟨_, rfl⟩
              rw [hz] at ka HA1 HA2
              obtain ⟨t1, ht1⟩ : ∃ t, cntAB (fun x => decide (x < y)) a b j = t := ⟨_, rfl⟩
              obtain ⟨t2, ht2⟩ : ∃ t, cntAB (fun x => decide (x ≤ y)) a b j = t := ⟨_, rfl⟩
              rw [ht1] at c1' HA1
              rw [ht2] at c2' HA2
              rw [ht1, ht2]
              clear hz ht1 ht2 hf e22
              by_cases hzy : z < y
              · have hzy2 : z ≤ y := by omega
                rw [decide_eq_true hzy, if_pos rfl] at HA1
                rw [decide_eq_true hzy2, if_pos rfl] at HA2
                go_wp2_with fail
                go_roundg (240 - (j + 1))
                case measure => have := HQ.out; omega
                case rel => exact ⟨⟨j + 1, rfl, by omega, by rw [HA1.out]; go_num, by rw [HA2.out]; go_num, by go_num⟩, rfl⟩
              by_cases hzy2 : z ≤ y
              · rw [decide_eq_false hzy] at HA1
                rw [decide_eq_true hzy2, if_pos rfl] at HA2
                simp only [Bool.false_eq_true, if_false, Nat.add_zero] at HA1
                go_wp2_with fail
                go_roundg (240 - (j + 1))
                case measure => have := HQ.out; omega
                case rel => exact ⟨⟨j + 1, rfl, by omega, by rw [HA1.out], by rw [HA2.out]; go_num, by go_num⟩, rfl⟩
              rw [decide_eq_false hzy] at HA1
              rw [decide_eq_false hzy2] at HA2
              simp only [Bool.false_eq_true, if_false, Nat.add_zero] at HA1 HA2
              go_wp2_with fail
              go_roundg (240 - (j + 1))
              case measure => have := HQ.out; omega
              case rel => exact ⟨⟨j + 1, rfl, by omega, by rw [HA1.out], by rw [HA2.out], by go_num⟩, rfl⟩
            · have hjai : ¬ (u : Int) < (b.length : Int) := by omega
              have HA1 := Lib.hid (cntAB_no (fun x => decide (x < y)) (a := a) (b := b) (i := j) (.inr ⟨by omega, by omega⟩))
              have HA2 := Lib.hid (cntAB_no (fun x => decide (x ≤ y)) (a := a) (b := b) (i := j) (.inr ⟨by omega, by omega⟩))
              go_wp2_with fail
              go_roundg (240 - (j + 1))
              case measure => have := HQ.out; omega
              case rel => exact ⟨⟨j + 1, rfl, by omega, by rw [HA1.out], by rw [HA2.out], by go_num⟩, rfl⟩
        · obtain rfl : j = 240 := by omega
          obtain ⟨t1, ht1⟩ : ∃ t, cntAB (fun x => decide (x < y)) a b 240 = t := ⟨_, rfl⟩
          obtain ⟨t2, ht2⟩ : ∃ t, cntAB (fun x => decide (x ≤ y)) a b 240 = t := ⟨_, rfl⟩
          rw [ht1] at c1' HL1
          rw [ht2] at c2' HL2
          rw [ht1, ht2]
          have g1 : (t1 : Int) < (q : Int) + (ledR : Int) := by have := HL1.out; omega
          have g2 : (t2 : Int) + (ledR : Int) ≥ (q : Int) := by have := HL2.out; omega
          clear ht1 ht2
          go_wp2_with fail
          refine bodyPost_ret (by simp [results, Try.results7, go_sem, *]; try rfl) rfl ?_
          exact ⟨by first | rfl | (simp; omega), HB7.out⟩
    · rw [if_neg hx0] at XAT
      have hx1 : (x == 0) = false := by simpa using hx0
      go_wp2_with fail
      refine (XAT.out w5 (Below.refl _ _)).mono ?_
      rintro e w6 ⟨rfl, hb6⟩
      have HB6 : Hid (Below w.heap.size w w6) := Lib.hid (HB5.out.trans (hb6.mono HB5.out.size))
      clear hb6
      go_wp2_with fail
      refine bodyPost_ret (by simp [results, Try.results7, go_sem, *]; try rfl) rfl ?_
      exact ⟨rfl, HB6.out⟩
  · have hgt : (B.length : Int) > 500 := by omega
    clear hB hown hby ha hb
    go_enter Try.func7, Try.ntmps7
    go_wp2_with fail
    refine (HAL.out).mono ?_
    rintro e w1 ⟨rfl, hb1⟩
    go_wp2_with fail
    refine bodyPost_ret (by simp [results, Try.results7, go_sem, *]; try rfl) rfl ?_
    exact ⟨rfl, hb1⟩
end Go.Proofs.Ytigmncogjbbmhaa
