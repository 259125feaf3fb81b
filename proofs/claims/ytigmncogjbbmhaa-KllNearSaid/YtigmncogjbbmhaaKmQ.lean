/- KllNear, walked. Conditions: bytes are bytes; numbers of 64 bits. -/
import Derived.Test.YtigmncogjbbmhaaKmP
namespace Go.Proofs.Ytigmncogjbbmhaa
open Go.RowKit

set_option maxRecDepth 100000 in
set_option maxHeartbeats 8000000 in
theorem near_any (k : Nat) (v1 v2 v3 : Value) (B l n : List Int) (num den : Int) (w : World) (hk : k ≤ 65535) (hB : RdE u8E w v1 B) (hby : ∀ x ∈ B, 0 ≤ x ∧ x ≤ 255) (hown : ∀ x, v1.ownBlock = some x → x < w.heap.size) (hl : RdE i64E w v2 l) (hn : RdE u16E w v3 n) (hu : U16s n)
    (a0 : 0 ≤ num) (a1 : num < 18446744073709551616) (d0 : 0 ≤ den) (d1 : den < 18446744073709551616) :
    Calls Try.prog 3 #[.int .u16 k, v1, v2, v3, .int .u64 num, .int .u64 den] w fun e w' => e = .returned (.bool true) ∧ Below w.heap.size w w' := by
  have HAL := Lib.hid (alive_any w)
  obtain ⟨A1, c1, rfl, hB1, hB2, _⟩ := hB.form
  by_cases hlen : B.length ≤ 500
  · have HBT : Byt B := ⟨by omega, hby⟩
    have HAD := Lib.hid (fun W (hb : Below w.heap.size w W) => added_any k (.slice A1 B.length c1) v2 v3 B l n W hk (hB.keep hb) HBT (fun x e => Nat.lt_of_lt_of_le (hown x e) hb.size) (hl.keep hb) (hn.keep hb) hu)
    have HWE := Lib.hid (fun W (hb : Below w.heap.size w W) i hi => weight_any v3 n i W (hn.keep hb) hu hi)
    have HLK := Lib.hid (fun W (hb : Below w.heap.size w W) => hl.keep hb)
    obtain ⟨A2, c2, rfl, hl1, hl2, _⟩ := hl.form
    clear hB hown hby hl hn hu HBT
    have hgt : ¬ (B.length : Int) > 500 := by omega
    obtain ⟨K, hK⟩ : ∃ K, 8 + k % 40 = K := ⟨_, rfl⟩
    have hK8 : 8 ≤ K := by omega
    have hK2 : K ≤ 47 := by omega
    rw [hK] at HAD
    have HOF := Lib.hid (fun (p : Int → Bool) (hp : Down p) => added_off (B := B) (l := l) (n := n) hp hK8 (show K ≤ 4096 by omega) (min l.length 120) (by omega))
    have HMM := Lib.hid (fun x => added_mem (K := K) (B := B) (l := l) (n := n) (min l.length 120) (by omega) x)
    clear hK
    obtain ⟨s, hs⟩ : ∃ s, addedS K B l n = s := ⟨_, rfl⟩
    have hs' : addedN K B l n (min l.length 120) = s := hs
    rw [hs] at HAD
    rw [hs'] at HOF HMM
    obtain ⟨L, led, a⟩ := s
    clear hs hs'
    go_enter Try.func3, Try.ntmps3
    go_wp2_with fail
    refine (HAL.out).mono ?_
    rintro e w1 ⟨rfl, hb1⟩
    have HB1 := Lib.hid hb1
    have HAD1 := Lib.hid (HAD.out w1 hb1)
    clear hb1 HAL HAD
    go_wp2_with fail
    refine (HAD1.out).mono ?_
    rintro e w2 ⟨g, h, rfl, Ow, cg, r, dg, cv, ha⟩
    have HB2 : Hid (Below w.heap.size w w2) := Lib.hid (HB1.out.trans (ha.env.below.mono HB1.out.size))
    have HF : Hid (Fit K L led) := Lib.hid ha.fit
    have HKS : Hid (KAt (Ow 0) w2 g K L led) := Lib.hid ha.ks
    have HRS : Hid (RAt (Ow 1) w2 h K L led) := Lib.hid ha.rs
    clear ha HAD1
    obtain ⟨lv, vs, hs⟩ := HKS.out
    obtain ⟨lv2, vs2, hr⟩ := HRS.out
    have hwt : wt L ≤ 281474976710656 := HF.out.ok.wtL
    have hled : led ≤ 4611686018427387904 := HF.out.ok.led
    have XAT := Lib.hid (at_any num den w2 hs HF.out.ok rfl a0 a1 d0 d1)
    have XTO := Lib.hid (fun W (hb : Below w2.heap.size w2 W) => rtotal_any W (hr.keep hb) hwt HF.out.ok.lenL)
    have XRK := Lib.hid (fun W => rrank_any num den (wt L) W a0 a1 d0 d1 (by omega) (by omega))
    have HBD := Lib.hid (fun h => rankI_bd (num := num) (den := den) (n := wt L) a0 d0 (by omega) h)
    have HAR : Hid (atR L led num den = if (rankI num den (wt L)).2 = 0 then (atV L (rankI num den (wt L)).1.toNat, (led : Int), 0) else (0, 0, (rankI num den (wt L)).2)) := Lib.hid rfl
    have HSP := Lib.hid (fun r h1 h2 => atV_spec (L := L) (r := r) h1 h2)
    have HLA := Lib.hid (fun r h1 h2 => less_atV (L := L) (r := r) h1 h2)
    obtain ⟨rk, hrk⟩ : ∃ rk, (rankI num den (wt L)).1 = rk := ⟨_, rfl⟩
    obtain ⟨x, hx⟩ : ∃ x, (rankI num den (wt L)).2 = x := ⟨_, rfl⟩
    rw [hrk, hx] at XRK HBD HAR
    rw [HAR.out] at XAT
    obtain ⟨m, hm⟩ : ∃ m, wt L = m := ⟨_, rfl⟩
    rw [hm] at XTO XRK HBD HSP HLA hwt
    clear hs hr HAR hrk hx hm
    by_cases hx0 : x = 0
    · subst hx0
      rw [if_pos rfl] at XAT
      obtain ⟨r1, r2⟩ := HBD.out rfl
      obtain ⟨q, rfl⟩ : ∃ q : Nat, rk = q := ⟨rk.toNat, by omega⟩
      rw [Int.toNat_natCast] at XAT
      have hsp := HSP.out q (by omega) (by omega)
      have hla := HLA.out q (by omega) (by omega)
      obtain ⟨y, hy⟩ : ∃ y, atV L q = y := ⟨_, rfl⟩
      rw [hy] at XAT hsp hla
      have o1 := (HOF.out _ (lt_down y)).lo
      have o2 := (HOF.out _ (le_down y)).up
      have HIN : Hid (y ∈ l.take (min l.length 120)) := Lib.hid (HMM.out y hsp.mem)
      have HL1 : Hid (addC (fun x => decide (x < y)) l n (min l.length 120) < q + led) := Lib.hid (by
        have e1 : cF (fun x => decide (x < y)) 1 L = lessL L y := rfl
        rw [show ((L, led, a) : KS).1 = L from rfl, e1] at o1
        have : ((L, led, a) : KS).2.1 = led := rfl
        omega)
      have HL2 : Hid (q ≤ addC (fun x => decide (x ≤ y)) l n (min l.length 120) + led) := Lib.hid (by
        have e1 : cF (fun x => decide (x ≤ y)) 1 L = uptoL L y := rfl
        rw [show ((L, led, a) : KS).1 = L from rfl, e1] at o2
        have := hsp.up
        have : ((L, led, a) : KS).2.1 = led := rfl
        omega)
      clear hy hsp hla o1 o2 HOF HMM HSP HLA
      go_wp2_with fail
      refine (XAT.out).mono ?_
      rintro e w3 ⟨rfl, hb3⟩
      have HB3 := Lib.hid hb3
      clear hb3
      go_wp2_with fail
      refine (XTO.out w3 HB3.out).mono ?_
      rintro e w4 ⟨rfl, hw4⟩
      subst hw4
      go_wp2_with fail
      refine (XRK.out w3).mono ?_
      rintro e w4 ⟨rfl, hb4⟩
      have HB4 : Hid (Below w.heap.size w w4) := Lib.hid (HB2.out.trans ((HB3.out.trans (hb4.mono HB3.out.size)).mono HB2.out.size))
      clear hb4
      go_upto_block 0 with fail
      go_cut [20, 21, 22, 23] (fun t1 t2 t3 _ wx => t1 = .int .u64 ((addC (fun x => decide (x < y)) l n (min l.length 120) : Nat) : Int) ∧ t2 = .int .u64 ((addC (fun x => decide (x ≤ y)) l n (min l.length 120) : Nat) : Int) ∧ t3 = .bool true ∧ w4 = wx)
      case first =>
        go_wp2_with fail
        go_loopg [20, 21, 22, 23] (min l.length 120) (fun q t1 t2 t3 i wr => (∃ (j : Nat) (b : Bool), q = min l.length 120 - j ∧ j ≤ min l.length 120 ∧ t1 = .int .u64 ((addC (fun x => decide (x < y)) l n j : Nat) : Int) ∧ t2 = .int .u64 ((addC (fun x => decide (x ≤ y)) l n j : Nat) : Int) ∧ t3 = .bool b ∧ i = .int .i64 (j : Int) ∧ Hid (y ∈ l.take j → b = true)) ∧ w4 = wr)
        case atStart => exact ⟨⟨0, false, by omega, by omega, rfl, rfl, rfl, rfl, Lib.hid fun h => by simp at h⟩, rfl⟩
        case round =>
          obtain ⟨⟨j, b, hq, hj, rfl, rfl, rfl, rfl, HT⟩, rfl⟩ := hrel
          have HQ := Lib.hid hq
          clear hq
          by_cases hjl : j < min l.length 120
          · have hj1 : (j : Int) < (l.length : Int) := by omega
            have hj2 : (j : Int) < 120 := by omega
            have hjn : j < l.length := by omega
            obtain ⟨_, _, e2, _, _, hf⟩ := (HLK.out w4 HB4.out).form
            injection e2 with e21 e22 e23
            subst e21; subst e23
            obtain ⟨ga, oa, eA, hga, ka⟩ := hf.i64 hjn
            subst eA
            have hwb := wtI_bd n j
            have XW := Lib.hid (HWE.out w4 HB4.out j (by omega))
            have c1' := addC_le (fun x => decide (x < y)) l n j
            have c2' := addC_le (fun x => decide (x ≤ y)) l n j
            have HA1 : Hid (addC (fun x => decide (x < y)) l n (j + 1) = addC (fun x => decide (x < y)) l n j + if decide (l[j] < y) then wtI n j else 0) := Lib.hid (by rw [addC, List.getD, List.getElem?_eq_getElem hjn]; rfl)
            have HA2 : Hid (addC (fun x => decide (x ≤ y)) l n (j + 1) = addC (fun x => decide (x ≤ y)) l n j + if decide (l[j] ≤ y) then wtI n j else 0) := Lib.hid (by rw [addC, List.getD, List.getElem?_eq_getElem hjn]; rfl)
            have HTK : Hid (y ∈ l.take (j + 1) → y ∈ l.take j ∨ y = l[j]) := Lib.hid fun h => by
              rw [List.take_succ_eq_append_getElem hjn, List.mem_append, List.mem_singleton] at h; exact h
            obtain ⟨z, hz⟩ : ∃ z, l[j] = z := ⟨_, rfl⟩
            rw [hz] at ka HTK HA1 HA2
            obtain ⟨mw, hmw⟩ : ∃ mw, wtI n j = mw := ⟨_, rfl⟩
            rw [hmw] at hwb XW HA1 HA2
            obtain ⟨t1, ht1⟩ : ∃ t, addC (fun x => decide (x < y)) l n j = t := ⟨_, rfl⟩
            obtain ⟨t2, ht2⟩ : ∃ t, addC (fun x => decide (x ≤ y)) l n j = t := ⟨_, rfl⟩
            rw [ht1] at c1' HA1
            rw [ht2] at c2' HA2
            rw [ht1, ht2]
            clear hz hmw ht1 ht2 hf e22
            cases b with
            | true =>
              by_cases hzy : z < y
              · have hzy2 : z ≤ y := by omega
                have hzne : ¬ z = y := by omega
                rw [decide_eq_true hzy, if_pos rfl] at HA1
                rw [decide_eq_true hzy2, if_pos rfl] at HA2
                have HTN : Hid (y ∈ l.take (j + 1) → true = true) := Lib.hid fun _ => rfl
                go_wp2_with fail
                refine (XW.out).mono ?_
                rintro e w5 ⟨rfl, hw5⟩
                subst hw5
                go_wp2_with fail
                refine (XW.out).mono ?_
                rintro e w5 ⟨rfl, hw5⟩
                subst hw5
                go_wp2_with fail
                go_roundg (min l.length 120 - (j + 1))
                case measure => have := HQ.out; omega
                case rel => exact ⟨⟨j + 1, true, rfl, by omega, by rw [HA1.out]; go_num, by rw [HA2.out]; go_num, rfl, by go_num, Lib.hid fun _ => rfl⟩, rfl⟩
              by_cases hzy : z = y
              · subst hzy
                have hzy1 : ¬ z < z := by omega
                have hzy2 : z ≤ z := by omega
                rw [decide_eq_false hzy1] at HA1
                rw [decide_eq_true hzy2, if_pos rfl] at HA2
                simp only [Bool.false_eq_true, if_false, Nat.add_zero] at HA1
                have HTN : Hid (z ∈ l.take (j + 1) → true = true) := Lib.hid fun _ => rfl
                go_wp2_with fail
                refine (XW.out).mono ?_
                rintro e w5 ⟨rfl, hw5⟩
                subst hw5
                go_wp2_with fail
                go_roundg (min l.length 120 - (j + 1))
                case measure => have := HQ.out; omega
                case rel => exact ⟨⟨j + 1, true, rfl, by omega, by rw [HA1.out], by rw [HA2.out]; go_num, rfl, by go_num, Lib.hid fun _ => rfl⟩, rfl⟩
              have hzy2 : ¬ z ≤ y := by omega
              have hzne : ¬ z = y := by omega
              have hzy3 : ¬ z < y := by omega
              rw [decide_eq_false hzy3] at HA1
              rw [decide_eq_false hzy2] at HA2
              simp only [Bool.false_eq_true, if_false, Nat.add_zero] at HA1 HA2
              have HTN : Hid (y ∈ l.take (j + 1) → true = true) := Lib.hid fun _ => rfl
              go_wp2_with fail
              go_roundg (min l.length 120 - (j + 1))
              case measure => have := HQ.out; omega
              case rel => exact ⟨⟨j + 1, true, rfl, by omega, by rw [HA1.out], by rw [HA2.out], rfl, by go_num, Lib.hid fun _ => rfl⟩, rfl⟩
            | false =>
              by_cases hzy : z < y
              · have hzy2 : z ≤ y := by omega
                have hzne : ¬ z = y := by omega
                rw [decide_eq_true hzy, if_pos rfl] at HA1
                rw [decide_eq_true hzy2, if_pos rfl] at HA2
                have HTN : Hid (y ∈ l.take (j + 1) → false = true) := Lib.hid fun h => (HTK.out h).elim (fun h1 => HT.out h1) (fun h1 => absurd h1.symm hzne)
                go_wp2_with fail
                refine (XW.out).mono ?_
                rintro e w5 ⟨rfl, hw5⟩
                subst hw5
                go_wp2_with fail
                refine (XW.out).mono ?_
                rintro e w5 ⟨rfl, hw5⟩
                subst hw5
                go_wp2_with fail
                go_roundg (min l.length 120 - (j + 1))
                case measure => have := HQ.out; omega
                case rel => exact ⟨⟨j + 1, false, rfl, by omega, by rw [HA1.out]; go_num, by rw [HA2.out]; go_num, by simp [hzne], by go_num, Lib.hid fun h => HTN.out h⟩, rfl⟩
              by_cases hzy : z = y
              · subst hzy
                have hzy1 : ¬ z < z := by omega
                have hzy2 : z ≤ z := by omega
                rw [decide_eq_false hzy1] at HA1
                rw [decide_eq_true hzy2, if_pos rfl] at HA2
                simp only [Bool.false_eq_true, if_false, Nat.add_zero] at HA1
                have HTN : Hid (z ∈ l.take (j + 1) → true = true) := Lib.hid fun _ => rfl
                go_wp2_with fail
                refine (XW.out).mono ?_
                rintro e w5 ⟨rfl, hw5⟩
                subst hw5
                go_wp2_with fail
                go_roundg (min l.length 120 - (j + 1))
                case measure => have := HQ.out; omega
                case rel => exact ⟨⟨j + 1, true, rfl, by omega, by rw [HA1.out], by rw [HA2.out]; go_num, rfl, by go_num, Lib.hid fun _ => rfl⟩, rfl⟩
              have hzy2 : ¬ z ≤ y := by omega
              have hzne : ¬ z = y := by omega
              have hzy3 : ¬ z < y := by omega
              rw [decide_eq_false hzy3] at HA1
              rw [decide_eq_false hzy2] at HA2
              simp only [Bool.false_eq_true, if_false, Nat.add_zero] at HA1 HA2
              have HTN : Hid (y ∈ l.take (j + 1) → false = true) := Lib.hid fun h => (HTK.out h).elim (fun h1 => HT.out h1) (fun h1 => absurd h1.symm hzne)
              go_wp2_with fail
              go_roundg (min l.length 120 - (j + 1))
              case measure => have := HQ.out; omega
              case rel => exact ⟨⟨j + 1, false, rfl, by omega, by rw [HA1.out], by rw [HA2.out], by simp [hzne], by go_num, Lib.hid fun h => HTN.out h⟩, rfl⟩
          · have hje : j = min l.length 120 := by omega
            have HBT : Hid (b = true) := Lib.hid (HT.out (by rw [hje]; exact HIN.out))
            have hbt := HBT.out
            subst hbt
            have HJE := Lib.hid hje
            clear hje
            by_cases h120 : j < l.length
            · have h1 : ¬ (j : Int) < 120 := by omega
              go_wp2_with fail
              go_meet
              exact ⟨by rw [HJE.out], by rw [HJE.out], rfl, rfl⟩
            · have h1 : ¬ (j : Int) < (l.length : Int) := by omega
              go_wp2_with fail
              go_meet
              exact ⟨by rw [HJE.out], by rw [HJE.out], rfl, rfl⟩
      case rest =>
        obtain ⟨rfl, rfl, rfl, rfl⟩ := hcut
        have c1' := addC_le (fun x => decide (x < y)) l n (min l.length 120)
        have c2' := addC_le (fun x => decide (x ≤ y)) l n (min l.length 120)
        obtain ⟨t1, ht1⟩ : ∃ t, addC (fun x => decide (x < y)) l n (min l.length 120) = t := ⟨_, rfl⟩
        obtain ⟨t2, ht2⟩ : ∃ t, addC (fun x => decide (x ≤ y)) l n (min l.length 120) = t := ⟨_, rfl⟩
        rw [ht1] at c1' HL1
        rw [ht2] at c2' HL2
        rw [ht1, ht2]
        have g1 : (t1 : Int) < (q : Int) + (led : Int) := by have := HL1.out; omega
        have g2 : (t2 : Int) + (led : Int) ≥ (q : Int) := by have := HL2.out; omega
        have g3 : t1 ≤ 120000 := by omega
        have g4 : t2 ≤ 120000 := by omega
        clear ht1 ht2 c1' c2'
        go_wp2_with fail
        refine bodyPost_ret (by simp [results, Try.results3, go_sem, *]; try rfl) rfl ?_
        exact ⟨by first | rfl | (simp; omega), HB4.out⟩
    · rw [if_neg hx0] at XAT
      have hx1 : (x == 0) = false := by simpa using hx0
      go_wp2_with fail
      refine (XAT.out).mono ?_
      rintro e w3 ⟨rfl, hb3⟩
      have HB3 : Hid (Below w.heap.size w w3) := Lib.hid (HB2.out.trans (hb3.mono HB2.out.size))
      clear hb3
      go_wp2_with fail
      refine bodyPost_ret (by simp [results, Try.results3, go_sem, *]; try rfl) rfl ?_
      exact ⟨rfl, HB3.out⟩
  · have hgt : (B.length : Int) > 500 := by omega
    clear hB hown hby hl hn hu
    go_enter Try.func3, Try.ntmps3
    go_wp2_with fail
    refine (HAL.out).mono ?_
    rintro e w1 ⟨rfl, hb1⟩
    go_wp2_with fail
    refine bodyPost_ret (by simp [results, Try.results3, go_sem, *]; try rfl) rfl ?_
    exact ⟨rfl, hb1⟩
end Go.Proofs.Ytigmncogjbbmhaa
