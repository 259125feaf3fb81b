/- KllAsks, walked. Conditions: bytes are bytes; numbers of 64 bits. -/
import Derived.Test.YtigmncogjbbmhaaKmB
namespace Go.Proofs.Ytigmncogjbbmhaa
open Go.RowKit

set_option maxRecDepth 100000 in
set_option maxHeartbeats 8000000 in
theorem asks_any (k : Nat) (v1 v2 v3 : Value) (B l n : List Int) (num den v : Int) (w : World) (hk : k ≤ 65535) (hB : RdE u8E w v1 B) (hby : ∀ x ∈ B, 0 ≤ x ∧ x ≤ 255) (hown : ∀ x, v1.ownBlock = some x → x < w.heap.size) (hl : RdE i64E w v2 l) (hn : RdE u16E w v3 n) (hu : U16s n)
    (a0 : 0 ≤ num) (a1 : num < 18446744073709551616) (d0 : 0 ≤ den) (d1 : den < 18446744073709551616) :
    Calls Try.prog 5 #[.int .u16 k, v1, v2, v3, .int .u64 num, .int .u64 den, .int .i64 v] w fun e w' => e = .returned (.bool true) ∧ Below w.heap.size w w' := by
  have HAL := Lib.hid (alive_any w)
  obtain ⟨A1, c1, rfl, hB1, hB2, _⟩ := hB.form
  by_cases hlen : B.length ≤ 500
  · have HBT : Byt B := ⟨by omega, hby⟩
    have HAD := Lib.hid (fun W (hb : Below w.heap.size w W) => added_any k (.slice A1 B.length c1) v2 v3 B l n W hk (hB.keep hb) HBT (fun x e => Nat.lt_of_lt_of_le (hown x e) hb.size) (hl.keep hb) (hn.keep hb) hu)
    have HGE := addedN_ok (K := 8 + k % 40) (B := B) (l := l) (n := n) (by omega) (by omega) (min l.length 120) (by omega)
    clear hB hown hby hl hn hu HBT
    have hgt : ¬ (B.length : Int) > 500 := by omega
    obtain ⟨K, hK⟩ : ∃ K, 8 + k % 40 = K := ⟨_, rfl⟩
    have hK8 : 8 ≤ K := by omega
    have hK2 : K ≤ 47 := by omega
    rw [hK] at HAD
    clear hK HGE
    obtain ⟨s, hs⟩ : ∃ s, addedS K B l n = s := ⟨_, rfl⟩
    rw [hs] at HAD
    obtain ⟨L, led, a⟩ := s
    clear hs
    go_enter Try.func5, Try.ntmps5
    go_wp2_with fail
    refine (HAL.out).mono ?_
    rintro e w1 ⟨rfl, hb1⟩
    have HB1 := Lib.hid hb1
    have HAD1 := Lib.hid (HAD.out w1 hb1)
    clear hb1 HAL HAD
    go_wp2_with fail
    refine (HAD1.out).mono ?_
    rintro e w2 ⟨g, h, rfl, Ow, cg, r, dg, cv, ha⟩
    have HB2 : Hid (Below w.heap.size w w2) := Lib.hid (HB1.out.trans (ha.env.below.mono HB1.out.size))
    have HF : Hid (Fit K L led) := Lib.hid ha.fit
    have HKS : Hid (KAt (Ow 0) w2 g K L led) := Lib.hid ha.ks
    have HRS : Hid (RAt (Ow 1) w2 h K L led) := Lib.hid ha.rs
    clear ha HAD1
    obtain ⟨lv, vs, hs⟩ := HKS.out
    obtain ⟨lv2, vs2, hr⟩ := HRS.out
    have hwt : wt L ≤ 281474976710656 := HF.out.ok.wtL
    have hled : led ≤ 4611686018427387904 := HF.out.ok.led
    have XAT := Lib.hid (at_any num den w2 hs HF.out.ok rfl a0 a1 d0 d1)
    have XTO := Lib.hid (fun W (hb : Below w2.heap.size w2 W) => rtotal_any W (hr.keep hb) hwt HF.out.ok.lenL)
    have XRK := Lib.hid (fun W => rrank_any num den (wt L) W a0 a1 d0 d1 (by omega) (by omega))
    have XRA := Lib.hid (fun W (hb : Below w2.heap.size w2 W) q hq => rat_any q W hq (hr.keep hb) HF.out.ok)
    have XKB := Lib.hid (fun W (hb : Below w2.heap.size w2 W) => between_any v W (hs.keep hb) HF.out.ok)
    have XRB := Lib.hid (fun W (hb : Below w2.heap.size w2 W) => rbetween_any v W (hr.keep hb) HF.out.ok)
    have XSA := Lib.hid (fun W (hb : Below w2.heap.size w2 W) => same_any W (HKS.out.keep hb) (HRS.out.keep hb) HF.out hK8 (by omega))
    have XC2 := Lib.hid (fun W (hb : Below w2.heap.size w2 W) => (hr.keep hb).cell2)
    have HBD := Lib.hid (fun h => rankI_bd (num := num) (den := den) (n := wt L) a0 d0 (by omega) h)
    have HAR : Hid (atR L led num den = if (rankI num den (wt L)).2 = 0 then (atV L (rankI num den (wt L)).1.toNat, (led : Int), 0) else (0, 0, (rankI num den (wt L)).2)) := Lib.hid rfl
    obtain ⟨rk, hrk⟩ : ∃ rk, (rankI num den (wt L)).1 = rk := ⟨_, rfl⟩
    obtain ⟨x, hx⟩ : ∃ x, (rankI num den (wt L)).2 = x := ⟨_, rfl⟩
    obtain ⟨ls, hls⟩ : ∃ ls, lessL L v = ls := ⟨_, rfl⟩
    obtain ⟨us, hus⟩ : ∃ us, uptoL L v = us := ⟨_, rfl⟩
    rw [hrk, hx] at XRK HBD HAR
    rw [HAR.out] at XAT
    rw [hls, hus] at XKB XRB
    obtain ⟨m, hm⟩ : ∃ m, wt L = m := ⟨_, rfl⟩
    rw [hm] at XTO XRK HBD hwt
    have hlss : (ls == ls) = true := by simp
    have huss : (us == us) = true := by simp
    clear hs hr HAR hrk hx hls hus hm
    by_cases hx0 : x = 0
    · subst hx0
      rw [if_pos rfl] at XAT
      obtain ⟨r1, r2⟩ := HBD.out rfl
      obtain ⟨q, rfl⟩ : ∃ q : Nat, rk = q := ⟨rk.toNat, by omega⟩
      rw [Int.toNat_natCast] at XAT
      have XR := Lib.hid (fun W hb => XRA.out W hb q (by omega))
      obtain ⟨y, hy⟩ : ∃ y, atV L q = y := ⟨_, rfl⟩
      rw [hy] at XAT XR
      have hyy : (y == y) = true := by simp
      clear hy
      go_wp2_with fail
      refine (XAT.out).mono ?_
      rintro e w3 ⟨rfl, hb3⟩
      have HB3 := Lib.hid hb3
      clear hb3
      go_wp2_with fail
      refine (XTO.out w3 HB3.out).mono ?_
      rintro e w4 ⟨rfl, hw4⟩
      subst hw4
      go_wp2_with fail
      refine (XRK.out w3).mono ?_
      rintro e w4 ⟨rfl, hb4⟩
      have HB4 : Hid (Below w2.heap.size w2 w4) := Lib.hid (HB3.out.trans (hb4.mono HB3.out.size))
      have hz4 := HB4.out.size
      clear hb4
      have k2 := XC2.out w4 HB4.out
      go_wp2_with fail
      refine (XR.out w4 HB4.out).mono ?_
      rintro e w5 ⟨rfl, hw5⟩
      subst hw5
      go_wp2_with fail
      refine (XKB.out w4 HB4.out).mono ?_
      rintro e w5 ⟨rfl, q5, hw5⟩
      have HB5 : Hid (Below w2.heap.size w2 w5) := Lib.hid (by rw [hw5]; exact below_drewN HB4.out _)
      clear hw5 k2
      go_wp2_with fail
      refine (XRB.out w5 HB5.out).mono ?_
      rintro e w6 ⟨rfl, hw6⟩
      subst hw6
      go_wp2_with fail
      refine (XSA.out w5 HB5.out).mono ?_
      rintro e w6 ⟨rfl, hb6⟩
      have HB6 : Hid (Below w.heap.size w w6) := Lib.hid (HB2.out.trans ((HB5.out.trans (hb6.mono HB5.out.size)).mono HB2.out.size))
      clear hb6
      go_wp2_with fail
      refine bodyPost_ret (by simp [results, Try.results5, go_sem, *]; try rfl) rfl ?_
      exact ⟨rfl, HB6.out⟩
    · rw [if_neg hx0] at XAT
      have hx1 : (x == 0) = false := by simpa using hx0
      have hxx : (x == x) = true := by simp
      go_wp2_with fail
      refine (XAT.out).mono ?_
      rintro e w3 ⟨rfl, hb3⟩
      have HB3 := Lib.hid hb3
      clear hb3
      go_wp2_with fail
      refine (XTO.out w3 HB3.out).mono ?_
      rintro e w4 ⟨rfl, hw4⟩
      subst hw4
      go_wp2_with fail
      refine (XRK.out w3).mono ?_
      rintro e w4 ⟨rfl, hb4⟩
      have HB4 : Hid (Below w2.heap.size w2 w4) := Lib.hid (HB3.out.trans (hb4.mono HB3.out.size))
      clear hb4
      go_wp2_with fail
      refine (XKB.out w4 HB4.out).mono ?_
      rintro e w5 ⟨rfl, q5, hw5⟩
      have HB5 : Hid (Below w2.heap.size w2 w5) := Lib.hid (by rw [hw5]; exact below_drewN HB4.out _)
      clear hw5
      go_wp2_with fail
      refine (XRB.out w5 HB5.out).mono ?_
      rintro e w6 ⟨rfl, hw6⟩
      subst hw6
      go_wp2_with fail
      refine (XSA.out w5 HB5.out).mono ?_
      rintro e w6 ⟨rfl, hb6⟩
      have HB6 : Hid (Below w.heap.size w w6) := Lib.hid (HB2.out.trans ((HB5.out.trans (hb6.mono HB5.out.size)).mono HB2.out.size))
      clear hb6
      go_wp2_with fail
      refine bodyPost_ret (by simp [results, Try.results5, go_sem, *]; try rfl) rfl ?_
      exact ⟨rfl, HB6.out⟩
  · have hgt : (B.length : Int) > 500 := by omega
    clear hB hown hby hl hn hu
    go_enter Try.func5, Try.ntmps5
    go_wp2_with fail
    refine (HAL.out).mono ?_
    rintro e w1 ⟨rfl, hb1⟩
    go_wp2_with fail
    refine bodyPost_ret (by simp [results, Try.results5, go_sem, *]; try rfl) rfl ?_
    exact ⟨rfl, hb1⟩
end Go.Proofs.Ytigmncogjbbmhaa
