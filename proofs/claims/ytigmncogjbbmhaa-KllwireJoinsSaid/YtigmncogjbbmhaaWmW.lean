/- KllwireWrites, walked. Conditions: bytes are bytes; numbers of 64 bits. -/
import Derived.Test.YtigmncogjbbmhaaWl
import Derived.Test.YtigmncogjbbmhaaKmS
import Derived.Test.YtigmncogjbbmhaaKmP
namespace Go.Proofs.Ytigmncogjbbmhaa
open Go.RowKit Go.Lib

/-- Tall of a stack's own bytes. -/
theorem ktall_own {k : Nat} {L : LL} {led : Nat} (v : Value) (w : World) (h : RdI .u8 w v (wrK k L led)) (hr : RightP k L led) (hb : ∀ j, I64L (lvl L j)) :
    Calls Try.prog 53 #[v] w fun e w' => e = .returned (.tuple #[.int .i64 (L.length : Nat), .int .i64 (cnt L : Nat), .int .i64 0]) ∧ Below w.heap.size w w' := by
  refine (ktall_any v _ w h (hr.by_ hb) hr.len_).mono ?_
  rintro e w' ⟨hor, hbw⟩
  rcases hor with ⟨k', L', led', rfl, hk⟩ | ⟨rfl, hno⟩
  · obtain ⟨rfl, rfl, rfl⟩ := hk.uniq ⟨hr, hb, rfl⟩
    exact ⟨rfl, hbw⟩
  · exact absurd ⟨hr, hb, rfl⟩ (hno k L led)
/-- What is known of a stack that was added to. -/
theorem added_right {K : Nat} {B l n : List Int} {L : LL} {led a : Nat} (h8 : 8 ≤ K) (hk : K ≤ 4096) (hs : addedS K B l n = (L, led, a)) (hb : ∀ x ∈ l, -9223372036854775808 ≤ x ∧ x ≤ 9223372036854775807) :
    RightP K L led ∧ ∀ j, I64L (lvl L j) := by
  have hf := (addedN_ok (K := K) (B := B) (l := l) (n := n) h8 hk (min l.length 120) (by omega)).1
  have he := added_emp (B := B) (l := l) (n := n) h8 hk
  have hm : ∀ x ∈ allV L, x ∈ l.take (min l.length 120) := fun x hx => by
    have := added_mem (K := K) (B := B) (l := l) (n := n) (min l.length 120) (by omega) x
    rw [show addedN K B l n (min l.length 120) = (L, led, a) from hs] at this
    exact this hx
  rw [show addedN K B l n (min l.length 120) = (L, led, a) from hs] at hf
  rw [hs] at he
  exact ⟨fit_right hf h8 hk he, I64L.lvl fun x hx => hb x (List.mem_of_mem_take (hm x hx))⟩

set_option maxRecDepth 100000 in
set_option maxHeartbeats 8000000 in
theorem kwrites_any (k : Nat) (v1 v2 v3 : Value) (B l n : List Int) (w : World) (hk : k ≤ 65535) (hB : RdE u8E w v1 B) (hby : ∀ x ∈ B, 0 ≤ x ∧ x ≤ 255) (hown : ∀ x, v1.ownBlock = some x → x < w.heap.size) (hl : RdE i64E w v2 l) (hn : RdE u16E w v3 n) (hu : U16s n)
    (hbl : ∀ x ∈ l, -9223372036854775808 ≤ x ∧ x ≤ 9223372036854775807) :
    Calls Try.prog 15 #[.int .u16 k, v1, v2, v3] w fun e w' => e = .returned (.bool true) ∧ Below w.heap.size w w' := by
  have HAL := Lib.hid (alive25_any w)
  obtain ⟨A1, c1, rfl, hB1, hB2, _⟩ := hB.form
  by_cases hlen : B.length ≤ 500
  · have HBT : Byt B := ⟨by omega, hby⟩
    have HAD := Lib.hid (fun W (hb : Below w.heap.size w W) => added25_any k (.slice A1 B.length c1) v2 v3 B l n W hk (hB.keep hb) HBT (fun x e => Nat.lt_of_lt_of_le (hown x e) hb.size) (hl.keep hb) (hn.keep hb) hu)
    have hgt : ¬ (B.length : Int) > 500 := by omega
    obtain ⟨kz, hK⟩ : ∃ kz, 8 + k % 40 = kz := ⟨_, rfl⟩
    have hK8 : 8 ≤ kz := by omega
    have hK2 : kz ≤ 47 := by omega
    rw [hK] at HAD
    have HRT := Lib.hid (fun L led a h => added_right (K := kz) (B := B) (l := l) (n := n) (L := L) (led := led) (a := a) hK8 (by omega) h hbl)
    clear hB hown hby hl hn hu HBT hK hbl
    obtain ⟨s, hs⟩ : ∃ s, addedS kz B l n = s := ⟨_, rfl⟩
    rw [hs] at HAD
    obtain ⟨L, led, a⟩ := s
    obtain ⟨hrt, hbd⟩ := HRT.out L led a hs
    have HRP := Lib.hid hrt
    have HBD := Lib.hid hbd
    clear hs HRT hrt hbd
    go_enter Try.func15, Try.ntmps15
    go_wp2_with fail
    refine (HAL.out).mono ?_
    rintro e w1 ⟨rfl, hb1⟩
    have HB1 := Lib.hid hb1
    have HAD1 := Lib.hid (HAD.out w1 hb1)
    clear hb1 HAL HAD
    go_wp2_with fail
    refine (HAD1.out).mono ?_
    rintro e w2 ⟨g, h, rfl, Ow, cg, r, dg, cv, ha⟩
    have HB2 : Hid (Below w.heap.size w w2) := Lib.hid (HB1.out.trans (ha.env.below.mono HB1.out.size))
    have HF : Hid (Fit kz L led) := Lib.hid ha.fit
    have HKS : Hid (KAt (Ow 0) w2 g kz L led) := Lib.hid ha.ks
    have HRS : Hid (RAt (Ow 1) w2 h kz L led) := Lib.hid ha.rs
    clear ha HAD1
    obtain ⟨lv, vs, hs⟩ := HKS.out
    obtain ⟨lv2, vs2, hr⟩ := HRS.out
    have HR := Lib.hid hr
    have HS := Lib.hid hs
    have hlenL : L.length ≤ 49 := HF.out.ok.lenL
    have hled : led ≤ 4611686018427387904 := HF.out.ok.led
    have hcnt := HF.out.ok.cntL
    have XW := Lib.hid (kwrite_any w2 hs HF.out.ok HBD.out (by omega))
    obtain ⟨N, hN⟩ : ∃ N, (wrK (kz : Int) L led).length = N := ⟨_, rfl⟩
    have HN := Lib.hid hN
    clear hs hr hN HKS HRS
    go_wp2_with fail
    refine (XW.out).mono ?_
    rintro e w3 ⟨va, rfl, oa, hb3⟩
    obtain ⟨Aa, ca, eva, _, _, _⟩ := (OwnI.rd oa).form
    rw [HN.out] at eva
    subst eva
    have OA := Lib.hid (OwnI.rd oa)
    have HB3 := Lib.hid (HB2.out.trans (hb3.mono HB2.out.size))
    have HB23 := Lib.hid hb3
    have XR := Lib.hid (kread_own _ w3 (OwnI.rd oa) HRP.out HBD.out)
    clear oa hb3 XW
    go_wp2_with fail
    refine (XR.out).mono ?_
    rintro e w4 ⟨g4, F4, rfl, k4, _, hb4⟩
    have HK4 := Lib.hid k4
    have HB24 := Lib.hid (HB23.out.trans (hb4.mono HB23.out.size))
    have OA4 := Lib.hid (Rd.keep OA.out hb4)
    have XT := Lib.hid (ktall_own _ w4 OA4.out HRP.out HBD.out)
    clear k4 hb4 XR OA
    go_wp2_with fail
    refine (XT.out).mono ?_
    rintro e w5 ⟨rfl, hb5⟩
    have HK5 := Lib.hid (HK4.out.keep hb5)
    have HB25 := Lib.hid (HB24.out.trans (hb5.mono HB24.out.size))
    have OA5 := Lib.hid (Rd.keep OA4.out hb5)
    have XN := Lib.hid (kwrite_nil w5)
    clear hb5 XT OA4 HK4
    go_wp2_with fail
    refine (XN.out).mono ?_
    rintro e w6 ⟨rfl, hw⟩
    subst hw
    have HR5 := Lib.hid (HR.out.keep HB25.out)
    have HHL := Lib.hid HR5.out.blk.lt
    have D0 := Lib.hid HR5.out.cell0
    have D2 := Lib.hid HR5.out.cell2
    obtain ⟨A4, c4, elv2, _, _, _⟩ := HR5.out.form
    subst elv2
    have D1 := Lib.hid HR5.out.cell1
    have hhl := HHL.out
    have HB05 := Lib.hid (HB2.out.trans (HB25.out.mono HB2.out.size))
    clear XN
    go_wp2_with fail
    refine wp_region_plan (fun w' => Below w5.heap.size w5 w') [(0, true), (1, true), (2, true), (3, true), (4, true), (5, true), (6, true), (7, true), (8, true), (9, true), (10, true), (11, true), (12, true), (13, true), (14, true), (15, true), (16, true), (17, true), (18, true), (19, true), (20, true), (21, true), (22, true), (23, true), (24, true), (25, false), (26, false), (27, true), (28, true), (29, true), (30, true), (31, true), (32, true), (33, true), (34, true), (35, true), (36, false), (37, true), (38, true), (39, true), (40, true), (41, true), (42, true), (43, true), (44, true), (45, true), (46, true), (47, true), (48, true), (49, true), (50, false), (51, true), (52, true), (53, true), (54, true), (56, true), (57, true), (55, false), (58, true), (59, true), (60, true), (61, false), (62, true), (63, true), (64, true), (65, true), (66, true), (67, true), (68, true)] (by kernel_rfl) (by kernel_rfl) ((Below.refl _ _).drew) ?_
    iterate 25
      refine wpPlan_read (by rfl) (by rfl) (fun R hR => ?_)
      apply Exists.intro
      refine ⟨fun w' hS' => ?_, ?_⟩
      · have k0 := conv_B (Rd.keep OA5.out hS')
        have k1 := (hS'.cell (p := ⟨h, 0, none⟩) hhl).trans D0.out
        have k2 := (hS'.cell (p := ⟨h, 1, none⟩) hhl).trans D1.out
        have k3 := (hS'.cell (p := ⟨h, 2, none⟩) hhl).trans D2.out
        go_simp
        exact ⟨rfl, rfl⟩
      go_simp
      refine hR _ ?_
      clear hR R
    refine wpPlan_do (by rfl) (by rfl) (fun K hK => ?_)
    go_simp
    refine (rwk_any (kz : Int) _ L led w5.drew (HR5.out.keep (Below.refl _ _).drew).llr (by omega) (by omega) (by omega) (by omega) (by omega) (fun j => ⟨HF.out.ok.srt j, HBD.out j⟩)).mono ?_
    rintro e w7 ⟨vk, rfl, ok, hb7⟩
    have hbw7 : Below w5.heap.size w5 w7 := (Below.refl _ _).drew.trans hb7
    have hz7 := hbw7.size
    have ck := conv_B (OwnI.rd ok)
    clear ok
    refine hK _ _ (hbw7) ?_
    clear hK K
    refine wpPlan_do (by rfl) (by rfl) (fun K hK => ?_)
    go_simp
    refine hK _ _ (hbw7) ?_
    clear hK K
    iterate 9
      refine wpPlan_read (by rfl) (by rfl) (fun R hR => ?_)
      apply Exists.intro
      refine ⟨fun w' hS' => ?_, ?_⟩
      · have k0 := conv_B (Rd.keep OA5.out hS')
        have k1 := (hS'.cell (p := ⟨h, 0, none⟩) hhl).trans D0.out
        have k2 := (hS'.cell (p := ⟨h, 1, none⟩) hhl).trans D1.out
        have k3 := (hS'.cell (p := ⟨h, 2, none⟩) hhl).trans D2.out
        go_simp
        exact ⟨rfl, rfl⟩
      go_simp
      refine hR _ ?_
      clear hR R
    refine wpPlan_do (by rfl) (by rfl) (fun K hK => ?_)
    go_simp
    refine (same_any w7 (HK5.out.keep hbw7) (show RAt (Ow 1) w7 h kz L led from ⟨_, _, HR5.out.keep hbw7⟩) HF.out hK8 (by omega)).mono ?_
    rintro e w8 ⟨rfl, hb8⟩
    clear ck
    have hbw8 : Below w5.heap.size w5 w8 := hbw7.trans (hb8.mono hz7)
    have hz8 := hbw8.size
    refine hK _ _ (hbw8) ?_
    clear hK K
    iterate 13
      refine wpPlan_read (by rfl) (by rfl) (fun R hR => ?_)
      apply Exists.intro
      refine ⟨fun w' hS' => ?_, ?_⟩
      · have k0 := conv_B (Rd.keep OA5.out hS')
        have k1 := (hS'.cell (p := ⟨h, 0, none⟩) hhl).trans D0.out
        have k2 := (hS'.cell (p := ⟨h, 1, none⟩) hhl).trans D1.out
        have k3 := (hS'.cell (p := ⟨h, 2, none⟩) hhl).trans D2.out
        go_simp
        exact ⟨rfl, rfl⟩
      go_simp
      refine hR _ ?_
      clear hR R
    refine wpPlan_do (by rfl) (by rfl) (fun K hK => ?_)
    go_simp
    refine (kept_any w8 (HS.out.keep (HB25.out.trans (hbw8.mono HB25.out.size))) (by omega) (by omega)).mono ?_
    rintro e w9 ⟨rfl, hw⟩
    subst hw
    refine hK _ _ (hbw8) ?_
    clear hK K
    iterate 6
      refine wpPlan_read (by rfl) (by rfl) (fun R hR => ?_)
      apply Exists.intro
      refine ⟨fun w' hS' => ?_, ?_⟩
      · have k0 := conv_B (Rd.keep OA5.out hS')
        have k1 := (hS'.cell (p := ⟨h, 0, none⟩) hhl).trans D0.out
        have k2 := (hS'.cell (p := ⟨h, 1, none⟩) hhl).trans D1.out
        have k3 := (hS'.cell (p := ⟨h, 2, none⟩) hhl).trans D2.out
        go_simp
        exact ⟨rfl, rfl⟩
      go_simp
      refine hR _ ?_
      clear hR R
    refine wpPlan_do (by rfl) (by rfl) (fun K hK => ?_)
    go_simp
    refine (kwsize_any w8 (HS.out.keep (HB25.out.trans (hbw8.mono HB25.out.size))) HF.out.ok HBD.out (by omega)).mono ?_
    rw [HN.out]
    rintro e w11 ⟨rfl, hb11⟩
    have hbw11 : Below w5.heap.size w5 w11 := hbw8.trans (hb11.mono hz8)
    have hz11 := hbw11.size
    refine hK _ _ (hbw11) ?_
    clear hK K
    iterate 3
      refine wpPlan_read (by rfl) (by rfl) (fun R hR => ?_)
      apply Exists.intro
      refine ⟨fun w' hS' => ?_, ?_⟩
      · have k0 := conv_B (Rd.keep OA5.out hS')
        have k1 := (hS'.cell (p := ⟨h, 0, none⟩) hhl).trans D0.out
        have k2 := (hS'.cell (p := ⟨h, 1, none⟩) hhl).trans D1.out
        have k3 := (hS'.cell (p := ⟨h, 2, none⟩) hhl).trans D2.out
        go_simp
        exact ⟨rfl, rfl⟩
      go_simp
      refine hR _ ?_
      clear hR R
    refine wpPlan_do (by rfl) (by rfl) (fun K hK => ?_)
    go_simp
    refine (kwsize_nil w11).mono ?_
    rintro e w12 ⟨rfl, hw⟩
    subst hw
    refine hK _ _ (hbw11) ?_
    clear hK K
    iterate 7
      refine wpPlan_read (by rfl) (by rfl) (fun R hR => ?_)
      apply Exists.intro
      refine ⟨fun w' hS' => ?_, ?_⟩
      · have k0 := conv_B (Rd.keep OA5.out hS')
        have k1 := (hS'.cell (p := ⟨h, 0, none⟩) hhl).trans D0.out
        have k2 := (hS'.cell (p := ⟨h, 1, none⟩) hhl).trans D1.out
        have k3 := (hS'.cell (p := ⟨h, 2, none⟩) hhl).trans D2.out
        go_simp
        exact ⟨rfl, rfl⟩
      go_simp
      refine hR _ ?_
      clear hR R
    refine wpPlan_nil ?_
    go_wp2_with fail
    refine bodyPost_ret (by simp [results, Try.results15, go_sem, *]; try rfl) rfl ?_
    exact ⟨rfl, HB05.out.trans (hbw11.mono HB05.out.size)⟩
  · have hgt : (B.length : Int) > 500 := by omega
    clear hB hown hby hl hn hu
    go_enter Try.func15, Try.ntmps15
    go_wp2_with fail
    refine (HAL.out).mono ?_
    rintro e w1 ⟨rfl, hb1⟩
    go_wp2_with fail
    refine bodyPost_ret (by simp [results, Try.results15, go_sem, *]; try rfl) rfl ?_
    exact ⟨rfl, hb1⟩
end Go.Proofs.Ytigmncogjbbmhaa
