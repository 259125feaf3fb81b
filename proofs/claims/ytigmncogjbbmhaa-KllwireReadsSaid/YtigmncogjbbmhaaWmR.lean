/- KllwireReads, walked. Condition: bytes are bytes. -/
import Derived.Test.YtigmncogjbbmhaaWl
namespace Go.Proofs.Ytigmncogjbbmhaa
open Go.RowKit Go.Lib

set_option maxRecDepth 100000 in
set_option maxHeartbeats 8000000 in
theorem kreads_any (v : Value) (bs : List Int) (w : World) (h : RdI .u8 w v bs) (hb : byL bs) :
    Calls Try.prog 14 #[v] w fun e w' => e = .returned (.bool true) ∧ Below w.heap.size w w' := by
  have HAL := Lib.hid (alive25_any w)
  obtain ⟨A1, c1, rfl, _, _, _⟩ := h.form
  by_cases hlen : bs.length ≤ 3000
  · have hgt : ¬ (bs.length : Int) > 3000 := by omega
    have hl9 : bs.length ≤ 1000000000 := by omega
    have HRD := Lib.hid (fun W (hW : Below w.heap.size w W) => Rd.keep h hW)
    have HBY := Lib.hid hb
    clear h hb
    go_enter Try.func14, Try.ntmps14
    go_wp2_with fail
    refine (HAL.out).mono ?_
    rintro e w1 ⟨rfl, hb1⟩
    have HB1 := Lib.hid hb1
    have XR := Lib.hid (kread_any _ bs w1 (HRD.out w1 hb1) HBY.out hl9)
    clear hb1 HAL
    go_wp2_with fail
    refine (XR.out).mono ?_
    rintro e w2 ⟨hor, hb2⟩
    have HB2 := Lib.hid (HB1.out.trans (hb2.mono HB1.out.size))
    have XT := Lib.hid (ktall_any _ bs w2 (HRD.out w2 HB2.out) HBY.out hl9)
    clear hb2 XR
    rcases hor with ⟨g, kz, L, led, F, rfl, hk, hka, hF⟩ | ⟨rfl, hno⟩
    · have HK := Lib.hid hk
      have HKA := Lib.hid hka
      have HRB : Hid (rightB (kz : Int) L led = true) := Lib.hid (rightB_yes hk.right)
      have h49 := hk.right.hlen
      have h8 := hk.right.k8
      have h4 := hk.right.k4
      have hled := hk.right.hled
      have hcn : cnt L ≤ _ := hk.right.fit.ok.cntL
      clear hk hka hF
      go_wp2_with fail
      refine (XT.out).mono ?_
      rintro e w3 ⟨hor, hb3⟩
      have HB3 := Lib.hid (HB2.out.trans (hb3.mono HB2.out.size))
      obtain ⟨lv, vs, hks⟩ := HKA.out.keep hb3
      have HKS := Lib.hid hks
      rcases hor with ⟨k', L', led', rfl, hk'⟩ | ⟨rfl, hno⟩
      · obtain ⟨e1, e2, e3⟩ := hk'.uniq HK.out
        subst e1; subst e2; subst e3
        have HRD3 := Lib.hid (fun W (hW : Below w3.heap.size w3 W) => HRD.out W (HB3.out.trans (hW.mono HB3.out.size)))
        have XL := fun W (hW : Below w3.heap.size w3 W) => Lib.hid (levels_any W (HKS.out.keep hW) (by omega) (by omega))
        have XSZ := fun W (hW : Below w3.heap.size w3 W) => Lib.hid (size_any W (HKS.out.keep hW))
        have XLE := fun W (hW : Below w3.heap.size w3 W) => Lib.hid (ledger_any W (HKS.out.keep hW))
        have XKE := fun W (hW : Below w3.heap.size w3 W) => Lib.hid (kept_any W (HKS.out.keep hW) (by omega) (by omega))
        clear hb3 hks hk' XT
        go_wp2_with fail
        refine wp_region_plan (fun w' => Below w3.heap.size w3 w') [(0, true), (1, true), (2, true), (3, true), (5, true), (7, true), (4, false), (6, false), (8, false), (9, false), (10, true), (11, true), (12, true), (14, true), (16, true), (20, true), (21, true), (13, false), (15, false), (17, false), (18, false), (19, false), (22, true), (23, true), (24, true), (25, true), (26, true), (27, false), (28, true), (29, true), (30, true), (31, true), (32, true), (33, true), (34, false), (35, true), (36, true), (37, true)] (by kernel_rfl) (by kernel_rfl) ((Below.refl _ _).drew) ?_
        iterate 6
          refine wpPlan_read (by rfl) (by rfl) (fun R hR => ?_)
          apply Exists.intro
          refine ⟨fun w' hS' => ?_, ?_⟩
          · have k0 := conv_B (HRD3.out _ hS')
            go_simp
            exact ⟨rfl, rfl⟩
          go_simp
          refine hR _ ?_
          clear hR R
        refine wpPlan_do (by rfl) (by rfl) (fun K hK => ?_)
        go_simp
        refine (XSZ w3.drew (Below.refl _ _).drew).out.mono ?_
        rintro e w4 ⟨rfl, hw⟩
        subst hw
        refine hK _ _ ((Below.refl _ _).drew) ?_
        clear hK K
        refine wpPlan_do (by rfl) (by rfl) (fun K hK => ?_)
        go_simp
        refine (XL w3.drew (Below.refl _ _).drew).out.mono ?_
        rintro e w5 ⟨v5, vs5, rfl, hlo5, hb5⟩
        have hbw5 : Below w3.heap.size w3 w5 := (Below.refl _ _).drew.trans hb5
        have hz5 := hbw5.size
        have HLO5 := Lib.hid hlo5.llr
        clear hlo5
        refine hK _ _ (hbw5) ?_
        clear hK K
        refine wpPlan_do (by rfl) (by rfl) (fun K hK => ?_)
        go_simp
        refine (XLE w5 hbw5).out.mono ?_
        rintro e w6 ⟨rfl, hw⟩
        subst hw
        refine hK _ _ (hbw5) ?_
        clear hK K
        refine wpPlan_do (by rfl) (by rfl) (fun K hK => ?_)
        go_simp
        refine (right_any (k' : Int) v5 L' led' w5 HLO5.out (by omega) (by omega) (by omega)).mono ?_
        rw [HRB.out]
        rintro e w7 ⟨rfl, hb7⟩
        have hbw7 : Below w3.heap.size w3 w7 := hbw5.trans (hb7.mono hz5)
        have hz7 := hbw7.size
        refine hK _ _ (hbw7) ?_
        clear hK K
        iterate 7
          refine wpPlan_read (by rfl) (by rfl) (fun R hR => ?_)
          apply Exists.intro
          refine ⟨fun w' hS' => ?_, ?_⟩
          · have k0 := conv_B (HRD3.out _ hS')
            go_simp
            exact ⟨rfl, rfl⟩
          go_simp
          refine hR _ ?_
          clear hR R
        refine wpPlan_do (by rfl) (by rfl) (fun K hK => ?_)
        go_simp
        refine (XSZ w7 hbw7).out.mono ?_
        rintro e w8 ⟨rfl, hw⟩
        subst hw
        refine hK _ _ (hbw7) ?_
        clear hK K
        refine wpPlan_do (by rfl) (by rfl) (fun K hK => ?_)
        go_simp
        refine (XL w7 hbw7).out.mono ?_
        rintro e w9 ⟨v9, vs9, rfl, hlo9, hb9⟩
        have hbw9 : Below w3.heap.size w3 w9 := hbw7.trans (hb9.mono hz7)
        have hz9 := hbw9.size
        have HLO9 := Lib.hid hlo9.llr
        clear hlo9
        refine hK _ _ (hbw9) ?_
        clear hK K
        refine wpPlan_do (by rfl) (by rfl) (fun K hK => ?_)
        go_simp
        refine (XLE w9 hbw9).out.mono ?_
        rintro e w10 ⟨rfl, hw⟩
        subst hw
        refine hK _ _ (hbw9) ?_
        clear hK K
        refine wpPlan_do (by rfl) (by rfl) (fun K hK => ?_)
        go_simp
        refine (rwk_any (k' : Int) v9 L' led' w9 HLO9.out (by omega) (by omega) (by omega) (by omega) (by omega) (fun j => ⟨HK.out.right.fit.ok.srt j, HK.out.bd j⟩)).mono ?_
        rintro e w11 ⟨vk, rfl, ok, hb11⟩
        have hbw11 : Below w3.heap.size w3 w11 := hbw9.trans (hb11.mono hz9)
        have hz11 := hbw11.size
        rw [HK.out.eq] at ok
        have ck := conv_B (OwnI.rd ok)
        clear ok
        refine hK _ _ (hbw11) ?_
        clear hK K
        refine wpPlan_do (by rfl) (by rfl) (fun K hK => ?_)
        go_simp
        refine hK _ _ (hbw11) ?_
        clear hK K
        iterate 5
          refine wpPlan_read (by rfl) (by rfl) (fun R hR => ?_)
          apply Exists.intro
          refine ⟨fun w' hS' => ?_, ?_⟩
          · have k0 := conv_B (HRD3.out _ hS')
            go_simp
            exact ⟨rfl, rfl⟩
          go_simp
          refine hR _ ?_
          clear hR R
        refine wpPlan_do (by rfl) (by rfl) (fun K hK => ?_)
        go_simp
        refine (XL w11 hbw11).out.mono ?_
        rintro e w12 ⟨v12, vs12, rfl, hlo12, hb12⟩
        clear ck
        obtain ⟨A12, c12, ev12, _, _⟩ := hlo12.llr.form
        subst ev12
        have hbw12 : Below w3.heap.size w3 w12 := hbw11.trans (hb12.mono hz11)
        have hz12 := hbw12.size
        clear hlo12
        refine hK _ _ (hbw12) ?_
        clear hK K
        iterate 6
          refine wpPlan_read (by rfl) (by rfl) (fun R hR => ?_)
          apply Exists.intro
          refine ⟨fun w' hS' => ?_, ?_⟩
          · have k0 := conv_B (HRD3.out _ hS')
            go_simp
            exact ⟨rfl, rfl⟩
          go_simp
          refine hR _ ?_
          clear hR R
        refine wpPlan_do (by rfl) (by rfl) (fun K hK => ?_)
        go_simp
        refine (XKE w12 hbw12).out.mono ?_
        rintro e w13 ⟨rfl, hw⟩
        subst hw
        refine hK _ _ (hbw12) ?_
        clear hK K
        iterate 3
          refine wpPlan_read (by rfl) (by rfl) (fun R hR => ?_)
          apply Exists.intro
          refine ⟨fun w' hS' => ?_, ?_⟩
          · have k0 := conv_B (HRD3.out _ hS')
            go_simp
            exact ⟨rfl, rfl⟩
          go_simp
          refine hR _ ?_
          clear hR R
        refine wpPlan_nil ?_
        go_wp2_with fail
        refine bodyPost_ret (by simp [results, Try.results14, go_sem, *]; try rfl) rfl ?_
        exact ⟨rfl, HB3.out.trans (hbw12.mono HB3.out.size)⟩
      · exact absurd HK.out (hno kz L led)
    · have HNO := Lib.hid hno
      clear hno
      go_wp2_with fail
      refine (XT.out).mono ?_
      rintro e w3 ⟨hor, hb3⟩
      have HB3 := Lib.hid (HB2.out.trans (hb3.mono HB2.out.size))
      rcases hor with ⟨k', L', led', rfl, hk'⟩ | ⟨rfl, _⟩
      · exact absurd hk' (HNO.out k' L' led')
      · clear hb3 XT
        go_wp2_with fail
        refine bodyPost_ret (by simp [results, Try.results14, go_sem, *]; try rfl) rfl ?_
        exact ⟨rfl, HB3.out⟩
  · have hgt : (bs.length : Int) > 3000 := by omega
    clear h hb
    go_enter Try.func14, Try.ntmps14
    go_wp2_with fail
    refine (HAL.out).mono ?_
    rintro e w1 ⟨rfl, hb1⟩
    go_wp2_with fail
    refine bodyPost_ret (by simp [results, Try.results14, go_sem, *]; try rfl) rfl ?_
    exact ⟨rfl, hb1⟩
end Go.Proofs.Ytigmncogjbbmhaa
