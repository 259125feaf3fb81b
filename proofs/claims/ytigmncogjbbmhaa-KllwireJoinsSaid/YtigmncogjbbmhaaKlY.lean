/- Same of law 24. Conditions: sizes from 8 to 4096; what a stack keeps. -/
import Derived.Test.YtigmncogjbbmhaaKlX
namespace Go.Proofs.Ytigmncogjbbmhaa
open Go.RowKit

set_option maxHeartbeats 1000000 in
theorem room_neg {F : Nat → Prop} {g k n led : Nat} {lv : Value} {vs : List Sv} {L : LL} (w : World) (hs : Kst F w g k n led lv vs L) :
    Calls Try.prog 37 #[.pointer (some ⟨g, 0, none⟩), .int .i64 (-1)] w fun e w' => e = .returned (.int .i64 0) ∧ w = w' := by
  have c0 := hs.cell0
  have c1 := hs.cell1
  clear hs
  go_enter Try.func37, Try.ntmps37
  go_wp2_with fail
  go_ret
  exact ⟨rfl, rfl⟩
set_option maxRecDepth 100000 in
set_option maxHeartbeats 8000000 in
theorem same_any {F G : Nat → Prop} {g h k led : Nat} {L : LL} (w : World) (hs : KAt F w g k L led) (hr : RAt G w h k L led) (hf : Fit k L led) (h8 : 8 ≤ k) (hk : k ≤ 4096) :
    Calls Try.prog 35 #[.pointer (some ⟨g, 0, none⟩), .pointer (some ⟨h, 0, none⟩)] w fun e w' => e = .returned (.bool true) ∧ Below w.heap.size w w' := by
  obtain ⟨lv, vs, hs⟩ := hs
  obtain ⟨lv2, vs2, hr⟩ := hr
  have hlenL := hf.ok.lenL
  have hcnt := hf.cnt (by omega) hk
  have hwt := hf.ok.wtL
  have HS := Lib.hid hs
  have HR := Lib.hid hr
  have hhw := hr.blk.lt
  obtain ⟨A, c, elv, hc1, hc2, _⟩ := hr.form
  subst elv
  have C0 := Lib.hid hr.cell0
  have C1 := Lib.hid hr.cell1
  have C2 := Lib.hid hr.cell2
  have XSZ := Lib.hid (fun W (hb : Below w.heap.size w W) => size_any W (hs.keep hb))
  have XTO := Lib.hid (fun W (hb : Below w.heap.size w W) => total_any W (hs.keep hb))
  have XRT := Lib.hid (fun W (hb : Below w.heap.size w W) => rtotal_any W (hr.keep hb) hwt hlenL)
  have XLE := Lib.hid (fun W (hb : Below w.heap.size w W) => ledger_any W (hs.keep hb))
  have XKE := Lib.hid (fun W (hb : Below w.heap.size w W) => kept_any W (hs.keep hb) (by omega) (by omega))
  have XLV := Lib.hid (fun W (hb : Below w.heap.size w W) => levels_any W (hs.keep hb) (by omega) (by omega))
  have XRO := Lib.hid (fun W (hb : Below w.heap.size w W) j (hj : j ≤ 49) => room_any j W (hs.keep hb) (by omega) (by omega) (by omega) (by omega))
  have XRR := Lib.hid (fun W j (hj : j ≤ 49) => rroom_any k L.length j W (by omega) (by omega) (by omega) (by omega))
  have XRN := Lib.hid (fun W (hb : Below w.heap.size w W) => room_neg W (hs.keep hb))
  have HRL := Lib.hid (fun W (hb : Below w.heap.size w W) => (hr.keep hb).llr)
  have HRB := Lib.hid (fun j => room_le (k := k) (len := L.length) (h := j) (by omega))
  have HRE : Hid (room k L.length L.length = 0) := Lib.hid (by unfold room; rw [if_neg (by omega)])
  have HTK := Lib.hid (fun j (hj : j < L.length) => cnt_take_succ hj)
  have HTL := Lib.hid (fun j => cnt_take_le L j)
  have HTE : Hid (cnt (L.take L.length) = cnt L) := Lib.hid (by rw [List.take_length])
  clear hs hr hf
  go_enter Try.func35, Try.ntmps35
  go_wp2_with fail
  go_loopg [5, 6] L.length (fun q n i wr => ∃ (j : Nat), q = L.length - j ∧ j ≤ L.length ∧ n = .int .i64 ((cnt (L.take j) : Nat) : Int) ∧ i = .int .i64 (j : Int) ∧ Hid (Below w.heap.size w wr))
  case atStart => exact ⟨0, by omega, by omega, rfl, rfl, Lib.hid (Below.refl _ _)⟩
  case round =>
    obtain ⟨j, hq, hj, rfl, rfl, HB⟩ := hrel
    have HQ := Lib.hid hq
    clear hq
    have hz := HB.out.size
    have c1 := (HB.out.cell (p := ⟨h, 1, none⟩) hhw).trans C1.out
    by_cases hjl : j < L.length
    · obtain ⟨gl, cc, sA, sc, elv, hgl, _, _, _, c2, _, _, _⟩ := HR.out.at_ hjl
      injection elv with elv e2 e3
      subst elv; subst e3
      have HT1 := Lib.hid (HTK.out j hjl)
      have hb1 := HTL.out (j + 1)
      have hb0 := HTL.out j
      have hrm := HRB.out j
      have XR1 := Lib.hid (fun W hb => XRO.out W hb j (by omega))
      have XR2 := Lib.hid (fun W => XRR.out W j (by omega))
      obtain ⟨t1, ht1⟩ : ∃ t1, cnt (L.take (j + 1)) = t1 := ⟨_, rfl⟩
      obtain ⟨t0, ht0⟩ : ∃ t0, cnt (L.take j) = t0 := ⟨_, rfl⟩
      obtain ⟨x, hx⟩ : ∃ x, (lvl L j).length = x := ⟨_, rfl⟩
      obtain ⟨rm, hrme⟩ : ∃ rm, room k L.length j = rm := ⟨_, rfl⟩
      rw [hx] at c2
      rw [ht1] at hb1
      rw [ht0] at hb0
      rw [ht1, ht0, hx] at HT1
      rw [ht0]
      rw [hrme] at XR1 XR2 hrm
      have HT1E := Lib.hid ht1
      have hmb : t0 + x = t1 := by have := HT1.out; omega
      clear hx ht0 ht1 hrme
      go_upto_region 5 with fail
      clear c1
      refine wp_region_plan (fun w' => Below w.heap.size w w') [(0, true), (1, true), (3, true), (4, true), (5, true), (6, true), (7, true), (8, true), (9, true), (10, true), (11, true), (12, true), (2, false), (13, false), (14, true)] (by kernel_rfl) (by kernel_rfl) (HB.out.drew) ?_
      iterate 12
        refine wpPlan_read (by rfl) (by rfl) (fun R hR => ?_)
        apply Exists.intro
        refine ⟨fun w' hS' => ?_, ?_⟩
        · have k0 := (hS'.cell (p := ⟨h, 0, none⟩) hhw).trans C0.out
          have k1 := (hS'.cell (p := ⟨h, 1, none⟩) hhw).trans C1.out
          go_simp
          exact ⟨rfl, rfl⟩
        go_simp
        refine hR _ ?_
        clear hR R
      refine wpPlan_do (by rfl) (by rfl) (fun K hK => ?_)
      go_simp
      refine (XR1.out _ HB.out.drew).mono ?_
      rintro e w5 ⟨rfl, hw5⟩
      subst hw5
      refine hK _ _ (HB.out.drew) ?_
      clear hK K
      refine wpPlan_do (by rfl) (by rfl) (fun K hK => ?_)
      go_simp
      refine (XR2.out _).mono ?_
      rintro e w5 ⟨rfl, hw5⟩
      subst hw5
      have hrr : (rm == rm) = true := by simp
      refine hK _ _ (HB.out.drew) ?_
      clear hK K
      iterate 1
        refine wpPlan_read (by rfl) (by rfl) (fun R hR => ?_)
        apply Exists.intro
        refine ⟨fun w' hS' => ?_, ?_⟩
        · have k0 := (hS'.cell (p := ⟨h, 0, none⟩) hhw).trans C0.out
          have k1 := (hS'.cell (p := ⟨h, 1, none⟩) hhw).trans C1.out
          go_simp
          exact ⟨rfl, rfl⟩
        go_simp
        refine hR _ ?_
        clear hR R
      refine wpPlan_nil ?_
      have c4 := (HB.out.drew.cell (p := ⟨h, 1, none⟩) hhw).trans C1.out
      have c5 := (HB.out.drew.cell (p := ⟨gl, j, none⟩) hgl).trans c2
      have HBD := Lib.hid HB.out.drew
      go_wp2_with fail
      go_roundg (L.length - (j + 1))
      case measure => have := HQ.out; omega
      case rel => exact ⟨j + 1, rfl, by omega, by rw [HT1E.out]; go_num, by go_num, HBD⟩
    · obtain rfl : j = L.length := by omega
      rw [HTE.out]
      have XR1 := Lib.hid (fun W hb => XRO.out W hb L.length (by omega))
      rw [HRE.out] at XR1
      obtain ⟨n, hn⟩ : ∃ n, cnt L = n := ⟨_, rfl⟩
      obtain ⟨m, hm⟩ : ∃ m, wt L = m := ⟨_, rfl⟩
      rw [hn] at XKE hcnt ⊢
      rw [hm] at XTO XRT hwt
      have hnn : (n == n) = true := by simp
      have hmm : (m == m) = true := by simp
      have hkk : (k == k) = true := by simp
      have hll : (led == led) = true := by simp
      clear hn hm
      go_upto_region 8 with fail
      clear c1
      refine wp_region_plan (fun w' => Below w.heap.size w w') [(0, true), (2, true), (3, true), (4, true), (5, true), (1, false), (6, true), (7, true), (8, true), (10, true), (9, false), (11, false), (12, true), (13, true), (14, true), (15, true), (17, true), (18, true), (19, true), (20, true), (16, false), (21, true), (22, true), (23, true), (24, true), (26, true), (25, false), (27, true), (28, true), (29, true), (30, true), (32, true), (33, true), (34, true), (35, true), (31, false), (36, false), (37, true), (38, true), (39, true), (40, false), (41, true), (42, true), (43, true), (44, true), (45, true), (46, true), (47, true), (48, true), (49, true), (50, false), (51, true), (52, true), (53, true)] (by kernel_rfl) (by kernel_rfl) (HB.out.drew) ?_
      iterate 5
        refine wpPlan_read (by rfl) (by rfl) (fun R hR => ?_)
        apply Exists.intro
        refine ⟨fun w' hS' => ?_, ?_⟩
        · have k0 := (hS'.cell (p := ⟨h, 0, none⟩) hhw).trans C0.out
          have k1 := (hS'.cell (p := ⟨h, 1, none⟩) hhw).trans C1.out
          have k2 := (hS'.cell (p := ⟨h, 2, none⟩) hhw).trans C2.out
          go_simp
          exact ⟨rfl, rfl⟩
        go_simp
        refine hR _ ?_
        clear hR R
      refine wpPlan_do (by rfl) (by rfl) (fun K hK => ?_)
      go_simp
      refine (XSZ.out _ HB.out.drew).mono ?_
      rintro e w5 ⟨rfl, hw5⟩
      subst hw5
      refine hK _ _ (HB.out.drew) ?_
      clear hK K
      iterate 4
        refine wpPlan_read (by rfl) (by rfl) (fun R hR => ?_)
        apply Exists.intro
        refine ⟨fun w' hS' => ?_, ?_⟩
        · have k0 := (hS'.cell (p := ⟨h, 0, none⟩) hhw).trans C0.out
          have k1 := (hS'.cell (p := ⟨h, 1, none⟩) hhw).trans C1.out
          have k2 := (hS'.cell (p := ⟨h, 2, none⟩) hhw).trans C2.out
          go_simp
          exact ⟨rfl, rfl⟩
        go_simp
        refine hR _ ?_
        clear hR R
      refine wpPlan_do (by rfl) (by rfl) (fun K hK => ?_)
      go_simp
      refine (XTO.out _ HB.out.drew).mono ?_
      rintro e w5 ⟨rfl, hw5⟩
      subst hw5
      refine hK _ _ (HB.out.drew) ?_
      clear hK K
      refine wpPlan_do (by rfl) (by rfl) (fun K hK => ?_)
      go_simp
      refine (XRT.out _ HB.out.drew).mono ?_
      rintro e w5 ⟨rfl, hw5⟩
      subst hw5
      refine hK _ _ (HB.out.drew) ?_
      clear hK K
      iterate 8
        refine wpPlan_read (by rfl) (by rfl) (fun R hR => ?_)
        apply Exists.intro
        refine ⟨fun w' hS' => ?_, ?_⟩
        · have k0 := (hS'.cell (p := ⟨h, 0, none⟩) hhw).trans C0.out
          have k1 := (hS'.cell (p := ⟨h, 1, none⟩) hhw).trans C1.out
          have k2 := (hS'.cell (p := ⟨h, 2, none⟩) hhw).trans C2.out
          go_simp
          exact ⟨rfl, rfl⟩
        go_simp
        refine hR _ ?_
        clear hR R
      refine wpPlan_do (by rfl) (by rfl) (fun K hK => ?_)
      go_simp
      refine (XLE.out _ HB.out.drew).mono ?_
      rintro e w5 ⟨rfl, hw5⟩
      subst hw5
      refine hK _ _ (HB.out.drew) ?_
      clear hK K
      iterate 5
        refine wpPlan_read (by rfl) (by rfl) (fun R hR => ?_)
        apply Exists.intro
        refine ⟨fun w' hS' => ?_, ?_⟩
        · have k0 := (hS'.cell (p := ⟨h, 0, none⟩) hhw).trans C0.out
          have k1 := (hS'.cell (p := ⟨h, 1, none⟩) hhw).trans C1.out
          have k2 := (hS'.cell (p := ⟨h, 2, none⟩) hhw).trans C2.out
          go_simp
          exact ⟨rfl, rfl⟩
        go_simp
        refine hR _ ?_
        clear hR R
      refine wpPlan_do (by rfl) (by rfl) (fun K hK => ?_)
      go_simp
      refine (XKE.out _ HB.out.drew).mono ?_
      rintro e w5 ⟨rfl, hw5⟩
      subst hw5
      refine hK _ _ (HB.out.drew) ?_
      clear hK K
      iterate 8
        refine wpPlan_read (by rfl) (by rfl) (fun R hR => ?_)
        apply Exists.intro
        refine ⟨fun w' hS' => ?_, ?_⟩
        · have k0 := (hS'.cell (p := ⟨h, 0, none⟩) hhw).trans C0.out
          have k1 := (hS'.cell (p := ⟨h, 1, none⟩) hhw).trans C1.out
          have k2 := (hS'.cell (p := ⟨h, 2, none⟩) hhw).trans C2.out
          go_simp
          exact ⟨rfl, rfl⟩
        go_simp
        refine hR _ ?_
        clear hR R
      refine wpPlan_do (by rfl) (by rfl) (fun K hK => ?_)
      go_simp
      refine (XLV.out _ HB.out.drew).mono ?_
      rintro e w6 ⟨v6, vs6, rfl, hlo6, hb6⟩
      obtain ⟨A6, c6, e6, _, _⟩ := hlo6.llr.form
      subst e6
      have HLO := Lib.hid hlo6
      have HB6 : Hid (Below w.heap.size w w6) := Lib.hid (HB.out.drew.trans (hb6.mono hz))
      clear hlo6 hb6
      refine hK _ _ (HB6.out) ?_
      clear hK K
      refine wpPlan_do (by rfl) (by rfl) (fun K hK => ?_)
      go_simp
      refine (rsame_any _ _ L L w6 HLO.out.llr (HRL.out w6 HB6.out)).mono ?_
      rintro e w7 ⟨rfl, q7, hw7⟩
      have HB7 : Hid (Below w.heap.size w w7) := Lib.hid (by rw [hw7]; exact below_drewN HB6.out _)
      clear hw7
      rw [decide_eq_true rfl]
      refine hK _ _ (HB7.out) ?_
      clear hK K
      iterate 3
        refine wpPlan_read (by rfl) (by rfl) (fun R hR => ?_)
        apply Exists.intro
        refine ⟨fun w' hS' => ?_, ?_⟩
        · have k0 := (hS'.cell (p := ⟨h, 0, none⟩) hhw).trans C0.out
          have k1 := (hS'.cell (p := ⟨h, 1, none⟩) hhw).trans C1.out
          have k2 := (hS'.cell (p := ⟨h, 2, none⟩) hhw).trans C2.out
          go_simp
          exact ⟨rfl, rfl⟩
        go_simp
        refine hR _ ?_
        clear hR R
      refine wpPlan_do (by rfl) (by rfl) (fun K hK => ?_)
      go_simp
      refine (XRN.out _ HB7.out).mono ?_
      rintro e w5 ⟨rfl, hw5⟩
      subst hw5
      refine hK _ _ (HB7.out) ?_
      clear hK K
      iterate 9
        refine wpPlan_read (by rfl) (by rfl) (fun R hR => ?_)
        apply Exists.intro
        refine ⟨fun w' hS' => ?_, ?_⟩
        · have k0 := (hS'.cell (p := ⟨h, 0, none⟩) hhw).trans C0.out
          have k1 := (hS'.cell (p := ⟨h, 1, none⟩) hhw).trans C1.out
          have k2 := (hS'.cell (p := ⟨h, 2, none⟩) hhw).trans C2.out
          go_simp
          exact ⟨rfl, rfl⟩
        go_simp
        refine hR _ ?_
        clear hR R
      refine wpPlan_do (by rfl) (by rfl) (fun K hK => ?_)
      go_simp
      refine (XR1.out _ HB7.out).mono ?_
      rintro e w5 ⟨rfl, hw5⟩
      subst hw5
      refine hK _ _ (HB7.out) ?_
      clear hK K
      iterate 3
        refine wpPlan_read (by rfl) (by rfl) (fun R hR => ?_)
        apply Exists.intro
        refine ⟨fun w' hS' => ?_, ?_⟩
        · have k0 := (hS'.cell (p := ⟨h, 0, none⟩) hhw).trans C0.out
          have k1 := (hS'.cell (p := ⟨h, 1, none⟩) hhw).trans C1.out
          have k2 := (hS'.cell (p := ⟨h, 2, none⟩) hhw).trans C2.out
          go_simp
          exact ⟨rfl, rfl⟩
        go_simp
        refine hR _ ?_
        clear hR R
      refine wpPlan_nil ?_
      go_wp2_with fail
      refine bodyPost_ret (by simp [results, Try.results35, go_sem, *]; try rfl) rfl ?_
      exact ⟨rfl, HB7.out⟩
end Go.Proofs.Ytigmncogjbbmhaa
