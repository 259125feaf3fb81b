/- KllKeeps: its plain laws, and walked. Conditions: bytes are bytes. -/
import Derived.Test.YtigmncogjbbmhaaKmC
namespace Go.Proofs.Ytigmncogjbbmhaa
open Go.RowKit

/-! ### How many are kept -/
def sumR (k : Nat) : Nat → Nat
  | 0 => 0
  | j + 1 => sumR k j + roomN j k
theorem sumR_le (k : Nat) : ∀ H, sumR k H + 3 * roomN H k ≤ 3 * k + 2 * H
  | 0 => by simp [sumR, roomN]
  | H + 1 => by
    have ih := sumR_le k H
    rw [sumR, roomN_succ' H k]
    have : 3 * thin (roomN H k) ≤ 2 * roomN H k + 2 := by unfold thin; omega
    omega
theorem cnt_sumR {k led : Nat} {L : LL} (hf : Fit k L led) (h2 : 2 ≤ k) : ∀ t, t ≤ L.length → cnt (L.take t) + sumR k (L.length - t) ≤ sumR k L.length
  | 0, _ => by simp [cnt]
  | t + 1, ht => by
    have ih := cnt_sumR hf h2 t (by omega)
    have h1 := fullN_none hf.none t (by omega)
    have h3 : room k L.length t = roomN (L.length - 1 - t) k := by
      unfold room
      have := (roomN_le (L.length - 1 - t) k h2).2
      rw [if_pos (by omega)]; omega
    rw [h3] at h1
    rw [cnt_take_succ (by omega)]
    have h4 : sumR k (L.length - t) = sumR k (L.length - (t + 1)) + roomN (L.length - 1 - t) k := by
      rw [show L.length - t = (L.length - (t + 1)) + 1 by omega, sumR, show L.length - (t + 1) = L.length - 1 - t by omega]
    omega
theorem Fit.kept {k led : Nat} {L : LL} (hf : Fit k L led) (h2 : 2 ≤ k) : Go.Proofs.Ytigmncogjbbmhaa.cnt L ≤ 3 * k + 2 * L.length := by
  have h1 := cnt_sumR hf h2 L.length (Nat.le_refl _)
  rw [List.take_length] at h1
  have h3 := sumR_le k L.length
  omega

/-! ### Weights, and a stack that was never packed -/
def sumW (n : List Int) : Nat → Nat
  | 0 => 0
  | i + 1 => sumW n i + wtI n i
theorem sumW_le (n : List Int) : ∀ i, sumW n i ≤ 1000 * i
  | 0 => Nat.le_refl _
  | i + 1 => by
    have := sumW_le n i
    have := wtI_bd n i
    rw [sumW]; omega
theorem addedN_wt {K : Nat} {B l n : List Int} (h8 : 8 ≤ K) (hk : K ≤ 4096) : ∀ i, i ≤ 120 → wt (addedN K B l n i).1 = sumW n i
  | 0, _ => rfl
  | i + 1, hi => by
    have h := (addedN_ok (B := B) (l := l) (n := n) h8 hk i (by omega)).2.2
    rw [addedN, addS_wt, if_pos h, addedN_wt h8 hk i (by omega)]; rfl
theorem addL_one (L : LL) (v : Int) : addL L v 1 = putL L 0 [v] := by
  unfold addL
  rw [putB, if_neg (by decide), if_pos (by decide)]
  exact putB_zero _ _ _ _
theorem addedN_plain {K : Nat} {B l n : List Int} (h8 : 8 ≤ K) (hk : K ≤ 4096) : ∀ i, i ≤ K → i ≤ 120 → (∀ j, j < i → wtI n j = 1) → (addedN K B l n i).2 = (0, 0) ∧ (addedN K B l n i).1.length ≤ 1 ∧ cnt (addedN K B l n i).1 = i
  | 0, _, _, _ => ⟨rfl, by simp [addedN], rfl⟩
  | i + 1, hi, hi2, hw => by
    obtain ⟨h1, h2, h3⟩ := addedN_plain (B := B) (l := l) (n := n) h8 hk i (by omega) (by omega) fun j hj => hw j (by omega)
    have h4 := (addedN_ok (B := B) (l := l) (n := n) h8 hk i (by omega)).2.2
    have h5 := hw i (by omega)
    rw [addedN]
    unfold addS
    rw [if_pos h4, h5, addL_one]
    have hl : (putL (addedN K B l n i).1 0 [l.getD i 0]).length = 1 := by rw [putL_length]; omega
    have hc : cnt (putL (addedN K B l n i).1 0 [l.getD i 0]) = i + 1 := by rw [cnt_put, h3]; rfl
    have hn : fullN K (putL (addedN K B l n i).1 0 [l.getD i 0]) = none := fullN_is_none fun j hj => by
      have hj0 : j = 0 := by omega
      subst hj0
      have h6 := lvl_le_cnt (putL (addedN K B l n i).1 0 [l.getD i 0]) 0
      have h7 : room K 1 0 = K := by unfold room; rw [if_pos (by omega)]; show max K 2 = K; omega
      rw [hl, h7]; omega
    rw [packA_none (s := (putL (addedN K B l n i).1 0 [l.getD i 0], (addedN K B l n i).2.1, (addedN K B l n i).2.2)) hn]
    exact ⟨h1, by show List.length (putL _ _ _) ≤ 1; omega, hc⟩

set_option maxRecDepth 100000 in
set_option maxHeartbeats 8000000 in
theorem keeps_any (k : Nat) (v1 v2 v3 : Value) (B l n : List Int) (w : World) (hk : k ≤ 65535) (hB : RdE u8E w v1 B) (hby : ∀ x ∈ B, 0 ≤ x ∧ x ≤ 255) (hown : ∀ x, v1.ownBlock = some x → x < w.heap.size) (hl : RdE i64E w v2 l) (hn : RdE u16E w v3 n) (hu : U16s n) :
    Calls Try.prog 6 #[.int .u16 k, v1, v2, v3] w fun e w' => e = .returned (.bool true) ∧ Below w.heap.size w w' := by
  have HAL := Lib.hid (alive_any w)
  obtain ⟨A1, c1, rfl, hB1, hB2, _⟩ := hB.form
  by_cases hlen : B.length ≤ 500
  · have HBT : Byt B := ⟨by omega, hby⟩
    have HAD := Lib.hid (fun W (hb : Below w.heap.size w W) => added_any k (.slice A1 B.length c1) v2 v3 B l n W hk (hB.keep hb) HBT (fun x e => Nat.lt_of_lt_of_le (hown x e) hb.size) (hl.keep hb) (hn.keep hb) hu)
    have HWE := Lib.hid (fun W (hb : Below w.heap.size w W) i hi => weight_any v3 n i W (hn.keep hb) hu hi)
    have HSZ := Lib.hid (fun W => lsize_any k W hk)
    obtain ⟨A2, c2, rfl, hl1, hl2, _⟩ := hl.form
    clear hB hown hby hl hn hu HBT
    have hgt : ¬ (B.length : Int) > 500 := by omega
    obtain ⟨K, hK⟩ : ∃ K, 8 + k % 40 = K := ⟨_, rfl⟩
    have hK8 : 8 ≤ K := by omega
    have hK2 : K ≤ 47 := by omega
    rw [hK] at HAD HSZ
    have HWT : Hid (wt (addedS K B l n).1 = sumW n (min l.length 120)) := Lib.hid (addedN_wt hK8 (by omega) _ (by omega))
    have HPL : Hid (l.length ≤ K → (∀ j, j < min l.length 120 → wtI n j = 1) → (addedS K B l n).2.1 = 0) := Lib.hid fun h1 h2 => by
      have := (addedN_plain (B := B) (l := l) (n := n) hK8 (by omega) (min l.length 120) (by omega) (by omega) h2).1
      unfold addedS
      rw [this]
    clear hK
    obtain ⟨s, hs⟩ : ∃ s, addedS K B l n = s := ⟨_, rfl⟩
    rw [hs] at HAD HWT HPL
    obtain ⟨L, led, a⟩ := s
    clear hs
    go_enter Try.func6, Try.ntmps6
    go_wp2_with fail
    refine (HAL.out).mono ?_
    rintro e w1 ⟨rfl, hb1⟩
    have HB1 := Lib.hid hb1
    have HAD1 := Lib.hid (HAD.out w1 hb1)
    clear hb1 HAL HAD
    go_wp2_with fail
    refine (HAD1.out).mono ?_
    rintro e w2 ⟨g, h, rfl, Ow, cg, r, dg, cv, ha⟩
    have HB2 : Hid (Below w.heap.size w w2) := Lib.hid (HB1.out.trans (ha.env.below.mono HB1.out.size))
    have HF : Hid (Fit K L led) := Lib.hid ha.fit
    have HKS : Hid (KAt (Ow 0) w2 g K L led) := Lib.hid ha.ks
    clear ha HAD1
    obtain ⟨lv, vs, hs⟩ := HKS.out
    have hlenL : L.length ≤ 49 := HF.out.ok.lenL
    have hkept : cnt L ≤ 3 * K + 2 * L.length := HF.out.kept (by omega)
    have XLV := Lib.hid (fun W (hb : Below w2.heap.size w2 W) => levels_any W (hs.keep hb) (by omega) (by omega))
    have XRO := Lib.hid (fun W (hb : Below w2.heap.size w2 W) j (hj : j ≤ 49) => room_any j W (hs.keep hb) (by omega) (by omega) (by omega) (by omega))
    have XTO := Lib.hid (fun W (hb : Below w2.heap.size w2 W) => total_any W (hs.keep hb))
    have XLE := Lib.hid (fun W (hb : Below w2.heap.size w2 W) => ledger_any W (hs.keep hb))
    have XKE := Lib.hid (fun W (hb : Below w2.heap.size w2 W) => kept_any W (hs.keep hb) (by omega) (by omega))
    have XSZ := Lib.hid (fun W (hb : Below w2.heap.size w2 W) => size_any W (hs.keep hb))
    have HFU := Lib.hid (fullN_none HF.out.none)
    have HRB := Lib.hid (fun j => room_le (k := K) (len := L.length) (h := j) (by omega))
    have HWT' : Hid (wt L = sumW n (min l.length 120)) := HWT
    have HPL' : Hid (l.length ≤ K → (∀ j, j < min l.length 120 → wtI n j = 1) → led = 0) := HPL
    rw [HWT'.out] at XTO
    clear hs HWT HPL
    go_wp2_with fail
    refine (HSZ.out w2).mono ?_
    rintro e w3 ⟨rfl, hw3⟩
    subst hw3
    go_upto_block 0 with fail
    go_cut [11, 12, 13] (fun t p _ wx => (∃ pl : Bool, t = .int .u64 ((sumW n (min l.length 120) : Nat) : Int) ∧ p = .bool pl ∧ Hid (pl = true → led = 0)) ∧ w2 = wx)
    case first =>
      go_wp2_with fail
      go_loopg [11, 12, 13] (min l.length 120) (fun q t p i wr => (∃ (j : Nat) (pl : Bool), q = min l.length 120 - j ∧ j ≤ min l.length 120 ∧ t = .int .u64 ((sumW n j : Nat) : Int) ∧ p = .bool pl ∧ i = .int .i64 (j : Int) ∧ Hid (pl = true → l.length ≤ K ∧ ∀ x, x < j → wtI n x = 1)) ∧ w2 = wr)
      case atStart => exact ⟨⟨0, decide (l.length ≤ K), by omega, by omega, rfl, rfl, rfl, Lib.hid fun h => ⟨by simpa using h, fun x hx => absurd hx (by omega)⟩⟩, rfl⟩
      case round =>
        obtain ⟨⟨j, pl, hq, hj, rfl, rfl, rfl, HP⟩, rfl⟩ := hrel
        have HQ := Lib.hid hq
        clear hq
        have hsw := sumW_le n j
        have HSS : Hid (sumW n (j + 1) = sumW n j + wtI n j) := Lib.hid rfl
        by_cases hjl : j < min l.length 120
        · have h1 : (j : Int) < (l.length : Int) := by omega
          have h2 : (j : Int) < 120 := by omega
          have hwb := wtI_bd n j
          have XW := Lib.hid (HWE.out w2 HB2.out j (by omega))
          obtain ⟨m, hm⟩ : ∃ m, wtI n j = m := ⟨_, rfl⟩
          obtain ⟨t, ht⟩ : ∃ t, sumW n j = t := ⟨_, rfl⟩
          rw [hm] at hwb XW HSS
          rw [ht] at hsw HSS ⊢
          have HME := Lib.hid hm
          clear hm ht
          cases pl with
          | true =>
            by_cases hm1 : m = 1
            · have HP2 : Hid (true = true → l.length ≤ K ∧ ∀ x, x < j + 1 → wtI n x = 1) := Lib.hid fun _ => ⟨(HP.out rfl).1, fun x hx => by
                rcases Nat.lt_or_ge x j with h3 | h3
                · exact (HP.out rfl).2 x h3
                · obtain rfl : x = j := by omega
                  rw [HME.out, hm1]⟩
              subst hm1
              go_wp2_with fail
              refine (XW.out).mono ?_
              rintro e w3 ⟨rfl, hw3⟩
              subst hw3
              go_wp2_with fail
              refine (XW.out).mono ?_
              rintro e w3 ⟨rfl, hw3⟩
              subst hw3
              go_wp2_with fail
              go_roundg (min l.length 120 - (j + 1))
              case measure => have := HQ.out; omega
              case rel => exact ⟨⟨j + 1, true, rfl, by omega, by rw [HSS.out]; go_num, rfl, by go_num, Lib.hid fun _ => HP2.out trivial⟩, rfl⟩
            · have hm2 : ¬ (m : Int) = 1 := by omega
              go_wp2_with fail
              refine (XW.out).mono ?_
              rintro e w3 ⟨rfl, hw3⟩
              subst hw3
              go_wp2_with fail
              refine (XW.out).mono ?_
              rintro e w3 ⟨rfl, hw3⟩
              subst hw3
              go_wp2_with fail
              go_roundg (min l.length 120 - (j + 1))
              case measure => have := HQ.out; omega
              case rel => exact ⟨⟨j + 1, _, rfl, by omega, by rw [HSS.out]; go_num, rfl, by go_num, Lib.hid fun h => absurd (eq_of_beq h) hm2⟩, rfl⟩
          | false =>
            go_wp2_with fail
            refine (XW.out).mono ?_
            rintro e w3 ⟨rfl, hw3⟩
            subst hw3
            go_wp2_with fail
            go_roundg (min l.length 120 - (j + 1))
            case measure => have := HQ.out; omega
            case rel => exact ⟨⟨j + 1, false, rfl, by omega, by rw [HSS.out]; go_num, rfl, by go_num, Lib.hid fun h => Bool.noConfusion h⟩, rfl⟩
        · have hje : j = min l.length 120 := by omega
          have HPE : Hid (pl = true → led = 0) := Lib.hid fun h => HPL'.out (HP.out h).1 (by rw [← hje]; exact (HP.out h).2)
          have HJE := Lib.hid hje
          clear hje
          by_cases h120 : j < l.length
          · have h1 : ¬ (j : Int) < 120 := by omega
            go_wp2_with fail
            go_meet
            exact ⟨⟨pl, by rw [HJE.out], rfl, HPE⟩, rfl⟩
          · have h1 : ¬ (j : Int) < (l.length : Int) := by omega
            go_wp2_with fail
            go_meet
            exact ⟨⟨pl, by rw [HJE.out], rfl, HPE⟩, rfl⟩
    case rest =>
      obtain ⟨⟨pl, rfl, rfl, HPE⟩, rfl⟩ := hcut
      have hsw := sumW_le n (min l.length 120)
      obtain ⟨t, ht⟩ : ∃ t, sumW n (min l.length 120) = t := ⟨_, rfl⟩
      rw [ht] at hsw XTO ⊢
      have htt : (t == t) = true := by simp
      obtain ⟨nk, hnk⟩ : ∃ nk, cnt L = nk := ⟨_, rfl⟩
      rw [hnk] at XKE hkept
      clear ht HPL' hnk HWE
      go_wp2_with fail
      refine (XLV.out w2 (Below.refl _ _)).mono ?_
      rintro e w3 ⟨v3', vs3, rfl, hlo3, hb3⟩
      obtain ⟨A6, c6, e6, _, _⟩ := hlo3.llr.form
      subst e6
      have HLO := Lib.hid hlo3.llr
      have HB3 := Lib.hid hb3
      clear hlo3 hb3
      go_wp2_with fail
      go_loopg [15] L.length (fun q i wr => ∃ (j d : Nat), q = L.length - j ∧ j ≤ L.length ∧ i = .int .i64 (j : Int) ∧ wr = w3.drewN d)
      case atStart => exact ⟨0, 0, by omega, by omega, rfl, rfl⟩
      case round =>
        obtain ⟨j, d, hq, hj, rfl, rfl⟩ := hrel
        have HQ := Lib.hid hq
        clear hq
        have HBD : Hid (Below w2.heap.size w2 (w3.drewN d)) := Lib.hid (below_drewN HB3.out _)
        by_cases hjl : j < L.length
        · obtain ⟨gl, off, sA, sc, eA, hgl, c2', _⟩ := HLO.out.at_ hjl
          subst eA
          have hfu := HFU.out j hjl
          have XR1 := Lib.hid (fun W hb => XRO.out W hb j (by omega))
          have hrb := HRB.out j
          obtain ⟨x, hx⟩ : ∃ x, (lvl L j).length = x := ⟨_, rfl⟩
          obtain ⟨rm, hrm⟩ : ∃ rm, room K L.length j = rm := ⟨_, rfl⟩
          rw [hx] at c2' hfu
          rw [hrm] at XR1 hfu hrb
          have C2 := Lib.hid c2'
          have hgt2 : ¬ (x : Int) > (rm : Int) := by omega
          clear hx hrm c2'
          go_upto_region 19 with fail
          refine wp_region_plan (fun w' => Below w3.heap.size w3 w') [(0, true), (1, true), (2, true), (3, true), (4, true), (5, true), (6, true), (7, false), (8, true)] (by kernel_rfl) (by kernel_rfl) ((below_drewN (Below.refl _ _) _).drew) ?_
          iterate 7
            refine wpPlan_read (by rfl) (by rfl) (fun R hR => ?_)
            apply Exists.intro
            refine ⟨fun w' hS' => ?_, ?_⟩
            · have k0 := (hS'.cell (p := ⟨gl, off + j, none⟩) hgl).trans C2.out
              go_simp
              exact ⟨rfl, rfl⟩
            go_simp
            refine hR _ ?_
            clear hR R
          refine wpPlan_do (by rfl) (by rfl) (fun K hK => ?_)
          go_simp
          refine (XR1.out _ HBD.out.drew).mono ?_
          rintro e w5 ⟨rfl, hw5⟩
          subst hw5
          refine hK _ _ ((below_drewN (Below.refl _ _) _).drew) ?_
          clear hK K
          iterate 1
            refine wpPlan_read (by rfl) (by rfl) (fun R hR => ?_)
            apply Exists.intro
            refine ⟨fun w' hS' => ?_, ?_⟩
            · have k0 := (hS'.cell (p := ⟨gl, off + j, none⟩) hgl).trans C2.out
              go_simp
              exact ⟨rfl, rfl⟩
            go_simp
            refine hR _ ?_
            clear hR R
          refine wpPlan_nil ?_
          go_wp2_with fail
          go_roundg (L.length - (j + 1))
          case measure => have := HQ.out; omega
          case rel => exact ⟨j + 1, d + 1, rfl, by omega, by go_num, by first | rfl | exact drewN_add _ _ _⟩
        · obtain rfl : j = L.length := by omega
          have hkp : ¬ (3 * (K : Int) + 2 * (L.length : Int) < (nk : Int)) := by omega
          cases pl with
          | false =>
            go_wp2_with fail
            refine (XTO.out _ HBD.out).mono ?_
            rintro e w5 ⟨rfl, hw5⟩
            subst hw5
            go_wp2_with fail
            refine (XKE.out _ HBD.out).mono ?_
            rintro e w5 ⟨rfl, hw5⟩
            subst hw5
            go_wp2_with fail
            refine (XSZ.out _ HBD.out).mono ?_
            rintro e w5 ⟨rfl, hw5⟩
            subst hw5
            go_wp2_with fail
            refine bodyPost_ret (by simp [results, Try.results6, go_sem, *]; try rfl) rfl ?_
            exact ⟨rfl, HB2.out.trans (HBD.out.mono HB2.out.size)⟩
          | true =>
            have hl0 := HPE.out rfl
            subst hl0
            go_wp2_with fail
            refine (XTO.out _ HBD.out).mono ?_
            rintro e w5 ⟨rfl, hw5⟩
            subst hw5
            go_wp2_with fail
            refine (XKE.out _ HBD.out).mono ?_
            rintro e w5 ⟨rfl, hw5⟩
            subst hw5
            go_wp2_with fail
            refine (XSZ.out _ HBD.out).mono ?_
            rintro e w5 ⟨rfl, hw5⟩
            subst hw5
            go_wp2_with fail
            refine (XLE.out _ HBD.out).mono ?_
            rintro e w5 ⟨rfl, hw5⟩
            subst hw5
            go_wp2_with fail
            refine bodyPost_ret (by simp [results, Try.results6, go_sem, *]; try rfl) rfl ?_
            exact ⟨rfl, HB2.out.trans (HBD.out.mono HB2.out.size)⟩
  · have hgt : (B.length : Int) > 500 := by omega
    clear hB hown hby hl hn hu
    go_enter Try.func6, Try.ntmps6
    go_wp2_with fail
    refine (HAL.out).mono ?_
    rintro e w1 ⟨rfl, hb1⟩
    go_wp2_with fail
    refine bodyPost_ret (by simp [results, Try.results6, go_sem, *]; try rfl) rfl ?_
    exact ⟨rfl, hb1⟩
end Go.Proofs.Ytigmncogjbbmhaa
