/- KllAgain, walked. Conditions: bytes are bytes; acts fit. -/
import Derived.Test.YtigmncogjbbmhaaKmI
import Derived.Test.YtigmncogjbbmhaaKmF
namespace Go.Proofs.Ytigmncogjbbmhaa
open Go.RowKit

theorem fit_right {K led : Nat} {L : LL} (h : Fit K L led) (h8 : 8 ≤ K) (hk : K ≤ 4096) (he : L.length = 0 → led = 0) : RightP K L led :=
  ⟨by omega, by omega, h.ok.lenL, h.ok.led, he, h.ok.top, fun j hj => by rw [Int.toNat_natCast]; exact ⟨fullN_none h.none j hj, h.ok.srt j⟩, h.ok.wtL⟩
theorem sumW_ge (n : List Int) : ∀ i, i ≤ sumW n i
  | 0 => Nat.le_refl _
  | i + 1 => by
    have := sumW_ge n i
    have := wtI_bd n i
    rw [sumW]; omega
theorem wt_nil {L : LL} (h : L.length = 0) : wt L = 0 := by rw [List.eq_nil_of_length_eq_zero h]; rfl
theorem added_emp {K : Nat} {B l n : List Int} (h8 : 8 ≤ K) (hk : K ≤ 4096) (h : (addedS K B l n).1.length = 0) : (addedS K B l n).2.1 = 0 := by
  have h1 := addedN_wt (K := K) (B := B) (l := l) (n := n) h8 hk (min l.length 120) (by omega)
  have h2 := wt_nil h
  have h3 := sumW_ge n (min l.length 120)
  unfold addedS at h2 ⊢
  have h4 : min l.length 120 = 0 := by omega
  rw [h4]; rfl
/-- Two stacks and what belongs to an argument. -/
theorem env_two {w w' : World} {v : Value} {F0 F1 : Nat → Prop} (hb : Below w.heap.size w w') (n0 : ∀ x, F0 x → w.heap.size ≤ x) (n1 : ∀ x, F1 x → w.heap.size ≤ x) (l0 : ∀ x, F0 x → x < w'.heap.size) (l1 : ∀ x, F1 x → x < w'.heap.size) (hd : ∀ x, F0 x → ¬ F1 x) :
    Env w w' (fun c x => (c = 9 ∧ v.ownBlock = some x ∧ x < w.heap.size) ∨ (c = 0 ∧ F0 x) ∨ (c = 1 ∧ F1 x)) := by
  refine ⟨hb, fun c d x h1 h2 => ?_, fun c x h => ?_, fun c x h9 h => ?_⟩
  · rcases h1 with ⟨e1, _, h1⟩ | ⟨e1, h1⟩ | ⟨e1, h1⟩ <;> rcases h2 with ⟨e2, _, h2⟩ | ⟨e2, h2⟩ | ⟨e2, h2⟩ <;>
    first
      | omega
      | (exfalso; have := n0 x h1; omega)
      | (exfalso; have := n0 x h2; omega)
      | (exfalso; have := n1 x h1; omega)
      | (exfalso; have := n1 x h2; omega)
      | exact absurd h2 (hd x h1)
      | exact absurd h1 (hd x h2)
  · have := hb.size
    rcases h with ⟨_, _, h⟩ | ⟨_, h⟩ | ⟨_, h⟩
    · omega
    · exact l0 x h
    · exact l1 x h
  · rcases h with ⟨e, _, h⟩ | ⟨_, h⟩ | ⟨_, h⟩
    · exact absurd e h9
    · exact n0 x h
    · exact n1 x h
/-- A stack after the first j of some acts, all adds. -/
def againN (K : Nat) (B : List Int) (m : List Act4) (s : KS) : Nat → KS
  | 0 => s
  | j + 1 => addS K B (m.getD j default).v (m.getD j default).n.toNat (againN K B m s j)
theorem KAt.low {F : Nat → Prop} {w : World} {g k led : Nat} {L : LL} (h : KAt F w g k L led) : ∀ x, F x → x < w.heap.size := by
  obtain ⟨lv, vs, h⟩ := h
  exact h.low
theorem RAt.low {F : Nat → Prop} {w : World} {g k led : Nat} {L : LL} (h : RAt F w g k L led) : ∀ x, F x → x < w.heap.size := by
  obtain ⟨lv, vs, h⟩ := h
  exact h.low
set_option maxRecDepth 100000 in
set_option maxHeartbeats 16000000 in
theorem again_any (k : Nat) (v1 v2 v3 v4 : Value) (B l n : List Int) (m : List Act4) (w : World) (hk : k ≤ 65535) (hB : RdE u8E w v1 B) (hby : ∀ x ∈ B, 0 ≤ x ∧ x ≤ 255) (hown : ∀ x, v1.ownBlock = some x → x < w.heap.size) (hl : RdE i64E w v2 l) (hn : RdE u16E w v3 n) (hu : U16s n) (hm : RdO w v4 m) (hmf : ∀ o ∈ m, o.fits) :
    Calls Try.prog 10 #[.int .u16 k, v1, v2, v3, v4] w fun e w' => e = .returned (.bool true) ∧ Below w.heap.size w w' := by
  have HAL := Lib.hid (alive_any w)
  obtain ⟨A1, c1, rfl, hB1, hB2, _⟩ := hB.form
  by_cases hlen : B.length ≤ 500
  · have HBT : Hid (Byt B) := Lib.hid ⟨by omega, hby⟩
    have HAD := Lib.hid (fun W (hb : Below w.heap.size w W) => added_any k (.slice A1 B.length c1) v2 v3 B l n W hk (hB.keep hb) HBT.out (fun x e => Nat.lt_of_lt_of_le (hown x e) hb.size) (hl.keep hb) (hn.keep hb) hu)
    have HSZ := Lib.hid (fun W => lsize_any k W hk)
    obtain ⟨A4, c4, rfl, hm1, hm2, hf⟩ := hm
    have HM := Lib.hid hf
    have HMF := Lib.hid hmf
    have HB := Lib.hid hB
    have HOW := Lib.hid hown
    clear hB hown hby hl hn hu hf hmf
    have hgt : ¬ (B.length : Int) > 500 := by omega
    obtain ⟨K, hK⟩ : ∃ K, 8 + k % 40 = K := ⟨_, rfl⟩
    have hK8 : 8 ≤ K := by omega
    have hK2 : K ≤ 47 := by omega
    rw [hK] at HAD HSZ
    have HEM := Lib.hid (added_emp (K := K) (B := B) (l := l) (n := n) hK8 (by omega))
    clear hK
    obtain ⟨s, hs⟩ : ∃ s, addedS K B l n = s := ⟨_, rfl⟩
    rw [hs] at HAD HEM
    obtain ⟨L, led, a⟩ := s
    have HEM' : Hid (L.length = 0 → led = 0) := HEM
    clear hs HEM
    go_enter Try.func10, Try.ntmps10
    go_wp2_with fail
    refine (HAL.out).mono ?_
    rintro e w1 ⟨rfl, hb1⟩
    have HB1 := Lib.hid hb1
    have HAD1 := Lib.hid (HAD.out w1 hb1)
    clear hb1 HAL HAD
    go_wp2_with fail
    refine (HAD1.out).mono ?_
    rintro e w2 ⟨g, h, rfl, Ow, cg0, r0, dg0, cv0, ha⟩
    have HB2 : Hid (Below w.heap.size w w2) := Lib.hid (HB1.out.trans (ha.env.below.mono HB1.out.size))
    have HF : Hid (Fit K L led) := Lib.hid ha.fit
    have HKS : Hid (KAt (Ow 0) w2 g K L led) := Lib.hid ha.ks
    have HRS : Hid (RAt (Ow 1) w2 h K L led) := Lib.hid ha.rs
    have HNW : Hid (∀ x, Ow 1 x → w.heap.size ≤ x) := Lib.hid fun x hx => Nat.le_trans HB1.out.size (ha.env.new 1 x (by decide) hx)
    have HRP : Hid (RightP K L led) := Lib.hid (fit_right ha.fit hK8 (by omega) HEM'.out)
    clear ha HAD1 HEM'
    obtain ⟨lv, vs, hs⟩ := HKS.out
    have hlenL : L.length ≤ 49 := HF.out.ok.lenL
    have hcnt : cnt L ≤ 200704 := HF.out.cnt (by omega) (by omega)
    have XLV := Lib.hid (levels_any w2 hs (by omega) (by omega))
    have XLE := Lib.hid (fun W (hb : Below w2.heap.size w2 W) => ledger_any W (hs.keep hb))
    clear hs
    go_wp2_with fail
    refine (HSZ.out w2).mono ?_
    rintro e w3 ⟨rfl, hw3⟩
    subst hw3
    go_wp2_with fail
    refine (XLV.out).mono ?_
    rintro e w3 ⟨v5, vs5, rfl, hlo, hb3⟩
    obtain ⟨A5, c5, e5, _, _⟩ := hlo.llr.form
    subst e5
    have HLO := Lib.hid hlo.llr
    have HB23 := Lib.hid hb3
    clear hlo hb3
    go_wp2_with fail
    refine (XLE.out w3 HB23.out).mono ?_
    rintro e w4 ⟨rfl, hw4⟩
    subst hw4
    have hled : led ≤ 4611686018427387904 := HF.out.ok.led
    have HLD := Lib.hid (load_any K _ L led w3 HLO.out (by omega) (by omega) (by omega) (fun j => by have := lvl_le_cnt L j; omega))
    go_wp2_with fail
    refine (HLD.out).mono ?_
    rintro e w4 ⟨hor, hb4⟩
    rcases hor with ⟨gt, rfl, _, Ft, hkt, hnt⟩ | ⟨_, hno⟩
    case inr => exact absurd HRP.out hno
    rw [Int.toNat_natCast] at hkt
    have HKT := Lib.hid hkt
    have HNT := Lib.hid hnt
    have HB34 := Lib.hid hb4
    have HB24 : Hid (Below w2.heap.size w2 w4) := Lib.hid (HB23.out.trans (hb4.mono HB23.out.size))
    have HR4 : Hid (RAt (Ow 1) w4 h K L led) := Lib.hid (HRS.out.keep HB24.out)
    have HB4 : Hid (Below w.heap.size w w4) := Lib.hid (HB2.out.trans (HB24.out.mono HB2.out.size))
    have he := env_two (v := .slice A1 B.length c1) HB4.out (fun x hx => by have := HNT.out x hx; have := HB2.out.size; have := HB23.out.size; omega) HNW.out HKT.out.low HR4.out.low (fun x h1 h2 => by have := HNT.out x h1; have := HRS.out.low x h2; have := HB23.out.size; omega)
    have HE := Lib.hid he
    clear hkt hnt hb4 he HLD XLV XLE
    go_wp2_with fail
    refine (knew_any (.slice A1 B.length c1) B w4 (HB.out.keep HB4.out) HBT.out).mono ?_
    rintro e w5 ⟨cg, r, cv, rfl, hcg, hr, hkc, hcv, hb5⟩
    obtain ⟨Ow4, he4, hco4, hsame⟩ := coins_env HE.out (dv := .slice A1 B.length c1) (fun x e => .inl ⟨rfl, e, HOW.out x e⟩) HBT.out (HB.out.keep HB4.out) hkc hcg hr hcv hb5
    have hb6 : Below w4.heap.size w4 (w5.alloc (.cells #[.slice A1 B.length c1, .int .i64 0] 44)) := hb5.trans (((Below.refl _ _).alloc (Nat.le_refl _) _).mono hb5.size)
    have hk6 : KAt (Ow4 0) (w5.alloc (.cells #[.slice A1 B.length c1, .int .i64 0] 44)) gt K L led := by
      have e0 : Ow4 0 = Ft := by rw [hsame 0 (.inl (by decide))]; funext x; simp
      rw [e0]; exact HKT.out.keep hb6
    have hr6 : RAt (Ow4 1) (w5.alloc (.cells #[.slice A1 B.length c1, .int .i64 0] 44)) h K L led := by
      have e0 : Ow4 1 = Ow 1 := by rw [hsame 1 (.inl (by decide))]; funext x; simp
      rw [e0]; exact HR4.out.keep hb6
    have HA0 : Hid (AddedAt w (w5.alloc (.cells #[.slice A1 B.length c1, .int .i64 0] 44)) K B (againN K B m (L, led, 0) 0) gt h Ow4 cg r w5.heap.size cv (.slice A1 B.length c1)) := Lib.hid ⟨he4, hco4, hk6, hr6, HF.out⟩
    clear he4 hco4 hsame hb6 hk6 hr6 hkc hcg hr hcv hb5 HE HKT HNT HR4 HB34 HB24 HRS HKS HNW HRP
    go_upto_region 12 with fail
    obtain ⟨w6, hw6⟩ : ∃ x, w5.alloc (.cells #[.slice A1 B.length c1, .int .i64 0] 44) = x := ⟨_, rfl⟩
    rw [hw6] at HA0 ⊢
    obtain ⟨dg, hdg⟩ : ∃ dg, w5.heap.size = dg := ⟨_, rfl⟩
    rw [hdg] at HA0 ⊢
    clear hw6 hdg
    go_wp2_with fail
    go_loopg [17] (min m.length 30) (fun q i wr => ∃ (j : Nat) (Ow : Nat → Nat → Prop), q = min m.length 30 - j ∧ j ≤ min m.length 30 ∧ i = .int .i64 (j : Int) ∧ Hid (AddedAt w wr K B (againN K B m (L, led, 0) j) gt h Ow cg r dg cv (.slice A1 B.length c1)))
    case atStart => exact ⟨0, Ow4, by omega, by omega, rfl, HA0⟩
    case round =>
      obtain ⟨j, Ow5, hq, hj, rfl, HA⟩ := hrel
      have HQ := Lib.hid hq
      clear hq
      by_cases hjl : j < min m.length 30
      · have hjl2 : j < m.length := by omega
        have hjl3 : (j : Int) < 30 := by omega
        have hjl4 : (j : Int) < (m.length : Int) := by omega
        obtain ⟨ga, oa, eA, hga, hcc⟩ := HM.out (by omega)
        subst eA
        obtain ⟨_, _, q2, q3⟩ := hcc j hjl2
        have hfit := HMF.out m[j] (List.getElem_mem hjl2)
        have HNX : Hid (againN K B m (L, led, 0) (j + 1) = addS K B m[j].v m[j].n.toNat (againN K B m (L, led, 0) j)) := Lib.hid (by rw [againN, List.getD, List.getElem?_eq_getElem hjl2]; rfl)
        obtain ⟨o, hoe⟩ : ∃ o, m[j] = o := ⟨_, rfl⟩
        rw [hoe] at q2 q3 hfit HNX
        obtain ⟨kd, who, x, z⟩ := o
        obtain ⟨_, _, x0, x1, z0, z1⟩ := hfit
        simp only at q2 q3 HNX x0 x1 z0 z1
        obtain ⟨z, rfl⟩ : ∃ z' : Nat, z = z' := ⟨z.toNat, by omega⟩
        rw [Int.toNat_natCast] at HNX
        obtain ⟨s, hs⟩ : ∃ s, againN K B m (L, led, 0) j = s := ⟨_, rfl⟩
        rw [hs] at HNX HA
        obtain ⟨L1, led1, a1⟩ := s
        have F1 : Hid (Fit K L1 led1) := Lib.hid HA.out.fit
        have Q2 := Lib.hid q2
        have Q3 := Lib.hid q3
        have HE := Lib.hid HA.out.env
        obtain ⟨code, hcode⟩ : ∃ code, addE L1 z = code := ⟨_, rfl⟩
        have HCD := Lib.hid hcode
        have hcc2 : (code == code) = true := by simp
        clear hoe hs q2 q3 hcc hcode
        go_upto_region 15 with fail
        refine wp_region_plan (fun w' => Below w.heap.size w w') [(0, true), (1, true), (2, true), (3, true), (4, true), (5, true), (6, true), (7, true), (8, true), (9, true), (10, true), (11, true), (13, true), (14, true), (15, true), (16, true), (17, true), (18, true), (19, true), (20, true), (21, true), (22, true), (23, true), (24, true), (12, false), (25, false), (26, true), (27, true), (28, true), (29, true), (30, false), (31, true), (32, true)] (by kernel_rfl) (by kernel_rfl) (HE.out.below.drew) ?_
        iterate 24
          refine wpPlan_read (by rfl) (by rfl) (fun R hR => ?_)
          apply Exists.intro
          refine ⟨fun w' hS' => ?_, ?_⟩
          · have k0 := (hS'.cell (p := ⟨ga, oa + j * 4 + 2, none⟩) hga).trans Q2.out
            have k1 := (hS'.cell (p := ⟨ga, oa + j * 4 + 3, none⟩) hga).trans Q3.out
            go_simp
            exact ⟨rfl, rfl⟩
          go_simp
          refine hR _ ?_
          clear hR R
        refine wpPlan_do (by rfl) (by rfl) (fun K hK => ?_)
        go_simp
        refine (kadd_env (c := 0) x z (HE.out.keep (Below.refl _ _).drew) (HA.out.co.keep HE.out (Below.refl _ _).drew) (by omega) (HA.out.ks.keep (Below.refl _ _).drew) F1.out hK8 (by omega) (by omega)).mono ?_
        rintro e w7 ⟨rfl, Ow7, he7, hco7, hk7, ht7⟩
        rw [HCD.out]
        have HE7 := Lib.hid he7
        have HC7 := Lib.hid hco7
        have HK7 := Lib.hid hk7
        have HT7 := Lib.hid ht7
        clear he7 hco7 hk7 ht7
        refine hK _ _ (HE7.out.below) ?_
        clear hK K
        refine wpPlan_do (by rfl) (by rfl) (fun K hK => ?_)
        go_simp
        refine (radd_env (c := 1) x z HE7.out HC7.out (by omega) ((HA.out.rs.keep (Below.refl _ _).drew).turned HT7.out (by decide) (by decide)) F1.out hK8 (by omega) (by omega)).mono ?_
        rintro e w8 ⟨rfl, Ow8, he8, hco8, hr8, ht8⟩
        rw [HCD.out]
        have HE8 := Lib.hid he8
        have HC8 := Lib.hid hco8
        have HR8 := Lib.hid hr8
        have HT8 := Lib.hid ht8
        clear he8 hco8 hr8 ht8
        refine hK _ _ (HE8.out.below) ?_
        clear hK K
        iterate 4
          refine wpPlan_read (by rfl) (by rfl) (fun R hR => ?_)
          apply Exists.intro
          refine ⟨fun w' hS' => ?_, ?_⟩
          · have k0 := (hS'.cell (p := ⟨ga, oa + j * 4 + 2, none⟩) hga).trans Q2.out
            have k1 := (hS'.cell (p := ⟨ga, oa + j * 4 + 3, none⟩) hga).trans Q3.out
            go_simp
            exact ⟨rfl, rfl⟩
          go_simp
          refine hR _ ?_
          clear hR R
        refine wpPlan_do (by rfl) (by rfl) (fun K hK => ?_)
        go_simp
        refine (same_any w8 (HK7.out.turned HT8.out (by decide) (by decide)) HR8.out (addS_fit F1.out (by omega) (by omega)) hK8 (by omega)).mono ?_
        rintro e w9 ⟨rfl, hb9⟩
        have HB9 := Lib.hid hb9
        clear hb9
        refine hK _ _ ((HE8.out.keep HB9.out).below) ?_
        clear hK K
        iterate 2
          refine wpPlan_read (by rfl) (by rfl) (fun R hR => ?_)
          apply Exists.intro
          refine ⟨fun w' hS' => ?_, ?_⟩
          · have k0 := (hS'.cell (p := ⟨ga, oa + j * 4 + 2, none⟩) hga).trans Q2.out
            have k1 := (hS'.cell (p := ⟨ga, oa + j * 4 + 3, none⟩) hga).trans Q3.out
            go_simp
            exact ⟨rfl, rfl⟩
          go_simp
          refine hR _ ?_
          clear hR R
        refine wpPlan_nil ?_
        have HNA : Hid (AddedAt w w9 K B (againN K B m (L, led, 0) (j + 1)) gt h Ow8 cg r dg cv (.slice A1 B.length c1)) := Lib.hid (by
          rw [HNX.out]
          exact ⟨HE8.out.keep HB9.out, HC8.out.keep HE8.out HB9.out, (HK7.out.turned HT8.out (by decide) (by decide)).keep HB9.out, HR8.out.keep HB9.out, addS_fit F1.out (by omega) (by omega)⟩)
        go_wp2_with fail
        go_roundg (min m.length 30 - (j + 1))
        case measure => have := HQ.out; omega
        case rel => exact ⟨j + 1, Ow8, rfl, by omega, by go_num, HNA⟩
      · by_cases h30 : j < m.length
        · have h1 : ¬ (j : Int) < 30 := by omega
          go_wp2_with fail
          refine bodyPost_ret (by simp [results, Try.results10, go_sem, *]; try rfl) rfl ?_
          exact ⟨rfl, HA.out.env.below⟩
        · have h1 : ¬ (j : Int) < (m.length : Int) := by omega
          go_wp2_with fail
          refine bodyPost_ret (by simp [results, Try.results10, go_sem, *]; try rfl) rfl ?_
          exact ⟨rfl, HA.out.env.below⟩
  · have hgt : (B.length : Int) > 500 := by omega
    clear hB hown hby hl hn hu hm hmf
    go_enter Try.func10, Try.ntmps10
    go_wp2_with fail
    refine (HAL.out).mono ?_
    rintro e w1 ⟨rfl, hb1⟩
    go_wp2_with fail
    refine bodyPost_ret (by simp [results, Try.results10, go_sem, *]; try rfl) rfl ?_
    exact ⟨rfl, hb1⟩
end Go.Proofs.Ytigmncogjbbmhaa
