/- KllwireAgain: a stack that was written and read goes on as it did, with the same coins. No condition. -/
import Derived.Test.YtigmncogjbbmhaaRows
import Derived.Test.YtigmncogjbbmhaaWmW
namespace Go.Proofs.Ytigmncogjbbmhaa
section
open Go.RowKit Go.Lib
set_option maxRecDepth 100000 in
set_option maxHeartbeats 16000000 in
theorem kagain_any (k : Nat) (v1 v2 v3 v4 : Value) (B l n : List Int) (m : List Act4) (w : World) (hk : k ≤ 65535) (hB : RdE u8E w v1 B) (hby : ∀ x ∈ B, 0 ≤ x ∧ x ≤ 255) (hown : ∀ x, v1.ownBlock = some x → x < w.heap.size) (hl : RdE i64E w v2 l) (hn : RdE u16E w v3 n) (hu : U16s n) (hm : RdO w v4 m) (hmf : ∀ o ∈ m, o.fits)
    (hbl : ∀ x ∈ l, -9223372036854775808 ≤ x ∧ x ≤ 9223372036854775807) :
    Calls Try.prog 13 #[.int .u16 k, v1, v2, v3, v4] w fun e w' => e = .returned (.bool true) ∧ Below w.heap.size w w' := by
  have HAL := Lib.hid (alive25_any w)
  obtain ⟨A1, c1, rfl, hB1, hB2, _⟩ := hB.form
  by_cases hlen : B.length ≤ 500
  · have HBT : Hid (Byt B) := Lib.hid ⟨by omega, hby⟩
    have HAD := Lib.hid (fun W (hb : Below w.heap.size w W) => added25_any k (.slice A1 B.length c1) v2 v3 B l n W hk (hB.keep hb) HBT.out (fun x e => Nat.lt_of_lt_of_le (hown x e) hb.size) (hl.keep hb) (hn.keep hb) hu)
    obtain ⟨A4, c4, rfl, hm1, hm2, hf⟩ := hm
    have HM := Lib.hid hf
    have HMF := Lib.hid hmf
    have HB := Lib.hid hB
    have HOW := Lib.hid hown
    clear hB hown hby hl hn hu hf hmf
    have hgt : ¬ (B.length : Int) > 500 := by omega
    obtain ⟨K, hK⟩ : ∃ K, 8 + k % 40 = K := ⟨_, rfl⟩
    have hK8 : 8 ≤ K := by omega
    have hK2 : K ≤ 47 := by omega
    rw [hK] at HAD
    have HRT := Lib.hid (fun L led a h => added_right (K := K) (B := B) (l := l) (n := n) (L := L) (led := led) (a := a) hK8 (by omega) h hbl)
    clear hK hbl
    obtain ⟨s, hs⟩ : ∃ s, addedS K B l n = s := ⟨_, rfl⟩
    rw [hs] at HAD
    obtain ⟨L, led, a⟩ := s
    obtain ⟨hrt, hbd⟩ := HRT.out L led a hs
    have HRP := Lib.hid hrt
    have HBD := Lib.hid hbd
    clear hs HRT hrt hbd
    go_enter Try.func13, Try.ntmps13
    go_wp2_with fail
    refine (HAL.out).mono ?_
    rintro e w1 ⟨rfl, hb1⟩
    have HB1 := Lib.hid hb1
    have HAD1 := Lib.hid (HAD.out w1 hb1)
    clear hb1 HAL HAD
    go_wp2_with fail
    refine (HAD1.out).mono ?_
    rintro e w2 ⟨g, h, rfl, Ow, cg0, r0, dg0, cv0, ha⟩
    have HB2 : Hid (Below w.heap.size w w2) := Lib.hid (HB1.out.trans (ha.env.below.mono HB1.out.size))
    have HF : Hid (Fit K L led) := Lib.hid ha.fit
    have HKS : Hid (KAt (Ow 0) w2 g K L led) := Lib.hid ha.ks
    have HRS : Hid (RAt (Ow 1) w2 h K L led) := Lib.hid ha.rs
    have HNW : Hid (∀ x, Ow 1 x → w.heap.size ≤ x) := Lib.hid fun x hx => Nat.le_trans HB1.out.size (ha.env.new 1 x (by decide) hx)
    clear ha HAD1
    obtain ⟨lv, vs, hs⟩ := HKS.out
    have XW := Lib.hid (kwrite_any w2 hs HF.out.ok HBD.out (by omega))
    clear hs
    go_wp2_with fail
    refine (XW.out).mono ?_
    rintro e w3 ⟨va, rfl, oa, hb3⟩
    have HB23 := Lib.hid hb3
    have XR := Lib.hid (kread_own _ w3 (OwnI.rd oa) HRP.out HBD.out)
    clear oa hb3 XW
    go_wp2_with fail
    refine (XR.out).mono ?_
    rintro e w4 ⟨gt, Ft, rfl, hkt, hnt, hb4⟩
    have HKT := Lib.hid hkt
    have HNT := Lib.hid hnt
    have HB34 := Lib.hid hb4
    have HB24 : Hid (Below w2.heap.size w2 w4) := Lib.hid (HB23.out.trans (hb4.mono HB23.out.size))
    have HR4 : Hid (RAt (Ow 1) w4 h K L led) := Lib.hid (HRS.out.keep HB24.out)
    have HB4 : Hid (Below w.heap.size w w4) := Lib.hid (HB2.out.trans (HB24.out.mono HB2.out.size))
    have he := env_two (v := .slice A1 B.length c1) HB4.out (fun x hx => by have := HNT.out x hx; have := HB2.out.size; have := HB23.out.size; omega) HNW.out HKT.out.low HR4.out.low (fun x h1 h2 => by have := HNT.out x h1; have := HRS.out.low x h2; have := HB23.out.size; omega)
    have HE := Lib.hid he
    clear hkt hnt hb4 he XR
    go_wp2_with fail
    refine (knew_any (.slice A1 B.length c1) B w4 (HB.out.keep HB4.out) HBT.out).mono ?_
    rintro e w5 ⟨cg, r, cv, rfl, hcg, hr, hkc, hcv, hb5⟩
    obtain ⟨Ow4, he4, hco4, hsame⟩ := coins_env HE.out (dv := .slice A1 B.length c1) (fun x e => .inl ⟨rfl, e, HOW.out x e⟩) HBT.out (HB.out.keep HB4.out) hkc hcg hr hcv hb5
    have hb6 : Below w4.heap.size w4 (w5.alloc (.cells #[.slice A1 B.length c1, .int .i64 0] 44)) := hb5.trans (((Below.refl _ _).alloc (Nat.le_refl _) _).mono hb5.size)
    have hk6 : KAt (Ow4 0) (w5.alloc (.cells #[.slice A1 B.length c1, .int .i64 0] 44)) gt K L led := by
      have e0 : Ow4 0 = Ft := by rw [hsame 0 (.inl (by decide))]; funext x; simp
      rw [e0]; exact HKT.out.keep hb6
    have hr6 : RAt (Ow4 1) (w5.alloc (.cells #[.slice A1 B.length c1, .int .i64 0] 44)) h K L led := by
      have e0 : Ow4 1 = Ow 1 := by rw [hsame 1 (.inl (by decide))]; funext x; simp
      rw [e0]; exact HR4.out.keep hb6
    have HA0 : Hid (AddedAt w (w5.alloc (.cells #[.slice A1 B.length c1, .int .i64 0] 44)) K B (againN K B m (L, led, 0) 0) gt h Ow4 cg r w5.heap.size cv (.slice A1 B.length c1)) := Lib.hid ⟨he4, hco4, hk6, hr6, HF.out⟩
    clear he4 hco4 hsame hb6 hk6 hr6 hkc hcg hr hcv hb5 HE HKT HNT HR4 HB34 HB24 HRS HKS HNW HRP
    go_upto_region 13 with fail
    obtain ⟨w6, hw6⟩ : ∃ x, w5.alloc (.cells #[.slice A1 B.length c1, .int .i64 0] 44) = x := ⟨_, rfl⟩
    rw [hw6] at HA0 ⊢
    obtain ⟨dg, hdg⟩ : ∃ dg, w5.heap.size = dg := ⟨_, rfl⟩
    rw [hdg] at HA0 ⊢
    clear hw6 hdg
    go_wp2_with fail
    go_loopg [19] (min m.length 30) (fun q i wr => ∃ (j : Nat) (Ow : Nat → Nat → Prop), q = min m.length 30 - j ∧ j ≤ min m.length 30 ∧ i = .int .i64 (j : Int) ∧ Hid (AddedAt w wr K B (againN K B m (L, led, 0) j) gt h Ow cg r dg cv (.slice A1 B.length c1)))
    case atStart => exact ⟨0, Ow4, by omega, by omega, rfl, HA0⟩
    case round =>
      obtain ⟨j, Ow5, hq, hj, rfl, HA⟩ := hrel
      have HQ := Lib.hid hq
      clear hq
      by_cases hjl : j < min m.length 30
      · have hjl2 : j < m.length := by omega
        have hjl3 : (j : Int) < 30 := by omega
        have hjl4 : (j : Int) < (m.length : Int) := by omega
        obtain ⟨ga, oa, eA, hga, hcc⟩ := HM.out (by omega)
        subst eA
        obtain ⟨_, _, q2, q3⟩ := hcc j hjl2
        have hfit := HMF.out m[j] (List.getElem_mem hjl2)
        have HNX : Hid (againN K B m (L, led, 0) (j + 1) = addS K B m[j].v m[j].n.toNat (againN K B m (L, led, 0) j)) := Lib.hid (by rw [againN, List.getD, List.getElem?_eq_getElem hjl2]; rfl)
        obtain ⟨o, hoe⟩ : ∃ o, m[j] = o := ⟨_, rfl⟩
        rw [hoe] at q2 q3 hfit HNX
        obtain ⟨kd, who, x, z⟩ := o
        obtain ⟨_, _, x0, x1, z0, z1⟩ := hfit
        simp only at q2 q3 HNX x0 x1 z0 z1
        obtain ⟨z, rfl⟩ : ∃ z' : Nat, z = z' := ⟨z.toNat, by omega⟩
        rw [Int.toNat_natCast] at HNX
        obtain ⟨s, hs⟩ : ∃ s, againN K B m (L, led, 0) j = s := ⟨_, rfl⟩
        rw [hs] at HNX HA
        obtain ⟨L1, led1, a1⟩ := s
        have F1 : Hid (Fit K L1 led1) := Lib.hid HA.out.fit
        have Q2 := Lib.hid q2
        have Q3 := Lib.hid q3
        have HE := Lib.hid HA.out.env
        obtain ⟨code, hcode⟩ : ∃ code, addE L1 z = code := ⟨_, rfl⟩
        have HCD := Lib.hid hcode
        have hcc2 : (code == code) = true := by simp
        clear hoe hs q2 q3 hcc hcode
        go_upto_region 16 with fail
        refine wp_region_plan (fun w' => Below w.heap.size w w') [(0, true), (1, true), (2, true), (3, true), (4, true), (5, true), (6, true), (7, true), (8, true), (9, true), (10, true), (11, true), (13, true), (14, true), (15, true), (16, true), (17, true), (18, true), (19, true), (20, true), (21, true), (22, true), (23, true), (24, true), (12, false), (25, false), (26, true), (27, true), (28, true), (29, true), (30, false), (31, true), (32, true)] (by kernel_rfl) (by kernel_rfl) (HE.out.below.drew) ?_
        iterate 24
          refine wpPlan_read (by rfl) (by rfl) (fun R hR => ?_)
          apply Exists.intro
          refine ⟨fun w' hS' => ?_, ?_⟩
          · have k0 := (hS'.cell (p := ⟨ga, oa + j * 4 + 2, none⟩) hga).trans Q2.out
            have k1 := (hS'.cell (p := ⟨ga, oa + j * 4 + 3, none⟩) hga).trans Q3.out
            go_simp
            exact ⟨rfl, rfl⟩
          go_simp
          refine hR _ ?_
          clear hR R
        refine wpPlan_do (by rfl) (by rfl) (fun K hK => ?_)
        go_simp
        refine (kadd_env (c := 0) x z (HE.out.keep (Below.refl _ _).drew) (HA.out.co.keep HE.out (Below.refl _ _).drew) (by omega) (HA.out.ks.keep (Below.refl _ _).drew) F1.out hK8 (by omega) (by omega)).mono ?_
        rintro e w7 ⟨rfl, Ow7, he7, hco7, hk7, ht7⟩
        rw [HCD.out]
        have HE7 := Lib.hid he7
        have HC7 := Lib.hid hco7
        have HK7 := Lib.hid hk7
        have HT7 := Lib.hid ht7
        clear he7 hco7 hk7 ht7
        refine hK _ _ (HE7.out.below) ?_
        clear hK K
        refine wpPlan_do (by rfl) (by rfl) (fun K hK => ?_)
        go_simp
        refine (radd_env (c := 1) x z HE7.out HC7.out (by omega) ((HA.out.rs.keep (Below.refl _ _).drew).turned HT7.out (by decide) (by decide)) F1.out hK8 (by omega) (by omega)).mono ?_
        rintro e w8 ⟨rfl, Ow8, he8, hco8, hr8, ht8⟩
        rw [HCD.out]
        have HE8 := Lib.hid he8
        have HC8 := Lib.hid hco8
        have HR8 := Lib.hid hr8
        have HT8 := Lib.hid ht8
        clear he8 hco8 hr8 ht8
        refine hK _ _ (HE8.out.below) ?_
        clear hK K
        iterate 4
          refine wpPlan_read (by rfl) (by rfl) (fun R hR => ?_)
          apply Exists.intro
          refine ⟨fun w' hS' => ?_, ?_⟩
          · have k0 := (hS'.cell (p := ⟨ga, oa + j * 4 + 2, none⟩) hga).trans Q2.out
            have k1 := (hS'.cell (p := ⟨ga, oa + j * 4 + 3, none⟩) hga).trans Q3.out
            go_simp
            exact ⟨rfl, rfl⟩
          go_simp
          refine hR _ ?_
          clear hR R
        refine wpPlan_do (by rfl) (by rfl) (fun K hK => ?_)
        go_simp
        refine (same_any w8 (HK7.out.turned HT8.out (by decide) (by decide)) HR8.out (addS_fit F1.out (by omega) (by omega)) hK8 (by omega)).mono ?_
        rintro e w9 ⟨rfl, hb9⟩
        have HB9 := Lib.hid hb9
        clear hb9
        refine hK _ _ ((HE8.out.keep HB9.out).below) ?_
        clear hK K
        iterate 2
          refine wpPlan_read (by rfl) (by rfl) (fun R hR => ?_)
          apply Exists.intro
          refine ⟨fun w' hS' => ?_, ?_⟩
          · have k0 := (hS'.cell (p := ⟨ga, oa + j * 4 + 2, none⟩) hga).trans Q2.out
            have k1 := (hS'.cell (p := ⟨ga, oa + j * 4 + 3, none⟩) hga).trans Q3.out
            go_simp
            exact ⟨rfl, rfl⟩
          go_simp
          refine hR _ ?_
          clear hR R
        refine wpPlan_nil ?_
        have HNA : Hid (AddedAt w w9 K B (againN K B m (L, led, 0) (j + 1)) gt h Ow8 cg r dg cv (.slice A1 B.length c1)) := Lib.hid (by
          rw [HNX.out]
          exact ⟨HE8.out.keep HB9.out, HC8.out.keep HE8.out HB9.out, (HK7.out.turned HT8.out (by decide) (by decide)).keep HB9.out, HR8.out.keep HB9.out, addS_fit F1.out (by omega) (by omega)⟩)
        go_wp2_with fail
        go_roundg (min m.length 30 - (j + 1))
        case measure => have := HQ.out; omega
        case rel => exact ⟨j + 1, Ow8, rfl, by omega, by go_num, HNA⟩
      · by_cases h30 : j < m.length
        · have h1 : ¬ (j : Int) < 30 := by omega
          go_wp2_with fail
          refine bodyPost_ret (by simp [results, Try.results13, go_sem, *]; try rfl) rfl ?_
          exact ⟨rfl, HA.out.env.below⟩
        · have h1 : ¬ (j : Int) < (m.length : Int) := by omega
          go_wp2_with fail
          refine bodyPost_ret (by simp [results, Try.results13, go_sem, *]; try rfl) rfl ?_
          exact ⟨rfl, HA.out.env.below⟩
  · have hgt : (B.length : Int) > 500 := by omega
    clear hB hown hby hl hn hu hm hmf hbl
    go_enter Try.func13, Try.ntmps13
    go_wp2_with fail
    refine (HAL.out).mono ?_
    rintro e w1 ⟨rfl, hb1⟩
    go_wp2_with fail
    refine bodyPost_ret (by simp [results, Try.results13, go_sem, *]; try rfl) rfl ?_
    exact ⟨rfl, hb1⟩
end
open Go.ChangeShapes Go.WideShapes Go.ChangeAt Go.RowKit

theorem own_kllwireAgain : ownKnob Try.prog.godebug = none := by kernel_rfl
theorem laid_kllwireAgain : laidOutB Try.prog = true := by kernel_rfl
set_option maxRecDepth 100000 in
theorem lifted_kllwireAgain (os : Os) (started : os.Started) (H : Type) (enc : TypeId × Value → H) :
    ReturnsInHanded {} Try.checked os 13 .any (Rows.kllwireAgainSpec.pre6 enc Try.prog Try.f13 Rows.kllwireAgainRow.domain false) (Rows.kllwireAgainSpec.post enc Try.prog Try.f13 false true false false) := by
  refine returnsInHanded_of_change (C := Try.checked) own_kllwireAgain started (by kernel_rfl) Try.func13
    (ChangeSpec.witness6 (enc := enc) (C := Try.checked) false ⟨#[], #[.int .u16 0, .slice none 0 0, .slice none 0 0, .slice none 0 0, .slice none 0 0], []⟩ 8 (by kernel_rfl) (by kernel_rfl) (by kernel_rfl) (by kernel_rfl)) ?_
  intro W base args ds gs before hval0 hW hcnd _
  have hval : ∀ (j : Nat) t v, Try.f13.params[j]? = some t → args[j]? = some v → Value.okWide Try.prog W .any base t v := hval0
  have hW' := hW
  obtain ⟨p, q, hA0, hV, rfl, hfz, hnd⟩ := hW
  have hA : DataW.TrodAll enc Try.prog W 0 (fun _ => true) true Try.f13.params.toList args.toList ds p := hA0
  rw [Try.params13] at hA hval
  obtain ⟨v0, vs0, d0, ds0, p0, q0, hargs, rfl, rfl, h0, r0⟩ := trodAll_cons hA
  obtain ⟨v1, vs1, d1, ds1, p1, q1, rfl, rfl, rfl, h1, r1⟩ := trodAll_cons r0
  obtain ⟨v2, vs2, d2, ds2, p2, q2, rfl, rfl, rfl, h2, r2⟩ := trodAll_cons r1
  obtain ⟨v3, vs3, d3, ds3, p3, q3, rfl, rfl, rfl, h3, r3⟩ := trodAll_cons r2
  obtain ⟨v4, vs4, d4, ds4, p4, q4, rfl, rfl, rfl, h4, r4⟩ := trodAll_cons r3
  obtain ⟨rfl, rfl, rfl⟩ := trodAll_nil r4
  obtain rfl : args = #[v0, v1, v2, v3, v4] := by cases args; simp_all
  obtain ⟨rfl, rfl⟩ := trodVars_none hV
  obtain ⟨a0, rfl, rfl, rfl, w0⟩ := open_int Try.underlying22 (hval 0 22 v0 rfl rfl) h0
  obtain ⟨z1, R1, Z1⟩ := open_RdI (k := .u8) Try.underlying23 Try.underlying5 (by kernel_rfl) (hval 1 23 v1 rfl rfl) h1
  obtain ⟨z2, R2, Z2⟩ := open_RdI (k := .i64) Try.underlying24 Try.underlying2 (by kernel_rfl) (hval 2 24 v2 rfl rfl) h2
  obtain ⟨z3, R3, Z3⟩ := open_RdI (k := .u16) Try.underlying25 Try.underlying22 (by kernel_rfl) (hval 3 25 v3 rfl rfl) h3
  have ok4 := hval 4 63 v4 rfl rfl
  clear hA0 hval0 hfz hnd hcnd
  have HC : Calls Try.prog 13 #[.int .u16 a0, v1, v2, v3, v4] W fun e W' => e = .returned (.bool true) ∧ Below W.heap.size W W' := by
    have b0 := bounds_u16 w0
    have ho := own_lt_ok Try.underlying23 (hval 1 _ _ rfl rfl)
    obtain ⟨z4, R4, Z4⟩ := open_RdO (hval 4 _ _ rfl rfl) h4
    obtain ⟨n0, hn0⟩ : ∃ n : Nat, a0 = n := ⟨a0.toNat, by omega⟩
    subst hn0
    exact kagain_any n0 v1 v2 v3 v4 z1 z2 z3 z4 W (by omega) (rdE_u8 R1) (fun x hx => by have := bounds_u8 (Z1 x hx); omega) ho (rdE_i64 R2) (rdE_u16 R3) (fun x hx => by have := bounds_u16 (Z3 x hx); omega) R4 Z4 (fun x hx => by have := bounds_i64 (Z2 x hx); omega)
  refine HC.mono fun e W' ⟨he, hb⟩ => ?_
  subst he
  exact ⟨_, rfl, law_post laid_kllwireAgain (by kernel_rfl) rfl (by kernel_rfl) Try.underlying4 hW' rfl hb⟩
/-- The statement. -/
theorem proved_kllwireAgain : Rows.KllwireAgainSaid :=
  OpenClaim.holds_of_wide 13 Try.f13 rfl rfl rfl rfl rfl rfl rfl ⟨rfl, rfl, rfl, rfl, rfl⟩ rfl rfl rfl rfl rfl (by kernel_rfl) Try.func13 (by kernel_rfl)
    (of_decide_eq_true (by kernel_rfl)) (by unfold Func.isWrapper; first | (rw [if_pos (by decide +kernel)]; kernel_rfl) | (rw [if_neg (by decide +kernel)]; exact ⟨rfl, rfl⟩))
    (fun os started H enc _ => lifted_kllwireAgain os started H enc)
end Go.Proofs.Ytigmncogjbbmhaa
