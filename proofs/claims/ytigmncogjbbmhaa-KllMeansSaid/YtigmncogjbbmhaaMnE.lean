/- KllMeans, walked. Conditions: bytes are bytes; numbers of 64 bits. -/
import Derived.Test.YtigmncogjbbmhaaMnD
import Derived.Test.YtigmncogjbbmhaaMeanS
namespace Go.Proofs.Ytigmncogjbbmhaa
open Go.RowKit Go.Lib

theorem allV_nil_of {L : LL} (h : (keepF 1 L).length = 0) : allV L = [] := by
  rw [keepF_length, ← allV_length] at h
  exact List.eq_nil_of_length_eq_zero h
theorem ne_of_keep {L : LL} (h : 0 < (keepF 1 L).length) : ∃ x, x ∈ allV L := by
  rw [keepF_length, ← allV_length] at h
  cases e : allV L with
  | nil => rw [e] at h; simp at h
  | cons x l => exact ⟨x, List.mem_cons_self ..⟩
theorem addM_ok {l n : List Int} (hb : ∀ x ∈ l, -9223372036854775808 ≤ x ∧ x ≤ 9223372036854775807) (i : Nat) (_hi : i ≤ l.length) : okL (addM l n i) := fun m hm => by
  unfold addM at hm
  obtain ⟨j, _, rfl⟩ := List.mem_map.1 hm
  have hw := wtI_bd n j
  have hj : -9223372036854775808 ≤ l.getD j 0 ∧ l.getD j 0 ≤ 9223372036854775807 := by
    rcases Nat.lt_or_ge j l.length with h | h
    · rw [List.getD, List.getElem?_eq_getElem h]; exact hb _ (List.getElem_mem h)
    · rw [List.getD, List.getElem?_eq_none h]; decide
  exact ⟨hj.1, hj.2, by simp only; omega⟩
/-- What is known of a stack that was added to. -/
theorem means_plain {K : Nat} {B l n : List Int} {L : LL} {led a : Nat} (h8 : 8 ≤ K) (hk : K ≤ 4096) (hs : addedN K B l n (min l.length 120) = (L, led, a)) (hb : ∀ x ∈ l, -9223372036854775808 ≤ x ∧ x ≤ 9223372036854775807) :
    (∀ x ∈ allV L, -9223372036854775808 ≤ x ∧ x ≤ 9223372036854775807) ∧ (∀ x ∈ allV L, x ∈ l.take (min l.length 120)) ∧ okL (keepF 1 L) ∧ tot (keepF 1 L) = ((wt L : Nat) : Int) ∧ (led = 0 → meanI (addM l n (min l.length 120)) = meanI (keepF 1 L)) ∧ tot (addM l n (min l.length 120)) = ((wt L : Nat) : Int) := by
  have hm : ∀ x ∈ allV L, x ∈ l.take (min l.length 120) := fun x hx => by
    have := added_mem (K := K) (B := B) (l := l) (n := n) (min l.length 120) (by omega) x
    rw [hs] at this
    exact this hx
  have hbd : ∀ x ∈ allV L, -9223372036854775808 ≤ x ∧ x ≤ 9223372036854775807 := fun x hx => hb x (List.mem_of_mem_take (hm x hx))
  have hw : wt L = sumW n (min l.length 120) := by
    have := addedN_wt (B := B) (l := l) (n := n) h8 hk (min l.length 120) (by omega)
    rw [hs] at this; exact this
  refine ⟨hbd, hm, keepF_ok hbd, by rw [keepF_tot]; rfl, fun h0 => ?_, by rw [addM_tot, hw]⟩
  have hz := added_zero (B := B) (l := l) (n := n) h8 hk (min l.length 120) (by omega)
  rw [hs] at hz
  have := hz h0
  unfold meanI
  rw [← this, keepF_wsum, addM_tot, keepF_tot, ← hw]
  rfl

set_option maxRecDepth 100000 in
set_option maxHeartbeats 8000000 in
theorem kmeans_any (k : Nat) (v1 v2 v3 : Value) (B l n : List Int) (w : World) (hk : k ≤ 65535) (hB : RdE u8E w v1 B) (hby : ∀ x ∈ B, 0 ≤ x ∧ x ≤ 255) (hown : ∀ x, v1.ownBlock = some x → x < w.heap.size) (hl : RdE i64E w v2 l) (hn : RdE u16E w v3 n) (hu : U16s n)
    (hbl : ∀ x ∈ l, -9223372036854775808 ≤ x ∧ x ≤ 9223372036854775807) :
    Calls Try.prog 11 #[.int .u16 k, v1, v2, v3] w fun e w' => e = .returned (.bool true) ∧ Below w.heap.size w w' := by
  have HAL := Lib.hid (alive_any w)
  obtain ⟨A1, c1, rfl, hB1, hB2, _⟩ := hB.form
  by_cases hlen : B.length ≤ 500
  · have HBT : Byt B := ⟨by omega, hby⟩
    have HAD := Lib.hid (fun W (hb : Below w.heap.size w W) => added_any k (.slice A1 B.length c1) v2 v3 B l n W hk (hB.keep hb) HBT (fun x e => Nat.lt_of_lt_of_le (hown x e) hb.size) (hl.keep hb) (hn.keep hb) hu)
    have HWE := Lib.hid (fun W (hb : Below w.heap.size w W) i hi => weight_any v3 n i W (hn.keep hb) hu hi)
    have HLK := Lib.hid (fun W (hb : Below w.heap.size w W) => hl.keep hb)
    obtain ⟨A2, c2, rfl, hl1, hl2, _⟩ := hl.form
    have hgt : ¬ (B.length : Int) > 500 := by omega
    obtain ⟨K, hK⟩ : ∃ K, 8 + k % 40 = K := ⟨_, rfl⟩
    have hK8 : 8 ≤ K := by omega
    have hK2 : K ≤ 47 := by omega
    rw [hK] at HAD
    have HMP := fun L led a h => means_plain (K := K) (B := B) (l := l) (n := n) (L := L) (led := led) (a := a) hK8 (by omega) h hbl
    have HAO := Lib.hid (addM_ok (n := n) hbl (min l.length 120) (by omega))
    clear hB hown hby hl hn hu HBT hK hbl
    obtain ⟨s, hs⟩ : ∃ s, addedS K B l n = s := ⟨_, rfl⟩
    have hs' : addedN K B l n (min l.length 120) = s := hs
    rw [hs] at HAD
    obtain ⟨L, led, a⟩ := s
    obtain ⟨hbd, hmem, hok, htot, hzer, hto2⟩ := HMP L led a hs'
    have HMEM := Lib.hid hmem
    have HOK := Lib.hid hok
    have HZER := Lib.hid hzer
    have HTO2 := Lib.hid hto2
    have HTOT := Lib.hid htot
    clear hs hs' HMP hmem hok hzer hto2 htot
    go_enter Try.func11, Try.ntmps11
    go_wp2_with fail
    refine (HAL.out).mono ?_
    rintro e w1 ⟨rfl, hb1⟩
    have HB1 := Lib.hid hb1
    have HAD1 := Lib.hid (HAD.out w1 hb1)
    clear hb1 HAL HAD
    go_wp2_with fail
    refine (HAD1.out).mono ?_
    rintro e w2 ⟨g, h, rfl, Ow, cg, r, dg, cv, ha⟩
    have HB2 : Hid (Below w.heap.size w w2) := Lib.hid (HB1.out.trans (ha.env.below.mono HB1.out.size))
    have HF : Hid (Fit K L led) := Lib.hid ha.fit
    have HKS : Hid (KAt (Ow 0) w2 g K L led) := Lib.hid ha.ks
    have HRS : Hid (RAt (Ow 1) w2 h K L led) := Lib.hid ha.rs
    clear ha HAD1
    obtain ⟨lv, vs, hs⟩ := HKS.out
    obtain ⟨lv2, vs2, hr⟩ := HRS.out
    obtain ⟨A4, c4, elv2, _, _, _⟩ := hr.form
    subst elv2
    have hwt : wt L ≤ 281474976710656 := HF.out.ok.wtL
    have hlenL : L.length ≤ 49 := HF.out.ok.lenL
    have hled : led ≤ 4611686018427387904 := HF.out.ok.led
    have hcnt := HF.out.ok.cntL
    have XME := Lib.hid (kmean_any w2 hs HF.out.ok hbd)
    have XLE := Lib.hid (fun W (hb : Below w2.heap.size w2 W) => ledger_any W (hs.keep hb))
    have HR := Lib.hid hr
    have HLE := Lib.hid (fun j t (h : j < L.length) => midF_le (t := t) h)
    have HTK := Lib.hid (show keepF 1 (L.take L.length) = keepF 1 L by rw [List.take_length])
    have HK0 := Lib.hid (show keepF 1 (L.take 0) = [] from rfl)
    obtain ⟨y, hy⟩ : ∃ y, (meanR (keepF 1 L)).1 = y := ⟨_, rfl⟩
    obtain ⟨er, her⟩ : ∃ er, (meanR (keepF 1 L)).2 = er := ⟨_, rfl⟩
    rw [hy, her] at XME
    have HY := Lib.hid hy
    have HER := Lib.hid her
    clear hs hr hbd hy her HKS HRS
    go_wp2_with fail
    refine (XME.out).mono ?_
    rintro e w3 ⟨rfl, hb3⟩
    have HB3 := Lib.hid (HB2.out.trans (hb3.mono HB2.out.size))
    have HR3 := Lib.hid (HR.out.keep hb3)
    have XLE3 := Lib.hid (fun W (hb : Below w3.heap.size w3 W) => XLE.out W (hb3.trans (hb.mono hb3.size)))
    clear hb3 HR XLE XME
    go_wp2_with fail
    go_loopg [13, 15, 17, 18, 19] L.length (fun q v m p i _ wr => ∃ j : Nat, q = L.length - j ∧ j ≤ L.length ∧ p = .int .u64 ((2 ^ j : Nat) : Int) ∧ i = .int .i64 (j : Int) ∧ Hid (OwnI 2 .i64 w3.heap.size wr v ((keepF 1 (L.take j)).map (·.1))) ∧ Hid (OwnI 26 .u64 w3.heap.size wr m ((keepF 1 (L.take j)).map (·.2))) ∧ Hid (∀ k, m.ownBlock = some k → v.ownBlock ≠ some k) ∧ Hid (Below w3.heap.size w3 wr))
    case atStart => exact ⟨0, by omega, by omega, rfl, rfl, Lib.hid (OwnI.nil_ _ _ _ _), Lib.hid (OwnI.nil_ _ _ _ _), Lib.hid (fun k e => by simp [Value.ownBlock] at e), Lib.hid (Below.refl _ _)⟩
    case round =>
      obtain ⟨j, hq, hj, rfl, rfl, OV, OM, hsep, HB⟩ := hrel
      have HQ := Lib.hid hq
      clear hq
      have hz := HB.out.size
      have K1 := Lib.hid HR3.out.cell1
      have hhl := HR3.out.blk.lt
      have k1 := (HB.out.cell (p := ⟨h, 1, none⟩) hhl).trans K1.out
      by_cases hjl : j < L.length
      · obtain ⟨gl, cc, sA, sc, elv, hgl, _, _, _, k20, _, ol, _⟩ := HR3.out.at_ hjl
        injection elv with elv e2 e3
        subst elv; subst e3
        have hpb := pow49 (j := j) (by omega)
        have HPE : Hid (2 ^ (j + 1) = 2 * 2 ^ j) := Lib.hid (by rw [Nat.pow_succ]; omega)
        have HLJ := Lib.hid (fun t => HLE.out j t hjl)
        have HZ := Lib.hid (midF_zero L j)
        have HA := Lib.hid (midF_all hjl)
        have HN := Lib.hid (fun (t : Nat) (ht : t < (lvl L j).length) => midF_succ ht)
        obtain ⟨_, _, el, hl3, hl4, fl⟩ := ol.form
        injection el with el1 el2 el3
        subst el1; subst el3
        have FL := Lib.hid fl
        have hlc : (lvl L j).length ≤ 1000000 := by have := lvl_le_cnt L j; omega
        have K2 := Lib.hid k20
        have k2 := (HB.out.cell (p := ⟨gl, j, none⟩) hgl).trans K2.out
        rw [← HZ.out] at OV OM
        obtain ⟨p, hp⟩ : ∃ p, 2 ^ j = p := ⟨_, rfl⟩
        rw [hp] at hpb HPE HN ⊢
        clear fl el2 ol hp k20
        go_wp2_with fail
        clear k1 k2
        go_loopg [13, 15, 19] (lvl L j).length (fun q v m i wr2 => ∃ t : Nat, q = (lvl L j).length - t ∧ t ≤ (lvl L j).length ∧ i = .int .i64 (t : Int) ∧ Hid (OwnI 2 .i64 w3.heap.size wr2 v ((midF L j t).map (·.1))) ∧ Hid (OwnI 26 .u64 w3.heap.size wr2 m ((midF L j t).map (·.2))) ∧ Hid (∀ k, m.ownBlock = some k → v.ownBlock ≠ some k) ∧ Hid (Below w3.heap.size w3 wr2))
        case atStart => exact ⟨0, by omega, by omega, rfl, OV, OM, hsep, HB⟩
        case round =>
          obtain ⟨t, hq2, ht, rfl, OV2, OM2, hsep2, HB2⟩ := hrel
          have HQ2 := Lib.hid hq2
          clear hq2 OV OM hsep
          have hz2 := HB2.out.size
          have k1 := (HB2.out.cell (p := ⟨h, 1, none⟩) hhl).trans K1.out
          have k2 := (HB2.out.cell (p := ⟨gl, j, none⟩) hgl).trans K2.out
          by_cases htl : t < (lvl L j).length
          · obtain ⟨ga, oa, eA, hga, ka⟩ := FL.out.i64 htl
            subst eA
            have k3 := (HB2.out.cell (p := ⟨ga, oa + t, none⟩) hga).trans ka
            have n1 := HN.out t htl
            have HTV : Hid ((midF L j (t + 1)).map (·.1) = (midF L j t).map (·.1) ++ [(lvl L j)[t]]) := Lib.hid (by rw [n1, List.map_append]; rfl)
            have HTM : Hid ((midF L j (t + 1)).map (·.2) = (midF L j t).map (·.2) ++ [(p : Int)]) := Lib.hid (by rw [n1, List.map_append]; rfl)
            have hl5 : ((midF L j t).map (·.1)).length + 1 ≤ 1099511627776 := by rw [List.length_map]; have := HLJ.out t; omega
            have hl6 : ((midF L j t).map (·.2)).length + 1 ≤ 1099511627776 := by rw [List.length_map]; have := HLJ.out t; omega
            obtain ⟨x, hx⟩ : ∃ x, (lvl L j)[t] = x := ⟨_, rfl⟩
            rw [hx] at k3 HTV
            obtain ⟨zv, hzv⟩ : ∃ zv, (midF L j t).map (·.1) = zv := ⟨_, rfl⟩
            obtain ⟨zm, hzm⟩ : ∃ zm, (midF L j t).map (·.2) = zm := ⟨_, rfl⟩
            rw [hzv] at HTV hl5 OV2
            rw [hzm] at HTM hl6 OM2
            clear n1 hx hzv hzm ka
            go_wp2_with (first
              | (at_builtin
                 refine append_I Try.underlying24 infoS rfl (.tmp 68) (.tmp 79) rfl w3.heap.size u13 zv rfl (OV2.out.alloc _) _ [x] rfl (RdI.one_at _ _ _ _ _ rfl) hl5 (by simp only [World.size_alloc]; omega) ?_
                 intro v6 w6 o6 g6 a6
                 have HB6 : Hid (Below w3.heap.size w3 w6) := Lib.hid ((HB2.out.alloc (by omega) _).grown g6 (by simp only [World.size_alloc]; omega) (fun k hk => (OV2.out.lt k hk).1))
                 have OV6 := Lib.hid o6
                 have hz6 := g6.size
                 simp only [World.size_alloc] at hz6
                 have OM6 : Hid (OwnI 26 .u64 w3.heap.size w6 u15 zm) := (OM2.out.alloc _).stay fun k e => g6.block k (by have := (OM2.out.lt k e).2; simp only [World.size_alloc]; omega) (fun e2 => hsep2.out k e e2.symm)
                 have S6 : Hid (∀ k, u15.ownBlock = some k → v6.ownBlock ≠ some k) := fun k e e2 => by
                   rcases a6 with a | a
                   · exact hsep2.out k e (by rw [← a]; exact e2)
                   · rw [a] at e2; simp only [World.size_alloc, Option.some.injEq] at e2; have := (OM2.out.lt k e).2; omega
                 clear o6 g6 a6 hsep2)
              | (at_builtin
                 refine append_I Try.underlying78 infoU rfl (.tmp 81) (.tmp 83) rfl w3.heap.size u15 zm rfl (OM6.out.alloc _) _ [(p : Int)] rfl (RdI.one_at _ _ _ _ _ rfl) hl6 (by simp only [World.size_alloc]; omega) ?_
                 intro v7 w7 o7 g7 a7
                 have HB7 : Hid (Below w3.heap.size w3 w7) := Lib.hid ((HB6.out.alloc (by omega) _).grown g7 (by simp only [World.size_alloc]; omega) (fun k hk => (OM6.out.lt k hk).1))
                 have OM7 := Lib.hid o7
                 have OV7 : Hid (OwnI 2 .i64 w3.heap.size w7 v6 (zv ++ [x])) := (OV6.out.alloc _).stay fun k e => g7.block k (by have := (OV6.out.lt k e).2; simp only [World.size_alloc]; omega) (fun e2 => S6.out k e2.symm e)
                 have S7 : Hid (∀ k, v7.ownBlock = some k → v6.ownBlock ≠ some k) := fun k e e2 => by
                   rcases a7 with a | a
                   · exact S6.out k (by rw [← a]; exact e) e2
                   · rw [a] at e; simp only [World.size_alloc, Option.some.injEq] at e; have := (OV6.out.lt k e2).2; omega
                 clear o7 g7 a7))
            go_roundg ((lvl L j).length - (t + 1))
            case measure => have := HQ2.out; omega
            case rel => exact ⟨t + 1, rfl, by omega, by go_num, by rw [HTV.out]; exact OV7, by rw [HTM.out]; exact OM7, S7, HB7⟩
          · have hE : t = (lvl L j).length := by omega
            subst hE
            rw [HA.out] at OV2 OM2
            go_wp2_with fail
            go_roundg (L.length - (j + 1))
            case measure => have := HQ.out; omega
            case rel => exact ⟨j + 1, rfl, by omega, by rw [HPE.out]; go_num, by go_num, OV2, OM2, hsep2, HB2⟩
      · have hE : j = L.length := by omega
        subst hE
        rw [HTK.out] at OV OM
        obtain ⟨l', hle⟩ : ∃ l', keepF 1 L = l' := ⟨_, rfl⟩
        have hll : l'.length ≤ 1000000000 := by rw [← hle, keepF_length]; omega
        have HNE : Hid (0 < l'.length → 0 < l.length) := Lib.hid fun h0 => by
          rw [← hle] at h0
          obtain ⟨x, hx⟩ := ne_of_keep h0
          have := List.length_pos_of_mem (HMEM.out x hx)
          rw [List.length_take] at this; omega
        have HIN : Hid (∀ m ∈ l', m.1 ∈ l.take (min l.length 120)) := Lib.hid fun m hm => by
          rw [← hle] at hm
          exact HMEM.out _ (keepF_mem 1 L (by omega) m hm).1
        rw [hle] at OV OM HOK HZER HTOT HY HER
        have HWR := Lib.hid (HB3.out.trans (HB.out.mono HB3.out.size))
        have XLE4 := Lib.hid (fun W (hb : Below wr.heap.size wr W) => XLE3.out W (HB.out.trans (hb.mono hz)))
        obtain ⟨Av, cv1, hvv, nv, mv, fv⟩ := OV.out.rd.form
        rw [List.length_map] at hvv nv
        clear hle HTK HMEM fv HLE HR3 XLE3 K1 HK0 hsep
        subst hvv
        rcases Nat.eq_zero_or_pos l'.length with h0 | h0
        · have h1 : y = 0 := by have := HY.out; unfold meanR at this; rw [if_pos h0] at this; exact this.symm
          have h2 : er = 8 := by have := HER.out; unfold meanR at this; rw [if_pos h0] at this; exact this.symm
          subst h1; subst h2
          have hzb : ((l'.length : Int) == 0) = true := beq_iff_eq.2 (by omega)
          clear h0
          go_wp2_with fail
          refine bodyPost_ret (by simp [results, Try.results11, go_sem, *]; try rfl) rfl ?_
          exact ⟨rfl, HWR.out⟩
        · have h1 : y = meanI l' := by have := HY.out; unfold meanR at this; rw [if_neg (by omega)] at this; exact this.symm
          have h2 : er = 0 := by have := HER.out; unfold meanR at this; rw [if_neg (by omega)] at this; exact this.symm
          subst h2
          have HY1 := Lib.hid h1
          have hzb : ((l'.length : Int) == 0) = false := beq_eq_false_iff_ne.2 (by omega)
          have hl0 := HNE.out h0
          have XRM := Lib.hid (fun vv vn W hv hn => rmean_any vv vn l' W hv hn HOK.out h0 hll (by rw [HTOT.out]; omega))
          rw [← h1] at XRM
          have HBY : Hid (∀ lo hi : Int, (∀ x ∈ l.take (min l.length 120), lo ≤ x ∧ x ≤ hi) → lo ≤ y ∧ y ≤ hi) := Lib.hid fun lo hi hh => by
            rw [HY1.out]
            refine meanI_bd HOK.out ?_ fun m hm => hh _ (HIN.out m hm)
            have h3 := HOK.out.tot_get h0
            have h4 := (HOK.out.get h0).2.2
            have h5 := (HOK.out.tot_take 0).1
            omega
          have HLK4 := Lib.hid (fun W (hb : Below wr.heap.size wr W) => HLK.out W (HWR.out.trans (hb.mono HWR.out.size)))
          have HWE4 := Lib.hid (fun W (hb : Below wr.heap.size wr W) => HWE.out W (HWR.out.trans (hb.mono HWR.out.size)))
          clear h1 HNE HIN HLK HWE HY HER
          obtain ⟨_, _, e2, _, _, hf⟩ := (HLK4.out wr (Below.refl _ _)).form
          injection e2 with e21 e22 e23
          subst e21; subst e23
          have HF5 := Lib.hid hf
          obtain ⟨ga, oa, eA, hga, ka⟩ := hf.i64 hl0
          subst eA
          have HL0 := Lib.hid (show ∀ x ∈ l.take 0, (l[0] : Int) ≤ x ∧ x ≤ l[0] from fun x hx => by simp at hx)
          obtain ⟨x0, hx0⟩ : ∃ x0, l[0] = x0 := ⟨_, rfl⟩
          simp only [hx0, Nat.add_zero] at ka HL0
          have hl0i : (0 : Int) < (l.length : Int) := by omega
          clear hx0 hf e22
          go_wp2_with fail
          go_quiet (fail)
          clear k1 ka
          go_wp2_with fail
          obtain ⟨w5, hw5⟩ : ∃ w5, wr.drewN nq = w5 := ⟨_, rfl⟩
          have hb5 : Below wr.heap.size wr w5 := by rw [← hw5]; exact below_drewN (Below.refl _ _) _
          have hz5 : w5.heap.size = wr.heap.size := by rw [← hw5]; rfl
          have ov5 := OV.out.drewN nq
          have om5 := OM.out.drewN nq
          rw [hw5] at ov5 om5 ⊢
          have OV5 := Lib.hid ov5
          have OM5 := Lib.hid om5
          have HB5 := Lib.hid (HWR.out.trans (hb5.mono HWR.out.size))
          have HWE5 := Lib.hid (fun W (hb : Below w5.heap.size w5 W) => HWE4.out W (hb5.trans (hb.mono (by omega))))
          have HF6 := Lib.hid (HF5.out.keep hb5)
          have XLE5 := Lib.hid (fun W (hb : Below w5.heap.size w5 W) => XLE4.out W (hb5.trans (hb.mono (by omega))))
          clear hw5 ov5 om5 OV OM HWR HWE4 HF5 XLE4 HLK4
          go_loopg [14, 16, 20, 21, 22] (min l.length 120) (fun q al we lo hi i wr2 => ∃ (j : Nat) (a b : Int), q = min l.length 120 - j ∧ j ≤ min l.length 120 ∧ lo = .int .i64 a ∧ hi = .int .i64 b ∧ i = .int .i64 (j : Int) ∧ Hid (∀ x ∈ l.take j, a ≤ x ∧ x ≤ b) ∧ Hid (OwnI 2 .i64 w5.heap.size wr2 al ((addM l n j).map (·.1))) ∧ Hid (OwnI 26 .u64 w5.heap.size wr2 we ((addM l n j).map (·.2))) ∧ Hid (∀ k, we.ownBlock = some k → al.ownBlock ≠ some k) ∧ Hid (Below w5.heap.size w5 wr2))
          case atStart => exact ⟨0, x0, x0, by omega, by omega, rfl, rfl, rfl, HL0, Lib.hid (OwnI.nil_ _ _ _ _), Lib.hid (OwnI.nil_ _ _ _ _), Lib.hid (fun k e => by simp [Value.ownBlock] at e), Lib.hid (Below.refl _ _)⟩
          case round =>
            obtain ⟨j, lo, hi, hq, hj, rfl, rfl, rfl, HIN, OA, OW, hsep, HBJ⟩ := hrel
            have HQ := Lib.hid hq
            clear hq
            have hzj := HBJ.out.size
            by_cases hjl : j < min l.length 120
            · have hj1 : (j : Int) < (l.length : Int) := by omega
              have hj2 : (j : Int) < 120 := by omega
              have hjn : j < l.length := by omega
              obtain ⟨ga', oa', eA, _, ka⟩ := HF6.out.i64 hjn
              injection eA with eA
              injection eA with eA1 eA2
              subst eA1; subst eA2
              have k1 := (HBJ.out.cell (p := ⟨ga, oa + j, none⟩) (by show ga < _; omega)).trans ka
              have hwb := wtI_bd n j
              have HTV : Hid ((addM l n (j + 1)).map (·.1) = (addM l n j).map (·.1) ++ [l[j]]) := Lib.hid (by rw [addM_succ, List.map_append, List.getD, List.getElem?_eq_getElem hjn]; rfl)
              have HTM : Hid ((addM l n (j + 1)).map (·.2) = (addM l n j).map (·.2) ++ [((wtI n j : Nat) : Int)]) := Lib.hid (by rw [addM_succ, List.map_append]; rfl)
              have HIN1 : Hid (∀ x ∈ l.take (j + 1), min lo l[j] ≤ x ∧ x ≤ max hi l[j]) := Lib.hid fun x hx => by
                rw [List.take_succ_eq_append_getElem hjn, List.mem_append, List.mem_singleton] at hx
                rcases hx with hx | hx
                · have := HIN.out x hx; omega
                · omega
              have hl5 : ((addM l n j).map (·.1)).length + 1 ≤ 1099511627776 := by rw [List.length_map, addM_length]; omega
              have hl6 : ((addM l n j).map (·.2)).length + 1 ≤ 1099511627776 := by rw [List.length_map, addM_length]; omega
              have HWJ := Lib.hid (fun W hb => HWE5.out W hb j (by omega))
              obtain ⟨x, hx⟩ : ∃ x, l[j] = x := ⟨_, rfl⟩
              simp only [hx] at k1 HTV HIN1
              obtain ⟨mw, hmw⟩ : ∃ mw, wtI n j = mw := ⟨_, rfl⟩
              rw [hmw] at hwb HTM HWJ
              obtain ⟨zv, hzv⟩ : ∃ zv, (addM l n j).map (·.1) = zv := ⟨_, rfl⟩
              obtain ⟨zm, hzm⟩ : ∃ zm, (addM l n j).map (·.2) = zm := ⟨_, rfl⟩
              rw [hzv] at HTV hl5 OA
              rw [hzm] at HTM hl6 OW
              clear hx hmw hzv hzm ka
              go_wp2_with (first
                | (at_builtin
                   refine append_I Try.underlying24 infoS rfl (.tmp 124) (.tmp 129) rfl w5.heap.size u14 zv rfl (OA.out.alloc _) _ [x] rfl (RdI.one_at _ _ _ _ _ rfl) hl5 (by simp only [World.size_alloc]; omega) ?_
                   intro v6 w6 o6 g6 a6
                   have HB6 : Hid (Below w5.heap.size w5 w6) := Lib.hid ((HBJ.out.alloc (by omega) _).grown g6 (by simp only [World.size_alloc]; omega) (fun k hk => (OA.out.lt k hk).1))
                   have OA6 := Lib.hid o6
                   have hz6 := g6.size
                   simp only [World.size_alloc] at hz6
                   have OW6 : Hid (OwnI 26 .u64 w5.heap.size w6 u16 zm) := (OW.out.alloc _).stay fun k e => g6.block k (by have := (OW.out.lt k e).2; simp only [World.size_alloc]; omega) (fun e2 => hsep.out k e e2.symm)
                   have S6 : Hid (∀ k, u16.ownBlock = some k → v6.ownBlock ≠ some k) := fun k e e2 => by
                     rcases a6 with a | a
                     · exact hsep.out k e (by rw [← a]; exact e2)
                     · rw [a] at e2; simp only [World.size_alloc, Option.some.injEq] at e2; have := (OW.out.lt k e).2; omega
                   clear o6 g6 a6 hsep)
                | (go_at_call 22; refine ((HWJ.out w6 HB6.out)).mono ?_; rintro e w7 ⟨rfl, hw7⟩; subst hw7)
                | (at_builtin
                   refine append_I Try.underlying78 infoU rfl (.tmp 131) (.tmp 135) rfl w5.heap.size u16 zm rfl (OW6.out.alloc _) _ [(mw : Int)] rfl (RdI.one_at _ _ _ _ _ rfl) hl6 (by simp only [World.size_alloc]; omega) ?_
                   intro v7 w7 o7 g7 a7
                   have HB7 : Hid (Below w5.heap.size w5 w7) := Lib.hid ((HB6.out.alloc (by omega) _).grown g7 (by simp only [World.size_alloc]; omega) (fun k hk => (OW6.out.lt k hk).1))
                   have OW7 := Lib.hid o7
                   have OA7 : Hid (OwnI 2 .i64 w5.heap.size w7 v6 (zv ++ [x])) := (OA6.out.alloc _).stay fun k e => g7.block k (by have := (OA6.out.lt k e).2; simp only [World.size_alloc]; omega) (fun e2 => S6.out k e2.symm e)
                   have S7 : Hid (∀ k, v7.ownBlock = some k → v6.ownBlock ≠ some k) := fun k e e2 => by
                     rcases a7 with a | a
                     · exact S6.out k (by rw [← a]; exact e) e2
                     · rw [a] at e; simp only [World.size_alloc, Option.some.injEq] at e; have := (OA6.out.lt k e2).2; omega
                   clear o7 g7 a7))
              go_roundg (min l.length 120 - (j + 1))
              case measure => have := HQ.out; omega
              case rel => exact ⟨j + 1, min lo x, max hi x, rfl, by omega, by go_num, by go_num, by go_num, HIN1, by rw [HTV.out]; exact OA7, by rw [HTM.out]; exact OW7, S7, HB7⟩
            · have hje : j = min l.length 120 := by omega
              have HIY := Lib.hid (HBY.out lo hi (by rw [← hje]; exact HIN.out))
              rw [hje] at OA OW
              have ha0 : 0 < (addM l n (min l.length 120)).length := by rw [addM_length]; omega
              have hall : (addM l n (min l.length 120)).length ≤ 1000000000 := by rw [addM_length]; omega
              have XRA := Lib.hid (fun vv vn W hv hn => rmean_any vv vn (addM l n (min l.length 120)) W hv hn HAO.out ha0 hall (by rw [HTO2.out]; omega))
              have HZ1 : Hid (led = 0 → meanI (addM l n (min l.length 120)) = y) := Lib.hid fun h => by rw [HZER.out h, HY1.out]
              obtain ⟨ml, hml⟩ : ∃ ml, addM l n (min l.length 120) = ml := ⟨_, rfl⟩
              rw [hml] at OA OW XRA HZ1
              obtain ⟨z, hz1⟩ : ∃ z, meanI ml = z := ⟨_, rfl⟩
              rw [hz1] at XRA HZ1
              have OV8 := Lib.hid ((OV5.out.keep HBJ.out).rd)
              have OM8 := Lib.hid ((OM5.out.keep HBJ.out).rd)
              obtain ⟨iy1, iy2⟩ := HIY.out
              have hle1 : decide (lo ≤ y) = true := decide_eq_true iy1
              have hle2 : decide (y ≤ hi) = true := decide_eq_true iy2
              clear hml hz1 HIN hsep HF6 HWE5 HBY HZER
              by_cases h120 : j < l.length
              · have h1 : ¬ (j : Int) < 120 := by omega
                clear hje
                go_wp2_with fail
                refine (XRM.out _ _ _ OV8.out OM8.out).mono ?_
                rintro e w8 ⟨rfl, hb8⟩
                have HB8 := Lib.hid hb8
                have OA8 := Lib.hid ((OA.out.keep hb8).rd)
                have OW8 := Lib.hid ((OW.out.keep hb8).rd)
                clear hb8
                go_wp2_with fail
                refine (XRA.out _ _ _ OA8.out OW8.out).mono ?_
                rintro e w9 ⟨rfl, hb9⟩
                have HB9 : Hid (Below w5.heap.size w5 w9) := Lib.hid ((HBJ.out.trans (HB8.out.mono hzj)).trans (hb9.mono (by have := HB8.out.size; omega)))
                have XLE9 := Lib.hid (XLE5.out w9 HB9.out)
                clear hb9
                by_cases hled0 : led = 0
                · have h2 := HZ1.out hled0
                  subst h2
                  subst hled0
                  go_wp2_with (go_at_call 30; refine (XLE9.out).mono ?_; rintro e w' ⟨rfl, hw⟩; subst hw)
                  refine bodyPost_ret (by simp [results, Try.results11, go_sem, *]; try rfl) rfl ?_
                  exact ⟨by simp, HB5.out.trans (HB9.out.mono HB5.out.size)⟩
                · have h3 : (0 : Int) < (led : Int) := by omega
                  go_wp2_with (go_at_call 30; refine (XLE9.out).mono ?_; rintro e w' ⟨rfl, hw⟩; subst hw)
                  refine bodyPost_ret (by simp [results, Try.results11, go_sem, *]; try rfl) rfl ?_
                  exact ⟨by simp, HB5.out.trans (HB9.out.mono HB5.out.size)⟩
              · have h1 : ¬ (j : Int) < (l.length : Int) := by omega
                clear hje
                go_wp2_with fail
                refine (XRM.out _ _ _ OV8.out OM8.out).mono ?_
                rintro e w8 ⟨rfl, hb8⟩
                have HB8 := Lib.hid hb8
                have OA8 := Lib.hid ((OA.out.keep hb8).rd)
                have OW8 := Lib.hid ((OW.out.keep hb8).rd)
                clear hb8
                go_wp2_with fail
                refine (XRA.out _ _ _ OA8.out OW8.out).mono ?_
                rintro e w9 ⟨rfl, hb9⟩
                have HB9 : Hid (Below w5.heap.size w5 w9) := Lib.hid ((HBJ.out.trans (HB8.out.mono hzj)).trans (hb9.mono (by have := HB8.out.size; omega)))
                have XLE9 := Lib.hid (XLE5.out w9 HB9.out)
                clear hb9
                by_cases hled0 : led = 0
                · have h2 := HZ1.out hled0
                  subst h2
                  subst hled0
                  go_wp2_with (go_at_call 30; refine (XLE9.out).mono ?_; rintro e w' ⟨rfl, hw⟩; subst hw)
                  refine bodyPost_ret (by simp [results, Try.results11, go_sem, *]; try rfl) rfl ?_
                  exact ⟨by simp, HB5.out.trans (HB9.out.mono HB5.out.size)⟩
                · have h3 : (0 : Int) < (led : Int) := by omega
                  go_wp2_with (go_at_call 30; refine (XLE9.out).mono ?_; rintro e w' ⟨rfl, hw⟩; subst hw)
                  refine bodyPost_ret (by simp [results, Try.results11, go_sem, *]; try rfl) rfl ?_
                  exact ⟨by simp, HB5.out.trans (HB9.out.mono HB5.out.size)⟩
  · have hgt : (B.length : Int) > 500 := by omega
    clear hB hown hby hl hn hu
    go_enter Try.func11, Try.ntmps11
    go_wp2_with fail
    refine (HAL.out).mono ?_
    rintro e w1 ⟨rfl, hb1⟩
    go_wp2_with fail
    refine bodyPost_ret (by simp [results, Try.results11, go_sem, *]; try rfl) rfl ?_
    exact ⟨rfl, hb1⟩
end Go.Proofs.Ytigmncogjbbmhaa
