/- KllPlays, walked. Conditions: bytes are bytes; acts fit. -/
import Derived.Test.YtigmncogjbbmhaaKmF
namespace Go.Proofs.Ytigmncogjbbmhaa
open Go.RowKit

/-- Owners of what is made ahead of the coins: from block m on. -/
def Own7 (v : Value) (z m : Nat) (c x : Nat) : Prop := (c = 9 ∧ v.ownBlock = some x ∧ x < z) ∨ (c = 0 ∧ x = m) ∨ (c = 2 ∧ x = m + 1) ∨ (c = 4 ∧ (x = m + 2 ∨ x = m + 3 ∨ x = m + 6)) ∨ (c = 1 ∧ x = m + 4) ∨ (c = 3 ∧ x = m + 5)
theorem own7_env {w w' : World} {v : Value} {m : Nat} (hb : Below w.heap.size w w') (hm : w.heap.size ≤ m) (hz : m + 7 ≤ w'.heap.size) : Env w w' (Own7 v w.heap.size m) := by
  refine ⟨hb, fun c d x h1 h2 => ?_, fun c x h => ?_, fun c x h9 h => ?_⟩
  · unfold Own7 at h1 h2; omega
  · unfold Own7 at h
    have := hb.size
    omega
  · unfold Own7 at h; omega
theorem own7_0 {v : Value} {z m : Nat} : Own7 v z m 0 = fun x => x = m := by funext x; unfold Own7; simp
theorem own7_1 {v : Value} {z m : Nat} : Own7 v z m 1 = fun x => x = m + 4 := by funext x; unfold Own7; simp
theorem own7_2 {v : Value} {z m : Nat} : Own7 v z m 2 = fun x => x = m + 1 := by funext x; unfold Own7; simp
theorem own7_3 {v : Value} {z m : Nat} : Own7 v z m 3 = fun x => x = m + 5 := by funext x; unfold Own7; simp
theorem kAt_at (k : Nat) (w : World) (m : Nat) (h : w.heap.size = m) : KAt (fun x => x = m) (w.alloc (.cells #[.int .i64 k, .slice none 0 0, .int .u64 0, .int .u64 0] 96)) m k [] 0 := by subst h; exact kAt_new k w
theorem rAt_at (k : Nat) (w : World) (m : Nat) (h : w.heap.size = m) : RAt (fun x => x = m) (w.alloc (.cells #[.int .i64 k, .slice none 0 0, .int .u64 0] 53)) m k [] 0 := by subst h; exact rAt_new k w
/-- What a loop of acts keeps. -/
def PlaysN (k : Nat) (B : List Int) (l : List Act4) : Nat → D2
  | 0 => (([], 0), ([], 0), 0)
  | j + 1 => duoD k B (l.getD j default) (PlaysN k B l j)
theorem takeS_coin_le {k : Nat} {B : List Int} {t : LL × Nat} {s : KS} (h : s.2.2 ≤ 8 * B.length) : (takeS k B t s).2.2 ≤ 8 * B.length := by
  unfold takeS
  split
  · exact packA_keep (k := k) (B := B) (P := fun t => t.2.2 ≤ 8 * B.length) (fun t j h1 _ => coinNx_le h1) h
  · exact h
theorem stepD_coin_le {k kd n : Nat} {B : List Int} {v : Int} {t : LL × Nat} {s : KS} (h : s.2.2 ≤ 8 * B.length) : (stepD k B kd v n t s).2.2 ≤ 8 * B.length := by
  unfold stepD
  split
  · exact takeS_coin_le h
  · split
    · exact takeS_coin_le h
    · exact addS_coin_le h
theorem coins_le (K : Nat) (B : List Int) (l : List Act4) : ∀ j, (PlaysN K B l j).2.2 ≤ 8 * B.length
  | 0 => Nat.zero_le _
  | j + 1 => by
    have ih := coins_le K B l j
    rw [PlaysN]
    unfold duoD
    split
    · exact stepD_coin_le ih
    · exact stepD_coin_le ih
set_option maxRecDepth 100000 in
set_option maxHeartbeats 16000000 in
theorem plays_any (k : Nat) (v1 v2 : Value) (B : List Int) (l : List Act4) (w : World) (hk : k ≤ 65535) (hB : RdE u8E w v1 B) (hby : ∀ x ∈ B, 0 ≤ x ∧ x ≤ 255) (hown : ∀ x, v1.ownBlock = some x → x < w.heap.size) (hl : RdO w v2 l) (ho : ∀ o ∈ l, o.fits) :
    Calls Try.prog 8 #[.int .u16 k, v1, v2] w fun e w' => e = .returned (.bool true) ∧ Below w.heap.size w w' := by
  have HAL := Lib.hid (alive_any w)
  obtain ⟨A1, c1, rfl, hB1, hB2, _⟩ := hB.form
  by_cases hlen : B.length ≤ 2000
  · have HBT : Hid (Byt B) := Lib.hid ⟨by omega, hby⟩
    have HSZ := Lib.hid (fun W => lsize_any k W hk)
    obtain ⟨A2, c2, rfl, hl1, hl2, hf⟩ := hl
    have HL := Lib.hid hf
    have HO := Lib.hid ho
    have HB := Lib.hid hB
    have HOW := Lib.hid hown
    clear hB hby hown hf ho
    have hgt : ¬ (B.length : Int) > 2000 := by omega
    obtain ⟨K, hK⟩ : ∃ K, 8 + k % 40 = K := ⟨_, rfl⟩
    have hK8 : 8 ≤ K := by omega
    have hK2 : K ≤ 47 := by omega
    rw [hK] at HSZ
    clear hK
    go_enter Try.func8, Try.ntmps8
    go_wp2_with fail
    refine (HAL.out).mono ?_
    rintro e w1 ⟨rfl, hb1⟩
    have HB1 := Lib.hid hb1
    clear hb1 HAL
    obtain ⟨m, hm⟩ : ∃ m, w1.heap.size = m := ⟨_, rfl⟩
    have HM := Lib.hid hm
    clear hm
    go_wp2_with fail
    refine (HSZ.out w1).mono ?_
    rintro e w2 ⟨rfl, hw2⟩
    subst hw2
    go_wp2_with fail
    refine (new_any K w1 hK8 (by omega)).mono ?_
    rintro e w2 ⟨rfl, hw2⟩
    have KA : Hid (KAt (fun x => x = m) w2 m K [] 0) := Lib.hid (by rw [hw2]; exact kAt_at K w1 m HM.out)
    have BA : Hid (Below w1.heap.size w1 w2) := Lib.hid (by rw [hw2]; exact (Below.refl _ _).alloc (Nat.le_refl _) _)
    have ZA : Hid (w2.heap.size = m + 1) := Lib.hid (by rw [hw2, ← HM.out]; simp)
    rw [HM.out]
    clear hw2
    go_wp2_with fail
    refine (HSZ.out w2).mono ?_
    rintro e w3 ⟨rfl, hw3⟩
    subst hw3
    go_wp2_with fail
    refine (new_any K w2 hK8 (by omega)).mono ?_
    rintro e w3 ⟨rfl, hw3⟩
    have KB : Hid (KAt (fun x => x = m + 1) w3 (m + 1) K [] 0) := Lib.hid (by rw [hw3]; exact kAt_at K w2 (m + 1) ZA.out)
    have BB : Hid (Below w2.heap.size w2 w3) := Lib.hid (by rw [hw3]; exact (Below.refl _ _).alloc (Nat.le_refl _) _)
    have ZB : Hid (w3.heap.size = m + 2) := Lib.hid (by rw [hw3]; simp [ZA.out])
    rw [ZA.out]
    clear hw3
    go_wp2_with fail
    refine (HSZ.out w3).mono ?_
    rintro e w4 ⟨rfl, hw4⟩
    subst hw4
    go_wp2_with fail
    refine (new_any (K + 1) w3 (by omega) (by omega)).mono ?_
    rintro e w4 ⟨rfl, hw4⟩
    have KO : Hid (KAt (fun x => x = m + 2) w4 (m + 2) (K + 1) [] 0) := Lib.hid (by rw [hw4]; exact kAt_at (K + 1) w3 (m + 2) ZB.out)
    have BC : Hid (Below w3.heap.size w3 w4) := Lib.hid (by rw [hw4]; exact (Below.refl _ _).alloc (Nat.le_refl _) _)
    have ZC : Hid (w4.heap.size = m + 3) := Lib.hid (by rw [hw4]; simp [ZB.out])
    rw [ZB.out]
    clear hw4
    go_upto_region 11 with fail
    rw [ZC.out]
    have hD := Blk.new w4 28 #[.pointer (some ⟨m, 0, none⟩), .pointer (some ⟨m + 1, 0, none⟩)]
    have bD : Below w4.heap.size w4 (w4.alloc (.cells #[.pointer (some ⟨m, 0, none⟩), .pointer (some ⟨m + 1, 0, none⟩)] 28)) := (Below.refl _ _).alloc (Nat.le_refl _) _
    have zD : (w4.alloc (.cells #[.pointer (some ⟨m, 0, none⟩), .pointer (some ⟨m + 1, 0, none⟩)] 28)).heap.size = m + 4 := by simp [ZC.out]
    rw [ZC.out] at hD
    obtain ⟨w5, hw5⟩ : ∃ x, w4.alloc (.cells #[.pointer (some ⟨m, 0, none⟩), .pointer (some ⟨m + 1, 0, none⟩)] 28) = x := ⟨_, rfl⟩
    rw [hw5] at hD bD zD ⊢
    have HD := Lib.hid hD
    have BD := Lib.hid bD
    have ZD := Lib.hid zD
    clear hw5 hD bD zD
    go_wp2_with fail
    refine (HSZ.out w5).mono ?_
    rintro e w6 ⟨rfl, hw6⟩
    subst hw6
    go_wp2_with fail
    rw [ZD.out]
    have rE := rAt_at K w5 (m + 4) ZD.out
    have bE : Below w5.heap.size w5 (w5.alloc (.cells #[.int .i64 K, .slice none 0 0, .int .u64 0] 53)) := (Below.refl _ _).alloc (Nat.le_refl _) _
    have zE : (w5.alloc (.cells #[.int .i64 K, .slice none 0 0, .int .u64 0] 53)).heap.size = m + 5 := by simp [ZD.out]
    obtain ⟨w6, hw6⟩ : ∃ x, w5.alloc (.cells #[.int .i64 K, .slice none 0 0, .int .u64 0] 53) = x := ⟨_, rfl⟩
    rw [hw6] at rE bE zE ⊢
    have RE := Lib.hid rE
    have BE := Lib.hid bE
    have ZE := Lib.hid zE
    clear hw6 rE bE zE
    refine (HSZ.out w6).mono ?_
    rintro e w7 ⟨rfl, hw7⟩
    subst hw7
    go_upto_region 12 with fail
    rw [ZE.out]
    have z7 : (w6.alloc (.cells #[.int .i64 K, .slice none 0 0, .int .u64 0] 53)).heap.size = m + 6 := by simp [ZE.out]
    have rF := rAt_at K w6 (m + 5) ZE.out
    have bF : Below w6.heap.size w6 (w6.alloc (.cells #[.int .i64 K, .slice none 0 0, .int .u64 0] 53)) := (Below.refl _ _).alloc (Nat.le_refl _) _
    obtain ⟨w7, hw7⟩ : ∃ x, w6.alloc (.cells #[.int .i64 K, .slice none 0 0, .int .u64 0] 53) = x := ⟨_, rfl⟩
    rw [hw7] at rF bF z7 ⊢
    have hG := Blk.new w7 29 #[.pointer (some ⟨m + 4, 0, none⟩), .pointer (some ⟨m + 5, 0, none⟩)]
    rw [z7] at hG
    have bG : Below w7.heap.size w7 (w7.alloc (.cells #[.pointer (some ⟨m + 4, 0, none⟩), .pointer (some ⟨m + 5, 0, none⟩)] 29)) := (Below.refl _ _).alloc (Nat.le_refl _) _
    have z8 : (w7.alloc (.cells #[.pointer (some ⟨m + 4, 0, none⟩), .pointer (some ⟨m + 5, 0, none⟩)] 29)).heap.size = m + 7 := by simp [z7]
    obtain ⟨w8, hw8⟩ : ∃ x, w7.alloc (.cells #[.pointer (some ⟨m + 4, 0, none⟩), .pointer (some ⟨m + 5, 0, none⟩)] 29) = x := ⟨_, rfl⟩
    rw [hw8] at hG bG z8 ⊢
    have B78 := bG
    have B68 : Below w6.heap.size w6 w8 := bF.trans (bG.mono bF.size)
    have B58 : Below w5.heap.size w5 w8 := BE.out.trans (B68.mono BE.out.size)
    have B48 : Below w4.heap.size w4 w8 := BD.out.trans (B58.mono BD.out.size)
    have B38 : Below w3.heap.size w3 w8 := BC.out.trans (B48.mono BC.out.size)
    have B28 : Below w2.heap.size w2 w8 := BB.out.trans (B38.mono BB.out.size)
    have B18 : Below w1.heap.size w1 w8 := BA.out.trans (B28.mono BA.out.size)
    have B08 : Below w.heap.size w w8 := HB1.out.trans (B18.mono HB1.out.size)
    have k0 := KA.out.keep B28
    have k1 := KB.out.keep B38
    have ko := KO.out.keep B48
    have sD := HD.out.keep B58
    have r0 := RE.out.keep B68
    have r1 := rF.keep B78
    have he := own7_env (v := .slice A1 B.length c1) (m := m) B08 (by rw [← HM.out]; exact HB1.out.size) (by omega)
    have K0 := Lib.hid k0
    have K1 := Lib.hid k1
    have KO8 := Lib.hid ko
    have SD := Lib.hid sD
    have SG := Lib.hid hG
    have R0 := Lib.hid r0
    have R1 := Lib.hid r1
    have HE := Lib.hid he
    have HB8 := Lib.hid B08
    have hz8 : w8.heap.size = m + 7 := z8
    have HZ8 := Lib.hid hz8
    clear hw7 hw8 rF bF z7 hG bG z8 B78 B68 B58 B48 B38 B28 B18 B08 k0 k1 ko sD r0 r1 he hz8 KA KB KO HD RE BA BB BC BD BE ZA ZB ZC ZD ZE HM
    go_wp2_with fail
    refine (knew_any (.slice A1 B.length c1) B w8 (HB.out.keep HB8.out) HBT.out).mono ?_
    rintro e w9 ⟨cg, r, cv, rfl, hcg, hr, hkc, hcv, hb9⟩
    obtain ⟨Ow4, he4, hco4, hsame⟩ := coins_env HE.out (dv := .slice A1 B.length c1) (fun x e => .inl ⟨rfl, e, HOW.out x e⟩) HBT.out (HB.out.keep HB8.out) hkc hcg hr hcv hb9
    have hb10 : Below w8.heap.size w8 (w9.alloc (.cells #[.slice A1 B.length c1, .int .i64 0] 44)) := hb9.trans (((Below.refl _ _).alloc (Nat.le_refl _) _).mono hb9.size)
    have sd := SD.out.keep hb10
    have sg := SG.out.keep hb10
    have hpl : PlayAt w (w9.alloc (.cells #[.slice A1 B.length c1, .int .i64 0] 44)) Ow4 K B m (m + 4) (m + 1) (m + 5) (PlaysN K B l 0) (m + 3) (m + 5 + 1) cg r w9.heap.size cv (.slice A1 B.length c1) := by
      refine ⟨⟨he4, hco4, ?_, ?_, ?_, ?_, Fit.nil_ K, Fit.nil_ K⟩, ?_, ?_, ?_, ?_, ?_, ?_⟩
      · rw [hsame 0 (.inl (by decide)), own7_0]; exact K0.out.keep hb10
      · rw [hsame 1 (.inl (by decide)), own7_1]; exact R0.out.keep hb10
      · rw [hsame 2 (.inl (by decide)), own7_2]; exact K1.out.keep hb10
      · rw [hsame 3 (.inl (by decide)), own7_3]; exact R1.out.keep hb10
      · rw [hsame 4 (.inl (by decide))]; unfold Own7; omega
      · rw [hsame 4 (.inl (by decide))]; unfold Own7; omega
      · have := sd.cell 0; simpa using this
      · have := sd.cell 1; simpa using this
      · have := sg.cell 0; simpa using this
      · have := sg.cell 1; simpa using this
    have hko : Ow4 4 (m + 2) := by rw [hsame 4 (.inl (by decide))]; unfold Own7; omega
    have HPL := Lib.hid hpl
    have HKO := Lib.hid hko
    have KO10 := Lib.hid (KO8.out.keep hb10)
    clear hpl hko sd sg hb10 he4 hco4 hsame hkc hcg hr hcv hb9 K0 K1 KO8 SD SG R0 R1 HE HB8 HZ8
    go_upto_region 13 with fail
    obtain ⟨w10, hw10⟩ : ∃ x, w9.alloc (.cells #[.slice A1 B.length c1, .int .i64 0] 44) = x := ⟨_, rfl⟩
    rw [hw10] at HPL KO10 ⊢
    obtain ⟨dg, hdg⟩ : ∃ dg, w9.heap.size = dg := ⟨_, rfl⟩
    rw [hdg] at HPL ⊢
    clear hw10 hdg
    go_upto_block 0 with fail
    go_cut [17] (fun _ wx => ∃ (x : D2) (Ow : Nat → Nat → Prop), Hid (PlayAt w wx Ow K B m (m + 4) (m + 1) (m + 5) x (m + 3) (m + 5 + 1) cg r dg cv (.slice A1 B.length c1)) ∧ Hid (KAt (fun x => x = m + 2) wx (m + 2) (K + 1) [] 0))
    case first =>
      go_wp2_with fail
      go_loopg [17] (min l.length 60) (fun q i wr => ∃ (j : Nat) (Ow : Nat → Nat → Prop), q = min l.length 60 - j ∧ j ≤ min l.length 60 ∧ i = .int .i64 (j : Int) ∧ Hid (PlayAt w wr Ow K B m (m + 4) (m + 1) (m + 5) (PlaysN K B l j) (m + 3) (m + 5 + 1) cg r dg cv (.slice A1 B.length c1)) ∧ Hid (KAt (fun x => x = m + 2) wr (m + 2) (K + 1) [] 0) ∧ Hid (Ow 4 (m + 2)))
      case atStart => exact ⟨0, Ow4, by omega, by omega, rfl, HPL, KO10, HKO⟩
      case round =>
        obtain ⟨j, Ow, hq, hj, rfl, HP, HK, H4⟩ := hrel
        have HQ := Lib.hid hq
        clear hq
        by_cases hjl : j < min l.length 60
        · have hjl2 : j < l.length := by omega
          have hjl3 : (j : Int) < 60 := by omega
          have hjl4 : (j : Int) < (l.length : Int) := by omega
          obtain ⟨ga, oa, eA, hga, hcc⟩ := HL.out (by omega)
          subst eA
          obtain ⟨q0, q1, q2, q3⟩ := hcc j hjl2
          have hfit := HO.out l[j] (List.getElem_mem hjl2)
          have HNX : Hid (PlaysN K B l (j + 1) = duoD K B l[j] (PlaysN K B l j)) := Lib.hid (by rw [PlaysN, List.getD, List.getElem?_eq_getElem hjl2]; rfl)
          obtain ⟨o, hoe⟩ : ∃ o, l[j] = o := ⟨_, rfl⟩
          rw [hoe] at q0 q1 q2 q3 hfit HNX
          have HDO := Lib.hid (do_two o hfit (HP.out.keep (Below.refl _ _).drew) hK8 (by omega))
          rw [← HNX.out] at HDO
          obtain ⟨y, hy⟩ : ∃ y, PlaysN K B l (j + 1) = y := ⟨_, rfl⟩
          rw [hy] at HDO
          have HYE := Lib.hid hy
          obtain ⟨kd, who, v, n⟩ := o
          simp only at q0 q1 q2 q3 HDO
          have Q0 := Lib.hid q0
          have Q1 := Lib.hid q1
          have Q2 := Lib.hid q2
          have Q3 := Lib.hid q3
          obtain ⟨s', t', b⟩ := y
          have HB0 := Lib.hid HP.out.duo.env.below
          clear hoe hy q0 q1 q2 q3 hfit hcc
          have HSB : Hid (IntKind.i64.wrap (IntKind.i64.wrap (8 * (B.length : Int)) - (b : Int)) = 8 * (B.length : Int) - (b : Int)) := Lib.hid (by
            by_cases hbb : b ≤ 16000
            · rw [IntWalk.i64_in (8 * (B.length : Int)) (by omega), IntWalk.i64_in _ (by omega)]
            · exact absurd (by have := (coins_le K B l (j + 1)); rw [HYE.out] at this; exact this) (by show ¬ b ≤ 8 * B.length; omega))
          go_upto_region 16 with fail
          refine wp_region_planV (fun w' => Below w.heap.size w w') (fun w' => Below w.heap.size w w' ∧ w'.cell? ⟨m + 5 + 1, 0, none⟩ = some (.pointer (some ⟨m + 4, 0, none⟩)) ∧ w'.cell? ⟨m + 5 + 1, 1, none⟩ = some (.pointer (some ⟨m + 5, 0, none⟩)) ∧ w'.cell? ⟨dg, 1, none⟩ = some (.int .i64 b)) 8 [(0, true), (1, true), (2, true), (3, true), (4, true), (5, true), (6, true), (7, true), (8, false), (9, true), (10, true), (11, true), (12, true), (13, true), (14, true), (15, false), (16, true), (17, true), (18, true), (19, true), (20, true), (21, true), (22, true), (23, false), (24, true), (25, true), (26, true), (27, true), (29, true), (30, true), (31, true), (32, true), (33, true), (34, true), (35, true), (36, true), (28, false), (37, true), (38, true)] (by kernel_rfl) (by kernel_rfl) (HB0.out.drew) ?_
          iterate 8
            refine wpPlanV_read (by rfl) (by rfl) (fun R hR => ?_)
            apply Exists.intro
            refine ⟨fun w' hS' => ?_, ?_⟩
            · skip
              have hb : Below w.heap.size w w' := hS'.elim (fun h => h.1) (fun h => h.2)
              have z0 := (hb.cell (p := ⟨ga, oa + j * 4, none⟩) hga).trans Q0.out
              have z1 := (hb.cell (p := ⟨ga, oa + j * 4 + 1, none⟩) hga).trans Q1.out
              have z2 := (hb.cell (p := ⟨ga, oa + j * 4 + 2, none⟩) hga).trans Q2.out
              have z3 := (hb.cell (p := ⟨ga, oa + j * 4 + 3, none⟩) hga).trans Q3.out
              go_simp
              exact ⟨rfl, rfl⟩
            go_simp
            refine hR _ ?_
            clear hR R
          refine wpPlanV_do (by rfl) (by rfl) true rfl (fun K hK => ?_)
          go_simp
          refine (HDO.out).mono ?_
          rintro e w6 ⟨rfl, Ow6, hp6, hf6⟩
          have HP6 := Lib.hid hp6
          have HF6 := Lib.hid hf6
          clear hp6 hf6
          refine hK _ _ ((if_pos rfl).mpr (⟨HP6.out.duo.env.below, HP6.out.y0, HP6.out.y1, HP6.out.duo.co.rc.cellAt⟩)) ?_
          clear hK K
          iterate 6
            refine wpPlanV_read (by rfl) (by rfl) (fun R hR => ?_)
            apply Exists.intro
            refine ⟨fun w' hS' => ?_, ?_⟩
            · replace hS' := hS'.resolve_right (fun h => Bool.noConfusion h.1)
              have z0 := hS'.2.1
              have z1 := hS'.2.2.1
              have z2 := hS'.2.2.2
              have hsb := HSB.out
              go_simp
              exact ⟨rfl, rfl⟩
            go_simp
            refine hR _ ?_
            clear hR R
          refine wpPlanV_do (by rfl) (by rfl) true rfl (fun K hK => ?_)
          go_simp
          refine (same_any w6 HP6.out.duo.k0 HP6.out.duo.r0 HP6.out.duo.f0 hK8 (by omega)).mono ?_
          rintro e w7 ⟨rfl, hb7⟩
          have HP7 := Lib.hid (HP6.out.keep hb7)
          have HZ7 := Lib.hid hb7.size
          have HB7 := Lib.hid hb7
          clear hb7
          refine hK _ _ ((if_pos rfl).mpr (⟨HP7.out.duo.env.below, HP7.out.y0, HP7.out.y1, HP7.out.duo.co.rc.cellAt⟩)) ?_
          clear hK K
          iterate 7
            refine wpPlanV_read (by rfl) (by rfl) (fun R hR => ?_)
            apply Exists.intro
            refine ⟨fun w' hS' => ?_, ?_⟩
            · replace hS' := hS'.resolve_right (fun h => Bool.noConfusion h.1)
              have z0 := hS'.2.1
              have z1 := hS'.2.2.1
              have z2 := hS'.2.2.2
              have hsb := HSB.out
              go_simp
              exact ⟨rfl, rfl⟩
            go_simp
            refine hR _ ?_
            clear hR R
          refine wpPlanV_do (by rfl) (by rfl) true rfl (fun K hK => ?_)
          go_simp
          refine (same_any w7 HP7.out.duo.k1 HP7.out.duo.r1 HP7.out.duo.f1 hK8 (by omega)).mono ?_
          rintro e w8 ⟨rfl, hb8⟩
          have HP8 := Lib.hid (HP7.out.keep hb8)
          have HB8 := Lib.hid (HB7.out.trans (hb8.mono HZ7.out))
          clear hb8
          refine hK _ _ ((if_pos rfl).mpr (⟨HP8.out.duo.env.below, HP8.out.y0, HP8.out.y1, HP8.out.duo.co.rc.cellAt⟩)) ?_
          clear hK K
          iterate 12
            refine wpPlanV_read (by rfl) (by rfl) (fun R hR => ?_)
            apply Exists.intro
            refine ⟨fun w' hS' => ?_, ?_⟩
            · replace hS' := hS'.resolve_right (fun h => Bool.noConfusion h.1)
              have z0 := hS'.2.1
              have z1 := hS'.2.2.1
              have z2 := hS'.2.2.2
              have hsb := HSB.out
              go_simp
              exact ⟨rfl, rfl⟩
            go_simp
            refine hR _ ?_
            clear hR R
          refine wpPlanV_do (by rfl) (by rfl) true rfl (fun K hK => ?_)
          go_simp
          refine (kleft_env (a := b) (b := b) HP8.out.duo.env HP8.out.duo.co).mono ?_
          rintro e w9 ⟨rfl, _, _, q9, hw9⟩
          have hb9 : Below w8.heap.size w8 w9 := (by rw [hw9]; exact below_drewN (Below.refl _ _) _)
          have HP9 := Lib.hid (HP8.out.keep hb9)
          have HB9 : Hid (Below w6.heap.size w6 w9) := Lib.hid (HB8.out.trans (hb9.mono HB8.out.size))
          clear hw9 hb9
          refine hK _ _ ((if_pos rfl).mpr (⟨HP9.out.duo.env.below, HP9.out.y0, HP9.out.y1, HP9.out.duo.co.rc.cellAt⟩)) ?_
          clear hK K
          iterate 2
            refine wpPlanV_read (by rfl) (by rfl) (fun R hR => ?_)
            apply Exists.intro
            refine ⟨fun w' hS' => ?_, ?_⟩
            · replace hS' := hS'.resolve_right (fun h => Bool.noConfusion h.1)
              have z0 := hS'.2.1
              have z1 := hS'.2.2.1
              have z2 := hS'.2.2.2
              have hsb := HSB.out
              go_simp
              exact ⟨rfl, rfl⟩
            go_simp
            refine hR _ ?_
            clear hR R
          refine wpPlanV_nil ?_
          have hko : ∀ x, x = m + 2 → w6.heap[x]? = wr.heap[x]? := fun x hx => by rw [hx]; exact (HF6.out.1 _ H4.out).2
          have HK9 : Hid (KAt (fun x => x = m + 2) w9 (m + 2) (K + 1) [] 0) := Lib.hid ((HK.out.stay hko HF6.out.2).keep HB9.out)
          have H49 : Hid (Ow6 4 (m + 2)) := Lib.hid (HF6.out.1 _ H4.out).1
          have HPN : Hid (PlayAt w w9 Ow6 K B m (m + 4) (m + 1) (m + 5) (PlaysN K B l (j + 1)) (m + 3) (m + 5 + 1) cg r dg cv (.slice A1 B.length c1)) := Lib.hid (by rw [HYE.out]; exact HP9.out)
          have hself : (8 * (B.length : Int) - (b : Int) == 8 * (B.length : Int) - (b : Int)) = true := by simp
          go_wp2_with fail
          go_roundg (min l.length 60 - (j + 1))
          case measure => have := HQ.out; omega
          case rel => exact ⟨j + 1, Ow6, rfl, by omega, by go_num, HPN, HK9, H49⟩
        · have HEND : Hid (PlayAt w wr Ow K B m (m + 4) (m + 1) (m + 5) (PlaysN K B l j) (m + 3) (m + 5 + 1) cg r dg cv (.slice A1 B.length c1)) := HP
          by_cases h60 : j < l.length
          · have h1 : ¬ (j : Int) < 60 := by omega
            go_wp2_with fail
            go_meet
            exact ⟨_, Ow, HEND, HK⟩
          · have h1 : ¬ (j : Int) < (l.length : Int) := by omega
            go_wp2_with fail
            go_meet
            exact ⟨_, Ow, HEND, HK⟩
    case rest =>
      obtain ⟨x, Ow, HP, HK⟩ := hcut
      obtain ⟨lv, vs, hs⟩ := HP.out.duo.k0
      obtain ⟨lv2, vs2, ht⟩ := HK.out
      have HTK := Lib.hid (fun q => take_kind q wc hs ht (by omega))
      have HBE := Lib.hid HP.out.duo.env.below
      clear hs ht
      go_wp2_with fail
      refine (take_nil m _ wc).mono ?_
      rintro e w5 ⟨rfl, hw5⟩
      subst hw5
      go_wp2_with fail
      refine (HTK.out _).mono ?_
      rintro e w5 ⟨rfl, q5, hw5⟩
      have HB5 : Hid (Below w.heap.size w w5) := Lib.hid (by rw [hw5]; exact below_drewN HBE.out _)
      clear hw5
      go_wp2_with fail
      refine bodyPost_ret (by simp [results, Try.results8, go_sem, *]; try rfl) rfl ?_
      exact ⟨rfl, HB5.out⟩
  · have hgt : (B.length : Int) > 2000 := by omega
    clear hB hby hown hl ho
    go_enter Try.func8, Try.ntmps8
    go_wp2_with fail
    refine (HAL.out).mono ?_
    rintro e w1 ⟨rfl, hb1⟩
    go_wp2_with fail
    refine bodyPost_ret (by simp [results, Try.results8, go_sem, *]; try rfl) rfl ?_
    exact ⟨rfl, hb1⟩
end Go.Proofs.Ytigmncogjbbmhaa
