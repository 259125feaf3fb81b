/- KllLoads, walked. Conditions: bytes are bytes; numbers of 64 bits. -/
import Derived.Test.YtigmncogjbbmhaaKmI
import Derived.Test.YtigmncogjbbmhaaKmT
namespace Go.Proofs.Ytigmncogjbbmhaa
open Go.RowKit

theorem KAt.lw {F : Nat → Prop} {w : World} {g k led : Nat} {L : LL} (h : KAt F w g k L led) : ∀ x, F x → x < w.heap.size := by
  obtain ⟨lv, vs, h⟩ := h
  exact h.low
theorem RAt.lw {F : Nat → Prop} {w : World} {g k led : Nat} {L : LL} (h : RAt F w g k L led) : ∀ x, F x → x < w.heap.size := by
  obtain ⟨lv, vs, h⟩ := h
  exact h.low
set_option maxRecDepth 100000 in
set_option maxHeartbeats 16000000 in
theorem loads_any (k : Int) (v1 : Value) (L : LL) (led : Nat) (x : Int) (n : Nat) (v5 : Value) (B : List Int) (w : World) (hL : LLR w v1 L) (k0 : -9223372036854775808 ≤ k) (k1 : k ≤ 9223372036854775807) (hled : led < 18446744073709551616) (hn : n < 18446744073709551616)
    (hB : RdE u8E w v5 B) (hby : ∀ x ∈ B, 0 ≤ x ∧ x ≤ 255) (hown : ∀ x, v5.ownBlock = some x → x < w.heap.size) :
    Calls Try.prog 9 #[.int .i64 k, v1, .int .u64 led, .int .i64 x, .int .u64 n, v5] w fun e w' => e = .returned (.bool true) ∧ Below w.heap.size w w' := by
  obtain ⟨i0, hi0, hiz, his, hib⟩ := info_parts i64I
  have HI := Lib.hid hi0
  have HZ := Lib.hid hiz
  have HSZ := Lib.hid his
  have HBY := Lib.hid hib
  clear hi0 hiz his hib
  obtain ⟨i1, hi0, hiz, his, hib⟩ := info_parts slI
  have JI := Lib.hid hi0
  have JZ := Lib.hid hiz
  have JSZ := Lib.hid his
  have JBY := Lib.hid hib
  clear hi0 hiz his hib
  have HAL := Lib.hid (alive_any w)
  have HL := Lib.hid hL
  obtain ⟨A1, c1, rfl, hl1, hl2⟩ := hL.form
  have HB := Lib.hid hB
  obtain ⟨AB, cB, rfl, hB1, hB2, _⟩ := hB.form
  have HBB := Lib.hid hby
  have HOW := Lib.hid hown
  clear hL hB hby hown
  by_cases h60 : L.length > 60
  · have h60i : (L.length : Int) > 60 := by omega
    go_enter Try.func9, Try.ntmps9
    go_wp2_with fail
    refine (HAL.out).mono ?_
    rintro e w1 ⟨rfl, hb1⟩
    go_wp2_with fail
    refine bodyPost_ret (by simp [results, Try.results9, go_sem, *]; try rfl) rfl ?_
    exact ⟨rfl, hb1⟩
  have h60i : ¬ (L.length : Int) > 60 := by omega
  by_cases h500 : B.length > 500
  · have h500i : (B.length : Int) > 500 := by omega
    go_enter Try.func9, Try.ntmps9
    go_wp2_with fail
    refine (HAL.out).mono ?_
    rintro e w1 ⟨rfl, hb1⟩
    go_wp2_with fail
    refine bodyPost_ret (by simp [results, Try.results9, go_sem, *]; try rfl) rfl ?_
    exact ⟨rfl, hb1⟩
  have h500i : ¬ (B.length : Int) > 500 := by omega
  have HBT : Hid (Byt B) := Lib.hid ⟨by omega, HBB.out⟩
  clear HBB
  go_enter Try.func9, Try.ntmps9
  go_wp2_with fail
  refine (HAL.out).mono ?_
  rintro e w1 ⟨rfl, hb1⟩
  have HB1 := Lib.hid hb1
  clear hb1 HAL
  go_wp2_with fail
  go_loopg [13] L.length (fun q i wr => (∃ j : Nat, q = L.length - j ∧ j ≤ L.length ∧ i = .int .i64 (j : Int) ∧ Hid (∀ h, h < j → (lvl L h).length ≤ 200)) ∧ w1 = wr)
  case atStart => exact ⟨⟨0, by omega, by omega, rfl, Lib.hid fun h hh => absurd hh (by omega)⟩, rfl⟩
  case round =>
    obtain ⟨⟨j, hq, hj, rfl, H2⟩, rfl⟩ := hrel
    have HQ := Lib.hid hq
    clear hq
    by_cases hjl : j < L.length
    · obtain ⟨gl, off, sA, sc, eA, hgl, c2, _⟩ := HL.out.at_ hjl
      subst eA
      have hji : (j : Int) < (L.length : Int) := by omega
      have k2 := (HB1.out.cell (p := ⟨gl, off + j, none⟩) hgl).trans c2
      obtain ⟨y, hy⟩ : ∃ y, (lvl L j).length = y := ⟨_, rfl⟩
      rw [hy] at k2
      have HYE := Lib.hid hy
      clear hy c2
      by_cases hy2 : y > 200
      · have hy2i : (y : Int) > 200 := by omega
        go_wp2_with fail
        refine bodyPost_ret (by simp [results, Try.results9, go_sem, *]; try rfl) rfl ?_
        exact ⟨rfl, HB1.out⟩
      · have hy2i : ¬ (y : Int) > 200 := by omega
        go_wp2_with fail
        go_roundg (L.length - (j + 1))
        case measure => have := HQ.out; omega
        case rel => exact ⟨⟨j + 1, rfl, by omega, by go_num, Lib.hid fun h hh => by
          rcases Nat.lt_or_ge h j with h1 | h1
          · exact H2.out h h1
          · obtain rfl : h = j := by omega
            rw [HYE.out]; omega⟩, rfl⟩
    · obtain rfl : j = L.length := by omega
      have HSM : Hid (∀ h, (lvl L h).length ≤ 200) := Lib.hid fun h => by
        rcases Nat.lt_or_ge h L.length with h1 | h1
        · exact H2.out h h1
        · rw [lvl_of_ge h1]; simp
      have HLO := Lib.hid (load_any k _ L led w1 (HL.out.keep HB1.out) k0 k1 hled (fun j => by have := HSM.out j; omega))
      clear H2 HQ
      go_wp2_with fail
      refine (HLO.out).mono ?_
      rintro e w2 ⟨hor, hb2⟩
      have HB12 := Lib.hid hb2
      have HB2 : Hid (Below w.heap.size w w2) := Lib.hid (HB1.out.trans (hb2.mono HB1.out.size))
      have HRI := Lib.hid (right_any k _ L led w2 (HL.out.keep HB2.out) k0 k1 hled)
      clear hb2 HLO
      rcases hor with ⟨g, rfl, hrp, F, hkt, hnew⟩ | ⟨rfl, hno⟩
      case inr =>
        rw [rightB_no hno] at HRI
        clear hno
        go_wp2_with fail
        refine (HRI.out).mono ?_
        rintro e w3 ⟨rfl, hb3⟩
        have HB3 : Hid (Below w.heap.size w w3) := Lib.hid (HB2.out.trans (hb3.mono HB2.out.size))
        clear hb3
        go_wp2_with fail
        refine bodyPost_ret (by simp [results, Try.results9, go_sem, *]; try rfl) rfl ?_
        exact ⟨rfl, HB3.out⟩
      rw [rightB_yes hrp] at HRI
      obtain ⟨K, rfl⟩ : ∃ K : Nat, k = K := ⟨k.toNat, by have := hrp.k8; omega⟩
      rw [Int.toNat_natCast] at hkt
      have hK8 : 8 ≤ K := by have := hrp.k8; omega
      have hK4 : K ≤ 4096 := by have := hrp.k4; omega
      have HF : Hid (Fit K L led) := Lib.hid hrp.fit
      have HKT := Lib.hid hkt
      have HNW := Lib.hid hnew
      clear hkt hnew hrp
      go_wp2_with fail
      refine (HRI.out).mono ?_
      rintro e w3 ⟨rfl, hb3⟩
      have HB23 := Lib.hid hb3
      have HB3 : Hid (Below w.heap.size w w3) := Lib.hid (HB2.out.trans (hb3.mono HB2.out.size))
      clear hb3 HRI
      go_upto_region 14 with fail
      have hst0 : Rst (fun x => x = w3.heap.size) (w3.alloc (.cells #[.int .i64 K, .slice none 0 0, .int .u64 led] 53)) w3.heap.size K led (.slice none 0 0) [] [] := stG_new (Blk.new w3 _ _)
      have HP0 : Hid (PuAt w3 w3.heap.size K led L 0 (fun x => x = w3.heap.size) (w3.alloc (.cells #[.int .i64 K, .slice none 0 0, .int .u64 led] 53)) (.slice none 0 0) []) := Lib.hid ⟨hst0, fun x hx => Nat.le_of_eq hx.symm, (Below.refl _ _).alloc (Nat.le_refl _) _⟩
      obtain ⟨h, hh⟩ : ∃ h, w3.heap.size = h := ⟨_, rfl⟩
      obtain ⟨w4, hw4⟩ : ∃ z, w3.alloc (.cells #[.int .i64 K, .slice none 0 0, .int .u64 led] 53) = z := ⟨_, rfl⟩
      rw [hw4, hh] at HP0
      rw [hw4, hh]
      have HHE := Lib.hid hh
      clear hst0 hw4 hh
      go_wp2_with fail
      go_loopg [17] L.length (fun q i wr => ∃ (j : Nat) (F1 : Nat → Prop) (lv : Value) (vs : List Sv), q = L.length - j ∧ j ≤ L.length ∧ i = .int .i64 (j : Int) ∧ Hid (PuAt w3 h K led L j F1 wr lv vs))
      case atStart => exact ⟨0, _, _, _, by omega, by omega, rfl, HP0⟩
      case round =>
        obtain ⟨j, F1, lv, vs, hq, hj, rfl, HA⟩ := hrel
        have HQ := Lib.hid hq
        clear hq
        have HBR : Hid (Below w.heap.size w wr) := Lib.hid (HB3.out.trans (HA.out.below.mono HB3.out.size))
        have hbz := HBR.out.size
        have hhr := HA.out.st.blk.lt
        by_cases hjl : j < L.length
        · obtain ⟨gl, off, sA, sc, eA, hgl, c2, rA⟩ := HL.out.at_ hjl
          subst eA
          have hji : (j : Int) < (L.length : Int) := by omega
          have hlb := HSM.out j
          have HTS := Lib.hid (take_snoc hjl)
          obtain ⟨l, hl⟩ : ∃ l, lvl L j = l := ⟨_, rfl⟩
          rw [hl] at c2 rA hlb HTS
          have C2 := Lib.hid c2
          have HRA := Lib.hid rA
          have hvl : vs.length = j := by rw [HA.out.st.lev.len, List.length_take]; omega
          have HROW := Lib.hid HA.out.st.lev.row
          have HG1 := Lib.hid HA.out.st.g1
          have K1 := Lib.hid HA.out.st.cell1
          have FZ := Lib.hid (HA.out.st.blk.frozen 1)
          have HFL : Hid (∀ k, lv.ownBlock = some k → F1 k) := Lib.hid HA.out.st.lev.fl
          have HFN : Hid (∀ x, F1 x → w3.heap.size ≤ x ∧ x < wr.heap.size) := Lib.hid fun x hx => ⟨HA.out.new x hx, HA.out.st.low x hx⟩
          have hz3 : w3.heap.size ≤ wr.heap.size := HA.out.below.size
          have hz33 : w.heap.size ≤ w3.heap.size := HB3.out.size
          have HHN : Hid (w3.heap.size ≤ h) := Lib.hid (Nat.le_of_eq HHE.out)
          obtain ⟨AL, cL, elv, _, _, _⟩ := HROW.out.form
          rw [hvl] at elv
          subst elv
          clear hl c2 rA
          go_upto_region 17 with fail
          refine wp_region_planS (fun w' => w'.heap[h]? = wr.heap[h]? ∧ Below w.heap.size w w') 15 [(0, 1), (1, 1), (2, 1), (3, 1), (4, 1), (6, 1), (7, 1), (8, 1), (9, 1), (5, 0), (10, 0), (11, 0), (12, 0), (13, 2), (14, 1), (15, 0)] (by kernel_rfl) (by kernel_rfl) (⟨rfl, HBR.out.drew⟩) ?_
          iterate 9
            refine wpPlanS_read (by rfl) (by rfl) (fun R hR => ?_)
            apply Exists.intro
            refine ⟨fun w' hS' => ?_, ?_⟩
            · have k1 := (World.cell?_of_block (a := ⟨h, 1, none⟩) hS'.1).trans K1.out
              have kl := (hS'.2.cell (p := ⟨gl, off + j, none⟩) hgl).trans C2.out
              go_simp
              exact ⟨rfl, rfl⟩
            go_simp
            refine hR _ ?_
            clear hR R
          refine wpPlanS_do (by rfl) (by rfl) (by rfl) (fun K hK => ?_)
          go_simp
          refine hK _ _ (⟨(Below.alloc ((Below.refl wr.heap.size wr).drew) (Nat.le_refl _) _).block h hhr, (HBR.out.drew).alloc hbz _⟩) ?_
          clear hK K
          refine wpPlanS_do (by rfl) (by rfl) (by rfl) (fun K hK => ?_)
          refine wp_append_E i64E (ts := 24) i0 _ 8 Try.underlying24 HI.out HZ.out HSZ.out HBY.out rfl (by decide) (by decide) (.tmp 73) (.tmp 77) rfl wr.heap.size _ [] rfl (OwnE.lit (E := i64E) wr.drew [] _ rfl _ rfl (by decide)) _ l rfl (HRA.out.keep ((HBR.out.drew).alloc hbz _)) (by simp; omega) (by simp) ?_
          intro v6 w6 o6 g6 a6
          simp only [List.nil_append] at o6
          have HB5 : Hid (Below wr.heap.size wr w6) := Lib.hid ((Below.alloc ((Below.refl wr.heap.size wr).drew) (Nat.le_refl _) _).grown g6 (by simp) (fun k hk => by have := Option.some.inj (show some wr.heap.size = some k from hk); omega))
          have hz5 := HB5.out.size
          obtain ⟨A5, c5, rfl, _, _, _⟩ := o6.form
          have O5 := Lib.hid o6
          clear o6 g6 a6
          go_simp
          refine hK _ _ (⟨HB5.out.block h hhr, HBR.out.trans (HB5.out.mono hbz)⟩) ?_
          clear hK K
          refine wpPlanS_do (by rfl) (by rfl) (by rfl) (fun K hK => ?_)
          go_simp
          have HB6 : Hid (Below wr.heap.size wr (w6.alloc (.cells #[.slice A5 l.length c5] 24))) := Lib.hid (HB5.out.alloc hz5 _)
          refine hK _ _ (⟨HB6.out.block h hhr, HBR.out.trans (HB6.out.mono hbz)⟩) ?_
          clear hK K
          refine wpPlanS_do (by rfl) (by rfl) (by rfl) (fun K hK => ?_)
          refine wp_append_E slE (ts := 48) i1 _ 24 Try.underlying48 JI.out JZ.out JSZ.out JBY.out rfl (by decide) (by decide) (.tmp 72) (.tmp 79) rfl 0 (.slice AL j cL) vs rfl (HROW.out.keep HB6.out) _ [(A5, l.length, c5)] rfl (RdE.one_at (E := slE) w6 (A5, l.length, c5) _ rfl _ rfl _ rfl) (by simp; omega) (by simp) ?_
          intro v7 w7 o7 g7 a7
          have O7 := Lib.hid o7
          have G7 := Lib.hid g7
          have A7 := Lib.hid a7
          have HH7 : Hid (w7.heap[h]? = wr.heap[h]?) := Lib.hid ((g7.block h (by have := HB6.out.size; omega) (fun e => HG1.out e.symm)).trans (HB6.out.block h hhr))
          have HB7 : Hid (Below w.heap.size w w7) := Lib.hid ((HBR.out.trans (HB6.out.mono hbz)).grown g7 (by have := HB6.out.size; omega) (fun k hk => by have := (HFN.out k (HFL.out k hk)).1; omega))
          obtain ⟨A8, c8, rfl, _, _, _⟩ := o7.form
          clear o7 g7 a7
          go_simp
          refine hK _ _ (⟨HH7.out, HB7.out⟩) ?_
          clear hK K
          iterate 1
            refine wpPlanS_pure (by rfl) (by rfl) (fun R hR => ?_)
            apply Exists.intro
            refine ⟨fun w' => ?_, ?_⟩
            · go_simp
              exact ⟨rfl, rfl⟩
            go_simp
            refine hR _ ?_
            clear hR R
          iterate 1
            refine wpPlanS_read (by rfl) (by rfl) (fun R hR => ?_)
            apply Exists.intro
            refine ⟨fun w' hS' => ?_, ?_⟩
            · have k1 := (World.cell?_of_block (a := ⟨h, 1, none⟩) hS'.1).trans K1.out
              have kl := (hS'.2.cell (p := ⟨gl, off + j, none⟩) hgl).trans C2.out
              go_simp
              exact ⟨rfl, rfl⟩
            go_simp
            refine hR _ ?_
            clear hR R
          refine wpPlanS_end (by rfl) (by rfl) (by rfl) (fun K hK => ?_)
          have k9 := (World.cell?_of_block (a := ⟨h, 1, none⟩) HH7.out).trans K1.out
          have f9 := (World.frozen?_of_block (a := ⟨h, 1, none⟩) HH7.out).trans FZ.out
          go_simp
          refine hK _ _ ?_
          clear hK K
          refine wpPlanS_nil ?_
          clear k9 f9
          have e7 : (vs ++ [(A5, l.length, c5)]).length = j + 1 := by rw [List.length_append, hvl]; rfl
          rw [e7] at O7 A7
          have hst6 := HA.out.st.keep HB6.out
          have hpush := StG.push (s := (A5, l.length, c5)) (l := l) hst6 O7.out G7.out A7.out ((O5.out.alloc (.cells #[.slice A5 l.length c5] 24)).more (Nat.zero_le _)) (fun kk e h1 => by have := (O5.out.lt kk e).1; have := (HFN.out kk h1).2; omega)
          rw [← HTS.out] at hpush
          have hz6 := HB6.out.size
          have hnw9 : ∀ x, (F1 x ∨ (Value.slice A8 (j + 1) c8).ownBlock = some x ∨ (svV (A5, l.length, c5)).ownBlock = some x) → w3.heap.size ≤ x := fun x hx => by
            rcases hx with hx | hx | hx
            · exact (HFN.out x hx).1
            · rcases A7.out with e | e
              · rw [e] at hx; exact (HFN.out x (HFL.out x hx)).1
              · rw [e] at hx
                have := Option.some.inj hx
                omega
            · have := (O5.out.lt x hx).1; omega
          have hb9 : Below w3.heap.size w3 (w7.setCell ⟨h, 1, none⟩ (.slice A8 (j + 1) c8)) := Below.setCell ((HA.out.below.trans (HB6.out.mono hz3)).grown G7.out (by omega) (fun kk hk => (HFN.out kk (HFL.out kk hk)).1)) HHN.out _
          have HNP : Hid (PuAt w3 h K led L (j + 1) (fun k => F1 k ∨ (Value.slice A8 (j + 1) c8).ownBlock = some k ∨ (svV (A5, l.length, c5)).ownBlock = some k) (w7.setCell ⟨h, 1, none⟩ (.slice A8 (j + 1) c8)) (.slice A8 (j + 1) c8) (vs ++ [(A5, l.length, c5)])) := Lib.hid ⟨hpush, hnw9, hb9⟩
          obtain ⟨w9, hw9⟩ : ∃ z, w7.setCell ⟨h, 1, none⟩ (.slice A8 (j + 1) c8) = z := ⟨_, rfl⟩
          rw [hw9] at HNP
          rw [hw9]
          clear hst6 hpush hnw9 hb9 hw9 e7
          go_wp2_with fail
          go_roundg (L.length - (j + 1))
          case measure => have := HQ.out; omega
          case rel => exact ⟨j + 1, _, _, _, rfl, by omega, by go_num, HNP⟩
        · obtain rfl : j = L.length := by omega
          have hst := HA.out.st
          rw [List.take_length] at hst
          have HRT : Hid (RAt F1 wr h K L led) := Lib.hid ⟨lv, vs, hst⟩
          have HB2R : Hid (Below w2.heap.size w2 wr) := Lib.hid (HB23.out.trans (HA.out.below.mono HB23.out.size))
          have HKR : Hid (KAt F wr g K L led) := Lib.hid (HKT.out.keep HB2R.out)
          have HD : Hid (∀ x, F x → x < w3.heap.size) := Lib.hid fun x hx => Nat.lt_of_lt_of_le (HKT.out.lw x hx) HB23.out.size
          have HF1 : Hid (∀ x, F1 x → w3.heap.size ≤ x) := Lib.hid HA.out.new
          have HNF : Hid (∀ x, F x → w.heap.size ≤ x) := Lib.hid fun x hx => Nat.le_trans HB1.out.size (HNW.out x hx)
          have hz3 : w.heap.size ≤ w3.heap.size := HB3.out.size
          clear hst HA HQ HKT
          go_wp2_with fail
          refine (same_any wr HKR.out HRT.out HF.out hK8 hK4).mono ?_
          rintro e w5 ⟨rfl, hb5⟩
          have HK5 : Hid (KAt F w5 g K L led) := Lib.hid (HKR.out.keep hb5)
          have HR5 : Hid (RAt F1 w5 h K L led) := Lib.hid (HRT.out.keep hb5)
          have HB5 : Hid (Below w.heap.size w w5) := Lib.hid (HBR.out.trans (hb5.mono hbz))
          have hz5 := HB5.out.size
          clear hb5 HRT HKR HBR HB2R
          go_wp2_with fail
          refine (knew_any (.slice AB B.length cB) B w5 (HB.out.keep HB5.out) HBT.out).mono ?_
          rintro e w6 ⟨cg, r, cv, rfl, hcg, hr, hkc, hcv, hb6⟩
          have hz6 := hb6.size
          have hlF := HK5.out.lw
          have hlF1 := HR5.out.lw
          have hfar : CoFar F w6 cg r cv := ⟨fun e => by have := hlF _ e; omega, fun e => by have := hlF _ e; omega, fun x e => ⟨fun e2 => by have := hlF _ e2; have := hcv x e; omega, (hcv x e).2⟩, hkc.blk.lt, hkc.rd.blk.lt⟩
          have HAD := Lib.hid (kadd_touch x n (HK5.out.keep hb6) hkc hfar HF.out hK8 hK4 hn)
          have HR6 : Hid (RAt F1 w6 h K L led) := Lib.hid (HR5.out.keep hb6)
          have HB6 : Hid (Below w.heap.size w w6) := Lib.hid (HB5.out.trans (hb6.mono hz5))
          obtain ⟨code, hcode⟩ : ∃ code, addE L n = code := ⟨_, rfl⟩
          rw [hcode] at HAD
          have HCD := Lib.hid hcode
          clear hfar hkc hcv hb6 hcode HK5 HR5
          go_wp2_with fail
          refine (HAD.out).mono ?_
          rintro e w7 ⟨rfl, F', hk7, ht7, hs7⟩
          have hz7 := ht7.size
          have HR7 : Hid (RAt F1 w7 h K L led) := Lib.hid (HR6.out.stay (fun x hx => ht7.block x (HR6.out.lw x hx) (fun h1 => by
            have := HF1.out x hx
            have := hlF1 x hx
            rcases h1 with h1 | h1
            · have := HD.out x h1; omega
            · omega)) hz7)
          have HB7 : Hid (Below w.heap.size w w7) := Lib.hid (HB6.out.trans (ht7.below (fun i hi => by
            rcases hi with hi | hi
            · exact HNF.out i hi
            · omega) HB6.out.size))
          have HK7 := Lib.hid hk7
          have HS7 : Hid (∀ x, F' x → F x ∨ w6.heap.size ≤ x) := Lib.hid hs7
          clear hk7 ht7 hs7 HAD
          go_wp2_with fail
          have hz8 : (w7.alloc (.cells #[.slice AB B.length cB, .int .i64 0] 44)).heap.size = w7.heap.size + 1 := by simp
          have hb8 : Below w7.heap.size w7 (w7.alloc (.cells #[.slice AB B.length cB, .int .i64 0] 44)) := (Below.refl _ _).alloc (Nat.le_refl _) _
          have HR8 : Hid (RAt F1 (w7.alloc (.cells #[.slice AB B.length cB, .int .i64 0] 44)) h K L led) := Lib.hid (HR7.out.keep hb8)
          have HK8 := Lib.hid (HK7.out.keep hb8)
          have HB8 : Hid (Below w.heap.size w (w7.alloc (.cells #[.slice AB B.length cB, .int .i64 0] 44))) := Lib.hid (HB7.out.trans (hb8.mono HB7.out.size))
          have hzw : w.heap.size ≤ w7.heap.size := HB7.out.size
          have HRC : Hid (RC (w7.alloc (.cells #[.slice AB B.length cB, .int .i64 0] 44)) w7.heap.size (.slice AB B.length cB) B 0) := Lib.hid ⟨Blk.new w7 _ _, HB.out.keep HB8.out, fun e => by have := HOW.out _ e; omega, Nat.zero_le _, HBT.out⟩
          have HRF : Hid (RoFar F1 (w7.alloc (.cells #[.slice AB B.length cB, .int .i64 0] 44)) w7.heap.size (.slice AB B.length cB)) := Lib.hid ⟨fun e => by have := HR7.out.lw _ e; omega, fun x e => ⟨fun e2 => by have := HF1.out x e2; have := HOW.out x e; omega, by have := HOW.out x e; omega⟩, by omega⟩
          have HFK : Hid (∀ x, F' x → x < w7.heap.size) := Lib.hid HK7.out.lw
          obtain ⟨dg, hdg⟩ : ∃ dg, w7.heap.size = dg := ⟨_, rfl⟩
          obtain ⟨w8, hw8⟩ : ∃ z, w7.alloc (.cells #[.slice AB B.length cB, .int .i64 0] 44) = z := ⟨_, rfl⟩
          rw [hw8] at HR8 HK8 HB8 HRC HRF hz8
          rw [hdg] at HRC HRF HFK hz8 hz7 hzw
          rw [hw8, hdg]
          have HRD := Lib.hid (radd_touch x n HR8.out HRC.out HRF.out HF.out hK8 hK4 hn)
          rw [HCD.out] at HRD
          have hcc : (code == code) = true := by simp
          clear hw8 hdg hb8 HRF HRC HR7 HK7 HB7
          refine (HRD.out).mono ?_
          rintro e w9 ⟨rfl, F2, hr9, ht9⟩
          have hz9 := ht9.size
          have HK9 := Lib.hid (HK8.out.stay (fun x hx => ht9.block x (HK8.out.lw x hx) (fun h1 => by
            have h4 := HFK.out x hx
            rcases h1 with h1 | h1
            · have h2 := HF1.out x h1
              have h3 := hlF1 x h1
              rcases HS7.out x hx with h5 | h5
              · have := HD.out x h5; omega
              · omega
            · omega)) hz9)
          have HB9 : Hid (Below w.heap.size w w9) := Lib.hid (HB8.out.trans (ht9.below (fun i hi => by
            rcases hi with hi | hi
            · have := HF1.out i hi; omega
            · omega) HB8.out.size))
          have HR9 := Lib.hid hr9
          clear hr9 ht9 HRD
          go_wp2_with fail
          refine (same_any w9 HK9.out HR9.out (addS_fit HF.out (by omega) (by omega)) hK8 hK4).mono ?_
          rintro e w10 ⟨rfl, hb10⟩
          have HB10 : Hid (Below w.heap.size w w10) := Lib.hid (HB9.out.trans (hb10.mono HB9.out.size))
          clear hb10
          go_wp2_with fail
          refine bodyPost_ret (by simp [results, Try.results9, go_sem, *]; try rfl) rfl ?_
          exact ⟨rfl, HB10.out⟩
end Go.Proofs.Ytigmncogjbbmhaa
