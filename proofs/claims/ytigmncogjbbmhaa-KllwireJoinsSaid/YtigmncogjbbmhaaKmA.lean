/- KllCoins, walked. Conditions: bytes are bytes; numbers of 64 bits. -/
import Derived.Test.YtigmncogjbbmhaaKlZ
import Derived.Test.YtigmncogjbbmhaaPlanV
namespace Go.Proofs.Ytigmncogjbbmhaa
open Go.RowKit

theorem upd_self {Ow : Nat → Nat → Prop} {c : Nat} : upd Ow c (Ow c) = Ow := by
  funext d x
  unfold upd
  by_cases h : d = c
  · subst h; simp
  · simp [h]
section
variable {W w : World} {Ow : Nat → Nat → Prop} {cg r dg a b : Nat} {cv dv : Value} {B : List Int}
theorem knext_env (he : Env W w Ow) (hco : Co w Ow cg r cv dg dv B a b) :
    Calls Try.prog 24 #[.pointer (some ⟨cg, 0, none⟩)] w fun e w' => e = .returned (.int .i64 (coinAt B a : Nat)) ∧ Env W w' Ow ∧ Co w' Ow cg r cv dg dv B (coinNx B a) b := by
  refine (knext_any cg r cv B a w hco.kc).mono ?_
  rintro e w' ⟨rfl, hk, ht⟩
  have ht' : Touch (fun x => Ow 5 x ∨ Ow 5 x) w w' := ht.mono fun x hx => .inl (by rw [show x = r from hx]; exact hco.o5)
  have h1 := he.step (c := 5) (e := 5) (F := Ow 5) (by decide) (by decide) ht' (fun x hx => .inl hx) (fun x hx => Nat.lt_of_lt_of_le (he.lt _ _ hx) ht.size)
  rw [upd_self] at h1
  have hk2 := he.kept ht'
  exact ⟨rfl, h1, hk, hco.rc.stay (hk2 6 _ (by decide) (by decide) hco.o6) (fun x e => hk2 9 x (by decide) (by decide) (hco.o9 x e)) ht.size, hco.o7, hco.o5, hco.u5, hco.o8, hco.o6, hco.u6, hco.o9⟩
theorem rnext_env (he : Env W w Ow) (hco : Co w Ow cg r cv dg dv B a b) :
    Calls Try.prog 25 #[.pointer (some ⟨dg, 0, none⟩)] w fun e w' => e = .returned (.int .i64 (coinAt B b : Nat)) ∧ Env W w' Ow ∧ Co w' Ow cg r cv dg dv B a (coinNx B b) := by
  refine (rnext_any dg dv B b w hco.rc).mono ?_
  rintro e w' ⟨rfl, hk, ht⟩
  have ht' : Touch (fun x => Ow 6 x ∨ Ow 6 x) w w' := ht.mono fun x hx => .inl (by rw [show x = dg from hx]; exact hco.o6)
  have h1 := he.step (c := 6) (e := 6) (F := Ow 6) (by decide) (by decide) ht' (fun x hx => .inl hx) (fun x hx => Nat.lt_of_lt_of_le (he.lt _ _ hx) ht.size)
  rw [upd_self] at h1
  have hk2 := he.kept ht'
  exact ⟨rfl, h1, hco.kc.stay (hk2 7 _ (by decide) (by decide) hco.o7) (hk2 5 _ (by decide) (by decide) hco.o5) (fun x e => hk2 8 x (by decide) (by decide) (hco.o8 x e)) ht.size, hk, hco.o7, hco.o5, hco.u5, hco.o8, hco.o6, hco.u6, hco.o9⟩
theorem kleft_env (he : Env W w Ow) (hco : Co w Ow cg r cv dg dv B a b) :
    Calls Try.prog 26 #[.pointer (some ⟨cg, 0, none⟩)] w fun e w' => e = .returned (.int .i64 (8 * (B.length : Int) - a)) ∧ Env W w' Ow ∧ Co w' Ow cg r cv dg dv B a b ∧ ∃ n, w' = w.drewN n := by
  refine (kleft_any cg r cv B a w hco.kc).mono ?_
  rintro e w' ⟨rfl, n, rfl⟩
  have hb : Below w.heap.size w (w.drewN n) := below_drewN (Below.refl _ _) _
  exact ⟨rfl, he.keep hb, hco.keep he hb, n, rfl⟩
end
set_option maxHeartbeats 400000 in
theorem next_nil (w : World) : Calls Try.prog 24 #[.pointer none] w fun e w' => e = .returned (.int .i64 0) ∧ w = w' := by
  go_enter Try.func24, Try.ntmps24
  go_wp2_with fail
  go_ret
  exact ⟨rfl, rfl⟩
set_option maxHeartbeats 400000 in
theorem left_nil (w : World) : Calls Try.prog 26 #[.pointer none] w fun e w' => e = .returned (.int .i64 0) ∧ w = w' := by
  go_enter Try.func26, Try.ntmps26
  go_wp2_with fail
  go_ret
  exact ⟨rfl, rfl⟩
/-- The reference's count of read coins, where it lies. -/
theorem RCt.cellAt {t : TypeId} {w : World} {g : Nat} {v : Value} {B : List Int} {a : Nat} (h : RCt t w g v B a) : w.cell? ⟨g, 1, none⟩ = some (.int .i64 a) := by rw [h.blk.cell 1]; simp
set_option maxRecDepth 100000 in
set_option maxHeartbeats 8000000 in
theorem coinsL_any (v1 : Value) (B : List Int) (n : Nat) (k : Int) (w : World) (hB : RdE u8E w v1 B) (hby : ∀ x ∈ B, 0 ≤ x ∧ x ≤ 255) (hown : ∀ x, v1.ownBlock = some x → x < w.heap.size) (hn : n ≤ 255) (k0 : -9223372036854775808 ≤ k) (k1 : k ≤ 9223372036854775807) :
    Calls Try.prog 4 #[v1, .int .u8 n, .int .i64 k] w fun e w' => e = .returned (.bool true) ∧ Below w.heap.size w w' := by
  have HAL := Lib.hid (alive_any w)
  have HB := Lib.hid hB
  have HOW := Lib.hid hown
  obtain ⟨A1, c1, rfl, hB1, hB2, _⟩ := hB.form
  by_cases hlen : B.length ≤ 500
  · have HBT : Hid (Byt B) := Lib.hid ⟨by omega, hby⟩
    clear hB hown hby
    have hgt : ¬ (B.length : Int) > 500 := by omega
    go_enter Try.func4, Try.ntmps4
    go_wp2_with fail
    refine (HAL.out).mono ?_
    rintro e w1 ⟨rfl, hb1⟩
    have HB1 := Lib.hid hb1
    clear hb1 HAL
    go_wp2_with fail
    refine (knew_any (.slice A1 B.length c1) B w1 (HB.out.keep HB1.out) HBT.out).mono ?_
    rintro e w3 ⟨cg, r, cv, rfl, hcg, hr, hkc, hcv, hb3⟩
    obtain ⟨Ow4, he4, hco4, hsame⟩ := coins_env ((env_start HB.out).keep HB1.out) (dv := .slice A1 B.length c1) (fun x e => ⟨rfl, e, HOW.out x e⟩) HBT.out (HB.out.keep HB1.out) hkc hcg hr hcv hb3
    have HE4 := Lib.hid he4
    have HC4 := Lib.hid hco4
    clear he4 hco4 hsame hkc hcg hr hcv hb3
    go_upto_region 6 with fail
    obtain ⟨w4, hw4⟩ : ∃ x, w3.alloc (.cells #[.slice A1 B.length c1, .int .i64 0] 44) = x := ⟨_, rfl⟩
    rw [hw4] at HE4 HC4 ⊢
    obtain ⟨dg, hdg⟩ : ∃ dg, w3.heap.size = dg := ⟨_, rfl⟩
    rw [hdg] at HC4 ⊢
    clear hw4 hdg
    go_wp2_with fail
    go_loopg [9] n (fun q i wr => ∃ (j a : Nat), q = n - j ∧ j ≤ n ∧ i = .int .i64 (j : Int) ∧ Hid (Env w wr Ow4) ∧ Hid (Co wr Ow4 cg r cv dg (.slice A1 B.length c1) B a a))
    case atStart => exact ⟨0, 0, by omega, by omega, rfl, HE4, HC4⟩
    case round =>
      obtain ⟨j, a, hq, hj, rfl, HE, HC⟩ := hrel
      have HQ := Lib.hid hq
      clear hq
      by_cases hjl : j < n
      · have hcle := coinAt_le B a
        have hnx := coinNx_le (B := B) HC.out.rc.at_
        have HKN := Lib.hid (knext_env (HE.out.keep (Below.refl _ _).drew) (HC.out.keep HE.out (Below.refl _ _).drew))
        obtain ⟨x, hx⟩ : ∃ x, coinAt B a = x := ⟨_, rfl⟩
        obtain ⟨b, hb⟩ : ∃ b, coinNx B a = b := ⟨_, rfl⟩
        rw [hx] at hcle
        rw [hb] at hnx
        have HXE := Lib.hid hx
        have HBE := Lib.hid hb
        rw [hx, hb] at HKN
        have hxx : (x == x) = true := by simp
        have hsub : IntKind.i64.wrap (IntKind.i64.wrap (8 * (B.length : Int)) - (b : Int)) = 8 * (B.length : Int) - (b : Int) := by rw [IntWalk.i64_in (8 * (B.length : Int)) (by omega), IntWalk.i64_in _ (by omega)]
        have HSB := Lib.hid hsub
        clear hx hb hsub
        go_upto_region 9 with fail
        refine wp_region_planV (fun w' => True) (fun w' => w'.cell? ⟨dg, 1, none⟩ = some (.int .i64 b)) 3 [(0, true), (2, true), (1, false), (3, false), (4, true), (5, true), (6, true), (8, true), (9, true), (10, true), (11, true), (12, true), (13, true), (14, true), (15, true), (7, false), (16, true), (17, true)] (by kernel_rfl) (by kernel_rfl) (trivial) ?_
        iterate 2
          refine wpPlanV_read (by rfl) (by rfl) (fun R hR => ?_)
          apply Exists.intro
          refine ⟨fun w' hS' => ?_, ?_⟩
          · skip
            skip
            go_simp
            exact ⟨rfl, rfl⟩
          go_simp
          refine hR _ ?_
          clear hR R
        refine wpPlanV_do (by rfl) (by rfl) false rfl (fun K hK => ?_)
        go_simp
        refine (HKN.out).mono ?_
        rintro e w5 ⟨rfl, he5, hc5⟩
        have HE5 := Lib.hid he5
        have HC5 := Lib.hid hc5
        clear he5 hc5
        refine hK _ _ ((if_neg Bool.noConfusion).mpr (trivial)) ?_
        clear hK K
        refine wpPlanV_do (by rfl) (by rfl) true rfl (fun K hK => ?_)
        go_simp
        refine (rnext_env HE5.out HC5.out).mono ?_
        rw [HXE.out, HBE.out]
        rintro e w6 ⟨rfl, he6, hc6⟩
        have HE6 := Lib.hid he6
        have HC6 := Lib.hid hc6
        clear he6 hc6
        refine hK _ _ ((if_pos rfl).mpr (HC6.out.rc.cellAt)) ?_
        clear hK K
        iterate 11
          refine wpPlanV_read (by rfl) (by rfl) (fun R hR => ?_)
          apply Exists.intro
          refine ⟨fun w' hS' => ?_, ?_⟩
          · replace hS' := hS'.resolve_right (fun h => Bool.noConfusion h.1)
            have hsb := HSB.out
            go_simp
            exact ⟨rfl, rfl⟩
          go_simp
          refine hR _ ?_
          clear hR R
        refine wpPlanV_do (by rfl) (by rfl) true rfl (fun K hK => ?_)
        go_simp
        refine (kleft_env HE6.out HC6.out).mono ?_
        rintro e w7 ⟨rfl, he7, hc7, q7, hw7⟩
        have HE7 := Lib.hid he7
        have HC7 := Lib.hid hc7
        clear he7 hc7 hw7
        refine hK _ _ ((if_pos rfl).mpr (HC7.out.rc.cellAt)) ?_
        clear hK K
        iterate 2
          refine wpPlanV_read (by rfl) (by rfl) (fun R hR => ?_)
          apply Exists.intro
          refine ⟨fun w' hS' => ?_, ?_⟩
          · replace hS' := hS'.resolve_right (fun h => Bool.noConfusion h.1)
            have hsb := HSB.out
            go_simp
            exact ⟨rfl, rfl⟩
          go_simp
          refine hR _ ?_
          clear hR R
        refine wpPlanV_nil ?_
        have hself : (8 * (B.length : Int) - (b : Int) == 8 * (B.length : Int) - (b : Int)) = true := by simp
        go_wp2_with fail
        go_roundg (n - (j + 1))
        case measure => have := HQ.out; omega
        case rel => exact ⟨j + 1, b, rfl, by omega, by go_num, HE7, HC7⟩
      · obtain rfl : j = n := by omega
        by_cases hk : k < 8 ∨ 4096 < k
        · have HNO := Lib.hid (new_no k wr hk)
          by_cases hk8 : k < 8
          · go_wp2_with fail
            refine (HNO.out).mono ?_
            rintro e w5 ⟨rfl, hw5⟩
            subst hw5
            go_wp2_with fail
            refine (next_nil _).mono ?_
            rintro e w5 ⟨rfl, hw5⟩
            subst hw5
            go_wp2_with fail
            refine (left_nil _).mono ?_
            rintro e w5 ⟨rfl, hw5⟩
            subst hw5
            go_wp2_with fail
            refine bodyPost_ret (by simp [results, Try.results4, go_sem, *]; try rfl) rfl ?_
            exact ⟨rfl, HE.out.below⟩
          · have hk9 : k > 4096 := by omega
            go_wp2_with fail
            refine (HNO.out).mono ?_
            rintro e w5 ⟨rfl, hw5⟩
            subst hw5
            go_wp2_with fail
            refine (next_nil _).mono ?_
            rintro e w5 ⟨rfl, hw5⟩
            subst hw5
            go_wp2_with fail
            refine (left_nil _).mono ?_
            rintro e w5 ⟨rfl, hw5⟩
            subst hw5
            go_wp2_with fail
            refine bodyPost_ret (by simp [results, Try.results4, go_sem, *]; try rfl) rfl ?_
            exact ⟨rfl, HE.out.below⟩
        · obtain ⟨K, rfl⟩ : ∃ K : Nat, k = K := ⟨k.toNat, by omega⟩
          have h8 : 8 ≤ K := by omega
          have h9 : K ≤ 4096 := by omega
          clear hk
          go_wp2_with fail
          refine (new_any K wr h8 h9).mono ?_
          rintro e w5 ⟨rfl, hw5⟩
          have hks := kAt_new K wr
          rw [← hw5] at hks
          have hb5 : Below wr.heap.size wr w5 := by rw [hw5]; exact (Below.refl _ _).alloc (Nat.le_refl _) _
          have HB5 : Hid (Below w.heap.size w w5) := Lib.hid (HE.out.below.trans (hb5.mono HE.out.below.size))
          obtain ⟨lv, vs, hst⟩ := hks
          have HST : Hid (Kst _ w5 wr.heap.size K 0 0 lv vs []) := Lib.hid hst
          clear hw5 hb5 hst
          go_wp2_with fail
          refine (size_any w5 HST.out).mono ?_
          rintro e w6 ⟨rfl, hw6⟩
          subst hw6
          go_wp2_with fail
          refine (total_any w5 HST.out).mono ?_
          rintro e w6 ⟨rfl, hw6⟩
          subst hw6
          go_wp2_with fail
          refine (ledger_any w5 HST.out).mono ?_
          rintro e w6 ⟨rfl, hw6⟩
          subst hw6
          go_wp2_with fail
          refine (levels_any w5 HST.out (by decide) (by decide)).mono ?_
          rintro e w6 ⟨v6, vs6, rfl, hlo6, hb6⟩
          obtain ⟨A6, c6, e6, _, _⟩ := hlo6.llr.form
          subst e6
          have HB6 : Hid (Below w.heap.size w w6) := Lib.hid (HB5.out.trans (hb6.mono HB5.out.size))
          clear hlo6 hb6
          go_wp2_with fail
          refine (next_nil _).mono ?_
          rintro e w7 ⟨rfl, hw7⟩
          subst hw7
          go_wp2_with fail
          refine bodyPost_ret (by simp [results, Try.results4, go_sem, *]; try rfl) rfl ?_
          exact ⟨rfl, HB6.out⟩
  · have hgt : (B.length : Int) > 500 := by omega
    clear hB hown hby
    go_enter Try.func4, Try.ntmps4
    go_wp2_with fail
    refine (HAL.out).mono ?_
    rintro e w1 ⟨rfl, hb1⟩
    go_wp2_with fail
    refine bodyPost_ret (by simp [results, Try.results4, go_sem, *]; try rfl) rfl ?_
    exact ⟨rfl, hb1⟩
end Go.Proofs.Ytigmncogjbbmhaa
