/- Load of the program's digest. -/
import Derived.Test.YtedhpkfbobgkgaaDigN
import Derived.Test.YtedhpkfbobgkgaaGood
namespace Go.Proofs.Ytedhpkfbobgkgaa
open Go.RowKit Go.Lib

/-- What Load comes to. -/
def LoadP (d lo hi : Int) (L W : List Mn) (w : World) (e : Ending) (w' : World) : Prop :=
  (rightI d lo hi L W = true ∧ ∃ (g : Nat) (F : Nat → Prop), e = .returned (.tuple #[.pointer (some ⟨g, 0, none⟩), .int .i64 0]) ∧ DgS w' g F d ⟨L, W, lo, hi⟩ ∧ (∀ k, F k → w.heap.size ≤ k) ∧ Below w.heap.size w w') ∨
  (rightI d lo hi L W = false ∧ e = .returned (.tuple #[.pointer none, .int .i64 1]) ∧ Below w.heap.size w w')

set_option maxRecDepth 100000 in
set_option maxHeartbeats 8000000 in
theorem load_any (d lo hi : Int) (vl vw : Value) (L W : List Mn) (w : World) (hL : RdM w vl L) (hW : RdM w vw W) (hr : rawL (L ++ W)) (hlen : L.length + W.length ≤ 1000000) :
    Calls Try.prog 35 #[.int .i64 d, .int .i64 lo, .int .i64 hi, vl, vw] w (LoadP d lo hi L W w) := by
  have HL := Lib.hid hL
  have HW := Lib.hid hW
  obtain ⟨A, ca, rfl, na, ma, fa⟩ := hL.form
  obtain ⟨B, cb, rfl, nb, mb, fb⟩ := hW.form
  have FA := Lib.hid fa
  clear hL hW fa fb
  by_cases hd : d < 10 ∨ 1000 < d
  · have hR : Hid (rightI d lo hi L W = false) := by show rightI d lo hi L W = false; unfold rightI; rw [decide_eq_false (by omega)]; rfl
    have HD := Lib.hid hd
    clear hd
    go_enter Try.func35, Try.ntmps35
    go_wp2_with fail
    refine (new_no d w HD.out).mono ?_
    rintro e w1 ⟨rfl, hb1⟩
    go_wp2_with fail
    refine bodyPost_ret (by simp [results, Try.results35, go_sem, *]; try rfl) rfl ?_
    exact .inr ⟨hR.out, rfl, hb1⟩
  · have d0 : 10 ≤ d := by omega
    have d1 : d ≤ 1000 := by omega
    clear hd
    by_cases hwl : d ≤ (W.length : Int)
    · have hR : Hid (rightI d lo hi L W = false) := by show rightI d lo hi L W = false; unfold rightI; rw [decide_eq_false (by omega)]; rfl
      go_enter Try.func35, Try.ntmps35
      go_wp2_with fail
      refine (new_yes d w d0 d1).mono ?_
      rintro e w1 ⟨g, rfl, hg, hd, hb1⟩
      clear hd
      go_wp2_with fail
      refine bodyPost_ret (by simp [results, Try.results35, go_sem, *]; try rfl) rfl ?_
      exact .inr ⟨hR.out, rfl, hb1⟩
    · have HRW : Hid (rightI d lo hi L W = (goodL lo hi L.length 0 0 0 (L ++ W) && decide (0 < tot (L ++ W) ∨ (lo = 0 ∧ hi = 0)))) := by show _ = _; unfold rightI; rw [decide_eq_true (show 10 ≤ d ∧ d ≤ 1000 ∧ (W.length : Int) < d from ⟨d0, d1, by omega⟩)]; rfl
      have HRAW := Lib.hid hr
      clear hr
      go_enter Try.func35, Try.ntmps35
      go_wp2_with fail
      refine (new_yes d w d0 d1).mono ?_
      rintro e w1 ⟨g, rfl, hg, ⟨lv, wv, bk, ol, ow, -⟩, hb1⟩
      obtain ⟨A1, c1, rfl, _, _, f1⟩ := ol.form
      obtain ⟨A2, c2, rfl, _, _, f2⟩ := ow.form
      have hz1 := hb1.size
      have hg1 := bk.lt
      have BK := Lib.hid bk
      clear bk ol ow f1 f2
      go_wp2_with fail
      have hal : Below w1.heap.size w1 (w1.alloc (.cells #[.slice A L.length ca, .slice B W.length cb] 35)) := (Below.refl _ _).alloc (Nat.le_refl _) _
      have hrow : RdRow (w1.alloc (.cells #[.slice A L.length ca, .slice B W.length cb] 35)) w1.heap.size [L, W] := rd_row2 ((HL.out.keep hb1).keep hal) ((HW.out.keep hb1).keep hal)
      refine (concat_M w1.heap.size [L, W] _ (by go_size) hrow (by simp) (by simp; omega)).mono ?_
      rintro e w2 ⟨v2, rfl, o2, hb2⟩
      rw [show ([L, W] : List (List Mn)).flatten = L ++ W by simp] at o2
      have hz2 := hb2.size
      simp only [World.size_alloc] at hz2
      have hbw2 : Below w1.heap.size w1 w2 := hal.trans (hb2.mono (by simp))
      have BK2 := Lib.hid (BK.out.keep hbw2)
      have hb02 : Below w.heap.size w w2 := hb1.trans (hbw2.mono hz1)
      have hNl : (L ++ W).length = L.length + W.length := List.length_append ..
      obtain ⟨N, hN⟩ : ∃ N, L ++ W = N := ⟨_, rfl⟩
      rw [hN] at o2 HRW HRAW hNl
      have HN := Lib.hid hN
      have HNL := Lib.hid hNl
      have hNle : N.length ≤ 1000000 := by omega
      obtain ⟨A3, c3, rfl, n3, m3, f3⟩ := o2.form
      have O3 : Hid (OwnM (g + 1) w2 (.slice A3 N.length c3) N) := Lib.hid (o2.more (by simp; omega))
      clear hN hNl hal hrow f3 o2
      go_wp2_with fail
      go_loopg [34] N.length (fun q i wr => ∃ (j : Nat) (p t : Int), q = N.length - j ∧ j ≤ N.length ∧ i = .int .i64 j ∧ Hid (t = tot (N.take j)) ∧ 0 ≤ t ∧ t ≤ 281474976710656 ∧ Hid (goodL lo hi L.length 0 0 0 N = goodL lo hi L.length j p t (N.drop j)) ∧
        Hid (∀ k (h : k < N.length), j = k + 1 → p = N[k].1) ∧ Hid (Blk wr g 95 #[.int .i64 d, .slice A1 0 c1, .slice A2 0 c2, .int .i64 0, .int .i64 0, .int .u64 t]) ∧ Below w.heap.size w wr ∧ w2.heap.size ≤ wr.heap.size ∧ Hid (OwnM (g + 1) wr (.slice A3 N.length c3) N))
      case atStart => exact ⟨0, 0, 0, rfl, Nat.zero_le _, rfl, rfl, Int.le_refl _, by omega, rfl, (fun k h e => by omega), BK2, hb02, Nat.le_refl _, O3⟩
      case round =>
        obtain ⟨j, p, t, hk, hj, rfl, HT, t0, t1, HG, HP, HB, hb3, hz3, HF⟩ := hrel
        have HK := Lib.hid hk
        have hgw : g < wr.heap.size := HB.out.lt
        have hz03 := hb3.size
        clear hk
        obtain ⟨A4, c4, hv4, _, _, f4⟩ := HF.out.form
        simp only [Value.slice.injEq, true_and] at hv4
        obtain ⟨rfl, rfl⟩ := hv4
        by_cases hlt : j < N.length
        · obtain ⟨g5, q5, rfl, hg5, e0, e1⟩ := f4.at_ hlt
          clear f4
          have hm := HRAW.out N[j] (List.getElem_mem hlt)
          have HTT : Hid (tot (N.take (j + 1)) = t + N[j].2) := by show _ = _; rw [tot_take_succ N j hlt, HT.out]
          have HGG : Hid (goodL lo hi L.length j p t (N.drop j) = if N[j].2 = 0 ∨ 281474976710656 - t < N[j].2 ∨ N[j].1 < lo ∨ hi < N[j].1 ∨ (0 < j ∧ j < L.length ∧ N[j].1 < p) then false else goodL lo hi L.length (j + 1) N[j].1 (t + N[j].2) (N.drop (j + 1))) := by
            show _ = _
            rw [List.drop_eq_getElem_cons hlt]; conv => lhs; unfold goodL
          obtain ⟨m, hme⟩ : ∃ m, N[j] = m := ⟨_, rfl⟩
          have HME := Lib.hid hme
          rw [hme] at e0 e1 hm HTT HGG
          have b5 := HB.out.cell 5
          simp only [List.getElem?_toArray, List.getElem?_cons_succ, List.getElem?_cons_zero] at b5
          have HB5 := Lib.hid b5
          have E0 := Lib.hid e0
          have E1 := Lib.hid e1
          clear hme b5 e0 e1
          have hprev : Hid (∀ k, j = k + 1 → j < L.length → ∃ gL oL, A = some ⟨gL, oL, none⟩ ∧ gL < w.heap.size ∧ w.cell? ⟨gL, oL + k * 2, none⟩ = some (.int .i64 p)) := fun k hjk hjl => by
            obtain ⟨gL, oL, hA, hgL, x0, _⟩ := FA.out.at_ (j := k) (by omega)
            refine ⟨gL, oL, hA, hgL, ?_⟩
            rw [HP.out k (by omega) hjk]
            have e : L[k]'(by omega) = N[k]'(by omega) := by
              have h2 := HN.out
              subst h2
              rw [List.getElem_append_left (by omega)]
            rw [← e]; exact x0
          obtain ⟨hm0, hm1, hm2, hm3⟩ := hm
          have hway : (m.2 = 0) ∨ (m.2 ≠ 0 ∧ 281474976710656 - t < m.2) ∨ ((m.2 ≠ 0 ∧ ¬ 281474976710656 - t < m.2) ∧ m.1 < lo) ∨ ((m.2 ≠ 0 ∧ ¬ 281474976710656 - t < m.2) ∧ ¬ m.1 < lo ∧ hi < m.1) ∨
              ((m.2 ≠ 0 ∧ ¬ 281474976710656 - t < m.2) ∧ (¬ m.1 < lo ∧ ¬ hi < m.1) ∧ (0 < j ∧ j < L.length ∧ m.1 < p)) ∨
              ((m.2 ≠ 0 ∧ ¬ 281474976710656 - t < m.2) ∧ (¬ m.1 < lo ∧ ¬ hi < m.1) ∧ (j = 0 ∨ (0 < j ∧ ¬ j < L.length) ∨ (0 < j ∧ j < L.length ∧ ¬ m.1 < p))) := by omega
          have ew0 := Lib.hid (IntWalk.u64_in (281474976710656 - t) (by omega))
          have E00 := E0.out
          have E11 := E1.out
          go_upto_region 7 with fail
          have hb34 : Below wr.heap.size wr (wr.alloc (.cells #[.int .i64 m.1, .int .u64 m.2] 45)) := (Below.refl _ _).alloc (Nat.le_refl _) _
          have hb4 : Below w.heap.size w (wr.alloc (.cells #[.int .i64 m.1, .int .u64 m.2] 45)) := hb3.trans (hb34.mono hz03)
          have x0 : (wr.alloc (.cells #[.int .i64 m.1, .int .u64 m.2] 45)).cell? ⟨wr.heap.size, 0, none⟩ = some (.int .i64 m.1) := by simp [World.cell?_alloc_new]
          have x1 : (wr.alloc (.cells #[.int .i64 m.1, .int .u64 m.2] 45)).cell? ⟨wr.heap.size, 1, none⟩ = some (.int .u64 m.2) := by simp [World.cell?_alloc_new]
          have x5 := (hb34.cell (p := ⟨g, 5, none⟩) hgw).trans HB5.out
          have B4 := Lib.hid (HB.out.keep hb34)
          have F4 := Lib.hid (HF.out.keep hb34)
          have hz4 := hb34.size
          have hgr : g < wr.heap.size := hgw
          clear E00 E11 hg5
          generalize wr.alloc (.cells #[.int .i64 m.1, .int .u64 m.2] 45) = w4 at *
          have ew := ew0.out
          rcases hway with h | ⟨h, h'⟩ | ⟨⟨h, h'⟩, h2⟩ | ⟨⟨h, h'⟩, h2, h3⟩ | ⟨⟨h, h'⟩, ⟨h2, h3⟩, h4, h5, h6⟩ | ⟨⟨h, h'⟩, ⟨h2, h3⟩, h4⟩
          · have HC : Hid (m.2 = 0 ∨ 281474976710656 - t < m.2 ∨ m.1 < lo ∨ hi < m.1 ∨ (0 < j ∧ j < L.length ∧ m.1 < p)) := .inl h
            have b1 : (m.2 == 0) = true := beq_iff_eq.2 h
            clear h
            go_wp2_with fail
            go_quiet (fail)
            clear ew
            go_wp2_with fail
            go_ret2
            refine .inr ⟨?_, rfl, below_drewN hb4 _⟩
            rw [HRW.out, HG.out, HGG.out, if_pos HC.out]; rfl
          · have HC : Hid (m.2 = 0 ∨ 281474976710656 - t < m.2 ∨ m.1 < lo ∨ hi < m.1 ∨ (0 < j ∧ j < L.length ∧ m.1 < p)) := .inr (.inl h')
            have b1 : (m.2 == 0) = false := beq_eq_false_iff_ne.2 h
            have b2 : decide (281474976710656 - t < m.2) = true := decide_eq_true h'
            clear h h'
            go_wp2_with fail
            go_quiet (fail)
            clear ew
            go_wp2_with fail
            go_ret2
            refine .inr ⟨?_, rfl, below_drewN hb4 _⟩
            rw [HRW.out, HG.out, HGG.out, if_pos HC.out]; rfl
          · have HC : Hid (m.2 = 0 ∨ 281474976710656 - t < m.2 ∨ m.1 < lo ∨ hi < m.1 ∨ (0 < j ∧ j < L.length ∧ m.1 < p)) := .inr (.inr (.inl h2))
            have b1 : (m.2 == 0) = false := beq_eq_false_iff_ne.2 h
            have b2 : decide (281474976710656 - t < m.2) = false := decide_eq_false h'
            have b3 : decide (m.1 < lo) = true := decide_eq_true h2
            clear h h' h2
            go_wp2_with fail
            go_quiet (fail)
            clear ew
            go_wp2_with fail
            go_ret2
            refine .inr ⟨?_, rfl, below_drewN hb4 _⟩
            rw [HRW.out, HG.out, HGG.out, if_pos HC.out]; rfl
          · have HC : Hid (m.2 = 0 ∨ 281474976710656 - t < m.2 ∨ m.1 < lo ∨ hi < m.1 ∨ (0 < j ∧ j < L.length ∧ m.1 < p)) := .inr (.inr (.inr (.inl h3)))
            have b1 : (m.2 == 0) = false := beq_eq_false_iff_ne.2 h
            have b2 : decide (281474976710656 - t < m.2) = false := decide_eq_false h'
            have b3 : decide (m.1 < lo) = false := decide_eq_false h2
            have b4 : decide (hi < m.1) = true := decide_eq_true h3
            clear h h' h2 h3
            go_wp2_with fail
            go_quiet (fail)
            clear ew
            go_wp2_with fail
            go_ret2
            refine .inr ⟨?_, rfl, below_drewN hb4 _⟩
            rw [HRW.out, HG.out, HGG.out, if_pos HC.out]; rfl
          · have HC : Hid (m.2 = 0 ∨ 281474976710656 - t < m.2 ∨ m.1 < lo ∨ hi < m.1 ∨ (0 < j ∧ j < L.length ∧ m.1 < p)) := .inr (.inr (.inr (.inr ⟨h4, h5, h6⟩)))
            have b1 : (m.2 == 0) = false := beq_eq_false_iff_ne.2 h
            have b2 : decide (281474976710656 - t < m.2) = false := decide_eq_false h'
            have b3 : decide (m.1 < lo) = false := decide_eq_false h2
            have b4 : decide (hi < m.1) = false := decide_eq_false h3
            obtain ⟨k, hk⟩ : ∃ k, j = k + 1 := ⟨j - 1, by omega⟩
            subst hk
            obtain ⟨gL, oL, rfl, hgL, y0⟩ := hprev.out k rfl h5
            have y1 := (hb4.cell (p := ⟨gL, oL + k * 2, none⟩) hgL).trans y0
            have b5 : decide ((0 : Int) < (k : Int) + 1) = true := decide_eq_true (by omega)
            have b6 : decide ((k : Int) + 1 < (L.length : Int)) = true := decide_eq_true (by omega)
            have b7 : decide (m.1 < p) = true := decide_eq_true h6
            have j1 : (0 : Int) ≤ (k : Int) := by omega
            have j2 : (k : Int) < (L.length : Int) := by omega
            have j4 : IntKind.i64.wrap (k : Int) = (k : Int) := IntWalk.i64_in _ (by omega)
            clear h h' h2 h3 h4 h5 h6 y0
            go_wp2_with fail
            go_quiet (fail)
            clear ew j4
            go_wp2_with fail
            go_ret2
            refine .inr ⟨?_, rfl, below_drewN hb4 _⟩
            rw [HRW.out, HG.out, HGG.out, if_pos HC.out]; rfl
          · have HC : Hid (¬ (m.2 = 0 ∨ 281474976710656 - t < m.2 ∨ m.1 < lo ∨ hi < m.1 ∨ (0 < j ∧ j < L.length ∧ m.1 < p))) := by show ¬ _; omega
            have HNX : Hid (goodL lo hi L.length 0 0 0 N = goodL lo hi L.length (j + 1) m.1 (t + m.2) (N.drop (j + 1))) := by show _ = _; rw [HG.out, HGG.out, if_neg HC.out]
            have b1 : (m.2 == 0) = false := beq_eq_false_iff_ne.2 h
            have b2 : decide (281474976710656 - t < m.2) = false := decide_eq_false h'
            have b3 : decide (m.1 < lo) = false := decide_eq_false h2
            have b4 : decide (hi < m.1) = false := decide_eq_false h3
            have EW2 := Lib.hid (IntWalk.u64_in (t + m.2) (by omega))
            have HTM : Hid (0 ≤ t + m.2 ∧ t + m.2 ≤ 281474976710656) := by show _ ∧ _; omega
            clear h h2 h3 h' HC
            rcases h4 with h5 | ⟨h5, h6⟩ | ⟨h5, h6, h7⟩
            · subst h5
              have z0 : ((0 : Nat) : Int) = 0 := rfl
              rw [z0]
              go_wp2_with fail
              go_quiet (fail)
              clear ew z0 b1 b2 b3 b4 x0 hm0 hm1 hm2 hm3 t0 t1
              go_upto_region 9 with fail
              have f5 := B4.out.frozen 5
              refine wp_region_planT (fun w' => w'.cell? ⟨g, 5, none⟩ = some (.int .u64 t) ∧ w'.cell? ⟨wr.heap.size, 1, none⟩ = some (.int .u64 m.2)) 9 [(0, true), (1, true), (2, true), (3, true), (4, true), (5, true), (6, true), (7, true), (8, true)] (by kernel_rfl) (by kernel_rfl) (⟨x5, x1⟩) ?_
              iterate 9
                refine wpPlanT_read (by rfl) (by rfl) (fun R hR => ?_)
                apply Exists.intro
                refine ⟨fun w' hS' => ?_, ?_⟩
                · have k5 := hS'.1
                  have k1 := hS'.2
                  have k6 := EW2.out
                  go_simp
                  exact ⟨rfl, rfl⟩
                go_simp
                refine hR _ ?_
                clear hR R
              refine wpPlanT_nil ?_
              simp only [List.drop_succ_cons, List.drop_zero]
              go_wp2_with fail
              refine calm_normal ?_
              go_wp2_with fail
              go_roundg (N.length - (0 + 1))
              case measure => have := HK.out; omega
              case rel => exact ⟨0 + 1, m.1, t + m.2, rfl, by omega, by go_num, HTT.out.symm, HTM.out.1, HTM.out.2, HNX, fun k h e => (by obtain rfl : k = 0 := (by omega); rw [HME.out]), B4.out.set_ 5 _, by (repeat' (first | (with_reducible exact Below.refl _ _) | (with_reducible refine Below.alloc ?_ ?_ _) | (with_reducible refine Below.drew ?_) | (with_reducible refine below_drewN ?_ _) | (with_reducible refine Below.setCell ?_ ?_ _) | (with_reducible refine below_of (by assumption) ?_ ?_) | go_size)), by go_size, F4.out.far (p := ⟨g, 5, none⟩) (fun e => by have h9 : g + 1 ≤ g := (F4.out.lt _ e).1; omega) _⟩
            · have b5 : decide (0 < j) = true := decide_eq_true (by omega)
              have b6 : decide (j < L.length) = false := decide_eq_false (by omega)
              clear h6
              go_wp2_with fail
              go_quiet (fail)
              clear ew b1 b2 b3 b4 x0 hm0 hm1 hm2 hm3 t0 t1 b5 b6 h5
              go_upto_region 9 with fail
              have f5 := B4.out.frozen 5
              refine wp_region_planT (fun w' => w'.cell? ⟨g, 5, none⟩ = some (.int .u64 t) ∧ w'.cell? ⟨wr.heap.size, 1, none⟩ = some (.int .u64 m.2)) 9 [(0, true), (1, true), (2, true), (3, true), (4, true), (5, true), (6, true), (7, true), (8, true)] (by kernel_rfl) (by kernel_rfl) (⟨x5, x1⟩) ?_
              iterate 9
                refine wpPlanT_read (by rfl) (by rfl) (fun R hR => ?_)
                apply Exists.intro
                refine ⟨fun w' hS' => ?_, ?_⟩
                · have k5 := hS'.1
                  have k1 := hS'.2
                  have k6 := EW2.out
                  go_simp
                  exact ⟨rfl, rfl⟩
                go_simp
                refine hR _ ?_
                clear hR R
              refine wpPlanT_nil ?_
              simp only [List.drop_succ_cons, List.drop_zero]
              go_wp2_with fail
              refine calm_normal ?_
              go_wp2_with fail
              go_roundg (N.length - (j + 1))
              case measure => have := HK.out; omega
              case rel => exact ⟨j + 1, m.1, t + m.2, rfl, by omega, by go_num, HTT.out.symm, HTM.out.1, HTM.out.2, HNX, fun k h e => (by obtain rfl : k = j := (by omega); rw [HME.out]), B4.out.set_ 5 _, by (repeat' (first | (with_reducible exact Below.refl _ _) | (with_reducible refine Below.alloc ?_ ?_ _) | (with_reducible refine Below.drew ?_) | (with_reducible refine below_drewN ?_ _) | (with_reducible refine Below.setCell ?_ ?_ _) | (with_reducible refine below_of (by assumption) ?_ ?_) | go_size)), by go_size, F4.out.far (p := ⟨g, 5, none⟩) (fun e => by have h9 : g + 1 ≤ g := (F4.out.lt _ e).1; omega) _⟩
            · obtain ⟨k, hk⟩ : ∃ k, j = k + 1 := ⟨j - 1, by omega⟩
              subst hk
              obtain ⟨gL, oL, rfl, hgL, y0⟩ := hprev.out k rfl h6
              have y1 := (hb4.cell (p := ⟨gL, oL + k * 2, none⟩) hgL).trans y0
              have b5 : decide ((0 : Int) < (k : Int) + 1) = true := decide_eq_true (by omega)
              have b6 : decide ((k : Int) + 1 < (L.length : Int)) = true := decide_eq_true (by omega)
              have b7 : decide (m.1 < p) = false := decide_eq_false h7
              have j1 : (0 : Int) ≤ (k : Int) := by omega
              have j2 : (k : Int) < (L.length : Int) := by omega
              have j4 : IntKind.i64.wrap (k : Int) = (k : Int) := IntWalk.i64_in _ (by omega)
              clear h5 h6 h7 y0
              go_wp2_with fail
              go_quiet (fail)
              clear ew j4 b1 b2 b3 b4 x0 hm0 hm1 hm2 hm3 t0 t1 b5 b6 b7 j1 j2 y1
              go_upto_region 9 with fail
              have f5 := B4.out.frozen 5
              refine wp_region_planT (fun w' => w'.cell? ⟨g, 5, none⟩ = some (.int .u64 t) ∧ w'.cell? ⟨wr.heap.size, 1, none⟩ = some (.int .u64 m.2)) 9 [(0, true), (1, true), (2, true), (3, true), (4, true), (5, true), (6, true), (7, true), (8, true)] (by kernel_rfl) (by kernel_rfl) (⟨x5, x1⟩) ?_
              iterate 9
                refine wpPlanT_read (by rfl) (by rfl) (fun R hR => ?_)
                apply Exists.intro
                refine ⟨fun w' hS' => ?_, ?_⟩
                · have k5 := hS'.1
                  have k1 := hS'.2
                  have k6 := EW2.out
                  go_simp
                  exact ⟨rfl, rfl⟩
                go_simp
                refine hR _ ?_
                clear hR R
              refine wpPlanT_nil ?_
              simp only [List.drop_succ_cons, List.drop_zero]
              go_wp2_with fail
              refine calm_normal ?_
              go_wp2_with fail
              go_roundg (N.length - (k + 1 + 1))
              case measure => have := HK.out; omega
              case rel => exact ⟨k + 1 + 1, m.1, t + m.2, rfl, by omega, by go_num, HTT.out.symm, HTM.out.1, HTM.out.2, HNX, fun k' h e => (by obtain rfl : k' = k + 1 := (by omega); rw [HME.out]), B4.out.set_ 5 _, by (repeat' (first | (with_reducible exact Below.refl _ _) | (with_reducible refine Below.alloc ?_ ?_ _) | (with_reducible refine Below.drew ?_) | (with_reducible refine below_drewN ?_ _) | (with_reducible refine Below.setCell ?_ ?_ _) | (with_reducible refine below_of (by assumption) ?_ ?_) | go_size)), by go_size, F4.out.far (p := ⟨g, 5, none⟩) (fun e => by have h9 : g + 1 ≤ g := (F4.out.lt _ e).1; omega) _⟩
        · clear f4
          have HE : Hid (goodL lo hi L.length 0 0 0 N = true) := by show _ = true; rw [HG.out, List.drop_of_length_le (by omega)]; rfl
          have HTN : Hid (t = tot N) := by show t = _; rw [HT.out, List.take_of_length_le (by omega)]
          have b5 := HB.out.cell 5
          simp only [List.getElem?_toArray, List.getElem?_cons_succ, List.getElem?_cons_zero] at b5
          have hRR : Hid (rightI d lo hi L W = decide (0 < t ∨ (lo = 0 ∧ hi = 0))) := by show _ = _; rw [HRW.out, HE.out, HTN.out]; rfl
          have htt : Hid (tot (L ++ W) = t) := by show _ = _; rw [HN.out, HTN.out]
          rw [← htt.out] at HB b5 hRR
          have ht0 : 0 ≤ tot (L ++ W) := by rw [htt.out]; exact t0
          clear t0 t1 HT HG HP
          have hway : (0 < tot (L ++ W)) ∨ (tot (L ++ W) = 0 ∧ lo ≠ 0) ∨ (tot (L ++ W) = 0 ∧ lo = 0 ∧ hi ≠ 0) ∨ (tot (L ++ W) = 0 ∧ lo = 0 ∧ hi = 0) := by omega
          rcases hway with h | ⟨h, h2⟩ | ⟨h, h2, h3⟩ | ⟨h, h2, h3⟩
          · have hR : Hid (rightI d lo hi L W = true) := by show _ = true; rw [hRR.out]; exact decide_eq_true (.inl h)
            have nb : (tot (L ++ W) == 0) = false := beq_eq_false_iff_ne.2 (by omega)
            go_wp2_with fail
            refine (clone_M (.slice A L.length ca) L wr (HL.out.keep hb3) (by omega)).mono ?_
            rintro e w5 ⟨v5, rfl, o5, hb5⟩
            have hz5 := hb5.size
            obtain ⟨A5, c5, rfl, _, _, f5⟩ := o5.form
            have O5 := Lib.hid o5
            clear o5 f5
            go_wp2_with fail
            refine (clone_M (.slice B W.length cb) W w5 ((HW.out.keep hb3).keep hb5) (by omega)).mono ?_
            rintro e w6 ⟨v6, rfl, o6, hb6⟩
            have hz6 := hb6.size
            obtain ⟨A6, c6, rfl, _, _, f6⟩ := o6.form
            have O6 := Lib.hid o6
            have B6 := Lib.hid ((HB.out.keep hb5).keep hb6)
            have O56 := Lib.hid (O5.out.keep hb6)
            clear o6 f6
            have y1 := B6.out.cell 1
            have y2 := B6.out.cell 2
            have y3 := B6.out.cell 3
            have y4 := B6.out.cell 4
            have z1 := B6.out.frozen 1
            have z2 := B6.out.frozen 2
            have z3 := B6.out.frozen 3
            have z4 := B6.out.frozen 4
            simp only [List.getElem?_toArray, List.getElem?_cons_succ, List.getElem?_cons_zero] at y1 y2 y3 y4
            go_wp2_with fail
            go_ret2
            refine .inl ⟨hR.out, g, fun k => k = g ∨ (Value.slice A5 L.length c5).ownBlock = some k ∨ (Value.slice A6 W.length c6).ownBlock = some k, rfl, ?_, ?_, by (repeat' (first | (with_reducible exact Below.refl _ _) | (with_reducible refine Below.alloc ?_ ?_ _) | (with_reducible refine Below.drew ?_) | (with_reducible refine below_drewN ?_ _) | (with_reducible refine Below.setCell ?_ ?_ _) | (with_reducible refine below_of (by assumption) ?_ ?_) | go_size))⟩
            · refine ⟨_, _, (((B6.out.set_ 1 _).set_ 2 _).set_ 3 _).set_ 4 _, ?_, ?_, .inl rfl, fun k e => .inr (.inl e), fun k e => .inr (.inr e), fun k e e2 => ?_, fun k hk => ?_⟩
              · have q : ∀ i, (Value.slice A5 L.length c5).ownBlock ≠ some (⟨g, i, none⟩ : Addr).block := fun i e => by have h9 : wr.heap.size ≤ g := (O5.out.lt _ e).1; omega
                exact (((((O56.out.far (p := ⟨g, 1, none⟩) (q 1) _).far (p := ⟨g, 2, none⟩) (q 2) _).far (p := ⟨g, 3, none⟩) (q 3) _).far (p := ⟨g, 4, none⟩) (q 4) _).more (Nat.zero_le _))
              · have q : ∀ i, (Value.slice A6 W.length c6).ownBlock ≠ some (⟨g, i, none⟩ : Addr).block := fun i e => by have h9 : w5.heap.size ≤ g := (O6.out.lt _ e).1; omega
                exact (((((O6.out.far (p := ⟨g, 1, none⟩) (q 1) _).far (p := ⟨g, 2, none⟩) (q 2) _).far (p := ⟨g, 3, none⟩) (q 3) _).far (p := ⟨g, 4, none⟩) (q 4) _).more (Nat.zero_le _))
              · have h8 := (O5.out.lt k e2).2; have h9 := (O6.out.lt k e).1; omega
              · simp only [World.size_setCell]
                rcases hk with rfl | hk | hk
                · omega
                · have := (O5.out.lt k hk).2; omega
                · exact (O6.out.lt k hk).2
            · rintro k (rfl | hk | hk)
              · exact hg
              · have := (O5.out.lt k hk).1; omega
              · have := (O6.out.lt k hk).1; omega
          · have hR : Hid (rightI d lo hi L W = false) := by show _ = false; rw [hRR.out]; exact decide_eq_false (by omega)
            have nb : (tot (L ++ W) == 0) = true := beq_iff_eq.2 h
            have nl : (lo != 0) = true := by simpa using h2
            clear h h2
            go_wp2_with fail
            go_ret2
            exact .inr ⟨hR.out, rfl, hb3⟩
          · have hR : Hid (rightI d lo hi L W = false) := by show _ = false; rw [hRR.out]; exact decide_eq_false (by omega)
            have nb : (tot (L ++ W) == 0) = true := beq_iff_eq.2 h
            have nl : (lo != 0) = false := by simpa using h2
            have nh : (hi != 0) = true := by simpa using h3
            clear h h2 h3
            go_wp2_with fail
            go_ret2
            exact .inr ⟨hR.out, rfl, hb3⟩
          · have hR : Hid (rightI d lo hi L W = true) := by show _ = true; rw [hRR.out]; exact decide_eq_true (.inr ⟨h2, h3⟩)
            have nb : (tot (L ++ W) == 0) = true := beq_iff_eq.2 h
            have nl : (lo != 0) = false := by simpa using h2
            have nh : (hi != 0) = false := by simpa using h3
            clear h h2 h3
            go_wp2_with fail
            refine (clone_M (.slice A L.length ca) L wr (HL.out.keep hb3) (by omega)).mono ?_
            rintro e w5 ⟨v5, rfl, o5, hb5⟩
            have hz5 := hb5.size
            obtain ⟨A5, c5, rfl, _, _, f5⟩ := o5.form
            have O5 := Lib.hid o5
            clear o5 f5
            go_wp2_with fail
            refine (clone_M (.slice B W.length cb) W w5 ((HW.out.keep hb3).keep hb5) (by omega)).mono ?_
            rintro e w6 ⟨v6, rfl, o6, hb6⟩
            have hz6 := hb6.size
            obtain ⟨A6, c6, rfl, _, _, f6⟩ := o6.form
            have O6 := Lib.hid o6
            have B6 := Lib.hid ((HB.out.keep hb5).keep hb6)
            have O56 := Lib.hid (O5.out.keep hb6)
            clear o6 f6
            have y1 := B6.out.cell 1
            have y2 := B6.out.cell 2
            have y3 := B6.out.cell 3
            have y4 := B6.out.cell 4
            have z1 := B6.out.frozen 1
            have z2 := B6.out.frozen 2
            have z3 := B6.out.frozen 3
            have z4 := B6.out.frozen 4
            simp only [List.getElem?_toArray, List.getElem?_cons_succ, List.getElem?_cons_zero] at y1 y2 y3 y4
            go_wp2_with fail
            go_ret2
            refine .inl ⟨hR.out, g, fun k => k = g ∨ (Value.slice A5 L.length c5).ownBlock = some k ∨ (Value.slice A6 W.length c6).ownBlock = some k, rfl, ?_, ?_, by (repeat' (first | (with_reducible exact Below.refl _ _) | (with_reducible refine Below.alloc ?_ ?_ _) | (with_reducible refine Below.drew ?_) | (with_reducible refine below_drewN ?_ _) | (with_reducible refine Below.setCell ?_ ?_ _) | (with_reducible refine below_of (by assumption) ?_ ?_) | go_size))⟩
            · refine ⟨_, _, (((B6.out.set_ 1 _).set_ 2 _).set_ 3 _).set_ 4 _, ?_, ?_, .inl rfl, fun k e => .inr (.inl e), fun k e => .inr (.inr e), fun k e e2 => ?_, fun k hk => ?_⟩
              · have q : ∀ i, (Value.slice A5 L.length c5).ownBlock ≠ some (⟨g, i, none⟩ : Addr).block := fun i e => by have h9 : wr.heap.size ≤ g := (O5.out.lt _ e).1; omega
                exact (((((O56.out.far (p := ⟨g, 1, none⟩) (q 1) _).far (p := ⟨g, 2, none⟩) (q 2) _).far (p := ⟨g, 3, none⟩) (q 3) _).far (p := ⟨g, 4, none⟩) (q 4) _).more (Nat.zero_le _))
              · have q : ∀ i, (Value.slice A6 W.length c6).ownBlock ≠ some (⟨g, i, none⟩ : Addr).block := fun i e => by have h9 : w5.heap.size ≤ g := (O6.out.lt _ e).1; omega
                exact (((((O6.out.far (p := ⟨g, 1, none⟩) (q 1) _).far (p := ⟨g, 2, none⟩) (q 2) _).far (p := ⟨g, 3, none⟩) (q 3) _).far (p := ⟨g, 4, none⟩) (q 4) _).more (Nat.zero_le _))
              · have h8 := (O5.out.lt k e2).2; have h9 := (O6.out.lt k e).1; omega
              · simp only [World.size_setCell]
                rcases hk with rfl | hk | hk
                · omega
                · have := (O5.out.lt k hk).2; omega
                · exact (O6.out.lt k hk).2
            · rintro k (rfl | hk | hk)
              · exact hg
              · have := (O5.out.lt k hk).1; omega
              · have := (O6.out.lt k hk).1; omega
end Go.Proofs.Ytedhpkfbobgkgaa
