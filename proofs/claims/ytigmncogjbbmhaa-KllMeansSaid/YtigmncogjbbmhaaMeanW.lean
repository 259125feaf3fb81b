/- Package wide's mean; the digest's. Conditions: weights are positive and together at most 2^48; for wide there are terms. -/
import Derived.Test.YtigmncogjbbmhaaMeanS
import Derived.Test.YtigmncogjbbmhaaPlanS
import Derived.Test.YtigmncogjbbmhaaPlan
namespace Go.Proofs.Ytigmncogjbbmhaa
open Go.RowKit Go.Lib

set_option maxHeartbeats 400000 in
theorem wadd_of (L R : Int) (w : World) (l0 : 0 ≤ L) (r0 : 0 ≤ R) (h : L + R < 340282366920938463463374607431768211456) :
    Calls Try.prog 95 #[.agg #[.int .u64 (L / 18446744073709551616), .int .u64 (L % 18446744073709551616)], .agg #[.int .u64 (R / 18446744073709551616), .int .u64 (R % 18446744073709551616)]] w fun e w' => e = .returned (.tuple #[.agg #[.int .u64 ((L + R) / 18446744073709551616), .int .u64 ((L + R) % 18446744073709551616)], .int .i64 0]) ∧ Below w.heap.size w w' := by
  have ha := fun (w : World) => add64_run (L % 18446744073709551616) (R % 18446744073709551616) 0 w (by omega) (by omega) (by omega) (by omega)
  have hb := fun (w : World) => add64_run (L / 18446744073709551616) (R / 18446744073709551616) ((L % 18446744073709551616 + R % 18446744073709551616 + 0) / 18446744073709551616) w (by omega) (by omega) (by omega) (by omega)
  have e1 : (L % 18446744073709551616 + R % 18446744073709551616 + 0) % 18446744073709551616 = (L + R) % 18446744073709551616 := by omega
  have e2 : (L / 18446744073709551616 + R / 18446744073709551616 + (L % 18446744073709551616 + R % 18446744073709551616 + 0) / 18446744073709551616) % 18446744073709551616 = (L + R) / 18446744073709551616 := by omega
  have e3 : (L / 18446744073709551616 + R / 18446744073709551616 + (L % 18446744073709551616 + R % 18446744073709551616 + 0) / 18446744073709551616) / 18446744073709551616 = 0 := by omega
  rw [e2, e3] at hb
  rw [e1] at ha
  clear e1 e2 e3
  generalize L / 18446744073709551616 = L1 at *
  generalize L % 18446744073709551616 = L0 at *
  generalize R / 18446744073709551616 = R1 at *
  generalize R % 18446744073709551616 = R0 at *
  generalize (L0 + R0 + 0) / 18446744073709551616 = c at *
  generalize (L + R) / 18446744073709551616 = S1 at *
  generalize (L + R) % 18446744073709551616 = S0 at *
  go_enter Try.func95, Try.ntmps95
  go_wp2
  refine bodyPost_ret (by simp [results, Try.results95, go_sem, *]; try rfl) rfl ?_
  exact ⟨rfl, by (repeat' (first | (with_reducible exact Below.refl _ _) | (with_reducible refine Below.alloc ?_ ?_ _) | (with_reducible refine Below.drew ?_) | (with_reducible refine below_drewN ?_ _) | (with_reducible refine Below.setCell ?_ ?_ _) | (with_reducible refine below_of (by assumption) ?_ ?_) | go_size))⟩

set_option maxRecDepth 100000 in
set_option maxHeartbeats 2000000 in
theorem wmean_any (v : Value) (l : List Mn) (w : World) (h : RdM w v l) (ho : okL l) (h0 : 0 < l.length) (hl : l.length ≤ 1000000000) (ht : tot l ≤ 281474976710656) :
    Calls Try.prog 73 #[v] w fun e w' => e = .returned (.tuple #[.int .i64 (meanI l), .int .i64 0]) ∧ Below w.heap.size w w' := by
  obtain ⟨A, c, rfl, hn, hc, hp⟩ := h.form
  obtain ⟨g, off, rfl, hg, c0, c1⟩ := hp.at_ h0
  have HP : Hid (∀ j (h : j < l.length), w.cell? ⟨g, off + j * 2, none⟩ = some (.int .i64 l[j].1) ∧ w.cell? ⟨g, off + j * 2 + 1, none⟩ = some (.int .u64 l[j].2)) := fun j h => by
    obtain ⟨g', off', e, _, d0, d1⟩ := hp.at_ h
    simp only [Option.some.injEq, Addr.mk.injEq, and_true] at e
    obtain ⟨rfl, rfl⟩ := e
    exact ⟨d0, d1⟩
  clear hp h c1
  have MF := Lib.hid (MnFit.of ho h0)
  have HO := Lib.hid ho
  have x00 := (ho.get h0).1
  have x01 := (ho.get h0).2.1
  have tp : 0 < tot l := by
    have h1 := ho.tot_get h0
    have h2 := (ho.get h0).2.2
    have h3 := (ho.tot_take 0).1
    omega
  have h0b : ((l.length : Int) == 0) = false := beq_eq_false_iff_ne.2 (by omega)
  have h0i : (0 : Int) < (l.length : Int) := by omega
  obtain ⟨x0, hx0⟩ : ∃ x, l[0].1 = x := ⟨_, rfl⟩
  rw [hx0] at c0 x00 x01 MF
  simp only [Nat.zero_mul, Nat.add_zero] at c0
  clear hx0 ho
  go_enter Try.func73, Try.ntmps73
  go_wp2_with fail
  clear c0
  go_loopg [4, 25] l.length (fun k lo i wr => ∃ j : Nat, k = l.length - j ∧ j ≤ l.length ∧ i = .int .i64 j ∧ lo = .int .i64 (lowL x0 (l.take j)) ∧ Below w.heap.size w wr)
  case atStart => exact ⟨0, rfl, by omega, rfl, rfl, Below.refl _ _⟩
  case round =>
    obtain ⟨j, hk, hj, rfl, rfl, hb⟩ := hrel
    have HK := Lib.hid hk
    have hz := hb.size
    clear hk
    by_cases hlt : j < l.length
    · have q0 := (hb.cell (p := ⟨g, off + j * 2, none⟩) hg).trans (HP.out j hlt).1
      have q1 := (hb.cell (p := ⟨g, off + j * 2 + 1, none⟩) hg).trans (HP.out j hlt).2
      have HT := Lib.hid (lowL_take_succ x0 l j hlt)
      generalize lowL x0 (l.take j) = a at *
      generalize l[j].1 = x at *
      generalize l[j].2 = y at *
      go_wp2_with fail
      go_roundg (l.length - (j + 1))
      case measure => have := HK.out; omega
      case rel => exact ⟨j + 1, rfl, by omega, by go_num, by rw [HT.out], by (repeat' (first | (with_reducible exact Below.refl _ _) | (with_reducible refine Below.alloc ?_ ?_ _) | (with_reducible refine Below.drew ?_) | (with_reducible refine below_drewN ?_ _) | (with_reducible refine Below.setCell ?_ ?_ _) | (with_reducible refine below_of (by assumption) ?_ ?_) | go_size))⟩
    · have hE2 : Hid (lowL x0 (l.take j) = lowL x0 l) := by show _ = _; rw [List.take_of_length_le (by omega)]
      rw [hE2.out]
      obtain ⟨lw, hlw⟩ : ∃ lw, lowL x0 l = lw := ⟨_, rfl⟩
      rw [hlw] at MF ⊢
      clear hlw hE2
      have lw0 := MF.out.lo
      have zz : ((0 : Int) / 18446744073709551616) = 0 := by decide
      have zy : ((0 : Int) % 18446744073709551616) = 0 := by decide
      go_wp2_with fail
      obtain ⟨G, hG⟩ : ∃ G, wr.heap.size = G := ⟨_, rfl⟩
      have B0 : Hid (Blk (wr.alloc (.cells #[.int .u64 (asum lw (l.take 0) / 18446744073709551616), .int .u64 (asum lw (l.take 0) % 18446744073709551616)] 147)) G 147 #[.int .u64 (asum lw (l.take 0) / 18446744073709551616), .int .u64 (asum lw (l.take 0) % 18446744073709551616)]) := by
        rw [← hG]; exact Blk.new _ _ _
      rw [List.take_zero, asum_nil, zz, zy] at B0
      have hbG : Below w.heap.size w (wr.alloc (.cells #[.int .u64 0, .int .u64 0] 147)) := by (repeat' (first | (with_reducible exact Below.refl _ _) | (with_reducible refine Below.alloc ?_ ?_ _) | (with_reducible refine Below.drew ?_) | (with_reducible refine below_drewN ?_ _) | (with_reducible refine Below.setCell ?_ ?_ _) | (with_reducible refine below_of (by assumption) ?_ ?_) | go_size))
      have hzG : w.heap.size ≤ G := by omega
      rw [hG]
      generalize wr.alloc (.cells #[.int .u64 0, .int .u64 0] 147) = wG at *
      clear hG hz hb
      go_loopg [7, 37] l.length (fun k al i wr => ∃ j : Nat, k = l.length - j ∧ j ≤ l.length ∧ i = .int .i64 j ∧ al = .int .u64 (tot (l.take j)) ∧ Blk wr G 147 #[.int .u64 (asum lw (l.take j) / 18446744073709551616), .int .u64 (asum lw (l.take j) % 18446744073709551616)] ∧ Below w.heap.size w wr)
      case atStart => exact ⟨0, rfl, by omega, rfl, rfl, by rw [List.take_zero, asum_nil, zz, zy]; exact B0.out, hbG⟩
      case round =>
        obtain ⟨n, hk, hn, rfl, rfl, hB, hb⟩ := hrel
        have HK := Lib.hid hk
        have HB := Lib.hid hB
        have hz := hb.size
        have lG := hB.lt
        clear hk hB
        by_cases hlt4 : n < l.length
        · have q0 := (hb.cell (p := ⟨g, off + n * 2, none⟩) hg).trans (HP.out n hlt4).1
          have q1 := (hb.cell (p := ⟨g, off + n * 2 + 1, none⟩) hg).trans (HP.out n hlt4).2
          obtain ⟨a0, a1⟩ := MF.out.take HO.out ht n
          obtain ⟨b0, b1⟩ := MF.out.le l[n] (List.getElem_mem hlt4)
          have o1 := (HO.out.get hlt4).2.2
          have t1 := HO.out.tot_get hlt4
          have t0 := (HO.out.tot_take n).1
          have x1 := (HO.out.get hlt4).2.1
          have HT := Lib.hid (asum_take_succ lw l n hlt4)
          have HTT := Lib.hid (tot_take_succ l n hlt4)
          obtain ⟨_, c1⟩ := MF.out.take HO.out ht (n + 1)
          rw [HT.out] at c1
          generalize asum lw (l.take n) = a at *
          generalize tot (l.take n) = t at *
          generalize l[n].1 = x at *
          generalize l[n].2 = y at *
          have EW := Lib.hid (show IntKind.u64.wrap (IntKind.u64.wrap x - IntKind.u64.wrap lw) = x - lw by simp only [u64w]; omega)
          have p0 := Int.mul_nonneg (show 0 ≤ x - lw by omega) (show 0 ≤ y by omega)
          have ha := fun (w : World) => add64_run t y 0 w (by omega) (by omega) (by omega) (by omega)
          rw [show (t + y + 0) % 18446744073709551616 = t + y by omega, show (t + y + 0) / 18446744073709551616 = 0 by omega] at ha
          obtain ⟨wo, rfl⟩ : ∃ wo : World, wo = wr := ⟨_, rfl⟩
          go_wp2_with fail
          have H0 := Lib.hid (Blk.new wo 121 #[.int .i64 x, .int .u64 y])
          have G0 := Lib.hid (HB.out.alloc (.cells #[.int .i64 x, .int .u64 y] 121))
          have hb0 : Below w.heap.size w (wo.alloc (.cells #[.int .i64 x, .int .u64 y] 121)) := by (repeat' (first | (with_reducible exact Below.refl _ _) | (with_reducible refine Below.alloc ?_ ?_ _) | (with_reducible refine Below.drew ?_) | (with_reducible refine below_drewN ?_ _) | (with_reducible refine Below.setCell ?_ ?_ _) | (with_reducible refine below_of (by assumption) ?_ ?_) | go_size))
          obtain ⟨H, hH⟩ : ∃ H, wo.heap.size = H := ⟨_, rfl⟩
          rw [hH] at H0 ⊢
          generalize wo.alloc (.cells #[.int .i64 x, .int .u64 y] 121) = w0 at *
          have k0 := H0.out.cell 0
          have k1 := H0.out.cell 1
          have k2 := G0.out.cell 0
          have k3 := G0.out.cell 1
          have hl0 := H0.out.lt
          have hlG := G0.out.lt
          have hfG := G0.out.frozen 0
          have hfG1 := G0.out.frozen 1
          simp only [List.getElem?_toArray, List.getElem?_cons_succ, List.getElem?_cons_zero] at k0 k1 k2 k3
          have K0 := Lib.hid k0
          have K1 := Lib.hid k1
          have K2 := Lib.hid k2
          have K3 := Lib.hid k3
          have F0 := Lib.hid hfG
          have F1 := Lib.hid hfG1
          clear ha k0 k1 k2 k3 hfG hfG1 q0 q1 hH
          refine wp_region_planS (fun w' => Below w0.heap.size w0 w') 14 [(0, 1), (1, 1), (2, 1), (3, 1), (4, 1), (5, 1), (6, 1), (7, 1), (8, 1), (9, 0), (10, 0), (11, 1), (12, 1), (13, 2), (14, 0)] (by kernel_rfl) (by kernel_rfl) ((Below.refl _ _).drew) ?_
          iterate 9
            refine wpPlanS_read (by rfl) (by rfl) (fun R hR => ?_)
            apply Exists.intro
            refine ⟨fun w' hS' => ?_, ?_⟩
            · have k0 := (hS'.cell (p := ⟨H, 0, none⟩) hl0).trans K0.out
              have k1 := (hS'.cell (p := ⟨H, 1, none⟩) hl0).trans K1.out
              have k2 := (hS'.cell (p := ⟨G, 0, none⟩) hlG).trans K2.out
              have k3 := (hS'.cell (p := ⟨G, 1, none⟩) hlG).trans K3.out
              have ew := EW.out
              go_simp
              exact ⟨rfl, rfl⟩
            go_simp
            refine hR _ ?_
            clear hR R
          refine wpPlanS_do (by rfl) (by rfl) (by rfl) (fun K hK => ?_)
          go_simp
          refine (wmul_any (x - lw) y _ (by omega) (by omega) (by omega) (by omega)).mono ?_
          rintro e w1 ⟨rfl, hb1⟩
          have hbw1 : Below w0.heap.size w0 w1 := ((Below.refl _ _).drew).trans (hb1.mono (by go_size))
          have hz1 := hbw1.size
          refine hK _ _ (hbw1) ?_
          clear hK K
          refine wpPlanS_do (by rfl) (by rfl) (by rfl) (fun K hK => ?_)
          go_simp
          refine (wadd_of a ((x - lw) * y) w1 a0 p0 (by omega)).mono ?_
          rintro e w2 ⟨rfl, hb2⟩
          have hbw2 : Below w0.heap.size w0 w2 := hbw1.trans (hb2.mono hz1)
          have hz2 := hbw2.size
          refine hK _ _ (hbw2) ?_
          clear hK K
          iterate 2
            refine wpPlanS_read (by rfl) (by rfl) (fun R hR => ?_)
            apply Exists.intro
            refine ⟨fun w' hS' => ?_, ?_⟩
            · have k0 := (hS'.cell (p := ⟨H, 0, none⟩) hl0).trans K0.out
              have k1 := (hS'.cell (p := ⟨H, 1, none⟩) hl0).trans K1.out
              have k2 := (hS'.cell (p := ⟨G, 0, none⟩) hlG).trans K2.out
              have k3 := (hS'.cell (p := ⟨G, 1, none⟩) hlG).trans K3.out
              have ew := EW.out
              go_simp
              exact ⟨rfl, rfl⟩
            go_simp
            refine hR _ ?_
            clear hR R
          iterate 1
            refine wpPlanS_pure (by rfl) (by rfl) (fun R hR => ?_)
            apply Exists.intro
            refine ⟨fun w' => ?_, ?_⟩
            · go_simp
              exact ⟨rfl, rfl⟩
            go_simp
            refine hR _ ?_
            clear hR R
          refine wpPlanS_end (by rfl) (by rfl) (by rfl) (fun K hK => ?_)
          have k2 := (hbw2.cell (p := ⟨G, 0, none⟩) hlG).trans K2.out
          have k3 := (hbw2.cell (p := ⟨G, 1, none⟩) hlG).trans K3.out
          have k4 := (hbw2.frozen (p := ⟨G, 0, none⟩) hlG).trans F0.out
          have k5 := (hbw2.frozen (p := ⟨G, 1, none⟩) hlG).trans F1.out
          go_simp
          refine hK _ _ ?_
          clear hK K
          refine wpPlanS_nil ?_
          go_wp2_with fail
          go_roundg (l.length - (n + 1))
          case measure => have := HK.out; omega
          case rel => exact ⟨n + 1, rfl, by omega, by go_num, by rw [HTT.out], by rw [HT.out]; exact ((G0.out.keep hbw2).set_ 0 _).set_ 1 _, by (repeat' (first | (with_reducible exact Below.refl _ _) | (with_reducible refine Below.alloc ?_ ?_ _) | (with_reducible refine Below.drew ?_) | (with_reducible refine below_drewN ?_ _) | (with_reducible refine Below.setCell ?_ ?_ _) | (with_reducible refine below_of (by assumption) ?_ ?_) | go_size))⟩
        · have hE3 : Hid (asum lw (l.take n) = asum lw l) := by show _ = _; rw [List.take_of_length_le (by omega)]
          have hE4 : Hid (tot (l.take n) = tot l) := by show _ = _; rw [List.take_of_length_le (by omega)]
          rw [hE3.out] at HB
          rw [hE4.out]
          obtain ⟨a0, a1⟩ := MF.out.all HO.out ht
          have k2 := HB.out.cell 0
          have k3 := HB.out.cell 1
          simp only [List.getElem?_toArray, List.getElem?_cons_succ, List.getElem?_cons_zero] at k2 k3
          have HM := Lib.hid MF.out.mean
          have HR := Lib.hid MF.out.ret
          have q0 := MF.out.q0
          have q1 := MF.out.q1
          go_wp2_with fail
          refine (wdiv_small (asum lw l) (tot l) _ a0 (by omega) tp (by omega) (by omega)).mono ?_
          rintro e w1 ⟨rfl, hb1⟩
          have hz1 := hb1.size
          generalize asum lw l / tot l = Q at *
          go_wp2_with fail
          go_ret2
          exact ⟨by rw [← HR.out]; rfl, by (repeat' (first | (with_reducible exact Below.refl _ _) | (with_reducible refine Below.alloc ?_ ?_ _) | (with_reducible refine Below.drew ?_) | (with_reducible refine below_drewN ?_ _) | (with_reducible refine Below.setCell ?_ ?_ _) | (with_reducible refine below_of (by assumption) ?_ ?_) | go_size))⟩
end Go.Proofs.Ytigmncogjbbmhaa
