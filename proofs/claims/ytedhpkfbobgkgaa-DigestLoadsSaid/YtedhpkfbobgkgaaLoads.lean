/- DigestLoads' walk. -/
import Derived.Test.YtedhpkfbobgkgaaAgain
import Derived.Test.YtedhpkfbobgkgaaRight
import Derived.Test.YtedhpkfbobgkgaaRefUp
namespace Go.Proofs.Ytedhpkfbobgkgaa
open Go.RowKit Go.Lib

set_option maxRecDepth 100000 in
set_option maxHeartbeats 8000000 in
theorem loads_any (d lo hi : Int) (vl vw : Value) (L W : List Mn) (v n : Int) (w : World) (hL : RdM w vl L) (hW : RdM w vw W) (hr : rawL (L ++ W))
    (l0 : -9223372036854775808 ≤ lo) (l1 : lo ≤ 9223372036854775807) (h0 : -9223372036854775808 ≤ hi) (h1 : hi ≤ 9223372036854775807) (v0 : -9223372036854775808 ≤ v) (v1 : v ≤ 9223372036854775807) (n0 : 0 ≤ n) (n1 : n ≤ 18446744073709551615) :
    Calls Try.prog 8 #[.int .i64 d, .int .i64 lo, .int .i64 hi, vl, vw, .int .i64 v, .int .u64 n] w fun e w' => e = .returned (.bool true) ∧ Below w.heap.size w w' := by
  have HL := Lib.hid hL
  have HW := Lib.hid hW
  have HRAW := Lib.hid hr
  obtain ⟨A, ca, rfl, na, ma, fa⟩ := hL.form
  obtain ⟨B, cb, rfl, nb, mb, fb⟩ := hW.form
  clear hL hW fa fb hr
  by_cases hbig : 200 < L.length ∨ 1100 < W.length
  · by_cases hb1 : 200 < L.length
    · clear hbig
      go_enter Try.func8, Try.ntmps8
      go_wp2_with fail
      refine (alive_any w).mono ?_
      rintro e w1 ⟨rfl, hb1⟩
      go_wp2_with fail
      go_ret
      exact ⟨rfl, hb1⟩
    · have hb2 : 1100 < W.length := by omega
      clear hbig
      go_enter Try.func8, Try.ntmps8
      go_wp2_with fail
      refine (alive_any w).mono ?_
      rintro e w1 ⟨rfl, hb1⟩
      go_wp2_with fail
      go_ret
      exact ⟨rfl, hb1⟩
  · have hl1 : L.length ≤ 200 := by omega
    have hl2 : W.length ≤ 1100 := by omega
    clear hbig
    have hRR := fun (h : rightI d lo hi L W = true) => right_ok h HRAW.out l0 l1 h0 h1
    have HRR := Lib.hid hRR
    clear hRR
    cases hR : rightI d lo hi L W
    · have HR := Lib.hid hR
      clear hR
      go_enter Try.func8, Try.ntmps8
      go_wp2_with fail
      refine (alive_any w).mono ?_
      rintro e w1 ⟨rfl, hb1⟩
      have hz1 := hb1.size
      go_wp2_with fail
      refine (load_any d lo hi _ _ L W w1 (HL.out.keep hb1) (HW.out.keep hb1) HRAW.out (by omega)).mono ?_
      intro e w2 h2
      obtain ⟨rfl, hb2⟩ := h2.no HR.out
      clear h2
      have hz2 := hb2.size
      go_wp2_with fail
      have C1 := right_any d lo hi _ _ L W w2 ((HL.out.keep hb1).keep hb2) ((HW.out.keep hb1).keep hb2) HRAW.out (by omega)
      rw [HR.out] at C1
      refine C1.mono ?_
      rintro e w3 ⟨rfl, hb3⟩
      clear C1
      go_wp2_with fail
      go_ret
      exact ⟨rfl, by (repeat' (first | (with_reducible exact Below.refl _ _) | (with_reducible refine Below.alloc ?_ ?_ _) | (with_reducible refine Below.drew ?_) | (with_reducible refine below_drewN ?_ _) | (with_reducible refine Below.setCell ?_ ?_ _) | (with_reducible refine below_of (by assumption) ?_ ?_) | go_size))⟩
    · have HR := Lib.hid hR
      obtain ⟨ok, ht, d0, d1⟩ := HRR.out hR
      have FT : Fit d ⟨L, W, lo, hi⟩ 1300 := ⟨ok.more (by omega), by omega, ht, d0, d1⟩
      have FT' := Lib.hid FT
      have tn : 0 ≤ tot (L ++ W) := FT.ok.n_nonneg
      have FA : Hid (0 < n → n ≤ 281474976710656 - tot (L ++ W) → Fit d (St.add d ⟨L, W, lo, hi⟩ v n) 1301) := fun a b => ⟨FT.ok.add (by omega) v0 v1 a, by omega, by rw [St.add_n]; show tot (L ++ W) + n ≤ _; omega, d0, d1⟩
      clear hR ok FT
      go_enter Try.func8, Try.ntmps8
      go_wp2_with fail
      refine (alive_any w).mono ?_
      rintro e w1 ⟨rfl, hb1⟩
      have hz1 := hb1.size
      go_wp2_with fail
      refine (load_any d lo hi _ _ L W w1 (HL.out.keep hb1) (HW.out.keep hb1) HRAW.out (by omega)).mono ?_
      intro e w2 h2
      obtain ⟨g1, F1, rfl, d2, f2, hb2⟩ := h2.yes HR.out
      clear h2
      have D2 := Lib.hid d2
      have FF1 := Lib.hid f2
      clear d2 f2
      have hz2 := hb2.size
      go_wp2_with fail
      have C1 := right_any d lo hi _ _ L W w2 ((HL.out.keep hb1).keep hb2) ((HW.out.keep hb1).keep hb2) HRAW.out (by omega)
      rw [HR.out] at C1
      refine C1.mono ?_
      rintro e w3 ⟨rfl, hb3⟩
      clear C1
      have hz3 := hb3.size
      have hb03 : Below w.heap.size w w3 := (hb1.trans (hb2.mono hz1)).trans (hb3.mono (by omega))
      have D3 := Lib.hid (Dg.keep D2.out hb3)
      go_upto_region 9 with fail
      obtain ⟨g2, hg2⟩ : ∃ g2, w3.heap.size = g2 := ⟨_, rfl⟩
      have B4 : Hid (Blk (w3.alloc (.cells #[.int .i64 d, .slice none 0 0, .slice none 0 0, .int .i64 lo, .int .i64 hi] 37)) g2 37 #[.int .i64 d, .slice none 0 0, .slice none 0 0, .int .i64 lo, .int .i64 hi]) := by
        show Blk _ _ _ _
        rw [← hg2]; exact Blk.new _ _ _
      have hb34 : Below w3.heap.size w3 (w3.alloc (.cells #[.int .i64 d, .slice none 0 0, .slice none 0 0, .int .i64 lo, .int .i64 hi] 37)) := (Below.refl _ _).alloc (Nat.le_refl _) _
      have hz4 : g2 < (w3.alloc (.cells #[.int .i64 d, .slice none 0 0, .slice none 0 0, .int .i64 lo, .int .i64 hi] 37)).heap.size := by rw [World.size_alloc]; omega
      rw [hg2]
      have hg2' : w3.heap.size ≤ g2 := by omega
      have HG2 := Lib.hid hg2
      have T4 : Hid (Touch (fun k => k = g2) w3 (w3.alloc (.cells #[.int .i64 d, .slice none 0 0, .slice none 0 0, .int .i64 lo, .int .i64 hi] 37))) := Lib.hid ((Touch.refl _ _).alloc _)
      clear hg2
      generalize w3.alloc (.cells #[.int .i64 d, .slice none 0 0, .slice none 0 0, .int .i64 lo, .int .i64 hi] 37) = w4 at *
      have L4 := Lib.hid (HL.out.keep (hb03.trans (hb34.mono (by omega))))
      have W4 := Lib.hid (HW.out.keep (hb03.trans (hb34.mono (by omega))))
      have y1 := B4.out.cell 1
      have y2 := B4.out.cell 2
      simp only [List.getElem?_toArray, List.getElem?_cons_succ, List.getElem?_cons_zero] at y1 y2
      go_upto_region 10 with (first
        | (at_builtin
           go_must (refine append_M rfl (.tmp 59) (.tmp 60) rfl (g2 + 1) (.slice none 0 0) [] rfl (OwnM.nil_ _ _) (.slice A L.length ca) L rfl L4.out (by simp only [List.length_nil]; omega) hz4 ?_)
           intro v5 w5 o5 g5 a5
           obtain ⟨A5, c5, rfl, n5, m5, f5⟩ := o5.form
           have O5 : Hid (OwnM (g2 + 1) w5 (.slice A5 L.length c5) L) := Lib.hid o5
           have b5 : Blk w5 g2 37 #[.int .i64 d, .slice none 0 0, .slice none 0 0, .int .i64 lo, .int .i64 hi] := (g5.block g2 hz4 (by simp [Value.ownBlock])).trans B4.out
           have T5 : Hid (Touch (fun k => k = g2) w3 w5) := Lib.hid (T4.out.grown g5 (by simp [Value.ownBlock]))
           have W5 := Lib.hid (W4.out.keep ((Below.refl _ _).grown g5 (Nat.le_refl _) (by simp [Value.ownBlock])))
           have z5 := g5.size
           have B5 := Lib.hid b5
           have p1 := b5.cell 1
           have q1 := b5.frozen 1
           simp only [List.getElem?_toArray, List.getElem?_cons_succ, List.getElem?_cons_zero] at p1
           clear o5 g5 a5 f5 b5 y1 y2
           go_simp))
      have B6 : Hid (Blk (w5.setCell ⟨g2, 1, none⟩ (.slice A5 L.length c5)) g2 37 #[.int .i64 d, .slice A5 L.length c5, .slice none 0 0, .int .i64 lo, .int .i64 hi]) := Lib.hid (B5.out.set_ 1 (.slice A5 L.length c5))
      have own5 : ∀ k, (Value.slice A5 L.length c5).ownBlock = some k → g2 + 1 ≤ k ∧ k < w5.heap.size := fun k e => O5.out.lt k e
      have HOW5 := Lib.hid own5
      have O6 := Lib.hid (O5.out.far (p := ⟨g2, 1, none⟩) (fun e => by have h9 : g2 + 1 ≤ g2 := (own5 _ e).1; omega) (.slice A5 L.length c5))
      have T6 := Lib.hid (T5.out.setCell (p := ⟨g2, 1, none⟩) (.inl rfl) (.slice A5 L.length c5))
      have W6 : Hid (RdM (w5.setCell ⟨g2, 1, none⟩ (.slice A5 L.length c5)) (.slice B W.length cb) W) := HW.out.keep (hb03.trans (T6.out.below (fun i hi => by omega) (by omega)))
      have z6 : (w5.setCell ⟨g2, 1, none⟩ (.slice A5 L.length c5)).heap.size = w5.heap.size := World.size_setCell ..
      have z6' : w4.heap.size ≤ (w5.setCell ⟨g2, 1, none⟩ (.slice A5 L.length c5)).heap.size := by rw [z6]; exact z5
      have HZ6 := Lib.hid z6
      clear p1 q1 own5 z6 B5 O5 T5 W5
      generalize w5.setCell ⟨g2, 1, none⟩ (.slice A5 L.length c5) = w6 at *
      have y2 := B6.out.cell 2
      simp only [List.getElem?_toArray, List.getElem?_cons_succ, List.getElem?_cons_zero] at y2
      go_upto_region 11 with (first
        | (at_builtin
           go_must (refine append_M rfl (.tmp 68) (.tmp 69) rfl (g2 + 1) (.slice none 0 0) [] rfl (OwnM.nil_ _ _) (.slice B W.length cb) W rfl W6.out (by simp only [List.length_nil]; omega) (by omega) ?_)
           intro v7 w7 o7 g7 a7
           obtain ⟨A7, c7, rfl, n7, m7, f7⟩ := o7.form
           have O7 : Hid (OwnM (g2 + 1) w7 (.slice A7 W.length c7) W) := Lib.hid o7
           have b7 : Blk w7 g2 37 #[.int .i64 d, .slice A5 L.length c5, .slice none 0 0, .int .i64 lo, .int .i64 hi] := (g7.block g2 (by omega) (by simp [Value.ownBlock])).trans B6.out
           have T7 : Hid (Touch (fun k => k = g2) w3 w7) := Lib.hid (T6.out.grown g7 (by simp [Value.ownBlock]))
           have L7 := Lib.hid (O6.out.keep ((Below.refl _ _).grown g7 (Nat.le_refl _) (by simp [Value.ownBlock])))
           have z7 := g7.size
           have A77 : Hid (∀ k, (Value.slice A7 W.length c7).ownBlock = some k → w6.heap.size ≤ k) := fun k e => by
             rcases a7 with a | a
             · have a' : (Value.slice A7 W.length c7).ownBlock = none := a
               rw [a'] at e; cases e
             · have a' : (Value.slice A7 W.length c7).ownBlock = some w6.heap.size := a
               rw [a'] at e; simp only [Option.some.injEq] at e; omega
           have B7 := Lib.hid b7
           have p2 := b7.cell 2
           have q2 := b7.frozen 2
           simp only [List.getElem?_toArray, List.getElem?_cons_succ, List.getElem?_cons_zero] at p2
           clear o7 g7 a7 f7 b7 y2
           go_simp))
      have T8 := Lib.hid (T7.out.setCell (p := ⟨g2, 2, none⟩) (.inl rfl) (.slice A7 W.length c7))
      have R8 : Hid (∃ F2 : Nat → Prop, RDgS (w7.setCell ⟨g2, 2, none⟩ (.slice A7 W.length c7)) g2 F2 d ⟨L, W, lo, hi⟩ ∧ (∀ k, F2 k → g2 ≤ k)) := by
        refine ⟨fun k => k = g2 ∨ (Value.slice A5 L.length c5).ownBlock = some k ∨ (Value.slice A7 W.length c7).ownBlock = some k, ⟨_, _, B7.out.set_ 2 (.slice A7 W.length c7), (L7.out.far (p := ⟨g2, 2, none⟩) (fun e => by have h9 : g2 + 1 ≤ g2 := (L7.out.lt _ e).1; omega) _).more (Nat.zero_le _), (O7.out.far (p := ⟨g2, 2, none⟩) (fun e => by have h9 : g2 + 1 ≤ g2 := (O7.out.lt _ e).1; omega) _).more (Nat.zero_le _), .inl rfl, fun k e => .inr (.inl e), fun k e => .inr (.inr e), fun k e e2 => ?_, fun k hk => ?_⟩, fun k hk => ?_⟩
        · have q8 := A77.out k e; have q9 := (HOW5.out k e2).2; have := HZ6.out; omega
        · simp only [World.size_setCell]
          rcases hk with rfl | hk | hk
          · omega
          · exact (L7.out.lt k hk).2
          · exact (O7.out.lt k hk).2
        · rcases hk with rfl | hk | hk
          · exact Nat.le_refl _
          · have := (HOW5.out k hk).1; omega
          · have := (O7.out.lt k hk).1; omega
      have hzz : w4.heap.size ≤ (w7.setCell ⟨g2, 2, none⟩ (.slice A7 W.length c7)).heap.size := by rw [World.size_setCell]; omega
      clear p2 q2 L7 O7 B7 T7 A77 O6 B6 T6 W6 HZ6 HOW5
      generalize w7.setCell ⟨g2, 2, none⟩ (.slice A7 W.length c7) = w8 at *
      have hb38 : Below w3.heap.size w3 w8 := T8.out.below (fun i hi => by omega) (Nat.le_refl _)
      have hb08 : Below w.heap.size w w8 := hb03.trans (hb38.mono (by omega))
      have hz8 := hb38.size
      obtain ⟨F2, r8, f8⟩ := R8.out
      have T9 : Hid (Two w.heap.size w w8 g1 g2 d ⟨L, W, lo, hi⟩) := ⟨F1, F2, Dg.keep D3.out hb38, r8, fun k a b => (by have := Dg.low D3.out k a; have := f8 k b; omega), fun k a => (by have := FF1.out k a; omega), fun k b => (by have := f8 k b; omega), hb08⟩
      have R9 := Lib.hid r8
      have D9 : Hid (DgS w8 g1 F1 d ⟨L, W, lo, hi⟩) := Lib.hid (Dg.keep D3.out hb38)
      clear r8 f8 R8
      have hz08 := hb08.size
      go_wp2_with fail
      refine (same_any w8 D9.out R9.out FT'.out).mono ?_
      rintro e w9 ⟨rfl, hb9⟩
      have hz9 := hb9.size
      have T10 := Lib.hid (T9.out.keep hb9 hz08)
      have hb09 : Below w.heap.size w w9 := hb08.trans (hb9.mono hz08)
      clear T9 R9 D9
      by_cases h60 : 60 < W.length
      · go_wp2_with fail
        go_ret
        exact ⟨rfl, hb09⟩
      · obtain ⟨Fa, Fb, a1, a2, a3, a4, a5, a6⟩ := T10.out
        have A1 := Lib.hid a1
        have A2 := Lib.hid a2
        have A3 := Lib.hid a3
        have A4 := Lib.hid a4
        have A5 := Lib.hid a5
        have hz09 := a6.size
        clear a1 a2 a3 a4 a5
        by_cases hno : n = 0 ∨ 281474976710656 - tot (L ++ W) < n
        · have AC := Lib.hid (addS_no v n w9 A1.out FT'.out (by omega) v0 v1 n0 n1 hno)
          have RC := fun w h => Lib.hid (radd_no v n w (h : RDgS w g2 Fb d ⟨L, W, lo, hi⟩) FT'.out hno)
          generalize (if n = 0 then (4 : Int) else 6) = er at AC RC
          have hee : (er == er) = true := by simp
          obtain ⟨u, hu⟩ : ∃ u, uptoS d ⟨L, W, lo, hi⟩ v = u := ⟨_, rfl⟩
          have HU := Lib.hid hu
          have huu : (u == u) = true := by simp
          clear hno hu
          go_wp2_with fail
          refine AC.out.mono ?_
          rintro e w10 ⟨rfl, hb10⟩
          have hz10 := hb10.size
          have D10 : Hid (DgS w10 g1 Fa d ⟨L, W, lo, hi⟩) := Lib.hid (Dg.keep A1.out hb10)
          have R10 : Hid (RDgS w10 g2 Fb d ⟨L, W, lo, hi⟩) := Lib.hid (RDg.keep A2.out hb10)
          go_wp2_with fail
          refine ((RC _ R10.out).out).mono ?_
          rintro e w11 ⟨rfl, hb11⟩
          have hz11 := hb11.size
          have D11 : Hid (DgS w11 g1 Fa d ⟨L, W, lo, hi⟩) := Lib.hid (Dg.keep D10.out hb11)
          have R11 : Hid (RDgS w11 g2 Fb d ⟨L, W, lo, hi⟩) := Lib.hid (RDg.keep R10.out hb11)
          go_wp2_with fail
          refine (same_any w11 D11.out R11.out FT'.out).mono ?_
          rintro e w12 ⟨rfl, hb12⟩
          have hz12 := hb12.size
          have D12 : Hid (DgS w12 g1 Fa d ⟨L, W, lo, hi⟩) := Lib.hid (Dg.keep D11.out hb12)
          have R12 : Hid (RDgS w12 g2 Fb d ⟨L, W, lo, hi⟩) := Lib.hid (RDg.keep R11.out hb12)
          go_wp2_with fail
          have C1 := upto_any v w12 D12.out FT'.out v0 v1
          rw [HU.out] at C1
          refine C1.mono ?_
          rintro e w13 ⟨rfl, hb13⟩
          have hz13 := hb13.size
          have R13 : Hid (RDgS w13 g2 Fb d ⟨L, W, lo, hi⟩) := Lib.hid (RDg.keep R12.out hb13)
          clear C1
          go_wp2_with fail
          have C1 := rupto_any v w13 R13.out FT'.out v0 v1
          rw [HU.out] at C1
          refine C1.mono ?_
          rintro e w14 ⟨rfl, hb14⟩
          clear C1
          go_wp2_with fail
          go_ret
          exact ⟨rfl, ((((hb09.trans (hb10.mono (by omega))).trans (hb11.mono (by omega))).trans (hb12.mono (by omega))).trans (hb13.mono (by omega))).trans (hb14.mono (by omega))⟩
        · have hn0 : 0 < n := by omega
          have hn1 : n ≤ 281474976710656 - tot (L ++ W) := by omega
          have FX := Lib.hid (FA.out hn0 hn1)
          have AC := Lib.hid (addS_any v n w9 A1.out FT'.out (by omega) v0 v1 hn0 hn1)
          have RC := fun w h => Lib.hid (radd_yes v n w (h : RDgS w g2 Fb d ⟨L, W, lo, hi⟩) FT'.out (by omega) v0 v1 hn0 hn1)
          obtain ⟨s', hs'⟩ : ∃ s', St.add d ⟨L, W, lo, hi⟩ v n = s' := ⟨_, rfl⟩
          rw [hs'] at FX AC
          simp only [hs'] at RC
          obtain ⟨u, hu⟩ : ∃ u, uptoS d s' v = u := ⟨_, rfl⟩
          have HU := Lib.hid hu
          have huu : (u == u) = true := by simp
          clear hno hu hs'
          go_wp2_with fail
          refine AC.out.mono ?_
          rintro e w10 ⟨rfl, F1', b1, b2, b3⟩
          have hz10 := b3.size
          have R10 := Lib.hid (A2.out.far b3 A3.out)
          have E1 := Lib.hid b1
          have E2 := Lib.hid b2
          have E3 := Lib.hid b3
          clear b1 b2 b3
          go_wp2_with fail
          refine ((RC _ R10.out).out).mono ?_
          rintro e w11 ⟨rfl, F2', c1, c2, c3⟩
          have hz11 := c3.size
          have T11 := Two.step A1.out A2.out A3.out A4.out A5.out a6 hz09 E1.out E2.out E3.out c1 c2 c3
          obtain ⟨Fc, Fd, u1, u2, u3, u4, u5, u6⟩ := T11
          have D11 := Lib.hid u1
          have R11 := Lib.hid u2
          have hz011 := u6.size
          clear u1 u2 u3 u4 u5 c1 c2 c3
          go_wp2_with fail
          refine (same_any w11 D11.out R11.out FX.out).mono ?_
          rintro e w12 ⟨rfl, hb12⟩
          have hz12 := hb12.size
          have D12 := Lib.hid (Dg.keep D11.out hb12)
          have R12 := Lib.hid (RDg.keep R11.out hb12)
          go_wp2_with fail
          have C1 := upto_any v w12 D12.out FX.out v0 v1
          rw [HU.out] at C1
          refine C1.mono ?_
          rintro e w13 ⟨rfl, hb13⟩
          have hz13 := hb13.size
          have R13 := Lib.hid (RDg.keep R12.out hb13)
          clear C1
          go_wp2_with fail
          have C1 := rupto_any v w13 R13.out FX.out v0 v1
          rw [HU.out] at C1
          refine C1.mono ?_
          rintro e w14 ⟨rfl, hb14⟩
          clear C1
          go_wp2_with fail
          go_ret
          exact ⟨rfl, ((u6.trans (hb12.mono (by omega))).trans (hb13.mono (by omega))).trans (hb14.mono (by omega))⟩
end Go.Proofs.Ytedhpkfbobgkgaa
