/- Take of the program's digest. · Take of the reference's digest. · Take, where nothing is taken. -/
import Derived.Test.YtedhpkfbobgkgaaDigN
import Derived.Test.YtedhpkfbobgkgaaLen
namespace Go.Proofs.Ytedhpkfbobgkgaa
section
open Go.RowKit Go.Lib
set_option maxRecDepth 100000 in
set_option maxHeartbeats 4000000 in
theorem take_yes {g gt : Nat} {F Ft : Nat → Prop} {d : Int} {s t : St} {k kt : Nat} (w : World) (h : DgS w g F d s) (ht : DgS w gt Ft d t) (hx : (gt = g ∧ Ft = F ∧ t = s) ∨ (∀ k, F k → ¬ Ft k)) (ft : Fit d s k) (ft' : Fit d t kt) (hk : k + kt ≤ 100000000)
    (hcap : tot (t.L ++ t.W) ≤ 281474976710656 - tot (s.L ++ s.W)) (hne : 0 < tot (t.L ++ t.W)) :
    Calls Try.prog 41 #[.pointer (some ⟨g, 0, none⟩), .pointer (some ⟨gt, 0, none⟩)] w fun e w' => e = .returned (.int .i64 0) ∧ ∃ F' : Nat → Prop, (∀ k, F' k → F k ∨ w.heap.size ≤ k) ∧ DgS w' g F' d (s.take d t) ∧ Touch F w w' := by
  have H := Lib.hid h
  have HT := Lib.hid ht
  have s0 := ft.ok.n_nonneg
  have s1 := ft.t
  have d0 := ft.d0
  have d1 := ft.d1
  have hls := ft.ok.len
  have hlt := ft'.ok.len
  have HB1 := Lib.hid (And.intro (And.intro ft.ok.lo0 ft.ok.lo1) (And.intro ft.ok.hi0 ft.ok.hi1))
  have HB2 := Lib.hid (And.intro (And.intro ft'.ok.lo0 ft'.ok.lo1) (And.intro ft'.ok.hi0 ft'.ok.hi1))
  have HOK : Hid (okL (s.L ++ (s.W ++ (t.L ++ t.W)))) := by show okL _; rw [← List.append_assoc]; exact ft.ok.ok.append ft'.ok.ok
  have HTT : Hid (tot (s.L ++ (s.W ++ (t.L ++ t.W))) = tot (s.L ++ s.W) + tot (t.L ++ t.W)) := by show _ = _; rw [← List.append_assoc, tot_append]
  have HST : Hid (s.take d t = ⟨prs d (s.L ++ (s.W ++ (t.L ++ t.W))), [], if tot (s.L ++ s.W) = 0 then t.lo else min s.lo t.lo, if tot (s.L ++ s.W) = 0 then t.hi else max s.hi t.hi⟩) := by show s.take d t = _; unfold St.take; rw [if_neg (by omega)]
  have HX := Lib.hid hx
  obtain ⟨slv, swv, sb, _⟩ := id h
  obtain ⟨tlv, twv, tb, _⟩ := id ht
  have hg := sb.lt
  have hgt := tb.lt
  have x0 := sb.cell 0
  have x5 := sb.cell 5
  have y0 := tb.cell 0
  have y3 := tb.cell 3
  have y4 := tb.cell 4
  have y5 := tb.cell 5
  simp only [List.getElem?_toArray, List.getElem?_cons_succ, List.getElem?_cons_zero] at x0 x5 y0 y3 y4 y5
  have Y3 := Lib.hid y3
  have Y4 := Lib.hid y4
  have hdd : (d != d) = false := by simp
  have htz : (tot (t.L ++ t.W) == 0) = false := beq_eq_false_iff_ne.2 (by omega)
  have hcb : decide (281474976710656 - tot (s.L ++ s.W) < tot (t.L ++ t.W)) = false := decide_eq_false (by omega)
  have EW := Lib.hid (IntWalk.u64_in (281474976710656 - tot (s.L ++ s.W)) (by omega))
  clear h ht hx sb tb y3 y4 ft ft'
  go_enter Try.func41, Try.ntmps41
  go_wp2_with fail
  go_quiet (fail)
  go_wp2_with fail
  have ew := EW.out
  go_quiet (fail)
  clear ew
  go_upto_region 10 with fail
  refine wp_region_planT (fun w' => Below w.heap.size w w') 9 [(0, true), (1, true), (2, true), (3, true), (4, true), (5, true), (6, true), (7, true), (8, true)] (by kernel_rfl) (by kernel_rfl) ((below_drewN (Below.refl _ _) _).drew) ?_
  iterate 9
    refine wpPlanT_read (by rfl) (by rfl) (fun R hR => ?_)
    apply Exists.intro
    refine ⟨fun w' hS' => ?_, ?_⟩
    · have k3 := (hS'.cell (p := ⟨gt, 3, none⟩) hgt).trans Y3.out
      have k4 := (hS'.cell (p := ⟨gt, 4, none⟩) hgt).trans Y4.out
      go_simp
      exact ⟨rfl, rfl⟩
    go_simp
    refine hR _ ?_
    clear hR R
  refine wpPlanT_nil ?_
  simp only [List.drop_succ_cons, List.drop_zero]
  go_wp2_with fail
  refine (ends_any t.lo t.hi _ (Dg.keep H.out (below_drewN (Below.refl _ _) _).drew) HB1.out.1 HB1.out.2 HB2.out.1 HB2.out.2 ⟨s0, by omega⟩).mono ?_
  rintro e w1 ⟨rfl, X1, T1⟩
  have T1' : Hid (Touch (fun k => k = g) w w1) := Lib.hid ((Touch.of_below (F := fun k => k = g) (below_drewN (Below.refl w.heap.size w) _).drew (Nat.le_refl _)).trans T1 (fun i hi => .inl hi))
  have TD1 : Hid (∃ lo2 hi2 : Int, Dg w1 gt Ft d t.L t.W lo2 hi2 (tot (t.L ++ t.W))) := by
    rcases HX.out with ⟨rfl, rfl, rfl⟩ | hd
    · exact ⟨_, _, X1⟩
    · exact ⟨t.lo, t.hi, Dg.stay HT.out (fun k hk => T1'.out.block k (Dg.low HT.out k hk) (fun e => hd g (Dg.mem H.out) (e ▸ hk))) T1'.out.size⟩
  have HX1 := Lib.hid X1
  have hz1 := T1'.out.size
  clear X1 T1 x0 x5 y0 y5 hcb hdd htz
  go_wp2_with fail
  refine calm_normal ?_
  obtain ⟨lo2, hi2, tlv, twv, tb, tol, tow, tF⟩ := TD1.out
  obtain ⟨A, ca, rfl, na, ma, fa⟩ := tol.form
  obtain ⟨B, cb, rfl, nb, mb, fb⟩ := tow.form
  have hgt1 := tb.lt
  have t1 := tb.cell 1
  have t2 := tb.cell 2
  have t5 := tb.cell 5
  simp only [List.getElem?_toArray, List.getElem?_cons_succ, List.getElem?_cons_zero] at t1 t2 t5
  have Q1 := Lib.hid t1
  have Q2 := Lib.hid t2
  have Q5 := Lib.hid t5
  have TL := Lib.hid tol.rd
  have TW := Lib.hid tow.rd
  have hgg1 : g < w1.heap.size := Dg.lt HX1.out
  clear tb tol tow tF fa fb t1 t2 t5 TD1
  go_wp2_with fail
  refine wp_region_plan (fun w' => Below w1.heap.size w1 w') [(0, true), (1, true), (2, true), (3, true), (4, true), (5, true), (6, true), (7, true), (8, false), (9, false), (10, true)] (by kernel_rfl) (by kernel_rfl) ((Below.refl _ _).drew) ?_
  iterate 8
    refine wpPlan_read (by rfl) (by rfl) (fun R hR => ?_)
    apply Exists.intro
    refine ⟨fun w' hS' => ?_, ?_⟩
    · have k1 := (hS'.cell (p := ⟨gt, 1, none⟩) hgt1).trans Q1.out
      have k2 := (hS'.cell (p := ⟨gt, 2, none⟩) hgt1).trans Q2.out
      go_simp
      exact ⟨rfl, rfl⟩
    go_simp
    refine hR _ ?_
    clear hR R
  refine wpPlan_do (by rfl) (by rfl) (fun K hK => ?_)
  go_simp
  refine hK _ _ (((Below.refl _ _).drew).alloc (by go_size) _) ?_
  clear hK K
  refine wpPlan_do (by rfl) (by rfl) (fun K hK => ?_)
  go_simp
  have hrow : RdRow (w1.drew.alloc (.cells #[.slice A t.L.length ca, .slice B t.W.length cb] 35)) w1.heap.size [t.L, t.W] := rd_row2 (TL.out.keep (((Below.refl _ _).drew).alloc (by go_size) _)) (TW.out.keep (((Below.refl _ _).drew).alloc (by go_size) _))
  refine (concat_M w1.heap.size [t.L, t.W] _ (by go_size) hrow (by simp) (by simp; omega)).mono ?_
  rintro e w3 ⟨v3, rfl, o3, hb3⟩
  have hbw3 : Below w1.heap.size w1 w3 := (((Below.refl _ _).drew).alloc (by go_size) _).trans (hb3.mono (by go_size))
  have hz3 := hbw3.size
  rw [show ([t.L, t.W] : List (List Mn)).flatten = t.L ++ t.W by simp] at o3
  have O3 := Lib.hid o3
  clear o3
  refine hK _ _ (hbw3) ?_
  clear hK K
  iterate 1
    refine wpPlan_read (by rfl) (by rfl) (fun R hR => ?_)
    apply Exists.intro
    refine ⟨fun w' hS' => ?_, ?_⟩
    · have k1 := (hS'.cell (p := ⟨gt, 1, none⟩) hgt1).trans Q1.out
      have k2 := (hS'.cell (p := ⟨gt, 2, none⟩) hgt1).trans Q2.out
      go_simp
      exact ⟨rfl, rfl⟩
    go_simp
    refine hR _ ?_
    clear hR R
  refine wpPlan_nil ?_
  obtain ⟨A9, c9, rfl, n9, m9, f9⟩ := O3.out.form
  clear f9
  have X3 := Lib.hid (Dg.keep HX1.out hbw3)
  have r5 := (hbw3.cell (p := ⟨gt, 5, none⟩) hgt1).trans Q5.out
  obtain ⟨lv3, wv3, b3, l3, x3, hF3⟩ := X3.out
  obtain ⟨B3, cb3, rfl, nb3, mb3, fb3⟩ := x3.form
  have z5 := b3.cell 5
  have u5 := b3.frozen 5
  simp only [List.getElem?_toArray, List.getElem?_cons_succ, List.getElem?_cons_zero] at z5
  have NL1 := b3.notOwn l3 (by decide)
  have NW1 := b3.notOwn x3 (by decide)
  have BB3 := Lib.hid b3
  have L3 := Lib.hid l3
  have W3 := Lib.hid x3
  have HF := Lib.hid hF3
  have EW2 := Lib.hid (IntWalk.u64_in (tot (s.L ++ s.W) + tot (t.L ++ t.W)) (by omega))
  clear b3 l3 x3 hF3 fb3
  go_wp2_with fail
  refine wp_region_planT (fun w' => Below w3.heap.size w3 w') 11 [(0, true), (1, true), (2, true), (3, true), (4, true), (5, true), (6, true), (7, true), (8, true), (9, true), (10, true)] (by kernel_rfl) (by kernel_rfl) ((Below.refl _ _).drew) ?_
  iterate 11
    refine wpPlanT_read (by rfl) (by rfl) (fun R hR => ?_)
    apply Exists.intro
    refine ⟨fun w' hS' => ?_, ?_⟩
    · have k5 := (hS'.cell (p := ⟨g, 5, none⟩) (by show g < _; omega)).trans z5
      have j5 := (hS'.cell (p := ⟨gt, 5, none⟩) (by show gt < _; omega)).trans r5
      have ew := EW2.out
      go_simp
      exact ⟨rfl, rfl⟩
    go_simp
    refine hR _ ?_
    clear hR R
  refine wpPlanT_nil ?_
  simp only [List.drop_succ_cons, List.drop_zero]
  go_wp2_with fail
  refine calm_normal ?_
  have O3' : Hid (OwnM (w1.drew.alloc (.cells #[.slice A t.L.length ca, .slice B t.W.length cb] 35)).heap.size w3 (.slice A9 (t.L.length + t.W.length) c9) (t.L ++ t.W)) := by have := O3.out; rw [List.length_append] at this; exact this
  go_upto_region 13 with fail
  have T3 : Hid (Touch (fun k => k = g) w (w3.setCell ⟨g, 5, none⟩ (.int .u64 (tot (s.L ++ s.W) + tot (t.L ++ t.W)))).drew) := Lib.hid ((touch_of (hbw3) T1'.out).setCell (p := ⟨g, 5, none⟩) (.inl rfl) (.int .u64 (tot (s.L ++ s.W) + tot (t.L ++ t.W)))).drew
  have hz9 : (w3.setCell ⟨g, 5, none⟩ (.int .u64 (tot (s.L ++ s.W) + tot (t.L ++ t.W)))).drew.heap.size = w3.heap.size := by show (w3.setCell _ _).heap.size = _; exact World.size_setCell ..
  have hz4 : w3.heap.size ≤ (w3.setCell ⟨g, 5, none⟩ (.int .u64 (tot (s.L ++ s.W) + tot (t.L ++ t.W)))).drew.heap.size := by rw [hz9]; exact Nat.le_refl _
  have B4 : Hid (Blk (w3.setCell ⟨g, 5, none⟩ (.int .u64 (tot (s.L ++ s.W) + tot (t.L ++ t.W)))).drew g _ _) := Lib.hid (BB3.out.set_ 5 (.int .u64 (tot (s.L ++ s.W) + tot (t.L ++ t.W))))
  have L4 : Hid (OwnM 0 (w3.setCell ⟨g, 5, none⟩ (.int .u64 (tot (s.L ++ s.W) + tot (t.L ++ t.W)))).drew lv3 s.L) := Lib.hid (L3.out.far (p := ⟨g, 5, none⟩) NL1 _)
  have X4 : Hid (OwnM 0 (w3.setCell ⟨g, 5, none⟩ (.int .u64 (tot (s.L ++ s.W) + tot (t.L ++ t.W)))).drew (.slice B3 s.W.length cb3) s.W) := Lib.hid (W3.out.far (p := ⟨g, 5, none⟩) NW1 _)
  have M4 : Hid (OwnM w1.heap.size (w3.setCell ⟨g, 5, none⟩ (.int .u64 (tot (s.L ++ s.W) + tot (t.L ++ t.W)))).drew (.slice A9 (t.L.length + t.W.length) c9) (t.L ++ t.W)) := Lib.hid ((O3'.out.more (by go_size)).far (p := ⟨g, 5, none⟩) (fun e => by have h9 := (O3'.out.lt _ e).1; simp only [World.size_alloc, World.size_drew] at h9; have h8 : w1.heap.size ≤ g := (by show _ ≤ (⟨g, 5, none⟩ : Addr).block; omega); omega) _)
  have HF4 : Hid (∀ k1, F k1 → k1 < (w3.setCell ⟨g, 5, none⟩ (.int .u64 (tot (s.L ++ s.W) + tot (t.L ++ t.W)))).drew.heap.size) := fun k1 hf => (by rw [hz9]; exact HF.out.2.2.2.2 k1 hf)
  have HZ9 := Lib.hid hz9
  clear hz9 z5 u5 r5
  generalize (w3.setCell ⟨g, 5, none⟩ (.int .u64 (tot (s.L ++ s.W) + tot (t.L ++ t.W)))).drew = w4 at *
  have q2 := B4.out.cell 2
  have r2 := B4.out.frozen 2
  simp only [List.getElem?_toArray, List.getElem?_cons_succ, List.getElem?_cons_zero, List.setIfInBounds_toArray, List.set_cons_succ, List.set_cons_zero] at q2
  have hlen9 : (t.L ++ t.W).length = t.L.length + t.W.length := List.length_append ..
  have HL9 := Lib.hid hlen9
  clear hlen9
  have hcapl : s.W.length + (t.L ++ t.W).length ≤ 1099511627776 := by rw [HL9.out]; omega
  go_upto_region 14 with (first | (at_builtin; go_must (refine append_M rfl (.tmp 74) (.tmp 75) rfl 0 (.slice B3 s.W.length cb3) s.W rfl X4.out (.slice A9 (t.L.length + t.W.length) c9) (t.L ++ t.W) rfl M4.out.rd hcapl (Nat.zero_le _) ?_); intro v5 w5 o5 g5 a5; have b5 := (g5.block g B4.out.lt (fun e => NW1 e.symm)).trans B4.out; obtain ⟨A5, c5, rfl, n5, m5, f5⟩ := o5.form; have s2 := Blk.cell b5 2; have u2 := Blk.frozen b5 2; simp only [List.getElem?_toArray, List.getElem?_cons_succ, List.getElem?_cons_zero, List.setIfInBounds_toArray, List.set_cons_succ, List.set_cons_zero] at s2; have B5 : Hid (Blk w5 g _ _) := Lib.hid b5; have O5 := Lib.hid o5; clear b5 o5 f5 q2 r2; go_simp))
  have KF : Hid (∃ (F' : Nat → Prop), (∀ k, F' k → F k ∨ w.heap.size ≤ k) ∧ Dg (w5.setCell ⟨g, 2, none⟩ (.slice A5 (s.W.length + (t.L.length + t.W.length)) c5)) g F' d s.L (s.W ++ (t.L ++ t.W)) (if tot (s.L ++ s.W) = 0 then t.lo else min s.lo t.lo) (if tot (s.L ++ s.W) = 0 then t.hi else max s.hi t.hi) (tot (s.L ++ (s.W ++ (t.L ++ t.W)))) ∧ Touch F w (w5.setCell ⟨g, 2, none⟩ (.slice A5 (s.W.length + (t.L.length + t.W.length)) c5))) := by
    obtain ⟨p1, p2, p3, p4, p5⟩ := HF.out
    have hlen3 : (s.W ++ (t.L ++ t.W)).length = s.W.length + (t.L.length + t.W.length) := by simp
    have O5' := O5.out
    rw [hlen3] at O5' a5
    have T5 : Touch F w w5 := (T3.out.mono (fun i (hi : i = g) => hi ▸ p1)).grown g5 (fun k1 hk1 => .inl (p3 k1 hk1))
    have T6 := T5.setCell (p := ⟨g, 2, none⟩) (.inl p1) (.slice A5 (s.W.length + (t.L.length + t.W.length)) c5)
    have own3 : ∀ k1, (Value.slice A5 (s.W.length + (t.L.length + t.W.length)) c5).ownBlock = some k1 → F k1 ∨ k1 = w4.heap.size := fun k1 e => by
      rcases a5 with e3 | e3
      · exact .inl (p3 k1 (by rw [← e3]; exact e))
      · rw [e3] at e; simp only [Option.some.injEq] at e; exact .inr e.symm
    have sz3 : w4.heap.size ≤ w5.heap.size := g5.size
    have hg4 := B4.out.lt
    have ng3 : (Value.slice A5 (s.W.length + (t.L.length + t.W.length)) c5).ownBlock ≠ some g := fun e => by
      rcases a5 with e3 | e3
      · exact NW1 (by rw [← e3]; exact e)
      · rw [e3] at e; simp only [Option.some.injEq] at e; omega
    have L5 : OwnM 0 w5 lv3 s.L := L4.out.stay fun k1 e => g5.block k1 (HF4.out k1 (p2 k1 e)) (fun e2 => p4 k1 e2.symm e)
    have B5' := B5.out
    rw [← HTT.out] at B5'
    refine ⟨fun k1 => F k1 ∨ (Value.slice A5 (s.W.length + (t.L.length + t.W.length)) c5).ownBlock = some k1, ?_, ⟨lv3, _, B5'.set_ 2 _, L5.far (p := ⟨g, 2, none⟩) (fun e => B5.out.notOwn L5 (by decide) e) _, O5'.far (p := ⟨g, 2, none⟩) ng3 (.slice A5 (s.W.length + (t.L.length + t.W.length)) c5), .inl p1, fun k1 e => .inl (p2 k1 e), fun k1 e => .inr e, ?_, ?_⟩, T6⟩
    · rintro k1 (hf | e)
      · exact .inl hf
      · rcases own3 k1 e with hf | hf
        · exact .inl hf
        · exact .inr (by have := T3.out.size; omega)
    · intro k1 e e2
      rcases a5 with e3 | e3
      · exact p4 k1 (by rw [← e3]; exact e) e2
      · rw [e3] at e; simp only [Option.some.injEq] at e
        have := HF4.out k1 (p2 k1 e2); omega
    · intro k1 hk1
      rw [World.size_setCell]
      rcases hk1 with hf | e
      · have := HF4.out k1 hf; omega
      · exact (O5'.lt k1 e).2
  clear B5 O5 s2 u2 g5 a5
  generalize w5.setCell ⟨g, 2, none⟩ (.slice A5 (s.W.length + (t.L.length + t.W.length)) c5) = w6 at *
  obtain ⟨F1, f1, f2, f3⟩ := KF.out
  have hlen6 : s.L.length + (s.W ++ (t.L ++ t.W)).length ≤ 100000000 := by simp only [List.length_append]; omega
  have ht6 : tot (s.L ++ (s.W ++ (t.L ++ t.W))) ≤ 281474976710656 := by rw [HTT.out]; omega
  have hne6 : s.L ++ (s.W ++ (t.L ++ t.W)) ≠ [] := fun e => by have := HTT.out; rw [e] at this; simp only [tot] at this; omega
  have PC := Lib.hid (press_any g F1 d _ _ s.L (s.W ++ (t.L ++ t.W)) w6 f2 HOK.out hne6 hlen6 ht6 (by omega) d1)
  have T6 := Lib.hid f3
  have F6 := Lib.hid f1
  clear f1 f2 f3 hlen6 ht6 hne6 KF
  go_wp2_with fail
  refine (PC.out).mono ?_
  rintro e w7 ⟨rfl, F2, g1, g2, g3⟩
  have G1 := Lib.hid g1
  have G2 := Lib.hid g2
  have G3 := Lib.hid g3
  have hs6 := T6.out.size
  clear g1 g2 g3
  go_wp2_with fail
  refine bodyPost_ret (by simp [results, Try.results41, go_sem, *]; try rfl) rfl ?_
  refine ⟨rfl, F2, ?_, ?_, T6.out.trans G3.out (fun i hi => F6.out i hi)⟩
  · intro k1 h1
    rcases G1.out k1 h1 with h2 | h2
    · exact F6.out k1 h2
    · exact .inr (by omega)
  · rw [HST.out]
    unfold DgS
    simp only [List.append_nil, prs_tot]
    exact G2.out
end
section
open Go.RowKit Go.Lib
set_option maxRecDepth 100000 in
set_option maxHeartbeats 4000000 in
theorem rtake_yes {g gt : Nat} {F Ft : Nat → Prop} {d : Int} {s t : St} {k kt : Nat} (w : World) (h : RDgS w g F d s) (ht : RDgS w gt Ft d t) (_hx : (gt = g ∧ Ft = F ∧ t = s) ∨ (∀ k, F k → ¬ Ft k)) (ft : Fit d s k) (ft' : Fit d t kt) (hk : k + kt ≤ 100000000)
    (hcap : tot (t.L ++ t.W) ≤ 281474976710656 - tot (s.L ++ s.W)) (hne : 0 < tot (t.L ++ t.W)) :
    Calls Try.prog 53 #[.pointer (some ⟨g, 0, none⟩), .pointer (some ⟨gt, 0, none⟩)] w fun e w' => e = .returned (.int .i64 0) ∧ ∃ F' : Nat → Prop, (∀ k, F' k → F k ∨ w.heap.size ≤ k) ∧ RDgS w' g F' d (s.take d t) ∧ Touch F w w' := by
  have H := Lib.hid h
  have HT := Lib.hid ht
  have s0 := ft.ok.n_nonneg
  have s1 := ft.t
  have d0 := ft.d0
  have d1 := ft.d1
  have hls := ft.ok.len
  have hlt := ft'.ok.len
  have HO1 := Lib.hid ft.ok.ok
  have HO2 := Lib.hid ft'.ok.ok
  have HOK : Hid (okL (s.L ++ (s.W ++ (t.L ++ t.W)))) := by show okL _; rw [← List.append_assoc]; exact ft.ok.ok.append ft'.ok.ok
  have HTT : Hid (tot (s.L ++ (s.W ++ (t.L ++ t.W))) = tot (s.L ++ s.W) + tot (t.L ++ t.W)) := by show _ = _; rw [← List.append_assoc, tot_append]
  have hnz : (s.L.length + s.W.length = 0) ↔ tot (s.L ++ s.W) = 0 := by
    rw [ft.ok.n_zero]
    constructor
    · intro h; exact List.eq_nil_of_length_eq_zero (by rw [List.length_append]; exact h)
    · intro h; rw [← List.length_append, h]; rfl
  have EN : Hid (∀ w1, RDg w1 g F d s.L s.W s.lo s.hi → Calls Try.prog 75 #[.pointer (some ⟨g, 0, none⟩), .int .i64 t.lo, .int .i64 t.hi] w1 fun e w' => e = .returned (.tuple #[]) ∧ RDg w' g F d s.L s.W (if tot (s.L ++ s.W) = 0 then t.lo else min s.lo t.lo) (if tot (s.L ++ s.W) = 0 then t.hi else max s.hi t.hi) ∧ Touch (fun k => k = g) w1 w') := by
    intro w1 hb
    have := rends_any t.lo t.hi w1 hb (by omega)
    simp only [hnz] at this
    exact this
  have HST : Hid (s.take d t = ⟨prs d (s.L ++ (s.W ++ (t.L ++ t.W))), [], if tot (s.L ++ s.W) = 0 then t.lo else min s.lo t.lo, if tot (s.L ++ s.W) = 0 then t.hi else max s.hi t.hi⟩) := by show s.take d t = _; unfold St.take; rw [if_neg (by omega)]
  generalize (if tot (s.L ++ s.W) = 0 then t.lo else min s.lo t.lo) = lo1 at EN HST
  generalize (if tot (s.L ++ s.W) = 0 then t.hi else max s.hi t.hi) = hi1 at EN HST
  have hlen0 : t.L.length + t.W.length ≠ 0 := fun e => by
    have : t.L ++ t.W = [] := List.eq_nil_of_length_eq_zero (by rw [List.length_append]; exact e)
    rw [this] at hne; simp [tot] at hne
  have hlb : (((t.L.length : Int) + (t.W.length : Int)) == 0) = false := beq_eq_false_iff_ne.2 (by omega)
  have hlc : 0 < t.L.length + t.W.length := by omega
  obtain ⟨slv, swv, sb, _⟩ := id h
  obtain ⟨tlv, twv, tb, _⟩ := id ht
  have hg := sb.lt
  have hgt := tb.lt
  have x0 := sb.cell 0
  have y0 := tb.cell 0
  have y3 := tb.cell 3
  have y4 := tb.cell 4
  simp only [List.getElem?_toArray, List.getElem?_cons_succ, List.getElem?_cons_zero] at x0 y0 y3 y4
  have Y3 := Lib.hid y3
  have Y4 := Lib.hid y4
  have hdd : (d != d) = false := by simp
  clear h ht _hx sb tb y3 y4 ft ft' hnz hlen0
  go_enter Try.func53, Try.ntmps53
  go_wp2_with fail
  go_quiet (fail)
  go_wp2_with fail
  have CA := fun q => Lib.hid (rall_any gt Ft d t.lo t.hi t.L t.W (w.drewN q) (RDg.keep HT.out (below_drewN (Below.refl _ _) q)) (by omega))
  refine ((CA _).out).mono ?_
  rintro e w1 ⟨v1, rfl, o1, hb1'⟩
  clear CA
  have hb1 : Below w.heap.size w w1 := (below_drewN (Below.refl _ _) _).trans hb1'
  have hz1 := hb1.size
  obtain ⟨A1, c1, rfl, n1, m1, f1⟩ := o1.form
  have hlen9 : (t.L ++ t.W).length = t.L.length + t.W.length := List.length_append ..
  have O1 : Hid (OwnM w.heap.size w1 (.slice A1 (t.L.length + t.W.length) c1) (t.L ++ t.W)) := Lib.hid (by rw [hlen9] at o1; exact o1)
  rw [hlen9]
  have HL9 := Lib.hid hlen9
  clear o1 f1 hb1' hlen9
  go_wp2_with fail
  refine (rtotal_any _ (t.L ++ t.W) w1 O1.out.rd HO2.out (by omega)).mono ?_
  rintro e w2 ⟨rfl, hb2⟩
  have hbw2 : Below w.heap.size w w2 := hb1.trans (hb2.mono hz1)
  have hz2 := hbw2.size
  go_wp2_with fail
  refine (rall_any g F d s.lo s.hi s.L s.W w2 (RDg.keep H.out hbw2) (by omega)).mono ?_
  rintro e w3 ⟨v3, rfl, o3, hb3⟩
  have hbw3 : Below w.heap.size w w3 := hbw2.trans (hb3.mono hz2)
  have hz3 := hbw3.size
  have O3 := Lib.hid o3
  clear o3
  go_wp2_with fail
  refine (rtotal_any v3 (s.L ++ s.W) w3 O3.out.rd HO1.out (by omega)).mono ?_
  rintro e w4 ⟨rfl, hb4⟩
  have hbw4 : Below w.heap.size w w4 := hbw3.trans (hb4.mono hz3)
  have hz4 := hbw4.size
  have O4 := Lib.hid (O1.out.keep ((hb2.trans (hb3.mono hb2.size)).trans (hb4.mono (by have := hb2.size; have := hb3.size; omega))))
  have D4 := Lib.hid (RDg.keep H.out hbw4)
  have j3 := (hbw4.cell (p := ⟨gt, 3, none⟩) hgt).trans Y3.out
  have j4 := (hbw4.cell (p := ⟨gt, 4, none⟩) hgt).trans Y4.out
  clear x0 y0 hdd
  go_upto_region 8 with fail
  refine wp_region_planT (fun w' => Below w4.heap.size w4 w') 9 [(0, true), (1, true), (2, true), (3, true), (4, true), (5, true), (6, true), (7, true), (8, true)] (by kernel_rfl) (by kernel_rfl) ((Below.refl _ _).drew) ?_
  iterate 9
    refine wpPlanT_read (by rfl) (by rfl) (fun R hR => ?_)
    apply Exists.intro
    refine ⟨fun w' hS' => ?_, ?_⟩
    · have k3 := (hS'.cell (p := ⟨gt, 3, none⟩) (by show gt < _; omega)).trans j3
      have k4 := (hS'.cell (p := ⟨gt, 4, none⟩) (by show gt < _; omega)).trans j4
      go_simp
      exact ⟨rfl, rfl⟩
    go_simp
    refine hR _ ?_
    clear hR R
  refine wpPlanT_nil ?_
  simp only [List.drop_succ_cons, List.drop_zero]
  go_wp2_with fail
  refine (EN.out _ (RDg.keep D4.out (Below.refl _ _).drew)).mono ?_
  rintro e w5 ⟨rfl, ⟨lv5, wv5, b5, l5, x5, hF5⟩, T5'⟩
  have T5 : Hid (Touch (fun k => k = g) w w5) := Lib.hid ((Touch.of_below (F := fun k => k = g) hbw4.drew (Nat.le_refl _)).trans T5' (fun i hi => .inl hi))
  obtain ⟨B5, cb5, rfl, nb5, mb5, fb5⟩ := x5.form
  have hz5 := T5'.size
  have O5 := Lib.hid (O4.out.stay fun k e => T5'.block k (O4.out.lt k e).2 (fun e2 => by have := (O4.out.lt k e).1; omega))
  have q2 := b5.cell 2
  have r2 := b5.frozen 2
  simp only [List.getElem?_toArray, List.getElem?_cons_succ, List.getElem?_cons_zero] at q2
  have NW1 := b5.notOwn x5 (by decide)
  have BB := Lib.hid b5
  have L5 := Lib.hid l5
  have X5 := Lib.hid x5
  have HF := Lib.hid hF5
  clear b5 l5 x5 hF5 fb5 T5' j3 j4
  go_wp2_with fail
  refine calm_normal ?_
  have hcapl : s.W.length + (t.L ++ t.W).length ≤ 1099511627776 := by rw [HL9.out]; omega
  go_upto_region 10 with (first | (at_builtin; go_must (refine append_M rfl (.tmp 41) (.tmp 42) rfl 0 (.slice B5 s.W.length cb5) s.W rfl X5.out (.slice A1 (t.L.length + t.W.length) c1) (t.L ++ t.W) rfl O5.out.rd hcapl (Nat.zero_le _) ?_); intro v6 w6 o6 g6 a6; have b6 := (g6.block g BB.out.lt (fun e => NW1 e.symm)).trans BB.out; obtain ⟨A6, c6, rfl, n6, m6, f6⟩ := o6.form; have s2 := Blk.cell b6 2; have u2 := Blk.frozen b6 2; simp only [List.getElem?_toArray, List.getElem?_cons_succ, List.getElem?_cons_zero] at s2; have B6 : Hid (Blk w6 g _ _) := Lib.hid b6; have O6 := Lib.hid o6; clear b6 o6 f6 q2 r2; go_simp))
  have KF : Hid (∃ (F' : Nat → Prop), (∀ k, F' k → F k ∨ w.heap.size ≤ k) ∧ RDg (w6.setCell ⟨g, 2, none⟩ (.slice A6 (s.W.length + (t.L.length + t.W.length)) c6)) g F' d s.L (s.W ++ (t.L ++ t.W)) lo1 hi1 ∧ Touch F w (w6.setCell ⟨g, 2, none⟩ (.slice A6 (s.W.length + (t.L.length + t.W.length)) c6))) := by
    obtain ⟨p1, p2, p3, p4, p5⟩ := HF.out
    have hlen3 : (s.W ++ (t.L ++ t.W)).length = s.W.length + (t.L.length + t.W.length) := by simp
    have O6' := O6.out
    rw [hlen3] at O6' a6
    have T6 : Touch F w w6 := (T5.out.mono (fun i (hi : i = g) => hi ▸ p1)).grown g6 (fun k1 hk1 => .inl (p3 k1 hk1))
    have T7 := T6.setCell (p := ⟨g, 2, none⟩) (.inl p1) (.slice A6 (s.W.length + (t.L.length + t.W.length)) c6)
    have own3 : ∀ k1, (Value.slice A6 (s.W.length + (t.L.length + t.W.length)) c6).ownBlock = some k1 → F k1 ∨ k1 = w5.heap.size := fun k1 e => by
      rcases a6 with e3 | e3
      · exact .inl (p3 k1 (by rw [← e3]; exact e))
      · rw [e3] at e; simp only [Option.some.injEq] at e; exact .inr e.symm
    have sz3 : w5.heap.size ≤ w6.heap.size := g6.size
    have hg4 := BB.out.lt
    have ng3 : (Value.slice A6 (s.W.length + (t.L.length + t.W.length)) c6).ownBlock ≠ some g := fun e => by
      rcases a6 with e3 | e3
      · exact NW1 (by rw [← e3]; exact e)
      · rw [e3] at e; simp only [Option.some.injEq] at e; omega
    have L6 : OwnM 0 w6 lv5 s.L := L5.out.stay fun k1 e => g6.block k1 (p5 k1 (p2 k1 e)) (fun e2 => p4 k1 e2.symm e)
    refine ⟨fun k1 => F k1 ∨ (Value.slice A6 (s.W.length + (t.L.length + t.W.length)) c6).ownBlock = some k1, ?_, ⟨lv5, _, B6.out.set_ 2 _, L6.far (p := ⟨g, 2, none⟩) (fun e => B6.out.notOwn L6 (by decide) e) _, O6'.far (p := ⟨g, 2, none⟩) ng3 (.slice A6 (s.W.length + (t.L.length + t.W.length)) c6), .inl p1, fun k1 e => .inl (p2 k1 e), fun k1 e => .inr e, ?_, ?_⟩, T7⟩
    · rintro k1 (hf | e)
      · exact .inl hf
      · rcases own3 k1 e with hf | hf
        · exact .inl hf
        · exact .inr (by have := T5.out.size; omega)
    · intro k1 e e2
      rcases a6 with e3 | e3
      · exact p4 k1 (by rw [← e3]; exact e) e2
      · rw [e3] at e; simp only [Option.some.injEq] at e
        have := p5 k1 (p2 k1 e2); omega
    · intro k1 hk1
      rw [World.size_setCell]
      rcases hk1 with hf | e
      · have := p5 k1 hf; omega
      · exact (O6'.lt k1 e).2
  clear B6 O6 s2 u2 g6 a6
  generalize w6.setCell ⟨g, 2, none⟩ (.slice A6 (s.W.length + (t.L.length + t.W.length)) c6) = w7 at *
  obtain ⟨F1, f1, f2, f3⟩ := KF.out
  have hlen6 : s.L.length + (s.W ++ (t.L ++ t.W)).length ≤ 100000000 := by simp only [List.length_append]; omega
  have ht6 : tot (s.L ++ (s.W ++ (t.L ++ t.W))) ≤ 281474976710656 := by rw [HTT.out]; omega
  have PC := Lib.hid (rpress_any g F1 d _ _ s.L (s.W ++ (t.L ++ t.W)) w7 f2 HOK.out hlen6 ht6 (by omega) d1)
  have T7 := Lib.hid f3
  have F7 := Lib.hid f1
  clear f1 f2 f3 hlen6 ht6 KF
  go_wp2_with fail
  refine (PC.out).mono ?_
  rintro e w8 ⟨rfl, F2, g1, g2, g3⟩
  have G1 := Lib.hid g1
  have G2 := Lib.hid g2
  have G3 := Lib.hid g3
  have hs6 := T7.out.size
  clear g1 g2 g3
  go_wp2_with fail
  refine bodyPost_ret (by simp [results, Try.results53, go_sem, *]; try rfl) rfl ?_
  refine ⟨rfl, F2, ?_, ?_, T7.out.trans G3.out (fun i hi => F7.out i hi)⟩
  · intro k1 h1
    rcases G1.out k1 h1 with h2 | h2
    · exact F7.out k1 h2
    · exact .inr (by omega)
  · rw [HST.out]
    unfold RDgS
    exact G2.out
end
section
open Go.RowKit Go.Lib
set_option maxRecDepth 100000 in
theorem take_nil (g : Nat) (w : World) : Calls Try.prog 41 #[.pointer (some ⟨g, 0, none⟩), .pointer none] w fun e w' => e = .returned (.int .i64 1) ∧ Below w.heap.size w w' := by
  go_enter Try.func41, Try.ntmps41
  go_wp2_with fail
  go_ret
  exact ⟨rfl, by (repeat' (first | (with_reducible exact Below.refl _ _) | (with_reducible refine Below.alloc ?_ ?_ _) | (with_reducible refine Below.drew ?_) | (with_reducible refine below_drewN ?_ _) | (with_reducible refine Below.setCell ?_ ?_ _) | (with_reducible refine below_of (by assumption) ?_ ?_) | go_size))⟩
set_option maxRecDepth 100000 in
theorem take_kind {g gt : Nat} {F Ft : Nat → Prop} {d d' : Int} {s t : St} (w : World) (h : DgS w g F d s) (ht : DgS w gt Ft d' t) (hd : d' ≠ d) :
    Calls Try.prog 41 #[.pointer (some ⟨g, 0, none⟩), .pointer (some ⟨gt, 0, none⟩)] w fun e w' => e = .returned (.int .i64 3) ∧ Below w.heap.size w w' := by
  obtain ⟨slv, swv, sb, _⟩ := h
  obtain ⟨tlv, twv, tb, _⟩ := ht
  have x0 := sb.cell 0
  have y0 := tb.cell 0
  simp only [List.getElem?_toArray, List.getElem?_cons_zero] at x0 y0
  have hdd : (d' != d) = true := by simpa using hd
  clear sb tb hd
  go_enter Try.func41, Try.ntmps41
  go_wp2_with fail
  go_quiet (fail)
  go_wp2_with fail
  go_ret
  exact ⟨rfl, by (repeat' (first | (with_reducible exact Below.refl _ _) | (with_reducible refine Below.alloc ?_ ?_ _) | (with_reducible refine Below.drew ?_) | (with_reducible refine below_drewN ?_ _) | (with_reducible refine Below.setCell ?_ ?_ _) | (with_reducible refine below_of (by assumption) ?_ ?_) | go_size))⟩
/-- What Take says where nothing is taken. -/
def takeE (s t : St) : Int := if 281474976710656 - tot (s.L ++ s.W) < tot (t.L ++ t.W) then 6 else 0
set_option maxRecDepth 100000 in
set_option maxHeartbeats 1000000 in
theorem take_no {g gt : Nat} {F Ft : Nat → Prop} {d : Int} {s t : St} {k kt : Nat} (w : World) (h : DgS w g F d s) (ht : DgS w gt Ft d t) (ft : Fit d s k) (_ft' : Fit d t kt)
    (hc : 281474976710656 - tot (s.L ++ s.W) < tot (t.L ++ t.W) ∨ tot (t.L ++ t.W) = 0) :
    Calls Try.prog 41 #[.pointer (some ⟨g, 0, none⟩), .pointer (some ⟨gt, 0, none⟩)] w fun e w' => e = .returned (.int .i64 (takeE s t)) ∧ Below w.heap.size w w' := by
  obtain ⟨slv, swv, sb, _⟩ := h
  obtain ⟨tlv, twv, tb, _⟩ := ht
  have x0 := sb.cell 0
  have x5 := sb.cell 5
  have y0 := tb.cell 0
  have y5 := tb.cell 5
  simp only [List.getElem?_toArray, List.getElem?_cons_zero, List.getElem?_cons_succ] at x0 y0 x5 y5
  have hdd : (d != d) = false := by simp
  have s0 := ft.ok.n_nonneg
  have s1 := ft.t
  have EW := Lib.hid (IntWalk.u64_in (281474976710656 - tot (s.L ++ s.W)) (by omega))
  clear sb tb ft _ft'
  by_cases h6 : 281474976710656 - tot (s.L ++ s.W) < tot (t.L ++ t.W)
  · have hE : Hid (takeE s t = 6) := if_pos h6
    have hcb : decide (281474976710656 - tot (s.L ++ s.W) < tot (t.L ++ t.W)) = true := decide_eq_true h6
    clear hc
    go_enter Try.func41, Try.ntmps41
    go_wp2_with fail
    go_quiet (fail)
    go_wp2_with fail
    have ew := EW.out
    go_quiet (fail)
    clear ew
    go_wp2_with fail
    go_ret
    exact ⟨ret_int hE.out.symm, by (repeat' (first | (with_reducible exact Below.refl _ _) | (with_reducible refine Below.alloc ?_ ?_ _) | (with_reducible refine Below.drew ?_) | (with_reducible refine below_drewN ?_ _) | (with_reducible refine Below.setCell ?_ ?_ _) | (with_reducible refine below_of (by assumption) ?_ ?_) | go_size))⟩
  · have hE : Hid (takeE s t = 0) := if_neg h6
    have h0 : tot (t.L ++ t.W) = 0 := by omega
    have hcb : decide (281474976710656 - tot (s.L ++ s.W) < 0) = false := decide_eq_false (by omega)
    rw [h0] at y5
    clear hc h0 h6
    go_enter Try.func41, Try.ntmps41
    go_wp2_with fail
    go_quiet (fail)
    go_wp2_with fail
    have ew := EW.out
    go_quiet (fail)
    clear ew
    go_wp2_with fail
    go_ret
    exact ⟨ret_int hE.out.symm, by (repeat' (first | (with_reducible exact Below.refl _ _) | (with_reducible refine Below.alloc ?_ ?_ _) | (with_reducible refine Below.drew ?_) | (with_reducible refine below_drewN ?_ _) | (with_reducible refine Below.setCell ?_ ?_ _) | (with_reducible refine below_of (by assumption) ?_ ?_) | go_size))⟩

set_option maxRecDepth 100000 in
set_option maxHeartbeats 1000000 in
theorem rtake_no {g gt : Nat} {F Ft : Nat → Prop} {d : Int} {s t : St} {k kt : Nat} (w : World) (h : RDgS w g F d s) (ht : RDgS w gt Ft d t) (ft : Fit d s k) (ft' : Fit d t kt)
    (hc : 281474976710656 - tot (s.L ++ s.W) < tot (t.L ++ t.W) ∨ tot (t.L ++ t.W) = 0) :
    Calls Try.prog 53 #[.pointer (some ⟨g, 0, none⟩), .pointer (some ⟨gt, 0, none⟩)] w fun e w' => e = .returned (.int .i64 (takeE s t)) ∧ Below w.heap.size w w' := by
  have H := Lib.hid h
  have HT := Lib.hid ht
  have s0 := ft.ok.n_nonneg
  have s1 := ft.t
  have t0 := ft'.ok.n_nonneg
  have t1 := ft'.t
  have hls : s.L.length + s.W.length ≤ 100000000 := by have := ft.ok.len; have := ft.k1; omega
  have hlt : t.L.length + t.W.length ≤ 100000000 := by have := ft'.ok.len; have := ft'.k1; omega
  have HO1 := Lib.hid ft.ok.ok
  have HO2 := Lib.hid ft'.ok.ok
  have hz : tot (t.L ++ t.W) = 0 → t.L.length + t.W.length = 0 := fun e => by rw [← List.length_append, ft'.ok.n_zero.1 e]; rfl
  obtain ⟨slv, swv, sb, _⟩ := h
  obtain ⟨tlv, twv, tb, _⟩ := ht
  have x0 := sb.cell 0
  have y0 := tb.cell 0
  simp only [List.getElem?_toArray, List.getElem?_cons_zero] at x0 y0
  have hdd : (d != d) = false := by simp
  have CA := fun q => Lib.hid (rall_any gt Ft d t.lo t.hi t.L t.W (w.drewN q) (RDg.keep HT.out (below_drewN (Below.refl _ _) q)) (by omega))
  have hw : (281474976710656 - tot (s.L ++ s.W) < tot (t.L ++ t.W) ∧ takeE s t = 6) ∨ (tot (t.L ++ t.W) = 0 ∧ takeE s t = 0 ∧ ¬ 281474976710656 - tot (s.L ++ s.W) < tot (t.L ++ t.W)) := by
    by_cases h6 : 281474976710656 - tot (s.L ++ s.W) < tot (t.L ++ t.W)
    · exact .inl ⟨h6, if_pos h6⟩
    · exact .inr ⟨by omega, if_neg h6, h6⟩
  clear sb tb ft ft' hc
  rcases hw with ⟨h6, hE'⟩ | ⟨h0, hE', h6⟩
  · have hE := Lib.hid hE'
    clear hE' hz
    go_enter Try.func53, Try.ntmps53
    go_wp2_with fail
    go_quiet (fail)
    go_wp2_with fail
    refine ((CA _).out).mono ?_
    rintro e w1 ⟨v1, rfl, o1, hb1'⟩
    have hb1 : Below w.heap.size w w1 := (below_drewN (Below.refl _ _) _).trans hb1'
    have hz1 := hb1.size
    have O1 := Lib.hid o1
    clear o1 hb1' CA
    go_wp2_with fail
    refine (rtotal_any _ (t.L ++ t.W) w1 O1.out.rd HO2.out (by omega)).mono ?_
    rintro e w2 ⟨rfl, hb2⟩
    have hbw2 : Below w.heap.size w w2 := hb1.trans (hb2.mono hz1)
    have hz2 := hbw2.size
    go_wp2_with fail
    refine (rall_any g F d s.lo s.hi s.L s.W w2 (RDg.keep H.out hbw2) (by omega)).mono ?_
    rintro e w3 ⟨v3, rfl, o3, hb3⟩
    have hbw3 : Below w.heap.size w w3 := hbw2.trans (hb3.mono hz2)
    have hz3 := hbw3.size
    have O3 := Lib.hid o3
    clear o3
    go_wp2_with fail
    refine (rtotal_any v3 (s.L ++ s.W) w3 O3.out.rd HO1.out (by omega)).mono ?_
    rintro e w4 ⟨rfl, hb4⟩
    have hbw4 : Below w.heap.size w w4 := hbw3.trans (hb4.mono hz3)
    go_wp2_with fail
    go_ret
    exact ⟨ret_int hE.out.symm, hbw4⟩
  · have hE := Lib.hid hE'
    have hl0 := hz h0
    have HL0 : Hid ((t.L ++ t.W).length = 0) := by show _ = 0; rw [List.length_append]; exact hl0
    have H0 := Lib.hid h0
    have hlb : (((t.L.length : Int) + (t.W.length : Int)) == 0) = true := beq_iff_eq.2 (by omega)
    have hll : t.L.length + t.W.length ≤ 0 := by omega
    clear hE' hz h0 hl0
    go_enter Try.func53, Try.ntmps53
    go_wp2_with fail
    go_quiet (fail)
    go_wp2_with fail
    refine ((CA _).out).mono ?_
    rintro e w1 ⟨v1, rfl, o1, hb1'⟩
    have hb1 : Below w.heap.size w w1 := (below_drewN (Below.refl _ _) _).trans hb1'
    have hz1 := hb1.size
    obtain ⟨A1, c1, rfl, n1, m1, f1⟩ := o1.form
    have O1 := Lib.hid o1
    rw [HL0.out]
    rw [HL0.out] at O1
    clear o1 hb1' CA f1 n1
    go_wp2_with fail
    refine (rtotal_any _ (t.L ++ t.W) w1 O1.out.rd HO2.out (by omega)).mono ?_
    rintro e w2 ⟨rfl, hb2⟩
    have hbw2 : Below w.heap.size w w2 := hb1.trans (hb2.mono hz1)
    have hz2 := hbw2.size
    go_wp2_with fail
    refine (rall_any g F d s.lo s.hi s.L s.W w2 (RDg.keep H.out hbw2) (by omega)).mono ?_
    rintro e w3 ⟨v3, rfl, o3, hb3⟩
    have hbw3 : Below w.heap.size w w3 := hbw2.trans (hb3.mono hz2)
    have hz3 := hbw3.size
    have O3 := Lib.hid o3
    clear o3
    go_wp2_with fail
    refine (rtotal_any v3 (s.L ++ s.W) w3 O3.out.rd HO1.out (by omega)).mono ?_
    rintro e w4 ⟨rfl, hb4⟩
    have hbw4 : Below w.heap.size w w4 := hbw3.trans (hb4.mono hz3)
    go_wp2_with fail
    go_ret
    exact ⟨ret_int hE.out.symm, hbw4⟩
end
end Go.Proofs.Ytedhpkfbobgkgaa
