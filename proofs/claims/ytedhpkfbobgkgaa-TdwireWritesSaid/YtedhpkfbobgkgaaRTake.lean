/- Take of the reference's digest. -/
import Derived.Test.YtedhpkfbobgkgaaDigN
namespace Go.Proofs.Ytedhpkfbobgkgaa
open Go.RowKit Go.Lib

set_option maxRecDepth 100000 in
set_option maxHeartbeats 4000000 in
theorem rtake_yes {g gt : Nat} {F Ft : Nat → Prop} {d : Int} {s t : St} {k kt : Nat} (w : World) (h : RDgS w g F d s) (ht : RDgS w gt Ft d t) (_hx : (gt = g ∧ Ft = F ∧ t = s) ∨ (∀ k, F k → ¬ Ft k)) (ft : Fit d s k) (ft' : Fit d t kt) (hk : k + kt ≤ 100000000)
    (hcap : tot (t.L ++ t.W) ≤ 281474976710656 - tot (s.L ++ s.W)) (hne : 0 < tot (t.L ++ t.W)) :
    Calls Try.prog 53 #[.pointer (some ⟨g, 0, none⟩), .pointer (some ⟨gt, 0, none⟩)] w fun e w' => e = .returned (.int .i64 0) ∧ ∃ F' : Nat → Prop, (∀ k, F' k → F k ∨ w.heap.size ≤ k) ∧ RDgS w' g F' d (s.take d t) ∧ Touch F w w' := by
  have H := Lib.hid h
  have HT := Lib.hid ht
  have s0 := ft.ok.n_nonneg
  have s1 := ft.t
  have d0 := ft.d0
  have d1 := ft.d1
  have hls := ft.ok.len
  have hlt := ft'.ok.len
  have HO1 := Lib.hid ft.ok.ok
  have HO2 := Lib.hid ft'.ok.ok
  have HOK : Hid (okL (s.L ++ (s.W ++ (t.L ++ t.W)))) := by show okL _; rw [← List.append_assoc]; exact ft.ok.ok.append ft'.ok.ok
  have HTT : Hid (tot (s.L ++ (s.W ++ (t.L ++ t.W))) = tot (s.L ++ s.W) + tot (t.L ++ t.W)) := by show _ = _; rw [← List.append_assoc, tot_append]
  have hnz : (s.L.length + s.W.length = 0) ↔ tot (s.L ++ s.W) = 0 := by
    rw [ft.ok.n_zero]
    constructor
    · intro h; exact List.eq_nil_of_length_eq_zero (by rw [List.length_append]; exact h)
    · intro h; rw [← List.length_append, h]; rfl
  have EN : Hid (∀ w1, RDg w1 g F d s.L s.W s.lo s.hi → Calls Try.prog 75 #[.pointer (some ⟨g, 0, none⟩), .int .i64 t.lo, .int .i64 t.hi] w1 fun e w' => e = .returned (.tuple #[]) ∧ RDg w' g F d s.L s.W (if tot (s.L ++ s.W) = 0 then t.lo else min s.lo t.lo) (if tot (s.L ++ s.W) = 0 then t.hi else max s.hi t.hi) ∧ Touch (fun k => k = g) w1 w') := by
    intro w1 hb
    have := rends_any t.lo t.hi w1 hb (by omega)
    simp only [hnz] at this
    exact this
  have HST : Hid (s.take d t = ⟨prs d (s.L ++ (s.W ++ (t.L ++ t.W))), [], if tot (s.L ++ s.W) = 0 then t.lo else min s.lo t.lo, if tot (s.L ++ s.W) = 0 then t.hi else max s.hi t.hi⟩) := by show s.take d t = _; unfold St.take; rw [if_neg (by omega)]
  generalize (if tot (s.L ++ s.W) = 0 then t.lo else min s.lo t.lo) = lo1 at EN HST
  generalize (if tot (s.L ++ s.W) = 0 then t.hi else max s.hi t.hi) = hi1 at EN HST
  have hlen0 : t.L.length + t.W.length ≠ 0 := fun e => by
    have : t.L ++ t.W = [] := List.eq_nil_of_length_eq_zero (by rw [List.length_append]; exact e)
    rw [this] at hne; simp [tot] at hne
  have hlb : (((t.L.length : Int) + (t.W.length : Int)) == 0) = false := beq_eq_false_iff_ne.2 (by omega)
  have hlc : 0 < t.L.length + t.W.length := by omega
  obtain ⟨slv, swv, sb, _⟩ := id h
  obtain ⟨tlv, twv, tb, _⟩ := id ht
  have hg := sb.lt
  have hgt := tb.lt
  have x0 := sb.cell 0
  have y0 := tb.cell 0
  have y3 := tb.cell 3
  have y4 := tb.cell 4
  simp only [List.getElem?_toArray, List.getElem?_cons_succ, List.getElem?_cons_zero] at x0 y0 y3 y4
  have Y3 := Lib.hid y3
  have Y4 := Lib.hid y4
  have hdd : (d != d) = false := by simp
  clear h ht _hx sb tb y3 y4 ft ft' hnz hlen0
  go_enter Try.func53, Try.ntmps53
  go_wp2_with fail
  go_quiet (fail)
  go_wp2_with fail
  have CA := fun q => Lib.hid (rall_any gt Ft d t.lo t.hi t.L t.W (w.drewN q) (RDg.keep HT.out (below_drewN (Below.refl _ _) q)) (by omega))
  refine ((CA _).out).mono ?_
  rintro e w1 ⟨v1, rfl, o1, hb1'⟩
  clear CA
  have hb1 : Below w.heap.size w w1 := (below_drewN (Below.refl _ _) _).trans hb1'
  have hz1 := hb1.size
  obtain ⟨A1, c1, rfl, n1, m1, f1⟩ := o1.form
  have hlen9 : (t.L ++ t.W).length = t.L.length + t.W.length := List.length_append ..
  have O1 : Hid (OwnM w.heap.size w1 (.slice A1 (t.L.length + t.W.length) c1) (t.L ++ t.W)) := Lib.hid (by rw [hlen9] at o1; exact o1)
  rw [hlen9]
  have HL9 := Lib.hid hlen9
  clear o1 f1 hb1' hlen9
  go_wp2_with fail
  refine (rtotal_any _ (t.L ++ t.W) w1 O1.out.rd HO2.out (by omega)).mono ?_
  rintro e w2 ⟨rfl, hb2⟩
  have hbw2 : Below w.heap.size w w2 := hb1.trans (hb2.mono hz1)
  have hz2 := hbw2.size
  go_wp2_with fail
  refine (rall_any g F d s.lo s.hi s.L s.W w2 (RDg.keep H.out hbw2) (by omega)).mono ?_
  rintro e w3 ⟨v3, rfl, o3, hb3⟩
  have hbw3 : Below w.heap.size w w3 := hbw2.trans (hb3.mono hz2)
  have hz3 := hbw3.size
  have O3 := Lib.hid o3
  clear o3
  go_wp2_with fail
  refine (rtotal_any v3 (s.L ++ s.W) w3 O3.out.rd HO1.out (by omega)).mono ?_
  rintro e w4 ⟨rfl, hb4⟩
  have hbw4 : Below w.heap.size w w4 := hbw3.trans (hb4.mono hz3)
  have hz4 := hbw4.size
  have O4 := Lib.hid (O1.out.keep ((hb2.trans (hb3.mono hb2.size)).trans (hb4.mono (by have := hb2.size; have := hb3.size; omega))))
  have D4 := Lib.hid (RDg.keep H.out hbw4)
  have j3 := (hbw4.cell (p := ⟨gt, 3, none⟩) hgt).trans Y3.out
  have j4 := (hbw4.cell (p := ⟨gt, 4, none⟩) hgt).trans Y4.out
  clear x0 y0 hdd
  go_upto_region 8 with fail
  refine wp_region_planT (fun w' => Below w4.heap.size w4 w') 9 [(0, true), (1, true), (2, true), (3, true), (4, true), (5, true), (6, true), (7, true), (8, true)] (by kernel_rfl) (by kernel_rfl) ((Below.refl _ _).drew) ?_
  iterate 9
    refine wpPlanT_read (by rfl) (by rfl) (fun R hR => ?_)
    apply Exists.intro
    refine ⟨fun w' hS' => ?_, ?_⟩
    · have k3 := (hS'.cell (p := ⟨gt, 3, none⟩) (by show gt < _; omega)).trans j3
      have k4 := (hS'.cell (p := ⟨gt, 4, none⟩) (by show gt < _; omega)).trans j4
      go_simp
      exact ⟨rfl, rfl⟩
    go_simp
    refine hR _ ?_
    clear hR R
  refine wpPlanT_nil ?_
  simp only [List.drop_succ_cons, List.drop_zero]
  go_wp2_with fail
  refine (EN.out _ (RDg.keep D4.out (Below.refl _ _).drew)).mono ?_
  rintro e w5 ⟨rfl, ⟨lv5, wv5, b5, l5, x5, hF5⟩, T5'⟩
  have T5 : Hid (Touch (fun k => k = g) w w5) := Lib.hid ((Touch.of_below (F := fun k => k = g) hbw4.drew (Nat.le_refl _)).trans T5' (fun i hi => .inl hi))
  obtain ⟨B5, cb5, rfl, nb5, mb5, fb5⟩ := x5.form
  have hz5 := T5'.size
  have O5 := Lib.hid (O4.out.stay fun k e => T5'.block k (O4.out.lt k e).2 (fun e2 => by have := (O4.out.lt k e).1; omega))
  have q2 := b5.cell 2
  have r2 := b5.frozen 2
  simp only [List.getElem?_toArray, List.getElem?_cons_succ, List.getElem?_cons_zero] at q2
  have NW1 := b5.notOwn x5 (by decide)
  have BB := Lib.hid b5
  have L5 := Lib.hid l5
  have X5 := Lib.hid x5
  have HF := Lib.hid hF5
  clear b5 l5 x5 hF5 fb5 T5' j3 j4
  go_wp2_with fail
  refine calm_normal ?_
  have hcapl : s.W.length + (t.L ++ t.W).length ≤ 1099511627776 := by rw [HL9.out]; omega
  go_upto_region 10 with (first | (at_builtin; go_must (refine append_M rfl (.tmp 41) (.tmp 42) rfl 0 (.slice B5 s.W.length cb5) s.W rfl X5.out (.slice A1 (t.L.length + t.W.length) c1) (t.L ++ t.W) rfl O5.out.rd hcapl (Nat.zero_le _) ?_); intro v6 w6 o6 g6 a6; have b6 := (g6.block g BB.out.lt (fun e => NW1 e.symm)).trans BB.out; obtain ⟨A6, c6, rfl, n6, m6, f6⟩ := o6.form; have s2 := Blk.cell b6 2; have u2 := Blk.frozen b6 2; simp only [List.getElem?_toArray, List.getElem?_cons_succ, List.getElem?_cons_zero] at s2; have B6 : Hid (Blk w6 g _ _) := Lib.hid b6; have O6 := Lib.hid o6; clear b6 o6 f6 q2 r2; go_simp))
  have KF : Hid (∃ (F' : Nat → Prop), (∀ k, F' k → F k ∨ w.heap.size ≤ k) ∧ RDg (w6.setCell ⟨g, 2, none⟩ (.slice A6 (s.W.length + (t.L.length + t.W.length)) c6)) g F' d s.L (s.W ++ (t.L ++ t.W)) lo1 hi1 ∧ Touch F w (w6.setCell ⟨g, 2, none⟩ (.slice A6 (s.W.length + (t.L.length + t.W.length)) c6))) := by
    obtain ⟨p1, p2, p3, p4, p5⟩ := HF.out
    have hlen3 : (s.W ++ (t.L ++ t.W)).length = s.W.length + (t.L.length + t.W.length) := by simp
    have O6' := O6.out
    rw [hlen3] at O6' a6
    have T6 : Touch F w w6 := (T5.out.mono (fun i (hi : i = g) => hi ▸ p1)).grown g6 (fun k1 hk1 => .inl (p3 k1 hk1))
    have T7 := T6.setCell (p := ⟨g, 2, none⟩) (.inl p1) (.slice A6 (s.W.length + (t.L.length + t.W.length)) c6)
    have own3 : ∀ k1, (Value.slice A6 (s.W.length + (t.L.length + t.W.length)) c6).ownBlock = some k1 → F k1 ∨ k1 = w5.heap.size := fun k1 e => by
      rcases a6 with e3 | e3
      · exact .inl (p3 k1 (by rw [← e3]; exact e))
      · rw [e3] at e; simp only [Option.some.injEq] at e; exact .inr e.symm
    have sz3 : w5.heap.size ≤ w6.heap.size := g6.size
    have hg4 := BB.out.lt
    have ng3 : (Value.slice A6 (s.W.length + (t.L.length + t.W.length)) c6).ownBlock ≠ some g := fun e => by
      rcases a6 with e3 | e3
      · exact NW1 (by rw [← e3]; exact e)
      · rw [e3] at e; simp only [Option.some.injEq] at e; omega
    have L6 : OwnM 0 w6 lv5 s.L := L5.out.stay fun k1 e => g6.block k1 (p5 k1 (p2 k1 e)) (fun e2 => p4 k1 e2.symm e)
    refine ⟨fun k1 => F k1 ∨ (Value.slice A6 (s.W.length + (t.L.length + t.W.length)) c6).ownBlock = some k1, ?_, ⟨lv5, _, B6.out.set_ 2 _, L6.far (p := ⟨g, 2, none⟩) (fun e => B6.out.notOwn L6 (by decide) e) _, O6'.far (p := ⟨g, 2, none⟩) ng3 (.slice A6 (s.W.length + (t.L.length + t.W.length)) c6), .inl p1, fun k1 e => .inl (p2 k1 e), fun k1 e => .inr e, ?_, ?_⟩, T7⟩
    · rintro k1 (hf | e)
      · exact .inl hf
      · rcases own3 k1 e with hf | hf
        · exact .inl hf
        · exact .inr (by have := T5.out.size; omega)
    · intro k1 e e2
      rcases a6 with e3 | e3
      · exact p4 k1 (by rw [← e3]; exact e) e2
      · rw [e3] at e; simp only [Option.some.injEq] at e
        have := p5 k1 (p2 k1 e2); omega
    · intro k1 hk1
      rw [World.size_setCell]
      rcases hk1 with hf | e
      · have := p5 k1 hf; omega
      · exact (O6'.lt k1 e).2
  clear B6 O6 s2 u2 g6 a6
  generalize w6.setCell ⟨g, 2, none⟩ (.slice A6 (s.W.length + (t.L.length + t.W.length)) c6) = w7 at *
  obtain ⟨F1, f1, f2, f3⟩ := KF.out
  have hlen6 : s.L.length + (s.W ++ (t.L ++ t.W)).length ≤ 100000000 := by simp only [List.length_append]; omega
  have ht6 : tot (s.L ++ (s.W ++ (t.L ++ t.W))) ≤ 281474976710656 := by rw [HTT.out]; omega
  have PC := Lib.hid (rpress_any g F1 d _ _ s.L (s.W ++ (t.L ++ t.W)) w7 f2 HOK.out hlen6 ht6 (by omega) d1)
  have T7 := Lib.hid f3
  have F7 := Lib.hid f1
  clear f1 f2 f3 hlen6 ht6 KF
  go_wp2_with fail
  refine (PC.out).mono ?_
  rintro e w8 ⟨rfl, F2, g1, g2, g3⟩
  have G1 := Lib.hid g1
  have G2 := Lib.hid g2
  have G3 := Lib.hid g3
  have hs6 := T7.out.size
  clear g1 g2 g3
  go_wp2_with fail
  refine bodyPost_ret (by simp [results, Try.results53, go_sem, *]; try rfl) rfl ?_
  refine ⟨rfl, F2, ?_, ?_, T7.out.trans G3.out (fun i hi => F7.out i hi)⟩
  · intro k1 h1
    rcases G1.out k1 h1 with h2 | h2
    · exact F7.out k1 h2
    · exact .inr (by omega)
  · rw [HST.out]
    unfold RDgS
    exact G2.out
end Go.Proofs.Ytedhpkfbobgkgaa
