/- Press, ends and Add of the reference's digest. -/
import Derived.Test.YtedhpkfbobgkgaaDigL
namespace Go.Proofs.Ytedhpkfbobgkgaa
open Go.RowKit Go.Lib

/-- What stands in the midst of the reference's Press. -/
structure RpS (g : Nat) (d : Int) (w w' : World) : Prop where
  touch : Touch (fun k => k = g) w w'
  c0 : w'.cell? ⟨g, 0, none⟩ = some (.int .i64 d)

theorem RpS.set_ {g : Nat} {d : Int} {w w' : World} (h : RpS g d w w') (v : Value) : RpS g d w (w'.setCell ⟨g, 1, none⟩ v) :=
  ⟨h.touch.setCell (.inl rfl) v, (World.cell?_setCell_other _ _ _ _ (by simp)).trans h.c0⟩

theorem RDg.lt {w : World} {g : Nat} {F : Nat → Prop} {d lo hi : Int} {L W : List Mn} (h : RDg w g F d L W lo hi) : g < w.heap.size := by
  obtain ⟨lv, wv, hb, _⟩ := h
  exact hb.lt
theorem RDg.mem {w : World} {g : Nat} {F : Nat → Prop} {d lo hi : Int} {L W : List Mn} (h : RDg w g F d L W lo hi) : F g := by
  obtain ⟨lv, wv, _, _, _, hg, _⟩ := h
  exact hg
theorem RDg.low {w : World} {g : Nat} {F : Nat → Prop} {d lo hi : Int} {L W : List Mn} (h : RDg w g F d L W lo hi) : ∀ k, F k → k < w.heap.size := by
  obtain ⟨lv, wv, _, _, _, _, _, _, _, h4⟩ := h
  exact h4

set_option maxRecDepth 100000 in
set_option maxHeartbeats 2000000 in
theorem rpress_any (g : Nat) (F : Nat → Prop) (d lo hi : Int) (L W : List Mn) (w : World) (h : RDg w g F d L W lo hi) (ho : okL (L ++ W)) (hlen : L.length + W.length ≤ 100000000) (ht : tot (L ++ W) ≤ 281474976710656) (d0 : 0 ≤ d) (d1 : d ≤ 1000) :
    Calls Try.prog 76 #[.pointer (some ⟨g, 0, none⟩)] w fun e w' => e = .returned (.tuple #[]) ∧ ∃ F' : Nat → Prop, (∀ k, F' k → F k ∨ w.heap.size ≤ k) ∧ RDg w' g F' d (prs d (L ++ W)) [] lo hi ∧ Touch F w w' := by
  have HD := Lib.hid h
  obtain ⟨lv, wv, hb, hl, hw, hg, h1, h2, h3, h4⟩ := h
  have c0 := hb.cell 0
  have c1 := hb.cell 1
  have c2 := hb.cell 2
  have f1 := hb.frozen 1
  have f2 := hb.frozen 2
  simp only [List.getElem?_toArray, List.getElem?_cons_succ, List.getElem?_cons_zero] at c0 c1 c2
  have hlt := hb.lt
  have HB := Lib.hid hb
  obtain ⟨A, ca, rfl, na, ma, fa⟩ := hl.form
  obtain ⟨B, cb, rfl, nb, mb, fb⟩ := hw.form
  have HG := Lib.hid hg
  have HC0 := Lib.hid c0
  have HC1 := Lib.hid c1
  have HC2 := Lib.hid c2
  have HO := Lib.hid ho
  have HAL : (L ++ W).length ≤ 1000000000 := by rw [List.length_append]; omega
  clear hb hl hw fa fb ho hg h1 h2 h3 h4 c0 c1 c2
  go_enter Try.func76, Try.ntmps76
  go_wp2_with fail
  have HSB : ∀ w', Below w.heap.size w w' → RpS g d w w' := fun w' hb => ⟨Touch.of_below hb (Nat.le_refl _), (hb.cell (p := ⟨g, 0, none⟩) hlt).trans HC0.out⟩
  refine wp_region_plan (RpS g d w) [(0, true), (1, true), (2, true), (3, true), (4, true), (5, true), (6, false), (7, false), (8, true), (9, true), (10, false)] (by kernel_rfl) (by kernel_rfl) (HSB _ (Below.refl _ _).drew) ?_
  iterate 6
    refine wpPlan_read (by rfl) (by rfl) (fun R hR => ?_)
    apply Exists.intro
    refine ⟨fun w' hS' => ?_, ?_⟩
    · have k0 := hS'.c0
      go_simp
      exact ⟨rfl, rfl⟩
    go_simp
    refine hR _ ?_
    clear hR R
  refine wpPlan_do (by rfl) (by rfl) (fun K hK => ?_)
  go_simp
  refine (rall_any g F d lo hi L W _ (HD.out.keep (Below.refl _ _).drew) (by omega)).mono ?_
  rintro e w1 ⟨v1, rfl, o1, hb1⟩
  have hbw1 : Below w.heap.size w w1 := ((Below.refl _ _).drew).trans (hb1.mono (by go_size))
  have hz1 := hbw1.size
  have O1 := Lib.hid o1
  clear o1
  refine hK _ _ (HSB _ hbw1) ?_
  clear hK K
  refine wpPlan_do (by rfl) (by rfl) (fun K hK => ?_)
  go_simp
  refine (rpressed_any d v1 (L ++ W) _ O1.out.rd HO.out HAL ht d0 d1).mono ?_
  rintro e w3 ⟨v3, rfl, o3, hb3⟩
  have hbw3 : Below w.heap.size w w3 := hbw1.trans (hb3.mono hz1)
  have hz3 := hbw3.size
  have O3 := Lib.hid o3
  clear o3
  refine hK _ _ (HSB _ hbw3) ?_
  clear hK K
  iterate 2
    refine wpPlan_read (by rfl) (by rfl) (fun R hR => ?_)
    apply Exists.intro
    refine ⟨fun w' hS' => ?_, ?_⟩
    · have k0 := hS'.c0
      go_simp
      exact ⟨rfl, rfl⟩
    go_simp
    refine hR _ ?_
    clear hR R
  refine wpPlan_do (by rfl) (by rfl) (fun K hK => ?_)
  obtain ⟨A3, c3, rfl, n3, m3, f3⟩ := O3.out.form
  clear f3
  have k1 := (hbw3.frozen (p := ⟨g, 1, none⟩) hlt).trans f1
  have k3 := (hbw3.cell (p := ⟨g, 1, none⟩) hlt).trans HC1.out
  go_simp
  refine hK _ _ ((HSB _ hbw3).set_ _) ?_
  clear hK K
  refine wpPlan_nil ?_
  have k2 := (hbw3.frozen (p := ⟨g, 2, none⟩) hlt).trans f2
  have k4 := (hbw3.cell (p := ⟨g, 2, none⟩) hlt).trans HC2.out
  go_wp2_with fail
  refine bodyPost_end (v := .tuple #[]) (by simp [results, Try.results76, go_sem, *]; try rfl) rfl ?_
  refine ⟨rfl, fun k => k = g ∨ (Value.slice A3 (prs d (L ++ W)).length c3).ownBlock = some k, ?_, ?_, ?_⟩
  · rintro k (rfl | hk)
    · exact .inl HG.out
    · exact .inr (by have := (O3.out.lt k hk).1; omega)
  · have hgo : ∀ k, (Value.slice A3 (prs d (L ++ W)).length c3).ownBlock = some k → w.heap.size ≤ k ∧ k < w3.heap.size := fun k hk => by have := O3.out.lt k hk; omega
    have hgn : ∀ i, (Value.slice A3 (prs d (L ++ W)).length c3).ownBlock ≠ some (⟨g, i, none⟩ : Addr).block := fun i hk => by have := hgo g hk; omega
    refine ⟨_, _, ((HB.out.keep hbw3).set_ 1 _).set_ 2 _, ((O3.out.more (Nat.zero_le _)).far (hgn 1) _).far (hgn 2) _, OwnM.nil_ _ _, .inl rfl, fun k hk => .inr hk, fun k hk => (by cases hk), fun k hk => (by cases hk), fun k hk => ?_⟩
    simp only [World.size_setCell]
    rcases hk with rfl | hk
    · omega
    · have := hgo k hk; omega
  · exact ((Touch.of_below hbw3 (Nat.le_refl _)).setCell (.inl HG.out) _).setCell (.inl HG.out) _

/-- Only cells of the block g have changed. -/
theorem RDg.cells {w w' : World} {g : Nat} {F : Nat → Prop} {d d' lo hi lo' hi' : Int} {L W : List Mn} {lv wv : Value} (hb : Blk w g 37 #[.int .i64 d, lv, wv, .int .i64 lo, .int .i64 hi]) (hl : OwnM 0 w lv L) (hw : OwnM 0 w wv W)
    (hF : F g ∧ (∀ k, lv.ownBlock = some k → F k) ∧ (∀ k, wv.ownBlock = some k → F k) ∧ (∀ k, wv.ownBlock = some k → lv.ownBlock ≠ some k) ∧ (∀ k, F k → k < w.heap.size))
    (ht : Touch (fun k => k = g) w w') (hb' : Blk w' g 37 #[.int .i64 d', lv, wv, .int .i64 lo', .int .i64 hi']) : RDg w' g F d' L W lo' hi' := by
  obtain ⟨hg, h1, h2, h3, h4⟩ := hF
  have nl := hb.notOwn hl (by decide)
  have nw := hb.notOwn hw (by decide)
  exact ⟨lv, wv, hb', hl.stay fun k e => ht.block k (h4 k (h1 k e)) (fun h => nl (by rw [e, h])), hw.stay fun k e => ht.block k (h4 k (h2 k e)) (fun h => nw (by rw [e, h])), hg, h1, h2, h3, fun k hf => Nat.lt_of_lt_of_le (h4 k hf) ht.size⟩

set_option maxRecDepth 100000 in
set_option maxHeartbeats 2000000 in
theorem rends_any {g : Nat} {F : Nat → Prop} {d lo hi : Int} {L W : List Mn} (a b : Int) (w : World) (h : RDg w g F d L W lo hi) (hlen : L.length + W.length ≤ 100000000) :
    Calls Try.prog 75 #[.pointer (some ⟨g, 0, none⟩), .int .i64 a, .int .i64 b] w fun e w' => e = .returned (.tuple #[]) ∧ RDg w' g F d L W (if L.length + W.length = 0 then a else min lo a) (if L.length + W.length = 0 then b else max hi b) ∧ Touch (fun k => k = g) w w' := by
  obtain ⟨lv, wv, hb, hl, hw, hg, h1, h2, h3, h4⟩ := h
  have hlt := hb.lt
  obtain ⟨A, ca, rfl, na, ma, fa⟩ := hl.form
  obtain ⟨B, cb, rfl, nb, mb, fb⟩ := hw.form
  have HB := Lib.hid hb
  have HL := Lib.hid hl
  have HW := Lib.hid hw
  have HG := Lib.hid (And.intro hg (And.intro h1 (And.intro h2 (And.intro h3 h4))))
  have c1 := hb.cell 1
  have c2 := hb.cell 2
  have c3 := hb.cell 3
  have c4 := hb.cell 4
  have f3 := hb.frozen 3
  have f4 := hb.frozen 4
  simp only [List.getElem?_toArray, List.getElem?_cons_succ, List.getElem?_cons_zero] at c1 c2 c3 c4
  clear hb hl hw hg h1 h2 h3 h4 fa fb
  by_cases hn : L.length + W.length = 0
  · simp only [if_pos hn]
    have hE : (((L.length : Int) + (W.length : Int)) == 0) = true := by simp; omega
    clear hn
    have ew : IntKind.i64.wrap ((L.length : Int) + (W.length : Int)) = (L.length : Int) + (W.length : Int) := IntWalk.i64_in _ (by omega)
    go_enter Try.func75, Try.ntmps75
    go_wp2_with fail
    go_quiet (fail)
    clear ew
    go_wp2_with fail
    refine bodyPost_end (v := .tuple #[]) (by simp [results, Try.results75, go_sem, *]; try rfl) rfl ?_
    have T3 := ((((((Touch.refl (fun k => k = g) w).drewN nq).setCell (p := ⟨g, 3, none⟩) (.inl rfl) (.int .i64 a)).setCell (p := ⟨g, 4, none⟩) (.inl rfl) (.int .i64 b)).setCell (p := ⟨g, 3, none⟩) (.inl rfl) (.int .i64 a)).setCell (p := ⟨g, 4, none⟩) (.inl rfl) (.int .i64 b))
    exact ⟨rfl, RDg.cells HB.out HL.out HW.out HG.out T3 (((((HB.out.drewN nq).set_ 3 _).set_ 4 _).set_ 3 _).set_ 4 _), T3⟩
  · simp only [if_neg hn]
    have hE : (((L.length : Int) + (W.length : Int)) == 0) = false := by simp; omega
    clear hn
    have ew : IntKind.i64.wrap ((L.length : Int) + (W.length : Int)) = (L.length : Int) + (W.length : Int) := IntWalk.i64_in _ (by omega)
    go_enter Try.func75, Try.ntmps75
    go_wp2_with fail
    go_quiet (fail)
    clear ew
    go_wp2_with fail
    refine bodyPost_end (v := .tuple #[]) (by simp [results, Try.results75, go_sem, *]; try rfl) rfl ?_
    have T3 := (((Touch.refl (fun k => k = g) w).drewN nq).setCell (p := ⟨g, 3, none⟩) (.inl rfl) (.int .i64 (min lo a))).setCell (p := ⟨g, 4, none⟩) (.inl rfl) (.int .i64 (max hi b))
    exact ⟨rfl, RDg.cells HB.out HL.out HW.out HG.out T3 (((HB.out.drewN nq).set_ 3 _).set_ 4 _), T3⟩
end Go.Proofs.Ytedhpkfbobgkgaa
