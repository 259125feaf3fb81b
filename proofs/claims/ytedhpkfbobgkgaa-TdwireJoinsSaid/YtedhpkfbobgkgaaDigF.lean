/- Digests of the program in memory; Press, Total, New. Conditions: means that may be, at most 2^48 in all, at most 10^8 of them; the fineness from 0 to 1000. -/
import Derived.Test.YtedhpkfbobgkgaaDigE
namespace Go.Proofs.Ytedhpkfbobgkgaa
open Go.RowKit Go.Lib

/-- A digest at block g, all of whose blocks are of F. -/
def Dg (w : World) (g : Nat) (F : Nat → Prop) (d : Int) (L W : List Mn) (lo hi n : Int) : Prop :=
  ∃ lv wv, Blk w g 95 #[.int .i64 d, lv, wv, .int .i64 lo, .int .i64 hi, .int .u64 n] ∧ OwnM 0 w lv L ∧ OwnM 0 w wv W ∧ F g ∧ (∀ k, lv.ownBlock = some k → F k) ∧ (∀ k, wv.ownBlock = some k → F k) ∧
    (∀ k, wv.ownBlock = some k → lv.ownBlock ≠ some k) ∧ (∀ k, F k → k < w.heap.size)
theorem Dg.stay {w w' : World} {g : Nat} {F : Nat → Prop} {d lo hi n : Int} {L W : List Mn} (h : Dg w g F d L W lo hi n) (hk : ∀ k, F k → w'.heap[k]? = w.heap[k]?) (hz : w.heap.size ≤ w'.heap.size) : Dg w' g F d L W lo hi n := by
  obtain ⟨lv, wv, hb, hl, hw, hg, h1, h2, h3, h4⟩ := h
  exact ⟨lv, wv, (hk g hg).trans hb, hl.stay fun k e => hk k (h1 k e), hw.stay fun k e => hk k (h2 k e), hg, h1, h2, h3, fun k hf => Nat.lt_of_lt_of_le (h4 k hf) hz⟩
theorem Dg.keep {w w' : World} {g : Nat} {F : Nat → Prop} {d lo hi n : Int} {L W : List Mn} (h : Dg w g F d L W lo hi n) (hb : Below w.heap.size w w') : Dg w' g F d L W lo hi n := by
  have h4 := h
  obtain ⟨lv, wv, _, _, _, _, _, _, _, h4⟩ := h4
  exact h.stay (fun k hk => hb.block k (h4 k hk)) hb.size

theorem rd_row2 {w : World} {a b : Value} {L W : List Mn} {t : Nat} (h1 : RdM (w.alloc (.cells #[a, b] t)) a L) (h2 : RdM (w.alloc (.cells #[a, b] t)) b W) : RdRow (w.alloc (.cells #[a, b] t)) w.heap.size [L, W] := by
  intro i hi
  have : i = 0 ∨ i = 1 := by simp at hi; omega
  rcases this with rfl | rfl
  · exact ⟨a, by simp [World.cell?_alloc_new], h1⟩
  · exact ⟨b, by simp [World.cell?_alloc_new], h2⟩

/-- What stands in the midst of Press, but for the cell of the list. -/
structure PrS (g : Nat) (d : Int) (B : Option Addr) (n c : Nat) (t : Int) (w w' : World) : Prop where
  touch : Touch (fun k => k = g) w w'
  c0 : w'.cell? ⟨g, 0, none⟩ = some (.int .i64 d)
  c2 : w'.cell? ⟨g, 2, none⟩ = some (.slice B n c)
  c5 : w'.cell? ⟨g, 5, none⟩ = some (.int .u64 t)
theorem PrS.set_ {g : Nat} {d : Int} {B : Option Addr} {n c : Nat} {t : Int} {w w' : World} (h : PrS g d B n c t w w') (v : Value) : PrS g d B n c t w (w'.setCell ⟨g, 1, none⟩ v) :=
  ⟨h.touch.setCell (.inl rfl) v, (World.cell?_setCell_other _ _ _ _ (by simp)).trans h.c0, (World.cell?_setCell_other _ _ _ _ (by simp)).trans h.c2, (World.cell?_setCell_other _ _ _ _ (by simp)).trans h.c5⟩

set_option maxRecDepth 100000 in
set_option maxHeartbeats 2000000 in
theorem press_any (g : Nat) (F : Nat → Prop) (d lo hi : Int) (L W : List Mn) (w : World) (h : Dg w g F d L W lo hi (tot (L ++ W))) (ho : okL (L ++ W)) (hne : L ++ W ≠ []) (hlen : L.length + W.length ≤ 100000000) (ht : tot (L ++ W) ≤ 281474976710656) (d0 : 0 ≤ d) (d1 : d ≤ 1000) :
    Calls Try.prog 26 #[.pointer (some ⟨g, 0, none⟩)] w fun e w' => e = .returned (.tuple #[]) ∧ ∃ F' : Nat → Prop, (∀ k, F' k → F k ∨ w.heap.size ≤ k) ∧ Dg w' g F' d (prs d (L ++ W)) [] lo hi (tot (L ++ W)) ∧ Touch F w w' := by
  obtain ⟨lv, wv, hb, hl, hw, hg, h1, h2, h3, h4⟩ := h
  have c0 := hb.cell 0
  have c1 := hb.cell 1
  have c2 := hb.cell 2
  have c5 := hb.cell 5
  have f1 := hb.frozen 1
  have f2 := hb.frozen 2
  simp only [List.getElem?_toArray, List.getElem?_cons_succ, List.getElem?_cons_zero] at c0 c1 c2 c5
  have hlt := hb.lt
  have HB := Lib.hid hb
  have HL := Lib.hid hl
  have HW := Lib.hid hw
  obtain ⟨A, ca, rfl, na, ma, fa⟩ := hl.form
  obtain ⟨B, cb, rfl, nb, mb, fb⟩ := hw.form
  have HG := Lib.hid (And.intro hg (And.intro h1 (And.intro h2 (And.intro h3 h4))))
  have HC0 := Lib.hid c0
  have HC1 := Lib.hid c1
  have HC2 := Lib.hid c2
  have HC5 := Lib.hid c5
  have HO := Lib.hid ho
  have HNE : 0 < L.length + W.length := by
    rcases Nat.eq_zero_or_pos (L.length + W.length) with h0 | h0
    · exact absurd (List.eq_nil_of_length_eq_zero (by rw [List.length_append]; exact h0)) hne
    · exact h0
  have hp : ∀ W0 : Prop, (0 < W.length → W0) → (¬ 0 < W.length → 0 < L.length → W0) → W0 := fun W0 a b => by
    by_cases h : 0 < W.length
    · exact a h
    · exact b h (by omega)
  clear hb hl hw fa fb ho hg h1 h2 h3 h4 hne hp
  by_cases hW : 0 < W.length
  all_goals
    try (have hL : 0 < L.length := by omega)
    go_enter Try.func26, Try.ntmps26
    go_upto_region 1 with fail
    have HRD1 := Lib.hid HL.out.rd
    have HRD2 := Lib.hid HW.out.rd
    have HSB : ∀ w', Below w.heap.size w w' → PrS g d B W.length cb (tot (L ++ W)) w w' := fun w' hb => ⟨Touch.of_below hb (Nat.le_refl _), (hb.cell (p := ⟨g, 0, none⟩) hlt).trans HC0.out, (hb.cell (p := ⟨g, 2, none⟩) hlt).trans HC2.out, (hb.cell (p := ⟨g, 5, none⟩) hlt).trans HC5.out⟩
    refine wp_region_planT (PrS g d B W.length cb (tot (L ++ W)) w) 27 [(0, true), (1, true), (2, true), (3, true), (4, true), (5, true), (6, true), (7, true), (8, true), (9, true), (10, true), (11, true), (12, true), (14, true), (15, true), (16, true), (17, true), (13, false), (18, false), (19, false), (20, false), (21, false), (22, true), (23, true), (24, false), (25, true), (26, true)] (by kernel_rfl) (by kernel_rfl) (HSB _ (Below.refl _ _).drew) ?_
    iterate 17
      refine wpPlanT_read (by rfl) (by rfl) (fun R hR => ?_)
      apply Exists.intro
      refine ⟨fun w' hS' => ?_, ?_⟩
      · have k0 := hS'.c0
        have k2 := hS'.c2
        have k5 := hS'.c5
        go_simp
        exact ⟨rfl, rfl⟩
      go_simp
      refine hR _ ?_
      clear hR R
    refine wpPlanT_do (by rfl) (by rfl) (fun K hK => ?_)
    go_simp
    refine hK _ _ (HSB _ (Below.refl _ _).drew) ?_
    clear hK K
    refine wpPlanT_do (by rfl) (by rfl) (fun K hK => ?_)
    go_simp
    refine hK _ _ (HSB _ (((Below.refl _ _).drew).alloc (by go_size) _)) ?_
    clear hK K
    refine wpPlanT_do (by rfl) (by rfl) (fun K hK => ?_)
    go_simp
    have hrow : RdRow (w.drew.alloc (.cells #[.slice A L.length ca, .slice B W.length cb] 35)) w.heap.size [L, W] := rd_row2 (HRD1.out.keep (((Below.refl _ _).drew).alloc (by go_size) _)) (HRD2.out.keep (((Below.refl _ _).drew).alloc (by go_size) _))
    refine (concat_M w.heap.size [L, W] _ (by go_size) hrow (by simp) (by simp; omega)).mono ?_
    rintro e w1 ⟨v1, rfl, o1, hb1⟩
    have hbw1 : Below w.heap.size w w1 := (((Below.refl _ _).drew).alloc (by go_size) _).trans (hb1.mono (by go_size))
    have hz1 := hbw1.size
    rw [show ([L, W] : List (List Mn)).flatten = L ++ W by simp] at o1
    have O1 := Lib.hid o1
    clear o1
    refine hK _ _ (HSB _ hbw1) ?_
    clear hK K
    refine wpPlanT_do (by rfl) (by rfl) (fun K hK => ?_)
    go_simp
    refine (sorted_any _ (L ++ W) v1 _ (Nat.le_refl _) (by rw [List.length_append]; omega) O1.out.rd).mono ?_
    rintro e w2 ⟨v2, rfl, o2, hb2⟩
    have hbw2 : Below w.heap.size w w2 := hbw1.trans (hb2.mono hz1)
    have hz2 := hbw2.size
    have O2 := Lib.hid o2
    clear o2
    refine hK _ _ (HSB _ hbw2) ?_
    clear hK K
    refine wpPlanT_do (by rfl) (by rfl) (fun K hK => ?_)
    go_simp
    have hpr := pressed_any d v2 (srt (L ++ W)) w2 O2.out (by rw [srt_length, List.length_append]; exact HNE) (HO.out.srt) (rises_srt _) (by rw [srt_length, List.length_append]; omega) (by rw [tot_srt]; exact ht) d0 d1
    rw [tot_srt] at hpr
    refine hpr.mono ?_
    rintro e w3 ⟨v3, rfl, o3, hb3⟩
    have hbw3 : Below w.heap.size w w3 := hbw2.trans (hb3.mono hz2)
    have hz3 := hbw3.size
    have O3 := Lib.hid o3
    clear o3 hpr
    refine hK _ _ (HSB _ hbw3) ?_
    clear hK K
    iterate 2
      refine wpPlanT_read (by rfl) (by rfl) (fun R hR => ?_)
      apply Exists.intro
      refine ⟨fun w' hS' => ?_, ?_⟩
      · have k0 := hS'.c0
        have k2 := hS'.c2
        have k5 := hS'.c5
        go_simp
        exact ⟨rfl, rfl⟩
      go_simp
      refine hR _ ?_
      clear hR R
    refine wpPlanT_do (by rfl) (by rfl) (fun K hK => ?_)
    obtain ⟨A3, c3, rfl, n3, m3, f3⟩ := O3.out.form
    clear f3
    have k1 := (hbw3.frozen (p := ⟨g, 1, none⟩) hlt).trans f1
    have k3 := (hbw3.cell (p := ⟨g, 1, none⟩) hlt).trans HC1.out
    go_simp
    refine hK _ _ ((HSB _ hbw3).set_ _) ?_
    clear hK K
    iterate 2
      refine wpPlanT_read (by rfl) (by rfl) (fun R hR => ?_)
      apply Exists.intro
      refine ⟨fun w' hS' => ?_, ?_⟩
      · have k0 := hS'.c0
        have k2 := hS'.c2
        have k5 := hS'.c5
        go_simp
        exact ⟨rfl, rfl⟩
      go_simp
      refine hR _ ?_
      clear hR R
    refine wpPlanT_nil ?_
    simp only [List.drop_succ_cons, List.drop_zero]
    have k2 := (hbw3.frozen (p := ⟨g, 2, none⟩) hlt).trans f2
    have k4 := (hbw3.cell (p := ⟨g, 2, none⟩) hlt).trans HC2.out
    go_wp2_with fail
    refine calm_normal ?_
    go_wp2_with fail
    refine bodyPost_end (v := .tuple #[]) (by simp [results, Try.results26, go_sem, *]; try rfl) rfl ?_
    refine ⟨rfl, fun k => k = g ∨ (Value.slice A3 (prs d (L ++ W)).length c3).ownBlock = some k, ?_, ?_, ?_⟩
    · rintro k (rfl | hk)
      · exact .inl HG.out.1
      · exact .inr (by have := (O3.out.lt k hk).1; omega)
    · obtain ⟨hg, h1, h2, h3, h4⟩ := HG.out
      have hgo : ∀ k, (Value.slice A3 (prs d (L ++ W)).length c3).ownBlock = some k → w.heap.size ≤ k ∧ k < w3.heap.size := fun k hk => by have := O3.out.lt k hk; omega
      have hgn : ∀ i, (Value.slice A3 (prs d (L ++ W)).length c3).ownBlock ≠ some (⟨g, i, none⟩ : Addr).block := fun i hk => by have := hgo g hk; omega
      refine ⟨_, _, ((HB.out.keep hbw3).set_ 1 _).set_ 2 _, ((O3.out.more (Nat.zero_le _)).far (hgn 1) _).far (hgn 2) _, OwnM.nil_ _ _, .inl rfl, fun k hk => .inr hk, fun k hk => (by cases hk), fun k hk => (by cases hk), fun k hk => ?_⟩
      simp only [World.size_setCell]
      rcases hk with rfl | hk
      · omega
      · have := hgo k hk; omega
    · exact ((Touch.of_below hbw3 (Nat.le_refl _)).setCell (.inl HG.out.1) _).setCell (.inl HG.out.1) _
end Go.Proofs.Ytedhpkfbobgkgaa
