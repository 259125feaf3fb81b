/- Same of the law: all that is told of a digest is the document's. -/
import Derived.Test.YtedhpkfbobgkgaaDigR
namespace Go.Proofs.Ytedhpkfbobgkgaa
open Go.RowKit Go.Lib

set_option maxRecDepth 100000 in
set_option maxHeartbeats 4000000 in
theorem same_any {g1 g2 : Nat} {F1 F2 : Nat → Prop} {d : Int} {s : St} {k : Nat} (w : World) (h1 : DgS w g1 F1 d s) (h2 : RDgS w g2 F2 d s) (ft : Fit d s k) :
    Calls Try.prog 31 #[.pointer (some ⟨g1, 0, none⟩), .pointer (some ⟨g2, 0, none⟩)] w fun e w' => e = .returned (.bool true) ∧ Below w.heap.size w w' := by
  have H1 := Lib.hid h1
  have H2 := Lib.hid h2
  have n0 := ft.ok.n_nonneg
  have n1 := ft.t
  have hlw : s.L.length + s.W.length ≤ 100000000 := by have := ft.ok.len; have := ft.k1; omega
  have HN := Lib.hid ft.ok.n_zero
  have HO := Lib.hid ft.ok.ok
  have HEMP := Lib.hid ft.ok.emp
  clear h1 h2 ft
  have hEn : Hid (∃ e0 a0 b0 : Int, (tot (s.L ++ s.W) = 0 → e0 = 8 ∧ a0 = 0 ∧ b0 = 0) ∧ (0 < tot (s.L ++ s.W) → e0 = 0 ∧ a0 = s.lo ∧ b0 = s.hi) ∧ Calls Try.prog 38 #[.pointer (some ⟨g1, 0, none⟩)] w fun e w' => e = .returned (.tuple #[.int .i64 a0, .int .i64 b0, .int .i64 e0]) ∧ Below w.heap.size w w') := by
    by_cases hz : tot (s.L ++ s.W) = 0
    · have hd := H1.out
      unfold DgS at hd
      rw [hz] at hd
      exact ⟨8, 0, 0, fun _ => ⟨rfl, rfl, rfl⟩, fun h => by omega, ends_none w hd⟩
    · exact ⟨0, s.lo, s.hi, fun h => absurd h hz, fun _ => ⟨rfl, rfl, rfl⟩, ends_some w H1.out (by omega)⟩
  obtain ⟨e0, a0, b0, hE0, hE1, hEC⟩ := hEn.out
  have HE0 := Lib.hid hE0
  have HE1 := Lib.hid hE1
  clear hE0 hE1 hEn
  go_enter Try.func31, Try.ntmps31
  go_wp2_with fail
  refine hEC.mono ?_
  rintro e w1 ⟨rfl, hb1⟩
  clear hEC
  have hz1 := hb1.size
  have D1 := Lib.hid (Dg.keep H1.out hb1)
  have R1 := Lib.hid (RDg.keep H2.out hb1)
  obtain ⟨lv, wv, hbk, ol, ow, _⟩ := R1.out
  obtain ⟨A, ca, rfl, na, ma, fa⟩ := ol.form
  obtain ⟨B, cb, rfl, nb, mb, fb⟩ := ow.form
  have OL := Lib.hid ol
  have OW := Lib.hid ow
  have hg2 := hbk.lt
  have c0 := hbk.cell 0
  have c1 := hbk.cell 1
  have c2 := hbk.cell 2
  have c3 := hbk.cell 3
  have c4 := hbk.cell 4
  simp only [List.getElem?_toArray, List.getElem?_cons_succ, List.getElem?_cons_zero] at c0 c1 c2 c3 c4
  have C0 := Lib.hid c0
  have C1 := Lib.hid c1
  have C2 := Lib.hid c2
  have C3 := Lib.hid c3
  have C4 := Lib.hid c4
  have hdn : (d != d) = false := by simp
  have htn : (tot (s.L ++ s.W) != tot (s.L ++ s.W)) = false := by simp
  clear hbk ol ow fa fb c0 c1 c2 c3 c4
  go_wp2_with fail
  refine wp_region_plan (fun w' => Below w1.heap.size w1 w') [(0, true), (2, true), (3, true), (4, true), (5, true), (1, false), (6, true), (7, true), (8, true), (10, true), (9, false), (11, false), (12, false), (13, true), (14, true), (15, true), (16, true), (18, true), (19, true), (20, true), (21, true), (17, false), (22, false), (23, true), (24, true), (25, true), (26, true), (28, true), (29, true), (30, true), (31, true), (27, false), (32, false), (33, true), (34, true)] (by kernel_rfl) (by kernel_rfl) ((Below.refl _ _).drew) ?_
  iterate 5
    refine wpPlan_read (by rfl) (by rfl) (fun R hR => ?_)
    apply Exists.intro
    refine ⟨fun w' hS' => ?_, ?_⟩
    · have k0 := (hS'.cell (p := ⟨g2, 0, none⟩) hg2).trans C0.out
      have k1 := (hS'.cell (p := ⟨g2, 1, none⟩) hg2).trans C1.out
      have k2 := (hS'.cell (p := ⟨g2, 2, none⟩) hg2).trans C2.out
      go_simp
      exact ⟨rfl, rfl⟩
    go_simp
    refine hR _ ?_
    clear hR R
  refine wpPlan_do (by rfl) (by rfl) (fun K hK => ?_)
  go_simp
  refine (fineness_any _ (Dg.keep D1.out (Below.refl _ _).drew)).mono ?_
  rintro e w' ⟨rfl, rfl⟩
  refine hK _ _ ((Below.refl _ _).drew) ?_
  clear hK K
  iterate 4
    refine wpPlan_read (by rfl) (by rfl) (fun R hR => ?_)
    apply Exists.intro
    refine ⟨fun w' hS' => ?_, ?_⟩
    · have k0 := (hS'.cell (p := ⟨g2, 0, none⟩) hg2).trans C0.out
      have k1 := (hS'.cell (p := ⟨g2, 1, none⟩) hg2).trans C1.out
      have k2 := (hS'.cell (p := ⟨g2, 2, none⟩) hg2).trans C2.out
      go_simp
      exact ⟨rfl, rfl⟩
    go_simp
    refine hR _ ?_
    clear hR R
  refine wpPlan_do (by rfl) (by rfl) (fun K hK => ?_)
  go_simp
  refine (total_any _ (Dg.keep D1.out (Below.refl _ _).drew)).mono ?_
  rintro e w' ⟨rfl, rfl⟩
  refine hK _ _ ((Below.refl _ _).drew) ?_
  clear hK K
  refine wpPlan_do (by rfl) (by rfl) (fun K hK => ?_)
  go_simp
  refine (rall_any g2 F2 d s.lo s.hi s.L s.W _ (RDg.keep R1.out (Below.refl _ _).drew) (by omega)).mono ?_
  rintro e w2 ⟨v2, rfl, o2, hb2⟩
  have hbw2 : Below w1.heap.size w1 w2 := (Below.refl _ _).drew.trans hb2
  have hz2 := hbw2.size
  have O2 := Lib.hid o2
  clear o2
  refine hK _ _ (hbw2) ?_
  clear hK K
  refine wpPlan_do (by rfl) (by rfl) (fun K hK => ?_)
  go_simp
  refine (rtotal_any v2 _ w2 O2.out.rd HO.out (by omega)).mono ?_
  rintro e w3 ⟨rfl, hb3⟩
  have hbw3 : Below w1.heap.size w1 w3 := hbw2.trans (hb3.mono hz2)
  have hz3 := hbw3.size
  refine hK _ _ (hbw3) ?_
  clear hK K
  iterate 8
    refine wpPlan_read (by rfl) (by rfl) (fun R hR => ?_)
    apply Exists.intro
    refine ⟨fun w' hS' => ?_, ?_⟩
    · have k0 := (hS'.cell (p := ⟨g2, 0, none⟩) hg2).trans C0.out
      have k1 := (hS'.cell (p := ⟨g2, 1, none⟩) hg2).trans C1.out
      have k2 := (hS'.cell (p := ⟨g2, 2, none⟩) hg2).trans C2.out
      go_simp
      exact ⟨rfl, rfl⟩
    go_simp
    refine hR _ ?_
    clear hR R
  refine wpPlan_do (by rfl) (by rfl) (fun K hK => ?_)
  go_simp
  refine (list_any w3 (Dg.keep D1.out hbw3) (by omega)).mono ?_
  rintro e w4 ⟨v4, rfl, o4, hb4⟩
  have hbw4 : Below w1.heap.size w1 w4 := hbw3.trans (hb4.mono hz3)
  have hz4 := hbw4.size
  have O4 := Lib.hid o4
  clear o4
  refine hK _ _ (hbw4) ?_
  clear hK K
  refine wpPlan_do (by rfl) (by rfl) (fun K hK => ?_)
  go_simp
  have SC := rsame_any v4 (.slice A s.L.length ca) s.L s.L w4 O4.out.rd (OL.out.rd.keep hbw4)
  rw [decide_eq_true (rfl : s.L = s.L)] at SC
  refine SC.mono ?_
  rintro e w5 ⟨rfl, hb5⟩
  clear SC
  have hbw5 : Below w1.heap.size w1 w5 := hbw4.trans (hb5.mono hz4)
  have hz5 := hbw5.size
  refine hK _ _ (hbw5) ?_
  clear hK K
  iterate 8
    refine wpPlan_read (by rfl) (by rfl) (fun R hR => ?_)
    apply Exists.intro
    refine ⟨fun w' hS' => ?_, ?_⟩
    · have k0 := (hS'.cell (p := ⟨g2, 0, none⟩) hg2).trans C0.out
      have k1 := (hS'.cell (p := ⟨g2, 1, none⟩) hg2).trans C1.out
      have k2 := (hS'.cell (p := ⟨g2, 2, none⟩) hg2).trans C2.out
      go_simp
      exact ⟨rfl, rfl⟩
    go_simp
    refine hR _ ?_
    clear hR R
  refine wpPlan_do (by rfl) (by rfl) (fun K hK => ?_)
  go_simp
  refine (waits_any w5 (Dg.keep D1.out hbw5) (by omega)).mono ?_
  rintro e w6 ⟨v6, rfl, o6, hb6⟩
  have hbw6 : Below w1.heap.size w1 w6 := hbw5.trans (hb6.mono hz5)
  have hz6 := hbw6.size
  have O6 := Lib.hid o6
  clear o6
  refine hK _ _ (hbw6) ?_
  clear hK K
  refine wpPlan_do (by rfl) (by rfl) (fun K hK => ?_)
  go_simp
  have SC := rsame_any v6 (.slice B s.W.length cb) s.W s.W w6 O6.out.rd (OW.out.rd.keep hbw6)
  rw [decide_eq_true (rfl : s.W = s.W)] at SC
  refine SC.mono ?_
  rintro e w7 ⟨rfl, hb7⟩
  clear SC
  have hbw7 : Below w1.heap.size w1 w7 := hbw6.trans (hb7.mono hz6)
  have hz7 := hbw7.size
  refine hK _ _ (hbw7) ?_
  clear hK K
  iterate 2
    refine wpPlan_read (by rfl) (by rfl) (fun R hR => ?_)
    apply Exists.intro
    refine ⟨fun w' hS' => ?_, ?_⟩
    · have k0 := (hS'.cell (p := ⟨g2, 0, none⟩) hg2).trans C0.out
      have k1 := (hS'.cell (p := ⟨g2, 1, none⟩) hg2).trans C1.out
      have k2 := (hS'.cell (p := ⟨g2, 2, none⟩) hg2).trans C2.out
      go_simp
      exact ⟨rfl, rfl⟩
    go_simp
    refine hR _ ?_
    clear hR R
  refine wpPlan_nil ?_
  have k1 := (hbw7.cell (p := ⟨g2, 1, none⟩) hg2).trans C1.out
  have k2 := (hbw7.cell (p := ⟨g2, 2, none⟩) hg2).trans C2.out
  have k3 := (hbw7.cell (p := ⟨g2, 3, none⟩) hg2).trans C3.out
  have k4 := (hbw7.cell (p := ⟨g2, 4, none⟩) hg2).trans C4.out
  have hbw : Below w.heap.size w w7 := hb1.trans (hbw7.mono hz1)
  have ew0 := Lib.hid (IntWalk.i64_in ((s.L.length : Int) + (s.W.length : Int)) (by omega))
  by_cases hz : tot (s.L ++ s.W) = 0
  · obtain ⟨rfl, rfl, rfl⟩ := HE0.out hz
    have hnil := HN.out.1 hz
    have hl0 : s.L.length + s.W.length = 0 := by rw [← List.length_append, hnil]; rfl
    have hzb : ((s.L.length : Int) + (s.W.length : Int) == 0) = true := beq_iff_eq.2 (by omega)
    clear hz hnil hl0
    have ew := ew0.out
    go_wp2_with fail
    go_quiet (fail)
    clear ew
    go_wp2_with fail
    go_ret
    exact ⟨rfl, below_drewN hbw _⟩
  · obtain ⟨rfl, rfl, rfl⟩ := HE1.out (by omega)
    have hne : ¬ s.L.length + s.W.length = 0 := fun e => hz (HN.out.2 (List.eq_nil_of_length_eq_zero (by rw [List.length_append]; exact e)))
    have hzb : ((s.L.length : Int) + (s.W.length : Int) == 0) = false := beq_eq_false_iff_ne.2 (by omega)
    clear hz hne
    have ew := ew0.out
    go_wp2_with fail
    go_quiet (fail)
    clear ew
    go_wp2_with fail
    go_ret
    exact ⟨rfl, below_drewN hbw _⟩
end Go.Proofs.Ytedhpkfbobgkgaa
