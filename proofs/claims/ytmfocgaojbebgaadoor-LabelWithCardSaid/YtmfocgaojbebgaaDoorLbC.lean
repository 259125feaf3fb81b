/- Labels in memory; which lists are sets: of the program, of the reference. No condition but lengths that are ints. -/
import Derived.Test.YtmfocgaojbebgaaDoorLbB
import Derived.Test.YtmfocgaojbebgaaDoorPlan
namespace Go.Proofs.YtmfocgaojbebgaaDoor
open Go.RowKit

def lbE : Lie Lb where
  k := 2
  t := 50
  enc x := [.string (bsOf x.1), .string (bsOf x.2)]
  len _ := rfl
  one x u hu := by
    simp only [List.mem_cons, List.not_mem_nil, or_false] at hu
    rcases hu with rfl | rfl <;> rfl
theorem EForm.lb {w : World} {A : Option Addr} {l : List Lb} (h : EForm lbE w A l) {j : Nat} (hj : j < l.length) :
    ∃ g off, A = some ⟨g, off, none⟩ ∧ g < w.heap.size ∧ w.cell? ⟨g, off + j * 2, none⟩ = some (.string (bsOf l[j].1)) ∧ w.cell? ⟨g, off + j * 2 + 1, none⟩ = some (.string (bsOf l[j].2)) := by
  obtain ⟨g, off, hA, hg, hc⟩ := h (by omega)
  exact ⟨g, off, hA, hg, hc j hj 0 (by decide), hc j hj 1 (by decide)⟩
/-- Two neighbours' names. -/
theorem EForm.lb2 {w : World} {A : Option Addr} {l : List Lb} (h : EForm lbE w A l) {m : Nat} (hj : m + 1 < l.length) :
    ∃ g off, A = some ⟨g, off, none⟩ ∧ g < w.heap.size ∧ w.cell? ⟨g, off + m * 2, none⟩ = some (.string (bsOf l[m].1)) ∧ w.cell? ⟨g, off + (m + 1) * 2, none⟩ = some (.string (bsOf l[m + 1].1)) ∧ w.cell? ⟨g, off + (m + 1) * 2 + 1, none⟩ = some (.string (bsOf l[m + 1].2)) := by
  obtain ⟨g, off, hA, hg, hc⟩ := h (by omega)
  exact ⟨g, off, hA, hg, hc m (by omega) 0 (by decide), hc (m + 1) hj 0 (by decide), hc (m + 1) hj 1 (by decide)⟩

theorem isName_t (l : Tx) (w : World) : Calls Tryd.prog 49 #[.string (bsOf l)] w fun e w' => e = .returned (.bool (nameB l)) ∧ w = w' := by
  have := isName_any (bsOf l) w
  rwa [bsOf_data] at this
theorem isValue_t (l : Tx) (w : World) : Calls Tryd.prog 50 #[.string (bsOf l)] w fun e w' => e = .returned (.bool (valueB l)) ∧ w = w' := by
  have := isValue_any (bsOf l) w
  rwa [bsOf_data] at this
theorem rname_t (l : Tx) (w : World) (hl : l.length ≤ 9223372036854775807) : Calls Tryd.prog 36 #[.string (bsOf l)] w fun e w' => e = .returned (.bool (nameB l)) ∧ w = w' := by
  have := rname_any (bsOf l) w (by rw [bsOf_size]; exact hl)
  rwa [bsOf_data] at this
theorem rvalue_t (l : Tx) (w : World) (hl : l.length ≤ 9223372036854775807) : Calls Tryd.prog 37 #[.string (bsOf l)] w fun e w' => e = .returned (.bool (valueB l)) ∧ w = w' := by
  have := rvalue_any (bsOf l) w (by rw [bsOf_size]; exact hl)
  rwa [bsOf_data] at this

set_option maxHeartbeats 400000 in
theorem right_any (x : Lb) (w : World) : Calls Tryd.prog 34 #[.agg #[.string (bsOf x.1), .string (bsOf x.2)]] w fun e w' => e = .returned (.bool (labB x)) ∧ Below w.heap.size w w' := by
  have ht := bsOf_toList x.2
  by_cases h1 : nameB x.1 = true
  · by_cases h2 : valueB x.2 = true
    · have HB : Hid (labB x = !x.2.isEmpty) := Lib.hid (by unfold labB; rw [h1, h2]; rfl)
      have hE : (x.2 == []) = x.2.isEmpty := by cases x.2 <;> rfl
      go_enter Tryd.func34, Tryd.ntmps34
      go_wp2_with fail
      refine (isName_t x.1 _).mono ?_
      rintro e w1 ⟨rfl, rfl⟩
      go_wp2_with fail
      refine (isValue_t x.2 _).mono ?_
      rintro e w1 ⟨rfl, rfl⟩
      go_wp2_with fail
      go_ret
      exact ⟨(ret_bool HB.out).symm, by (repeat' (first | (with_reducible exact Below.refl _ _) | (with_reducible refine Below.alloc ?_ ?_ _) | (with_reducible refine Below.drew ?_) | (with_reducible refine below_drewN ?_ _) | (with_reducible refine Below.setCell ?_ ?_ _) | (with_reducible refine below_of (by assumption) ?_ ?_) | go_size))⟩
    · have h2' : valueB x.2 = false := by simpa using h2
      have HB : Hid (labB x = false) := Lib.hid (by unfold labB; rw [h2']; simp)
      clear h2
      go_enter Tryd.func34, Tryd.ntmps34
      go_wp2_with fail
      refine (isName_t x.1 _).mono ?_
      rintro e w1 ⟨rfl, rfl⟩
      go_wp2_with fail
      refine (isValue_t x.2 _).mono ?_
      rintro e w1 ⟨rfl, rfl⟩
      go_wp2_with fail
      go_ret
      exact ⟨(ret_bool HB.out).symm, by (repeat' (first | (with_reducible exact Below.refl _ _) | (with_reducible refine Below.alloc ?_ ?_ _) | (with_reducible refine Below.drew ?_) | (with_reducible refine below_drewN ?_ _) | (with_reducible refine Below.setCell ?_ ?_ _) | (with_reducible refine below_of (by assumption) ?_ ?_) | go_size))⟩
  · have h1' : nameB x.1 = false := by simpa using h1
    have HB : Hid (labB x = false) := Lib.hid (by unfold labB; rw [h1']; rfl)
    clear h1
    go_enter Tryd.func34, Tryd.ntmps34
    go_wp2_with fail
    refine (isName_t x.1 _).mono ?_
    rintro e w1 ⟨rfl, rfl⟩
    go_wp2_with fail
    go_ret
    exact ⟨(ret_bool HB.out).symm, by (repeat' (first | (with_reducible exact Below.refl _ _) | (with_reducible refine Below.alloc ?_ ?_ _) | (with_reducible refine Below.drew ?_) | (with_reducible refine below_drewN ?_ _) | (with_reducible refine Below.setCell ?_ ?_ _) | (with_reducible refine below_of (by assumption) ?_ ?_) | go_size))⟩

/-- What a label at place k owes to the set. -/
def StepOk (l : List Lb) (k : Nat) (h : k < l.length) : Prop := labB l[k] = true ∧ ∀ h0 : 0 < k, lessT (l[k - 1]'(by omega)).1 l[k].1 = true
theorem right_bad {l : List Lb} {k : Nat} (h : k < l.length) (hb : ¬ StepOk l k h) : rightL l = false := by
  rw [← Bool.not_eq_true]
  unfold rightL
  simp only [Bool.and_eq_true, List.all_eq_true, decide_eq_true_eq]
  rintro ⟨⟨h1, h2⟩, _⟩
  refine hb ⟨h1 _ (List.getElem_mem h), fun h0 => ?_⟩
  exact rise_lt h2 (k - 1) k (by omega) h
theorem right_is {l : List Lb} (ha : ∀ k (h : k < l.length), StepOk l k h) : rightL l = decide (l.length ≤ 8) := by
  have h1 : l.all labB = true := by
    rw [List.all_eq_true]
    intro x hx
    obtain ⟨k, hk, rfl⟩ := List.getElem_of_mem hx
    exact (ha k hk).1
  have h2 : riseB l = true := (riseB_iff l).2 fun i hi => (ha (i + 1) hi).2 (by omega)
  unfold rightL
  rw [h1, h2]; rfl

set_option maxRecDepth 100000 in
set_option maxHeartbeats 4000000 in
theorem Right_any (v : Value) (l : List Lb) (w : World) (h : RdE lbE w v l) : Calls Tryd.prog 13 #[v] w fun e w' => e = .returned (.bool (rightL l)) ∧ Below w.heap.size w w' := by
  obtain ⟨A, c, rfl, hn, hc, hp⟩ := h.form
  have HP := Lib.hid hp
  clear hp h
  go_enter Tryd.func13, Tryd.ntmps13
  go_wp2_with fail
  go_loopg [7] l.length (fun q i wr => ∃ j : Nat, q = l.length - j ∧ j ≤ l.length ∧ i = .int .i64 j ∧ Hid (∀ k (h : k < l.length), k < j → StepOk l k h) ∧ Below w.heap.size w wr)
  case atStart => exact ⟨0, rfl, by omega, rfl, Lib.hid (fun k _ h => absurd h (by omega)), by (repeat' (first | (with_reducible exact Below.refl _ _) | (with_reducible refine Below.alloc ?_ ?_ _) | (with_reducible refine Below.drew ?_) | (with_reducible refine below_drewN ?_ _) | (with_reducible refine Below.setCell ?_ ?_ _) | (with_reducible refine below_of (by assumption) ?_ ?_) | go_size))⟩
  case round =>
    obtain ⟨j, hk, hj, rfl, HS, hb⟩ := hrel
    have HK := Lib.hid hk
    have hz := hb.size
    clear hk
    by_cases hlt : j < l.length
    · cases j with
      | zero =>
        obtain ⟨g, off, rfl, hg, c0, c1⟩ := (HP.out.keep hb).lb hlt
        simp only [Nat.zero_mul, Nat.add_zero] at c0 c1
        obtain ⟨x, hx⟩ : ∃ x, l[0] = x := ⟨_, rfl⟩
        rw [hx] at c0 c1
        have HX := Lib.hid hx
        clear hx
        go_wp2_with fail
        have b0 : (wr.alloc (.cells #[.string (bsOf x.1), .string (bsOf x.2)] 50)).cell? ⟨wr.heap.size, 0, none⟩ = some (.string (bsOf x.1)) := (World.cell?_alloc_new ..).trans rfl
        have b1 : (wr.alloc (.cells #[.string (bsOf x.1), .string (bsOf x.2)] 50)).cell? ⟨wr.heap.size, 1, none⟩ = some (.string (bsOf x.2)) := (World.cell?_alloc_new ..).trans rfl
        have bu : Below w.heap.size w (wr.alloc (.cells #[.string (bsOf x.1), .string (bsOf x.2)] 50)) := hb.alloc hz _
        have hsu : wr.heap.size < (wr.alloc (.cells #[.string (bsOf x.1), .string (bsOf x.2)] 50)).heap.size := by simp
        clear c0 c1
        generalize wr.alloc (.cells #[.string (bsOf x.1), .string (bsOf x.2)] 50) = u at *
        have B0 := Lib.hid b0
        have B1 := Lib.hid b1
        clear b0 b1
        by_cases hl : labB x = true
        · skip
          refine wp_region_plan (fun w' => Below u.heap.size u w') [(0, true), (1, false), (2, true), (3, true), (4, true), (5, true), (6, true), (7, true), (8, true), (9, true), (10, true), (11, true), (12, true), (13, true), (14, true), (15, true), (16, true), (17, true)] (by kernel_rfl) (by kernel_rfl) ((Below.refl _ _).drew) ?_
          iterate 1
            refine wpPlan_read (by rfl) (by rfl) (fun R hR => ?_)
            apply Exists.intro
            refine ⟨fun w' hS' => ?_, ?_⟩
            · have k0 := (hS'.cell (p := ⟨wr.heap.size, 0, none⟩) hsu).trans B0.out
              have k1 := (hS'.cell (p := ⟨wr.heap.size, 1, none⟩) hsu).trans B1.out
              go_simp
              exact ⟨rfl, rfl⟩
            go_simp
            refine hR _ ?_
            clear hR R
          refine wpPlan_do (by rfl) (by rfl) (fun K hK => ?_)
          go_simp
          refine (right_any x _).mono ?_
          rintro e w2 ⟨rfl, hb2⟩
          have hbw2 : Below u.heap.size u w2 := (Below.refl _ _).drew.trans hb2
          refine hK _ _ (hbw2) ?_
          clear hK K
          iterate 5
            refine wpPlan_read (by rfl) (by rfl) (fun R hR => ?_)
            apply Exists.intro
            refine ⟨fun w' hS' => ?_, ?_⟩
            · have k0 := (hS'.cell (p := ⟨wr.heap.size, 0, none⟩) hsu).trans B0.out
              have k1 := (hS'.cell (p := ⟨wr.heap.size, 1, none⟩) hsu).trans B1.out
              go_simp
              exact ⟨rfl, rfl⟩
            go_simp
            refine hR _ ?_
            clear hR R
          refine wpPlan_skip (by rfl) (by rfl) ?_
          try go_simp
          refine wpPlan_skip (by rfl) (by rfl) ?_
          try go_simp
          refine wpPlan_skip (by rfl) (by rfl) ?_
          try go_simp
          refine wpPlan_skip (by rfl) (by rfl) ?_
          try go_simp
          refine wpPlan_skip (by rfl) (by rfl) ?_
          try go_simp
          refine wpPlan_skip (by rfl) (by rfl) ?_
          try go_simp
          refine wpPlan_skip (by rfl) (by rfl) ?_
          try go_simp
          refine wpPlan_skip (by rfl) (by rfl) ?_
          try go_simp
          refine wpPlan_skip (by rfl) (by rfl) ?_
          try go_simp
          iterate 2
            refine wpPlan_read (by rfl) (by rfl) (fun R hR => ?_)
            apply Exists.intro
            refine ⟨fun w' hS' => ?_, ?_⟩
            · have k0 := (hS'.cell (p := ⟨wr.heap.size, 0, none⟩) hsu).trans B0.out
              have k1 := (hS'.cell (p := ⟨wr.heap.size, 1, none⟩) hsu).trans B1.out
              go_simp
              exact ⟨rfl, rfl⟩
            go_simp
            refine hR _ ?_
            clear hR R
          refine wpPlan_nil ?_
          have HN : Hid (∀ k (h : k < l.length), k < 0 + 1 → StepOk l k h) := Lib.hid (fun k h hk => by
            obtain rfl : k = 0 := by omega
            exact ⟨by rw [HX.out]; exact hl, fun h0 => absurd h0 (by omega)⟩)
          have hb5 : Below w.heap.size w w2 := bu.trans (hbw2.mono (by omega))
          clear hl
          go_wp2_with fail
          go_roundg (l.length - (0 + 1))
          case measure => have := HK.out; omega
          case rel => exact ⟨0 + 1, rfl, by omega, by go_num, HN, hb5⟩
        · have HB := Lib.hid (right_bad hlt (fun h => hl (by rw [← HX.out]; exact h.1)))
          have hl' : labB x = false := by simpa using hl
          clear hl
          refine wp_region_plan (fun w' => Below u.heap.size u w') [(0, true), (1, false), (2, true), (3, true), (4, true), (5, true), (6, true), (7, true), (8, true), (9, true), (10, true), (11, true), (12, true), (13, true), (14, true), (15, true), (16, true), (17, true)] (by kernel_rfl) (by kernel_rfl) ((Below.refl _ _).drew) ?_
          iterate 1
            refine wpPlan_read (by rfl) (by rfl) (fun R hR => ?_)
            apply Exists.intro
            refine ⟨fun w' hS' => ?_, ?_⟩
            · have k0 := (hS'.cell (p := ⟨wr.heap.size, 0, none⟩) hsu).trans B0.out
              have k1 := (hS'.cell (p := ⟨wr.heap.size, 1, none⟩) hsu).trans B1.out
              go_simp
              exact ⟨rfl, rfl⟩
            go_simp
            refine hR _ ?_
            clear hR R
          refine wpPlan_do (by rfl) (by rfl) (fun K hK => ?_)
          go_simp
          refine (right_any x _).mono ?_
          rintro e w2 ⟨rfl, hb2⟩
          have hbw2 : Below u.heap.size u w2 := (Below.refl _ _).drew.trans hb2
          refine hK _ _ (hbw2) ?_
          clear hK K
          iterate 2
            refine wpPlan_read (by rfl) (by rfl) (fun R hR => ?_)
            apply Exists.intro
            refine ⟨fun w' hS' => ?_, ?_⟩
            · have k0 := (hS'.cell (p := ⟨wr.heap.size, 0, none⟩) hsu).trans B0.out
              have k1 := (hS'.cell (p := ⟨wr.heap.size, 1, none⟩) hsu).trans B1.out
              go_simp
              exact ⟨rfl, rfl⟩
            go_simp
            refine hR _ ?_
            clear hR R
          refine wpPlan_skip (by rfl) (by rfl) ?_
          try go_simp
          refine wpPlan_skip (by rfl) (by rfl) ?_
          try go_simp
          refine wpPlan_skip (by rfl) (by rfl) ?_
          try go_simp
          refine wpPlan_skip (by rfl) (by rfl) ?_
          try go_simp
          refine wpPlan_skip (by rfl) (by rfl) ?_
          try go_simp
          refine wpPlan_skip (by rfl) (by rfl) ?_
          try go_simp
          refine wpPlan_skip (by rfl) (by rfl) ?_
          try go_simp
          refine wpPlan_skip (by rfl) (by rfl) ?_
          try go_simp
          refine wpPlan_skip (by rfl) (by rfl) ?_
          try go_simp
          refine wpPlan_skip (by rfl) (by rfl) ?_
          try go_simp
          refine wpPlan_skip (by rfl) (by rfl) ?_
          try go_simp
          refine wpPlan_skip (by rfl) (by rfl) ?_
          try go_simp
          refine wpPlan_skip (by rfl) (by rfl) ?_
          try go_simp
          iterate 1
            refine wpPlan_read (by rfl) (by rfl) (fun R hR => ?_)
            apply Exists.intro
            refine ⟨fun w' hS' => ?_, ?_⟩
            · have k0 := (hS'.cell (p := ⟨wr.heap.size, 0, none⟩) hsu).trans B0.out
              have k1 := (hS'.cell (p := ⟨wr.heap.size, 1, none⟩) hsu).trans B1.out
              go_simp
              exact ⟨rfl, rfl⟩
            go_simp
            refine hR _ ?_
            clear hR R
          refine wpPlan_nil ?_
          have hb5 : Below w.heap.size w w2 := bu.trans (hbw2.mono (by omega))
          go_wp2_with fail
          go_ret
          exact ⟨(ret_bool HB.out).symm, hb5⟩
      | succ m =>
        obtain ⟨g, off, rfl, hg, c9, c0, c1⟩ := (HP.out.keep hb).lb2 hlt
        obtain ⟨x, hx⟩ : ∃ x, l[m + 1] = x := ⟨_, rfl⟩
        obtain ⟨y, hy⟩ : ∃ y, l[m] = y := ⟨_, rfl⟩
        rw [hx] at c0 c1
        rw [hy] at c9
        have HX := Lib.hid hx
        have HY := Lib.hid hy
        clear hx hy
        go_wp2_with fail
        have b0 : (wr.alloc (.cells #[.string (bsOf x.1), .string (bsOf x.2)] 50)).cell? ⟨wr.heap.size, 0, none⟩ = some (.string (bsOf x.1)) := (World.cell?_alloc_new ..).trans rfl
        have b1 : (wr.alloc (.cells #[.string (bsOf x.1), .string (bsOf x.2)] 50)).cell? ⟨wr.heap.size, 1, none⟩ = some (.string (bsOf x.2)) := (World.cell?_alloc_new ..).trans rfl
        have bw : Below wr.heap.size wr (wr.alloc (.cells #[.string (bsOf x.1), .string (bsOf x.2)] 50)) := (Below.refl _ _).alloc (Nat.le_refl _) _
        have bu : Below w.heap.size w (wr.alloc (.cells #[.string (bsOf x.1), .string (bsOf x.2)] 50)) := hb.alloc hz _
        have hsu : wr.heap.size < (wr.alloc (.cells #[.string (bsOf x.1), .string (bsOf x.2)] 50)).heap.size := by simp
        have b9 := (bw.cell (p := ⟨g, off + m * 2, none⟩) hg).trans c9
        clear c0 c1 c9 bw
        generalize wr.alloc (.cells #[.string (bsOf x.1), .string (bsOf x.2)] 50) = u at *
        have B0 := Lib.hid b0
        have B1 := Lib.hid b1
        have B9 := Lib.hid b9
        have hgu : g < u.heap.size := by omega
        have hm : m < l.length := by omega
        have EW := Lib.hid (IntWalk.i64_in (m : Int) (by omega))
        clear b0 b1 b9
        by_cases hl : labB x = true
        · by_cases hle : lessT y.1 x.1 = true
          · have hcmp : Op.bytesLess (bsOf y.1).toList (bsOf x.1).toList = true := by rw [bsOf_toList, bsOf_toList]; exact hle
            refine wp_region_plan (fun w' => Below u.heap.size u w') [(0, true), (1, false), (2, true), (3, true), (4, true), (5, true), (6, true), (7, true), (8, true), (9, true), (10, true), (11, true), (12, true), (13, true), (14, true), (15, true), (16, true), (17, true)] (by kernel_rfl) (by kernel_rfl) ((Below.refl _ _).drew) ?_
            iterate 1
              refine wpPlan_read (by rfl) (by rfl) (fun R hR => ?_)
              apply Exists.intro
              refine ⟨fun w' hS' => ?_, ?_⟩
              · have k0 := (hS'.cell (p := ⟨wr.heap.size, 0, none⟩) hsu).trans B0.out
                have k1 := (hS'.cell (p := ⟨wr.heap.size, 1, none⟩) hsu).trans B1.out
                have k9 := (hS'.cell (p := ⟨g, off + m * 2, none⟩) hgu).trans B9.out
                have ew := EW.out
                go_simp
                exact ⟨rfl, rfl⟩
              go_simp
              refine hR _ ?_
              clear hR R
            refine wpPlan_do (by rfl) (by rfl) (fun K hK => ?_)
            go_simp
            refine (right_any x _).mono ?_
            rintro e w2 ⟨rfl, hb2⟩
            have hbw2 : Below u.heap.size u w2 := (Below.refl _ _).drew.trans hb2
            refine hK _ _ (hbw2) ?_
            clear hK K
            iterate 16
              refine wpPlan_read (by rfl) (by rfl) (fun R hR => ?_)
              apply Exists.intro
              refine ⟨fun w' hS' => ?_, ?_⟩
              · have k0 := (hS'.cell (p := ⟨wr.heap.size, 0, none⟩) hsu).trans B0.out
                have k1 := (hS'.cell (p := ⟨wr.heap.size, 1, none⟩) hsu).trans B1.out
                have k9 := (hS'.cell (p := ⟨g, off + m * 2, none⟩) hgu).trans B9.out
                have ew := EW.out
                go_simp
                exact ⟨rfl, rfl⟩
              go_simp
              refine hR _ ?_
              clear hR R
            refine wpPlan_nil ?_
            have HN : Hid (∀ k (h : k < l.length), k < m + 1 + 1 → StepOk l k h) := Lib.hid (fun k h hk => by
              rcases Nat.lt_or_ge k (m + 1) with h5 | h5
              · exact HS.out k h h5
              · obtain rfl : k = m + 1 := by omega
                exact ⟨by rw [HX.out]; exact hl, fun h0 => by
                  have : l[m + 1 - 1] = y := HY.out
                  rw [this, HX.out]; exact hle⟩)
            have hb5 : Below w.heap.size w w2 := bu.trans (hbw2.mono (by omega))
            clear hl hle hcmp
            go_wp2_with fail
            go_roundg (l.length - (m + 1 + 1))
            case measure => have := HK.out; omega
            case rel => exact ⟨m + 1 + 1, rfl, by omega, by go_num, HN, hb5⟩
          · have HB := Lib.hid (right_bad hlt (fun h => hle (by
              have h1 := h.2 (by omega)
              have h2 : l[m + 1 - 1] = y := HY.out
              rw [h2, HX.out] at h1; exact h1)))
            have hcmp : Op.bytesLess (bsOf y.1).toList (bsOf x.1).toList = false := by rw [bsOf_toList, bsOf_toList]; simpa [lessT] using hle
            clear hle
            refine wp_region_plan (fun w' => Below u.heap.size u w') [(0, true), (1, false), (2, true), (3, true), (4, true), (5, true), (6, true), (7, true), (8, true), (9, true), (10, true), (11, true), (12, true), (13, true), (14, true), (15, true), (16, true), (17, true)] (by kernel_rfl) (by kernel_rfl) ((Below.refl _ _).drew) ?_
            iterate 1
              refine wpPlan_read (by rfl) (by rfl) (fun R hR => ?_)
              apply Exists.intro
              refine ⟨fun w' hS' => ?_, ?_⟩
              · have k0 := (hS'.cell (p := ⟨wr.heap.size, 0, none⟩) hsu).trans B0.out
                have k1 := (hS'.cell (p := ⟨wr.heap.size, 1, none⟩) hsu).trans B1.out
                have k9 := (hS'.cell (p := ⟨g, off + m * 2, none⟩) hgu).trans B9.out
                have ew := EW.out
                go_simp
                exact ⟨rfl, rfl⟩
              go_simp
              refine hR _ ?_
              clear hR R
            refine wpPlan_do (by rfl) (by rfl) (fun K hK => ?_)
            go_simp
            refine (right_any x _).mono ?_
            rintro e w2 ⟨rfl, hb2⟩
            have hbw2 : Below u.heap.size u w2 := (Below.refl _ _).drew.trans hb2
            refine hK _ _ (hbw2) ?_
            clear hK K
            iterate 16
              refine wpPlan_read (by rfl) (by rfl) (fun R hR => ?_)
              apply Exists.intro
              refine ⟨fun w' hS' => ?_, ?_⟩
              · have k0 := (hS'.cell (p := ⟨wr.heap.size, 0, none⟩) hsu).trans B0.out
                have k1 := (hS'.cell (p := ⟨wr.heap.size, 1, none⟩) hsu).trans B1.out
                have k9 := (hS'.cell (p := ⟨g, off + m * 2, none⟩) hgu).trans B9.out
                have ew := EW.out
                go_simp
                exact ⟨rfl, rfl⟩
              go_simp
              refine hR _ ?_
              clear hR R
            refine wpPlan_nil ?_
            have hb5 : Below w.heap.size w w2 := bu.trans (hbw2.mono (by omega))
            go_wp2_with fail
            go_ret
            exact ⟨(ret_bool HB.out).symm, hb5⟩
        · have HB := Lib.hid (right_bad hlt (fun h => hl (by rw [← HX.out]; exact h.1)))
          have hl' : labB x = false := by simpa using hl
          clear hl
          refine wp_region_plan (fun w' => Below u.heap.size u w') [(0, true), (1, false), (2, true), (3, true), (4, true), (5, true), (6, true), (7, true), (8, true), (9, true), (10, true), (11, true), (12, true), (13, true), (14, true), (15, true), (16, true), (17, true)] (by kernel_rfl) (by kernel_rfl) ((Below.refl _ _).drew) ?_
          iterate 1
            refine wpPlan_read (by rfl) (by rfl) (fun R hR => ?_)
            apply Exists.intro
            refine ⟨fun w' hS' => ?_, ?_⟩
            · have k0 := (hS'.cell (p := ⟨wr.heap.size, 0, none⟩) hsu).trans B0.out
              have k1 := (hS'.cell (p := ⟨wr.heap.size, 1, none⟩) hsu).trans B1.out
              go_simp
              exact ⟨rfl, rfl⟩
            go_simp
            refine hR _ ?_
            clear hR R
          refine wpPlan_do (by rfl) (by rfl) (fun K hK => ?_)
          go_simp
          refine (right_any x _).mono ?_
          rintro e w2 ⟨rfl, hb2⟩
          have hbw2 : Below u.heap.size u w2 := (Below.refl _ _).drew.trans hb2
          refine hK _ _ (hbw2) ?_
          clear hK K
          iterate 2
            refine wpPlan_read (by rfl) (by rfl) (fun R hR => ?_)
            apply Exists.intro
            refine ⟨fun w' hS' => ?_, ?_⟩
            · have k0 := (hS'.cell (p := ⟨wr.heap.size, 0, none⟩) hsu).trans B0.out
              have k1 := (hS'.cell (p := ⟨wr.heap.size, 1, none⟩) hsu).trans B1.out
              go_simp
              exact ⟨rfl, rfl⟩
            go_simp
            refine hR _ ?_
            clear hR R
          refine wpPlan_skip (by rfl) (by rfl) ?_
          try go_simp
          refine wpPlan_skip (by rfl) (by rfl) ?_
          try go_simp
          refine wpPlan_skip (by rfl) (by rfl) ?_
          try go_simp
          refine wpPlan_skip (by rfl) (by rfl) ?_
          try go_simp
          refine wpPlan_skip (by rfl) (by rfl) ?_
          try go_simp
          refine wpPlan_skip (by rfl) (by rfl) ?_
          try go_simp
          refine wpPlan_skip (by rfl) (by rfl) ?_
          try go_simp
          refine wpPlan_skip (by rfl) (by rfl) ?_
          try go_simp
          refine wpPlan_skip (by rfl) (by rfl) ?_
          try go_simp
          refine wpPlan_skip (by rfl) (by rfl) ?_
          try go_simp
          refine wpPlan_skip (by rfl) (by rfl) ?_
          try go_simp
          refine wpPlan_skip (by rfl) (by rfl) ?_
          try go_simp
          refine wpPlan_skip (by rfl) (by rfl) ?_
          try go_simp
          iterate 1
            refine wpPlan_read (by rfl) (by rfl) (fun R hR => ?_)
            apply Exists.intro
            refine ⟨fun w' hS' => ?_, ?_⟩
            · have k0 := (hS'.cell (p := ⟨wr.heap.size, 0, none⟩) hsu).trans B0.out
              have k1 := (hS'.cell (p := ⟨wr.heap.size, 1, none⟩) hsu).trans B1.out
              go_simp
              exact ⟨rfl, rfl⟩
            go_simp
            refine hR _ ?_
            clear hR R
          refine wpPlan_nil ?_
          have hb5 : Below w.heap.size w w2 := bu.trans (hbw2.mono (by omega))
          go_wp2_with fail
          go_ret
          exact ⟨(ret_bool HB.out).symm, hb5⟩
    · have HB : Hid (rightL l = decide ((l.length : Int) ≤ 8)) := Lib.hid (by
        rw [right_is (fun k h => HS.out k h (by omega))]
        exact decide_eq_decide.2 (by omega))
      go_wp2_with fail
      go_ret
      exact ⟨(ret_bool HB.out).symm, hb⟩
end Go.Proofs.YtmfocgaojbebgaaDoor
