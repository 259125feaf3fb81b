/- TdwireReads' walk; Weight. -/
import Derived.Test.YtedhpkfbobgkgaaTeC
import Derived.Test.YtedhpkfbobgkgaaRight
import Derived.Test.YtedhpkfbobgkgaaTW
namespace Go.Proofs.Ytedhpkfbobgkgaa
open Go.RowKit Go.Lib

theorem rdD_raw {bs : List Int} {y : Rd5 × List Int} (hb : byL bs) (h : rdD bs = some y) : rawL (y.1.L ++ y.1.W) ∧ y.1.L.length ≤ 65536 ∧ y.1.W.length ≤ 65536 ∧ (-9223372036854775808 ≤ y.1.lo ∧ y.1.lo ≤ 9223372036854775807) ∧ (-9223372036854775808 ≤ y.1.hi ∧ y.1.hi ≤ 9223372036854775807) := by
  unfold rdD at h
  cases h1 : unleb bs with
  | none => rw [h1] at h; cases h
  | some a =>
    rw [h1] at h
    simp only at h
    have b1 := unleb_by hb h1
    cases h2 : unleb a.2 with
    | none => rw [h2] at h; cases h
    | some b =>
      rw [h2] at h
      simp only at h
      have b2 := unleb_by b1 h2
      have z2 := unleb_bd b1 h2
      cases h3 : unleb b.2 with
      | none => rw [h3] at h; cases h
      | some c =>
        rw [h3] at h
        simp only at h
        have b3 := unleb_by b2 h3
        have z3 := unleb_bd b2 h3
        cases h4 : rdList c.2 with
        | none => rw [h4] at h; cases h
        | some x =>
          rw [h4] at h
          simp only at h
          have r4 := rdList_raw b3 h4
          cases h5 : rdWait x.2 with
          | none => rw [h5] at h; cases h
          | some u =>
            rw [h5] at h
            simp only [Option.some.injEq] at h
            have r5 := rdWait_raw r4.2.2 h5
            subst h
            exact ⟨fun m hm => (List.mem_append.1 hm).elim (r4.1 m) (r5.1 m), r4.2.1, r5.2.1, uns_bd z2.1 z2.2, uns_bd z3.1 z3.2⟩
theorem readT_raw {bs : List Int} {x : Rd5} (hb : byL bs) (h : readT bs = some x) : rawL (x.L ++ x.W) ∧ x.L.length ≤ 65536 ∧ x.W.length ≤ 65536 ∧ (-9223372036854775808 ≤ x.lo ∧ x.lo ≤ 9223372036854775807) ∧ (-9223372036854775808 ≤ x.hi ∧ x.hi ≤ 9223372036854775807) := by
  unfold readT at h
  split at h
  · rename_i y hy
    split at h
    · simp only [Option.some.injEq] at h
      subst h
      exact rdD_raw hb hy
    · cases h
  · cases h
/-- What is read fits. -/
theorem readT_fit {bs : List Int} {x : Rd5} (hb : byL bs) (h : readT bs = some x) : Fit x.d ⟨x.L, x.W, x.lo, x.hi⟩ 131072 ∧ rawL (x.L ++ x.W) ∧ x.L.length ≤ 65536 ∧ x.W.length ≤ 65536 ∧ rightI x.d x.lo x.hi x.L x.W = true ∧ wrD x.d x.L x.W x.lo x.hi = bs := by
  obtain ⟨hr, l1, l2, hlo, hhi⟩ := readT_raw hb h
  obtain ⟨hR, hw⟩ := readT_ok h
  obtain ⟨ok, ht, d0, d1⟩ := right_ok hR hr hlo.1 hlo.2 hhi.1 hhi.2
  exact ⟨⟨ok.more (by omega), by omega, ht, d0, d1⟩, hr, l1, l2, hR, hw⟩

/-- What Weight tells. -/
def WeightP (bs : List Int) (w : World) (e : Ending) (w' : World) : Prop :=
  match readT bs with
  | some x => e = .returned (.tuple #[.int .u64 (tot (x.L ++ x.W)), .int .i64 0]) ∧ Below w.heap.size w w'
  | none => e = .returned (.tuple #[.int .u64 0, .int .i64 9]) ∧ Below w.heap.size w w'

set_option maxHeartbeats 2000000 in
theorem weight_any (v : Value) (bs : List Int) (w : World) (h : RdI .u8 w v bs) (hb : byL bs) (hlen : bs.length ≤ 1000000000) :
    Calls Try.prog 47 #[v] w (WeightP bs w) := by
  have HR := Lib.hid h
  have HB := Lib.hid hb
  clear h hb
  unfold WeightP
  cases hT : readT bs with
  | none =>
    have HT := Lib.hid hT
    clear hT
    simp only
    go_enter Try.func47, Try.ntmps47
    go_wp2_with fail
    refine (read_any v bs w HR.out HB.out hlen).mono ?_
    intro e w1 hP
    unfold ReadP at hP
    rw [HT.out] at hP
    obtain ⟨rfl, hb1⟩ := hP
    go_wp2_with fail
    refine bodyPost_ret (by simp [results, Try.results47, go_sem, *]; try rfl) rfl ?_
    exact ⟨rfl, hb1⟩
  | some x =>
    have HT := Lib.hid hT
    clear hT
    simp only
    go_enter Try.func47, Try.ntmps47
    go_wp2_with fail
    refine (read_any v bs w HR.out HB.out hlen).mono ?_
    intro e w1 hP
    unfold ReadP at hP
    rw [HT.out] at hP
    obtain ⟨g, F, rfl, hd, hf, hb1⟩ := hP
    have C1 := Lib.hid (total_any w1 hd)
    clear hd hf
    go_wp2_with (go_at_call 22; refine (C1.out).mono ?_; rintro e w' ⟨rfl, rfl⟩)
    refine bodyPost_ret (by simp [results, Try.results47, go_sem, *]; try rfl) rfl ?_
    exact ⟨rfl, hb1⟩

set_option maxRecDepth 100000 in
set_option maxHeartbeats 8000000 in
theorem treads_any (v : Value) (bs : List Int) (w : World) (h : RdI .u8 w v bs) (hb : byL bs) :
    Calls Try.prog 13 #[v] w fun e w' => e = .returned (.bool true) ∧ Below w.heap.size w w' := by
  have HR := Lib.hid h
  have HB := Lib.hid hb
  obtain ⟨A, ca, rfl, na, ma, fa⟩ := HR.out.form
  clear h hb fa
  by_cases hbig : 3000 < bs.length
  · go_enter Try.func13, Try.ntmps13
    go_wp2_with fail
    refine (alive23_any w).mono ?_
    rintro e w1 ⟨rfl, hb1⟩
    go_wp2_with fail
    go_ret
    exact ⟨rfl, hb1⟩
  · have hlen : bs.length ≤ 1000000000 := by omega
    have hl3 : bs.length ≤ 3000 := by omega
    clear hbig
    cases hT : readT bs with
    | none =>
      have HT := Lib.hid hT
      clear hT
      go_enter Try.func13, Try.ntmps13
      go_wp2_with fail
      refine (alive23_any w).mono ?_
      rintro e w1 ⟨rfl, hb1⟩
      have hz1 := hb1.size
      go_wp2_with fail
      refine (read_any _ bs w1 (HR.out.keep hb1) HB.out hlen).mono ?_
      intro e w2 hP
      unfold ReadP at hP
      rw [HT.out] at hP
      obtain ⟨rfl, hb2⟩ := hP
      have hz2 := hb2.size
      have hb02 := hb1.trans (hb2.mono hz1)
      go_wp2_with fail
      refine (weight_any _ bs w2 (HR.out.keep hb02) HB.out hlen).mono ?_
      intro e w3 hP
      unfold WeightP at hP
      rw [HT.out] at hP
      obtain ⟨rfl, hb3⟩ := hP
      go_wp2_with fail
      go_ret
      exact ⟨rfl, hb02.trans (hb3.mono (by omega))⟩
    | some x =>
      have FX := Lib.hid (readT_fit HB.out hT)
      have HT := Lib.hid hT
      clear hT
      go_enter Try.func13, Try.ntmps13
      go_wp2_with fail
      refine (alive23_any w).mono ?_
      rintro e w1 ⟨rfl, hb1⟩
      have hz1 := hb1.size
      go_wp2_with fail
      refine (read_any _ bs w1 (HR.out.keep hb1) HB.out hlen).mono ?_
      intro e w2 hP
      unfold ReadP at hP
      rw [HT.out] at hP
      obtain ⟨g, F, rfl, hd, hf, hb2⟩ := hP
      have hz2 := hb2.size
      have hb02 := hb1.trans (hb2.mono hz1)
      have D2 := Lib.hid hd
      clear hd hf
      go_wp2_with fail
      refine (weight_any _ bs w2 (HR.out.keep hb02) HB.out hlen).mono ?_
      intro e w3 hP
      unfold WeightP at hP
      rw [HT.out] at hP
      obtain ⟨rfl, hb3⟩ := hP
      have hb03 := hb02.trans (hb3.mono (by omega))
      have hz3 := hb3.size
      have D3 := Lib.hid (Dg.keep D2.out hb3)
      go_wp2_with fail
      refine (ends_S (s := ⟨x.L, x.W, x.lo, x.hi⟩) w3 D3.out FX.out.1).mono ?_
      rintro e w4 ⟨rfl, hb4⟩
      have hb04 := hb03.trans (hb4.mono (by omega))
      have hz4 := hb4.size
      have D4 := Lib.hid (Dg.keep D3.out hb4)
      go_wp2_with fail
      refine (fineness_any w4 D4.out).mono ?_
      rintro e w' ⟨rfl, rfl⟩
      go_wp2_with fail
      refine (list_any w4 D4.out (by have := FX.out.2.2.1; omega)).mono ?_
      rintro e w5 ⟨v5, rfl, o5, hb5⟩
      have hb05 := hb04.trans (hb5.mono (by omega))
      have hz5 := hb5.size
      have O5 := Lib.hid o5
      have D5 := Lib.hid (Dg.keep D4.out hb5)
      obtain ⟨A5, c5, rfl, n5, m5, f5⟩ := o5.form
      clear o5 f5
      go_wp2_with fail
      refine (waits_any w5 D5.out (by have := FX.out.2.2.2.1; omega)).mono ?_
      rintro e w6 ⟨v6, rfl, o6, hb6⟩
      have hb06 := hb05.trans (hb6.mono (by omega))
      have hz6 := hb6.size
      have O6 := Lib.hid o6
      have D6 := Lib.hid (Dg.keep D5.out hb6)
      obtain ⟨A6, c6, rfl, n6, m6, f6⟩ := o6.form
      clear o6 f6
      go_upto_region 11 with fail
      obtain ⟨g2, hg2⟩ : ∃ g2, w6.heap.size = g2 := ⟨_, rfl⟩
      have B7 : Hid (Blk (w6.alloc (.cells #[.int .i64 x.d, .slice A5 x.L.length c5, .slice A6 x.W.length c6, .int .i64 x.lo, .int .i64 x.hi] 37)) g2 37 #[.int .i64 x.d, .slice A5 x.L.length c5, .slice A6 x.W.length c6, .int .i64 x.lo, .int .i64 x.hi]) := by
        show Blk _ _ _ _
        rw [← hg2]; exact Blk.new _ _ _
      have hb67 : Below w6.heap.size w6 (w6.alloc (.cells #[.int .i64 x.d, .slice A5 x.L.length c5, .slice A6 x.W.length c6, .int .i64 x.lo, .int .i64 x.hi] 37)) := (Below.refl _ _).alloc (Nat.le_refl _) _
      have hz7 : g2 < (w6.alloc (.cells #[.int .i64 x.d, .slice A5 x.L.length c5, .slice A6 x.W.length c6, .int .i64 x.lo, .int .i64 x.hi] 37)).heap.size := by rw [World.size_alloc]; omega
      rw [hg2]
      have hg2' : w6.heap.size ≤ g2 := by omega
      clear hg2
      have O57 := Lib.hid (((O5.out.keep hb6).keep (w' := (w6.alloc (.cells #[.int .i64 x.d, .slice A5 x.L.length c5, .slice A6 x.W.length c6, .int .i64 x.lo, .int .i64 x.hi] 37))) hb67).more (Nat.zero_le _))
      have O67 := Lib.hid ((O6.out.keep hb67).more (Nat.zero_le _))
      have R7 : Hid (RDgS (w6.alloc (.cells #[.int .i64 x.d, .slice A5 x.L.length c5, .slice A6 x.W.length c6, .int .i64 x.lo, .int .i64 x.hi] 37)) g2 (fun k => k = g2 ∨ (Value.slice A5 x.L.length c5).ownBlock = some k ∨ (Value.slice A6 x.W.length c6).ownBlock = some k) x.d ⟨x.L, x.W, x.lo, x.hi⟩) := by
        refine ⟨_, _, B7.out, O57.out, O67.out, .inl rfl, fun k e => .inr (.inl e), fun k e => .inr (.inr e), fun k e e2 => ?_, fun k hk => ?_⟩
        · have h8 := (O6.out.lt k e).1; have h9 := (O5.out.lt k e2).2; omega
        · rcases hk with rfl | hk | hk
          · exact hz7
          · exact (O57.out.lt k hk).2
          · exact (O67.out.lt k hk).2
      have hb07 := hb06.trans (hb67.mono (by omega))
      have hz07 := hb67.size
      have D7 := Lib.hid (Dg.keep D6.out hb67)
      clear O5 O6 D2 D3 D4 D5 D6 hb67 hb6 hb5 hb4 hb3 hb2
      generalize w6.alloc (.cells #[.int .i64 x.d, .slice A5 x.L.length c5, .slice A6 x.W.length c6, .int .i64 x.lo, .int .i64 x.hi] 37) = w7 at *
      have c0 := B7.out.cell 0
      have c1 := B7.out.cell 1
      have c2 := B7.out.cell 2
      simp only [List.getElem?_toArray, List.getElem?_cons_succ, List.getElem?_cons_zero] at c0 c1 c2
      have C0 := Lib.hid c0
      have C1 := Lib.hid c1
      have C2 := Lib.hid c2
      clear c0 c1 c2
      have HR7 := Lib.hid (HR.out.keep hb07)
      have hl1 := FX.out.2.2.1
      have hl2 := FX.out.2.2.2.1
      have RW := Lib.hid FX.out.2.1
      have HRI := Lib.hid FX.out.2.2.2.2.1
      have HWD := Lib.hid FX.out.2.2.2.2.2
      refine wp_region_plan (fun w' => Below w7.heap.size w7 w') [(0, true), (1, true), (2, true), (3, true), (4, true), (5, false), (6, true), (7, true), (8, true), (9, true), (10, true), (11, true), (12, true), (13, true), (14, true), (15, true), (16, true), (17, true), (18, true), (19, true), (20, true), (21, true), (22, true), (23, false), (24, true), (25, true), (26, true), (29, true), (30, true), (27, false), (28, false), (31, true), (32, true), (33, true)] (by kernel_rfl) (by kernel_rfl) ((Below.refl _ _).drew) ?_
      iterate 5
        refine wpPlan_read (by rfl) (by rfl) (fun R hR => ?_)
        apply Exists.intro
        refine ⟨fun w' hS' => ?_, ?_⟩
        · have k0 := (hS'.cell (p := ⟨g2, 0, none⟩) hz7).trans C0.out
          have k1 := (hS'.cell (p := ⟨g2, 1, none⟩) hz7).trans C1.out
          have k2 := (hS'.cell (p := ⟨g2, 2, none⟩) hz7).trans C2.out
          have ca := conv_B (HR7.out.keep hS')
          go_simp
          exact ⟨rfl, rfl⟩
        go_simp
        refine hR _ ?_
        clear hR R
      refine wpPlan_do (by rfl) (by rfl) (fun K hK => ?_)
      go_simp
      refine (total_any _ (Dg.keep D7.out (Below.refl _ _).drew)).mono ?_
      rintro e w' ⟨rfl, rfl⟩
      refine hK _ _ ((Below.refl _ _).drew) ?_
      clear hK K
      iterate 17
        refine wpPlan_read (by rfl) (by rfl) (fun R hR => ?_)
        apply Exists.intro
        refine ⟨fun w' hS' => ?_, ?_⟩
        · have k0 := (hS'.cell (p := ⟨g2, 0, none⟩) hz7).trans C0.out
          have k1 := (hS'.cell (p := ⟨g2, 1, none⟩) hz7).trans C1.out
          have k2 := (hS'.cell (p := ⟨g2, 2, none⟩) hz7).trans C2.out
          have ca := conv_B (HR7.out.keep hS')
          go_simp
          exact ⟨rfl, rfl⟩
        go_simp
        refine hR _ ?_
        clear hR R
      refine wpPlan_do (by rfl) (by rfl) (fun K hK => ?_)
      go_simp
      have SC := right_any x.d x.lo x.hi _ _ x.L x.W _ (O57.out.rd.keep (Below.refl _ _).drew) (O67.out.rd.keep (Below.refl _ _).drew) RW.out (by omega)
      rw [HRI.out] at SC
      refine SC.mono ?_
      rintro e w8 ⟨rfl, hb8⟩
      clear SC
      have hbw8 : Below w7.heap.size w7 w8 := (Below.refl _ _).drew.trans hb8
      have hz8 := hbw8.size
      refine hK _ _ (hbw8) ?_
      clear hK K
      iterate 5
        refine wpPlan_read (by rfl) (by rfl) (fun R hR => ?_)
        apply Exists.intro
        refine ⟨fun w' hS' => ?_, ?_⟩
        · have k0 := (hS'.cell (p := ⟨g2, 0, none⟩) hz7).trans C0.out
          have k1 := (hS'.cell (p := ⟨g2, 1, none⟩) hz7).trans C1.out
          have k2 := (hS'.cell (p := ⟨g2, 2, none⟩) hz7).trans C2.out
          have ca := conv_B (HR7.out.keep hS')
          go_simp
          exact ⟨rfl, rfl⟩
        go_simp
        refine hR _ ?_
        clear hR R
      refine wpPlan_do (by rfl) (by rfl) (fun K hK => ?_)
      go_simp
      refine (rwrite_any g2 _ x.d x.lo x.hi x.L x.W w8 (RDg.keep R7.out hbw8) FX.out.1.ok.rise (fun m hm => RW.out m (List.mem_append_left _ hm)) (fun m hm => RW.out m (List.mem_append_right _ hm)) (by omega) (by have := FX.out.1.d0; omega) (by have := FX.out.1.d1; omega) FX.out.1.ok.lo0 FX.out.1.ok.lo1 FX.out.1.ok.hi0 FX.out.1.ok.hi1).mono ?_
      rintro e w9 ⟨v9, rfl, o9, hb9⟩
      have hbw9 : Below w7.heap.size w7 w9 := hbw8.trans (hb9.mono hz8)
      rw [HWD.out] at o9
      have cb := conv_B (OwnI.rd o9)
      clear o9
      refine hK _ _ (hbw9) ?_
      clear hK K
      refine wpPlan_do (by rfl) (by rfl) (fun K hK => ?_)
      go_simp
      refine hK _ _ (hbw9) ?_
      clear hK K
      iterate 3
        refine wpPlan_read (by rfl) (by rfl) (fun R hR => ?_)
        apply Exists.intro
        refine ⟨fun w' hS' => ?_, ?_⟩
        · have k0 := (hS'.cell (p := ⟨g2, 0, none⟩) hz7).trans C0.out
          have k1 := (hS'.cell (p := ⟨g2, 1, none⟩) hz7).trans C1.out
          have k2 := (hS'.cell (p := ⟨g2, 2, none⟩) hz7).trans C2.out
          have ca := conv_B (HR7.out.keep hS')
          go_simp
          exact ⟨rfl, rfl⟩
        go_simp
        refine hR _ ?_
        clear hR R
      refine wpPlan_nil ?_
      go_wp2_with fail
      go_ret
      exact ⟨rfl, hb07.trans (hbw9.mono (by omega))⟩
end Go.Proofs.Ytedhpkfbobgkgaa
