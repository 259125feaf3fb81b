/- Upto of the program's digest. -/
import Derived.Test.YtedhpkfbobgkgaaDigK
namespace Go.Proofs.Ytedhpkfbobgkgaa
open Go.RowKit Go.Lib

/-- How much is up to a value. -/
def uptoS (d : Int) (s : St) (v : Int) : Int := uptoI s.lo s.hi (prs d (s.L ++ s.W)) v

set_option maxRecDepth 100000 in
set_option maxHeartbeats 2000000 in
theorem upto_any {g : Nat} {F : Nat → Prop} {d : Int} {s : St} {k : Nat} (v : Int) (w : World) (h : DgS w g F d s) (ft : Fit d s k) (v0 : -9223372036854775808 ≤ v) (v1 : v ≤ 9223372036854775807) :
    Calls Try.prog 20 #[.pointer (some ⟨g, 0, none⟩), .int .i64 v] w fun e w' => e = .returned (.int .u64 (uptoS d s v)) ∧ Below w.heap.size w w' := by
  obtain ⟨lv, wv, hb, hr⟩ := id h
  have c5 := hb.cell 5
  have c4 := hb.cell 4
  have c3 := hb.cell 3
  simp only [List.getElem?_toArray, List.getElem?_cons_succ, List.getElem?_cons_zero] at c5 c4 c3
  have hlt := hb.lt
  have HD := Lib.hid h
  have n0 := ft.ok.n_nonneg
  have n1 := ft.t
  have HT := Lib.hid (prs_tot d (s.L ++ s.W))
  have hw0 : (w.alloc (.cells #[.int .i64 v] 2)).cell? ⟨w.heap.size, 0, none⟩ = some (.int .i64 v) := by simp [World.cell?_alloc_new]
  have hb0 : Below w.heap.size w (w.alloc (.cells #[.int .i64 v] 2)) := (Below.refl _ _).alloc (Nat.le_refl _) _
  have hz0 : w.heap.size < (w.alloc (.cells #[.int .i64 v] 2)).heap.size := by simp
  have b5 := (hb0.cell (p := ⟨g, 5, none⟩) hlt).trans c5
  have b4 := (hb0.cell (p := ⟨g, 4, none⟩) hlt).trans c4
  have b3 := (hb0.cell (p := ⟨g, 3, none⟩) hlt).trans c3
  clear hb hr h
  by_cases hn0 : tot (s.L ++ s.W) = 0
  · have hE : Hid (uptoS d s v = 0) := by show uptoS d s v = 0; unfold uptoS uptoI; rw [prs_tot, if_pos (.inl hn0)]
    rw [hn0] at c5 b5
    clear hn0
    go_enter Try.func20, Try.ntmps20
    go_wp2_with fail
    go_quiet (fail)
    go_wp2_with fail
    refine bodyPost_ret (by simp [results, Try.results20, go_sem, *]; try rfl) rfl ?_
    rw [hE.out]
    exact ⟨rfl, by (repeat' (first | (with_reducible exact Below.refl _ _) | (with_reducible refine Below.alloc ?_ ?_ _) | (with_reducible refine Below.drew ?_) | (with_reducible refine below_drewN ?_ _) | (with_reducible refine Below.setCell ?_ ?_ _) | (with_reducible refine below_of (by assumption) ?_ ?_) | go_size))⟩
  · have nn : 0 < tot (s.L ++ s.W) := by omega
    have hnb : (tot (s.L ++ s.W) == 0) = false := by simpa using hn0
    by_cases hlo : v < s.lo
    · have hE : Hid (uptoS d s v = 0) := by show uptoS d s v = 0; unfold uptoS uptoI; rw [prs_tot, if_pos (.inr hlo)]
      go_enter Try.func20, Try.ntmps20
      go_wp2_with fail
      go_quiet (fail)
      go_wp2_with fail
      refine bodyPost_ret (by simp [results, Try.results20, go_sem, *]; try rfl) rfl ?_
      rw [hE.out]
      exact ⟨rfl, by (repeat' (first | (with_reducible exact Below.refl _ _) | (with_reducible refine Below.alloc ?_ ?_ _) | (with_reducible refine Below.drew ?_) | (with_reducible refine below_drewN ?_ _) | (with_reducible refine Below.setCell ?_ ?_ _) | (with_reducible refine below_of (by assumption) ?_ ?_) | go_size))⟩
    · by_cases hhi : s.hi ≤ v
      · have hE : Hid (uptoS d s v = tot (s.L ++ s.W)) := by show uptoS d s v = _; unfold uptoS uptoI; rw [prs_tot, if_neg (by omega), if_pos hhi]
        go_enter Try.func20, Try.ntmps20
        go_wp2_with fail
        go_quiet (fail)
        go_wp2_with fail
        go_quiet (fail)
        go_wp2_with fail
        refine bodyPost_ret (by simp [results, Try.results20, go_sem, *]; try rfl) rfl ?_
        rw [hE.out]
        exact ⟨rfl, by (repeat' (first | (with_reducible exact Below.refl _ _) | (with_reducible refine Below.alloc ?_ ?_ _) | (with_reducible refine Below.drew ?_) | (with_reducible refine below_drewN ?_ _) | (with_reducible refine Below.setCell ?_ ?_ _) | (with_reducible refine below_of (by assumption) ?_ ?_) | go_size))⟩
      · have hE : Hid (uptoS d s v = walkU (tot (s.L ++ s.W)) v (s.lo, 0) (ptsL s.hi (tot (prs d (s.L ++ s.W))) (prs d (s.L ++ s.W)) 0)) := by
          show uptoS d s v = _; unfold uptoS uptoI; rw [prs_tot, if_neg (by omega), if_neg hhi]
        have PT := ft.pts nn
        have HTL := pts_length s.lo s.hi (prs d (s.L ++ s.W))
        have hlen := prs_length d (s.L ++ s.W)
        have hl2 := ft.ok.len
        have hk1 := ft.k1
        rw [List.length_append] at hlen
        have d0 := ft.d0
        have d1 := ft.d1
        have lo0 := ft.ok.lo0
        have hi1 := ft.ok.hi1
        have hne : s.L ++ s.W ≠ [] := fun e => by rw [e] at nn; simp [tot] at nn
        have hlw : s.L.length + s.W.length ≤ 100000000 := by omega
        have PC := fun w1 (hb : Below w.heap.size w w1) => Lib.hid (points_any g F d s.lo s.hi s.L s.W w1 (HD.out.keep hb) ft.ok.ok hne hlw ft.t (by omega) (by omega))
        have EP : Hid (pts s.lo s.hi (prs d (s.L ++ s.W)) = (s.lo, 0) :: ptsL s.hi (tot (prs d (s.L ++ s.W))) (prs d (s.L ++ s.W)) 0) := rfl
        generalize ptsL s.hi (tot (prs d (s.L ++ s.W))) (prs d (s.L ++ s.W)) 0 = TL at EP hE
        generalize pts s.lo s.hi (prs d (s.L ++ s.W)) = T at *
        have hT : T.length ≤ 100000002 := by omega
        have hT2 := PT.len
        have HPT := Lib.hid PT
        clear HT PT HTL hlen hl2 hlw hne ft hn0
        go_enter Try.func20, Try.ntmps20
        go_wp2_with fail
        go_quiet (fail)
        go_wp2_with fail
        go_quiet (fail)
        go_wp2_with fail
        refine ((PC _ (below_drewN hb0 _)).out).mono ?_
        rintro e w3 ⟨vv, rfl, o, hb3⟩
        have hz3 := hb3.size
        simp only [World.size_alloc, size_drewN] at hz3
        have hbw3 : Below w.heap.size w w3 := (below_drewN hb0 _).trans (hb3.mono (by simp only [World.size_alloc, size_drewN]; omega))
        obtain ⟨A, c, rfl, n1', m1', f1⟩ := o.rd.form
        obtain ⟨gp, off, rfl, hgp, _, _⟩ := f1.at_ (j := 0) (by omega)
        have FF := Lib.hid f1
        have X1 : w3.cell? ⟨w.heap.size, 0, none⟩ = some (.int .i64 v) := (hb3.cell (p := ⟨w.heap.size, 0, none⟩) (by simp only [World.size_alloc, size_drewN]; omega)).trans hw0
        clear o f1 b5 b4 b3
        go_wp2_with fail
        have hb4 : Below w3.heap.size w3 (w3.alloc (.cells #[.slice (some ⟨gp, off, none⟩) T.length c] 96)) := (Below.refl _ _).alloc (Nat.le_refl _) _
        have X4 := (hb4.cell (p := ⟨w.heap.size, 0, none⟩) (by show w.heap.size < _; omega)).trans X1
        have Y4 : (w3.alloc (.cells #[.slice (some ⟨gp, off, none⟩) T.length c] 96)).cell? ⟨w3.heap.size, 0, none⟩ = some (.slice (some ⟨gp, off, none⟩) T.length c) := by simp [World.cell?_alloc_new]
        have F4 := Lib.hid (FF.out.keep hb4)
        have hgp4 : gp < (w3.alloc (.cells #[.slice (some ⟨gp, off, none⟩) T.length c] 96)).heap.size := by simp; omega
        refine (search_any 59 #[.pointer (some ⟨w3.heap.size, 0, none⟩), .pointer (some ⟨w.heap.size, 0, none⟩)] T.length (ptV T v) _ (enters_of Try.func59 (by kernel_rfl) rfl) (by omega) (fun m i hi => ?_) (fun a b hab hb h => ?_)).mono ?_
        · obtain ⟨g5, off5, hA5, _, y5, _⟩ := F4.out.at_ hi
          simp only [Option.some.injEq, Addr.mk.injEq] at hA5
          obtain ⟨rfl, rfl, -⟩ := hA5
          rw [ptV_at hi]
          exact upto1_any w3.heap.size w.heap.size _ _ c T v i _ hi (by omega) Y4 X4 y5
        · rw [ptV_at hb]
          rw [ptV_at (by omega)] at h
          rcases Nat.eq_or_lt_of_le hab with rfl | hab
          · exact h
          · have := HPT.out.mono a b (by omega) hb hab
            simp only [decide_eq_true_eq] at h ⊢
            omega
        rintro e w5 ⟨i, q, rfl, hi, i1, i2, rfl⟩
        have hb5 : Below w.heap.size w ((w3.alloc (.cells #[.slice (some ⟨gp, off, none⟩) T.length c] 96)).drewN q) := below_drewN (hbw3.trans (hb4.mono (by omega))) q
        have hit : i < T.length := by
          rcases Nat.lt_or_ge i T.length with h | h
          · exact h
          · have h1 := i1 (T.length - 1) (by omega)
            rw [ptV_at (by omega), HPT.out.hl (by omega)] at h1
            simp only [decide_eq_false_iff_not] at h1
            omega
        have h0 : 0 < i := by
          rcases Nat.eq_zero_or_pos i with rfl | h
          · have h1 := i2 0 (Nat.le_refl _) hit
            rw [ptV_at hit, HPT.out.h0 hit] at h1
            simp only [decide_eq_true_eq] at h1
            omega
          · exact h
        have hR : Hid (walkU (tot (s.L ++ s.W)) v (s.lo, 0) TL = (T[i - 1].2 + (T[i].2 - T[i - 1].2) * (v - T[i - 1].1) / (T[i].1 - T[i - 1].1)) / 2) := by
          have hT3 := EP.out
          have := walkU_at (tot (s.L ++ s.W)) v TL (s.lo, 0) i (by rw [← hT3]; exact hit) h0 (fun j hj j0 hji => by
            have h1 := i1 j hji
            rw [ptV_at (by omega)] at h1
            simp only [decide_eq_false_iff_not] at h1
            have e : T[j]'(by omega) = ((s.lo, 0) :: TL)[j] := by congr 1
            rw [← e]; omega) (by
            have h1 := i2 i (Nat.le_refl _) hit
            rw [ptV_at hit] at h1
            simp only [decide_eq_true_eq] at h1
            have e : T[i] = ((s.lo, 0) :: TL)[i]'(by rw [← hT3]; exact hit) := by congr 1
            rw [← e]; exact h1)
          show walkU (tot (s.L ++ s.W)) v (s.lo, 0) TL = _
          rw [this]
          have e : T[i] = ((s.lo, 0) :: TL)[i]'(by rw [← hT3]; exact hit) := by congr 1
          have e1 : T[i - 1] = ((s.lo, 0) :: TL)[i - 1]'(by rw [← hT3]; omega) := by congr 1
          rw [e, e1]
        have hsp1 : v < T[i].1 := by
          have h1 := i2 i (Nat.le_refl _) hit
          rw [ptV_at hit] at h1
          simpa using h1
        have hsp0 : T[i - 1].1 ≤ v := by
          have h1 := i1 (i - 1) (by omega)
          rw [ptV_at (by omega)] at h1
          simpa using h1
        have hm := HPT.out.mono (i - 1) i (by omega) hit (by omega)
        have hB1 := HPT.out.bd (i := i - 1) (by omega)
        have hB2 := HPT.out.bd hit
        obtain ⟨g5, off5, hA5, _, x5, y5⟩ := F4.out.at_ (j := i - 1) (by omega)
        simp only [Option.some.injEq, Addr.mk.injEq] at hA5
        obtain ⟨rfl, rfl, -⟩ := hA5
        obtain ⟨g6, off6, hA6, _, x6, y6⟩ := F4.out.at_ hit
        simp only [Option.some.injEq, Addr.mk.injEq] at hA6
        obtain ⟨rfl, rfl, -⟩ := hA6
        have hs4 := hb4.size
        generalize w3.alloc (.cells #[.slice (some ⟨gp, off, none⟩) T.length c] 96) = w4 at *
        obtain ⟨m, rfl⟩ : ∃ m, i = m + 1 := ⟨i - 1, by omega⟩
        simp only [Nat.add_sub_cancel] at hR hsp0 hm hB1 x5 y5
        obtain ⟨pa, hpa⟩ : ∃ p, T[m] = p := ⟨_, rfl⟩
        obtain ⟨pb, hpb⟩ : ∃ p, T[m + 1] = p := ⟨_, rfl⟩
        rw [hpa, hpb] at hR hm
        rw [hpa] at hsp0 hB1 x5 y5
        rw [hpb] at hsp1 hB2 x6 y6
        have hE2 : Hid (uptoS d s v = (pa.2 + (pb.2 - pa.2) * (v - pa.1) / (pb.1 - pa.1)) / 2) := hE.out.trans hR.out
        have jz : (0 : Int) ≤ (m : Int) := by omega
        have jz1 : (m : Int) + 1 < (T.length : Int) := by omega
        have jc : T.length ≤ c := by assumption
        clear i1 i2 EP HPT hpa hpb PC X1 F4 FF HD hR hE hw0 hb0 hb3 hbw3
        have hz5' : w4.heap.size ≤ (w4.drewN q).heap.size := Nat.le_refl _
        replace x5 : (w4.drewN q).cell? ⟨gp, off + m * 2, none⟩ = some (.int .i64 pa.1) := x5
        replace y5 : (w4.drewN q).cell? ⟨gp, off + m * 2 + 1, none⟩ = some (.int .u64 pa.2) := y5
        replace x6 : (w4.drewN q).cell? ⟨gp, off + (m + 1) * 2, none⟩ = some (.int .i64 pb.1) := x6
        replace y6 : (w4.drewN q).cell? ⟨gp, off + (m + 1) * 2 + 1, none⟩ = some (.int .u64 pb.2) := y6
        replace Y4 : (w4.drewN q).cell? ⟨w3.heap.size, 0, none⟩ = some (.slice (some ⟨gp, off, none⟩) T.length c) := Y4
        have X5' : (w4.drewN q).cell? ⟨w.heap.size, 0, none⟩ = some (.int .i64 v) := X4
        clear X4
        generalize w4.drewN q = w5 at *
        have MC := fun w => Lib.hid (muldiv_le (pb.2 - pa.2) (v - pa.1) (pb.1 - pa.1) w (by omega) (by omega) (by omega) (by omega) (by omega) (by omega))
        have PB := part_bd (p := pb.2 - pa.2) (x := v - pa.1) (y := pb.1 - pa.1) (by omega) (by omega) (by omega) (by omega) rfl
        generalize (pb.2 - pa.2) * (v - pa.1) / (pb.1 - pa.1) = fr at MC PB hE2
        generalize (pb.2 - pa.2) * (v - pa.1) % (pb.1 - pa.1) = fm at MC
        go_upto_region 7 with fail
        have j1 : (0 : Int) ≤ (m : Int) + 1 := by omega
        have j2 : (m : Int) < (T.length : Int) := by omega
        have j3 : ((m : Int) + 1).toNat = m + 1 := by omega
        have j4 : IntKind.i64.wrap (m : Int) = (m : Int) := IntWalk.i64_in _ (by omega)
        go_region_held3 (fun w' => w'.cell? ⟨gp, off + m * 2, none⟩ = some (.int .i64 pa.1) ∧ w'.cell? ⟨gp, off + m * 2 + 1, none⟩ = some (.int .u64 pa.2) ∧ w'.cell? ⟨gp, off + (m + 1) * 2, none⟩ = some (.int .i64 pb.1) ∧ w'.cell? ⟨gp, off + (m + 1) * 2 + 1, none⟩ = some (.int .u64 pb.2) ∧ w'.cell? ⟨w3.heap.size, 0, none⟩ = some (.slice (some ⟨gp, off, none⟩) T.length c)) (go_keep) (fail)
        all_goals
          clear j1 j2 j3 j4
          have HX : ∀ A B, ((w5.alloc A).alloc B).cell? ⟨w.heap.size, 0, none⟩ = some (.int .i64 v) := fun A B => (((Below.refl _ _).alloc (Nat.le_refl _) _).cell (p := ⟨w.heap.size, 0, none⟩) (by show w.heap.size < _; simp; omega)).trans ((((Below.refl _ _).alloc (Nat.le_refl _) _).cell (p := ⟨w.heap.size, 0, none⟩) (by show w.heap.size < _; omega)).trans X5')
          have ew1 : IntKind.u64.wrap (IntKind.u64.wrap v - IntKind.u64.wrap pa.1) = v - pa.1 := by simp only [u64w]; omega
          have ew2 : IntKind.u64.wrap (IntKind.u64.wrap pb.1 - IntKind.u64.wrap pa.1) = pb.1 - pa.1 := by simp only [u64w]; omega
          go_wp2_with fail
          refine ((MC _).out).mono ?_
          rintro e w6 ⟨rfl, hb6⟩
          have hz6 := hb6.size
          simp only [World.size_alloc, World.size_drew] at hz6
          clear ew1 ew2
          have ⟨hcc, hff⟩ := bcell hb6
          go_wp2_with fail
          refine bodyPost_ret (by simp [results, Try.results20, go_sem, *]; try rfl) rfl ?_
          rw [hE2.out]
          exact ⟨rfl, below_of hb6 (by go_size) (((hb5.alloc (by omega) _).alloc (by go_size) _).drew)⟩
end Go.Proofs.Ytedhpkfbobgkgaa
