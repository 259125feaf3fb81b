/- At and Upto of the program's digest. -/
import Derived.Test.YtedhpkfbobgkgaaDigJ
namespace Go.Proofs.Ytedhpkfbobgkgaa
open Go.RowKit Go.Lib

/-- A digest in memory, by its state. -/
def DgS (w : World) (g : Nat) (F : Nat → Prop) (d : Int) (s : St) : Prop := Dg w g F d s.L s.W s.lo s.hi (tot (s.L ++ s.W))
/-- Within the bounds of the contracts. -/
structure Fit (d : Int) (s : St) (k : Nat) : Prop where
  ok : s.Ok d k
  k1 : k ≤ 100000000
  t : tot (s.L ++ s.W) ≤ 281474976710656
  d0 : 10 ≤ d
  d1 : d ≤ 1000
/-- What is told at a part. -/
def askI (d : Int) (s : St) (num den : Int) : Int × Int := if (spotI num den (tot (s.L ++ s.W))).2 = 0 then (atI s.lo s.hi (prs d (s.L ++ s.W)) (spotI num den (tot (s.L ++ s.W))).1, 0) else (0, (spotI num den (tot (s.L ++ s.W))).2)
theorem spotI_ok {num den n : Int} (a0 : 0 ≤ num) (d0 : 0 ≤ den) (n0 : 0 ≤ n) (h : (spotI num den n).2 = 0) : 0 < n ∧ 0 ≤ (spotI num den n).1 ∧ (spotI num den n).1 ≤ 2 * n ∧ 0 < den ∧ num ≤ den ∧ (spotI num den n).1 = 2 * n * num / den := by
  unfold spotI at *
  split at h
  · simp at h
  · rename_i h1
    split at h
    · simp at h
    · rename_i h2
      split at h
      · simp at h
      · rename_i h3
        simp only [if_neg h1, if_neg h2, if_neg h3]
        have h4 : 0 ≤ 2 * n * num / den := Int.ediv_nonneg (Int.mul_nonneg (by omega) a0) (by omega)
        have h5 : 2 * n * num ≤ 2 * n * den := Int.mul_le_mul_of_nonneg_left (by omega) (by omega)
        have h6 : 2 * n * num / den ≤ 2 * n := Int.ediv_le_of_le_mul (by omega) h5
        exact ⟨by omega, h4, h6, by omega, by omega, trivial⟩
structure PtsAt (lo hi : Int) (T : List Pt) (n : Int) : Prop where
  mono : ∀ i j (hi : i < T.length) (hj : j < T.length), i < j → T[i].1 ≤ T[j].1 ∧ T[i].2 < T[j].2
  len : 2 ≤ T.length
  h0 : ∀ h : 0 < T.length, T[0] = (lo, 0)
  hl : ∀ h : T.length - 1 < T.length, T[T.length - 1] = (hi, 2 * n)
theorem Fit.pts {d : Int} {s : St} {k : Nat} (h : Fit d s k) (hn : 0 < tot (s.L ++ s.W)) : PtsAt s.lo s.hi (pts s.lo s.hi (prs d (s.L ++ s.W))) (tot (s.L ++ s.W)) := by
  have hne : s.L ++ s.W ≠ [] := fun e => by rw [e] at hn; simp [tot] at hn
  obtain ⟨p1, p2, p3⟩ := prs_ok d s.lo s.hi h.ok.ok h.ok.bd
  obtain ⟨r1, r2⟩ := pts_rise p1 p2 p3 (prs_pos d hne)
  refine ⟨r1.get, by rw [pts_length]; omega, fun _ => rfl, fun h => ?_⟩
  have := lastP_get (ptsL s.hi (tot (prs d (s.L ++ s.W))) (prs d (s.L ++ s.W)) 0) (s.lo, 0)
  rw [r2] at this
  exact this.trans (by rw [prs_tot])
theorem PtsAt.bd {lo hi : Int} {T : List Pt} {n : Int} (h : PtsAt lo hi T n) {i : Nat} (hi' : i < T.length) : lo ≤ T[i].1 ∧ T[i].1 ≤ hi ∧ 0 ≤ T[i].2 ∧ T[i].2 ≤ 2 * n := by
  have l := h.len
  have a0 := h.h0 (by omega)
  have a1 := h.hl (by omega)
  have b0 : lo ≤ T[i].1 ∧ 0 ≤ T[i].2 := by
    rcases Nat.eq_zero_or_pos i with rfl | h0
    · rw [a0]; exact ⟨Int.le_refl _, Int.le_refl _⟩
    · have := h.mono 0 i (by omega) hi' h0
      rw [a0] at this
      simp only at this
      omega
  have b1 : T[i].1 ≤ hi ∧ T[i].2 ≤ 2 * n := by
    rcases Nat.lt_or_ge i (T.length - 1) with h0 | h0
    · have := h.mono i (T.length - 1) hi' (by omega) h0
      rw [a1] at this
      simp only at this
      omega
    · have : i = T.length - 1 := by omega
      subst this
      rw [a1]; exact ⟨Int.le_refl _, Int.le_refl _⟩
  omega

/-- Does the point stand behind? -/
def ptB (T : List Pt) (s : Int) (i : Nat) : Bool := decide (s < (T[i]?.getD (0, 0)).2)
theorem ptB_at {T : List Pt} {s : Int} {i : Nat} (h : i < T.length) : ptB T s i = decide (s < T[i].2) := by simp [ptB, List.getElem?_eq_getElem h]
/-- Is the point's number more? -/
def ptV (T : List Pt) (s : Int) (i : Nat) : Bool := decide (s < (T[i]?.getD (0, 0)).1)
theorem ptV_at {T : List Pt} {s : Int} {i : Nat} (h : i < T.length) : ptV T s i = decide (s < T[i].1) := by simp [ptV, List.getElem?_eq_getElem h]

set_option maxRecDepth 100000 in
set_option maxHeartbeats 2000000 in
theorem at_any {g : Nat} {F : Nat → Prop} {d : Int} {s : St} {k : Nat} (num den : Int) (w : World) (h : DgS w g F d s) (ft : Fit d s k) (a0 : 0 ≤ num) (a1 : num < 18446744073709551616) (e0 : 0 ≤ den) (e1 : den < 18446744073709551616) :
    Calls Try.prog 19 #[.pointer (some ⟨g, 0, none⟩), .int .u64 num, .int .u64 den] w fun e w' => e = .returned (.tuple #[.int .i64 (askI d s num den).1, .int .i64 (askI d s num den).2]) ∧ Below w.heap.size w w' := by
  obtain ⟨lv, wv, hb, hr⟩ := id h
  have c5 := hb.cell 5
  have c4 := hb.cell 4
  simp only [List.getElem?_toArray, List.getElem?_cons_succ, List.getElem?_cons_zero] at c5 c4
  have hlt := hb.lt
  have HD := Lib.hid h
  have n0 := ft.ok.n_nonneg
  have n1 := ft.t
  have HS := Lib.hid (spotI_ok a0 e0 n0)
  have HA : Hid (askI d s num den = if (spotI num den (tot (s.L ++ s.W))).2 = 0 then (atI s.lo s.hi (prs d (s.L ++ s.W)) (spotI num den (tot (s.L ++ s.W))).1, 0) else (0, (spotI num den (tot (s.L ++ s.W))).2)) := rfl
  have RS := fun w => Lib.hid (rspot_any num den (tot (s.L ++ s.W)) w a0 a1 e0 e1 n0 (by omega))
  have C4 := Lib.hid c4
  clear h hb hr c4
  generalize spotI num den (tot (s.L ++ s.W)) = r at *
  generalize askI d s num den = ans at *
  obtain ⟨sp, er⟩ := r
  obtain ⟨av, ae⟩ := ans
  by_cases her : er = 0
  · subst her
    obtain ⟨nn, s0, s1, dn, ne, -⟩ := HS.out rfl
    have hE : Hid (av = atI s.lo s.hi (prs d (s.L ++ s.W)) sp ∧ ae = 0) := by
      have := HA.out
      simp only [if_pos, Prod.mk.injEq] at this
      exact this
    have PT := ft.pts nn
    have HTL := pts_length s.lo s.hi (prs d (s.L ++ s.W))
    have hlen := prs_length d (s.L ++ s.W)
    have hl2 := ft.ok.len
    have hk1 := ft.k1
    rw [List.length_append] at hlen
    have d0 := ft.d0
    have d1 := ft.d1
    have lo0 := ft.ok.lo0
    have hi1 := ft.ok.hi1
    have hne : s.L ++ s.W ≠ [] := fun e => by rw [e] at nn; simp [tot] at nn
    have hlw : s.L.length + s.W.length ≤ 100000000 := by omega
    have PC := fun w1 (hb : Below w.heap.size w w1) => Lib.hid (points_any g F d s.lo s.hi s.L s.W w1 (HD.out.keep hb) ft.ok.ok hne hlw ft.t (by omega) (by omega))
    have EA : Hid (atI s.lo s.hi (prs d (s.L ++ s.W)) sp = walkA s.hi sp (s.lo, 0) (ptsL s.hi (tot (prs d (s.L ++ s.W))) (prs d (s.L ++ s.W)) 0)) := rfl
    have EP : Hid (pts s.lo s.hi (prs d (s.L ++ s.W)) = (s.lo, 0) :: ptsL s.hi (tot (prs d (s.L ++ s.W))) (prs d (s.L ++ s.W)) 0) := rfl
    generalize ptsL s.hi (tot (prs d (s.L ++ s.W))) (prs d (s.L ++ s.W)) 0 = TL at EA EP
    generalize pts s.lo s.hi (prs d (s.L ++ s.W)) = T at *
    have hT : T.length ≤ 100000002 := by omega
    have hT2 := PT.len
    have HPT := Lib.hid PT
    clear HA HS PT HTL hlen hl2 hlw hne ft
    go_enter Try.func19, Try.ntmps19
    go_wp2_with fail
    refine ((RS _).out).mono ?_
    rintro e w1 ⟨rfl, hb1⟩
    have hz1 := hb1.size
    go_wp2_with fail
    have hb2 : Below w.heap.size w (w1.alloc (.cells #[.int .u64 sp] 25)) := hb1.alloc (by omega) _
    refine ((PC _ hb2).out).mono ?_
    rintro e w3 ⟨v, rfl, o, hb3⟩
    have hz3 := hb3.size
    simp only [World.size_alloc] at hz3
    have hbw3 : Below w.heap.size w w3 := hb2.trans (hb3.mono (by simp; omega))
    obtain ⟨A, c, rfl, n1', m1', f1⟩ := o.rd.form
    obtain ⟨gp, off, rfl, hgp, _, _⟩ := f1.at_ (j := 0) (by omega)
    have FF := Lib.hid f1
    have X1 : w3.cell? ⟨w1.heap.size, 0, none⟩ = some (.int .u64 sp) := (hb3.cell (p := ⟨w1.heap.size, 0, none⟩) (by simp)).trans (by simp [World.cell?_alloc_new])
    clear o f1
    go_wp2_with fail
    have hb4 : Below w3.heap.size w3 (w3.alloc (.cells #[.slice (some ⟨gp, off, none⟩) T.length c] 96)) := (Below.refl _ _).alloc (Nat.le_refl _) _
    have X4 := (hb4.cell (p := ⟨w1.heap.size, 0, none⟩) (by show w1.heap.size < _; omega)).trans X1
    have Y4 : (w3.alloc (.cells #[.slice (some ⟨gp, off, none⟩) T.length c] 96)).cell? ⟨w3.heap.size, 0, none⟩ = some (.slice (some ⟨gp, off, none⟩) T.length c) := by simp [World.cell?_alloc_new]
    have F4 := Lib.hid (FF.out.keep hb4)
    have hgp4 : gp < (w3.alloc (.cells #[.slice (some ⟨gp, off, none⟩) T.length c] 96)).heap.size := by simp; omega
    refine (search_any 57 #[.pointer (some ⟨w3.heap.size, 0, none⟩), .pointer (some ⟨w1.heap.size, 0, none⟩)] T.length (ptB T sp) _ (enters_of Try.func57 (by kernel_rfl) rfl) (by omega) (fun m i hi => ?_) (fun a b hab hb h => ?_)).mono ?_
    · obtain ⟨g5, off5, hA5, _, _, y5⟩ := F4.out.at_ hi
      simp only [Option.some.injEq, Addr.mk.injEq] at hA5
      obtain ⟨rfl, rfl, -⟩ := hA5
      rw [ptB_at hi]
      exact at1_any w3.heap.size w1.heap.size _ _ c T sp i _ hi (by omega) Y4 X4 y5
    · rw [ptB_at hb]
      rw [ptB_at (by omega)] at h
      rcases Nat.eq_or_lt_of_le hab with rfl | hab
      · exact h
      · have := HPT.out.mono a b (by omega) hb hab
        simp only [decide_eq_true_eq] at h ⊢
        omega
    rintro e w5 ⟨i, q, rfl, hi, i1, i2, rfl⟩
    have I1 := Lib.hid i1
    have I2 := Lib.hid i2
    have hb5 : Below w.heap.size w ((w3.alloc (.cells #[.slice (some ⟨gp, off, none⟩) T.length c] 96)).drewN q) := below_drewN (hbw3.trans (hb4.mono (by omega))) q
    have k4 := (hb5.cell (p := ⟨g, 4, none⟩) (by show g < _; omega)).trans C4.out
    clear i1 i2
    by_cases hiT : i = T.length
    · subst hiT
      have hR : Hid (walkA s.hi sp (s.lo, 0) TL = s.hi) := by
        refine walkA_none s.hi sp TL (s.lo, 0) (fun j hj j0 => ?_)
        have h1 := I1.out j (by rw [EP.out]; exact hj)
        rw [ptB_at (by rw [EP.out]; exact hj)] at h1
        simp only [decide_eq_false_iff_not] at h1
        have e : T[j]'(by rw [EP.out]; exact hj) = ((s.lo, 0) :: TL)[j] := by congr 1
        rw [← e]; omega
      go_wp2_with fail
      refine bodyPost_ret (by simp [results, Try.results19, go_sem, *]; try rfl) rfl ?_
      rw [hE.out.1, hE.out.2, EA.out, hR.out]
      exact ⟨rfl, hb5⟩
    · have hit : i < T.length := by omega
      have h0 : 0 < i := by
        rcases Nat.eq_zero_or_pos i with rfl | h
        · have h1 := I2.out 0 (Nat.le_refl _) hit
          rw [ptB_at hit, HPT.out.h0 hit] at h1
          simp only [decide_eq_true_eq] at h1
          omega
        · exact h
      have hR : Hid (walkA s.hi sp (s.lo, 0) TL = lerpI T[i - 1].1 T[i].1 (sp - T[i - 1].2) (T[i].2 - T[i - 1].2)) := by
        have hT3 := EP.out
        have := walkA_at s.hi sp TL (s.lo, 0) i (by rw [← hT3]; exact hit) h0 (fun j hj j0 hji => by
          have h1 := I1.out j hji
          rw [ptB_at (by omega)] at h1
          simp only [decide_eq_false_iff_not] at h1
          have e : T[j]'(by omega) = ((s.lo, 0) :: TL)[j] := by congr 1
          rw [← e]; omega) (by
          have h1 := I2.out i (Nat.le_refl _) hit
          rw [ptB_at hit] at h1
          simp only [decide_eq_true_eq] at h1
          have e : T[i] = ((s.lo, 0) :: TL)[i]'(by rw [← hT3]; exact hit) := by congr 1
          rw [← e]; exact h1)
        show walkA s.hi sp (s.lo, 0) TL = _
        rw [this]
        have e : T[i] = ((s.lo, 0) :: TL)[i]'(by rw [← hT3]; exact hit) := by congr 1
        have e1 : T[i - 1] = ((s.lo, 0) :: TL)[i - 1]'(by rw [← hT3]; omega) := by congr 1
        rw [e, e1]
      have hsp1 : sp < T[i].2 := by
        have h1 := I2.out i (Nat.le_refl _) hit
        rw [ptB_at hit] at h1
        simpa using h1
      have hsp0 : T[i - 1].2 ≤ sp := by
        have h1 := I1.out (i - 1) (by omega)
        rw [ptB_at (by omega)] at h1
        simpa using h1
      have hm := HPT.out.mono (i - 1) i (by omega) hit (by omega)
      have hB1 := HPT.out.bd (i := i - 1) (by omega)
      have hB2 := HPT.out.bd hit
      obtain ⟨g5, off5, hA5, _, x5, y5⟩ := F4.out.at_ (j := i - 1) (by omega)
      simp only [Option.some.injEq, Addr.mk.injEq] at hA5
      obtain ⟨rfl, rfl, -⟩ := hA5
      obtain ⟨g6, off6, hA6, _, x6, y6⟩ := F4.out.at_ hit
      simp only [Option.some.injEq, Addr.mk.injEq] at hA6
      obtain ⟨rfl, rfl, -⟩ := hA6
      have hs4 := hb4.size
      generalize w3.alloc (.cells #[.slice (some ⟨gp, off, none⟩) T.length c] 96) = w4 at *
      obtain ⟨m, rfl⟩ : ∃ m, i = m + 1 := ⟨i - 1, by omega⟩
      simp only [Nat.add_sub_cancel] at hR hsp0 hm hB1 x5 y5
      obtain ⟨pa, hpa⟩ : ∃ p, T[m] = p := ⟨_, rfl⟩
      obtain ⟨pb, hpb⟩ : ∃ p, T[m + 1] = p := ⟨_, rfl⟩
      rw [hpa, hpb] at hR hm
      rw [hpa] at hsp0 hB1 x5 y5
      rw [hpb] at hsp1 hB2 x6 y6
      have X5 := Lib.hid (And.intro (And.intro x5 y5) (And.intro x6 y6))
      have Z4 := Lib.hid (And.intro X4 Y4)
      have jz : (0 : Int) ≤ (m : Int) := by omega
      have jz1 : (m : Int) + 1 < (T.length : Int) := by omega
      have jc : T.length ≤ c := by assumption
      have HEA := EA
      clear I1 I2 EP EA HPT hpa hpb hiT x5 y5 x6 y6 X4 Y4 PC RS X1 C4 k4 F4 FF HD
      have Y4 := Z4.out.2
      have X4 := Z4.out.1
      have hnb : (((m : Int) + 1) == (T.length : Int)) = false := by simp; omega
      go_upto_region 8 with fail
      have hz5 : (w4.drewN q).heap.size = w4.heap.size := rfl
      have g1 : (w4.drewN q).cell? ⟨gp, off + m * 2, none⟩ = some (.int .i64 pa.1) := X5.out.1.1
      have g2 : (w4.drewN q).cell? ⟨gp, off + m * 2 + 1, none⟩ = some (.int .u64 pa.2) := X5.out.1.2
      have g3 : (w4.drewN q).cell? ⟨gp, off + (m + 1) * 2, none⟩ = some (.int .i64 pb.1) := X5.out.2.1
      have g4 : (w4.drewN q).cell? ⟨gp, off + (m + 1) * 2 + 1, none⟩ = some (.int .u64 pb.2) := X5.out.2.2
      have Y5 : (w4.drewN q).cell? ⟨w3.heap.size, 0, none⟩ = some (.slice (some ⟨gp, off, none⟩) T.length c) := Y4
      have X5' : (w4.drewN q).cell? ⟨w1.heap.size, 0, none⟩ = some (.int .u64 sp) := X4
      have hz5' : w4.heap.size ≤ (w4.drewN q).heap.size := Nat.le_refl _
      clear hz5 X4 Y4 X5 Z4
      generalize w4.drewN q = w5 at *
      have j1 : (0 : Int) ≤ (m : Int) + 1 := by omega
      have j2 : (m : Int) < (T.length : Int) := by omega
      have j3 : ((m : Int) + 1).toNat = m + 1 := by omega
      have j4 : IntKind.i64.wrap (m : Int) = (m : Int) := IntWalk.i64_in _ (by omega)
      go_region_held3 (fun w' => w'.cell? ⟨gp, off + m * 2, none⟩ = some (.int .i64 pa.1) ∧ w'.cell? ⟨gp, off + m * 2 + 1, none⟩ = some (.int .u64 pa.2) ∧ w'.cell? ⟨gp, off + (m + 1) * 2, none⟩ = some (.int .i64 pb.1) ∧ w'.cell? ⟨gp, off + (m + 1) * 2 + 1, none⟩ = some (.int .u64 pb.2) ∧ w'.cell? ⟨w3.heap.size, 0, none⟩ = some (.slice (some ⟨gp, off, none⟩) T.length c)) (go_keep) (fail)
      all_goals
        clear j1 j2 j3 j4
        have HX : ∀ A B, ((w5.alloc A).alloc B).cell? ⟨w1.heap.size, 0, none⟩ = some (.int .u64 sp) := fun A B => (((Below.refl _ _).alloc (Nat.le_refl _) _).cell (p := ⟨w1.heap.size, 0, none⟩) (by show w1.heap.size < _; simp; omega)).trans ((((Below.refl _ _).alloc (Nat.le_refl _) _).cell (p := ⟨w1.heap.size, 0, none⟩) (by show w1.heap.size < _; omega)).trans X5')
        go_wp2_with fail
        refine (lerp_any pa.1 pb.1 (sp - pa.2) (pb.2 - pa.2) _ (by omega) hm.1 (by omega) (by omega) (by omega) (by omega) (by omega)).mono ?_
        rintro e w6 ⟨rfl, hb6⟩
        have hz6 := hb6.size
        simp only [World.size_alloc, World.size_drew] at hz6
        go_wp2_with fail
        refine bodyPost_ret (by simp [results, Try.results19, go_sem, *]; try rfl) rfl ?_
        rw [hE.out.1, hE.out.2, HEA.out, hR.out]
        exact ⟨rfl, below_of hb6 (by go_size) (((hb5.alloc (by omega) _).alloc (by go_size) _).drew)⟩
  · have hE : Hid (av = 0 ∧ ae = er) := by
      have := HA.out
      simp only [if_neg her, Prod.mk.injEq] at this
      exact this
    have hb : (er != 0) = true := by simpa using her
    clear HA HS her
    go_enter Try.func19, Try.ntmps19
    go_wp2_with fail
    refine ((RS _).out).mono ?_
    rintro e w1 ⟨rfl, hb1⟩
    have hz1 := hb1.size
    go_wp2_with fail
    refine bodyPost_ret (by simp [results, Try.results19, go_sem, *]; try rfl) rfl ?_
    rw [hE.out.1, hE.out.2]
    exact ⟨rfl, by (repeat' (first | (with_reducible exact Below.refl _ _) | (with_reducible refine Below.alloc ?_ ?_ _) | (with_reducible refine Below.drew ?_) | (with_reducible refine below_drewN ?_ _) | (with_reducible refine Below.setCell ?_ ?_ _) | (with_reducible refine below_of (by assumption) ?_ ?_) | go_size))⟩
end Go.Proofs.Ytedhpkfbobgkgaa
