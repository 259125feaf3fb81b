/- At and Upto of the reference's digest. -/
import Derived.Test.YtedhpkfbobgkgaaDigR
namespace Go.Proofs.Ytedhpkfbobgkgaa
open Go.RowKit Go.Lib

theorem drop_cons' {l : List Mn} {j : Nat} (h : j < l.length) : l.drop j = l[j] :: l.drop (j + 1) := List.drop_eq_getElem_cons h
/-- In the midst of the walk over the points: (v, p) is the last one that was passed. -/
structure AtW (hi n sp : Int) (P : List Mn) (ans : Int) (j : Nat) (v p : Int) : Prop where
  e : ans = walkA hi sp (v, p) (ptsL hi n (P.drop j) (tot (P.take j)))
  r : RiseP (v, p) (ptsL hi n (P.drop j) (tot (P.take j)))
  b : p ≤ sp
  h : -9223372036854775808 ≤ v
  u : (lastP (v, p) (ptsL hi n (P.drop j) (tot (P.take j)))).1 = hi
  p0 : 0 ≤ p
theorem AtW.hit {hi n sp ans v p : Int} {P : List Mn} {j : Nat} (h : AtW hi n sp P ans j v p) (hj : j < P.length) (hs : sp < 2 * tot (P.take j) + P[j].2) :
    v ≤ P[j].1 ∧ p < 2 * tot (P.take j) + P[j].2 ∧ ans = lerpI v P[j].1 (sp - p) (2 * tot (P.take j) + P[j].2 - p) := by
  obtain ⟨e, r, b, _⟩ := h
  rw [drop_cons' hj] at e r
  simp only [ptsL, walkA, RiseP] at e r
  rw [if_pos hs] at e
  exact ⟨r.1, r.2.1, e⟩
theorem AtW.next {hi n sp ans v p : Int} {P : List Mn} {j : Nat} (h : AtW hi n sp P ans j v p) (hj : j < P.length) (hs : ¬ sp < 2 * tot (P.take j) + P[j].2) : AtW hi n sp P ans (j + 1) P[j].1 (2 * tot (P.take j) + P[j].2) := by
  obtain ⟨e, r, b, h1, h2, h3⟩ := h
  rw [drop_cons' hj] at e r h2
  simp only [ptsL, walkA, RiseP, lastP] at e r h2
  rw [if_neg hs] at e
  rw [← tot_take_succ P j hj] at e r h2
  refine ⟨e, r.2.2, by omega, by omega, h2, by omega⟩
theorem AtW.last {hi n sp ans v p : Int} {P : List Mn} (h : AtW hi n sp P ans P.length v p) : v ≤ hi ∧ p < 2 * n ∧ (sp < 2 * n → ans = lerpI v hi (sp - p) (2 * n - p)) ∧ (¬ sp < 2 * n → ans = hi) := by
  obtain ⟨e, r, b, _⟩ := h
  rw [List.drop_length] at e r
  simp only [ptsL, walkA, RiseP] at e r
  refine ⟨r.1, r.2.1, fun hs => ?_, fun hs => ?_⟩
  · rw [if_pos hs] at e; exact e
  · rw [if_neg hs] at e; exact e

/-- The same for Upto. -/
structure UpW (hi n x : Int) (P : List Mn) (ans : Int) (j : Nat) (v p : Int) : Prop where
  e : ans = walkU n x (v, p) (ptsL hi n (P.drop j) (tot (P.take j)))
  r : RiseP (v, p) (ptsL hi n (P.drop j) (tot (P.take j)))
  b : v ≤ x
  p0 : 0 ≤ p
theorem UpW.hit {hi n x ans v p : Int} {P : List Mn} {j : Nat} (h : UpW hi n x P ans j v p) (hj : j < P.length) (hs : x < P[j].1) :
    p < 2 * tot (P.take j) + P[j].2 ∧ ans = (p + (2 * tot (P.take j) + P[j].2 - p) * (x - v) / (P[j].1 - v)) / 2 := by
  obtain ⟨e, r, b, _⟩ := h
  rw [drop_cons' hj] at e r
  simp only [ptsL, walkU, RiseP] at e r
  rw [if_pos hs] at e
  exact ⟨r.2.1, e⟩
theorem UpW.next {hi n x ans v p : Int} {P : List Mn} {j : Nat} (h : UpW hi n x P ans j v p) (hj : j < P.length) (hs : ¬ x < P[j].1) : UpW hi n x P ans (j + 1) P[j].1 (2 * tot (P.take j) + P[j].2) := by
  obtain ⟨e, r, b, h3⟩ := h
  rw [drop_cons' hj] at e r
  simp only [ptsL, walkU, RiseP] at e r
  rw [if_neg hs] at e
  rw [← tot_take_succ P j hj] at e r
  refine ⟨e, r.2.2, by omega, by omega⟩
theorem UpW.last {hi n x ans v p : Int} {P : List Mn} (h : UpW hi n x P ans P.length v p) (hs : x < hi) : p < 2 * n ∧ ans = (p + (2 * n - p) * (x - v) / (hi - v)) / 2 := by
  obtain ⟨e, r, b, _⟩ := h
  rw [List.drop_length] at e r
  simp only [ptsL, walkU, RiseP] at e r
  rw [if_pos hs] at e
  exact ⟨r.2.1, e⟩

set_option maxRecDepth 100000 in
set_option maxHeartbeats 4000000 in
theorem rat_any {g : Nat} {F : Nat → Prop} {d : Int} {s : St} {k : Nat} (sp : Int) (w : World) (h : RDgS w g F d s) (ft : Fit d s k) (nn : 0 < tot (s.L ++ s.W)) (s0 : 0 ≤ sp) (s1 : sp ≤ 2 * tot (s.L ++ s.W)) :
    Calls Try.prog 33 #[.pointer (some ⟨g, 0, none⟩), .int .u64 sp] w fun e w' => e = .returned (.int .i64 (atI s.lo s.hi (prs d (s.L ++ s.W)) sp)) ∧ Below w.heap.size w w' := by
  have H := Lib.hid h
  have n1 := ft.t
  have hlw : s.L.length + s.W.length ≤ 100000000 := by have := ft.ok.len; have := ft.k1; omega
  have hlw2 : (s.L ++ s.W).length ≤ 1000000000 := by rw [List.length_append]; omega
  have HO := Lib.hid ft.ok.ok
  have d0 := ft.d0
  have d1 := ft.d1
  have lo0 := ft.ok.lo0
  have lo1 := ft.ok.lo1
  have hi0 := ft.ok.hi0
  have hi1 := ft.ok.hi1
  obtain ⟨p1, p2, p3⟩ := ft.okp
  obtain ⟨r1, r2⟩ := pts_rise p1 p2 p3 (ft.ne nn)
  have hpl := prs_length d (s.L ++ s.W)
  have A0 : AtW s.hi (tot (prs d (s.L ++ s.W))) sp (prs d (s.L ++ s.W)) (atI s.lo s.hi (prs d (s.L ++ s.W)) sp) 0 s.lo 0 := ⟨rfl, r1, s0, lo0, by rw [List.drop_zero, List.take_zero]; exact congrArg Prod.fst r2, Int.le_refl _⟩
  have HTP := prs_tot d (s.L ++ s.W)
  rw [HTP] at A0
  generalize atI s.lo s.hi (prs d (s.L ++ s.W)) sp = ans at *
  obtain ⟨lv, wv, hbk, _⟩ := h
  have hg := hbk.lt
  have c0 := hbk.cell 0
  have c3 := hbk.cell 3
  have c4 := hbk.cell 4
  simp only [List.getElem?_toArray, List.getElem?_cons_succ, List.getElem?_cons_zero] at c0 c3 c4
  have C0 := Lib.hid c0
  have C3 := Lib.hid c3
  have C4 := Lib.hid c4
  have AA := Lib.hid A0
  clear hbk c0 c3 c4 r1 r2 ft A0
  go_enter Try.func33, Try.ntmps33
  go_wp2_with fail
  refine wp_region_plan (fun w' => Below w.heap.size w w') [(0, true), (1, true), (2, true), (3, true), (4, true), (5, false), (6, false), (7, true)] (by kernel_rfl) (by kernel_rfl) ((Below.refl _ _).drew) ?_
  iterate 5
    refine wpPlan_read (by rfl) (by rfl) (fun R hR => ?_)
    apply Exists.intro
    refine ⟨fun w' hS' => ?_, ?_⟩
    · have k0 := (hS'.cell (p := ⟨g, 0, none⟩) hg).trans C0.out
      go_simp
      exact ⟨rfl, rfl⟩
    go_simp
    refine hR _ ?_
    clear hR R
  refine wpPlan_do (by rfl) (by rfl) (fun K hK => ?_)
  go_simp
  refine (rall_any g F d s.lo s.hi s.L s.W _ (RDg.keep H.out (Below.refl _ _).drew) (by omega)).mono ?_
  rintro e w1 ⟨v1, rfl, o1, hb1⟩
  have hbw1 : Below w.heap.size w w1 := (Below.refl _ _).drew.trans hb1
  have hz1 := hbw1.size
  have O1 := Lib.hid o1
  clear o1
  refine hK _ _ (hbw1) ?_
  clear hK K
  refine wpPlan_do (by rfl) (by rfl) (fun K hK => ?_)
  go_simp
  refine (rpressed_any d v1 (s.L ++ s.W) w1 O1.out.rd HO.out hlw2 n1 (by omega) d1).mono ?_
  rintro e w2 ⟨v2, rfl, o2, hb2⟩
  have hbw2 : Below w.heap.size w w2 := hbw1.trans (hb2.mono hz1)
  have hz2 := hbw2.size
  have O2 := Lib.hid o2
  clear o2
  refine hK _ _ (hbw2) ?_
  clear hK K
  iterate 1
    refine wpPlan_read (by rfl) (by rfl) (fun R hR => ?_)
    apply Exists.intro
    refine ⟨fun w' hS' => ?_, ?_⟩
    · have k0 := (hS'.cell (p := ⟨g, 0, none⟩) hg).trans C0.out
      go_simp
      exact ⟨rfl, rfl⟩
    go_simp
    refine hR _ ?_
    clear hR R
  refine wpPlan_nil ?_
  obtain ⟨P, hPe⟩ : ∃ P, prs d (s.L ++ s.W) = P := ⟨_, rfl⟩
  rw [hPe] at O2 AA p1 p3 hpl HTP
  clear hPe p2
  have P1 := Lib.hid p1
  have P3 := Lib.hid p3
  have HT := Lib.hid HTP
  obtain ⟨A, c, rfl, na, ma, fa⟩ := O2.out.form
  have FA := Lib.hid fa
  have hPl : P.length ≤ 1000000000 := by omega
  generalize tot (s.L ++ s.W) = n at *
  have k3 := (hbw2.cell (p := ⟨g, 3, none⟩) hg).trans C3.out
  clear p1 p3 HTP fa hpl
  go_wp2_with fail
  go_loopg [6, 7, 8, 9] (P.length + 1) (fun q vv pp dd i wr => ∃ (j : Nat) (v p dn : Int), q = P.length + 1 - j ∧ j ≤ P.length + 1 ∧ vv = .int .i64 v ∧ pp = .int .u64 p ∧ dd = .int .u64 dn ∧ i = .int .i64 j ∧ Below w2.heap.size w2 wr ∧
    ((j ≤ P.length ∧ Hid (AtW s.hi n sp P ans j v p) ∧ Hid (dn = tot (P.take j))) ∨ (j = P.length + 1 ∧ Hid (ans = s.hi))))
  case atStart => exact ⟨0, s.lo, 0, 0, rfl, Nat.zero_le _, rfl, rfl, rfl, rfl, Below.refl _ _, .inl ⟨Nat.zero_le _, AA, rfl⟩⟩
  case round =>
    obtain ⟨j, v, p, dn, hk, hj, rfl, rfl, rfl, rfl, hb3, hcase⟩ := hrel
    have HK := Lib.hid hk
    have hz3 := hb3.size
    have k4 := ((hbw2.trans (hb3.mono hz2)).cell (p := ⟨g, 4, none⟩) hg).trans C4.out
    clear hk
    rcases hcase with ⟨hjP, HA, HD⟩ | ⟨hjP, HE⟩
    · have a1 := HA.out.b
      have a2 := HA.out.h
      have a3 := HA.out.p0
      by_cases hlt : j < P.length
      · obtain ⟨g5, q5, rfl, hg5, e0, e1⟩ := (FA.out.keep hb3).at_ hlt
        have hm := P1.out P[j] (List.getElem_mem hlt)
        have hm1 := hm.1
        have hm2 := hm.2.1
        have hm3 := hm.2.2
        have htk := P1.out.tot_get hlt
        have htk0 := (P1.out.tot_take j).1
        rw [HT.out, ← HD.out] at htk
        rw [← HD.out] at htk0
        have HTT : Hid (tot (P.take (j + 1)) = dn + P[j].2) := by show _ = _; rw [tot_take_succ P j hlt, HD.out]
        by_cases hs : sp < 2 * dn + P[j].2
        · have hh := HA.out.hit hlt (by rw [← HD.out]; exact hs)
          rw [← HD.out] at hh
          obtain ⟨h1, h2, h3⟩ := hh
          have HR := Lib.hid h3
          have LB := lerpI_bd h1 (x := sp - p) (y := 2 * dn + P[j].2 - p) (by omega) (by omega) (by omega)
          have MC := fun w => Lib.hid (rmuldiv_le (P[j].1 - v) (sp - p) (2 * dn + P[j].2 - p) w (by omega) (by omega) (by omega) (by omega) (by omega) (by omega))
          clear h3 hm
          generalize P[j] = m at *
          have eF : wrap64 (IntKind.u64.wrap (IntKind.u64.wrap v + (m.1 - v) * (sp - p) / (2 * dn + m.2 - p))) = ans := by
            rw [HR.out]
            unfold lerpI at *
            generalize (m.1 - v) * (sp - p) / (2 * dn + m.2 - p) = f at *
            simp only [u64w, wrap64]
            omega
          have EF := Lib.hid eF
          clear eF LB
          generalize (m.1 - v) * (sp - p) / (2 * dn + m.2 - p) = f at *
          generalize (m.1 - v) * (sp - p) % (2 * dn + m.2 - p) = f2 at *
          have ew : IntKind.u64.wrap (IntKind.u64.wrap m.1 - IntKind.u64.wrap v) = m.1 - v := by simp only [u64w]; omega
          go_wp2_with fail
          refine ((MC _).out).mono ?_
          rintro e w5 ⟨rfl, hb5⟩
          clear ew
          go_wp2_with fail
          go_ret
          exact ⟨ret_int EF.out, (hbw2.trans (hb3.mono hz2)).trans (hb5.mono (by omega))⟩
        · have HN := Lib.hid (HA.out.next hlt (by rw [← HD.out]; exact hs))
          rw [← HD.out] at HN
          clear hm
          generalize P[j] = m at *
          go_wp2_with fail
          go_roundg (P.length + 1 - (j + 1))
          case measure => have := HK.out; omega
          case rel => exact ⟨j + 1, m.1, 2 * dn + m.2, dn + m.2, rfl, by omega, rfl, rfl, rfl, by go_num, hb3, .inl ⟨by omega, HN, HTT.out.symm⟩⟩
      · have hjl : j = P.length := by omega
        subst hjl
        have hh := HA.out.last
        obtain ⟨h1, h2, h3, h4⟩ := hh
        have HDn : Hid (dn = n) := by show _ = _; rw [HD.out, List.take_length, HT.out]
        have hdn0 : 0 ≤ dn ∧ dn ≤ n := by rw [HDn.out]; omega
        have hdn1 : n ≤ dn := by rw [HDn.out]; omega
        by_cases hs : sp < 2 * n
        · have HR := Lib.hid (h3 hs)
          rw [← HDn.out] at HR h2 hs
          have LB := lerpI_bd h1 (x := sp - p) (y := 2 * dn - p) (by omega) (by omega) (by omega)
          have MC := fun w => Lib.hid (rmuldiv_le (s.hi - v) (sp - p) (2 * dn - p) w (by omega) (by omega) (by omega) (by omega) (by omega) (by omega))
          clear h3 h4
          have eF : wrap64 (IntKind.u64.wrap (IntKind.u64.wrap v + (s.hi - v) * (sp - p) / (2 * dn - p))) = ans := by
            rw [HR.out]
            unfold lerpI at *
            generalize (s.hi - v) * (sp - p) / (2 * dn - p) = f at *
            simp only [u64w, wrap64]
            omega
          have EF := Lib.hid eF
          clear eF LB
          generalize (s.hi - v) * (sp - p) / (2 * dn - p) = f at *
          generalize (s.hi - v) * (sp - p) % (2 * dn - p) = f2 at *
          have ew : IntKind.u64.wrap (IntKind.u64.wrap s.hi - IntKind.u64.wrap v) = s.hi - v := by simp only [u64w]; omega
          go_wp2_with fail
          refine ((MC _).out).mono ?_
          rintro e w5 ⟨rfl, hb5⟩
          clear ew
          go_wp2_with fail
          go_ret
          exact ⟨ret_int EF.out, (hbw2.trans (hb3.mono hz2)).trans (hb5.mono (by omega))⟩
        · have HR := Lib.hid (h4 hs)
          rw [← HDn.out] at hs
          clear h3 h4
          go_wp2_with fail
          go_roundg (P.length + 1 - (P.length + 1))
          case measure => have := HK.out; omega
          case rel => exact ⟨P.length + 1, s.hi, 2 * dn, dn, rfl, by omega, rfl, rfl, rfl, by go_num, hb3, .inr ⟨rfl, HR⟩⟩
    · have hlt : ¬ j ≤ P.length := by omega
      clear hjP
      go_wp2_with fail
      go_ret
      exact ⟨ret_int HE.out.symm, hbw2.trans (hb3.mono hz2)⟩
end Go.Proofs.Ytedhpkfbobgkgaa
