/- Upto of the reference's digest. -/
import Derived.Test.YtedhpkfbobgkgaaRefAt
namespace Go.Proofs.Ytedhpkfbobgkgaa
open Go.RowKit Go.Lib

set_option maxRecDepth 100000 in
set_option maxHeartbeats 4000000 in
theorem rupto_any {g : Nat} {F : Nat → Prop} {d : Int} {s : St} {k : Nat} (x : Int) (w : World) (h : RDgS w g F d s) (ft : Fit d s k) (x0 : -9223372036854775808 ≤ x) (x1 : x ≤ 9223372036854775807) :
    Calls Try.prog 34 #[.pointer (some ⟨g, 0, none⟩), .int .i64 x] w fun e w' => e = .returned (.int .u64 (uptoS d s x)) ∧ Below w.heap.size w w' := by
  have H := Lib.hid h
  have n0 := ft.ok.n_nonneg
  have n1 := ft.t
  have hlw : s.L.length + s.W.length ≤ 100000000 := by have := ft.ok.len; have := ft.k1; omega
  have hlw2 : (s.L ++ s.W).length ≤ 1000000000 := by rw [List.length_append]; omega
  have HO := Lib.hid ft.ok.ok
  have d0 := ft.d0
  have d1 := ft.d1
  have lo0 := ft.ok.lo0
  have lo1 := ft.ok.lo1
  have hi0 := ft.ok.hi0
  have hi1 := ft.ok.hi1
  obtain ⟨p1, p2, p3⟩ := ft.okp
  have hpl := prs_length d (s.L ++ s.W)
  have HTP := prs_tot d (s.L ++ s.W)
  have A0 : 0 < tot (s.L ++ s.W) → s.lo ≤ x → x < s.hi → UpW s.hi (tot (s.L ++ s.W)) x (prs d (s.L ++ s.W)) (uptoS d s x) 0 s.lo 0 := fun nn hl hh => by
    obtain ⟨r1, r2⟩ := pts_rise p1 p2 p3 (ft.ne nn)
    rw [HTP] at r1
    refine ⟨?_, r1, hl, Int.le_refl _⟩
    unfold uptoS uptoI
    rw [HTP, if_neg (by omega), if_neg (by omega)]
    rfl
  have U0 : tot (s.L ++ s.W) = 0 ∨ x < s.lo → uptoS d s x = 0 := fun h => upto_none (by omega)
  have U1 : ¬ (tot (s.L ++ s.W) = 0 ∨ x < s.lo) → s.hi ≤ x → uptoS d s x = tot (s.L ++ s.W) := fun h h2 => by unfold uptoS uptoI; rw [HTP, if_neg h, if_pos h2]
  generalize uptoS d s x = ans at *
  obtain ⟨lv, wv, hbk, _⟩ := h
  have hg := hbk.lt
  have c0 := hbk.cell 0
  have c3 := hbk.cell 3
  have c4 := hbk.cell 4
  simp only [List.getElem?_toArray, List.getElem?_cons_succ, List.getElem?_cons_zero] at c0 c3 c4
  have C0 := Lib.hid c0
  have C3 := Lib.hid c3
  have C4 := Lib.hid c4
  have AA := Lib.hid A0
  have UU0 := Lib.hid U0
  have UU1 := Lib.hid U1
  clear hbk c0 c3 c4 ft A0 U0 U1
  go_enter Try.func34, Try.ntmps34
  go_wp2_with fail
  refine wp_region_plan (fun w' => Below w.heap.size w w') [(0, true), (1, true), (2, true), (3, true), (4, true), (5, false), (6, false), (7, true)] (by kernel_rfl) (by kernel_rfl) ((Below.refl _ _).drew) ?_
  iterate 5
    refine wpPlan_read (by rfl) (by rfl) (fun R hR => ?_)
    apply Exists.intro
    refine ⟨fun w' hS' => ?_, ?_⟩
    · have k0 := (hS'.cell (p := ⟨g, 0, none⟩) hg).trans C0.out
      go_simp
      exact ⟨rfl, rfl⟩
    go_simp
    refine hR _ ?_
    clear hR R
  refine wpPlan_do (by rfl) (by rfl) (fun K hK => ?_)
  go_simp
  refine (rall_any g F d s.lo s.hi s.L s.W _ (RDg.keep H.out (Below.refl _ _).drew) (by omega)).mono ?_
  rintro e w1 ⟨v1, rfl, o1, hb1⟩
  have hbw1 : Below w.heap.size w w1 := (Below.refl _ _).drew.trans hb1
  have hz1 := hbw1.size
  have O1 := Lib.hid o1
  clear o1
  refine hK _ _ (hbw1) ?_
  clear hK K
  refine wpPlan_do (by rfl) (by rfl) (fun K hK => ?_)
  go_simp
  refine (rpressed_any d v1 (s.L ++ s.W) w1 O1.out.rd HO.out hlw2 n1 (by omega) d1).mono ?_
  rintro e w2 ⟨v2, rfl, o2, hb2⟩
  have hbw2 : Below w.heap.size w w2 := hbw1.trans (hb2.mono hz1)
  have hz2 := hbw2.size
  have O2 := Lib.hid o2
  clear o2
  refine hK _ _ (hbw2) ?_
  clear hK K
  iterate 1
    refine wpPlan_read (by rfl) (by rfl) (fun R hR => ?_)
    apply Exists.intro
    refine ⟨fun w' hS' => ?_, ?_⟩
    · have k0 := (hS'.cell (p := ⟨g, 0, none⟩) hg).trans C0.out
      go_simp
      exact ⟨rfl, rfl⟩
    go_simp
    refine hR _ ?_
    clear hR R
  refine wpPlan_nil ?_
  obtain ⟨P, hPe⟩ : ∃ P, prs d (s.L ++ s.W) = P := ⟨_, rfl⟩
  rw [hPe] at O2 AA p1 p3 hpl HTP
  clear hPe p2
  have P1 := Lib.hid p1
  have P3 := Lib.hid p3
  have HT := Lib.hid HTP
  obtain ⟨A, c, rfl, na, ma, fa⟩ := O2.out.form
  have FA := Lib.hid fa
  have hPl : P.length ≤ 1000000000 := by omega
  clear p1 p3 HTP fa hpl
  go_wp2_with fail
  have C9 := rtotal_any _ P w2 O2.out.rd P1.out (by rw [HT.out]; omega)
  rw [HT.out] at C9
  refine C9.mono ?_
  rintro e w3 ⟨rfl, hb3⟩
  clear C9
  have hz3 := hb3.size
  have hbw3 : Below w.heap.size w w3 := hbw2.trans (hb3.mono hz2)
  have F3 := Lib.hid (FA.out.keep hb3)
  have k3 := (hbw3.cell (p := ⟨g, 3, none⟩) hg).trans C3.out
  have k4 := (hbw3.cell (p := ⟨g, 4, none⟩) hg).trans C4.out
  generalize tot (s.L ++ s.W) = n at *
  by_cases hn : n = 0
  · have hE := Lib.hid (UU0.out (.inl hn))
    have hnb : (n == 0) = true := beq_iff_eq.2 hn
    clear hn
    go_wp2_with fail
    go_ret
    exact ⟨ret_int hE.out.symm, hbw3⟩
  · have hnb : (n == 0) = false := beq_eq_false_iff_ne.2 hn
    by_cases hxl : x < s.lo
    · have hE := Lib.hid (UU0.out (.inr hxl))
      clear hn
      go_wp2_with fail
      go_ret
      exact ⟨ret_int hE.out.symm, hbw3⟩
    · by_cases hxh : s.hi ≤ x
      · have hE := Lib.hid (UU1.out (by omega) hxh)
        clear hn
        go_wp2_with fail
        go_ret
        exact ⟨ret_int hE.out.symm, hbw3⟩
      · have W0 := Lib.hid (AA.out (by omega) (by omega) (by omega))
        have nn : 0 < n := by omega
        clear hn UU0 UU1 AA
        go_wp2_with fail
        go_loopg [7, 8, 9, 10] (P.length + 1) (fun q vv pp dd i wr => ∃ (j : Nat) (v p dn : Int), q = P.length + 1 - j ∧ j ≤ P.length ∧ vv = .int .i64 v ∧ pp = .int .u64 p ∧ dd = .int .u64 dn ∧ i = .int .i64 j ∧ wr = w3 ∧
          Hid (UpW s.hi n x P ans j v p) ∧ Hid (dn = tot (P.take j)) ∧ (-9223372036854775808 ≤ v))
        case atStart => exact ⟨0, s.lo, 0, 0, rfl, Nat.zero_le _, rfl, rfl, rfl, rfl, rfl, W0, rfl, lo0⟩
        case round =>
          obtain ⟨j, v, p, dn, hk, hj, rfl, rfl, rfl, rfl, rfl, HA, HD, a2⟩ := hrel
          have HK := Lib.hid hk
          clear hk
          have a1 := HA.out.b
          have a3 := HA.out.p0
          by_cases hlt : j < P.length
          · obtain ⟨g5, q5, rfl, hg5, e0, e1⟩ := F3.out.at_ hlt
            have hm := P1.out P[j] (List.getElem_mem hlt)
            have hm1 := hm.1
            have hm2 := hm.2.1
            have hm3 := hm.2.2
            have htk := P1.out.tot_get hlt
            have htk0 := (P1.out.tot_take j).1
            rw [HT.out, ← HD.out] at htk
            rw [← HD.out] at htk0
            have HTT : Hid (tot (P.take (j + 1)) = dn + P[j].2) := by show _ = _; rw [tot_take_succ P j hlt, HD.out]
            by_cases hs : x < P[j].1
            · have hh := HA.out.hit hlt hs
              rw [← HD.out] at hh
              obtain ⟨h2, h3⟩ := hh
              have HR := Lib.hid h3
              have PB := part_bd (p := 2 * dn + P[j].2 - p) (x := x - v) (y := P[j].1 - v) (by omega) (by omega) (by omega) (by omega) rfl
              have MC := fun w => Lib.hid (rmuldiv_le (2 * dn + P[j].2 - p) (x - v) (P[j].1 - v) w (by omega) (by omega) (by omega) (by omega) (by omega) (by omega))
              clear h3 hm
              generalize P[j] = m at *
              generalize (2 * dn + m.2 - p) * (x - v) / (m.1 - v) = f at *
              generalize (2 * dn + m.2 - p) * (x - v) % (m.1 - v) = f2 at *
              have ew : IntKind.u64.wrap (IntKind.u64.wrap x - IntKind.u64.wrap v) = x - v := by simp only [u64w]; omega
              have ew2 : IntKind.u64.wrap (IntKind.u64.wrap m.1 - IntKind.u64.wrap v) = m.1 - v := by simp only [u64w]; omega
              go_wp2_with fail
              refine ((MC _).out).mono ?_
              rintro e w5 ⟨rfl, hb5⟩
              clear ew ew2
              go_wp2_with fail
              go_ret
              exact ⟨ret_int HR.out.symm, hbw3.trans (hb5.mono (by omega))⟩
            · have HN := Lib.hid (HA.out.next hlt hs)
              rw [← HD.out] at HN
              clear hm
              generalize P[j] = m at *
              go_wp2_with fail
              go_roundg (P.length + 1 - (j + 1))
              case measure => have := HK.out; omega
              case rel => exact ⟨j + 1, m.1, 2 * dn + m.2, dn + m.2, rfl, by omega, rfl, rfl, rfl, by go_num, rfl, HN, HTT.out.symm, hm1⟩
          · have hjl : j = P.length := by omega
            subst hjl
            obtain ⟨h2, h3⟩ := HA.out.last (by omega)
            have HR := Lib.hid h3
            have PB := part_bd (p := 2 * n - p) (x := x - v) (y := s.hi - v) (by omega) (by omega) (by omega) (by omega) rfl
            have MC := fun w => Lib.hid (rmuldiv_le (2 * n - p) (x - v) (s.hi - v) w (by omega) (by omega) (by omega) (by omega) (by omega) (by omega))
            clear h3
            generalize (2 * n - p) * (x - v) / (s.hi - v) = f at *
            generalize (2 * n - p) * (x - v) % (s.hi - v) = f2 at *
            have ew : IntKind.u64.wrap (IntKind.u64.wrap x - IntKind.u64.wrap v) = x - v := by simp only [u64w]; omega
            have ew2 : IntKind.u64.wrap (IntKind.u64.wrap s.hi - IntKind.u64.wrap v) = s.hi - v := by simp only [u64w]; omega
            go_wp2_with fail
            refine ((MC _).out).mono ?_
            rintro e w5 ⟨rfl, hb5⟩
            clear ew ew2
            go_wp2_with fail
            go_ret
            exact ⟨ret_int HR.out.symm, hbw3.trans (hb5.mono (by omega))⟩
end Go.Proofs.Ytedhpkfbobgkgaa
