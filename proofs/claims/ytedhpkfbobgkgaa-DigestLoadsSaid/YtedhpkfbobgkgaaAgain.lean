/- DigestAgain's walk. -/
import Derived.Test.YtedhpkfbobgkgaaSame
import Derived.Test.YtedhpkfbobgkgaaLoad
namespace Go.Proofs.Ytedhpkfbobgkgaa
open Go.RowKit Go.Lib

/-- More values, each with a weight of 2. -/
def twos (l : List Int) : List (Int × Int) := l.map fun x => (x, 2)
theorem twos_ok {l : List Int} (h : ∀ x ∈ l, -9223372036854775808 ≤ x ∧ x ≤ 9223372036854775807) : okL (twos l) := by
  intro m hm
  obtain ⟨x, hx, rfl⟩ := List.mem_map.1 hm
  exact ⟨(h x hx).1, (h x hx).2, by simp only; omega⟩
theorem twos_tot : ∀ l : List Int, tot (twos l) = 2 * l.length
  | [] => rfl
  | x :: l => by simp only [twos, List.map_cons, tot, List.length_cons]; have := twos_tot l; simp only [twos] at this; rw [this]; omega
theorem twos_length (l : List Int) : (twos l).length = l.length := by simp [twos]
theorem twos_take (l : List Int) (j : Nat) (h : j < l.length) : twos (l.take (j + 1)) = twos (l.take j) ++ [(l[j], 2)] := by
  rw [List.take_succ_eq_append_getElem h]; unfold twos; rw [List.map_append]; rfl
theorem more_fit {d : Int} {s : St} {k : Nat} {l : List Int} (ft : Fit d s k) (hk : k ≤ 80) (hs : tot (s.L ++ s.W) ≤ 80000) (h : ∀ x ∈ l, -9223372036854775808 ≤ x ∧ x ≤ 9223372036854775807) (hl : l.length ≤ 40) : Fit d (St.adds d s (twos l)) 120 ∧ tot ((St.adds d s (twos l)).L ++ (St.adds d s (twos l)).W) ≤ 80080 := by
  have h1 := St.adds_ok (d := d) (by have := ft.d0; omega) (twos l) s k ft.ok (twos_ok h)
  rw [twos_length] at h1
  have h2 := St.adds_n d (twos l) s
  rw [twos_tot] at h2
  exact ⟨⟨h1.more (by omega), by omega, by omega, ft.d0, ft.d1⟩, by omega⟩

theorem LoadP.yes {d lo hi : Int} {L W : List Mn} {w w' : World} {e : Ending} (h : LoadP d lo hi L W w e w') (hr : rightI d lo hi L W = true) :
    ∃ (g : Nat) (F : Nat → Prop), e = .returned (.tuple #[.pointer (some ⟨g, 0, none⟩), .int .i64 0]) ∧ DgS w' g F d ⟨L, W, lo, hi⟩ ∧ (∀ k, F k → w.heap.size ≤ k) ∧ Below w.heap.size w w' := by
  rcases h with ⟨_, h⟩ | ⟨h, _⟩
  · exact h
  · rw [hr] at h; cases h
theorem LoadP.no {d lo hi : Int} {L W : List Mn} {w w' : World} {e : Ending} (h : LoadP d lo hi L W w e w') (hr : rightI d lo hi L W = false) :
    e = .returned (.tuple #[.pointer none, .int .i64 1]) ∧ Below w.heap.size w w' := by
  rcases h with ⟨h, _⟩ | ⟨_, h⟩
  · rw [hr] at h; cases h
  · exact h

set_option maxRecDepth 100000 in
set_option maxHeartbeats 4000000 in
theorem again_any (d : Int) (vl vn vm : Value) (l n more : List Int) (w : World) (d0 : 0 ≤ d) (d1 : d ≤ 65535) (hl : RdI .i64 w vl l) (hn : RdI .u16 w vn n) (hm : RdI .i64 w vm more)
    (bl : ∀ x ∈ l, -9223372036854775808 ≤ x ∧ x ≤ 9223372036854775807) (bn : ∀ x ∈ n, 0 ≤ x ∧ x ≤ 65535) (bm : ∀ x ∈ more, -9223372036854775808 ≤ x ∧ x ≤ 9223372036854775807) :
    Calls Try.prog 9 #[.int .u16 d, vl, vn, vm] w fun e w' => e = .returned (.bool true) ∧ Below w.heap.size w w' := by
  obtain ⟨A, ca, rfl, na, ma, fa⟩ := hl.form
  obtain ⟨B, cb, rfl, nb, mb, fb⟩ := hn.form
  obtain ⟨C, cc, rfl, nc, mc, fc⟩ := hm.form
  have FC := Lib.hid fc
  have FT := sOf_fit (d := 10 + d % 60) (l := l) (n := n) (k := min l.length 80) bl (by omega) (by omega) (by omega)
  have AD := fun w1 (hb : Below w.heap.size w w1) => Lib.hid (added_any d _ _ l n w1 d0 d1 (hl.keep hb) (hn.keep hb) bl bn)
  have hts : tot ((sOf (10 + d % 60) l n (min l.length 80)).L ++ (sOf (10 + d % 60) l n (min l.length 80)).W) ≤ 80000 := by
    rw [sOf_n]; have := (given_tot l n (min l.length 80)).2; omega
  have hk80 : min l.length 80 ≤ 80 := by omega
  have FI := fun w => Lib.hid (fine_any d w d0 d1)
  have BM := Lib.hid bm
  clear hl hn hm fa fb fc bl bn bm
  generalize sOf (10 + d % 60) l n (min l.length 80) = s at *
  generalize min l.length 80 = kk at *
  generalize 10 + d % 60 = D at *
  have n0 := FT.ok.n_nonneg
  have n1 := FT.t
  have hlw : s.L.length + s.W.length ≤ 1000000 := by have := FT.ok.len; omega
  have FT' := Lib.hid FT
  have HR := Lib.hid (ok_right FT.ok FT.t FT.d0 FT.d1)
  have hraw : rawL (s.L ++ s.W) := fun m hm => by
    have h1 := FT.ok.ok m hm
    have h3 := h1.2.2
    have h4 : m.2 ≤ tot (s.L ++ s.W) := by
      obtain ⟨i, hi, rfl⟩ := List.getElem_of_mem hm
      have := FT.ok.ok.tot_get hi
      have := (FT.ok.ok.tot_take i).1
      omega
    exact ⟨h1.1, h1.2.1, by omega, by omega⟩
  have HRAW := Lib.hid hraw
  have HMF := Lib.hid (fun (q : List Int) (h : ∀ x ∈ q, -9223372036854775808 ≤ x ∧ x ≤ 9223372036854775807) (h2 : q.length ≤ 40) => more_fit FT hk80 hts h h2)
  have hEn : Hid (∀ (w : World) (g : Nat) (F : Nat → Prop), DgS w g F D s → ∃ e0 : Int, Calls Try.prog 38 #[.pointer (some ⟨g, 0, none⟩)] w fun e w' => e = .returned (.tuple #[.int .i64 s.lo, .int .i64 s.hi, .int .i64 e0]) ∧ Below w.heap.size w w') := by
    intro w g F h
    by_cases hz : tot (s.L ++ s.W) = 0
    · obtain ⟨h1, h2⟩ := FT.ok.emp (FT.ok.n_zero.1 hz)
      have hd := h
      unfold DgS at hd
      rw [hz] at hd
      rw [h1, h2]
      exact ⟨8, ends_none w hd⟩
    · exact ⟨0, ends_some w h (by omega)⟩
  clear hraw FT
  go_enter Try.func9, Try.ntmps9
  go_wp2_with fail
  refine (alive_any w).mono ?_
  rintro e' w1 ⟨rfl, hb1⟩
  have hz1 := hb1.size
  go_wp2_with fail
  refine ((AD _ hb1).out).mono ?_
  rintro e' w2 ⟨g1, g2, rfl, F1, F2, t1, t2, t3, t4, t5, t6⟩
  have hz2 := t6.size
  have T1 := Lib.hid t1
  have T2 := Lib.hid t2
  have T5 := Lib.hid t5
  have hb2 : Below w.heap.size w w2 := hb1.trans (t6.mono hz1)
  clear t1 t2 t3 t4 t5 t6
  go_wp2_with fail
  obtain ⟨e0, hE⟩ := hEn.out w2 g1 F1 T1.out
  refine hE.mono ?_
  rintro e' w3 ⟨rfl, hb3⟩
  clear hE
  have hz3 := hb3.size
  have D3 := Lib.hid (Dg.keep T1.out hb3)
  have R3 := Lib.hid (RDg.keep T2.out hb3)
  go_wp2_with fail
  refine ((FI _).out).mono ?_
  rintro e' w' ⟨rfl, rfl⟩
  go_wp2_with fail
  refine (list_any w3 D3.out (by omega)).mono ?_
  rintro e' w4 ⟨v4, rfl, o4, hb4⟩
  have hz4 := hb4.size
  have O4 := Lib.hid o4
  have D4 := Lib.hid (Dg.keep D3.out hb4)
  have R4 := Lib.hid (RDg.keep R3.out hb4)
  clear o4
  go_wp2_with fail
  refine (waits_any w4 D4.out (by omega)).mono ?_
  rintro e' w5 ⟨v5, rfl, o5, hb5⟩
  have hz5 := hb5.size
  have O5 := Lib.hid o5
  have R5 := Lib.hid (RDg.keep R4.out hb5)
  clear o5
  go_wp2_with fail
  refine (load_any D s.lo s.hi v4 v5 s.L s.W w5 (O4.out.rd.keep hb5) O5.out.rd HRAW.out hlw).mono ?_
  intro e' w6 h6
  obtain ⟨g3, F3, rfl, d6, f6, hb6⟩ := h6.yes HR.out
  clear h6
  have hz6 := hb6.size
  have D6 : Hid (DgS w6 g3 F3 D s) := Lib.hid d6
  have R6 := Lib.hid (RDg.keep R5.out hb6)
  have hb06 : Below w.heap.size w w6 := (((hb2.trans (hb3.mono (by omega))).trans (hb4.mono (by omega))).trans (hb5.mono (by omega))).trans (hb6.mono (by omega))
  have TW : Hid (Two w.heap.size w w6 g3 g2 D (St.adds D s (twos (more.take 0)))) :=
    ⟨F3, F2, D6.out, R6.out, fun k h1 h2 => (by have := f6 k h1; have := RDg.low R5.out k h2; omega), fun k h => (by have := f6 k h; omega), fun k h => (by have := T5.out k h; omega), hb06⟩
  clear d6 f6
  obtain ⟨M, hM⟩ : ∃ M, min more.length 40 = M := ⟨_, rfl⟩
  have hM1 : M ≤ 40 := by omega
  have hM2 : M ≤ more.length := by omega
  have hM3 : more.length ≤ M ∨ 40 ≤ M := by omega
  clear hM
  have hz06 := hb06.size
  go_wp2_with fail
  go_loopg [16] M (fun q i wr => ∃ j : Nat, q = M - j ∧ j ≤ M ∧ i = .int .i64 j ∧ Hid (Two w.heap.size w wr g3 g2 D (St.adds D s (twos (more.take j)))) ∧ w.heap.size ≤ wr.heap.size)
  case atStart => exact ⟨0, rfl, Nat.zero_le _, rfl, TW, hz06⟩
  case round =>
    obtain ⟨j, hk, hj, rfl, HT, hz⟩ := hrel
    have HK := Lib.hid hk
    clear hk
    by_cases hlt : j < M
    · have hlt1 : j < more.length := by omega
      have hlt2 : j < 40 := by omega
      obtain ⟨gC, oC, rfl, hgC, e0⟩ := FC.out.at_ hlt1
      have E0 := Lib.hid e0
      have hbx := BM.out more[j] (List.getElem_mem hlt1)
      have HTK := Lib.hid (twos_take more j hlt1)
      obtain ⟨x, hx⟩ : ∃ x, more[j] = x := ⟨_, rfl⟩
      rw [hx] at E0 hbx HTK
      clear e0 hx
      have hq := HMF.out (more.take j) (fun x hx => BM.out x (List.mem_of_mem_take hx)) (by rw [List.length_take]; omega)
      have hq' := HMF.out (more.take (j + 1)) (fun x hx => BM.out x (List.mem_of_mem_take hx)) (by rw [List.length_take]; omega)
      have HS : Hid (St.adds D s (twos (more.take (j + 1))) = (St.adds D s (twos (more.take j))).add D x 2) := by show _ = _; rw [HTK.out, St.adds_snoc]
      rw [HS.out] at hq'
      generalize St.adds D s (twos (more.take j)) = q at *
      obtain ⟨Fa, Fb, a1, a2, a3, a4, a5, a6⟩ := HT.out
      have A1 := Lib.hid a1
      have A2 := Lib.hid a2
      have A3 := Lib.hid a3
      have A4 := Lib.hid a4
      have A5 := Lib.hid a5
      have A6 := Lib.hid a6
      have Q1 := Lib.hid hq.1
      have hqt := hq.2
      have Q2 := Lib.hid hq'.1
      clear a1 a2 a3 a4 a5 hq hq' HT
      go_upto_region 13 with fail
      refine wp_region_plan (fun w' => Below w.heap.size w w') [(0, true), (1, true), (2, true), (3, true), (4, true), (6, true), (7, true), (8, true), (9, true), (10, true), (5, false), (11, false), (12, true), (13, true), (14, true), (15, true), (16, false), (17, true), (18, true)] (by kernel_rfl) (by kernel_rfl) (a6.drew) ?_
      iterate 10
        refine wpPlan_read (by rfl) (by rfl) (fun R hR => ?_)
        apply Exists.intro
        refine ⟨fun w' hS' => ?_, ?_⟩
        · have k0 := (hS'.cell (p := ⟨gC, oC + j, none⟩) hgC).trans E0.out
          go_simp
          exact ⟨rfl, rfl⟩
        go_simp
        refine hR _ ?_
        clear hR R
      refine wpPlan_do (by rfl) (by rfl) (fun K hK => ?_)
      go_simp
      refine (addS_any x 2 _ (Dg.keep A1.out (Below.refl _ _).drew) Q1.out (by omega) hbx.1 hbx.2 (by omega) (by omega)).mono ?_
      rintro e' w8 ⟨rfl, F', b1, b2, b3⟩
      have B1 := Lib.hid b1
      have B2 := Lib.hid b2
      have B3 := Lib.hid b3
      have hb8 : Below w.heap.size w w8 := a6.drew.trans (b3.base A4.out hz)
      have hz8 := b3.size
      have R8 : Hid (RDgS w8 g2 Fb D q) := Lib.hid (RDgS.far (RDg.keep A2.out (Below.refl _ _).drew) b3 A3.out)
      clear b1 b2 b3
      refine hK _ _ (hb8) ?_
      clear hK K
      refine wpPlan_do (by rfl) (by rfl) (fun K hK => ?_)
      go_simp
      refine (radd_yes x 2 w8 R8.out Q1.out (by omega) hbx.1 hbx.2 (by omega) (by omega)).mono ?_
      rintro e' w9 ⟨rfl, F'', c1, c2, c3⟩
      have T9 := Lib.hid (Two.step (Dg.keep A1.out (Below.refl _ _).drew) (RDg.keep A2.out (Below.refl _ _).drew) A3.out A4.out A5.out a6.drew hz B1.out B2.out B3.out c1 c2 c3)
      have hz9 := c3.size
      have hb9 : Below w.heap.size w w9 := hb8.trans (c3.base A5.out (by have := hb8.size; omega))
      clear c1 c2 c3
      refine hK _ _ (hb9) ?_
      clear hK K
      iterate 4
        refine wpPlan_read (by rfl) (by rfl) (fun R hR => ?_)
        apply Exists.intro
        refine ⟨fun w' hS' => ?_, ?_⟩
        · have k0 := (hS'.cell (p := ⟨gC, oC + j, none⟩) hgC).trans E0.out
          go_simp
          exact ⟨rfl, rfl⟩
        go_simp
        refine hR _ ?_
        clear hR R
      refine wpPlan_do (by rfl) (by rfl) (fun K hK => ?_)
      go_simp
      obtain ⟨Fc, Fd, u1, u2, u3, u4, u5, u6⟩ := T9.out
      refine (same_any w9 u1 u2 Q2.out).mono ?_
      rintro e' w10 ⟨rfl, hb10⟩
      have T10 : Hid (Two w.heap.size w w10 g3 g2 D (q.add D x 2)) := Lib.hid (T9.out.keep hb10 (by have := hb9.size; omega))
      have hz10 := hb10.size
      clear u1 u2 u3 u4 u5
      refine hK _ _ (u6.trans (hb10.mono (by have := hb9.size; omega))) ?_
      clear hK K
      iterate 2
        refine wpPlan_read (by rfl) (by rfl) (fun R hR => ?_)
        apply Exists.intro
        refine ⟨fun w' hS' => ?_, ?_⟩
        · have k0 := (hS'.cell (p := ⟨gC, oC + j, none⟩) hgC).trans E0.out
          go_simp
          exact ⟨rfl, rfl⟩
        go_simp
        refine hR _ ?_
        clear hR R
      refine wpPlan_nil ?_
      go_wp2_with fail
      go_roundg (M - (j + 1))
      case measure => have := HK.out; omega
      case rel => exact ⟨j + 1, rfl, by omega, by go_num, by rw [HS.out]; exact T10, by have := hb9.size; omega⟩
    · have hE : j = M := by omega
      have hb9 := HT.out
      obtain ⟨Fa, Fb, a1, a2, a3, a4, a5, a6⟩ := hb9
      clear a1 a2 a3 a4 a5
      subst hE
      by_cases hll : j < more.length
      · have h40 : ¬ (j < 40) := by omega
        go_wp2_with fail
        go_ret
        exact ⟨rfl, a6⟩
      · go_wp2_with fail
        go_ret
        exact ⟨rfl, a6⟩
end Go.Proofs.Ytedhpkfbobgkgaa
