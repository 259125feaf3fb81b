/- DigestWeights' walk. -/
import Derived.Test.YtedhpkfbobgkgaaDigR
namespace Go.Proofs.Ytedhpkfbobgkgaa
open Go.RowKit Go.Lib

set_option maxRecDepth 100000 in
theorem press_none {g : Nat} {F : Nat → Prop} {d lo hi n : Int} {L W : List Mn} (w : World) (h : Dg w g F d L W lo hi n) (h0 : L.length + W.length = 0) :
    Calls Try.prog 26 #[.pointer (some ⟨g, 0, none⟩)] w fun e w' => e = .returned (.tuple #[]) ∧ Below w.heap.size w w' := by
  have hL : L = [] := List.eq_nil_of_length_eq_zero (by omega)
  have hW : W = [] := List.eq_nil_of_length_eq_zero (by omega)
  subst hL
  subst hW
  clear h0
  obtain ⟨lv, wv, hb, hl, hw, _⟩ := h
  obtain ⟨A, ca, rfl, na, ma, fa⟩ := hl.form
  obtain ⟨B, cb, rfl, nb, mb, fb⟩ := hw.form
  have c1 := hb.cell 1
  have c2 := hb.cell 2
  simp only [List.getElem?_toArray, List.getElem?_cons_succ, List.getElem?_cons_zero, List.length_nil] at c1 c2
  clear hb hl hw fa fb
  go_enter Try.func26, Try.ntmps26
  go_wp2_with fail
  refine bodyPost_end (v := .tuple #[]) (by simp [results, Try.results26, go_sem, *]; try rfl) rfl ?_
  exact ⟨rfl, by (repeat' (first | (with_reducible exact Below.refl _ _) | (with_reducible refine Below.alloc ?_ ?_ _) | (with_reducible refine Below.drew ?_) | (with_reducible refine below_drewN ?_ _) | (with_reducible refine Below.setCell ?_ ?_ _) | (with_reducible refine below_of (by assumption) ?_ ?_) | go_size))⟩

theorem Ok.pressS {d : Int} {s : St} {k : Nat} (h : Fit d s k) : Fit d (s.press d) k := ⟨h.ok.press (by have := h.d0; omega), h.k1, by rw [St.press_n]; exact h.t, h.d0, h.d1⟩

set_option maxRecDepth 100000 in
set_option maxHeartbeats 1000000 in
theorem weights_any (d : Int) (vl vn : Value) (l n : List Int) (w : World) (d0 : 0 ≤ d) (d1 : d ≤ 65535) (hl : RdI .i64 w vl l) (hn : RdI .u16 w vn n)
    (bl : ∀ x ∈ l, -9223372036854775808 ≤ x ∧ x ≤ 9223372036854775807) (bn : ∀ x ∈ n, 0 ≤ x ∧ x ≤ 65535) :
    Calls Try.prog 5 #[.int .u16 d, vl, vn] w fun e w' => e = .returned (.bool true) ∧ Below w.heap.size w w' := by
  obtain ⟨A, ca, rfl, na, ma, fa⟩ := hl.form
  obtain ⟨B, cb, rfl, nb, mb, fb⟩ := hn.form
  have FT := sOf_fit (d := 10 + d % 60) (l := l) (n := n) (k := min l.length 80) bl (by omega) (by omega) (by omega)
  have AD := fun w1 (hb : Below w.heap.size w w1) => Lib.hid (added_any d _ _ l n w1 d0 d1 (hl.keep hb) (hn.keep hb) bl bn)
  clear hl hn fa fb bl bn
  generalize sOf (10 + d % 60) l n (min l.length 80) = s at *
  generalize 10 + d % 60 = D at *
  have n0 := FT.ok.n_nonneg
  have n1 := FT.t
  have D0 := FT.d0
  have D1 := FT.d1
  have FT' := Lib.hid FT
  have FP := Lib.hid (Ok.pressS FT)
  have hlw : s.L.length + s.W.length ≤ 100000000 := by have := FT.ok.len; have := FT.k1; omega
  have hpl := prs_length D (s.L ++ s.W)
  rw [List.length_append] at hpl
  have hP := FT.okp
  have HTP := Lib.hid (prs_tot D (s.L ++ s.W))
  by_cases hz : tot (s.L ++ s.W) = 0
  · have he := FT.ok.n_zero.1 hz
    have hel : s.L.length + s.W.length = 0 := by rw [← List.length_append, he]; rfl
    have HL0 : Hid (s.L = []) := List.eq_nil_of_length_eq_zero (by omega)
    have HW0 : Hid (s.W = []) := List.eq_nil_of_length_eq_zero (by omega)
    have HEL := Lib.hid hel
    have HZ := Lib.hid hz
    have HA := Lib.hid (ask_zero (d := D) hz 0 1 ⟨by decide, by decide⟩)
    clear hz he hel hP HTP hpl
    go_enter Try.func5, Try.ntmps5
    go_wp2_with fail
    refine (alive_any w).mono ?_
    rintro e' w1 ⟨rfl, hb1⟩
    have hz1 := hb1.size
    go_wp2_with fail
    refine ((AD _ hb1).out).mono ?_
    rintro e' w2 ⟨g1, g2, rfl, F1, F2, t1, t2, t3, t4, t5, t6⟩
    have hz2 := t6.size
    have T1 := Lib.hid t1
    have T2 := Lib.hid t2
    have hb2 : Below w.heap.size w w2 := hb1.trans (t6.mono hz1)
    clear t1 t2 t3 t4 t5 t6
    go_wp2_with fail
    refine (press_none w2 T1.out HEL.out).mono ?_
    rintro e' w3 ⟨rfl, hb3⟩
    have hz3 := hb3.size
    have D3 := Lib.hid (Dg.keep T1.out hb3)
    have R3 := Lib.hid (RDg.keep T2.out hb3)
    go_wp2_with fail
    refine (list_any w3 D3.out (by omega)).mono ?_
    rintro e' w4 ⟨v4, rfl, o4, hb4⟩
    have hz4 := hb4.size
    have D4 := Lib.hid (Dg.keep D3.out hb4)
    have R4 := Lib.hid (RDg.keep R3.out hb4)
    rw [HL0.out] at o4
    obtain ⟨A4, c4, rfl, n4, m4, f4⟩ := o4.form
    have O4 := Lib.hid o4
    clear o4 f4
    go_wp2_with fail
    refine (rall_any g2 F2 D s.lo s.hi s.L s.W w4 R4.out (by omega)).mono ?_
    rintro e' w5 ⟨v5, rfl, o5, hb5⟩
    have hz5 := hb5.size
    have O5 := Lib.hid o5
    have D5 := Lib.hid (Dg.keep D4.out hb5)
    clear o5
    go_wp2_with fail
    have C1 := rtotal_any v5 _ w5 O5.out.rd FT'.out.ok.ok (by omega)
    rw [HZ.out] at C1
    refine C1.mono ?_
    rintro e' w6 ⟨rfl, hb6⟩
    have hz6 := hb6.size
    have D6 := Lib.hid (Dg.keep D5.out hb6)
    clear C1
    go_wp2_with fail
    refine (rtotal_any _ [] w6 ((O4.out.rd.keep hb5).keep hb6) (fun m hm => by cases hm) (by simp [tot])).mono ?_
    rintro e' w7 ⟨rfl, hb7⟩
    have hz7 := hb7.size
    have D7 := Lib.hid (Dg.keep D6.out hb7)
    have ht0 : tot ([] : List Mn) = 0 := rfl
    rw [ht0]
    clear ht0
    go_wp2_with fail
    refine (waits_any w7 D7.out (by omega)).mono ?_
    rintro e' w8 ⟨v8, rfl, o8, hb8⟩
    have hz8 := hb8.size
    have D8 := Lib.hid (Dg.keep D7.out hb8)
    rw [HW0.out] at o8
    obtain ⟨A8, c8, rfl, n8, m8, f8⟩ := o8.form
    clear o8 f8
    simp only [List.length_nil]
    go_wp2_with fail
    go_loopg [12] 0 (fun q i wr => i = .int .i64 0 ∧ wr = w8)
    case atStart => exact ⟨rfl, rfl⟩
    case round =>
      obtain ⟨rfl, rfl⟩ := hrel
      have CA := fun q => at_any 0 1 (wr.drewN q) (Dg.keep D8.out (below_drewN (Below.refl _ _) q)) FT'.out (by omega) (by omega) (by omega) (by omega)
      simp only [HA.out] at CA
      have CA' := fun q => Lib.hid (CA q)
      clear CA
      go_wp2_with fail
      go_quiet (fail)
      go_wp2_with fail
      refine ((CA' _).out).mono ?_
      rintro e' w9 ⟨rfl, hb9⟩
      go_wp2_with fail
      go_ret
      exact ⟨rfl, by (repeat' (first | (with_reducible exact Below.refl _ _) | (with_reducible refine Below.alloc ?_ ?_ _) | (with_reducible refine Below.drew ?_) | (with_reducible refine below_drewN ?_ _) | (with_reducible refine Below.setCell ?_ ?_ _) | (with_reducible refine below_of (by assumption) ?_ ?_) | go_size))⟩
  · have nn : 0 < tot (s.L ++ s.W) := by omega
    have hne : s.L ++ s.W ≠ [] := fun e => by rw [e] at nn; simp [tot] at nn
    have HF := Lib.hid (ask_first FP.out (by rw [St.press_n]; exact nn))
    have PC := fun (g1 : Nat) (F1 : Nat → Prop) (w2 : World) (h : DgS w2 g1 F1 D s) => Lib.hid (press_any g1 F1 D s.lo s.hi s.L s.W w2 h FT.ok.ok hne hlw n1 (by omega) D1)
    have HPS : Hid ((s.press D).L = prs D (s.L ++ s.W) ∧ (s.press D).W = [] ∧ (s.press D).lo = s.lo) := ⟨rfl, rfl, rfl⟩
    have HPN := Lib.hid (St.press_n D s)
    obtain ⟨P, hPe⟩ : ∃ P, prs D (s.L ++ s.W) = P := ⟨_, rfl⟩
    rw [hPe] at hP HTP hpl HPS
    have hP0 : 0 < P.length := by
      rcases Nat.eq_zero_or_pos P.length with h | h
      · have := List.eq_nil_of_length_eq_zero h; rw [this] at hPe; exact absurd hPe (prs_pos D hne)
      · exact h
    have HPE := Lib.hid hPe
    have HP1 := Lib.hid hP.1
    have HP2 := Lib.hid hP.2.1
    have HP3 := Lib.hid hP.2.2
    have hzb : ((P.length : Int) == 0) = false := beq_eq_false_iff_ne.2 (by omega)
    clear hPe hP hne hz
    go_enter Try.func5, Try.ntmps5
    go_wp2_with fail
    refine (alive_any w).mono ?_
    rintro e' w1 ⟨rfl, hb1⟩
    have hz1 := hb1.size
    go_wp2_with fail
    refine ((AD _ hb1).out).mono ?_
    rintro e' w2 ⟨g1, g2, rfl, F1, F2, t1, t2, t3, t4, t5, t6⟩
    have hz2 := t6.size
    have T1 := Lib.hid t1
    have T2 := Lib.hid t2
    have T3 := Lib.hid t3
    have T4 := Lib.hid t4
    have hb2 : Below w.heap.size w w2 := hb1.trans (t6.mono hz1)
    clear t1 t2 t3 t4 t5 t6
    go_wp2_with fail
    refine ((PC _ _ w2 T1.out).out).mono ?_
    rintro e' w3 ⟨rfl, F1', p1, p2, p3⟩
    have hz3 := p3.size
    have D3 : Hid (DgS w3 g1 F1' D (s.press D)) := by show DgS w3 g1 F1' D (s.press D); unfold DgS; rw [HPN.out]; exact p2
    have R3 := Lib.hid (T2.out.far p3 T3.out)
    have hb3 : Below w.heap.size w w3 := hb2.trans (p3.base (fun i hi => Nat.le_trans hz1 (T4.out i hi)) (by omega))
    clear p1 p2 p3
    go_wp2_with fail
    have hPL : (s.press D).L.length ≤ 1099511627776 := by rw [HPS.out.1]; omega
    refine (list_any w3 D3.out hPL).mono ?_
    rintro e' w4 ⟨v4, rfl, o4, hb4⟩
    have hz4 := hb4.size
    have D4 := Lib.hid (Dg.keep D3.out hb4)
    have R4 := Lib.hid (RDg.keep R3.out hb4)
    rw [HPS.out.1] at o4
    obtain ⟨A4, c4, rfl, n4, m4, f4⟩ := o4.form
    obtain ⟨g4, q4, rfl, hg4, _, _⟩ := f4.at_ hP0
    have F4 := Lib.hid f4
    have O4 := Lib.hid o4
    clear o4 f4
    go_wp2_with fail
    refine (rall_any g2 F2 D s.lo s.hi s.L s.W w4 R4.out (by omega)).mono ?_
    rintro e' w5 ⟨v5, rfl, o5, hb5⟩
    have hz5 := hb5.size
    have O5 := Lib.hid o5
    have D5 := Lib.hid (Dg.keep D4.out hb5)
    have R5 := Lib.hid (RDg.keep R4.out hb5)
    clear o5
    go_wp2_with fail
    refine (rtotal_any v5 _ w5 O5.out.rd FT'.out.ok.ok (by omega)).mono ?_
    rintro e' w6 ⟨rfl, hb6⟩
    have hz6 := hb6.size
    have D6 := Lib.hid (Dg.keep D5.out hb6)
    have R6 := Lib.hid (RDg.keep R5.out hb6)
    go_wp2_with fail
    have C1 := rtotal_any _ P w6 ((O4.out.rd.keep hb5).keep hb6) HP1.out (by rw [HTP.out]; omega)
    rw [HTP.out] at C1
    refine C1.mono ?_
    rintro e' w7 ⟨rfl, hb7⟩
    have hz7 := hb7.size
    have D7 := Lib.hid (Dg.keep D6.out hb7)
    have R7 := Lib.hid (RDg.keep R6.out hb7)
    clear C1
    go_wp2_with fail
    have hPW : (s.press D).W.length ≤ 1099511627776 := by rw [HPS.out.2.1]; simp
    refine (waits_any w7 D7.out hPW).mono ?_
    rintro e' w8 ⟨v8, rfl, o8, hb8⟩
    have hz8 := hb8.size
    have D8 := Lib.hid (Dg.keep D7.out hb8)
    have R8 := Lib.hid (RDg.keep R7.out hb8)
    rw [HPS.out.2.1] at o8
    obtain ⟨A8, c8, rfl, n8, m8, f8⟩ := o8.form
    have hbw4 : Below w4.heap.size w4 w8 := ((hb5.trans (hb6.mono (by omega))).trans (hb7.mono (by omega))).trans (hb8.mono (by omega))
    have F8 := Lib.hid (F4.out.keep hbw4)
    have hbw8 : Below w.heap.size w w8 := (hb3.trans (hb4.mono (by omega))).trans (hbw4.mono (by omega))
    obtain ⟨rl, rw', hbk, _⟩ := R8.out
    have y3 := hbk.cell 3
    have y4 := hbk.cell 4
    simp only [List.getElem?_toArray, List.getElem?_cons_succ, List.getElem?_cons_zero] at y3 y4
    have hg2 := hbk.lt
    have Y3 := Lib.hid y3
    have Y4 := Lib.hid y4
    clear o8 f8 hbk y3 y4
    simp only [List.length_nil]
    go_wp2_with fail
    go_loopg [11, 12] P.length (fun q dn i wr => ∃ j : Nat, q = P.length - j ∧ j ≤ P.length ∧ i = .int .i64 j ∧ dn = .int .u64 (tot (P.take j)) ∧ Below w8.heap.size w8 wr)
    case atStart => exact ⟨0, rfl, Nat.zero_le _, rfl, rfl, Below.refl _ _⟩
    case round =>
      obtain ⟨j, hk, hj, rfl, rfl, hb9⟩ := hrel
      have HK := Lib.hid hk
      have hz9 := hb9.size
      have y3 := (hb9.cell (p := ⟨g2, 3, none⟩) hg2).trans Y3.out
      have y4 := (hb9.cell (p := ⟨g2, 4, none⟩) hg2).trans Y4.out
      clear hk
      by_cases hlt : j < P.length
      · have htk := HP1.out.tot_get hlt
        have htk0 := (HP1.out.tot_take j).1
        have hm := HP3.out P[j] (List.getElem_mem hlt)
        have hmo := (HP1.out P[j] (List.getElem_mem hlt)).2.2
        have HTT := Lib.hid (tot_take_succ P j hlt)
        have htp := HTP.out
        obtain ⟨g5, q5, hA5, _, e0, e1⟩ := (F8.out.keep hb9).at_ hlt
        simp only [Option.some.injEq, Addr.mk.injEq] at hA5
        obtain ⟨rfl, rfl, -⟩ := hA5
        rw [htp] at htk
        clear htp
        have hrs : ∀ m : Nat, j = m + 1 → ∀ h : m < P.length, P[m].1 ≤ P[j].1 := fun m hm h => List.pairwise_iff_getElem.1 HP2.out m j h hlt (by omega)
        obtain ⟨x, hx⟩ : ∃ x, P[j] = x := ⟨_, rfl⟩
        obtain ⟨a, ha⟩ : ∃ a, tot (P.take j) = a := ⟨_, rfl⟩
        rw [hx] at hrs e0 e1 hm hmo htk HTT
        rw [ha] at htk htk0 HTT ⊢
        clear hx ha
        have hd1 : decide (x.1 < s.lo) = false := decide_eq_false (by omega)
        have hd2 : decide (s.hi < x.1) = false := decide_eq_false (by omega)
        rcases Nat.eq_zero_or_pos j with rfl | hj0
        · have z0 : ((0 : Nat) : Int) = 0 := rfl
          simp only [Nat.zero_mul, Nat.add_zero] at e0 e1
          rw [z0]
          clear z0 hrs
          go_wp2_with fail
          go_quiet (fail)
          go_wp2_with fail
          go_roundg (P.length - (0 + 1))
          case measure => have := HK.out; omega
          case rel => exact ⟨1, rfl, by omega, rfl, by rw [HTT.out], below_drewN hb9 _⟩
        · obtain ⟨m, rfl⟩ : ∃ m, j = m + 1 := ⟨j - 1, by omega⟩
          have hrm := hrs m rfl (by omega)
          obtain ⟨g6, q6, hA6, _, e2, _⟩ := (F8.out.keep hb9).at_ (j := m) (by omega)
          simp only [Option.some.injEq, Addr.mk.injEq] at hA6
          obtain ⟨rfl, rfl, -⟩ := hA6
          obtain ⟨y, hy⟩ : ∃ y, P[m] = y := ⟨_, rfl⟩
          rw [hy] at hrm e2
          clear hrs hy
          have j0 : decide ((0 : Int) < (m : Int) + 1) = true := decide_eq_true (by omega)
          have hd3 : decide (x.1 < y.1) = false := decide_eq_false (by omega)
          have j1 : (0 : Int) ≤ (m : Int) := by omega
          have j2 : (m : Int) < (P.length : Int) := by omega
          have j5 : (0 : Int) ≤ (m : Int) + 1 := by omega
          have j6 : (m : Int) + 1 < (P.length : Int) := by omega
          go_wp2_with fail
          have j3 : ((m : Int) + 1).toNat = m + 1 := by omega
          have j4 : IntKind.i64.wrap (m : Int) = (m : Int) := IntWalk.i64_in _ (by omega)
          go_quiet (fail)
          clear j3 j4
          go_wp2_with fail
          go_roundg (P.length - (m + 1 + 1))
          case measure => have := HK.out; omega
          case rel => exact ⟨m + 1 + 1, rfl, by omega, by go_num, by rw [HTT.out], below_drewN hb9 _⟩
      · have hE : Hid (tot (P.take j) = tot (s.L ++ s.W)) := by show _ = _; rw [List.take_of_length_le (by omega)]; exact HTP.out
        rw [hE.out]
        have hm := HP3.out P[0] (List.getElem_mem hP0)
        obtain ⟨g5, q5, hA5, _, e0, _⟩ := (F8.out.keep hb9).at_ hP0
        simp only [Option.some.injEq, Addr.mk.injEq] at hA5
        obtain ⟨rfl, rfl, -⟩ := hA5
        obtain ⟨x, hx⟩ : ∃ x, P[0] = x := ⟨_, rfl⟩
        rw [hx] at e0 hm
        simp only [Nat.zero_mul, Nat.add_zero] at e0
        clear hx
        have CA := fun q => at_any 0 1 (wr.drewN q) (Dg.keep D8.out (hb9.trans (below_drewN (Below.refl _ _) q |>.mono (by omega)))) FP.out (by omega) (by omega) (by omega) (by omega)
        simp only [HF.out, HPS.out.2.2] at CA
        have CA' := fun q => Lib.hid (CA q)
        clear CA
        go_wp2_with fail
        go_quiet (fail)
        go_wp2_with fail
        refine ((CA' _).out).mono ?_
        rintro e' w9 ⟨rfl, hb10⟩
        have y5 := (hb10.cell (p := ⟨g2, 3, none⟩) (by show g2 < _; rw [size_drewN]; omega)).trans y3
        go_wp2_with fail
        go_ret
        exact ⟨rfl, (hbw8.trans (hb9.mono (by omega))).trans ((below_drewN (Below.refl _ _) _ |>.mono (by omega)).trans (hb10.mono (by rw [size_drewN]; omega)))⟩
end Go.Proofs.Ytedhpkfbobgkgaa
