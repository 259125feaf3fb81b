/- DigestMeans' walk. -/
import Derived.Test.YtedhpkfbobgkgaaMeanD
import Derived.Test.YtedhpkfbobgkgaaWeights
namespace Go.Proofs.Ytedhpkfbobgkgaa
open Go.RowKit Go.Lib

theorem not_len_zero {l : List Mn} (h : l ≠ []) : 0 < l.length := by cases l with | nil => exact absurd rfl h | cons _ _ => simp

set_option maxRecDepth 100000 in
set_option maxHeartbeats 2000000 in
theorem means_any (d : Int) (vl vn : Value) (l n : List Int) (w : World) (d0 : 0 ≤ d) (d1 : d ≤ 65535) (hl : RdI .i64 w vl l) (hn : RdI .u16 w vn n)
    (bl : ∀ x ∈ l, -9223372036854775808 ≤ x ∧ x ≤ 9223372036854775807) (bn : ∀ x ∈ n, 0 ≤ x ∧ x ≤ 65535) :
    Calls Try.prog 11 #[.int .u16 d, vl, vn] w fun e w' => e = .returned (.bool true) ∧ Below w.heap.size w w' := by
  obtain ⟨A, ca, rfl, na, ma, fa⟩ := hl.form
  obtain ⟨B, cb, rfl, nb, mb, fb⟩ := hn.form
  have FT := sOf_fit (d := 10 + d % 60) (l := l) (n := n) (k := min l.length 80) bl (by omega) (by omega) (by omega)
  have AD := fun w1 (hb : Below w.heap.size w w1) => Lib.hid (added_any d _ _ l n w1 d0 d1 (hl.keep hb) (hn.keep hb) bl bn)
  clear hl hn fa fb bl bn
  generalize sOf (10 + d % 60) l n (min l.length 80) = s at *
  generalize 10 + d % 60 = D at *
  have n0 := FT.ok.n_nonneg
  have n1 := FT.t
  have D0 := FT.d0
  have D1 := FT.d1
  have FT' := Lib.hid FT
  have hlw : s.L.length + s.W.length ≤ 100000000 := by have := FT.ok.len; have := FT.k1; omega
  have MC := fun (g1 : Nat) (F1 : Nat → Prop) (w2 : World) (h : DgS w2 g1 F1 D s) => Lib.hid (dmean_any g1 F1 D s.lo s.hi (tot (s.L ++ s.W)) s.L s.W w2 h FT.ok.ok hlw n1)
  by_cases hz : tot (s.L ++ s.W) = 0
  · have he := FT.ok.n_zero.1 hz
    have hel : s.L.length + s.W.length = 0 := by rw [← List.length_append, he]; rfl
    have HM : Hid (meanR (s.L ++ s.W) = (0, 8)) := by show meanR _ = _; rw [he]; rfl
    have HE := Lib.hid he
    clear hz he hel
    go_enter Try.func11, Try.ntmps11
    go_wp2_with fail
    refine (alive_any w).mono ?_
    rintro e' w1 ⟨rfl, hb1⟩
    have hz1 := hb1.size
    go_wp2_with fail
    refine ((AD _ hb1).out).mono ?_
    rintro e' w2 ⟨g1, g2, rfl, F1, F2, t1, t2, t3, t4, t5, t6⟩
    have hz2 := t6.size
    have T1 := Lib.hid t1
    have T2 := Lib.hid t2
    have hb2 : Below w.heap.size w w2 := hb1.trans (t6.mono hz1)
    clear t1 t2 t3 t4 t5 t6
    go_wp2_with fail
    have C1 := (MC _ _ w2 T1.out).out
    rw [HM.out] at C1
    refine C1.mono ?_
    rintro e' w3 ⟨rfl, hb3⟩
    have hz3 := hb3.size
    clear C1
    go_wp2_with fail
    refine (rall_any g2 F2 D s.lo s.hi s.L s.W w3 (RDg.keep T2.out hb3) (by omega)).mono ?_
    rintro e' w5 ⟨v5, rfl, o5, hb5⟩
    have hz5 := hb5.size
    rw [HE.out] at o5
    obtain ⟨A5, c5, rfl, n5, m5, f5⟩ := o5.form
    clear o5 f5
    simp only [List.length_nil]
    go_wp2_with fail
    go_ret
    exact ⟨rfl, by (repeat' (first | (with_reducible exact Below.refl _ _) | (with_reducible refine Below.alloc ?_ ?_ _) | (with_reducible refine Below.drew ?_) | (with_reducible refine below_drewN ?_ _) | (with_reducible refine Below.setCell ?_ ?_ _) | (with_reducible refine below_of (by assumption) ?_ ?_) | go_size))⟩
  · have nn : 0 < tot (s.L ++ s.W) := by omega
    have hne : s.L ++ s.W ≠ [] := fun e => by rw [e] at nn; simp [tot] at nn
    have PC := fun (g1 : Nat) (F1 : Nat → Prop) (w2 : World) (h : DgS w2 g1 F1 D s) => Lib.hid (press_any g1 F1 D s.lo s.hi s.L s.W w2 h FT.ok.ok hne hlw n1 (by omega) D1)
    have hP := prs_ok D s.lo s.hi FT.ok.ok FT.ok.bd
    have hPt := prs_tot D (s.L ++ s.W)
    have hPl := prs_length D (s.L ++ s.W)
    have hpl0 := not_len_zero (prs_pos D hne)
    have hll : (s.L ++ s.W).length ≤ 100000000 := by rw [List.length_append]; exact hlw
    have hl0 := not_len_zero hne
    have BD := meanI_bd FT.ok.ok nn FT.ok.bd
    have PR := meanI_press D FT.ok.ok nn
    have HM : Hid (meanR (s.L ++ s.W) = (meanI (s.L ++ s.W), 0)) := by show meanR _ = _; unfold meanR; rw [if_neg (by omega)]
    have HMP : Hid (meanR (prs D (s.L ++ s.W)) = (meanI (prs D (s.L ++ s.W)), 0)) := by show meanR _ = _; unfold meanR; rw [if_neg (by omega)]
    have MP := fun (g1 : Nat) (F1 : Nat → Prop) (w2 : World) (h : Dg w2 g1 F1 D (prs D (s.L ++ s.W)) [] s.lo s.hi (tot (s.L ++ s.W))) => Lib.hid (dmean_any g1 F1 D s.lo s.hi (tot (s.L ++ s.W)) (prs D (s.L ++ s.W)) [] w2 h (by rw [List.append_nil]; exact hP.1) (by simp only [List.length_nil]; omega) (by rw [List.append_nil, hPt]; exact n1))
    rw [List.append_nil] at MP
    have HO := Lib.hid FT.ok.ok
    have lo0 := FT.ok.lo0
    have hi1 := FT.ok.hi1
    have BP := meanI_bd (lo := s.lo) (hi := s.hi) hP.1 (by rw [hPt]; exact nn) hP.2.2
    have hzb : (((s.L ++ s.W).length : Int) == 0) = false := beq_eq_false_iff_ne.2 (by omega)
    have HALL := fun (g2 : Nat) (F2 : Nat → Prop) (w4 : World) (h : RDg w4 g2 F2 D s.L s.W s.lo s.hi) => Lib.hid (rall_any g2 F2 D s.lo s.hi s.L s.W w4 h (by omega))
    clear hP hPl hpl0 hne hz FT
    generalize prs D (s.L ++ s.W) = P at *
    generalize s.L ++ s.W = l at *
    generalize meanI P = z at *
    have ew := Lib.hid (show IntKind.u64.wrap (IntKind.u64.wrap (meanI l) - IntKind.u64.wrap z) = meanI l - z by simp only [u64w]; omega)
    obtain ⟨y, hy⟩ : ∃ y, meanI l = y := ⟨_, rfl⟩
    rw [hy] at ew BD PR HM
    have HY := Lib.hid hy
    obtain ⟨BD1, BD2⟩ := BD
    obtain ⟨PR1, PR2⟩ := PR
    clear hy
    go_enter Try.func11, Try.ntmps11
    go_wp2_with fail
    refine (alive_any w).mono ?_
    rintro e' w1 ⟨rfl, hb1⟩
    have hz1 := hb1.size
    go_wp2_with fail
    refine ((AD _ hb1).out).mono ?_
    rintro e' w2 ⟨g1, g2, rfl, F1, F2, t1, t2, t3, t4, t5, t6⟩
    have hz2 := t6.size
    have T1 := Lib.hid t1
    have T2 := Lib.hid t2
    have T3 := Lib.hid t3
    have T4 := Lib.hid t4
    have hb2 : Below w.heap.size w w2 := hb1.trans (t6.mono hz1)
    clear t1 t2 t3 t4 t5 t6
    go_wp2_with fail
    have C1 := (MC _ _ w2 T1.out).out
    rw [HM.out] at C1
    refine C1.mono ?_
    rintro e' w3 ⟨rfl, hb3⟩
    have hz3 := hb3.size
    have D3 := Lib.hid (Dg.keep T1.out hb3)
    have R3 := Lib.hid (RDg.keep T2.out hb3)
    clear C1
    go_wp2_with fail
    refine ((HALL g2 F2 w3 R3.out).out).mono ?_
    rintro e' w5 ⟨v5, rfl, o5, hb5⟩
    have hz5 := hb5.size
    have D5 := Lib.hid (Dg.keep D3.out hb5)
    have R5 := Lib.hid (RDg.keep R3.out hb5)
    obtain ⟨A5, c5, rfl, n5, m5, f5⟩ := o5.form
    obtain ⟨g5, q5, rfl, hg5, _, _⟩ := f5.at_ hl0
    have F5 := Lib.hid f5
    clear o5 f5
    go_wp2_with fail
    go_loopg [12, 13, 14] l.length (fun q v m i wr => ∃ j : Nat, q = l.length - j ∧ j ≤ l.length ∧ i = .int .i64 j ∧ OwnI 2 .i64 w5.heap.size wr v ((l.take j).map (·.1)) ∧ OwnI 25 .u64 w5.heap.size wr m ((l.take j).map (·.2)) ∧ Hid (∀ k, m.ownBlock = some k → v.ownBlock ≠ some k) ∧ Below w5.heap.size w5 wr)
    case atStart => exact ⟨0, rfl, Nat.zero_le _, rfl, OwnI.nil_ _ _ _ _, OwnI.nil_ _ _ _ _, Lib.hid (fun k e => (by simp [Value.ownBlock] at e)), Below.refl _ _⟩
    case round =>
      obtain ⟨j, hk, hj, rfl, ov, om, hsep, hb⟩ := hrel
      have HK := Lib.hid hk
      have OV := Lib.hid ov
      have OM := Lib.hid om
      have hzr := hb.size
      clear hk ov om
      by_cases hlt : j < l.length
      · obtain ⟨g6, q6, hA6, _, e0, e1⟩ := (F5.out.keep hb).at_ hlt
        simp only [Option.some.injEq, Addr.mk.injEq] at hA6
        obtain ⟨rfl, rfl, -⟩ := hA6
        have HTV : Hid ((l.take (j + 1)).map (·.1) = (l.take j).map (·.1) ++ [l[j].1]) := by show _ = _; rw [List.take_succ_eq_append_getElem hlt, List.map_append]; rfl
        have HTM : Hid ((l.take (j + 1)).map (·.2) = (l.take j).map (·.2) ++ [l[j].2]) := by show _ = _; rw [List.take_succ_eq_append_getElem hlt, List.map_append]; rfl
        have hl2 : ((l.take j).map (·.1)).length + 1 ≤ 1099511627776 := by rw [List.length_map, List.length_take]; omega
        have hl3 : ((l.take j).map (·.2)).length + 1 ≤ 1099511627776 := by rw [List.length_map, List.length_take]; omega
        generalize l[j].1 = a at *
        generalize l[j].2 = b at *
        obtain ⟨lv, hlv⟩ : ∃ lv, (l.take j).map (·.1) = lv := ⟨_, rfl⟩
        obtain ⟨lm, hlm⟩ : ∃ lm, (l.take j).map (·.2) = lm := ⟨_, rfl⟩
        rw [hlv] at HTV hl2 OV
        rw [hlm] at HTM hl3 OM
        clear hlv hlm
        go_wp2_with (first
          | (at_builtin
             refine append_I Try.underlying23 infoS rfl (.tmp 52) (.tmp 58) rfl w5.heap.size u12 lv rfl (OV.out.alloc _) _ [a] rfl (RdI.one_at _ _ _ _ _ rfl) hl2 (by simp only [World.size_alloc]; omega) ?_
             intro v6 w6 o6 g6 a6
             have hb6 : Below w5.heap.size w5 w6 := (hb.alloc (by omega) _).grown g6 (by simp only [World.size_alloc]; omega) (fun k hk => (OV.out.lt k hk).1)
             have OV6 := Lib.hid o6
             have hz6 := g6.size
             simp only [World.size_alloc] at hz6
             have OM6 : Hid (OwnI 25 .u64 w5.heap.size w6 u13 lm) := (OM.out.alloc _).stay fun k e => g6.block k (by have := (OM.out.lt k e).2; simp only [World.size_alloc]; omega) (fun e2 => hsep.out k e e2.symm)
             have S6 : Hid (∀ k, u13.ownBlock = some k → v6.ownBlock ≠ some k) := fun k e e2 => by
               rcases a6 with a | a
               · exact hsep.out k e (by rw [← a]; exact e2)
               · rw [a] at e2; simp only [World.size_alloc, Option.some.injEq] at e2; have := (OM.out.lt k e).2; omega
             have x1 := (hb6.cell (p := ⟨g5, q5 + j * 2 + 1, none⟩) hg5).trans ((hb.cell (p := ⟨g5, q5 + j * 2 + 1, none⟩) hg5).symm.trans e1)
             clear o6 g6 a6 hsep)
          | (at_builtin
             refine append_I Try.underlying74 infoU rfl (.tmp 60) (.tmp 66) rfl w5.heap.size u13 lm rfl (OM6.out.alloc _) _ [b] rfl (RdI.one_at _ _ _ _ _ rfl) hl3 (by simp only [World.size_alloc]; omega) ?_
             intro v7 w7 o7 g7 a7
             have hb7 : Below w5.heap.size w5 w7 := (hb6.alloc (by omega) _).grown g7 (by simp only [World.size_alloc]; omega) (fun k hk => (OM6.out.lt k hk).1)
             have OM7 := Lib.hid o7
             have OV7 : Hid (OwnI 2 .i64 w5.heap.size w7 v6 (lv ++ [a])) := (OV6.out.alloc _).stay fun k e => g7.block k (by have := (OV6.out.lt k e).2; simp only [World.size_alloc]; omega) (fun e2 => S6.out k e2.symm e)
             have S7 : Hid (∀ k, v7.ownBlock = some k → v6.ownBlock ≠ some k) := fun k e e2 => by
               rcases a7 with a | a
               · exact S6.out k (by rw [← a]; exact e) e2
               · rw [a] at e; simp only [World.size_alloc, Option.some.injEq] at e; have := (OV6.out.lt k e2).2; omega
             clear o7 g7 a7))
        go_roundg (l.length - (j + 1))
        case measure => have := HK.out; omega
        case rel => exact ⟨j + 1, rfl, by omega, by go_num, by rw [HTV.out]; exact OV7.out, by rw [HTM.out]; exact OM7.out, S7, hb7⟩
      · have hE : Hid (l.take j = l) := by show _ = _; rw [List.take_of_length_le (by omega)]
        rw [hE.out] at OV OM
        have D6 := Lib.hid (Dg.keep D5.out hb)
        have R6 := Lib.hid (RDg.keep R5.out (hb.mono (by omega)))
        go_wp2_with fail
        refine (rmean_any u12 u13 l wr OV.out.rd OM.out.rd HO.out hl0 (by omega) n1).mono ?_
        rintro e' w8 ⟨rfl, hb8⟩
        have hz8 := hb8.size
        have D8 := Lib.hid (Dg.keep D6.out hb8)
        have R8 := Lib.hid (RDg.keep R6.out hb8)
        rw [HY.out]
        go_wp2_with fail
        refine ((PC _ _ w8 D8.out).out).mono ?_
        rintro e' w9 ⟨rfl, F1', p1, p2, p3⟩
        have hz9 := p3.size
        have D9 := Lib.hid p2
        have R9 := Lib.hid (RDgS.far (s := s) R8.out p3 T3.out)
        have hb9 : Below w.heap.size w w9 := (((hb2.trans (hb3.mono (by omega))).trans (hb5.mono (by omega))).trans ((hb.mono (by omega)).trans (hb8.mono (by omega)))).trans (p3.base (fun i hi => Nat.le_trans hz1 (T4.out i hi)) (by omega))
        clear p1 p2 p3
        go_wp2_with fail
        have C1 := (MP _ _ w9 D9.out).out
        rw [HMP.out] at C1
        refine C1.mono ?_
        rintro e' w10 ⟨rfl, hb10⟩
        have R10 := Lib.hid (RDg.keep R9.out hb10)
        obtain ⟨rl, rw', hbk, _⟩ := R10.out
        have y3 := hbk.cell 3
        have y4 := hbk.cell 4
        simp only [List.getElem?_toArray, List.getElem?_cons_succ, List.getElem?_cons_zero] at y3 y4
        clear C1 hbk
        have ew' := ew.out
        clear ew
        have hd1 : decide (s.lo ≤ y) = true := decide_eq_true BD1
        have hd2 : decide (y ≤ s.hi) = true := decide_eq_true BD2
        have hd3 : decide (z ≤ y) = true := decide_eq_true PR1
        have hd4 : decide (y - z ≤ (l.length : Int)) = true := decide_eq_true (by omega)
        go_wp2_with fail
        go_ret
        exact ⟨rfl, hb9.trans (hb10.mono (by omega))⟩
end Go.Proofs.Ytedhpkfbobgkgaa
