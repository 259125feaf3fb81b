/- DigestMonotone's walk. -/
import Derived.Test.YtedhpkfbobgkgaaDigR
namespace Go.Proofs.Ytedhpkfbobgkgaa
open Go.RowKit Go.Lib

set_option maxRecDepth 100000 in
set_option maxHeartbeats 4000000 in
theorem monotone_any (d : Int) (vl vn : Value) (l n : List Int) (a b c e v u : Int) (w : World) (d0 : 0 ≤ d) (d1 : d ≤ 65535) (hl : RdI .i64 w vl l) (hn : RdI .u16 w vn n)
    (bl : ∀ x ∈ l, -9223372036854775808 ≤ x ∧ x ≤ 9223372036854775807) (bn : ∀ x ∈ n, 0 ≤ x ∧ x ≤ 65535)
    (a0 : 0 ≤ a) (a1 : a < 18446744073709551616) (b0 : 0 ≤ b) (b1 : b < 18446744073709551616) (c0 : 0 ≤ c) (c1 : c < 18446744073709551616) (e0 : 0 ≤ e) (e1 : e < 18446744073709551616)
    (v0 : -9223372036854775808 ≤ v) (v1 : v ≤ 9223372036854775807) (u0 : -9223372036854775808 ≤ u) (u1 : u ≤ 9223372036854775807) :
    Calls Try.prog 3 #[.int .u16 d, vl, vn, .int .u64 a, .int .u64 b, .int .u64 c, .int .u64 e, .int .i64 v, .int .i64 u] w fun e w' => e = .returned (.bool true) ∧ Below w.heap.size w w' := by
  obtain ⟨A, ca, rfl, na, ma, fa⟩ := hl.form
  obtain ⟨B, cb, rfl, nb, mb, fb⟩ := hn.form
  have HL := Lib.hid hl
  have HN := Lib.hid hn
  have FT := sOf_fit (d := 10 + d % 60) (l := l) (n := n) (k := min l.length 80) bl (by omega) (by omega) (by omega)
  have BL := Lib.hid bl
  have BN := Lib.hid bn
  have hpos : 0 < l.length → 0 < tot ((sOf (10 + d % 60) l n (min l.length 80)).L ++ (sOf (10 + d % 60) l n (min l.length 80)).W) := fun h => sOf_pos (by omega)
  have hzero : l.length = 0 → tot ((sOf (10 + d % 60) l n (min l.length 80)).L ++ (sOf (10 + d % 60) l n (min l.length 80)).W) = 0 := fun h => by rw [sOf_n, h]; rfl
  have AD := fun w1 (hb : Below w.heap.size w w1) => Lib.hid (added_any d _ _ l n w1 d0 d1 (hl.keep hb) (hn.keep hb) bl bn)
  clear hl hn fa fb bl bn
  generalize sOf (10 + d % 60) l n (min l.length 80) = s at *
  generalize 10 + d % 60 = D at *
  have n0 := FT.ok.n_nonneg
  have n1 := FT.t
  have FT' := Lib.hid FT
  by_cases hlen : l.length = 0
  · have hz := hzero hlen
    have HA := Lib.hid (ask_zero (d := D) hz 0 1 ⟨by decide, by decide⟩)
    have HU := Lib.hid (upto_none (d := D) (v := v) (.inr hz))
    have hlb : ((l.length : Int) == 0) = true := beq_iff_eq.2 (by omega)
    clear hz hzero hpos FT hlen
    go_enter Try.func3, Try.ntmps3
    go_wp2_with fail
    refine (alive_any w).mono ?_
    rintro e w1 ⟨rfl, hb1⟩
    have hz1 := hb1.size
    go_wp2_with fail
    refine ((AD _ hb1).out).mono ?_
    rintro e w2 ⟨g1, g2, rfl, F1, F2, t1, t2, t3, t4, t5, t6⟩
    have hz2 := t6.size
    have T1 := Lib.hid t1
    have hb2 : Below w.heap.size w w2 := hb1.trans (t6.mono hz1)
    clear t1 t2 t3 t4 t5 t6
    go_wp2_with fail
    have C1 := at_any 0 1 w2 T1.out FT'.out (by omega) (by omega) (by omega) (by omega)
    rw [HA.out] at C1
    refine C1.mono ?_
    rintro e w3 ⟨rfl, hb3⟩
    have hz3 := hb3.size
    have D3 := Lib.hid (Dg.keep T1.out hb3)
    clear C1
    go_wp2_with fail
    have C1 := upto_any v w3 D3.out FT'.out v0 v1
    rw [HU.out] at C1
    refine C1.mono ?_
    rintro e w4 ⟨rfl, hb4⟩
    clear C1
    go_wp2_with fail
    go_ret
    exact ⟨rfl, by (repeat' (first | (with_reducible exact Below.refl _ _) | (with_reducible refine Below.alloc ?_ ?_ _) | (with_reducible refine Below.drew ?_) | (with_reducible refine below_drewN ?_ _) | (with_reducible refine Below.setCell ?_ ?_ _) | (with_reducible refine below_of (by assumption) ?_ ?_) | go_size))⟩
  · have hp := hpos (by omega)
    have hlb : ((l.length : Int) == 0) = false := beq_eq_false_iff_ne.2 (by omega)
    have HF := Lib.hid (ask_first FT hp)
    have HE := Lib.hid (ask_last FT hp)
    have P1 := ask_bd (a := a) (b := b) FT a0 b0
    have P2 := ask_le (a := a) (b := b) (c := c) (e := e) FT a0 b0 c0 e0
    have P3 := ask_le (a := c) (b := e) (c := a) (e := b) FT c0 e0 a0 b0
    have P4 := ask_nz (d := D) (s := s) (a := a) (b := b)
    have P5 := ask_nz (d := D) (s := s) (a := c) (b := e)
    have RC := fun w => Lib.hid (rcmp11_any a b c e w a0 a1 b0 b1 c0 c1 e0 e1)
    have hr : b ≠ 0 → e ≠ 0 → (if b = 0 ∨ e = 0 then 0 else cmpI (a * e) (c * b)) = cmpI (a * e) (c * b) := fun h1 h2 => if_neg (by omega)
    obtain ⟨p, hpe⟩ : ∃ p, askI D s a b = p := ⟨_, rfl⟩
    obtain ⟨q, hqe⟩ : ∃ q, askI D s c e = q := ⟨_, rfl⟩
    rw [hpe] at P1 P2 P3 P4
    rw [hqe] at P2 P3 P5
    have HP := Lib.hid hpe
    have HQ := Lib.hid hqe
    clear hpe hqe
    obtain ⟨p1, p2⟩ := p
    obtain ⟨q1, q2⟩ := q
    simp only at P1 P2 P3 P4 P5
    have hloi := FT.lohi hp
    have hlo0 := FT.ok.lo0
    have hlo1 := FT.ok.lo1
    have hhi0 := FT.ok.hi0
    have hhi1 := FT.ok.hi1
    have hW : (p2 ≠ 0) ∨ (p2 = 0 ∧ (s.lo ≤ p1 ∧ p1 ≤ s.hi) ∧ q2 ≠ 0) ∨ (p2 = 0 ∧ (s.lo ≤ p1 ∧ p1 ≤ s.hi) ∧ q2 = 0 ∧
        (((if b = 0 ∨ e = 0 then 0 else cmpI (a * e) (c * b)) = -1 ∧ p1 ≤ q1) ∨ ((if b = 0 ∨ e = 0 then 0 else cmpI (a * e) (c * b)) = 0 ∧ p1 = q1) ∨ ((if b = 0 ∨ e = 0 then 0 else cmpI (a * e) (c * b)) = 1 ∧ q1 ≤ p1))) := by
      by_cases hp2 : p2 = 0
      · by_cases hq2 : q2 = 0
        · refine .inr (.inr ⟨hp2, P1 hp2, hq2, ?_⟩)
          rw [hr (P4 hp2) (P5 hq2)]
          have h2 := P2 hp2 hq2
          have h3 := P3 hq2 hp2
          generalize a * e = x at *
          generalize c * b = y at *
          unfold cmpI
          by_cases hxy : x = y
          · rw [if_pos hxy]
            have := h2 (by omega)
            have := h3 (by omega)
            exact .inr (.inl ⟨rfl, by omega⟩)
          · rw [if_neg hxy]
            by_cases hlt : x < y
            · rw [if_pos hlt]; exact .inl ⟨rfl, h2 (by omega)⟩
            · rw [if_neg hlt]; exact .inr (.inr ⟨rfl, h3 (by omega)⟩)
        · exact .inr (.inl ⟨hp2, P1 hp2, hq2⟩)
      · exact .inl hp2
    generalize (if b = 0 ∨ e = 0 then 0 else cmpI (a * e) (c * b)) = r at RC hW
    obtain ⟨x1, hx1⟩ : ∃ x, uptoS D s (min v u) = x := ⟨_, rfl⟩
    obtain ⟨x2, hx2⟩ : ∃ x, uptoS D s (max v u) = x := ⟨_, rfl⟩
    have hx : x1 ≤ x2 := by rw [← hx1, ← hx2]; exact upto_le FT hp (by omega)
    have hxt : x2 ≤ tot (s.L ++ s.W) := by rw [← hx2]; exact (upto_bd FT hp _).2
    have HX1 := Lib.hid hx1
    have HX2 := Lib.hid hx2
    have hx3 := upto_last FT hp
    have hx4 := upto_none (d := D) (s := s) (v := s.lo - 1) (.inl (by omega))
    obtain ⟨t, ht⟩ : ∃ t, tot (s.L ++ s.W) = t := ⟨_, rfl⟩
    have HT := Lib.hid ht
    rw [ht] at hp hxt n0 n1 hx3
    clear hpos hzero hx1 hx2 ht P1 P2 P3 P4 P5 hr FT hlen
    have hV : s.lo = -9223372036854775808 ∨ -9223372036854775808 < s.lo := by omega
    obtain ⟨lo, hlo⟩ : ∃ x, s.lo = x := ⟨_, rfl⟩
    obtain ⟨hi, hhi⟩ : ∃ x, s.hi = x := ⟨_, rfl⟩
    rw [hlo] at hW hV HF hx4 hloi hlo0 hlo1
    rw [hhi] at hW HE hx3 hloi hhi0 hhi1
    have HX3 := Lib.hid hx3
    have HX4 := Lib.hid hx4
    clear hx3 hx4
    have HLO := Lib.hid hlo
    have HHI := Lib.hid hhi
    clear hlo hhi
    have hV2 : (lo = -9223372036854775808 ∧ (lo == -9223372036854775808) = true) ∨ (-9223372036854775808 < lo ∧ (lo == -9223372036854775808) = false) := by
      rcases hV with h | h
      · exact .inl ⟨h, beq_iff_eq.2 h⟩
      · exact .inr ⟨h, beq_eq_false_iff_ne.2 (by omega)⟩
    have hW' : ((p2 == 0) = false) ∨ (p2 = 0 ∧ (lo ≤ p1 ∧ p1 ≤ hi) ∧ (q2 == 0) = false) ∨ (p2 = 0 ∧ (lo ≤ p1 ∧ p1 ≤ hi) ∧ q2 = 0 ∧ ((r = -1 ∧ p1 ≤ q1) ∨ (r = 0 ∧ p1 = q1) ∨ (r = 1 ∧ q1 ≤ p1))) := by
      rcases hW with h | ⟨h, h1, h2⟩ | h
      · exact .inl (beq_eq_false_iff_ne.2 h)
      · exact .inr (.inl ⟨h, h1, beq_eq_false_iff_ne.2 h2⟩)
      · exact .inr (.inr h)
    clear hV hW
    rcases hW' with h | ⟨rfl, h1, h⟩ | ⟨rfl, h1, rfl, (⟨rfl, h⟩ | ⟨rfl, rfl⟩ | ⟨rfl, h⟩)⟩
    all_goals
      go_enter Try.func3, Try.ntmps3
      go_wp2_with fail
      refine (alive_any w).mono ?_
      rintro e' w1 ⟨rfl, hb1⟩
      have hz1 := hb1.size
      go_wp2_with fail
      refine ((AD _ hb1).out).mono ?_
      rintro e' w2 ⟨g1, g2, rfl, F1, F2, t1, t2, t3, t4, t5, t6⟩
      have hz2 := t6.size
      have T1 := Lib.hid t1
      have T2 := Lib.hid t2
      have hb2 : Below w.heap.size w w2 := hb1.trans (t6.mono hz1)
      clear t1 t2 t3 t4 t5 t6
      go_wp2_with fail
      have C1 := at_any 0 1 w2 T1.out FT'.out (by omega) (by omega) (by omega) (by omega)
      rw [HF.out] at C1
      refine C1.mono ?_
      rintro e' w3 ⟨rfl, hb3⟩
      have hz3 := hb3.size
      have D3 := Lib.hid (Dg.keep T1.out hb3)
      have R3 := Lib.hid (RDg.keep T2.out hb3)
      clear C1
      go_wp2_with fail
      have C1 := at_any 1 1 w3 D3.out FT'.out (by omega) (by omega) (by omega) (by omega)
      rw [HE.out] at C1
      refine C1.mono ?_
      rintro e' w4 ⟨rfl, hb4⟩
      have hz4 := hb4.size
      have D4 := Lib.hid (Dg.keep D3.out hb4)
      have R4 := Lib.hid (RDg.keep R3.out hb4)
      clear C1
      obtain ⟨rl, rw', hbk, _⟩ := R4.out
      have y3 := hbk.cell 3
      have y4 := hbk.cell 4
      simp only [List.getElem?_toArray, List.getElem?_cons_succ, List.getElem?_cons_zero] at y3 y4
      rw [HLO.out] at y3
      rw [HHI.out] at y4
      clear hbk
      go_wp2_with fail
      clear y3 y4
      have C1 := at_any a b w4 D4.out FT'.out a0 a1 b0 b1
      rw [HP.out] at C1
      refine C1.mono ?_
      rintro e' w5 ⟨rfl, hb5⟩
      have hz5 := hb5.size
      have D5 := Lib.hid (Dg.keep D4.out hb5)
      clear C1
      go_wp2_with fail
      have C1 := at_any c e w5 D5.out FT'.out c0 c1 e0 e1
      rw [HQ.out] at C1
      refine C1.mono ?_
      rintro e' w6 ⟨rfl, hb6⟩
      have hz6 := hb6.size
      have D6 := Lib.hid (Dg.keep D5.out hb6)
      clear C1
      go_upto_region 21 with (first | (go_at_call 21; refine ((RC _).out).mono ?_; rintro e' w7 ⟨rfl, hb7⟩; have hz7 := hb7.size))
      have U1 := fun w1 (h : DgS w1 g1 F1 D s) => upto_any (min v u) w1 h FT'.out (by omega) (by omega)
      have U2 := fun w1 (h : DgS w1 g1 F1 D s) => upto_any (max v u) w1 h FT'.out (by omega) (by omega)
      simp only [HX1.out] at U1
      simp only [HX2.out] at U2
      have U1' := fun w1 (h : DgS w1 g1 F1 D s) => Lib.hid (U1 w1 h)
      have U2' := fun w1 (h : DgS w1 g1 F1 D s) => Lib.hid (U2 w1 h)
      clear U1 U2
      go_wp2_with fail
      refine ((U1' _ (by first | exact Dg.keep D6.out hb7 | exact D6.out)).out).mono ?_
      rintro e' w8 ⟨rfl, hb8⟩
      have hz8 := hb8.size
      have D8 := Lib.hid (show DgS w8 g1 F1 D s by first | exact Dg.keep (Dg.keep D6.out hb7) hb8 | exact Dg.keep D6.out hb8)
      go_wp2_with fail
      refine ((U2' _ D8.out).out).mono ?_
      rintro e' w9 ⟨rfl, hb9⟩
      have hz9 := hb9.size
      have D9 := Lib.hid (Dg.keep D8.out hb9)
      clear U1' U2'
      go_wp2_with fail
      have C1 := total_any w9 D9.out
      rw [HT.out] at C1
      refine C1.mono ?_
      rintro e' w' ⟨rfl, rfl⟩
      clear C1
      go_wp2_with fail
      have C1 := upto_any hi w9 D9.out FT'.out (by omega) (by omega)
      rw [HX3.out] at C1
      refine C1.mono ?_
      rintro e' w10 ⟨rfl, hb10⟩
      have hz10 := hb10.size
      have D10 := Lib.hid (Dg.keep D9.out hb10)
      clear C1
      go_wp2_with fail
      have C1 := total_any w10 D10.out
      rw [HT.out] at C1
      refine C1.mono ?_
      rintro e' w' ⟨rfl, rfl⟩
      clear C1
      rcases hV2 with ⟨-, hV3⟩ | ⟨hV4, hV3⟩
      · go_wp2_with fail
        go_ret
        exact ⟨rfl, by (repeat' (first | (with_reducible exact Below.refl _ _) | (with_reducible refine Below.alloc ?_ ?_ _) | (with_reducible refine Below.drew ?_) | (with_reducible refine below_drewN ?_ _) | (with_reducible refine Below.setCell ?_ ?_ _) | (with_reducible refine below_of (by assumption) ?_ ?_) | go_size))⟩
      · go_wp2_with fail
        have C1 := upto_any (lo - 1) w10 D10.out FT'.out (by omega) (by omega)
        rw [HX4.out] at C1
        refine C1.mono ?_
        rintro e' w11 ⟨rfl, hb11⟩
        clear C1
        go_wp2_with fail
        go_ret
        exact ⟨rfl, by (repeat' (first | (with_reducible exact Below.refl _ _) | (with_reducible refine Below.alloc ?_ ?_ _) | (with_reducible refine Below.drew ?_) | (with_reducible refine below_drewN ?_ _) | (with_reducible refine Below.setCell ?_ ?_ _) | (with_reducible refine below_of (by assumption) ?_ ?_) | go_size))⟩
end Go.Proofs.Ytedhpkfbobgkgaa
