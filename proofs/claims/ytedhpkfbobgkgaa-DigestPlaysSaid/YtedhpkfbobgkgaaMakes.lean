/- DigestMakes' and DigestAsks' walks. -/
import Derived.Test.YtedhpkfbobgkgaaSame
import Derived.Test.YtedhpkfbobgkgaaRefUp
namespace Go.Proofs.Ytedhpkfbobgkgaa
open Go.RowKit Go.Lib

/-- A new digest of the reference. -/
theorem rdg_new (w : World) (d : Int) : RDgS (w.alloc (.cells #[.int .i64 d, .slice none 0 0, .slice none 0 0, .int .i64 0, .int .i64 0] 37)) w.heap.size (fun k => k = w.heap.size) d St.zero :=
  ⟨.slice none 0 0, .slice none 0 0, Blk.new _ _ _, OwnM.nil_ _ _, OwnM.nil_ _ _, rfl, (fun k e => by cases e), (fun k e => by cases e), (fun k e => by cases e), (fun k e => by subst e; simp)⟩
theorem zero_fit {d : Int} (d0 : 10 ≤ d) (d1 : d ≤ 1000) : Fit d St.zero 0 := ⟨St.zero_ok d (by omega), by omega, by simp [St.zero, tot], d0, d1⟩

set_option maxRecDepth 100000 in
set_option maxHeartbeats 2000000 in
theorem makes_any (d : Int) (w : World) :
    Calls Try.prog 6 #[.int .i64 d] w fun e w' => e = .returned (.bool true) ∧ Below w.heap.size w w' := by
  by_cases h : d < 10 ∨ 1000 < d
  · by_cases h1 : d < 10
    · clear h
      go_enter Try.func6, Try.ntmps6
      go_wp2_with fail
      refine (alive_any w).mono ?_
      rintro e w1 ⟨rfl, hb1⟩
      have hz1 := hb1.size
      go_wp2_with fail
      refine (new_no d w1 (.inl h1)).mono ?_
      rintro e w2 ⟨rfl, hb2⟩
      go_wp2_with fail
      go_ret
      exact ⟨rfl, hb1.trans (hb2.mono hz1)⟩
    · have h2 : 1000 < d := by omega
      clear h
      go_enter Try.func6, Try.ntmps6
      go_wp2_with fail
      refine (alive_any w).mono ?_
      rintro e w1 ⟨rfl, hb1⟩
      have hz1 := hb1.size
      go_wp2_with fail
      refine (new_no d w1 (.inr h2)).mono ?_
      rintro e w2 ⟨rfl, hb2⟩
      go_wp2_with fail
      go_ret
      exact ⟨rfl, hb1.trans (hb2.mono hz1)⟩
  · have h1 : 10 ≤ d := by omega
    have h2 : d ≤ 1000 := by omega
    have FZ := Lib.hid (zero_fit h1 h2)
    clear h
    go_enter Try.func6, Try.ntmps6
    go_wp2_with fail
    refine (alive_any w).mono ?_
    rintro e w1 ⟨rfl, hb1⟩
    have hz1 := hb1.size
    go_wp2_with fail
    refine (new_yes d w1 h1 h2).mono ?_
    rintro e w2 ⟨g, rfl, hg, hd, hb2⟩
    have hz2 := hb2.size
    have D2 : Hid (DgS w2 g (fun k => k = g) d St.zero) := Lib.hid hd
    clear hd
    go_wp2_with fail
    have hb3 : Below w2.heap.size w2 (w2.alloc (.cells #[.int .i64 d, .slice none 0 0, .slice none 0 0, .int .i64 0, .int .i64 0] 37)) := (Below.refl _ _).alloc (Nat.le_refl _) _
    have SC := same_any _ (Dg.keep D2.out hb3) (rdg_new w2 d) FZ.out
    refine SC.mono ?_
    rintro e w4 ⟨rfl, hb4⟩
    clear SC
    go_wp2_with fail
    go_ret
    exact ⟨rfl, by (repeat' (first | (with_reducible exact Below.refl _ _) | (with_reducible refine Below.alloc ?_ ?_ _) | (with_reducible refine Below.drew ?_) | (with_reducible refine below_drewN ?_ _) | (with_reducible refine Below.setCell ?_ ?_ _) | (with_reducible refine below_of (by assumption) ?_ ?_) | go_size))⟩

set_option maxRecDepth 100000 in
set_option maxHeartbeats 4000000 in
theorem asks_any (d : Int) (vl vn : Value) (l n : List Int) (a b v : Int) (w : World) (d0 : 0 ≤ d) (d1 : d ≤ 65535) (hl : RdI .i64 w vl l) (hn : RdI .u16 w vn n)
    (bl : ∀ x ∈ l, -9223372036854775808 ≤ x ∧ x ≤ 9223372036854775807) (bn : ∀ x ∈ n, 0 ≤ x ∧ x ≤ 65535)
    (a0 : 0 ≤ a) (a1 : a < 18446744073709551616) (b0 : 0 ≤ b) (b1 : b < 18446744073709551616) (v0 : -9223372036854775808 ≤ v) (v1 : v ≤ 9223372036854775807) :
    Calls Try.prog 7 #[.int .u16 d, vl, vn, .int .u64 a, .int .u64 b, .int .i64 v] w fun e w' => e = .returned (.bool true) ∧ Below w.heap.size w w' := by
  obtain ⟨A, ca, rfl, na, ma, fa⟩ := hl.form
  obtain ⟨B, cb, rfl, nb, mb, fb⟩ := hn.form
  have FT := sOf_fit (d := 10 + d % 60) (l := l) (n := n) (k := min l.length 80) bl (by omega) (by omega) (by omega)
  have AD := fun w1 (hb : Below w.heap.size w w1) => Lib.hid (added_any d _ _ l n w1 d0 d1 (hl.keep hb) (hn.keep hb) bl bn)
  clear hl hn fa fb bl bn
  generalize sOf (10 + d % 60) l n (min l.length 80) = s at *
  generalize 10 + d % 60 = D at *
  have n0 := FT.ok.n_nonneg
  have n1 := FT.t
  have hlw : s.L.length + s.W.length ≤ 100000000 := by have := FT.ok.len; have := FT.k1; omega
  have HO := Lib.hid FT.ok.ok
  have FT' := Lib.hid FT
  have RS := fun w => Lib.hid (rspot11_any a b (tot (s.L ++ s.W)) w a0 a1 b0 b1 n0 (by omega))
  have HS := Lib.hid (spotI_ok (num := a) (den := b) (n := tot (s.L ++ s.W)) a0 b0 n0)
  have HA : Hid (askI D s a b = if (spotI a b (tot (s.L ++ s.W))).2 = 0 then (atI s.lo s.hi (prs D (s.L ++ s.W)) (spotI a b (tot (s.L ++ s.W))).1, 0) else (0, (spotI a b (tot (s.L ++ s.W))).2)) := rfl
  generalize spotI a b (tot (s.L ++ s.W)) = r at *
  obtain ⟨sp, er⟩ := r
  simp only at RS HA HS
  have hee : (er != er) = false := by simp
  have hcase : (er = 0 ∧ 0 < tot (s.L ++ s.W) ∧ 0 ≤ sp ∧ sp ≤ 2 * tot (s.L ++ s.W) ∧ askI D s a b = (atI s.lo s.hi (prs D (s.L ++ s.W)) sp, 0)) ∨ ((er != 0) = true ∧ (er == 0) = false ∧ askI D s a b = (0, er)) := by
    by_cases h : er = 0
    · obtain ⟨h1, h2, h3, _⟩ := HS.out h
      refine .inl ⟨h, h1, h2, h3, ?_⟩
      rw [HA.out, if_pos h]
    · refine .inr ⟨by simpa using h, by simpa using h, ?_⟩
      rw [HA.out, if_neg h]
  clear HS HA
  obtain ⟨u, hu⟩ : ∃ u, uptoS D s v = u := ⟨_, rfl⟩
  have HU := Lib.hid hu
  have huu : (u == u) = true := by simp
  clear hu
  rcases hcase with ⟨rfl, nn, s0, s1, ha⟩ | ⟨hb1, hb2, ha⟩
  · have HA := Lib.hid ha
    have hat : Hid (∀ w g F, RDgS w g F D s → Calls Try.prog 33 #[.pointer (some ⟨g, 0, none⟩), .int .u64 sp] w fun e w' => e = .returned (.int .i64 (atI s.lo s.hi (prs D (s.L ++ s.W)) sp)) ∧ Below w.heap.size w w') := fun w g F h => rat_any sp w h FT'.out nn s0 s1
    generalize atI s.lo s.hi (prs D (s.L ++ s.W)) sp = y at *
    have hyy : (y != y) = false := by simp
    clear ha
    go_enter Try.func7, Try.ntmps7
    go_wp2_with fail
    refine (alive_any w).mono ?_
    rintro e' w1 ⟨rfl, hb1⟩
    have hz1 := hb1.size
    go_wp2_with fail
    refine ((AD _ hb1).out).mono ?_
    rintro e' w2 ⟨g1, g2, rfl, F1, F2, t1, t2, t3, t4, t5, t6⟩
    have hz2 := t6.size
    have T1 := Lib.hid t1
    have T2 := Lib.hid t2
    have hb2 : Below w.heap.size w w2 := hb1.trans (t6.mono hz1)
    clear t1 t2 t3 t4 t5 t6
    go_wp2_with fail
    have C1 := at_any a b w2 T1.out FT'.out a0 a1 b0 b1
    rw [HA.out] at C1
    refine C1.mono ?_
    rintro e' w3 ⟨rfl, hb3⟩
    have hz3 := hb3.size
    have D3 := Lib.hid (Dg.keep T1.out hb3)
    have R3 := Lib.hid (RDg.keep T2.out hb3)
    clear C1
    go_wp2_with fail
    refine (rall_any g2 F2 D s.lo s.hi s.L s.W w3 R3.out (by omega)).mono ?_
    rintro e' w4 ⟨v4, rfl, o4, hb4⟩
    have hz4 := hb4.size
    have O4 := Lib.hid o4
    have D4 := Lib.hid (Dg.keep D3.out hb4)
    have R4 := Lib.hid (RDg.keep R3.out hb4)
    clear o4
    go_wp2_with fail
    refine (rtotal_any v4 _ w4 O4.out.rd HO.out (by omega)).mono ?_
    rintro e' w5 ⟨rfl, hb5⟩
    have hz5 := hb5.size
    have D5 := Lib.hid (Dg.keep D4.out hb5)
    have R5 := Lib.hid (RDg.keep R4.out hb5)
    go_wp2_with fail
    refine ((RS _).out).mono ?_
    rintro e' w6 ⟨rfl, hb6⟩
    have hz6 := hb6.size
    have D6 := Lib.hid (Dg.keep D5.out hb6)
    have R6 := Lib.hid (RDg.keep R5.out hb6)
    go_wp2_with fail
    refine (hat.out w6 g2 F2 R6.out).mono ?_
    rintro e' w7 ⟨rfl, hb7⟩
    have hz7 := hb7.size
    have D7 := Lib.hid (Dg.keep D6.out hb7)
    have R7 := Lib.hid (RDg.keep R6.out hb7)
    go_wp2_with fail
    have C1 := upto_any v w7 D7.out FT'.out v0 v1
    rw [HU.out] at C1
    refine C1.mono ?_
    rintro e' w8 ⟨rfl, hb8⟩
    have hz8 := hb8.size
    have D8 := Lib.hid (Dg.keep D7.out hb8)
    have R8 := Lib.hid (RDg.keep R7.out hb8)
    clear C1
    go_wp2_with fail
    have C1 := rupto_any v w8 R8.out FT'.out v0 v1
    rw [HU.out] at C1
    refine C1.mono ?_
    rintro e' w9 ⟨rfl, hb9⟩
    have hz9 := hb9.size
    have D9 := Lib.hid (Dg.keep D8.out hb9)
    have R9 := Lib.hid (RDg.keep R8.out hb9)
    clear C1
    go_wp2_with fail
    refine (same_any w9 D9.out R9.out FT'.out).mono ?_
    rintro e' w10 ⟨rfl, hb10⟩
    go_wp2_with fail
    go_ret
    exact ⟨rfl, by (repeat' (first | (with_reducible exact Below.refl _ _) | (with_reducible refine Below.alloc ?_ ?_ _) | (with_reducible refine Below.drew ?_) | (with_reducible refine below_drewN ?_ _) | (with_reducible refine Below.setCell ?_ ?_ _) | (with_reducible refine below_of (by assumption) ?_ ?_) | go_size))⟩
  · have HA := Lib.hid ha
    clear ha
    go_enter Try.func7, Try.ntmps7
    go_wp2_with fail
    refine (alive_any w).mono ?_
    rintro e' w1 ⟨rfl, hb1⟩
    have hz1 := hb1.size
    go_wp2_with fail
    refine ((AD _ hb1).out).mono ?_
    rintro e' w2 ⟨g1, g2, rfl, F1, F2, t1, t2, t3, t4, t5, t6⟩
    have hz2 := t6.size
    have T1 := Lib.hid t1
    have T2 := Lib.hid t2
    have hb2 : Below w.heap.size w w2 := hb1.trans (t6.mono hz1)
    clear t1 t2 t3 t4 t5 t6
    go_wp2_with fail
    have C1 := at_any a b w2 T1.out FT'.out a0 a1 b0 b1
    rw [HA.out] at C1
    refine C1.mono ?_
    rintro e' w3 ⟨rfl, hb3⟩
    have hz3 := hb3.size
    have D3 := Lib.hid (Dg.keep T1.out hb3)
    have R3 := Lib.hid (RDg.keep T2.out hb3)
    clear C1
    go_wp2_with fail
    refine (rall_any g2 F2 D s.lo s.hi s.L s.W w3 R3.out (by omega)).mono ?_
    rintro e' w4 ⟨v4, rfl, o4, hb4⟩
    have hz4 := hb4.size
    have O4 := Lib.hid o4
    have D4 := Lib.hid (Dg.keep D3.out hb4)
    have R4 := Lib.hid (RDg.keep R3.out hb4)
    clear o4
    go_wp2_with fail
    refine (rtotal_any v4 _ w4 O4.out.rd HO.out (by omega)).mono ?_
    rintro e' w5 ⟨rfl, hb5⟩
    have hz5 := hb5.size
    have D5 := Lib.hid (Dg.keep D4.out hb5)
    have R5 := Lib.hid (RDg.keep R4.out hb5)
    go_wp2_with fail
    refine ((RS _).out).mono ?_
    rintro e' w6 ⟨rfl, hb6⟩
    have hz6 := hb6.size
    have D7 := Lib.hid (Dg.keep D5.out hb6)
    have R7 := Lib.hid (RDg.keep R5.out hb6)
    go_wp2_with fail
    have C1 := upto_any v w6 D7.out FT'.out v0 v1
    rw [HU.out] at C1
    refine C1.mono ?_
    rintro e' w8 ⟨rfl, hb8⟩
    have hz8 := hb8.size
    have D8 := Lib.hid (Dg.keep D7.out hb8)
    have R8 := Lib.hid (RDg.keep R7.out hb8)
    clear C1
    go_wp2_with fail
    have C1 := rupto_any v w8 R8.out FT'.out v0 v1
    rw [HU.out] at C1
    refine C1.mono ?_
    rintro e' w9 ⟨rfl, hb9⟩
    have hz9 := hb9.size
    have D9 := Lib.hid (Dg.keep D8.out hb9)
    have R9 := Lib.hid (RDg.keep R8.out hb9)
    clear C1
    go_wp2_with fail
    refine (same_any w9 D9.out R9.out FT'.out).mono ?_
    rintro e' w10 ⟨rfl, hb10⟩
    go_wp2_with fail
    go_ret
    exact ⟨rfl, by (repeat' (first | (with_reducible exact Below.refl _ _) | (with_reducible refine Below.alloc ?_ ?_ _) | (with_reducible refine Below.drew ?_) | (with_reducible refine below_drewN ?_ _) | (with_reducible refine Below.setCell ?_ ?_ _) | (with_reducible refine below_of (by assumption) ?_ ?_) | go_size))⟩
end Go.Proofs.Ytedhpkfbobgkgaa
