/- Right of the reference's digest. -/
import Derived.Test.YtedhpkfbobgkgaaDigA
import Derived.Test.YtedhpkfbobgkgaaGood
namespace Go.Proofs.Ytedhpkfbobgkgaa
open Go.RowKit Go.Lib

set_option maxRecDepth 100000 in
set_option maxHeartbeats 8000000 in
theorem right_any (d lo hi : Int) (vl vw : Value) (L W : List Mn) (w : World) (hL : RdM w vl L) (hW : RdM w vw W) (hr : rawL (L ++ W)) (hlen : L.length + W.length ≤ 1000000) :
    Calls Try.prog 36 #[.int .i64 d, .int .i64 lo, .int .i64 hi, vl, vw] w fun e w' => e = .returned (.bool (rightI d lo hi L W)) ∧ Below w.heap.size w w' := by
  have HL := Lib.hid hL
  have HW := Lib.hid hW
  obtain ⟨A, ca, rfl, na, ma, fa⟩ := hL.form
  obtain ⟨B, cb, rfl, nb, mb, fb⟩ := hW.form
  clear hL hW fa fb
  by_cases hd : d < 10
  · have hR : Hid (rightI d lo hi L W = false) := by show rightI d lo hi L W = false; unfold rightI; rw [decide_eq_false (by omega)]; rfl
    go_enter Try.func36, Try.ntmps36
    go_wp2_with fail
    go_ret
    exact ⟨ret_bool hR.out.symm, by (repeat' (first | (with_reducible exact Below.refl _ _) | (with_reducible refine Below.alloc ?_ ?_ _) | (with_reducible refine Below.drew ?_) | (with_reducible refine below_drewN ?_ _) | (with_reducible refine Below.setCell ?_ ?_ _) | (with_reducible refine below_of (by assumption) ?_ ?_) | go_size))⟩
  · by_cases hd2 : 1000 < d
    · have hR : Hid (rightI d lo hi L W = false) := by show rightI d lo hi L W = false; unfold rightI; rw [decide_eq_false (by omega)]; rfl
      go_enter Try.func36, Try.ntmps36
      go_wp2_with fail
      go_ret
      exact ⟨ret_bool hR.out.symm, by (repeat' (first | (with_reducible exact Below.refl _ _) | (with_reducible refine Below.alloc ?_ ?_ _) | (with_reducible refine Below.drew ?_) | (with_reducible refine below_drewN ?_ _) | (with_reducible refine Below.setCell ?_ ?_ _) | (with_reducible refine below_of (by assumption) ?_ ?_) | go_size))⟩
    · have d0 : 10 ≤ d := by omega
      have d1 : d ≤ 1000 := by omega
      clear hd hd2
      by_cases hwl : d ≤ (W.length : Int)
      · have hR : Hid (rightI d lo hi L W = false) := by show rightI d lo hi L W = false; unfold rightI; rw [decide_eq_false (by omega)]; rfl
        go_enter Try.func36, Try.ntmps36
        go_wp2_with fail
        go_ret
        exact ⟨ret_bool hR.out.symm, by (repeat' (first | (with_reducible exact Below.refl _ _) | (with_reducible refine Below.alloc ?_ ?_ _) | (with_reducible refine Below.drew ?_) | (with_reducible refine below_drewN ?_ _) | (with_reducible refine Below.setCell ?_ ?_ _) | (with_reducible refine below_of (by assumption) ?_ ?_) | go_size))⟩
      · have HRW : Hid (rightI d lo hi L W = (goodL lo hi L.length 0 0 0 (L ++ W) && decide (0 < tot (L ++ W) ∨ (lo = 0 ∧ hi = 0)))) := by show _ = _; unfold rightI; rw [decide_eq_true (show 10 ≤ d ∧ d ≤ 1000 ∧ (W.length : Int) < d from ⟨d0, d1, by omega⟩)]; rfl
        have HRAW := Lib.hid hr
        clear hr
        go_enter Try.func36, Try.ntmps36
        go_wp2_with (first
          | (at_builtin
             refine append_M rfl (.tmp 26) (.tmp 27) rfl w.heap.size (.slice none 0 0) [] rfl (OwnM.nil_ _ _) (.slice A L.length ca) L rfl HL.out (by simp only [List.length_nil]; omega) (Nat.le_refl _) ?_
             intro v1 w1 o1 g1 a1
             have hb1 : Below w.heap.size w w1 := (Below.refl _ _).grown g1 (Nat.le_refl _) (by simp [Value.ownBlock])
             have hz1 := hb1.size
             have O1 := Lib.hid o1
             clear o1 g1 a1)
          | (at_builtin
             refine append_M rfl (.tmp 29) (.tmp 30) rfl w.heap.size v1 ([] ++ L) rfl O1.out (.slice B W.length cb) W rfl (HW.out.keep hb1) (by simp only [List.nil_append]; omega) (by omega) ?_
             intro v2 w2 o2 g2 a2
             have hb2 : Below w.heap.size w w2 := hb1.grown g2 hz1 (fun k hk => (O1.out.lt k hk).1)
             have O2 : Hid (OwnM w.heap.size w2 v2 (L ++ W)) := Lib.hid o2
             clear o2 g2 a2))
        have hNl : (L ++ W).length = L.length + W.length := List.length_append ..
        obtain ⟨N, hN⟩ : ∃ N, L ++ W = N := ⟨_, rfl⟩
        rw [hN] at O2 HRW HRAW hNl
        have HN := Lib.hid hN
        have hNle : N.length ≤ 1000000 := by omega
        obtain ⟨A3, c3, rfl, n3, m3, f3⟩ := O2.out.form
        have F3 := Lib.hid f3
        clear hN hNl f3
        go_loopg [11, 13] N.length (fun q tv i wr => ∃ (j : Nat) (p t : Int), q = N.length - j ∧ j ≤ N.length ∧ i = .int .i64 j ∧ tv = .int .u64 t ∧ Hid (t = tot (N.take j)) ∧ 0 ≤ t ∧ t ≤ 281474976710656 ∧ Hid (goodL lo hi L.length 0 0 0 N = goodL lo hi L.length j p t (N.drop j)) ∧
          Hid (∀ k (h : k < N.length), j = k + 1 → p = N[k].1) ∧ Below w2.heap.size w2 wr)
        case atStart => exact ⟨0, 0, 0, rfl, Nat.zero_le _, rfl, rfl, rfl, Int.le_refl _, by omega, rfl, (fun k h e => by omega), Below.refl _ _⟩
        case round =>
          obtain ⟨j, p, t, hk, hj, rfl, rfl, HT, t0, t1, HG, HP, hb3⟩ := hrel
          have HK := Lib.hid hk
          have hb4 : Below w.heap.size w wr := hb2.trans (hb3.mono hb2.size)
          clear hk
          by_cases hlt : j < N.length
          · obtain ⟨g5, q5, rfl, hg5, e0, e1⟩ := (F3.out.keep hb3).at_ hlt
            have hm := HRAW.out N[j] (List.getElem_mem hlt)
            have HTT : Hid (tot (N.take (j + 1)) = t + N[j].2) := by show _ = _; rw [tot_take_succ N j hlt, HT.out]
            have HGG : Hid (goodL lo hi L.length j p t (N.drop j) = if N[j].2 = 0 ∨ 281474976710656 - t < N[j].2 ∨ N[j].1 < lo ∨ hi < N[j].1 ∨ (0 < j ∧ j < L.length ∧ N[j].1 < p) then false else goodL lo hi L.length (j + 1) N[j].1 (t + N[j].2) (N.drop (j + 1))) := by
              show _ = _
              rw [List.drop_eq_getElem_cons hlt]; conv => lhs; unfold goodL
            obtain ⟨m, hme⟩ : ∃ m, N[j] = m := ⟨_, rfl⟩
            have HME := Lib.hid hme
            rw [hme] at e0 e1 hm HTT HGG
            have hprev : Hid (∀ k, j = k + 1 → wr.cell? ⟨g5, q5 + k * 2, none⟩ = some (.int .i64 p)) := fun k hjk => by
              obtain ⟨g6, q6, hA6, _, x0, _⟩ := (F3.out.keep hb3).at_ (j := k) (by omega)
              simp only [Option.some.injEq, Addr.mk.injEq] at hA6
              obtain ⟨rfl, rfl, -⟩ := hA6
              rw [HP.out k (by omega) hjk]
              exact x0
            clear hme
            obtain ⟨hm0, hm1, hm2, hm3⟩ := hm
            have hway : (m.2 = 0) ∨ (m.2 ≠ 0 ∧ 281474976710656 - t < m.2) ∨ ((m.2 ≠ 0 ∧ ¬ 281474976710656 - t < m.2) ∧ m.1 < lo) ∨ ((m.2 ≠ 0 ∧ ¬ 281474976710656 - t < m.2) ∧ ¬ m.1 < lo ∧ hi < m.1) ∨
                ((m.2 ≠ 0 ∧ ¬ 281474976710656 - t < m.2) ∧ (¬ m.1 < lo ∧ ¬ hi < m.1)) := by omega
            rcases hway with h | ⟨h, h'⟩ | ⟨⟨h, h'⟩, h2⟩ | ⟨⟨h, h'⟩, h2, h3⟩ | ⟨⟨h, h'⟩, ⟨h2, h3⟩⟩
            · have HC : Hid (rightI d lo hi L W = false) := by show _ = false; rw [HRW.out, HG.out, HGG.out, if_pos (.inl h)]; rfl
              have b1 : (m.2 == 0) = true := beq_iff_eq.2 h
              clear h
              go_wp2_with fail
              go_ret
              exact ⟨ret_bool HC.out.symm, hb4⟩
            · have HC : Hid (rightI d lo hi L W = false) := by show _ = false; rw [HRW.out, HG.out, HGG.out, if_pos (.inr (.inl h'))]; rfl
              have b1 : (m.2 == 0) = false := beq_eq_false_iff_ne.2 h
              clear h
              go_wp2_with fail
              go_ret
              exact ⟨ret_bool HC.out.symm, hb4⟩
            · have HC : Hid (rightI d lo hi L W = false) := by show _ = false; rw [HRW.out, HG.out, HGG.out, if_pos (.inr (.inr (.inl h2)))]; rfl
              have b1 : (m.2 == 0) = false := beq_eq_false_iff_ne.2 h
              clear h
              go_wp2_with fail
              go_ret
              exact ⟨ret_bool HC.out.symm, hb4⟩
            · have HC : Hid (rightI d lo hi L W = false) := by show _ = false; rw [HRW.out, HG.out, HGG.out, if_pos (.inr (.inr (.inr (.inl h3))))]; rfl
              have b1 : (m.2 == 0) = false := beq_eq_false_iff_ne.2 h
              clear h
              go_wp2_with fail
              go_ret
              exact ⟨ret_bool HC.out.symm, hb4⟩
            · have b1 : (m.2 == 0) = false := beq_eq_false_iff_ne.2 h
              have htm : 0 ≤ t + m.2 ∧ t + m.2 ≤ 281474976710656 := by omega
              have hcase : (j = 0) ∨ (0 < j ∧ ¬ j < L.length) ∨ ((0 < j ∧ j < L.length) ∧ m.1 < p) ∨ ((0 < j ∧ j < L.length) ∧ ¬ m.1 < p) := by omega
              have HNX : ¬ (0 < j ∧ j < L.length ∧ m.1 < p) → Hid (goodL lo hi L.length 0 0 0 N = goodL lo hi L.length (j + 1) m.1 (t + m.2) (N.drop (j + 1))) := fun h9 => by show _ = _; rw [HG.out, HGG.out, if_neg (by omega)]
              have hne : m.2 ≠ 0 := h
              clear h
              rcases hcase with h5 | ⟨h5, h6⟩ | ⟨⟨h5, h6⟩, h7⟩ | ⟨⟨h5, h6⟩, h7⟩
              · subst h5
                have HX := HNX (by omega)
                have z0 : ((0 : Nat) : Int) = 0 := rfl
                simp only [Nat.zero_mul, Nat.add_zero] at e0 e1
                rw [z0]
                clear z0 HNX
                go_wp2_with fail
                go_quiet (fail)
                go_wp2_with fail
                go_roundg (N.length - (0 + 1))
                case measure => have := HK.out; omega
                case rel => exact ⟨0 + 1, m.1, t + m.2, rfl, by omega, rfl, rfl, HTT.out.symm, htm.1, htm.2, HX, fun k h e => (by obtain rfl : k = 0 := (by omega); rw [HME.out]), below_drewN hb3 _⟩
              · have HX := HNX (by omega)
                have b5 : decide (0 < j) = true := decide_eq_true (by omega)
                have b6 : decide (j < L.length) = false := decide_eq_false (by omega)
                clear HNX
                go_wp2_with fail
                go_quiet (fail)
                go_wp2_with fail
                go_roundg (N.length - (j + 1))
                case measure => have := HK.out; omega
                case rel => exact ⟨j + 1, m.1, t + m.2, rfl, by omega, by go_num, rfl, HTT.out.symm, htm.1, htm.2, HX, fun k h e => (by obtain rfl : k = j := (by omega); rw [HME.out]), below_drewN hb3 _⟩
              · have HC : Hid (rightI d lo hi L W = false) := by show _ = false; rw [HRW.out, HG.out, HGG.out, if_pos (.inr (.inr (.inr (.inr ⟨h5, h6, h7⟩))))]; rfl
                obtain ⟨k, hk⟩ : ∃ k, j = k + 1 := ⟨j - 1, by omega⟩
                subst hk
                have y1 := hprev.out k rfl
                have b5 : decide ((0 : Int) < (k : Int) + 1) = true := decide_eq_true (by omega)
                have b6 : decide ((k : Int) + 1 < (L.length : Int)) = true := decide_eq_true (by omega)
                have b7 : decide (m.1 < p) = true := decide_eq_true h7
                have j1 : (0 : Int) ≤ (k : Int) := by omega
                have j2 : (k : Int) < (N.length : Int) := by omega
                have j5 : (0 : Int) ≤ (k : Int) + 1 := by omega
                have j6 : (k : Int) + 1 < (N.length : Int) := by omega
                clear HNX
                go_wp2_with fail
                have j3 : ((k : Int) + 1).toNat = k + 1 := by omega
                have j4 : IntKind.i64.wrap (k : Int) = (k : Int) := IntWalk.i64_in _ (by omega)
                go_quiet (fail)
                clear j3 j4
                go_wp2_with fail
                go_ret
                exact ⟨ret_bool HC.out.symm, below_drewN hb4 _⟩
              · have HX := HNX (by omega)
                obtain ⟨k, hk⟩ : ∃ k, j = k + 1 := ⟨j - 1, by omega⟩
                subst hk
                have y1 := hprev.out k rfl
                have b5 : decide ((0 : Int) < (k : Int) + 1) = true := decide_eq_true (by omega)
                have b6 : decide ((k : Int) + 1 < (L.length : Int)) = true := decide_eq_true (by omega)
                have b7 : decide (m.1 < p) = false := decide_eq_false h7
                have j1 : (0 : Int) ≤ (k : Int) := by omega
                have j2 : (k : Int) < (N.length : Int) := by omega
                have j5 : (0 : Int) ≤ (k : Int) + 1 := by omega
                have j6 : (k : Int) + 1 < (N.length : Int) := by omega
                clear HNX
                go_wp2_with fail
                have j3 : ((k : Int) + 1).toNat = k + 1 := by omega
                have j4 : IntKind.i64.wrap (k : Int) = (k : Int) := IntWalk.i64_in _ (by omega)
                go_quiet (fail)
                clear j3 j4
                go_wp2_with fail
                go_roundg (N.length - (k + 1 + 1))
                case measure => have := HK.out; omega
                case rel => exact ⟨k + 1 + 1, m.1, t + m.2, rfl, by omega, by go_num, rfl, HTT.out.symm, htm.1, htm.2, HX, fun k' h e => (by obtain rfl : k' = k + 1 := (by omega); rw [HME.out]), below_drewN hb3 _⟩
          · have HE : Hid (goodL lo hi L.length 0 0 0 N = true) := by show _ = true; rw [HG.out, List.drop_of_length_le (by omega)]; rfl
            have HTN : Hid (t = tot N) := by show t = _; rw [HT.out, List.take_of_length_le (by omega)]
            have hRR : Hid (rightI d lo hi L W = decide (0 < t ∨ (lo = 0 ∧ hi = 0))) := by show _ = _; rw [HRW.out, HE.out, HTN.out]; rfl
            have hway : (0 < t) ∨ (t = 0 ∧ lo ≠ 0) ∨ (t = 0 ∧ lo = 0 ∧ hi ≠ 0) ∨ (t = 0 ∧ lo = 0 ∧ hi = 0) := by omega
            clear HT HG HP
            rcases hway with h | ⟨h, h2⟩ | ⟨h, h2, h3⟩ | ⟨h, h2, h3⟩
            · have hR : Hid (rightI d lo hi L W = true) := by show _ = true; rw [hRR.out]; exact decide_eq_true (.inl h)
              go_wp2_with fail
              go_ret
              exact ⟨ret_bool hR.out.symm, hb4⟩
            · have hR : Hid (rightI d lo hi L W = false) := by show _ = false; rw [hRR.out]; exact decide_eq_false (by omega)
              have hx : ¬ 0 < t := by omega
              have nl : (lo == 0) = false := by simpa using h2
              clear h h2
              go_wp2_with fail
              go_ret
              exact ⟨ret_bool hR.out.symm, hb4⟩
            · have hR : Hid (rightI d lo hi L W = false) := by show _ = false; rw [hRR.out]; exact decide_eq_false (by omega)
              have hx : ¬ 0 < t := by omega
              have nl : (lo == 0) = true := by simpa using h2
              have nh : (hi == 0) = false := by simpa using h3
              clear h h2 h3
              go_wp2_with fail
              go_ret
              exact ⟨ret_bool hR.out.symm, hb4⟩
            · have hR : Hid (rightI d lo hi L W = true) := by show _ = true; rw [hRR.out]; exact decide_eq_true (.inr ⟨h2, h3⟩)
              have hx : ¬ 0 < t := by omega
              have nl : (lo == 0) = true := by simpa using h2
              have nh : (hi == 0) = true := by simpa using h3
              clear h h2 h3
              go_wp2_with fail
              go_ret
              exact ⟨ret_bool hR.out.symm, hb4⟩
end Go.Proofs.Ytedhpkfbobgkgaa
