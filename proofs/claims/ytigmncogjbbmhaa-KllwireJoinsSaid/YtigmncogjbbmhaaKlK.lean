/- Add of the reference, what a stack tells of itself. Conditions: what a stack keeps. -/
import Derived.Test.YtigmncogjbbmhaaKlJ
namespace Go.Proofs.Ytigmncogjbbmhaa
open Go.RowKit

theorem wtF_take_succ {L : LL} {j : Nat} (h : j < L.length) : wtF 1 (L.take (j + 1)) = wtF 1 (L.take j) + (lvl L j).length * 2 ^ j := by
  rw [List.take_succ_eq_append_getElem h, wtF_append, List.length_take, Nat.min_eq_left (by omega), lvl_at h]
  simp [wtF]
theorem wtF_take_le (L : LL) (j : Nat) : wtF 1 (L.take j) ≤ wt L := by
  unfold wt
  conv => rhs; rw [← List.take_append_drop j L, wtF_append]
  omega
theorem pow49 {j : Nat} (h : j ≤ 49) : 2 ^ j ≤ 562949953421312 := Nat.le_trans (Nat.pow_le_pow_right (by decide) h) (by decide)
set_option maxRecDepth 100000 in
set_option maxHeartbeats 4000000 in
theorem rtotal_any {F : Nat → Prop} {g k led : Nat} {lv : Value} {vs : List Sv} {L : LL} (w : World) (hs : Rst F w g k led lv vs L) (hw : wt L ≤ 281474976710656) (hL : L.length ≤ 49) :
    Calls Try.prog 21 #[.pointer (some ⟨g, 0, none⟩)] w fun e w' => e = .returned (.int .u64 (wt L : Nat)) ∧ w = w' := by
  obtain ⟨A, c, elv, hc1, hc2, _⟩ := hs.form
  have c1 := hs.cell1
  have HS := Lib.hid hs
  have HTL := Lib.hid (fun j => Nat.le_trans (wtF_take_le L j) hw)
  have HC := Lib.hid (show wtF 1 (L.take L.length) = wt L by rw [List.take_length]; rfl)
  clear hs
  subst elv
  go_enter Try.func21, Try.ntmps21
  go_wp2_with fail
  go_loopg [3, 4, 5] L.length (fun q n p i wr => (∃ j : Nat, q = L.length - j ∧ j ≤ L.length ∧ n = .int .u64 ((wtF 1 (L.take j) : Nat) : Int) ∧ p = .int .u64 ((2 ^ j : Nat) : Int) ∧ i = .int .i64 (j : Int)) ∧ w = wr)
  case atStart => exact ⟨⟨0, by omega, by omega, rfl, rfl, rfl⟩, rfl⟩
  case round =>
    obtain ⟨⟨j, hq, hj, rfl, rfl, rfl⟩, rfl⟩ := hrel
    have HQ := Lib.hid hq
    clear hq
    have hpb := pow49 (j := j) (by omega)
    have HPE : Hid (2 ^ (j + 1) = 2 * 2 ^ j) := Lib.hid (by rw [Nat.pow_succ]; omega)
    by_cases hjl : j < L.length
    · obtain ⟨gl, cc, sA, sc, elv, hgl, _, _, _, c2, _, _, _⟩ := HS.out.at_ hjl
      injection elv with elv e2 e3
      subst elv; subst e3
      have HT1 : Hid (wtF 1 (L.take (j + 1)) = wtF 1 (L.take j) + (lvl L j).length * 2 ^ j) := Lib.hid (wtF_take_succ hjl)
      have hb := HTL.out (j + 1)
      obtain ⟨t1, ht1⟩ : ∃ t1, wtF 1 (L.take (j + 1)) = t1 := ⟨_, rfl⟩
      obtain ⟨t0, ht0⟩ : ∃ t0, wtF 1 (L.take j) = t0 := ⟨_, rfl⟩
      obtain ⟨x, hx⟩ : ∃ x, (lvl L j).length = x := ⟨_, rfl⟩
      obtain ⟨p, hp⟩ : ∃ p, 2 ^ j = p := ⟨_, rfl⟩
      rw [hx] at c2
      rw [ht1] at hb
      rw [ht1, ht0, hx, hp] at HT1
      rw [hp] at hpb HPE
      rw [ht0, hp]
      have HT1E := Lib.hid ht1
      obtain ⟨m, hm⟩ : ∃ m, x * p = m := ⟨_, rfl⟩
      rw [hm] at HT1
      have hmi : (x : Int) * (p : Int) = (m : Int) := by rw [← hm]; simp
      have hmb : m + t0 = t1 := by have := HT1.out; omega
      have HXB : x ≤ 18446744073709551615 := by
        obtain ⟨_, _, e, h1, h2, _⟩ := ((HS.out.lev.each j (by rw [HS.out.lev.len]; exact hjl))).form
        omega
      clear hx hp ht0 ht1 hm
      go_wp2_with fail
      go_roundg (L.length - (j + 1))
      case measure => have := HQ.out; omega
      case rel => exact ⟨⟨j + 1, rfl, by omega, by rw [HT1E.out]; go_num, by rw [HPE.out]; go_num, by go_num⟩, rfl⟩
    · obtain rfl : j = L.length := by omega
      rw [HC.out]
      go_wp2_with fail
      refine bodyPost_ret (by simp [results, Try.results21, go_sem, *]; try rfl) rfl ?_
      exact ⟨rfl, rfl⟩

/-! ### What the program's stack tells -/
section
variable {F : Nat → Prop} {g k n led : Nat} {lv : Value} {vs : List Sv} {L : LL}
set_option maxHeartbeats 1000000 in
theorem size_any (w : World) (hs : Kst F w g k n led lv vs L) :
    Calls Try.prog 28 #[.pointer (some ⟨g, 0, none⟩)] w fun e w' => e = .returned (.int .i64 (k : Nat)) ∧ w = w' := by
  have c0 := hs.cell0
  clear hs
  go_enter Try.func28, Try.ntmps28
  go_wp2_with fail
  refine bodyPost_ret (by simp [results, Try.results28, go_sem, *]; try rfl) rfl ?_
  exact ⟨rfl, rfl⟩
set_option maxHeartbeats 1000000 in
theorem total_any (w : World) (hs : Kst F w g k n led lv vs L) :
    Calls Try.prog 29 #[.pointer (some ⟨g, 0, none⟩)] w fun e w' => e = .returned (.int .u64 (n : Nat)) ∧ w = w' := by
  have c0 := hs.cell2
  clear hs
  go_enter Try.func29, Try.ntmps29
  go_wp2_with fail
  refine bodyPost_ret (by simp [results, Try.results29, go_sem, *]; try rfl) rfl ?_
  exact ⟨rfl, rfl⟩
set_option maxHeartbeats 1000000 in
theorem ledger_any (w : World) (hs : Kst F w g k n led lv vs L) :
    Calls Try.prog 30 #[.pointer (some ⟨g, 0, none⟩)] w fun e w' => e = .returned (.int .u64 (led : Nat)) ∧ w = w' := by
  have c0 := hs.cell3
  clear hs
  go_enter Try.func30, Try.ntmps30
  go_wp2_with fail
  refine bodyPost_ret (by simp [results, Try.results30, go_sem, *]; try rfl) rfl ?_
  exact ⟨rfl, rfl⟩
theorem cnt_take_succ {L : LL} {j : Nat} (h : j < L.length) : cnt (L.take (j + 1)) = cnt (L.take j) + (lvl L j).length := by
  rw [List.take_succ_eq_append_getElem h, cnt_append, lvl_at h]
  simp [cnt]
theorem cnt_take_le (L : LL) (j : Nat) : cnt (L.take j) ≤ cnt L := by
  conv => rhs; rw [← List.take_append_drop j L, cnt_append]
  omega
set_option maxRecDepth 100000 in
set_option maxHeartbeats 4000000 in
theorem kept_any (w : World) (hs : Kst F w g k n led lv vs L) (hL : L.length ≤ 1000000) (hl : cnt L ≤ 1000000000) :
    Calls Try.prog 38 #[.pointer (some ⟨g, 0, none⟩)] w fun e w' => e = .returned (.int .i64 (cnt L : Nat)) ∧ w = w' := by
  obtain ⟨A, c, elv, hc1, hc2, _⟩ := hs.form
  have c1 := hs.cell1
  have HS := Lib.hid hs
  have HTL := Lib.hid (fun j => Nat.le_trans (cnt_take_le L j) hl)
  have HC := Lib.hid (show cnt (L.take L.length) = cnt L by rw [List.take_length])
  clear hs
  subst elv
  go_enter Try.func38, Try.ntmps38
  go_wp2_with fail
  go_loopg [3, 5, 11] L.length (fun q n _ i wr => (∃ j : Nat, q = L.length - j ∧ j ≤ L.length ∧ n = .int .i64 ((cnt (L.take j) : Nat) : Int) ∧ i = .int .i64 (j : Int)) ∧ w = wr)
  case atStart => exact ⟨⟨0, by omega, by omega, rfl, rfl⟩, rfl⟩
  case round =>
    obtain ⟨⟨j, hq, hj, rfl, rfl⟩, rfl⟩ := hrel
    have HQ := Lib.hid hq
    clear hq
    by_cases hjl : j < L.length
    · obtain ⟨gl, cc, sA, sc, elv, hgl, _, _, _, c2, _, _, _⟩ := HS.out.at_ hjl
      injection elv with elv e2 e3
      subst elv; subst e3
      have HT1 := Lib.hid (cnt_take_succ hjl)
      have hb := HTL.out (j + 1)
      have hb0 := HTL.out j
      obtain ⟨t1, ht1⟩ : ∃ t1, cnt (L.take (j + 1)) = t1 := ⟨_, rfl⟩
      obtain ⟨t0, ht0⟩ : ∃ t0, cnt (L.take j) = t0 := ⟨_, rfl⟩
      obtain ⟨x, hx⟩ : ∃ x, (lvl L j).length = x := ⟨_, rfl⟩
      rw [hx] at c2
      rw [ht1] at hb
      rw [ht0] at hb0
      rw [ht1, ht0, hx] at HT1
      rw [ht0]
      have HT1E := Lib.hid ht1
      have hmb : t0 + x = t1 := by have := HT1.out; omega
      clear hx ht0 ht1
      go_wp2_with fail
      go_roundg (L.length - (j + 1))
      case measure => have := HQ.out; omega
      case rel => exact ⟨⟨j + 1, rfl, by omega, by rw [HT1E.out]; go_num, by go_num⟩, rfl⟩
    · obtain rfl : j = L.length := by omega
      rw [HC.out]
      go_wp2_with fail
      refine bodyPost_ret (by simp [results, Try.results38, go_sem, *]; try rfl) rfl ?_
      exact ⟨rfl, rfl⟩
end

/-! ### Add of the reference -/
theorem RoFar.next {F F1 : Nat → Prop} {w wr : World} {cg : Nat} {cv : Value} (h : RoFar F w cg cv) (hs : ∀ k, F1 k → F k ∨ w.heap.size ≤ k) (hz : w.heap.size ≤ wr.heap.size) : RoFar F1 wr cg cv := by
  have a2 := h.lg
  refine ⟨fun e => ?_, fun k e => ⟨fun e2 => ?_, ?_⟩, by omega⟩
  · rcases hs cg e with e | e
    · exact h.fg e
    · omega
  · have := h.fv k e
    rcases hs k e2 with e3 | e3
    · exact this.1 e3
    · omega
  · have := (h.fv k e).2; omega
theorem RCt.touch {t : TypeId} {F : Nat → Prop} {w w' : World} {cg a : Nat} {cv : Value} {B : List Int} (h : RCt t w cg cv B a) (hf : RoFar F w cg cv) (ht : Touch F w w') : RCt t w' cg cv B a :=
  h.stay (ht.block cg hf.lg hf.fg) (fun k e => ht.block k (hf.fv k e).2 (hf.fv k e).1) ht.size
theorem RkAt.back {F F1 : Nat → Prop} {w wr w' : World} {g k cg : Nat} {cv lv : Value} {B : List Int} {s0 s : KS} {F' : Nat → Prop} {vs : List Sv} (h : RkAt F1 wr g k cg cv B s0 F' w' lv vs s)
    (h1 : ∀ k, F1 k → F k ∨ w.heap.size ≤ k) (ht : Touch F w wr) : RkAt F w g k cg cv B s0 F' w' lv vs s := by
  have hz := ht.size
  refine ⟨h.st, h.co, h.ok, h.eq, fun kk e => ?_, ?_⟩
  · rcases h.sub kk e with e | e
    · exact h1 kk e
    · exact .inr (by omega)
  · refine (ht.mono (G := fun k => F k ∨ k = cg) fun _ hi => .inl hi).trans h.touch fun i hi => ?_
    rcases hi with hi | hi
    · rcases h1 i hi with e | e
      · exact .inl (.inl e)
      · exact .inr e
    · exact .inl (.inr hi)
/-- A stack of the reference while a value is added. -/
structure RAdAt (F : Nat → Prop) (w : World) (g k led : Nat) (v : Int) (c : Nat) (L : LL) (j : Nat) (F1 : Nat → Prop) (wr : World) (lv : Value) (vs : List Sv) (L1 : LL) : Prop where
  st : Rst F1 wr g k led lv vs L1
  eq : addL L v c = putB (64 - j) j (c / 2 ^ j) L1 v
  len : L1.length ≤ 49
  cnt : cnt L1 ≤ cnt L + j
  sub : ∀ k, F1 k → F k ∨ w.heap.size ≤ k
  touch : Touch F w wr
set_option maxRecDepth 100000 in
set_option maxHeartbeats 8000000 in
theorem radd_yes {F : Nat → Prop} {g k led cg a c : Nat} {cv lv : Value} {vs : List Sv} {B : List Int} {L : LL} (v : Int) (w : World) (hs : Rst F w g k led lv vs L) (hco : RC w cg cv B a) (hf : RoFar F w cg cv) (hok : PkOk (L, led, a))
    (hc0 : 0 < c) (hc : wt L + c ≤ 281474976710656) (hcn : cnt L ≤ 900000) (h2 : 2 ≤ k) (hk : k ≤ 1000000) :
    Calls Try.prog 44 #[.pointer (some ⟨g, 0, none⟩), .int .i64 v, .int .u64 c, .pointer (some ⟨cg, 0, none⟩)] w fun e w' => e = .returned (.int .i64 0) ∧ ∃ F' lv' vs', RkAt F w g k cg cv B (addL L v c, led, a) F' w' lv' vs' (packA k B (addL L v c, led, a)) := by
  have HA0 : Hid (RAdAt F w g k led v c L 0 F w lv vs L) := Lib.hid ⟨hs, by simp [addL], hok.len, Nat.le_refl _, fun _ h => .inl h, Touch.refl _ _⟩
  have HTO := Lib.hid (rtotal_any w hs hok.wt hok.len)
  have HCO := Lib.hid hco
  have HF := Lib.hid hf
  have HOK := Lib.hid hok
  have HOKA := Lib.hid (pkOk_add hok v c (by omega) hcn)
  obtain ⟨n, hn⟩ : ∃ n, wt L = n := ⟨_, rfl⟩
  rw [hn] at hc HTO
  clear hs hco hf hok hn
  have hc1 : ¬ (c : Int) = 0 := by omega
  have hc2 : ¬ (c : Int) > 281474976710656 - (n : Int) := by omega
  go_enter Try.func44, Try.ntmps44
  go_wp2_with fail
  refine (HTO.out).mono ?_
  rintro e w1 ⟨rfl, rfl⟩
  go_wp2_with fail
  go_loopg [9, 10] 64 (fun q i m wr => ∃ (j : Nat) (F1 : Nat → Prop) (lv1 : Value) (vs1 : List Sv) (L1 : LL), q = 64 - j ∧ j ≤ 49 ∧ i = .int .i64 (j : Int) ∧ m = .int .u64 ((c / 2 ^ j : Nat) : Int) ∧ Hid (RAdAt F w g k led v c L j F1 wr lv1 vs1 L1))
  case atStart => exact ⟨0, F, lv, vs, L, rfl, by omega, rfl, by simp, HA0⟩
  case round =>
    obtain ⟨j, F1, lv1, vs1, L1, hq, hj, rfl, rfl, HA⟩ := hrel
    have HQ := Lib.hid hq
    clear hq
    obtain ⟨m, hm⟩ : ∃ m, c / 2 ^ j = m := ⟨_, rfl⟩
    have hmc : m ≤ c := by rw [← hm]; exact Nat.div_le_self ..
    rw [hm]
    have HM := Lib.hid hm
    have hsz := HA.out.touch.size
    by_cases hm0 : m = 0
    · have hm0' : ¬ (m : Int) > 0 := by omega
      have hEQ : L1 = addL L v c := by rw [HA.out.eq, HM.out, hm0, putB_zero]
      subst hEQ
      have HP := Lib.hid (rpack_any (s0 := (addL L v c, led, a)) wr HA.out.st (HCO.out.touch HF.out HA.out.touch) (HF.out.next HA.out.sub hsz) HOKA.out h2 hk)
      clear hm
      go_wp2_with fail
      refine (HP.out).mono ?_
      rintro e w2 ⟨rfl, F2, lv2, vs2, q1⟩
      have Q1 := Lib.hid q1
      clear q1 HP
      go_wp2_with fail
      refine bodyPost_ret (by simp [results, Try.results44, go_sem, *]; try rfl) rfl ?_
      exact ⟨rfl, F2, lv2, vs2, Q1.out.back HA.out.sub HA.out.touch⟩
    · have hm0' : (m : Int) > 0 := by omega
      have hj48 : j ≤ 48 := by
        rcases Nat.lt_or_ge j 49 with h1 | h1
        · omega
        · have h3 : 2 ^ 49 ≤ 2 ^ j := Nat.pow_le_pow_right (by decide) h1
          have h4 : c / 2 ^ j = 0 := Nat.div_eq_of_lt (by omega)
          have := HM.out; omega
      have hmd : c / 2 ^ (j + 1) = m / 2 := by rw [Nat.pow_succ, ← Nat.div_div_eq_div_mul, HM.out]
      have HPB : Hid (putB (64 - j) j m L1 v = putB (64 - (j + 1)) (j + 1) (m / 2) (if m % 2 = 1 then putL L1 j [v] else L1) v) := Lib.hid (by
        rw [show 64 - j = (64 - (j + 1)) + 1 by omega, putB, if_neg hm0])
      have HMD := Lib.hid hmd
      clear hmd hm
      have hj49 : j + 1 ≤ 49 := by omega
      by_cases hm1 : m % 2 = 1
      · have hm1' : (m : Int) % 2 = 1 := by omega
        have HPU := Lib.hid (rput_any j v wr HA.out.st (by omega) (by have := HA.out.len; omega) (by have := lvl_le_cnt L1 j; have := HA.out.cnt; omega))
        go_wp2_with fail
        refine (HPU.out).mono ?_
        rintro e w2 ⟨rfl, F2, lv2, vs2, q1, q2, q3, q4⟩
        have Q1 := Lib.hid q1
        have Q3 := Lib.hid q3
        have Q4 := Lib.hid q4
        clear q1 q2 q3 q4 HPU
        go_wp2_with fail
        go_roundg (64 - (j + 1))
        case measure => have := HQ.out; omega
        case rel =>
          refine ⟨j + 1, F2, lv2, vs2, putL L1 j [v], rfl, by omega, by go_num, by rw [HMD.out]; go_num, Lib.hid ⟨Q3.out, ?_, ?_, ?_, ?_, ?_⟩⟩
          · rw [HA.out.eq, HM.out, HMD.out, HPB.out, if_pos hm1]
          · rw [putL_length]; have := HA.out.len; omega
          · rw [cnt_put]; have := HA.out.cnt; simp; omega
          · intro kk hk1
            rcases Q1.out kk hk1 with h1 | h1
            · exact HA.out.sub kk h1
            · exact .inr (by omega)
          · exact HA.out.touch.trans Q4.out fun i hi => HA.out.sub i hi
      · have hm1' : ¬ (m : Int) % 2 = 1 := by omega
        go_wp2_with fail
        go_roundg (64 - (j + 1))
        case measure => have := HQ.out; omega
        case rel =>
          refine ⟨j + 1, F1, lv1, vs1, L1, rfl, by omega, by go_num, by rw [HMD.out]; go_num, Lib.hid ⟨HA.out.st, ?_, HA.out.len, ?_, HA.out.sub, HA.out.touch⟩⟩
          · rw [HA.out.eq, HM.out, HMD.out, HPB.out, if_neg hm1]
          · have := HA.out.cnt; omega
set_option maxHeartbeats 1000000 in
theorem radd_zero (g : Nat) (v : Int) (q : Value) (w : World) :
    Calls Try.prog 44 #[.pointer (some ⟨g, 0, none⟩), .int .i64 v, .int .u64 0, q] w fun e w' => e = .returned (.int .i64 4) ∧ w = w' := by
  go_enter Try.func44, Try.ntmps44
  go_wp2_with fail
  refine bodyPost_ret (by simp [results, Try.results44, go_sem, *]; try rfl) rfl ?_
  exact ⟨rfl, rfl⟩
set_option maxHeartbeats 1000000 in
theorem radd_over {F : Nat → Prop} {g k led : Nat} {lv : Value} {vs : List Sv} {L : LL} (v : Int) (c : Nat) (q : Value) (w : World) (hs : Rst F w g k led lv vs L) (hw : wt L ≤ 281474976710656) (hL : L.length ≤ 49) (hc : 281474976710656 < wt L + c) (_hc2 : c < 18446744073709551616) :
    Calls Try.prog 44 #[.pointer (some ⟨g, 0, none⟩), .int .i64 v, .int .u64 c, q] w fun e w' => e = .returned (.int .i64 6) ∧ w = w' := by
  have HTO := Lib.hid (rtotal_any w hs hw hL)
  obtain ⟨n, hn⟩ : ∃ n, wt L = n := ⟨_, rfl⟩
  rw [hn] at hc HTO hw
  have h1 : ¬ (c : Int) = 0 := by omega
  have h2 : (c : Int) > 281474976710656 - (n : Int) := by omega
  clear hs hn
  go_enter Try.func44, Try.ntmps44
  go_wp2_with fail
  refine (HTO.out).mono ?_
  rintro e w1 ⟨rfl, rfl⟩
  go_wp2_with fail
  refine bodyPost_ret (by simp [results, Try.results44, go_sem, *]; try rfl) rfl ?_
  exact ⟨rfl, rfl⟩
end Go.Proofs.Ytigmncogjbbmhaa
