/- Add, of the program. Conditions: what a stack keeps. -/
import Derived.Test.YtigmncogjbbmhaaKlH
namespace Go.Proofs.Ytigmncogjbbmhaa
open Go.RowKit

theorem CoFar.next {F F1 : Nat → Prop} {w wr : World} {cg r : Nat} {cv : Value} (h : CoFar F w cg r cv) (hs : ∀ k, F1 k → F k ∨ w.heap.size ≤ k) (hz : w.heap.size ≤ wr.heap.size) : CoFar F1 wr cg r cv := by
  have a1 := h.lr; have a2 := h.lg
  refine ⟨fun e => ?_, fun e => ?_, fun k e => ⟨fun e2 => ?_, ?_⟩, by omega, by omega⟩
  · rcases hs cg e with e | e
    · exact h.fg e
    · omega
  · rcases hs r e with e | e
    · exact h.fr e
    · omega
  · have := h.fv k e
    rcases hs k e2 with e3 | e3
    · exact this.1 e3
    · omega
  · have := (h.fv k e).2; omega
theorem KC.touch {F : Nat → Prop} {w w' : World} {cg r a : Nat} {cv : Value} {B : List Int} (h : KC w cg r cv B a) (hf : CoFar F w cg r cv) (ht : Touch F w w') : KC w' cg r cv B a :=
  h.stay (ht.block cg hf.lg hf.fg) (ht.block r hf.lr hf.fr) (fun k e => ht.block k (hf.fv k e).2 (hf.fv k e).1) ht.size
theorem PkAt.back {F F1 : Nat → Prop} {w wr w' : World} {g k n cg r : Nat} {cv lv : Value} {B : List Int} {s0 s : KS} {F' : Nat → Prop} {vs : List Sv} (h : PkAt F1 wr g k n cg r cv B s0 F' w' lv vs s)
    (h1 : ∀ k, F1 k → F k ∨ w.heap.size ≤ k) (h2 : ∀ k, F k → F1 k) (ht : Touch F w wr) : PkAt F w g k n cg r cv B s0 F' w' lv vs s := by
  have hz := ht.size
  refine ⟨h.st, h.co, h.ok, h.eq, fun kk e => ?_, fun kk e => h.sup kk (h2 kk e), ?_⟩
  · rcases h.sub kk e with e | e
    · exact h1 kk e
    · exact .inr (by omega)
  · refine (ht.mono (G := fun k => F k ∨ k = r) fun _ hi => .inl hi).trans h.touch fun i hi => ?_
    rcases hi with hi | hi
    · rcases h1 i hi with e | e
      · exact .inl (.inl e)
      · exact .inr e
    · exact .inl (.inr hi)
theorem and_one (m : Nat) (h : m < 18446744073709551616) : bits .and .u64 (m : Int) 1 = ((m % 2 : Nat) : Int) := by
  have h1 := bits_and_u64_nat m 1 h (by omega)
  rw [Nat.and_one_is_mod] at h1
  exact h1
/-- A stack while a value is added. -/
structure AdAt (F : Nat → Prop) (w : World) (g k n led : Nat) (v : Int) (c : Nat) (L : LL) (j : Nat) (F1 : Nat → Prop) (wr : World) (lv : Value) (vs : List Sv) (L1 : LL) : Prop where
  st : Kst F1 wr g k n led lv vs L1
  eq : addL L v c = putB (64 - j) j (c / 2 ^ j) L1 v
  srt : ∀ i, Srt (lvl L1 i)
  len : L1.length ≤ 49
  cnt : cnt L1 ≤ cnt L + j
  sub : ∀ k, F1 k → F k ∨ w.heap.size ≤ k
  sup : ∀ k, F k → F1 k
  touch : Touch F w wr
theorem putL_srt {L : LL} (h : ∀ i, Srt (lvl L i)) (j : Nat) (vs : List Int) : ∀ i, Srt (lvl (putL L j vs) i) := fun i => by
  rw [lvl_put]
  split
  · exact insL_srt (h _) _
  · exact h i
theorem pkOk_add {L : LL} {led a : Nat} (h : PkOk (L, led, a)) (v : Int) (c : Nat) (hc : wt L + c ≤ 281474976710656) (hn : cnt L ≤ 900000) : PkOk (addL L v c, led, a) := by
  refine ⟨?_, h.top.add v c, ?_, ?_, h.led⟩
  · exact putB_keep (P := fun L => ∀ i, Srt (lvl L i)) (fun L h hp => putL_srt hp h [v]) 64 0 c L h.srt
  · show wt (addL L v c) ≤ _
    rw [addL_wt _ _ (by omega)]; exact hc
  · show cnt (addL L v c) ≤ _
    have := addL_cnt L v c; omega
set_option maxRecDepth 100000 in
set_option maxHeartbeats 8000000 in
theorem add_yes {F : Nat → Prop} {g k n led cg r a c : Nat} {cv lv : Value} {vs : List Sv} {B : List Int} {L : LL} (v : Int) (w : World) (hs : Kst F w g k n led lv vs L) (hco : KC w cg r cv B a) (hf : CoFar F w cg r cv) (hok : PkOk (L, led, a))
    (hn : n = wt L) (hc0 : 0 < c) (hc : n + c ≤ 281474976710656) (hcn : cnt L ≤ 900000) (h2 : 2 ≤ k) (hk : k ≤ 1000000) :
    Calls Try.prog 43 #[.pointer (some ⟨g, 0, none⟩), .int .i64 v, .int .u64 c, .pointer (some ⟨cg, 0, none⟩)] w fun e w' => e = .returned (.int .i64 0) ∧ ∃ F' lv' vs', PkAt F w g k (n + c) cg r cv B (addL L v c, led, a) F' w' lv' vs' (packA k B (addL L v c, led, a)) ∧ fullN k (packA k B (addL L v c, led, a)).1 = none := by
  have HA0 : Hid (AdAt F w g k (n + c) led v c L 0 F (w.setCell ⟨g, 2, none⟩ (.int .u64 (n + c : Nat))) lv vs L) := Lib.hid ⟨hs.put2 _, by simp [addL], hok.srt, hok.len, Nat.le_refl _, fun _ h => .inl h, fun _ h => h, Touch.setCell (Touch.refl _ _) (.inl hs.fg) _⟩
  have k2 := hs.cell2
  have f2 := hs.blk.frozen 2
  have HCO := Lib.hid hco
  have HF := Lib.hid hf
  have HOK := Lib.hid hok
  have HOKA := Lib.hid (pkOk_add hok v c (by omega) hcn)
  clear hs hco hf hok hn
  have hc1 : ¬ (c : Int) = 0 := by omega
  have hc2 : ¬ (c : Int) > 281474976710656 - (n : Int) := by omega
  go_enter Try.func43, Try.ntmps43
  go_wp2_with fail
  go_loopg [9] 64 (fun q i wr => ∃ (j : Nat) (F1 : Nat → Prop) (lv1 : Value) (vs1 : List Sv) (L1 : LL), q = 64 - j ∧ j ≤ 49 ∧ i = .int .i64 (j : Int) ∧ Hid (AdAt F w g k (n + c) led v c L j F1 wr lv1 vs1 L1))
  case atStart =>
    have HA1 := HA0.out
    rw [Int.natCast_add] at HA1
    exact ⟨0, F, lv, vs, L, rfl, by omega, rfl, Lib.hid HA1⟩
  case round =>
    obtain ⟨j, F1, lv1, vs1, L1, hq, hj, rfl, HA⟩ := hrel
    have HQ := Lib.hid hq
    clear hq
    obtain ⟨m, hm⟩ : ∃ m, c / 2 ^ j = m := ⟨_, rfl⟩
    have hmc : m ≤ c := by rw [← hm]; exact Nat.div_le_self ..
    have hmi : (c : Int) / 2 ^ j = (m : Int) := by
      rw [← hm, Int.natCast_ediv, Int.natCast_pow]; rfl
    have HM := Lib.hid hm
    have HMI := Lib.hid hmi
    clear hmi
    have hsz := HA.out.touch.size
    by_cases hm0 : m = 0
    · have hm0' : ¬ (m : Int) > 0 := by omega
      have hEQ : L1 = addL L v c := by rw [HA.out.eq, HM.out, hm0, putB_zero]
      subst hEQ
      have HP := Lib.hid (pack_any (s0 := (addL L v c, led, a)) wr HA.out.st (HCO.out.touch HF.out HA.out.touch) (HF.out.next HA.out.sub hsz) HOKA.out h2 hk)
      go_wp2_with (first | (have hmi := HMI.out; rw [hmi]))
      refine (HP.out).mono ?_
      rintro e w2 ⟨rfl, F2, lv2, vs2, q1, q2⟩
      have Q1 := Lib.hid q1
      have Q2 := Lib.hid q2
      clear q1 q2 HP
      go_wp2_with fail
      refine bodyPost_ret (by simp [results, Try.results43, go_sem, *]; try rfl) rfl ?_
      exact ⟨rfl, F2, lv2, vs2, Q1.out.back HA.out.sub HA.out.sup HA.out.touch, Q2.out⟩
    · have hm0' : (m : Int) > 0 := by omega
      have hj48 : j ≤ 48 := by
        rcases Nat.lt_or_ge j 49 with h1 | h1
        · omega
        · have h3 : 2 ^ 49 ≤ 2 ^ j := Nat.pow_le_pow_right (by decide) h1
          have h4 : c / 2 ^ j = 0 := Nat.div_eq_of_lt (by omega)
          have := HM.out; omega
      have hmd : c / 2 ^ (j + 1) = m / 2 := by rw [Nat.pow_succ, ← Nat.div_div_eq_div_mul, HM.out]
      have HPB : Hid (putB (64 - j) j m L1 v = putB (64 - (j + 1)) (j + 1) (m / 2) (if m % 2 = 1 then putL L1 j [v] else L1) v) := Lib.hid (by
        rw [show 64 - j = (64 - (j + 1)) + 1 by omega, putB, if_neg hm0])
      have HMD := Lib.hid hmd
      have HAN := Lib.hid (and_one m (by omega))
      clear hmd
      have hj49 : j + 1 ≤ 49 := by omega
      by_cases hm1 : m % 2 = 1
      · have hm1' : ((m % 2 : Nat) : Int) = 1 := by omega
        have HPU := Lib.hid (put_any j (.slice (some ⟨wr.heap.size, 0, none⟩) 1 1) [v] (wr.alloc (.cells #[.int .i64 v] 2)) (HA.out.st.keep ((Below.refl _ _).alloc (Nat.le_refl _) _)) (Aside.of_own (OwnE.one (E := i64E) wr v _ rfl _ rfl) fun kk e h1 => by
          have e := Option.some.inj (show some wr.heap.size = some kk from e)
          have := HA.out.st.low kk h1; omega) (HA.out.srt j) (by omega) (by have := HA.out.len; omega) (by have := lvl_le_cnt L1 j; have := HA.out.cnt; omega) (by simp))
        have hmi := HMI.out
        have han : bits .and .u64 (m : Int) 1 = 1 := by rw [HAN.out]; exact hm1'
        go_wp2_with fail
        refine (HPU.out).mono ?_
        rintro e w2 ⟨rfl, F2, lv2, vs2, q1, q2, q3, q4⟩
        have Q1 := Lib.hid q1
        have Q2 := Lib.hid q2
        have Q3 := Lib.hid q3
        have Q4 := Lib.hid q4
        have hasz : (wr.alloc (.cells #[.int .i64 v] 2)).heap.size = wr.heap.size + 1 := by simp
        rw [hasz] at q1
        have Q1 := Lib.hid q1
        clear q1 q2 q3 q4 HPU hasz
        go_wp2_with fail
        go_roundg (64 - (j + 1))
        case measure => have := HQ.out; omega
        case rel =>
          refine ⟨j + 1, F2, lv2, vs2, putL L1 j [v], rfl, by omega, by go_num, Lib.hid ⟨Q3.out, ?_, putL_srt HA.out.srt j [v], ?_, ?_, ?_, ?_, ?_⟩⟩
          · rw [HA.out.eq, HM.out, HMD.out, HPB.out, if_pos hm1]
          · rw [putL_length]; have := HA.out.len; omega
          · rw [cnt_put]; have := HA.out.cnt; simp; omega
          · intro kk hk1
            rcases Q1.out kk hk1 with h1 | h1
            · exact HA.out.sub kk h1
            · exact .inr (by omega)
          · exact fun kk hk1 => Q2.out kk (HA.out.sup kk hk1)
          · exact (HA.out.touch.alloc _).trans Q4.out fun i hi => HA.out.sub i hi
      · have hm1' : ((m % 2 : Nat) : Int) = 0 := by omega
        have hmi := HMI.out
        have han : bits .and .u64 (m : Int) 1 = 0 := by rw [HAN.out]; exact hm1'
        go_wp2_with fail
        go_roundg (64 - (j + 1))
        case measure => have := HQ.out; omega
        case rel =>
          refine ⟨j + 1, F1, lv1, vs1, L1, rfl, by omega, by go_num, Lib.hid ⟨HA.out.st, ?_, HA.out.srt, HA.out.len, ?_, HA.out.sub, HA.out.sup, HA.out.touch⟩⟩
          · rw [HA.out.eq, HM.out, HMD.out, HPB.out, if_neg hm1]
          · have := HA.out.cnt; omega
set_option maxHeartbeats 1000000 in
theorem add_zero (g : Nat) (v : Int) (q : Value) (w : World) :
    Calls Try.prog 43 #[.pointer (some ⟨g, 0, none⟩), .int .i64 v, .int .u64 0, q] w fun e w' => e = .returned (.int .i64 4) ∧ w = w' := by
  go_enter Try.func43, Try.ntmps43
  go_wp2_with fail
  go_ret
  exact ⟨rfl, rfl⟩
set_option maxHeartbeats 1000000 in
theorem add_over {F : Nat → Prop} {g k n led : Nat} {lv : Value} {vs : List Sv} {L : LL} (v : Int) (c : Nat) (q : Value) (w : World) (hs : Kst F w g k n led lv vs L) (hn : n ≤ 281474976710656) (hc : 281474976710656 < n + c) (_hc2 : c < 18446744073709551616) :
    Calls Try.prog 43 #[.pointer (some ⟨g, 0, none⟩), .int .i64 v, .int .u64 c, q] w fun e w' => e = .returned (.int .i64 6) ∧ w = w' := by
  have k2 := hs.cell2
  have h1 : ¬ (c : Int) = 0 := by omega
  have h2 : (c : Int) > 281474976710656 - (n : Int) := by omega
  clear hs
  go_enter Try.func43, Try.ntmps43
  go_wp2_with fail
  go_ret
  exact ⟨rfl, rfl⟩
end Go.Proofs.Ytigmncogjbbmhaa
