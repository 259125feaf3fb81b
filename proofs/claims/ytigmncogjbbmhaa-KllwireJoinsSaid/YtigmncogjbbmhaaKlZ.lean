/- A stack of the program alone with its coins; the document's example. No condition. -/
import Derived.Test.YtigmncogjbbmhaaKlY
namespace Go.Proofs.Ytigmncogjbbmhaa
open Go.RowKit

/-- A stack of the program and its coins, all made since W. -/
structure Lone (W w : World) (F : Nat → Prop) (g k : Nat) (s : KS) (cg r : Nat) (cv : Value) (B : List Int) : Prop where
  below : Below W.heap.size W w
  ks : KAt F w g k s.1 s.2.1
  kc : KC w cg r cv B s.2.2
  far : CoFar F w cg r cv
  fit : Fit k s.1 s.2.1
  new : ∀ x, F x → W.heap.size ≤ x
  nr : W.heap.size ≤ r
  low : ∀ x, F x → x < w.heap.size
theorem Lone.keep {W w w' : World} {F : Nat → Prop} {g k cg r : Nat} {s : KS} {cv : Value} {B : List Int} (h : Lone W w F g k s cg r cv B) (hb : Below w.heap.size w w') : Lone W w' F g k s cg r cv B :=
  ⟨h.below.trans (hb.mono h.below.size), h.ks.keep hb, h.kc.stay (hb.block _ h.far.lg) (hb.block _ h.far.lr) (fun k e => hb.block _ (h.far.fv k e).2) hb.size, h.far.next (fun _ h => .inl h) hb.size, h.fit, h.new, h.nr, fun x hx => Nat.lt_of_lt_of_le (h.low x hx) hb.size⟩
theorem lone_pack {W w w' : World} {F F' : Nat → Prop} {g k cg r n : Nat} {s s0 : KS} {cv lv : Value} {vs : List Sv} {B : List Int} (h : Lone W w F g k s cg r cv B) (hp : PkAt F w g k n cg r cv B s0 F' w' lv vs (packA k B s0)) (hn : n = wt s0.1) (hok : PkOk s0) : Lone W w' F' g k (packA k B s0) cg r cv B := by
  have hz := h.below.size
  refine ⟨h.below.trans (hp.touch.below (fun i hi => ?_) hz), ⟨lv, vs, ?_⟩, hp.co, h.far.next hp.sub hp.touch.size, packA_fit hok, fun x hx => ?_, h.nr, hp.st.low⟩
  · rcases hi with hi | hi
    · exact h.new i hi
    · rw [show i = r from hi]; exact h.nr
  · rw [packA_wt, ← hn]; exact hp.st
  · rcases hp.sub x hx with h1 | h1
    · exact h.new x h1
    · omega
section
variable {W w : World} {F G : Nat → Prop} {g h k cg r : Nat} {s : KS} {cv : Value} {B : List Int}
theorem lone_add (v : Int) (n : Nat) (hl : Lone W w F g k s cg r cv B) (h8 : 8 ≤ k) (hk : k ≤ 4096) (hn : n < 18446744073709551616) :
    Calls Try.prog 43 #[.pointer (some ⟨g, 0, none⟩), .int .i64 v, .int .u64 n, .pointer (some ⟨cg, 0, none⟩)] w fun e w' => e = .returned (.int .i64 (addE s.1 n)) ∧ ∃ F', Lone W w' F' g k (addS k B v n s) cg r cv B := by
  obtain ⟨lv, vs, hs⟩ := hl.ks
  obtain ⟨L, led, a⟩ := s
  have hfit : Fit k L led := hl.fit
  have hs : Kst F w g k (wt L) led lv vs L := hs
  have hcnt : cnt L ≤ 200704 := hfit.cnt (by omega) hk
  have hw : wt L ≤ 281474976710656 := hfit.ok.wtL
  unfold addS
  by_cases h0 : n = 0
  · subst h0
    have e : addE L 0 = 4 := rfl
    rw [e, if_neg (by decide)]
    refine (add_zero g v _ w).mono ?_
    rintro _ w' ⟨rfl, rfl⟩
    exact ⟨rfl, F, hl⟩
  · by_cases h6 : 281474976710656 < wt L + n
    · have e : addE L n = 6 := by unfold addE; rw [if_neg h0, if_pos h6]
      rw [e, if_neg (by decide)]
      refine (add_over v n _ w hs hw h6 hn).mono ?_
      rintro _ w' ⟨rfl, rfl⟩
      exact ⟨rfl, F, hl⟩
    · have e : addE L n = 0 := by unfold addE; rw [if_neg h0, if_neg h6]
      rw [e, if_pos rfl]
      have hpk : PkOk (addL L v n, led, a) := pkOk_add hfit.pk v n (by omega) (by omega)
      refine (add_yes v w hs hl.kc hl.far hfit.pk rfl (by omega) (by omega) (by omega) (by omega) (by omega)).mono ?_
      rintro _ w' ⟨rfl, F', lv', vs', hp, _⟩
      exact ⟨rfl, F', lone_pack hl hp (addL_wt _ _ (by omega)).symm hpk⟩
theorem lone_take {M : LL} {led2 : Nat} (hl : Lone W w F g k s cg r cv B) (ht : KAt G w h k M led2) (hf2 : Fit k M led2) (h8 : 8 ≤ k) (hk : k ≤ 4096) :
    Calls Try.prog 39 #[.pointer (some ⟨g, 0, none⟩), .pointer (some ⟨h, 0, none⟩), .pointer (some ⟨cg, 0, none⟩)] w fun e w' => e = .returned (.int .i64 (takeE s.1 M)) ∧ ∃ F', Lone W w' F' g k (takeS k B (M, led2) s) cg r cv B := by
  obtain ⟨lv, vs, hs⟩ := hl.ks
  obtain ⟨lv2, vs2, ht⟩ := ht
  obtain ⟨L, led, a⟩ := s
  have hfit : Fit k L led := hl.fit
  have hs : Kst F w g k (wt L) led lv vs L := hs
  have hcnt : cnt L ≤ 200704 := hfit.cnt (by omega) hk
  have hcnt2 := hf2.cnt (by omega) hk
  unfold takeS
  by_cases h6 : 281474976710656 < wt L + wt M
  · have e : takeE L M = 6 := by unfold takeE; rw [if_pos h6]
    rw [e, if_neg (by decide)]
    refine (take_over _ w hs ht hfit.ok.wtL hf2.ok.wtL h6).mono ?_
    rintro _ w' ⟨rfl, q, rfl⟩
    exact ⟨rfl, F, hl.keep (below_drewN (Below.refl _ _) _)⟩
  · have e : takeE L M = 0 := by unfold takeE; rw [if_neg h6]
    rw [e, if_pos rfl]
    have hpk : PkOk (takeL L M, min (led + led2) 4611686018427387904, a) := pkOk_take hfit.pk (hf2.pk (a := 0)) (by omega) (by omega)
    refine (take_yes w hs ht hl.kc hl.far hfit.pk (hf2.pk (a := 0)) rfl rfl (by omega) (by omega) (by omega) (by omega)).mono ?_
    rintro _ w' ⟨rfl, F', lv', vs', hp, _⟩
    exact ⟨rfl, F', lone_pack hl hp (takeL_wt _ _).symm hpk⟩
end

/-! ### The document's example -/
def aliveN : Nat → KS
  | 0 => ([], 0, 0)
  | j + 1 => addS 8 [1] ((j : Int) + 1) 1 (aliveN j)
theorem aliveN_end : aliveN 9 = ([[9], [2, 4, 6, 8]], 1, 1) := by kernel_rfl
theorem aliveN_ok : ∀ j, j ≤ 9 → wt (aliveN j).1 = j
  | 0, _ => rfl
  | j + 1, h => by
    have ih := aliveN_ok j (by omega)
    rw [aliveN, addS_wt]
    have e : addE (aliveN j).1 1 = 0 := by unfold addE; rw [if_neg (by decide), if_neg (by omega)]
    rw [if_pos e, ih]
theorem alive_at : atR [[9], [2, 4, 6, 8]] 1 1 2 = (6, 1, 0) := by kernel_rfl
theorem byt_one : Byt [1] := ⟨by decide, fun x hx => by simp at hx; omega⟩
theorem lit_llr (w : World) : LLR (((w.alloc (.cells #[.int .i64 9] 2)).alloc (.cells #[.int .i64 2, .int .i64 4, .int .i64 6, .int .i64 8] 2)).alloc (.cells #[.slice (some ⟨w.heap.size, 0, none⟩) 1 1, .slice (some ⟨w.heap.size + 1, 0, none⟩) 4 4] 24)) (.slice (some ⟨w.heap.size + 1 + 1, 0, none⟩) 2 2) [[9], [2, 4, 6, 8]] := by
  have h1 := OwnE.lit (E := i64E) w [9] 2 rfl #[.int .i64 9] rfl (by decide)
  have z1 : (w.alloc (.cells #[.int .i64 9] 2)).heap.size = w.heap.size + 1 := by simp
  have h2 := OwnE.lit (E := i64E) (w.alloc (.cells #[.int .i64 9] 2)) [2, 4, 6, 8] 2 rfl #[.int .i64 2, .int .i64 4, .int .i64 6, .int .i64 8] rfl (by decide)
  have z2 : ((w.alloc (.cells #[.int .i64 9] 2)).alloc (.cells #[.int .i64 2, .int .i64 4, .int .i64 6, .int .i64 8] 2)).heap.size = w.heap.size + 1 + 1 := by simp
  have h3 := OwnE.lit (E := slE) ((w.alloc (.cells #[.int .i64 9] 2)).alloc (.cells #[.int .i64 2, .int .i64 4, .int .i64 6, .int .i64 8] 2)) [(some ⟨w.heap.size, 0, none⟩, 1, 1), (some ⟨w.heap.size + 1, 0, none⟩, 4, 4)] 24 rfl #[.slice (some ⟨w.heap.size, 0, none⟩) 1 1, .slice (some ⟨w.heap.size + 1, 0, none⟩) 4 4] rfl (by simp)
  rw [z1] at h2
  rw [z2] at h3
  refine ⟨_, rfl, h3.rd, fun i hi => ?_⟩
  match i, hi with
  | 0, _ => exact ((h1.alloc _).alloc _).rd
  | 1, _ => exact (h2.alloc _).rd
set_option maxRecDepth 100000 in
set_option maxHeartbeats 8000000 in
theorem alive_any (w : World) : Calls Try.prog 17 #[] w fun e w' => e = .returned (.bool true) ∧ Below w.heap.size w w' := by
  go_enter Try.func17, Try.ntmps17
  go_wp2_with fail
  refine (new_any 8 w (by decide) (by decide)).mono ?_
  rintro e w1 ⟨rfl, hw1⟩
  have hks := kAt_new 8 w
  rw [← hw1] at hks
  have hb1 : Below w.heap.size w w1 := by rw [hw1]; exact (Below.refl _ _).alloc (Nat.le_refl _) _
  have hz1 : w1.heap.size = w.heap.size + 1 := by rw [hw1]; simp
  have KS1 := Lib.hid hks
  have HB1 := Lib.hid hb1
  have HZ1 := Lib.hid hz1
  clear hw1 hks hb1 hz1
  go_wp2_with fail
  have hz1 := HZ1.out
  have hb2 : Below w1.heap.size w1 (w1.alloc (.cells #[.int .u8 1] 5)) := (Below.refl _ _).alloc (Nat.le_refl _) _
  refine (knew_any _ [1] _ (OwnE.one (E := u8E) w1 1 5 rfl #[.int .u8 1] rfl).rd byt_one).mono ?_
  rintro e w3 ⟨cg, r, cv, rfl, hcg, hr, hkc, hcv, hb3⟩
  have hz2 : (w1.alloc (.cells #[.int .u8 1] 5)).heap.size = w1.heap.size + 1 := by simp
  rw [hz2] at hcg hr hcv
  have hb3' : Below w1.heap.size w1 w3 := hb2.trans (hb3.mono (by omega))
  have hlo : Lone w w3 (fun x => x = w.heap.size) w.heap.size 8 (aliveN 0) cg r cv [1] := ⟨HB1.out.trans (hb3'.mono (by omega)), KS1.out.keep hb3', hkc, ⟨fun e => by have e : cg = w.heap.size := e; omega, fun e => by have e : r = w.heap.size := e; omega, fun k e => ⟨fun e2 => by have e2 : k = w.heap.size := e2; have := hcv k e; omega, (hcv k e).2⟩, hkc.blk.lt, hkc.rd.blk.lt⟩, Fit.nil_ 8, fun x hx => by have hx : x = w.heap.size := hx; omega, by omega, fun x hx => by have hx : x = w.heap.size := hx; have := hb3'.size; omega⟩
  have HL0 := Lib.hid hlo
  obtain ⟨g, hg⟩ : ∃ g, w.heap.size = g := ⟨_, rfl⟩
  have HG := Lib.hid hg
  have hlo' := HL0.out
  rw [hg] at hlo' ⊢
  have HLO := Lib.hid hlo'
  clear hlo hlo' HL0 hb2 hb3 hb3' hcg hr hkc hcv KS1 HB1 hz1 hz2 hg
  go_wp2_with fail
  go_loopg [4] 9 (fun q i wr => ∃ (j : Nat) (F : Nat → Prop), q = 9 - j ∧ j ≤ 9 ∧ i = .int .i64 ((j : Int) + 1) ∧ Hid (Lone w wr F g 8 (aliveN j) cg r cv [1]))
  case atStart => exact ⟨0, _, rfl, by omega, rfl, HLO⟩
  case round =>
    obtain ⟨j, F, hq, hj, rfl, HA⟩ := hrel
    have HQ := Lib.hid hq
    clear hq
    by_cases hj9 : j < 9
    · have HADD := Lib.hid (lone_add ((j : Int) + 1) 1 HA.out (by decide) (by decide) (by decide))
      have he : addE (aliveN j).1 1 = 0 := by
        have := aliveN_ok j hj
        unfold addE; rw [if_neg (by decide), if_neg (by omega)]
      rw [he] at HADD
      have HNX : Hid (aliveN (j + 1) = addS 8 [1] ((j : Int) + 1) 1 (aliveN j)) := Lib.hid rfl
      clear he
      go_wp2_with fail
      refine (HADD.out).mono ?_
      rintro e w4 ⟨rfl, F', hl'⟩
      rw [← HNX.out] at hl'
      have HL' := Lib.hid hl'
      clear hl' HADD
      go_wp2_with fail
      go_roundg (9 - (j + 1))
      case measure => have := HQ.out; omega
      case rel => exact ⟨j + 1, F', rfl, by omega, by go_num, HL'⟩
    · obtain rfl : j = 9 := by omega
      have ha := HA.out
      rw [aliveN_end] at ha
      have HA9 := Lib.hid ha
      clear ha HA
      obtain ⟨lv, vs, hs⟩ := HA9.out.ks
      have hat := at_any 1 2 wr hs HA9.out.fit.ok rfl (by decide) (by decide) (by decide) (by decide)
      rw [alive_at] at hat
      have HAT := Lib.hid hat
      have HS := Lib.hid hs
      clear hat hs
      go_wp2_with fail
      refine (HAT.out).mono ?_
      rintro e w5 ⟨rfl, hb5⟩
      have HL5 := Lib.hid (HA9.out.keep hb5)
      have HS5 := Lib.hid (HS.out.keep hb5)
      clear hb5 HAT
      go_wp2_with fail
      refine (levels_any w5 HS5.out (by decide) (by decide)).mono ?_
      rintro e w6 ⟨v6, vs6, rfl, hlo6, hb6⟩
      obtain ⟨A6, c6, e6, _, _⟩ := hlo6.llr.form
      subst e6
      have HLO6 := Lib.hid hlo6
      have HL6 := Lib.hid (HL5.out.keep hb6)
      have HS6 := Lib.hid (HS5.out.keep hb6)
      clear hlo6 hb6
      have hb7 : Below w6.heap.size w6 (((w6.alloc (.cells #[.int .i64 9] 2)).alloc (.cells #[.int .i64 2, .int .i64 4, .int .i64 6, .int .i64 8] 2)).alloc (.cells #[.slice (some ⟨w6.heap.size, 0, none⟩) 1 1, .slice (some ⟨w6.heap.size + 1, 0, none⟩) 4 4] 24)) := by (repeat' (first | (with_reducible exact Below.refl _ _) | (with_reducible refine Below.alloc ?_ ?_ _) | (with_reducible refine Below.drew ?_) | (with_reducible refine below_drewN ?_ _) | (with_reducible refine Below.setCell ?_ ?_ _) | (with_reducible refine below_of (by assumption) ?_ ?_) | go_size))
      have HB7 := Lib.hid hb7
      have HRS := Lib.hid (rsame_any _ _ [[9], [2, 4, 6, 8]] [[9], [2, 4, 6, 8]] _ (HLO6.out.llr.keep hb7) (lit_llr w6))
      clear hb7
      go_wp2_with fail
      refine (HRS.out).mono ?_
      rintro e w8 ⟨rfl, q8, hw8⟩
      simp only [decide_true]
      have hb8 : Below w6.heap.size w6 w8 := by rw [hw8]; exact below_drewN HB7.out _
      have HB8 := Lib.hid hb8
      clear hw8 hb8 HRS
      go_wp2_with fail
      refine (ledger_any w8 (HS6.out.keep HB8.out)).mono ?_
      rintro e w9 ⟨rfl, hw9⟩
      subst hw9
      go_wp2_with fail
      refine (kleft_any cg r cv [1] 1 w8 (HL6.out.keep HB8.out).kc).mono ?_
      rintro e w9 ⟨rfl, q9, hw9⟩
      have hb9 : Below w.heap.size w w9 := by rw [hw9]; exact below_drewN (HL6.out.keep HB8.out).below _
      have HB9 := Lib.hid hb9
      clear hw9 hb9
      go_wp2_with fail
      refine bodyPost_ret (by simp [results, Try.results17, go_sem, *]; try rfl) rfl ?_
      exact ⟨rfl, HB9.out⟩
end Go.Proofs.Ytigmncogjbbmhaa
