/- wire's reader: New, Left, At, the letters v and z. Condition: fewer than 2^40 bytes. · wire's reader: leb. · wire's reader: zig, Next; tdwire's reader: num. · tdwire's reader: num, many. · tdwire's reader: listed, waiting. Condition: fewer than 2^40 bytes. · tdwire's reader: listed. Condition: fewer than 2^40 bytes. · tdwire's Read: what its deferred call does. · slices.Equal of bytes. -/
import Derived.Test.YtedhpkfbobgkgaaTW
import Derived.Test.YtedhpkfbobgkgaaTP
import Derived.Test.YtedhpkfbobgkgaaDigC
import Derived.Test.YtedhpkfbobgkgaaDigG
import Derived.Test.YtedhpkfbobgkgaaPlanP
import Derived.Defers
import Derived.Recover
namespace Go.Proofs.Ytedhpkfbobgkgaa
section
open Go.RowKit Go.Lib
set_option maxRecDepth 100000 in
set_option maxHeartbeats 1000000 in
theorem clone_B (v : Value) (l : List Int) (w : World) (h : RdI .u8 w v l) (hlen : l.length ≤ 1000000000000) :
    Calls Try.prog 100 #[v] w fun e w' => ∃ v', e = .returned v' ∧ OwnB w.heap.size w' v' l ∧ Below w.heap.size w w' := by
  obtain ⟨A, c, rfl, hn, hc, hp⟩ := h.form
  have HR := Lib.hid h
  clear h
  by_cases hnil : A = none
  · subst hnil
    have h0 : l = [] := by
      rcases Nat.eq_zero_or_pos l.length with h0 | h0
      · exact List.eq_nil_of_length_eq_zero h0
      · obtain ⟨g, off, e, _⟩ := hp h0; cases e
    subst h0
    clear hp
    have he : (binOp .eql 78 (.slice none 0 c) (.slice none 0 0)).run Try.prog w = .ok (.bool true) w := Lib.run_eql_slice_nil w _ _ _ _ _ _ _ Try.underlying78
    go_enter Try.func100, Try.ntmps100
    go_wp2_with fail
    go_ret
    exact ⟨_, rfl, OwnI.nil_ _ _ _ _, by (repeat' (first | (with_reducible exact Below.refl _ _) | (with_reducible refine Below.alloc ?_ ?_ _) | (with_reducible refine Below.drew ?_) | (with_reducible refine below_drewN ?_ _) | (with_reducible refine Below.setCell ?_ ?_ _) | (with_reducible refine below_of (by assumption) ?_ ?_) | go_size))⟩
  · obtain ⟨a, rfl⟩ : ∃ a, A = some a := by
      cases A with
      | none => exact absurd rfl hnil
      | some a => exact ⟨a, rfl⟩
    clear hnil hp
    have O0 : ∀ W : World, OwnB W.heap.size (W.alloc (.cells #[] 5)) (.slice (some ⟨W.heap.size, 0, none⟩) 0 0) [] := fun W =>
      ⟨rfl, .inr ⟨W.heap.size, 0, _, rfl, Nat.le_refl _, heap_alloc_new _ _, by simp, by unfold maxLen; omega, rfl, by simp⟩⟩
    have HO0 := Lib.hid O0
    clear O0
    have he : (binOp .eql 78 (.slice (some a) l.length c) (.slice none 0 0)).run Try.prog w = .ok (.bool false) w := Lib.run_eql_slice_nil w _ _ _ _ _ _ _ Try.underlying78
    go_enter Try.func100, Try.ntmps100
    go_wp2_with (first
      | (at_builtin
         go_must (refine append_B rfl (.tmp 5) (.tmp 6) rfl w.heap.size _ [] rfl (HO0.out w) _ l rfl (Rd.alloc HR.out _) (by simp; omega) (by simp) ?_)
         intro v2 w2 o2 g2 a2
         have hb2 : Below w.heap.size w w2 := ((Below.refl _ _).alloc (Nat.le_refl _) _).grown g2 (by simp) (fun k hk => (OwnI.lt (HO0.out w) k hk).1)
         have O2 := Lib.hid o2
         clear o2 g2 a2))
    go_ret
    exact ⟨v2, rfl, O2.out, hb2⟩

/-- A reader at block g, of these bytes, at this place. -/
def RdrAt (w : World) (g : Nat) (bs : List Int) (a : Nat) : Prop := ∃ v, Blk w g 160 #[v, .int .i64 a] ∧ OwnB 0 w v bs ∧ a ≤ bs.length
theorem RdrAt.lt {w : World} {g : Nat} {bs : List Int} {a : Nat} (h : RdrAt w g bs a) : g < w.heap.size := by
  obtain ⟨v, h1, _⟩ := h; exact h1.lt
theorem RdrAt.keep {w w' : World} {g : Nat} {bs : List Int} {a : Nat} (h : RdrAt w g bs a) (hb : Below w.heap.size w w') : RdrAt w' g bs a := by
  obtain ⟨v, h1, h2, h3⟩ := h
  exact ⟨v, h1.keep hb, OwnI.keep h2 hb, h3⟩
theorem RdrAt.drewN {w : World} {g : Nat} {bs : List Int} {a : Nat} (h : RdrAt w g bs a) (n : Nat) : RdrAt (w.drewN n) g bs a := h
theorem RdrAt.put {w : World} {g : Nat} {bs : List Int} {a : Nat} (h : RdrAt w g bs a) (a' : Nat) (ha : a' ≤ bs.length) : RdrAt (w.setCell ⟨g, 1, none⟩ (.int .i64 a')) g bs a' := by
  obtain ⟨v, h1, h2, h3⟩ := h
  exact ⟨v, h1.set_ 1 _, h2.far (fun e => h1.notB h2 (by decide) e) _, ha⟩

set_option maxRecDepth 100000 in
set_option maxHeartbeats 1000000 in
theorem rnew_any (v : Value) (bs : List Int) (w : World) (h : RdI .u8 w v bs) (hlen : bs.length ≤ 1000000000000) :
    Calls Try.prog 82 #[v] w fun e w' => ∃ g, e = .returned (.pointer (some ⟨g, 0, none⟩)) ∧ w.heap.size ≤ g ∧ RdrAt w' g bs 0 ∧ Below w.heap.size w w' := by
  have C1 := Lib.hid (clone_B v bs w h hlen)
  clear h
  go_enter Try.func82, Try.ntmps82
  go_wp2_with fail
  refine (C1.out).mono ?_
  rintro e w1 ⟨v1, rfl, o1, hb1⟩
  have O1 := Lib.hid o1
  have hz1 := hb1.size
  obtain ⟨A1, c1, hv1, _, _, _⟩ := (OwnI.rd o1).form
  generalize bs.length = N at hv1
  subst hv1
  clear o1
  go_wp2_with fail
  go_ret
  refine ⟨w1.heap.size, rfl, hz1, ⟨_, Blk.new _ _ _, OwnI.lift (OwnI.alloc O1.out _) (fun _ _ => Nat.zero_le _), Nat.zero_le _⟩, by (repeat' (first | (with_reducible exact Below.refl _ _) | (with_reducible refine Below.alloc ?_ ?_ _) | (with_reducible refine Below.drew ?_) | (with_reducible refine below_drewN ?_ _) | (with_reducible refine Below.setCell ?_ ?_ _) | (with_reducible refine below_of (by assumption) ?_ ?_) | go_size))⟩

set_option maxRecDepth 100000 in
set_option maxHeartbeats 1000000 in
theorem rleft_any (g : Nat) (bs : List Int) (a : Nat) (w : World) (h : RdrAt w g bs a) (_hlen : bs.length ≤ 1000000000000) :
    Calls Try.prog 86 #[.pointer (some ⟨g, 0, none⟩)] w fun e w' => e = .returned (.int .i64 ((bs.length : Int) - a)) ∧ ∃ n, w' = w.drewN n := by
  obtain ⟨v, h1, h2, h3⟩ := h
  obtain ⟨A1, k1, rfl, _, _, _⟩ := (OwnI.rd h2).form
  have c0 := h1.cell 0
  have c1 := h1.cell 1
  simp only [List.getElem?_toArray, List.getElem?_cons_succ, List.getElem?_cons_zero] at c0 c1
  have ew : IntKind.i64.wrap ((bs.length : Int) - a) = (bs.length : Int) - a := IntWalk.i64_in _ (by omega)
  clear h1 h2
  go_enter Try.func86, Try.ntmps86
  go_wp2_with fail
  go_quiet (fail)
  clear ew
  go_wp2_with fail
  go_ret
  exact ⟨rfl, _, rfl⟩
set_option maxHeartbeats 400000 in
theorem rat_any (g : Nat) (bs : List Int) (a : Nat) (w : World) (h : RdrAt w g bs a) :
    Calls Try.prog 102 #[.pointer (some ⟨g, 0, none⟩)] w fun e w' => e = .returned (.int .i64 a) ∧ w = w' := by
  obtain ⟨v, h1, h2, h3⟩ := h
  have c1 := h1.cell 1
  simp only [List.getElem?_toArray, List.getElem?_cons_succ, List.getElem?_cons_zero] at c1
  clear h1 h2
  go_enter Try.func102, Try.ntmps102
  go_wp2_with fail
  go_ret
  exact ⟨rfl, rfl⟩
end
section
open Go.RowKit Go.Lib
theorem orPart (part y : Int) (j : Nat) (hj : j ≤ 9) (p0 : 0 ≤ part) (p1 : part < 128 ^ j) (y0 : 0 ≤ y) (y1 : y < 128) (y9 : j = 9 → y ≤ 1) :
    bits .or .u64 part (IntKind.u64.wrap (y * 2 ^ (7 * j))) = part + 128 ^ j * y := by
  obtain ⟨a, rfl⟩ := Int.eq_ofNat_of_zero_le p0
  obtain ⟨b, rfl⟩ := Int.eq_ofNat_of_zero_le y0
  have e1 : (2 : Nat) ^ (7 * j) = 128 ^ j := by rw [Nat.pow_mul]
  have hb : b * 2 ^ (7 * j) < 18446744073709551616 := by
    rw [e1]
    by_cases h9 : j = 9
    · subst h9; have := y9 rfl; omega
    · have h2 : (128 : Nat) ^ j ≤ 128 ^ 8 := Nat.pow_le_pow_right (by omega) (by omega)
      have h3 : b * 128 ^ j ≤ 127 * 128 ^ 8 := Nat.mul_le_mul (by omega) h2
      omega
  have ha : a < 2 ^ (7 * j) := by rw [e1]; exact_mod_cast p1
  have ha64 : a < 18446744073709551616 := by
    have h2 : (128 : Nat) ^ j ≤ 128 ^ 9 := Nat.pow_le_pow_right (by omega) (by omega)
    rw [e1] at ha
    omega
  have e2 : ((b : Int) * 2 ^ (7 * j)) = ((b * 2 ^ (7 * j) : Nat) : Int) := by simp
  rw [e2, show IntKind.u64.wrap ((b * 2 ^ (7 * j) : Nat) : Int) = ((b * 2 ^ (7 * j) : Nat) : Int) from by rw [u64w]; omega, bits_or_u64_nat a _ ha64 hb]
  have h := Nat.two_pow_add_eq_or_of_lt ha b
  rw [Nat.or_comm, Nat.mul_comm b, ← h, e1]
  simp
  omega
/-- In the midst of a number: j bytes are in. -/
def LebMid (l : List Int) (j : Nat) (part : Int) : Prop := unleb l = (unF (10 - j) (l.drop j)).map (fun p => (part + 128 ^ j * p.1, p.2))
theorem LebMid.start (l : List Int) : LebMid l 0 0 := by
  unfold LebMid unleb
  cases h : unF 10 l with
  | none => simp [h]
  | some p => simp [h]
theorem LebMid.more {l : List Int} {j : Nat} {part x : Int} {r : List Int} (h : LebMid l j part) (hl : l.drop j = x :: r) (hj : j < 9) (hx : 127 < x) : LebMid l (j + 1) (part + 128 ^ j * (x - 128)) := by
  unfold LebMid at *
  have e : l.drop (j + 1) = r := by
    have := congrArg List.tail hl
    simpa [List.tail_drop] using this
  rw [h, hl, show 10 - j = (9 - j) + 1 by omega, unF, if_neg (by omega), if_pos hx, e, show 10 - (j + 1) = 9 - j by omega]
  cases hu : unF (9 - j) r with
  | none => simp
  | some p =>
    simp only [Option.map_some, Option.some.injEq, Prod.mk.injEq, and_true]
    rw [Int.pow_succ, Int.mul_add, Int.mul_assoc]
    omega
theorem LebMid.last {l : List Int} {j : Nat} {part x : Int} {r : List Int} (h : LebMid l j part) (hl : l.drop j = x :: r) (hj : j ≤ 9) (h1 : ¬ (j = 9 ∧ 1 < x)) (hx : ¬ 127 < x) (hz : ¬ (x = 0 ∧ 0 < j)) : unleb l = some (part + 128 ^ j * x, r) := by
  unfold LebMid at h
  rw [h, hl, show 10 - j = (9 - j) + 1 by omega, unF, if_neg (by omega), if_neg hx, if_neg (by omega)]
  rfl
theorem LebMid.none_ {l : List Int} {j : Nat} {part : Int} (h : LebMid l j part) (hl : l.drop j = []) (hj : j ≤ 9) : unleb l = none := by
  unfold LebMid at h
  rw [h, hl, show 10 - j = (9 - j) + 1 by omega]
  simp [unF]
theorem LebMid.bad {l : List Int} {j : Nat} {part x : Int} {r : List Int} (h : LebMid l j part) (hl : l.drop j = x :: r) (hj : j ≤ 9) (h1 : (j = 9 ∧ 1 < x) ∨ (¬ 127 < x ∧ x = 0 ∧ 0 < j)) : unleb l = none := by
  unfold LebMid at h
  rw [h, hl, show 10 - j = (9 - j) + 1 by omega, unF]
  rcases h1 with h1 | ⟨h1, h2, h3⟩
  · rw [if_pos (by omega)]; rfl
  · rw [if_neg (by omega), if_neg h1, if_pos (by omega)]; rfl
theorem touch_at (w : World) (n g i : Nat) (v : Value) : Touch (fun k => k = g) w ((w.drewN n).setCell ⟨g, i, none⟩ v) := ((Touch.refl (fun k => k = g) w).drewN n).setCell (p := ⟨g, i, none⟩) (.inl rfl) v
theorem touch_drawn (w : World) (n g : Nat) : Touch (fun k => k = g) w (w.drewN n) := (Touch.refl (fun k => k = g) w).drewN n
/-- The error where there is no number. -/
def NoNum (e : Int) : Prop := e = 20 ∨ e = 21

/-- What reading a number makes of a reader. -/
def GotN (w : World) (g : Nat) (bs : List Int) (a : Nat) (f : Int → Int) (e : Ending) (w' : World) : Prop :=
  match unleb (bs.drop a) with
  | some p => e = .returned (.tuple #[.int .u64 (f p.1), .int .i64 0]) ∧ RdrAt w' g bs (bs.length - p.2.length) ∧ Touch (fun k => k = g) w w'
  | none => ∃ er, e = .returned (.tuple #[.int .u64 (f 0), .int .i64 er]) ∧ NoNum er ∧ RdrAt w' g bs a ∧ Touch (fun k => k = g) w w'

set_option maxRecDepth 100000 in
set_option maxHeartbeats 4000000 in
theorem rleb_any (g : Nat) (s : Int) (bs : List Int) (a : Nat) (w : World) (h : RdrAt w g bs a) (hb : byL bs) (hlen : bs.length ≤ 1000000000000) :
    Calls Try.prog 123 #[.pointer (some ⟨g, 0, none⟩), .int .i64 s] w (GotN w g bs a id) := by
  have H := Lib.hid h
  obtain ⟨v, h1, h2, h3⟩ := h
  obtain ⟨A1, k1, rfl, _, m1, f1⟩ := (OwnI.rd h2).form
  have c0 := h1.cell 0
  have c1 := h1.cell 1
  have fz := h1.frozen 1
  simp only [List.getElem?_toArray, List.getElem?_cons_succ, List.getElem?_cons_zero] at c0 c1
  have F1 := Lib.hid f1
  have HB := Lib.hid hb
  clear h1 h2 f1 hb
  go_enter Try.func123, Try.ntmps123
  go_wp2_with fail
  go_loopg [6, 7] 10 (fun q n i wr => ∃ (j : Nat) (part : Int), q = 10 - j ∧ j ≤ 9 ∧ a + j ≤ bs.length ∧ i = .int .i64 j ∧ n = .int .u64 part ∧ (0 ≤ part ∧ part < 128 ^ j) ∧ Hid (LebMid (bs.drop a) j part) ∧ ∃ nq, wr = w.drewN nq)
  case atStart => exact ⟨0, 0, rfl, by omega, by omega, rfl, rfl, ⟨by omega, by simp⟩, Lib.hid (LebMid.start _), 0, rfl⟩
  case round =>
    obtain ⟨j, part, hq, hj, haj, rfl, rfl, ⟨p0, p1⟩, hm, nq, rfl⟩ := hrel
    have HQ := Lib.hid hq
    clear hq
    have ew := IntWalk.i64_in ((a : Int) + (j : Int)) (by omega)
    have p64 : part < 9223372036854775808 := by
      have h1 : (128 : Int) ^ j ≤ 128 ^ 9 := by
        have h2 : (128 : Nat) ^ j ≤ 128 ^ 9 := Nat.pow_le_pow_right (by omega) (by omega)
        exact_mod_cast h2
      omega
    by_cases hlt : a + j < bs.length
    · obtain ⟨gb, ob, rfl, hgb, e0⟩ := F1.out.at_ hlt
      have hdr : (bs.drop a).drop j = bs[a + j] :: bs.drop (a + j + 1) := by rw [List.drop_drop]; exact List.drop_eq_getElem_cons hlt
      have HDR := Lib.hid hdr
      have hbx := HB.out bs[a + j] (List.getElem_mem hlt)
      have ajt : ((a : Int) + (j : Int)).toNat = a + j := by omega
      have aj0 : (0 : Int) ≤ (a : Int) + (j : Int) := by omega
      have aj1 : (a : Int) + (j : Int) < (bs.length : Int) := by omega
      have dge : decide ((bs.length : Int) ≤ (a : Int) + (j : Int)) = false := decide_eq_false (by omega)
      have hrl : (bs.drop (a + j + 1)).length = bs.length - (a + j + 1) := List.length_drop
      have HRL := Lib.hid hrl
      clear hdr hrl
      generalize bs.drop (a + j + 1) = r at *
      generalize bs[a + j] = x at *
      have a7 := and127 x hbx.1 hbx.2
      go_wp2_with fail
      go_quiet (fail)
      go_wp2_with fail
      go_quiet (fail)
      clear ew ajt
      by_cases hx9 : j = 9 ∧ 1 < x
      · obtain ⟨rfl, hx1⟩ := hx9
        have hN : Hid (unleb (bs.drop a) = none) := Lib.hid (hm.out.bad HDR.out (by omega) (.inl ⟨rfl, hx1⟩))
        have hx1' : decide ((1 : Int) < x) = true := decide_eq_true hx1
        go_wp2_with fail
        go_ret2
        unfold GotN
        rw [hN.out]
        exact ⟨21, rfl, .inr rfl, H.out, touch_drawn w _ g⟩
      · have HX9 := Lib.hid hx9
        have hnot : (((j : Int) == 9) && decide ((1 : Int) < x)) = false := by
          by_cases h9 : j = 9
          · have : decide ((1 : Int) < x) = false := decide_eq_false (fun h => hx9 ⟨h9, h⟩)
            rw [this]; simp
          · have : ((j : Int) == 9) = false := beq_eq_false_iff_ne.2 (by omega)
            rw [this]; rfl
        by_cases hx : 127 < x
        · have hj9 : j < 9 := by omega
          have j9 : ((j : Int) == 9) = false := beq_eq_false_iff_ne.2 (by omega)
          have hO := orPart part (x % 128) j (by omega) p0 p1 (by omega) (by omega) (by omega)
          have hM := hm.out.more HDR.out hj9 hx
          rw [show x - 128 = x % 128 by omega] at hM
          have HO := Lib.hid hO
          have HM := Lib.hid hM
          have hps : Hid (0 ≤ part + 128 ^ j * (x % 128) ∧ part + 128 ^ j * (x % 128) < 128 ^ (j + 1)) := by
            have h1 : (0 : Int) < 128 ^ j := Int.pow_pos (by omega)
            have h2 : (128 : Int) ^ j * (x % 128) ≤ 128 ^ j * 127 := Int.mul_le_mul_of_nonneg_left (by omega) (by omega)
            have h3 : 0 ≤ (128 : Int) ^ j * (x % 128) := Int.mul_nonneg (by omega) (by omega)
            exact Lib.hid ⟨by omega, by rw [Int.pow_succ]; omega⟩
          clear hO hM hnot hx9
          go_wp2_with fail
          go_roundg (10 - (j + 1))
          case measure => have := HQ.out; omega
          case rel => exact ⟨j + 1, _, rfl, by omega, by omega, by go_num, by rw [HO.out], hps.out, HM, _, rfl⟩
        · by_cases hz : x = 0 ∧ 0 < j
          · have hN : Hid (unleb (bs.drop a) = none) := Lib.hid (hm.out.bad HDR.out hj (.inr ⟨hx, hz.1, hz.2⟩))
            obtain ⟨rfl, hj0⟩ := hz
            have j0 : decide ((0 : Int) < (j : Int)) = true := decide_eq_true (by omega)
            clear hnot hx9
            by_cases h9 : j = 9
            · subst h9
              go_wp2_with fail
              go_ret2
              unfold GotN
              rw [hN.out]
              exact ⟨21, rfl, .inr rfl, H.out, touch_drawn w _ g⟩
            · have j9 : ((j : Int) == 9) = false := beq_eq_false_iff_ne.2 (by omega)
              go_wp2_with fail
              go_ret2
              unfold GotN
              rw [hN.out]
              exact ⟨21, rfl, .inr rfl, H.out, touch_drawn w _ g⟩
          · have hL := hm.out.last HDR.out hj hx9 hx hz
            have hO := orPart part (x % 128) j (by omega) p0 p1 (by omega) (by omega) (by intro h9; omega)
            rw [show x % 128 = x by omega] at hO
            have HL := Lib.hid hL
            have HO := Lib.hid hO
            have hm8 : x % 128 = x := by omega
            have PUT : ∀ (n : Nat) (q : Int), q = ((a + j + 1 : Nat) : Int) → Hid (RdrAt ((w.drewN n).setCell ⟨g, 1, none⟩ (.int .i64 q)) g bs (a + j + 1)) := fun n q hq => by
              subst hq; exact Lib.hid ((H.out.drewN n).put (a + j + 1) (by omega))
            clear hnot hx9
            by_cases h9 : j = 9
            · obtain rfl : x = 1 := by have := HX9.out; omega
              subst h9
              have f1 : decide ((1 : Int) < 1) = false := by decide
              have O9 : bits .or .u64 part 9223372036854775808 = part + 128 ^ 9 * 1 := by
                have h := orPart part 1 9 (by omega) p0 p1 (by omega) (by omega) (by omega)
                rwa [show IntKind.u64.wrap (1 * 2 ^ (7 * 9)) = 9223372036854775808 from by rw [u64w]; decide +kernel] at h
              have HO9 := Lib.hid O9
              clear hO O9
              go_wp2_with fail
              go_ret2
              unfold GotN
              rw [HL.out]
              refine ⟨by rw [← HO9.out]; rfl, ?_, touch_at w _ g 1 _⟩
              simp only
              rw [HRL.out, show bs.length - (bs.length - (a + 9 + 1)) = a + 9 + 1 by omega]
              exact (PUT _ _ (by omega)).out
            · have j9 : ((j : Int) == 9) = false := beq_eq_false_iff_ne.2 (by omega)
              by_cases hx0 : x = 0
              · obtain rfl : j = 0 := by omega
                subst hx0
                have O0 : bits .or .u64 part 0 = part + 128 ^ 0 * 0 := by
                  have h := orPart part 0 0 (by omega) p0 p1 (by omega) (by omega) (by omega)
                  rwa [show IntKind.u64.wrap (0 * 2 ^ (7 * 0)) = 0 from by rw [u64w]; decide +kernel] at h
                have HO0 := Lib.hid O0
                clear hO O0
                go_wp2_with fail
                go_ret2
                unfold GotN
                rw [HL.out]
                refine ⟨by rw [← HO0.out]; rfl, ?_, touch_at w _ g 1 _⟩
                simp only
                rw [HRL.out, show bs.length - (bs.length - (a + 0 + 1)) = a + 0 + 1 by omega]
                exact (PUT _ _ (by omega)).out
              · have x0 : (x == 0) = false := beq_eq_false_iff_ne.2 hx0
                clear hx0
                go_wp2_with fail
                go_ret2
                unfold GotN
                rw [HL.out]
                refine ⟨rfl, ?_, touch_at w _ g 1 _⟩
                simp only
                rw [HRL.out, show bs.length - (bs.length - (a + j + 1)) = a + j + 1 by omega]
                exact (PUT _ _ (by omega)).out
    · have hdr : (bs.drop a).drop j = [] := by rw [List.drop_drop]; exact List.drop_eq_nil_of_le (by omega)
      have hN : Hid (unleb (bs.drop a) = none) := Lib.hid (hm.out.none_ hdr hj)
      have dge : decide ((bs.length : Int) ≤ (a : Int) + (j : Int)) = true := decide_eq_true (by omega)
      go_wp2_with fail
      go_quiet (fail)
      clear ew
      go_wp2_with fail
      go_ret2
      unfold GotN
      rw [hN.out]
      exact ⟨20, rfl, .inl rfl, H.out, (touch_drawn w _ g).drewN _⟩
end
section
open Go.RowKit Go.Lib
theorem GotN.first {w w1 : World} {g : Nat} {bs : List Int} {a : Nat} {f : Int → Int} {e : Ending} {w' : World} (hb : Below w.heap.size w w1) (h : GotN w1 g bs a f e w') : GotN w g bs a f e w' := by
  have ht : ∀ {x : World}, Touch (fun k => k = g) w1 x → Touch (fun k => k = g) w x := fun t => (Touch.of_below hb (Nat.le_refl _)).trans t (fun i hi => .inl hi)
  unfold GotN at *
  cases hu : unleb (bs.drop a) with
  | none => rw [hu] at h; obtain ⟨er, h1, h2, h3, h4⟩ := h; exact ⟨er, h1, h2, h3, ht h4⟩
  | some p => rw [hu] at h; obtain ⟨h1, h2, h3⟩ := h; exact ⟨h1, h2, ht h3⟩

set_option maxRecDepth 100000 in
set_option maxHeartbeats 1000000 in
theorem rzig_any (g : Nat) (s : Int) (bs : List Int) (a : Nat) (w : World) (h : RdrAt w g bs a) (hb : byL bs) (hlen : bs.length ≤ 1000000000000) :
    Calls Try.prog 125 #[.pointer (some ⟨g, 0, none⟩), .int .i64 s] w (GotN w g bs a (fun n => ub (uns n))) := by
  have C1 := rleb_any g s bs a w h hb hlen
  unfold GotN at *
  cases hu : unleb (bs.drop a) with
  | none =>
    simp only [hu] at C1 ⊢
    have C2 := Lib.hid C1
    have CU := fun w => Lib.hid (unsign_any 0 w (by omega) (by omega))
    have E0 : Hid (ub (uns 0) = 0) := Lib.hid (by decide)
    have U0 : Hid (uns 0 = 0) := Lib.hid (by decide)
    rw [E0.out]
    rw [U0.out] at CU
    clear C1 hu h hb
    go_enter Try.func125, Try.ntmps125
    go_wp2_with fail
    refine (C2.out).mono ?_
    rintro e w1 ⟨er, rfl, h2, h3, h4⟩
    simp only [id]
    go_wp2_with fail
    refine ((CU w1).out).mono ?_
    rintro e w' ⟨rfl, rfl⟩
    go_wp2_with fail
    go_ret2
    exact ⟨er, rfl, h2, h3, h4⟩
  | some p =>
    have pb := unleb_bd (hb.drop a) hu
    obtain ⟨z, r⟩ := p
    simp only [hu] at C1 pb ⊢
    have C2 := Lib.hid C1
    have CU := fun w => Lib.hid (unsign_any z w pb.1 pb.2)
    have EU : Hid (IntKind.u64.wrap (uns z) = ub (uns z)) := Lib.hid (u64w _)
    have ub0 := uns_bd pb.1 pb.2
    rw [← EU.out]
    clear C1 hu h hb EU
    go_enter Try.func125, Try.ntmps125
    go_wp2_with fail
    refine (C2.out).mono ?_
    rintro e w1 ⟨rfl, h3, h4⟩
    simp only [id]
    have H3 := Lib.hid h3
    have H4 := Lib.hid h4
    clear h3 h4
    go_wp2_with fail
    refine ((CU w1).out).mono ?_
    rintro e w' ⟨rfl, rfl⟩
    go_wp2_with fail
    go_ret2
    exact ⟨rfl, H3.out, H4.out⟩

set_option maxRecDepth 100000 in
set_option maxHeartbeats 1000000 in
theorem rnext_any (k K : Nat) (c : Int) (f : Int → Int) (g : Nat) (bs : List Int) (a : Nat) (w : World) (h : RdrAt w g bs a) (hv : VZ k c) (hK : fGet k = K)
    (eg : ∀ args w, (callFunc K args).run Try.prog w = .ok (.enter K args) w)
    (hf : ∀ w, RdrAt w g bs a → Calls Try.prog K #[.pointer (some ⟨g, 0, none⟩), .int .i64 0] w (GotN w g bs a f)) :
    Calls Try.prog 101 #[.pointer (some ⟨g, 0, none⟩), .int .u8 c] w (GotN w g bs a f) := by
  have H := Lib.hid h
  have HF := Lib.hid hf
  have FO : Hid (Calls Try.prog 109 #[.int .u8 c] w fun e w' => e = .returned (.tuple #[.agg #[.int .u8 c, .int .i64 0, .func (.func (fPut k)) #[] #[], .func (.func K) #[] #[]], .bool true]) ∧ Below w.heap.size w w') := by
    rw [← hK]; exact Lib.hid (formOf_any k c w hv)
  clear h hf hK hv
  go_enter Try.func101, Try.ntmps101
  go_wp2_with fail
  refine (FO.out).mono ?_
  rintro e w1 ⟨rfl, hb1⟩
  have hz1 := hb1.size
  have hb2 : ∀ cs, Below w.heap.size w (w1.alloc (.cells cs 170)) := fun cs => by (repeat' (first | (with_reducible exact Below.refl _ _) | (with_reducible refine Below.alloc ?_ ?_ _) | (with_reducible refine Below.drew ?_) | (with_reducible refine below_drewN ?_ _) | (with_reducible refine Below.setCell ?_ ?_ _) | (with_reducible refine below_of (by assumption) ?_ ?_) | go_size))
  go_wp2_with (go_at_fn K; refine (HF.out _ (H.out.keep (hb2 _))).mono ?_)
  rintro e w2 hg
  have HG := Lib.hid (GotN.first (hb2 _) hg)
  unfold GotN at hg
  cases hu : unleb (bs.drop a) with
  | none =>
    rw [hu] at hg
    obtain ⟨er, rfl, h2, h3, h4⟩ := hg
    clear hu h2 h3 h4
    go_wp2_with fail
    go_ret2
    exact HG.out
  | some p =>
    rw [hu] at hg
    obtain ⟨rfl, h3, h4⟩ := hg
    clear hu h3 h4
    go_wp2_with fail
    go_ret2
    exact HG.out
end
section
open Go.RowKit Go.Lib
/-- The reading was given up. -/
def Gave (e : Ending) : Prop := ∃ n : Int, e = .panicked [{ v := .iface 129 (.agg #[.int .i64 n]), recovered := false }]
/-- What a part of the reading makes of a reader: x is what is read, and what is left. -/
def GotX {α : Type} (x : Option (α × List Int)) (val : α → World → Value → Prop) (w : World) (g : Nat) (bs : List Int) (e : Ending) (w' : World) : Prop :=
  match x with
  | some p => ∃ v, e = .returned v ∧ val p.1 w' v ∧ RdrAt w' g bs (bs.length - p.2.length) ∧ Touch (fun k => k = g) w w'
  | none => Gave e ∧ Touch (fun k => k = g) w w'
theorem GotX.first {α : Type} {x : Option (α × List Int)} {val : α → World → Value → Prop} {w w1 : World} {g : Nat} {bs : List Int} {e : Ending} {w' : World} (hb : Below w.heap.size w w1) (h : GotX x val w1 g bs e w') : GotX x val w g bs e w' := by
  have ht : ∀ {x : World}, Touch (fun k => k = g) w1 x → Touch (fun k => k = g) w x := fun t => (Touch.of_below hb (Nat.le_refl _)).trans t (fun i hi => .inl hi)
  unfold GotX at *
  cases x with
  | none => exact ⟨h.1, ht h.2⟩
  | some p => obtain ⟨v, h1, h2, h3, h4⟩ := h; exact ⟨v, h1, h2, h3, ht h4⟩

set_option maxRecDepth 100000 in
set_option maxHeartbeats 1000000 in
theorem rnextv_any (g : Nat) (bs : List Int) (a : Nat) (w : World) (h : RdrAt w g bs a) (hb : byL bs) (hlen : bs.length ≤ 1000000000000) :
    Calls Try.prog 101 #[.pointer (some ⟨g, 0, none⟩), .int .u8 118] w (GotN w g bs a id) :=
  rnext_any 7 123 118 id g bs a w h vz_v rfl (fun _ _ => rfl) (fun w h => rleb_any g 0 bs a w h hb hlen)
set_option maxRecDepth 100000 in
set_option maxHeartbeats 1000000 in
theorem rnextz_any (g : Nat) (bs : List Int) (a : Nat) (w : World) (h : RdrAt w g bs a) (hb : byL bs) (hlen : bs.length ≤ 1000000000000) :
    Calls Try.prog 101 #[.pointer (some ⟨g, 0, none⟩), .int .u8 122] w (GotN w g bs a (fun n => ub (uns n))) :=
  rnext_any 8 125 122 _ g bs a w h vz_z rfl (fun _ _ => rfl) (fun w h => rzig_any g 0 bs a w h hb hlen)

set_option maxRecDepth 100000 in
set_option maxHeartbeats 1000000 in
theorem num_gen (c : Int) (f : Int → Int) (g : Nat) (bs : List Int) (a : Nat) (w : World) (h : RdrAt w g bs a)
    (hn : ∀ w, RdrAt w g bs a → Calls Try.prog 101 #[.pointer (some ⟨g, 0, none⟩), .int .u8 c] w (GotN w g bs a f)) :
    Calls Try.prog 83 #[.agg #[.pointer (some ⟨g, 0, none⟩)], .int .u8 c] w (GotX (unleb (bs.drop a)) (fun n _ v => v = .int .u64 (f n)) w g bs) := by
  have H := Lib.hid h
  have HN := Lib.hid hn
  have hb1 : Below w.heap.size w (w.alloc (.cells #[.pointer (some ⟨g, 0, none⟩)] 133)) := (Below.refl _ _).alloc (Nat.le_refl _) _
  have hlt := h.lt
  clear h hn
  go_enter Try.func83, Try.ntmps83
  go_wp2_with fail
  refine (HN.out _ (H.out.keep hb1)).mono ?_
  intro e w2 hg
  unfold GotN at hg
  cases hu : unleb (bs.drop a) with
  | none =>
    simp only [hu] at hg
    have HU := Lib.hid hu
    obtain ⟨er, rfl, h2, h3, h4⟩ := hg
    have hne : (er != 0) = true := by rcases h2 with rfl | rfl <;> rfl
    have T4 := Lib.hid h4
    have H3 := Lib.hid h3
    have c0 : w2.cell? ⟨w.heap.size, 0, none⟩ = some (.pointer (some ⟨g, 0, none⟩)) := (World.cell?_of_block (a := ⟨w.heap.size, 0, none⟩) (h4.block w.heap.size (by simp) (by omega))).trans (by simp [World.cell?_alloc_new])
    clear hu h2 h3 h4
    go_wp2_with fail
    refine (rat_any g bs a w2 H3.out).mono ?_
    rintro e w' ⟨rfl, rfl⟩
    go_wp2_with fail
    refine ⟨rfl, ?_⟩
    unfold GotX
    rw [HU.out]
    exact ⟨⟨_, rfl⟩, (Touch.of_below hb1 (Nat.le_refl _)).trans T4.out (fun i hi => .inl hi)⟩
  | some p =>
    simp only [hu] at hg
    have HU := Lib.hid hu
    obtain ⟨rfl, h3, h4⟩ := hg
    have T4 := Lib.hid h4
    have H3 := Lib.hid h3
    clear hu h3 h4
    go_wp2_with fail
    go_ret
    unfold GotX
    rw [HU.out]
    exact ⟨_, rfl, rfl, H3.out, (Touch.of_below hb1 (Nat.le_refl _)).trans T4.out (fun i hi => .inl hi)⟩
theorem numv_any (g : Nat) (bs : List Int) (a : Nat) (w : World) (h : RdrAt w g bs a) (hb : byL bs) (hlen : bs.length ≤ 1000000000000) :
    Calls Try.prog 83 #[.agg #[.pointer (some ⟨g, 0, none⟩)], .int .u8 118] w (GotX (unleb (bs.drop a)) (fun n _ v => v = .int .u64 n) w g bs) :=
  num_gen 118 id g bs a w h (fun w h => rnextv_any g bs a w h hb hlen)
theorem numz_any (g : Nat) (bs : List Int) (a : Nat) (w : World) (h : RdrAt w g bs a) (hb : byL bs) (hlen : bs.length ≤ 1000000000000) :
    Calls Try.prog 83 #[.agg #[.pointer (some ⟨g, 0, none⟩)], .int .u8 122] w (GotX (unleb (bs.drop a)) (fun n _ v => v = .int .u64 (ub (uns n))) w g bs) :=
  num_gen 122 (fun n => ub (uns n)) g bs a w h (fun w h => rnextz_any g bs a w h hb hlen)

set_option maxRecDepth 100000 in
set_option maxHeartbeats 2000000 in
theorem many_any (g : Nat) (bs : List Int) (a : Nat) (w : World) (h : RdrAt w g bs a) (hb : byL bs) (hlen : bs.length ≤ 1000000000000) :
    Calls Try.prog 103 #[.agg #[.pointer (some ⟨g, 0, none⟩)]] w (GotX (rdMany (bs.drop a)) (fun n _ v => v = .int .i64 n) w g bs) := by
  have hb1 : Below w.heap.size w (w.alloc (.cells #[.pointer (some ⟨g, 0, none⟩)] 133)) := (Below.refl _ _).alloc (Nat.le_refl _) _
  have H := Lib.hid (h.keep hb1)
  have hlt := h.lt
  have hal : a ≤ bs.length := by obtain ⟨v, _, _, h3⟩ := h; exact h3
  have HB := Lib.hid hb
  clear h hb
  go_enter Try.func103, Try.ntmps103
  go_wp2_with fail
  refine (numv_any g bs a _ H.out HB.out hlen).mono ?_
  intro e w2 hg
  unfold GotX at hg
  cases hu : unleb (bs.drop a) with
  | none =>
    simp only [hu] at hg
    have HU : Hid (rdMany (bs.drop a) = none) := Lib.hid (by unfold rdMany; rw [hu])
    obtain ⟨⟨pv, rfl⟩, h4⟩ := hg
    have T4 := Lib.hid h4
    clear hu h4
    go_wp2_with fail
    refine ⟨rfl, ?_⟩
    unfold GotX
    rw [HU.out]
    exact ⟨⟨_, rfl⟩, (Touch.of_below hb1 (Nat.le_refl _)).trans T4.out (fun i hi => .inl hi)⟩
  | some p =>
    obtain ⟨n, r⟩ := p
    have pb := unleb_bd (HB.out.drop a) hu
    have pl := (unleb_len hu).1
    rw [List.length_drop] at pl
    simp only [hu] at hg pb pl
    obtain ⟨v, rfl, rfl, h3, h4⟩ := hg
    have c0 : w2.cell? ⟨w.heap.size, 0, none⟩ = some (.pointer (some ⟨g, 0, none⟩)) := (World.cell?_of_block (a := ⟨w.heap.size, 0, none⟩) (h4.block w.heap.size (by simp) (by omega))).trans (by simp [World.cell?_alloc_new])
    have T4 := Lib.hid h4
    have H3 := Lib.hid h3
    have hr : ((bs.length : Int) - ((bs.length - r.length : Nat) : Int)) = (r.length : Int) := by omega
    have CL := rleft_any g bs (bs.length - r.length) w2 h3 hlen
    rw [hr] at CL
    have CL' := Lib.hid CL
    clear CL h3 h4 hr
    have hrn : (r.length : Int) < 18446744073709551616 := by omega
    by_cases h1 : n ≤ 65536
    · have d1 : decide ((65536 : Int) < n) = false := decide_eq_false (by omega)
      by_cases h2 : n ≤ r.length
      · have HU : Hid (rdMany (bs.drop a) = some (n.toNat, r)) := Lib.hid (by unfold rdMany; rw [hu]; simp only; rw [if_pos ⟨h1, h2⟩])
        have d2 : decide ((r.length : Int) < n) = false := decide_eq_false (by omega)
        have HE := Lib.hid (show ((n.toNat : Nat) : Int) = n by omega)
        clear hu
        go_wp2_with (go_at_call 86; refine (CL'.out).mono ?_; rintro e w' ⟨rfl, q, rfl⟩)
        go_ret
        unfold GotX
        rw [HU.out]
        refine ⟨_, rfl, ?_, H3.out.drewN _, ((Touch.of_below hb1 (Nat.le_refl _)).trans T4.out (fun i hi => .inl hi)).drewN _⟩
        simp only
        rw [HE.out]
        rfl
      · have HU : Hid (rdMany (bs.drop a) = none) := Lib.hid (by unfold rdMany; rw [hu]; simp only; rw [if_neg (by omega)])
        have d2 : decide ((r.length : Int) < n) = true := decide_eq_true (by omega)
        clear hu
        go_wp2_with (first | (go_at_call 86; refine (CL'.out).mono ?_; rintro e w' ⟨rfl, q, rfl⟩) | (go_at_call 102; refine (rat_any g bs _ _ (H3.out.drewN _)).mono ?_; rintro e w' ⟨rfl, rfl⟩))
        refine ⟨rfl, ?_⟩
        unfold GotX
        rw [HU.out]
        exact ⟨⟨_, rfl⟩, ((Touch.of_below hb1 (Nat.le_refl _)).trans T4.out (fun i hi => .inl hi)).drewN _⟩
    · have d1 : decide ((65536 : Int) < n) = true := decide_eq_true (by omega)
      have HU : Hid (rdMany (bs.drop a) = none) := Lib.hid (by unfold rdMany; rw [hu]; simp only; rw [if_neg (by omega)])
      clear hu
      go_wp2_with (go_at_call 102; refine (rat_any g bs _ _ H3.out).mono ?_; rintro e w' ⟨rfl, rfl⟩)
      refine ⟨rfl, ?_⟩
      unfold GotX
      rw [HU.out]
      exact ⟨⟨_, rfl⟩, (Touch.of_below hb1 (Nat.le_refl _)).trans T4.out (fun i hi => .inl hi)⟩
end
section
open Go.RowKit Go.Lib
theorem suf {bs r : List Int} {m : Nat} (h : r = bs.drop m) : bs.drop (bs.length - r.length) = r := by
  subst h
  rw [List.length_drop]
  rcases Nat.le_total m bs.length with h | h
  · rw [show bs.length - (bs.length - m) = m by omega]
  · rw [show bs.length - (bs.length - m) = bs.length by omega, List.drop_eq_nil_of_le (Nat.le_refl _), List.drop_eq_nil_of_le h]
theorem suf_unleb {bs : List Int} {a : Nat} {z : Int} {r : List Int} (h : unleb (bs.drop a) = some (z, r)) : bs.drop (bs.length - r.length) = r := by
  obtain ⟨_, j, hj⟩ := unleb_len h
  exact suf (m := a + j) (by rw [← List.drop_drop]; exact hj)
theorem tt {g : Nat} {w a b : World} (t1 : Touch (fun k => k = g) w a) (t2 : Touch (fun k => k = g) a b) : Touch (fun k => k = g) w b := t1.trans t2 (fun _i hi => .inl hi)
theorem OwnM.away {base g : Nat} {w w' : World} {v : Value} {l : List Mn} (h : OwnM base w v l) (ht : Touch (fun k => k = g) w w') (hg : g < base) : OwnM base w' v l :=
  h.stay fun k e => ht.block k (h.lt k e).2 (fun e2 => by have := (h.lt k e).1; omega)
theorem OwnB.ne_M {b b' : Nat} {w : World} {v u : Value} {bs : List Int} {l : List Mn} (h : OwnB b w v bs) (ho : OwnM b' w u l) {k : Nat} (hk : v.ownBlock = some k) : u.ownBlock ≠ some k := by
  intro e
  rcases h.2 with h2 | ⟨g1, cap, cur, rfl, e2, e3, r⟩
  · rw [h2.1] at hk; cases hk
  · rcases ho.2 with h4 | ⟨g2, cap2, cur2, rfl, e5, e6, r2⟩
    · rw [h4.1] at e; cases e
    · cases hk
      cases e
      rw [e3] at e6
      cases e6
theorem RdrAt.grown {w w' : World} {g : Nat} {bs : List Int} {a b : Nat} {u : Value} {l : List Mn} (h : RdrAt w g bs a) (ho : OwnM b w u l) (hg : w.grownBy w' u.ownBlock) : RdrAt w' g bs a := by
  obtain ⟨v, h1, h2, h3⟩ := h
  exact ⟨v, (hg.block g h1.lt (fun e => h1.notOwn ho (by decide) e.symm)).trans h1, OwnI.stay h2 (fun k hk => hg.block k (OwnI.lt h2 k hk).2 (fun e => h2.ne_M ho hk e.symm)), h3⟩
theorem rdl_step {k : Nat} {acc : List Mn} {l : List Int} {T : Option (List Mn × List Int)} (h : rdl (k + 1) acc l = T) {x : Mn × List Int} (hx : rdOne (acc.getLast?.map (·.1)) l = some x) : rdl k (acc ++ [x.1]) x.2 = T := by
  rw [rdl, hx] at h; exact h
theorem rdl_stop {k : Nat} {acc : List Mn} {l : List Int} {T : Option (List Mn × List Int)} (h : rdl (k + 1) acc l = T) (hx : rdOne (acc.getLast?.map (·.1)) l = none) : T = none := by
  rw [rdl, hx] at h; exact h.symm
theorem rdw_step {k : Nat} {acc : List Mn} {l : List Int} {T : Option (List Mn × List Int)} (h : rdw (k + 1) acc l = T) {x : Mn × List Int} (hx : rdOne none l = some x) : rdw k (acc ++ [x.1]) x.2 = T := by
  rw [rdw, hx] at h; exact h
theorem rdw_stop {k : Nat} {acc : List Mn} {l : List Int} {T : Option (List Mn × List Int)} (h : rdw (k + 1) acc l = T) (hx : rdOne none l = none) : T = none := by
  rw [rdw, hx] at h; exact h.symm

set_option maxRecDepth 100000 in
set_option maxHeartbeats 4000000 in
theorem waiting_any (g : Nat) (bs : List Int) (a : Nat) (w : World) (h : RdrAt w g bs a) (hb : byL bs) (hlen : bs.length ≤ 1000000000000) :
    Calls Try.prog 85 #[.agg #[.pointer (some ⟨g, 0, none⟩)]] w (GotX (rdWait (bs.drop a)) (fun l w' v => OwnM w.heap.size w' v l) w g bs) := by
  have hb1 : Below w.heap.size w (w.alloc (.cells #[.pointer (some ⟨g, 0, none⟩)] 133)) := (Below.refl _ _).alloc (Nat.le_refl _) _
  have H := Lib.hid (h.keep hb1)
  have hlt := h.lt
  have HB := Lib.hid hb
  clear h hb
  go_enter Try.func85, Try.ntmps85
  go_wp2_with fail
  refine (many_any g bs a _ H.out HB.out hlen).mono ?_
  intro e w2 hg
  unfold GotX at hg
  cases hu : rdMany (bs.drop a) with
  | none =>
    simp only [hu] at hg
    have HU : Hid (rdWait (bs.drop a) = none) := Lib.hid (by unfold rdWait; rw [hu])
    obtain ⟨⟨pv, rfl⟩, h4⟩ := hg
    have T4 := Lib.hid h4
    clear hu h4
    go_wp2_with fail
    refine ⟨rfl, ?_⟩
    unfold GotX
    rw [HU.out]
    exact ⟨⟨_, rfl⟩, (Touch.of_below hb1 (Nat.le_refl _)).trans T4.out (fun i hi => .inl hi)⟩
  | some p =>
    obtain ⟨n, r⟩ := p
    simp only [hu] at hg
    obtain ⟨v, rfl, rfl, h3, h4⟩ := hg
    have hn : n ≤ 65536 ∧ bs.drop (bs.length - r.length) = r := by
      unfold rdMany at hu
      cases hx : unleb (bs.drop a) with
      | none => rw [hx] at hu; cases hu
      | some q =>
        obtain ⟨z, r'⟩ := q
        rw [hx] at hu
        simp only at hu
        split at hu
        · rename_i hc
          simp only [Option.some.injEq, Prod.mk.injEq] at hu
          obtain ⟨rfl, rfl⟩ := hu
          exact ⟨by omega, suf_unleb hx⟩
        · cases hu
    obtain ⟨hn1, hn2⟩ := hn
    have T4 := Lib.hid (tt (Touch.of_below hb1 (Nat.le_refl _)) h4)
    have C0 : Hid (w2.cell? ⟨w.heap.size, 0, none⟩ = some (.pointer (some ⟨g, 0, none⟩))) := Lib.hid ((World.cell?_of_block (a := ⟨w.heap.size, 0, none⟩) (h4.block w.heap.size (by simp) (by omega))).trans (by simp [World.cell?_alloc_new]))
    have HH : Hid (w.heap.size < w2.heap.size) := Lib.hid (by have := h4.size; simp at this; omega)
    obtain ⟨T, hT⟩ : ∃ T, rdWait (bs.drop a) = T := ⟨_, rfl⟩
    have HT := Lib.hid hT
    have R0 : Hid (rdw n [] (bs.drop (bs.length - r.length)) = T) := Lib.hid (by rw [hn2, ← hT]; unfold rdWait; rw [hu])
    have H3 := Lib.hid h3
    clear hu hT h3 h4 hn2
    generalize bs.length - r.length = a1 at *
    go_wp2_with fail
    go_loopg [3, 7] n (fun q v i wr => ∃ (j a' : Nat) (acc : List Mn), q = n - j ∧ j ≤ n ∧ i = .int .i64 j ∧ acc.length = j ∧ OwnM w2.heap.size wr v acc ∧ Hid (RdrAt wr g bs a') ∧ Hid (rdw (n - j) acc (bs.drop a') = T) ∧ Hid (Touch (fun k => k = g) w2 wr))
    case atStart => exact ⟨0, a1, [], rfl, by omega, rfl, rfl, OwnM.nil_ _ _, H3, R0, Lib.hid (Touch.refl _ _)⟩
    case round =>
      obtain ⟨j, a', acc, hq, hj, rfl, hacc, ho, hr, hs, ht⟩ := hrel
      have HQ := Lib.hid hq
      have HO := Lib.hid ho
      have HACC := Lib.hid hacc
      have hal : acc.length + 1 ≤ 1099511627776 := by omega
      have cb := (ht.out.cell (o := 0) HH.out (by omega)).trans C0.out
      have CB := Lib.hid cb
      have hzr := ht.out.size
      have hwr : w.heap.size < wr.heap.size := by have := HH.out; omega
      have hg2 : g < w2.heap.size := by have := HH.out; omega
      clear hq ho hacc
      by_cases hlt2 : j < n
      · have hs' := hs.out
        rw [show n - j = (n - (j + 1)) + 1 by omega] at hs'
        have HS := Lib.hid hs'
        clear hs'
        go_wp2_with fail
        refine (numz_any g bs a' wr hr.out HB.out hlen).mono ?_
        intro e w3 hg
        unfold GotX at hg
        cases hA : unleb (bs.drop a') with
        | none =>
          simp only [hA] at hg
          have HU : Hid (T = none) := Lib.hid (rdw_stop HS.out (by unfold rdOne; rw [hA]))
          obtain ⟨⟨pv, rfl⟩, h4⟩ := hg
          have T5 := Lib.hid h4
          clear hA h4 cb
          go_wp2_with fail
          refine ⟨rfl, ?_⟩
          unfold GotX
          rw [HT.out, HU.out]
          exact ⟨⟨_, rfl⟩, tt (tt T4.out ht.out) T5.out⟩
        | some p =>
          obtain ⟨z, r1⟩ := p
          simp only [hA] at hg
          obtain ⟨v, rfl, rfl, h3, h4⟩ := hg
          have zb := unleb_bd (HB.out.drop a') hA
          have zu := uns_bd zb.1 zb.2
          have zw := Lib.hid (wrap_ub zu.1 zu.2)
          have E1 := Lib.hid (suf_unleb hA)
          have HA := Lib.hid hA
          have cb3 := (h4.cell (o := 0) hwr (by omega)).trans CB.out
          have CB3 := Lib.hid cb3
          have T5 := Lib.hid h4
          have R3 := Lib.hid h3
          have hz3 := h4.size
          clear hA h3 h4 cb zb
          simp only
          generalize bs.length - r1.length = a2 at *
          go_wp2_with fail
          refine (numv_any g bs a2 w3 R3.out HB.out hlen).mono ?_
          intro e w4 hg
          unfold GotX at hg
          cases hA2 : unleb (bs.drop a2) with
          | none =>
            simp only [hA2] at hg
            have HU : Hid (T = none) := Lib.hid (rdw_stop HS.out (by unfold rdOne; rw [HA.out]; simp only [rdV]; rw [← E1.out, hA2]))
            obtain ⟨⟨pv, rfl⟩, h4⟩ := hg
            have T6 := Lib.hid h4
            clear hA2 h4 cb3
            go_wp2_with fail
            refine ⟨rfl, ?_⟩
            unfold GotX
            rw [HT.out, HU.out]
            exact ⟨⟨_, rfl⟩, tt (tt (tt T4.out ht.out) T5.out) T6.out⟩
          | some p =>
            obtain ⟨y, r2⟩ := p
            simp only [hA2] at hg
            obtain ⟨v, rfl, rfl, h3, h4⟩ := hg
            have HN := Lib.hid (rdw_step HS.out (x := ((uns z, y), r2)) (by unfold rdOne; rw [HA.out]; simp only [rdV]; rw [← E1.out, hA2]))
            have E2 := Lib.hid (suf_unleb hA2)
            have T6 := Lib.hid h4
            have R4 := Lib.hid h3
            have hz4 := h4.size
            have O4 := Lib.hid ((HO.out.away T5.out hg2).away T6.out hg2)
            have hzw := zw.out
            clear hA2 h3 h4 cb3
            go_wp2_with (first
              | (at_builtin
                 go_must (refine append_M rfl (.tmp 12) (.tmp 17) rfl w2.heap.size u3 acc rfl (O4.out.alloc _) _ [(uns z, y)] rfl (RdM.one _ (uns z, y)) hal (by simp only [World.size_alloc]; omega) ?_)
                 intro v5 w5 o5 g5 a5
                 have T7 : Hid (Touch (fun k => k = g) w2 w5) := Lib.hid (((tt (tt ht.out T5.out) T6.out).alloc _).grown g5 (fun k hk => .inr (O4.out.lt k hk).1))
                 have R5 : Hid (RdrAt w5 g bs (bs.length - r2.length)) := Lib.hid ((R4.out.keep ((Below.refl _ _).alloc (Nat.le_refl _) _)).grown (O4.out.alloc _) g5)
                 have O5 := Lib.hid o5
                 clear o5 g5 a5))
            go_roundg (n - (j + 1))
            case measure => have := HQ.out; omega
            case rel => exact ⟨j + 1, bs.length - r2.length, acc ++ [(uns z, y)], rfl, by omega, by go_num, by simp [HACC.out], O5.out, R5, Lib.hid (by rw [E2.out]; exact HN.out), T7⟩
      · have hE : j = n := by omega
        subst hE
        rw [Nat.sub_self] at hs
        have HU : Hid (T = some (acc, bs.drop a')) := Lib.hid (by rw [← hs.out]; rfl)
        have hal2 : bs.length - (bs.drop a').length = a' := by
          obtain ⟨v, _, _, h3⟩ := hr.out
          rw [List.length_drop]; omega
        have HA2 := Lib.hid hal2
        clear hal2 cb
        go_wp2_with fail
        go_ret
        unfold GotX
        rw [HT.out, HU.out]
        exact ⟨_, rfl, HO.out.more (by have := HH.out; omega), by simp only; rw [HA2.out]; exact hr.out, tt T4.out ht.out⟩
end
section
open Go.RowKit Go.Lib
/-- Numbers that may be. -/
def okV (l : List Mn) : Prop := ∀ m ∈ l, -9223372036854775808 ≤ m.1 ∧ m.1 ≤ 9223372036854775807
theorem okV.snoc {l : List Mn} {m : Mn} (h : okV l) (hm : -9223372036854775808 ≤ m.1 ∧ m.1 ≤ 9223372036854775807) : okV (l ++ [m]) := fun x hx => by
  rcases List.mem_append.1 hx with hx | hx
  · exact h x hx
  · simp only [List.mem_singleton] at hx; subst hx; exact hm

set_option maxRecDepth 100000 in
set_option maxHeartbeats 4000000 in
theorem listed_any (g : Nat) (bs : List Int) (a : Nat) (w : World) (h : RdrAt w g bs a) (hb : byL bs) (hlen : bs.length ≤ 1000000000000) :
    Calls Try.prog 84 #[.agg #[.pointer (some ⟨g, 0, none⟩)]] w (GotX (rdList (bs.drop a)) (fun l w' v => OwnM w.heap.size w' v l) w g bs) := by
  have hb1 : Below w.heap.size w (w.alloc (.cells #[.pointer (some ⟨g, 0, none⟩)] 133)) := (Below.refl _ _).alloc (Nat.le_refl _) _
  have H := Lib.hid (h.keep hb1)
  have hlt := h.lt
  have HB := Lib.hid hb
  clear h hb
  go_enter Try.func84, Try.ntmps84
  go_wp2_with fail
  refine (many_any g bs a _ H.out HB.out hlen).mono ?_
  intro e w2 hg
  unfold GotX at hg
  cases hu : rdMany (bs.drop a) with
  | none =>
    simp only [hu] at hg
    have HU : Hid (rdList (bs.drop a) = none) := Lib.hid (by unfold rdList; rw [hu])
    obtain ⟨⟨pv, rfl⟩, h4⟩ := hg
    have T4 := Lib.hid h4
    clear hu h4
    go_wp2_with fail
    refine ⟨rfl, ?_⟩
    unfold GotX
    rw [HU.out]
    exact ⟨⟨_, rfl⟩, (Touch.of_below hb1 (Nat.le_refl _)).trans T4.out (fun i hi => .inl hi)⟩
  | some p =>
    obtain ⟨n, r⟩ := p
    simp only [hu] at hg
    obtain ⟨v, rfl, rfl, h3, h4⟩ := hg
    have hn : n ≤ 65536 ∧ bs.drop (bs.length - r.length) = r := by
      unfold rdMany at hu
      cases hx : unleb (bs.drop a) with
      | none => rw [hx] at hu; cases hu
      | some q =>
        obtain ⟨z, r'⟩ := q
        rw [hx] at hu
        simp only at hu
        split at hu
        · rename_i hc
          simp only [Option.some.injEq, Prod.mk.injEq] at hu
          obtain ⟨rfl, rfl⟩ := hu
          exact ⟨by omega, suf_unleb hx⟩
        · cases hu
    obtain ⟨hn1, hn2⟩ := hn
    have T4 := Lib.hid (tt (Touch.of_below hb1 (Nat.le_refl _)) h4)
    have C0 : Hid (w2.cell? ⟨w.heap.size, 0, none⟩ = some (.pointer (some ⟨g, 0, none⟩))) := Lib.hid ((World.cell?_of_block (a := ⟨w.heap.size, 0, none⟩) (h4.block w.heap.size (by simp) (by omega))).trans (by simp [World.cell?_alloc_new]))
    have HH : Hid (w.heap.size < w2.heap.size) := Lib.hid (by have := h4.size; simp at this; omega)
    obtain ⟨T, hT⟩ : ∃ T, rdList (bs.drop a) = T := ⟨_, rfl⟩
    have HT := Lib.hid hT
    have R0 : Hid (rdl n [] (bs.drop (bs.length - r.length)) = T) := Lib.hid (by rw [hn2, ← hT]; unfold rdList; rw [hu])
    have H3 := Lib.hid h3
    clear hu hT h3 h4 hn2
    generalize bs.length - r.length = a1 at *
    go_wp2_with fail
    go_loopg [3, 9] n (fun q v i wr => ∃ (a' : Nat) (acc : List Mn), q = n - acc.length ∧ acc.length ≤ n ∧ i = .int .i64 acc.length ∧ OwnM w2.heap.size wr v acc ∧ okV acc ∧ Hid (RdrAt wr g bs a') ∧ Hid (rdl (n - acc.length) acc (bs.drop a') = T) ∧ Hid (Touch (fun k => k = g) w2 wr))
    case atStart => exact ⟨a1, [], rfl, by simp, rfl, OwnM.nil_ _ _, (fun m hm => by cases hm), H3, R0, Lib.hid (Touch.refl _ _)⟩
    case round =>
      obtain ⟨a', acc, hq, hj, rfl, ho, hok, hr, hs, ht⟩ := hrel
      have HQ := Lib.hid hq
      have HO := Lib.hid ho
      have HOK := Lib.hid hok
      have hal : acc.length + 1 ≤ 1099511627776 := by omega
      have cb := (ht.out.cell (o := 0) HH.out (by omega)).trans C0.out
      have CB := Lib.hid cb
      have hzr := ht.out.size
      have hwr : w.heap.size < wr.heap.size := by have := HH.out; omega
      have hg2 : g < w2.heap.size := by have := HH.out; omega
      clear hq hok
      by_cases hlt2 : acc.length < n
      · have hs' := hs.out
        rw [show n - acc.length = (n - (acc.length + 1)) + 1 by omega] at hs'
        have HS := Lib.hid hs'
        clear hs'
        rcases Nat.eq_zero_or_pos acc.length with h0 | h0
        · obtain rfl : acc = [] := List.eq_nil_of_length_eq_zero h0
          clear ho
          simp only [List.length_nil] at hlt2 ⊢
          have z0 : ((0 : Nat) : Int) = 0 := rfl
          have hn0 : (0 : Int) < (n : Int) := by omega
          rw [z0]
          clear z0
          go_wp2_with fail
          refine (numz_any g bs a' wr hr.out HB.out hlen).mono ?_
          intro e w3 hg
          unfold GotX at hg
          cases hA : unleb (bs.drop a') with
          | none =>
            simp only [hA] at hg
            have HU : Hid (T = none) := Lib.hid (rdl_stop HS.out (by simp only [List.getLast?_nil, Option.map_none]; unfold rdOne; rw [hA]))
            obtain ⟨⟨pv, rfl⟩, h4⟩ := hg
            have T5 := Lib.hid h4
            clear hA h4 cb
            go_wp2_with fail
            refine ⟨rfl, ?_⟩
            unfold GotX
            rw [HT.out, HU.out]
            exact ⟨⟨_, rfl⟩, tt (tt T4.out ht.out) T5.out⟩
          | some p =>
            obtain ⟨z, r1⟩ := p
            simp only [hA] at hg
            obtain ⟨v, rfl, rfl, h3, h4⟩ := hg
            have zb := unleb_bd (HB.out.drop a') hA
            have zu := uns_bd zb.1 zb.2
            have zw := Lib.hid (wrap_ub zu.1 zu.2)
            have E1 := Lib.hid (suf_unleb hA)
            have HA := Lib.hid hA
            have cb3 := (h4.cell (o := 0) hwr (by omega)).trans CB.out
            have CB3 := Lib.hid cb3
            have T5 := Lib.hid h4
            have R3 := Lib.hid h3
            have hz3 := h4.size
            clear hA h3 h4 cb zb
            simp only
            generalize bs.length - r1.length = a2 at *
            go_wp2_with fail
            refine (numv_any g bs a2 w3 R3.out HB.out hlen).mono ?_
            intro e w4 hg
            unfold GotX at hg
            cases hA2 : unleb (bs.drop a2) with
            | none =>
              simp only [hA2] at hg
              have HU : Hid (T = none) := Lib.hid (rdl_stop HS.out (by simp only [List.getLast?_nil, Option.map_none]; unfold rdOne; rw [HA.out]; simp only [rdV]; rw [← E1.out, hA2]))
              obtain ⟨⟨pv, rfl⟩, h4⟩ := hg
              have T6 := Lib.hid h4
              clear hA2 h4 cb3
              go_wp2_with fail
              refine ⟨rfl, ?_⟩
              unfold GotX
              rw [HT.out, HU.out]
              exact ⟨⟨_, rfl⟩, tt (tt (tt T4.out ht.out) T5.out) T6.out⟩
            | some p =>
              obtain ⟨y, r2⟩ := p
              simp only [hA2] at hg
              obtain ⟨v, rfl, rfl, h3, h4⟩ := hg
              have HN := Lib.hid (rdl_step HS.out (x := ((uns z, y), r2)) (by simp only [List.getLast?_nil, Option.map_none]; unfold rdOne; rw [HA.out]; simp only [rdV]; rw [← E1.out, hA2]))
              have E2 := Lib.hid (suf_unleb hA2)
              have T6 := Lib.hid h4
              have R4 := Lib.hid h3
              have hz4 := h4.size
              have O4 := Lib.hid ((HO.out.away T5.out hg2).away T6.out hg2)
              have hzw := zw.out
              have ZU := Lib.hid zu
              clear hA2 h3 h4 cb3
              go_wp2_with (first
                | (at_builtin
                   go_must (refine append_M rfl (.tmp 42) (.tmp 47) rfl w2.heap.size u3 [] rfl (O4.out.alloc _) _ [(uns z, y)] rfl (RdM.one _ (uns z, y)) hal (by simp only [World.size_alloc]; omega) ?_)
                   intro v5 w5 o5 g5 a5
                   have T7 : Hid (Touch (fun k => k = g) w2 w5) := Lib.hid (((tt (tt ht.out T5.out) T6.out).alloc _).grown g5 (fun k hk => .inr (O4.out.lt k hk).1))
                   have R5 : Hid (RdrAt w5 g bs (bs.length - r2.length)) := Lib.hid ((R4.out.keep ((Below.refl _ _).alloc (Nat.le_refl _) _)).grown (O4.out.alloc _) g5)
                   have O5 := Lib.hid o5
                   clear o5 g5 a5))
              go_roundg (n - (0 + 1))
              case measure => have := HQ.out; simp only [List.length_nil] at this; omega
              case rel => exact ⟨bs.length - r2.length, [(uns z, y)], rfl, by simp; omega, rfl, O5.out, (fun m hm => by simp only [List.mem_singleton] at hm; subst hm; exact ZU.out), R5, Lib.hid (by rw [E2.out]; exact HN.out), T7⟩
        · obtain ⟨m, hm⟩ : ∃ m, acc.length = m + 1 := ⟨acc.length - 1, by omega⟩
          obtain ⟨gl, cl, rfl, hgl1, hgl2, hcl, hcl2⟩ := ho.pos h0
          have hat := ho.at_ (j := m) (by omega)
          have hlast : acc.getLast? = some (acc[m]'(by omega)) := by
            rw [List.getLast?_eq_getElem?, show acc.length - 1 = m by omega]
            exact List.getElem?_eq_getElem (by omega)
          have hqb := HOK.out (acc[m]'(by omega)) (List.getElem_mem (by omega))
          have LA := Lib.hid hlast
          obtain ⟨ql, hql⟩ : ∃ ql, acc[m]'(by omega) = ql := ⟨_, rfl⟩
          rw [hql] at hat hqb LA
          have AT := Lib.hid hat.1
          have HM := Lib.hid hm
          rw [hm] at HO hcl hlt2 hal ⊢
          rw [hm] at HQ
          clear ho hat hlast hql hm h0
          obtain ⟨q, qn⟩ := ql
          simp only at AT hqb
          have HLQ : Hid (acc.getLast?.map (·.1) = some q) := Lib.hid (by rw [LA.out]; rfl)
          have jne : (((m : Int) + 1) == 0) = false := beq_eq_false_iff_ne.2 (by omega)
          have jn1 : (m : Int) + 1 < (n : Int) := by omega
          have q0 := hqb.1
          have q1 := hqb.2
          clear hqb LA
          go_wp2_with fail
          refine (numv_any g bs a' wr hr.out HB.out hlen).mono ?_
          intro e w3 hg
          unfold GotX at hg
          cases hA : unleb (bs.drop a') with
          | none =>
            simp only [hA] at hg
            have HU : Hid (T = none) := Lib.hid (rdl_stop HS.out (by rw [HLQ.out]; unfold rdOne; rw [hA]))
            obtain ⟨⟨pv, rfl⟩, h4⟩ := hg
            have T5 := Lib.hid h4
            clear hA h4 cb
            go_wp2_with fail
            refine ⟨rfl, ?_⟩
            unfold GotX
            rw [HT.out, HU.out]
            exact ⟨⟨_, rfl⟩, tt (tt T4.out ht.out) T5.out⟩
          | some p =>
            obtain ⟨z, r1⟩ := p
            simp only [hA] at hg
            obtain ⟨v, rfl, rfl, h3, h4⟩ := hg
            have zb := unleb_bd (HB.out.drop a') hA
            simp only at zb
            have E1 := Lib.hid (suf_unleb hA)
            have HA := Lib.hid hA
            have cb3 := (h4.cell (o := 0) hwr (by omega)).trans CB.out
            have CB3 := Lib.hid cb3
            have at3 := (h4.cell (o := m * 2) hgl2 (by omega)).trans AT.out
            have T5 := Lib.hid h4
            have R3 := Lib.hid h3
            have hz3 := h4.size
            obtain ⟨V, hV⟩ : ∃ V, wrap64 ((ub q + z) % 18446744073709551616) = V := ⟨_, rfl⟩
            have hVb : -9223372036854775808 ≤ V ∧ V ≤ 9223372036854775807 := by rw [← hV]; unfold wrap64; omega
            have hV2 : wrap64 (IntKind.u64.wrap (IntKind.u64.wrap q + z)) = V := by rw [← hV]; simp only [u64w, ub]
            have HV := Lib.hid hV
            have V0 := hVb.1
            have V1 := hVb.2
            clear hA h3 h4 cb hV hVb
            generalize bs.length - r1.length = a2 at *
            by_cases hVq : V < q
            · have HU : Hid (T = none) := Lib.hid (rdl_stop HS.out (by rw [HLQ.out]; unfold rdOne; rw [HA.out]; simp only [rdV]; rw [HV.out, if_pos hVq]))
              have dv : decide (V < q) = true := decide_eq_true hVq
              go_wp2_with (go_at_call 102; refine (rat_any g bs _ _ R3.out).mono ?_; rintro e w' ⟨rfl, rfl⟩)
              refine ⟨rfl, ?_⟩
              unfold GotX
              rw [HT.out, HU.out]
              exact ⟨⟨_, rfl⟩, tt (tt T4.out ht.out) T5.out⟩
            · have dv : decide (V < q) = false := decide_eq_false hVq

              go_wp2_with fail
              refine (numv_any g bs a2 w3 R3.out HB.out hlen).mono ?_
              intro e w4 hg
              unfold GotX at hg
              cases hA2 : unleb (bs.drop a2) with
              | none =>
                simp only [hA2] at hg
                have HU : Hid (T = none) := Lib.hid (rdl_stop HS.out (by rw [HLQ.out]; unfold rdOne; rw [HA.out]; simp only [rdV]; rw [HV.out, if_neg (by omega)]; simp only; rw [← E1.out, hA2]))
                obtain ⟨⟨pv, rfl⟩, h4⟩ := hg
                have T6 := Lib.hid h4
                clear hA2 h4 cb3 at3
                go_wp2_with fail
                refine ⟨rfl, ?_⟩
                unfold GotX
                rw [HT.out, HU.out]
                exact ⟨⟨_, rfl⟩, tt (tt (tt T4.out ht.out) T5.out) T6.out⟩
              | some p =>
                obtain ⟨y, r2⟩ := p
                simp only [hA2] at hg
                obtain ⟨v, rfl, rfl, h3, h4⟩ := hg
                have HN := Lib.hid (rdl_step HS.out (x := ((V, y), r2)) (by rw [HLQ.out]; unfold rdOne; rw [HA.out]; simp only [rdV]; rw [HV.out, if_neg (by omega)]; simp only; rw [← E1.out, hA2]))
                have E2 := Lib.hid (suf_unleb hA2)
                have T6 := Lib.hid h4
                have R4 := Lib.hid h3
                have hz4 := h4.size
                have O4 := Lib.hid ((HO.out.away T5.out hg2).away T6.out hg2)
                clear hA2 h3 h4 cb3 at3
                go_wp2_with (first
                  | (at_builtin
                     go_must (refine append_M rfl (.tmp 42) (.tmp 47) rfl w2.heap.size (.slice (some ⟨gl, 0, none⟩) (m + 1) cl) acc rfl (O4.out.alloc _) _ [(V, y)] rfl (RdM.one _ (V, y)) (by simp only [List.length_singleton]; have := HM.out; omega) (by simp only [World.size_alloc]; omega) ?_)
                     intro v5 w5 o5 g5 a5
                     have T7 : Hid (Touch (fun k => k = g) w2 w5) := Lib.hid (((tt (tt ht.out T5.out) T6.out).alloc _).grown g5 (fun k hk => .inr (O4.out.lt k hk).1))
                     have R5 : Hid (RdrAt w5 g bs (bs.length - r2.length)) := Lib.hid ((R4.out.keep ((Below.refl _ _).alloc (Nat.le_refl _) _)).grown (O4.out.alloc _) g5)
                     have O5 := Lib.hid o5
                     clear o5 g5 a5))
                go_roundg (n - (m + 1 + 1))
                case measure => have := HQ.out; omega
                case rel => exact ⟨bs.length - r2.length, acc ++ [(V, y)], by rw [List.length_append, HM.out]; rfl, by rw [List.length_append, HM.out]; simp; omega, by rw [List.length_append, HM.out]; go_num, O5.out, HOK.out.snoc ⟨V0, V1⟩, R5, Lib.hid (by rw [E2.out, List.length_append, HM.out]; have h := HN.out; rw [HM.out] at h; exact h), T7⟩
      · have hE : acc.length = n := by omega
        have hs' := hs.out
        rw [hE, Nat.sub_self] at hs'
        have HU : Hid (T = some (acc, bs.drop a')) := Lib.hid (by rw [← hs']; rfl)
        have hal2 : bs.length - (bs.drop a').length = a' := by
          obtain ⟨v, _, _, h3⟩ := hr.out
          rw [List.length_drop]; omega
        have HA2 := Lib.hid hal2
        clear hal2 cb hs' ho
        go_wp2_with fail
        go_ret
        unfold GotX
        rw [HT.out, HU.out]
        exact ⟨_, rfl, HO.out.more (by have := HH.out; omega), by simp only; rw [HA2.out]; exact hr.out, tt T4.out ht.out⟩
end
section
open Go.RowKit Go.Lib
set_option maxRecDepth 100000 in
set_option maxHeartbeats 1000000 in
theorem catch_panicking (h2 h3 : Nat) (x2 x3 : Value) (n : Int) (w : World) (c2 : w.cell? ⟨h2, 0, none⟩ = some x2) (c3 : w.cell? ⟨h3, 0, none⟩ = some x3) (f2 : w.frozen? ⟨h2, 0, none⟩ = false) (f3 : w.frozen? ⟨h3, 0, none⟩ = false) (hne : h2 ≠ h3) :
    CallsD Try.prog 81 #[.pointer (some ⟨h2, 0, none⟩), .pointer (some ⟨h3, 0, none⟩)] (.panicking ({ v := .iface 129 (.agg #[.int .i64 n]), recovered := false } :: [])) w fun e u' w' =>
      e = .returned (.tuple #[]) ∧ u' = .panicking ({ v := .iface 129 (.agg #[.int .i64 n]), recovered := true } :: []) ∧ w'.cell? ⟨h2, 0, none⟩ = some (.pointer none) ∧ w'.cell? ⟨h3, 0, none⟩ = some (.int .i64 9) ∧ Touch (fun k => k = h2 ∨ k = h3) w w' := by
  have l2 : h2 < w.heap.size := World.block_lt_of_cell? _ _ c2
  have l3 : h3 < w.heap.size := World.block_lt_of_cell? _ _ c3
  refine callsD_of_wpS Try.func81 rfl fun c₀ cs hu => ?_
  apply wpS_seq
  apply wpS_region
  rw [Try.ntmps81]
  simp [wpOpsS, go_sem, recoverD, hu, Exit.thenS]
  refine wpS_of_wp ?_
  have e : (#[Value.pointer (some ⟨h2, 0, none⟩), Value.pointer (some ⟨h3, 0, none⟩)] ++ (Array.replicate 9 undef).setIfInBounds 3 (Value.iface 129 (Value.agg #[.int .i64 n])) : Array Value) = #[Value.pointer (some ⟨h2, 0, none⟩), Value.pointer (some ⟨h3, 0, none⟩), undef, undef, undef, Value.iface 129 (Value.agg #[.int .i64 n]), undef, undef, undef, undef, undef] := rfl
  rw [e]
  clear e
  have hta : ∀ (n : Int) (w : World), (Instr.typeAssert (.iface 129 (.agg #[.int .i64 n])) 20 129 true).run Try.prog w = .ok (.tuple #[.agg #[.int .i64 n], .bool true]) w := fun _ _ => by kernel_rfl
  go_wp2
  cases c₀
  have n23 : (⟨h2, 0, none⟩ : Addr) ≠ ⟨h3, 0, none⟩ := fun h => hne (by injection h)
  have B2 : ((w.setCell ⟨h2, 0, none⟩ (.pointer none)).setCell ⟨h3, 0, none⟩ (.int .i64 9)).cell? ⟨h2, 0, none⟩ = some (.pointer none) :=
    (World.cell?_setCell_other _ _ _ _ n23.symm).trans (World.cell?_setCell_same _ _ _ c2)
  have B3 : ((w.setCell ⟨h2, 0, none⟩ (.pointer none)).setCell ⟨h3, 0, none⟩ (.int .i64 9)).cell? ⟨h3, 0, none⟩ = some (.int .i64 9) :=
    World.cell?_setCell_same _ _ _ ((World.cell?_setCell_other _ _ _ _ n23).trans c3)
  have AL : ∀ (X : World) (o : Obj) (h : Nat), h < X.heap.size → (X.alloc o).cell? ⟨h, 0, none⟩ = X.cell? ⟨h, 0, none⟩ := fun X o h hh => ((Below.refl X.heap.size X).alloc (Nat.le_refl _) o).cell (p := ⟨h, 0, none⟩) hh
  refine ⟨rfl, _, rfl, .tuple #[], by simp [results, Try.results81, go_sem], rfl, rfl, ?_, ?_, ?_⟩
  · exact (AL _ _ _ (by simp only [World.size_setCell]; exact l2)).trans B2
  · exact (AL _ _ _ (by simp only [World.size_setCell]; exact l3)).trans B3
  · exact (((Touch.refl (fun k => k = h2 ∨ k = h3) w).setCell (p := ⟨h2, 0, none⟩) (.inl (.inl rfl)) _).setCell (p := ⟨h3, 0, none⟩) (.inl (.inr rfl)) _).alloc _
set_option maxRecDepth 100000 in
theorem catch_idle (h2 h3 : Nat) (w : World) :
    CallsD Try.prog 81 #[.pointer (some ⟨h2, 0, none⟩), .pointer (some ⟨h3, 0, none⟩)] .returning w fun e u' w' => e = .returned (.tuple #[]) ∧ u' = .returning ∧ w' = w := by
  refine callsD_of_wpS Try.func81 rfl fun c₀ cs hu => ?_
  apply wpS_seq
  apply wpS_region
  simp [wpOpsS, go_sem, recoverD, hu, Try.ntmps81, Exit.thenS]
  refine wpS_of_wp ?_
  go_wp2
  cases c₀
  simp_all [bodyPostS, results, Try.results81]
end
section
open Go.RowKit Go.Lib
theorem eq_of_take {l m : List Int} (hl : l.length = m.length) (h : ∀ i (h1 : i < l.length) (h2 : i < m.length), l[i] = m[i]) : l = m := List.ext_getElem hl fun i h1 h2 => h i h1 h2

set_option maxRecDepth 100000 in
set_option maxHeartbeats 1000000 in
theorem equal_any (u v : Value) (l m : List Int) (w : World) (hu : RdI .u8 w u l) (hv : RdI .u8 w v m) (hl : l.length ≤ 1000000000000) (hm : m.length ≤ 1000000000000) :
    Calls Try.prog 87 #[u, v] w fun e w' => e = .returned (.bool (decide (l = m))) ∧ Below w.heap.size w w' := by
  obtain ⟨A, ca, rfl, _, _, fa⟩ := hu.form
  obtain ⟨B, cb, rfl, _, _, fb⟩ := hv.form
  have FA := Lib.hid fa
  have FB := Lib.hid fb
  clear hu hv fa fb
  by_cases hlm : l.length = m.length
  · have d0 : ((l.length : Int) != (m.length : Int)) = false := by rw [hlm]; simp
    have HLM := Lib.hid hlm
    clear hlm
    go_enter Try.func87, Try.ntmps87
    go_wp2_with fail
    go_loopg [13] l.length (fun q i wr => ∃ j : Nat, q = l.length - j ∧ j ≤ l.length ∧ i = .int .i64 j ∧ Hid (∀ i (h1 : i < l.length) (h2 : i < m.length), i < j → l[i] = m[i]) ∧ ∃ n, wr = w.drewN n)
    case atStart => exact ⟨0, rfl, by omega, rfl, Lib.hid (fun i h1 h2 h3 => absurd h3 (by omega)), 0, rfl⟩
    case round =>
      obtain ⟨j, hq, hj, rfl, he, n, rfl⟩ := hrel
      have HQ := Lib.hid hq
      clear hq
      by_cases hlt : j < l.length
      · have hlt2 : j < m.length := by have := HLM.out; omega
        obtain ⟨g1, o1, rfl, _, e1⟩ := FA.out.at_ hlt
        obtain ⟨g2, o2, rfl, _, e2⟩ := FB.out.at_ hlt2
        have j1 : (j : Int) < (l.length : Int) := by omega
        have j2 : (j : Int) < (m.length : Int) := by omega
        by_cases hx : l[j] = m[j]
        · have HN : Hid (∀ i (h1 : i < l.length) (h2 : i < m.length), i < j + 1 → l[i] = m[i]) := Lib.hid (fun i h1 h2 h3 => by
            rcases Nat.lt_or_ge i j with h | h
            · exact he.out i h1 h2 h
            · obtain rfl : i = j := by omega
              exact hx)
          rw [← hx] at e2
          have dx : (l[j] != l[j]) = false := by simp
          generalize l[j] = x at *
          clear hx
          go_wp2_with fail
          go_quiet (fail)
          go_wp2_with fail
          go_roundg (l.length - (j + 1))
          case measure => have := HQ.out; omega
          case rel => exact ⟨j + 1, rfl, by omega, by go_num, HN, _, rfl⟩
        · have HD : Hid (decide (l = m) = false) := Lib.hid (decide_eq_false (fun h => hx (by subst h; rfl)))
          have dx : (l[j] != m[j]) = true := by simpa using hx
          generalize l[j] = x at *
          generalize m[j] = y at *
          clear hx
          go_wp2_with fail
          go_quiet (fail)
          go_wp2_with fail
          go_ret
          exact ⟨ret_bool HD.out.symm, by (repeat' (first | (with_reducible exact Below.refl _ _) | (with_reducible refine Below.alloc ?_ ?_ _) | (with_reducible refine Below.drew ?_) | (with_reducible refine below_drewN ?_ _) | (with_reducible refine Below.setCell ?_ ?_ _) | (with_reducible refine below_of (by assumption) ?_ ?_) | go_size))⟩
      · have HD : Hid (decide (l = m) = true) := Lib.hid (decide_eq_true (eq_of_take HLM.out (fun i h1 h2 => he.out i h1 h2 (by omega))))
        go_wp2_with fail
        go_ret
        exact ⟨ret_bool HD.out.symm, by (repeat' (first | (with_reducible exact Below.refl _ _) | (with_reducible refine Below.alloc ?_ ?_ _) | (with_reducible refine Below.drew ?_) | (with_reducible refine below_drewN ?_ _) | (with_reducible refine Below.setCell ?_ ?_ _) | (with_reducible refine below_of (by assumption) ?_ ?_) | go_size))⟩
  · have d0 : ((l.length : Int) != (m.length : Int)) = true := by simp; omega
    have HD : Hid (decide (l = m) = false) := Lib.hid (decide_eq_false (fun h => hlm (by rw [h])))
    clear hlm
    go_enter Try.func87, Try.ntmps87
    go_wp2_with fail
    go_ret
    exact ⟨ret_bool HD.out.symm, by (repeat' (first | (with_reducible exact Below.refl _ _) | (with_reducible refine Below.alloc ?_ ?_ _) | (with_reducible refine Below.drew ?_) | (with_reducible refine below_drewN ?_ _) | (with_reducible refine Below.setCell ?_ ?_ _) | (with_reducible refine below_of (by assumption) ?_ ?_) | go_size))⟩
end
end Go.Proofs.Ytedhpkfbobgkgaa
