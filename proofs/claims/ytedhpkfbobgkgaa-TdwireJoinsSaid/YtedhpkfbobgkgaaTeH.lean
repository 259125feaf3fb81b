/- Join of bytes; cut bytes. -/
import Derived.Test.YtedhpkfbobgkgaaTeE
import Derived.Test.YtedhpkfbobgkgaaDo
namespace Go.Proofs.Ytedhpkfbobgkgaa
open Go.RowKit Go.Lib

theorem OwnB.more {base base' : Nat} {w : World} {v : Value} {l : List Int} (h : OwnB base w v l) (hb : base' ≤ base) : OwnB base' w v l := by
  obtain ⟨h1, h2⟩ := h
  refine ⟨h1, ?_⟩
  rcases h2 with h2 | ⟨g, cap, cur, e1, e2, r⟩
  · exact .inl h2
  · exact .inr ⟨g, cap, cur, e1, by omega, r⟩
/-- A proper beginning of what is read is not read. -/
theorem readT_cut {bs : List Int} {x : Rd5} {c : Nat} (hb : byL bs) (h : readT bs = some x) (hc : c < bs.length) : readT (bs.take c) = none := by
  cases h2 : readT (bs.take c) with
  | none => rfl
  | some y =>
    exfalso
    have hb2 : byL (bs.take c) := fun b hm => hb b (List.mem_of_mem_take hm)
    obtain ⟨fy, ry, l1, l2, _, wy⟩ := readT_fit hb2 h2
    obtain ⟨fx, rx, m1, m2, _, wx⟩ := readT_fit hb h
    have e1 := rdD_wrD (d := y.d) (lo := y.lo) (hi := y.hi) (L := y.L) (W := y.W) (bs.drop c) (by have := fy.d0; omega) (by have := fy.d1; omega) fy.ok.lo0 fy.ok.lo1 fy.ok.hi0 fy.ok.hi1 (fun m hm => ry m (List.mem_append_left _ hm)) fy.ok.rise (fun m hm => ry m (List.mem_append_right _ hm)) l1 l2
    have e2 := rdD_wrD (d := x.d) (lo := x.lo) (hi := x.hi) (L := x.L) (W := x.W) [] (by have := fx.d0; omega) (by have := fx.d1; omega) fx.ok.lo0 fx.ok.lo1 fx.ok.hi0 fx.ok.hi1 (fun m hm => rx m (List.mem_append_left _ hm)) fx.ok.rise (fun m hm => rx m (List.mem_append_right _ hm)) m1 m2
    rw [wy, List.take_append_drop] at e1
    rw [wx, List.append_nil, e1] at e2
    simp only [Option.some.injEq, Prod.mk.injEq] at e2
    have := congrArg List.length e2.2
    rw [List.length_drop] at this
    simp only [List.length_nil] at this
    omega

/-- Take, where the weights have room. -/
theorem take_room {g gt : Nat} {F Ft : Nat → Prop} {d : Int} {s t : St} {k kt : Nat} (w : World) (h : DgS w g F d s) (ht : DgS w gt Ft d t) (hx : ∀ k, F k → ¬ Ft k) (ft : Fit d s k) (ft' : Fit d t kt) (hk : k + kt ≤ 100000000)
    (hcap : tot (t.L ++ t.W) ≤ 281474976710656 - tot (s.L ++ s.W)) :
    Calls Try.prog 41 #[.pointer (some ⟨g, 0, none⟩), .pointer (some ⟨gt, 0, none⟩)] w fun e w' => e = .returned (.int .i64 0) ∧ ∃ F' : Nat → Prop, (∀ k, F' k → F k ∨ w.heap.size ≤ k) ∧ DgS w' g F' d (s.take d t) ∧ Touch F w w' := by
  have t0 := ft'.ok.n_nonneg
  by_cases hz : tot (t.L ++ t.W) = 0
  · have hS : s.take d t = s := by unfold St.take; rw [if_pos (by omega)]
    have hE : takeE s t = 0 := by unfold takeE; rw [if_neg (by omega)]
    refine (take_no w h ht ft ft' (.inr hz)).mono fun e w1 he => ?_
    rw [hE] at he
    rw [hS]
    exact ⟨he.1, F, fun k hk => .inl hk, Dg.keep h he.2, Touch.of_below he.2 (Nat.le_refl _)⟩
  · exact take_yes w h ht (.inr hx) ft ft' hk hcap (by omega)
theorem rtake_room {g gt : Nat} {F Ft : Nat → Prop} {d : Int} {s t : St} {k kt : Nat} (w : World) (h : RDgS w g F d s) (ht : RDgS w gt Ft d t) (hx : ∀ k, F k → ¬ Ft k) (ft : Fit d s k) (ft' : Fit d t kt) (hk : k + kt ≤ 100000000)
    (hcap : tot (t.L ++ t.W) ≤ 281474976710656 - tot (s.L ++ s.W)) :
    Calls Try.prog 53 #[.pointer (some ⟨g, 0, none⟩), .pointer (some ⟨gt, 0, none⟩)] w fun e w' => e = .returned (.int .i64 0) ∧ ∃ F' : Nat → Prop, (∀ k, F' k → F k ∨ w.heap.size ≤ k) ∧ RDgS w' g F' d (s.take d t) ∧ Touch F w w' := by
  have t0 := ft'.ok.n_nonneg
  by_cases hz : tot (t.L ++ t.W) = 0
  · have hS : s.take d t = s := by unfold St.take; rw [if_pos (by omega)]
    have hE : takeE s t = 0 := by unfold takeE; rw [if_neg (by omega)]
    refine (rtake_no w h ht ft ft' (.inr hz)).mono fun e w1 he => ?_
    rw [hE] at he
    rw [hS]
    exact ⟨he.1, F, fun k hk => .inl hk, RDg.keep h he.2, Touch.of_below he.2 (Nat.le_refl _)⟩
  · exact rtake_yes w h ht (.inr hx) ft ft' hk hcap (by omega)

set_option maxHeartbeats 2000000 in
theorem join_no1 (va vb : Value) (az : List Int) (w : World) (h : RdI .u8 w va az) (hb : byL az) (hlen : az.length ≤ 1000000000) (hT : readT az = none) :
    Calls Try.prog 52 #[va, vb] w fun e w' => e = .returned (.tuple #[.slice none 0 0, .int .i64 9]) ∧ Below w.heap.size w w' := by
  have HR := Lib.hid h
  have HB := Lib.hid hb
  have HT := Lib.hid hT
  clear h hb hT
  go_enter Try.func52, Try.ntmps52
  go_wp2_with fail
  refine (read_any va az w HR.out HB.out hlen).mono ?_
  intro e w1 hP
  unfold ReadP at hP
  rw [HT.out] at hP
  obtain ⟨rfl, hb1⟩ := hP
  go_wp2_with fail
  go_ret2
  exact ⟨rfl, hb1⟩
set_option maxHeartbeats 2000000 in
theorem join_no2 (va vb : Value) (az bs : List Int) (x : Rd5) (w : World) (h : RdI .u8 w va az) (hb : byL az) (hlen : az.length ≤ 1000000000) (hT : readT az = some x)
    (h' : RdI .u8 w vb bs) (hb' : byL bs) (hlen' : bs.length ≤ 1000000000) (hT' : readT bs = none) :
    Calls Try.prog 52 #[va, vb] w fun e w' => e = .returned (.tuple #[.slice none 0 0, .int .i64 9]) ∧ Below w.heap.size w w' := by
  have HR := Lib.hid h
  have HB := Lib.hid hb
  have HT := Lib.hid hT
  have HR' := Lib.hid h'
  have HB' := Lib.hid hb'
  have HT' := Lib.hid hT'
  clear h hb hT h' hb' hT'
  go_enter Try.func52, Try.ntmps52
  go_wp2_with fail
  refine (read_any va az w HR.out HB.out hlen).mono ?_
  intro e w1 hP
  unfold ReadP at hP
  rw [HT.out] at hP
  obtain ⟨g, F, rfl, hd, hf, hb1⟩ := hP
  have hz1 := hb1.size
  clear hd hf
  go_wp2_with fail
  refine (read_any vb bs w1 (HR'.out.keep hb1) HB'.out hlen').mono ?_
  intro e w2 hP
  unfold ReadP at hP
  rw [HT'.out] at hP
  obtain ⟨rfl, hb2⟩ := hP
  go_wp2_with fail
  go_ret2
  exact ⟨rfl, hb1.trans (hb2.mono hz1)⟩
set_option maxHeartbeats 2000000 in
theorem join_kind (va vb : Value) (az bs : List Int) (x y : Rd5) (w : World) (h : RdI .u8 w va az) (hb : byL az) (hlen : az.length ≤ 1000000000) (hT : readT az = some x)
    (h' : RdI .u8 w vb bs) (hb' : byL bs) (hlen' : bs.length ≤ 1000000000) (hT' : readT bs = some y) (hd : y.d ≠ x.d) :
    Calls Try.prog 52 #[va, vb] w fun e w' => e = .returned (.tuple #[.slice none 0 0, .int .i64 3]) ∧ Below w.heap.size w w' := by
  have HR := Lib.hid h
  have HB := Lib.hid hb
  have HT := Lib.hid hT
  have HR' := Lib.hid h'
  have HB' := Lib.hid hb'
  have HT' := Lib.hid hT'
  have HD := Lib.hid hd
  clear h hb hT h' hb' hT' hd
  go_enter Try.func52, Try.ntmps52
  go_wp2_with fail
  refine (read_any va az w HR.out HB.out hlen).mono ?_
  intro e w1 hP
  unfold ReadP at hP
  rw [HT.out] at hP
  obtain ⟨g, F, rfl, hd, hf, hb1⟩ := hP
  have hz1 := hb1.size
  have D1 := Lib.hid hd
  clear hd hf
  go_wp2_with fail
  refine (read_any vb bs w1 (HR'.out.keep hb1) HB'.out hlen').mono ?_
  intro e w2 hP
  unfold ReadP at hP
  rw [HT'.out] at hP
  obtain ⟨g', F', rfl, hd, hf, hb2⟩ := hP
  have hz2 := hb2.size
  have hb02 := hb1.trans (hb2.mono hz1)
  have C1 := Lib.hid (take_kind w2 (Dg.keep D1.out hb2) hd HD.out)
  clear hd hf
  go_wp2_with fail
  refine (C1.out).mono ?_
  rintro e w3 ⟨rfl, hb3⟩
  go_wp2_with fail
  go_ret2
  exact ⟨rfl, hb02.trans (hb3.mono (by omega))⟩
set_option maxHeartbeats 2000000 in
theorem join_yes (va vb : Value) (az bs : List Int) (x y : Rd5) (w : World) (h : RdI .u8 w va az) (hb : byL az) (hlen : az.length ≤ 1000000000) (hT : readT az = some x)
    (h' : RdI .u8 w vb bs) (hb' : byL bs) (hlen' : bs.length ≤ 1000000000) (hT' : readT bs = some y) (hd : y.d = x.d) (hcap : tot (y.L ++ y.W) ≤ 281474976710656 - tot (x.L ++ x.W))
    (k : Nat) (FT : Fit x.d (St.take x.d ⟨x.L, x.W, x.lo, x.hi⟩ ⟨y.L, y.W, y.lo, y.hi⟩) k) :
    Calls Try.prog 52 #[va, vb] w fun e w' => ∃ v, e = .returned (.tuple #[v, .int .i64 0]) ∧ OwnB w.heap.size w' v (wrD x.d (St.take x.d ⟨x.L, x.W, x.lo, x.hi⟩ ⟨y.L, y.W, y.lo, y.hi⟩).L (St.take x.d ⟨x.L, x.W, x.lo, x.hi⟩ ⟨y.L, y.W, y.lo, y.hi⟩).W (St.take x.d ⟨x.L, x.W, x.lo, x.hi⟩ ⟨y.L, y.W, y.lo, y.hi⟩).lo (St.take x.d ⟨x.L, x.W, x.lo, x.hi⟩ ⟨y.L, y.W, y.lo, y.hi⟩).hi) ∧ Below w.heap.size w w' := by
  have HR := Lib.hid h
  have HB := Lib.hid hb
  have HT := Lib.hid hT
  have HR' := Lib.hid h'
  have HB' := Lib.hid hb'
  have HT' := Lib.hid hT'
  have FX := Lib.hid (readT_fit hb hT).1
  have FY : Hid (Fit x.d ⟨y.L, y.W, y.lo, y.hi⟩ 131072) := Lib.hid (by rw [← hd]; exact (readT_fit hb' hT').1)
  have HD := Lib.hid hd
  have HF := Lib.hid FT
  clear h hb hT h' hb' hT' hd FT
  go_enter Try.func52, Try.ntmps52
  go_wp2_with fail
  refine (read_any va az w HR.out HB.out hlen).mono ?_
  intro e w1 hP
  unfold ReadP at hP
  rw [HT.out] at hP
  obtain ⟨g, F, rfl, hd, hf, hb1⟩ := hP
  have hz1 := hb1.size
  have D1 := Lib.hid hd
  have F1 := Lib.hid hf
  clear hd hf
  go_wp2_with fail
  refine (read_any vb bs w1 (HR'.out.keep hb1) HB'.out hlen').mono ?_
  intro e w2 hP
  unfold ReadP at hP
  rw [HT'.out] at hP
  obtain ⟨g', F', rfl, hd, hf, hb2⟩ := hP
  have hz2 := hb2.size
  have hb02 := hb1.trans (hb2.mono hz1)
  rw [HD.out] at hd
  have C1 := Lib.hid (take_room w2 (Dg.keep D1.out hb2) hd (fun k h1 h2 => by have := Dg.low D1.out k h1; have := hf k h2; omega) FX.out FY.out (by omega) hcap)
  clear hd hf
  go_wp2_with fail
  refine (C1.out).mono ?_
  rintro e w3 ⟨rfl, F3, q1, q2, q3⟩
  have hz3 := q3.size
  have D3 := Lib.hid q2
  have hb03 := hb02.trans (q3.base (B := w.heap.size) F1.out (by omega))
  clear q1 q2 q3
  go_wp2_with fail
  refine (twrite_any g F3 x.d _ k w3 D3.out HF.out).mono ?_
  rintro e w4 ⟨v4, rfl, o4, hb4⟩
  have O4 := Lib.hid o4
  clear o4
  go_wp2_with fail
  go_ret2
  exact ⟨v4, rfl, OwnB.more O4.out (by omega), hb03.trans (hb4.mono (by omega))⟩
end Go.Proofs.Ytedhpkfbobgkgaa
