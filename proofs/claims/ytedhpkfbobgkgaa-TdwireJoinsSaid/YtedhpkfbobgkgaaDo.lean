/- Do of the law: an act on one of two digests, the program's and the reference's alike. -/
import Derived.Test.YtedhpkfbobgkgaaTakeX
import Derived.Test.YtedhpkfbobgkgaaWeights
namespace Go.Proofs.Ytedhpkfbobgkgaa
open Go.RowKit Go.Lib

/-- A digest of the program and one of the reference, of one state, apart from each other, from block B on. -/
structure PairM (B : Nat) (w : World) (g r : Nat) (F G : Nat → Prop) (d : Int) (s : St) : Prop where
  a : DgS w g F d s
  b : RDgS w r G d s
  ab : ∀ k, F k → ¬ G k
  fa : ∀ k, F k → B ≤ k
  fb : ∀ k, G k → B ≤ k
def takeS (d : Int) (s t : St) : St := if 281474976710656 - tot (s.L ++ s.W) < tot (t.L ++ t.W) then s else s.take d t
def addS (d : Int) (s : St) (v n : Int) : St := if n = 0 ∨ 281474976710656 - tot (s.L ++ s.W) < n then s else s.add d v n
def stepS (d kd v n : Int) (s t : St) : St := if kd % 8 = 5 then takeS d s t else if kd % 8 = 6 then takeS d s s else if kd % 8 = 7 then s.press d else addS d s v n
/-- What an act leaves: the pair went on, nothing else was touched. -/
def Gone (B : Nat) (w : World) (g r : Nat) (F G : Nat → Prop) (d : Int) (s' : St) (w' : World) : Prop :=
  ∃ F' G' : Nat → Prop, PairM B w' g r F' G' d s' ∧ Touch (fun k => F k ∨ G k) w w' ∧ (∀ k, F' k ∨ G' k → F k ∨ G k ∨ w.heap.size ≤ k)
theorem Gone.same {B : Nat} {w w' : World} {g r : Nat} {F G : Nat → Prop} {d : Int} {s : St} (h : PairM B w g r F G d s) (hb : Below w.heap.size w w') : Gone B w g r F G d s w' :=
  ⟨F, G, ⟨Dg.keep h.a hb, RDg.keep h.b hb, h.ab, h.fa, h.fb⟩, Touch.of_below hb (Nat.le_refl _), fun _k hk => hk.elim .inl (fun h => .inr (.inl h))⟩
/-- First the program's went on, then the reference's. -/
theorem Gone.step {B : Nat} {w w1 w2 : World} {g r : Nat} {F G F' G' : Nat → Prop} {d : Int} {s s' : St} (h : PairM B w g r F G d s) (hB : B ≤ w.heap.size)
    (b1 : ∀ k, F' k → F k ∨ w.heap.size ≤ k) (b2 : DgS w1 g F' d s') (b3 : Touch F w w1) (c1 : ∀ k, G' k → G k ∨ w1.heap.size ≤ k) (c2 : RDgS w2 r G' d s') (c3 : Touch G w1 w2) : Gone B w g r F G d s' w2 := by
  have z1 := b3.size
  have ha : ∀ k, F' k → ¬ G k := fun k h1 h2 => by
    rcases b1 k h1 with h3 | h3
    · exact h.ab k h3 h2
    · have := RDg.low h.b k h2; omega
  refine ⟨F', G', ⟨b2.far c3 ha, c2, fun k h1 h2 => ?_, sub_base h.fa b1 hB, sub_base h.fb c1 (by omega)⟩, (b3.mono (fun i hi => .inl hi)).trans c3 (fun i hi => .inl (.inr hi)), fun k hk => ?_⟩
  · rcases c1 k h2 with h3 | h3
    · exact ha k h1 h3
    · have := Dg.low b2 k h1; omega
  · rcases hk with h1 | h1
    · rcases b1 k h1 with h3 | h3
      · exact .inl h3
      · exact .inr (.inr h3)
    · rcases c1 k h1 with h3 | h3
      · exact .inr (.inl h3)
      · exact .inr (.inr (by omega))
theorem PairM.keep {B : Nat} {w w' : World} {g r : Nat} {F G : Nat → Prop} {d : Int} {s : St} (h : PairM B w g r F G d s) (hb : Below w.heap.size w w') : PairM B w' g r F G d s :=
  ⟨Dg.keep h.a hb, RDg.keep h.b hb, h.ab, h.fa, h.fb⟩
theorem PairM.far {B : Nat} {w w' : World} {g r : Nat} {F G U : Nat → Prop} {d : Int} {s : St} (h : PairM B w g r F G d s) (ht : Touch U w w') (hu : ∀ k, U k → ¬ F k ∧ ¬ G k) : PairM B w' g r F G d s :=
  ⟨Dg.stay h.a (fun k hk => ht.block k (Dg.low h.a k hk) (fun h1 => (hu k h1).1 hk)) ht.size, RDg.stay h.b (fun k hk => ht.block k (RDg.low h.b k hk) (fun h1 => (hu k h1).2 hk)) ht.size, h.ab, h.fa, h.fb⟩
theorem Gone.from {B : Nat} {w w1 w2 : World} {g r : Nat} {F G : Nat → Prop} {d : Int} {s' : St} (h : Gone B w1 g r F G d s' w2) (hb : Below w.heap.size w w1) : Gone B w g r F G d s' w2 := by
  obtain ⟨F', G', h1, h2, h3⟩ := h
  refine ⟨F', G', h1, (Touch.of_below (F := fun k => F k ∨ G k) hb (Nat.le_refl _)).trans h2 (fun i hi => .inl hi), fun k hk => ?_⟩
  rcases h3 k hk with h4 | h4 | h4
  · exact .inl h4
  · exact .inr (.inl h4)
  · exact .inr (.inr (Nat.le_trans hb.size h4))

/-- The acts, each side by side. -/
theorem acts_take {B : Nat} {w : World} {g r gt rt : Nat} {F G Ft Gt : Nat → Prop} {d : Int} {s t : St} {k kt : Nat} (h : PairM B w g r F G d s) (ht : PairM B w gt rt Ft Gt d t)
    (hx : (gt = g ∧ rt = r ∧ Ft = F ∧ Gt = G ∧ t = s) ∨ ((∀ k, F k → ¬ Ft k ∧ ¬ Gt k) ∧ (∀ k, G k → ¬ Ft k ∧ ¬ Gt k))) (ft : Fit d s k) (ft' : Fit d t kt) (hk : k + kt ≤ 100000000) (hB : B ≤ w.heap.size) :
    ∃ r0 : Int, Calls Try.prog 41 #[.pointer (some ⟨g, 0, none⟩), .pointer (some ⟨gt, 0, none⟩)] w fun e w1 => e = .returned (.int .i64 r0) ∧ w.heap.size ≤ w1.heap.size ∧ Touch F w w1 ∧
      Calls Try.prog 53 #[.pointer (some ⟨r, 0, none⟩), .pointer (some ⟨rt, 0, none⟩)] w1 fun e w2 => e = .returned (.int .i64 r0) ∧ w1.heap.size ≤ w2.heap.size ∧ Touch G w1 w2 ∧ Gone B w g r F G d (takeS d s t) w2 := by
  have hx1 : (gt = g ∧ Ft = F ∧ t = s) ∨ (∀ k, F k → ¬ Ft k) := hx.elim (fun h => .inl ⟨h.1, h.2.2.1, h.2.2.2.2⟩) (fun h => .inr fun k hk => (h.1 k hk).1)
  have hx2 : (rt = r ∧ Gt = G ∧ t = s) ∨ (∀ k, G k → ¬ Gt k) := hx.elim (fun h => .inl ⟨h.2.1, h.2.2.2.1, h.2.2.2.2⟩) (fun h => .inr fun k hk => (h.2 k hk).2)
  have t0 := ft'.ok.n_nonneg
  by_cases hc : 281474976710656 - tot (s.L ++ s.W) < tot (t.L ++ t.W) ∨ tot (t.L ++ t.W) = 0
  · have hS : takeS d s t = s := by
      unfold takeS
      split
      · rfl
      · unfold St.take; rw [if_pos (by omega)]
    refine ⟨takeE s t, (take_no w h.a ht.a ft ft' hc).mono fun e w1 he => ⟨he.1, he.2.size, Touch.of_below he.2 (Nat.le_refl _), ?_⟩⟩
    refine (rtake_no w1 (RDg.keep h.b he.2) (RDg.keep ht.b he.2) ft ft' hc).mono fun e2 w2 he2 => ⟨he2.1, he2.2.size, Touch.of_below he2.2 (Nat.le_refl _), ?_⟩
    rw [hS]
    exact Gone.same h (he.2.trans (he2.2.mono he.2.size))
  · have hS : takeS d s t = s.take d t := by unfold takeS; rw [if_neg (by omega)]
    refine ⟨0, (take_yes w h.a ht.a hx1 ft ft' hk (by omega) (by omega)).mono fun e w1 he => ?_⟩
    obtain ⟨he, F', b1, b2, b3⟩ := he
    refine ⟨he, b3.size, b3, ?_⟩
    have r1 : RDgS w1 r G d s := h.b.far b3 h.ab
    have rt1 : RDgS w1 rt Gt d t := RDg.stay ht.b (fun k hk => b3.block k (RDg.low ht.b k hk) (fun hf => by
      rcases hx with ⟨_, _, _, e4, _⟩ | hx
      · rw [e4] at hk; exact h.ab k hf hk
      · exact (hx.1 k hf).2 hk)) b3.size
    refine (rtake_yes w1 r1 rt1 hx2 ft ft' hk (by omega) (by omega)).mono fun e2 w2 he2 => ?_
    obtain ⟨he2, G', c1, c2, c3⟩ := he2
    rw [hS]
    exact ⟨he2, c3.size, c3, Gone.step h hB b1 b2 b3 c1 c2 c3⟩
theorem acts_add {B : Nat} {w : World} {g r : Nat} {F G : Nat → Prop} {d : Int} {s : St} {k : Nat} (v n : Int) (h : PairM B w g r F G d s) (ft : Fit d s k) (hk : k < 100000000) (hB : B ≤ w.heap.size)
    (v0 : -9223372036854775808 ≤ v) (v1 : v ≤ 9223372036854775807) (n0 : 0 ≤ n) (n1 : n ≤ 18446744073709551615) :
    ∃ r0 : Int, Calls Try.prog 24 #[.pointer (some ⟨g, 0, none⟩), .int .i64 v, .int .u64 n] w fun e w1 => e = .returned (.int .i64 r0) ∧ w.heap.size ≤ w1.heap.size ∧ Touch F w w1 ∧
      Calls Try.prog 37 #[.pointer (some ⟨r, 0, none⟩), .int .i64 v, .int .u64 n] w1 fun e w2 => e = .returned (.int .i64 r0) ∧ w1.heap.size ≤ w2.heap.size ∧ Touch G w1 w2 ∧ Gone B w g r F G d (addS d s v n) w2 := by
  by_cases hc : n = 0 ∨ 281474976710656 - tot (s.L ++ s.W) < n
  · have hS : addS d s v n = s := by unfold addS; rw [if_pos hc]
    refine ⟨_, (addS_no v n w h.a ft hk v0 v1 n0 n1 hc).mono fun e w1 he => ⟨he.1, he.2.size, Touch.of_below he.2 (Nat.le_refl _), ?_⟩⟩
    refine (radd_no v n w1 (RDg.keep h.b he.2) ft hc).mono fun e2 w2 he2 => ⟨he2.1, he2.2.size, Touch.of_below he2.2 (Nat.le_refl _), ?_⟩
    rw [hS]
    exact Gone.same h (he.2.trans (he2.2.mono he.2.size))
  · have hS : addS d s v n = s.add d v n := by unfold addS; rw [if_neg hc]
    refine ⟨0, (addS_any v n w h.a ft hk v0 v1 (by omega) (by omega)).mono fun e w1 he => ?_⟩
    obtain ⟨he, F', b1, b2, b3⟩ := he
    refine ⟨he, b3.size, b3, ?_⟩
    have r1 : RDgS w1 r G d s := h.b.far b3 h.ab
    refine (radd_yes v n w1 r1 ft hk v0 v1 (by omega) (by omega)).mono fun e2 w2 he2 => ?_
    obtain ⟨he2, G', c1, c2, c3⟩ := he2
    rw [hS]
    exact ⟨he2, c3.size, c3, Gone.step h hB b1 b2 b3 c1 c2 c3⟩
theorem acts_press {B : Nat} {w : World} {g r : Nat} {F G : Nat → Prop} {d : Int} {s : St} {k : Nat} (h : PairM B w g r F G d s) (ft : Fit d s k) (hB : B ≤ w.heap.size) :
    Calls Try.prog 26 #[.pointer (some ⟨g, 0, none⟩)] w fun e w1 => e = .returned (.tuple #[]) ∧ w.heap.size ≤ w1.heap.size ∧ Touch F w w1 ∧
      Calls Try.prog 76 #[.pointer (some ⟨r, 0, none⟩)] w1 fun e w2 => e = .returned (.tuple #[]) ∧ w1.heap.size ≤ w2.heap.size ∧ Touch G w1 w2 ∧ Gone B w g r F G d (s.press d) w2 := by
  have hlw : s.L.length + s.W.length ≤ 100000000 := by have := ft.ok.len; have := ft.k1; omega
  have d0 := ft.d0
  have hP : ∃ F' : Nat → Prop, True := ⟨F, trivial⟩
  have key : Calls Try.prog 26 #[.pointer (some ⟨g, 0, none⟩)] w fun e w1 => e = .returned (.tuple #[]) ∧ ∃ F' : Nat → Prop, (∀ k, F' k → F k ∨ w.heap.size ≤ k) ∧ DgS w1 g F' d (s.press d) ∧ Touch F w w1 := by
    by_cases hne : s.L ++ s.W = []
    · have hl0 : s.L.length + s.W.length = 0 := by rw [← List.length_append, hne]; rfl
      have hL : s.L = [] := List.eq_nil_of_length_eq_zero (by omega)
      have hW : s.W = [] := List.eq_nil_of_length_eq_zero (by omega)
      refine (press_none w h.a hl0).mono fun e w1 he => ⟨he.1, F, fun k hk => .inl hk, ?_, Touch.of_below he.2 (Nat.le_refl _)⟩
      have hd := Dg.keep h.a he.2
      have hs : s.press d = s := by
        obtain ⟨L, W, lo, hi⟩ := s
        simp only at hL hW
        subst hL; subst hW
        rfl
      rw [hs]
      exact hd
    · refine (press_any g F d s.lo s.hi s.L s.W w h.a ft.ok.ok hne hlw ft.t (by omega) ft.d1).mono fun e w1 he => ?_
      obtain ⟨he, F', b1, b2, b3⟩ := he
      refine ⟨he, F', b1, ?_, b3⟩
      unfold DgS
      rw [St.press_n]
      exact b2
  refine key.mono fun e w1 he => ?_
  obtain ⟨he, F', b1, b2, b3⟩ := he
  refine ⟨he, b3.size, b3, ?_⟩
  have r1 : RDgS w1 r G d s := h.b.far b3 h.ab
  refine (rpress_any r G d s.lo s.hi s.L s.W w1 r1 ft.ok.ok hlw ft.t (by omega) ft.d1).mono fun e2 w2 he2 => ?_
  obtain ⟨he2, G', c1, c2, c3⟩ := he2
  exact ⟨he2, c3.size, c3, Gone.step h hB b1 b2 b3 c1 c2 c3⟩
end Go.Proofs.Ytedhpkfbobgkgaa
