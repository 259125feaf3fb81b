/- A state goes on: how long its lists grow, in plain Lean. · A law's list of acts: its form in memory. -/
import Derived.Test.YtedhpkfbobgkgaaDo
import Derived.Test.YtedhpkfbobgkgaaLen
import Derived.Test.YtedhpkfbobgkgaaDoit
namespace Go.Proofs.Ytedhpkfbobgkgaa
section
open Go.RowKit Go.Lib
theorem St.Ok.take {d : Int} {s t : St} {k kt : Nat} (h : s.Ok d k) (ht : t.Ok d kt) (hd : 0 < d) (hz : tot (t.L ++ t.W) ≠ 0) (hs : tot (s.L ++ s.W) + tot (t.L ++ t.W) ≤ 281474976710656) :
    ∃ k' : Nat, (k' : Int) ≤ 194 * d + 99 ∧ (s.take d t).Ok d k' ∧ tot ((s.take d t).L ++ (s.take d t).W) = tot (s.L ++ s.W) + tot (t.L ++ t.W) := by
  have hT : s.take d t = ⟨prs d (s.L ++ (s.W ++ (t.L ++ t.W))), [], if tot (s.L ++ s.W) = 0 then t.lo else min s.lo t.lo, if tot (s.L ++ s.W) = 0 then t.hi else max s.hi t.hi⟩ := by
    unfold St.take; rw [if_neg hz]
  have hlo : (if tot (s.L ++ s.W) = 0 then t.lo else min s.lo t.lo) ≤ t.lo ∧ (tot (s.L ++ s.W) ≠ 0 → (if tot (s.L ++ s.W) = 0 then t.lo else min s.lo t.lo) ≤ s.lo) ∧ -9223372036854775808 ≤ (if tot (s.L ++ s.W) = 0 then t.lo else min s.lo t.lo) ∧ (if tot (s.L ++ s.W) = 0 then t.lo else min s.lo t.lo) ≤ 9223372036854775807 := by
    have := h.lo0
    have := ht.lo0
    have := ht.lo1
    split <;> refine ⟨by omega, by omega, by omega, by omega⟩
  have hhi : t.hi ≤ (if tot (s.L ++ s.W) = 0 then t.hi else max s.hi t.hi) ∧ (tot (s.L ++ s.W) ≠ 0 → s.hi ≤ (if tot (s.L ++ s.W) = 0 then t.hi else max s.hi t.hi)) ∧ (if tot (s.L ++ s.W) = 0 then t.hi else max s.hi t.hi) ≤ 9223372036854775807 ∧ -9223372036854775808 ≤ (if tot (s.L ++ s.W) = 0 then t.hi else max s.hi t.hi) := by
    have := h.hi1
    have := ht.hi1
    have := ht.hi0
    split <;> refine ⟨by omega, by omega, by omega, by omega⟩
  have hall : okL (s.L ++ (s.W ++ (t.L ++ t.W))) := by
    rw [← List.append_assoc]
    exact h.ok.append ht.ok
  have hne : s.L ++ (s.W ++ (t.L ++ t.W)) ≠ [] := by
    rw [← List.append_assoc]
    intro e
    have := List.append_eq_nil_iff.1 e
    rw [this.2] at hz
    exact hz rfl
  have hbd : ∀ m ∈ s.L ++ (s.W ++ (t.L ++ t.W)), (if tot (s.L ++ s.W) = 0 then t.lo else min s.lo t.lo) ≤ m.1 ∧ m.1 ≤ (if tot (s.L ++ s.W) = 0 then t.hi else max s.hi t.hi) := by
    intro m hm
    rw [← List.append_assoc] at hm
    rcases List.mem_append.1 hm with h1 | h1
    · have h2 := h.bd m h1
      have h3 : tot (s.L ++ s.W) ≠ 0 := fun e => by rw [h.n_zero.1 e] at h1; cases h1
      have := hlo.2.1 h3
      have := hhi.2.1 h3
      omega
    · have h2 := ht.bd m h1
      omega
  have htot : tot (s.L ++ (s.W ++ (t.L ++ t.W))) = tot (s.L ++ s.W) + tot (t.L ++ t.W) := by rw [← List.append_assoc, tot_append]
  have hlen := prs_len hall hbd (by omega : 1 ≤ d) (by omega)
  have hp := prs_ok d _ _ hall hbd
  refine ⟨(prs d (s.L ++ (s.W ++ (t.L ++ t.W)))).length, hlen, ?_, ?_⟩
  · rw [hT]
    exact ⟨by simpa using hp.1, by simpa using hp.2.2, hlo.2.2.1, hlo.2.2.2, hhi.2.2.2, hhi.2.2.1, fun e => absurd (by simpa using e) (prs_pos d hne), by simp, by simpa using hd, hp.2.1⟩
  · rw [hT]
    simp [prs_tot, htot]

theorem stepS_fit {d kd v n : Int} {s t : St} {k : Nat} (ft : Fit d s k) (ft' : Fit d t k) (hk : (194 * d + 99) ≤ (k : Int)) (k1 : k < 1000000) (v0 : -9223372036854775808 ≤ v) (v1 : v ≤ 9223372036854775807) (n0 : 0 ≤ n) : Fit d (stepS d kd v n s t) (k + 1) := by
  have hd := ft.d0
  have same : ∀ {u : St}, Fit d u k → Fit d u (k + 1) := fun fu => ⟨fu.ok.more (by omega), by omega, fu.t, fu.d0, fu.d1⟩
  have tk : ∀ u : St, Fit d u k → Fit d (takeS d s u) (k + 1) := fun u fu => by
    unfold takeS
    split
    · exact same ft
    · by_cases hz : tot (u.L ++ u.W) = 0
      · have : s.take d u = s := by unfold St.take; rw [if_pos hz]
        rw [this]
        exact same ft
      · obtain ⟨k', h1, h2, h3⟩ := ft.ok.take fu.ok (by omega) hz (by omega)
        exact ⟨h2.more (by omega), by omega, by omega, ft.d0, ft.d1⟩
  unfold stepS
  split
  · exact tk t ft'
  split
  · exact tk s ft
  split
  · exact ⟨(ft.ok.press (by omega)).more (by omega), by omega, by rw [St.press_n]; exact ft.t, ft.d0, ft.d1⟩
  unfold addS
  split
  · exact same ft
  · have := St.add_n d s v n
    exact ⟨ft.ok.add (by omega) v0 v1 (by omega), by omega, by omega, ft.d0, ft.d1⟩
end
section
open Go.RowKit Go.Lib
structure Act4 where
  kd : Int
  who : Bool
  v : Int
  n : Int
def Act4.fits (o : Act4) : Prop := 0 ≤ o.kd ∧ o.kd ≤ 255 ∧ -9223372036854775808 ≤ o.v ∧ o.v ≤ 9223372036854775807 ∧ 0 ≤ o.n ∧ o.n ≤ 18446744073709551615
def OForm (w : World) (A : Option Addr) (l : List Act4) : Prop := 0 < l.length → ∃ g off, A = some ⟨g, off, none⟩ ∧ g < w.heap.size ∧ ∀ j (h : j < l.length),
  w.cell? ⟨g, off + j * 4, none⟩ = some (.int .u8 l[j].kd) ∧ w.cell? ⟨g, off + j * 4 + 1, none⟩ = some (.bool l[j].who) ∧ w.cell? ⟨g, off + j * 4 + 2, none⟩ = some (.int .i64 l[j].v) ∧ w.cell? ⟨g, off + j * 4 + 3, none⟩ = some (.int .u64 l[j].n)
/-- A slice value that reads as acts. -/
def RdO (w : World) (v : Value) (l : List Act4) : Prop := ∃ A c, v = .slice A l.length c ∧ l.length ≤ c ∧ c ≤ 9223372036854775807 ∧ OForm w A l
theorem OForm.keep {w w' : World} {A : Option Addr} {l : List Act4} (h : OForm w A l) (hb : Below w.heap.size w w') : OForm w' A l := fun h0 => by
  obtain ⟨g, off, hA, hg, hj⟩ := h h0
  refine ⟨g, off, hA, Nat.lt_of_lt_of_le hg hb.size, fun j hj' => ?_⟩
  obtain ⟨h1, h2, h3, h4⟩ := hj j hj'
  exact ⟨(hb.cell (p := ⟨g, off + j * 4, none⟩) hg).trans h1, (hb.cell (p := ⟨g, off + j * 4 + 1, none⟩) hg).trans h2, (hb.cell (p := ⟨g, off + j * 4 + 2, none⟩) hg).trans h3, (hb.cell (p := ⟨g, off + j * 4 + 3, none⟩) hg).trans h4⟩

/-- The two pairs and the two boxes of pointers to them: all from block B on, apart from each other. -/
structure Duo (B : Nat) (w : World) (bx br bz g0 g1 r0 r1 : Nat) (d : Int) (s t : St) : Prop where
  x0 : w.cell? ⟨bx, 0, none⟩ = some (.pointer (some ⟨g0, 0, none⟩))
  x1 : w.cell? ⟨bx, 1, none⟩ = some (.pointer (some ⟨g1, 0, none⟩))
  y0 : w.cell? ⟨br, 0, none⟩ = some (.pointer (some ⟨r0, 0, none⟩))
  y1 : w.cell? ⟨br, 1, none⟩ = some (.pointer (some ⟨r1, 0, none⟩))
  lx : bx < w.heap.size
  ly : br < w.heap.size
  size : B ≤ w.heap.size
  z : DgS w bz (fun k => k = bz) (d + 1) St.zero
  pq : ∃ F0 G0 F1 G1 : Nat → Prop, PairM B w g0 r0 F0 G0 d s ∧ PairM B w g1 r1 F1 G1 d t ∧ (∀ k, F0 k ∨ G0 k → ¬ F1 k ∧ ¬ G1 k) ∧ (∀ k, F0 k ∨ G0 k ∨ F1 k ∨ G1 k → k ≠ bx ∧ k ≠ br ∧ k ≠ bz)
theorem Duo.keep {B : Nat} {w w' : World} {bx br bz g0 g1 r0 r1 : Nat} {d : Int} {s t : St} (h : Duo B w bx br bz g0 g1 r0 r1 d s t) (hb : Below w.heap.size w w') : Duo B w' bx br bz g0 g1 r0 r1 d s t := by
  obtain ⟨x0, x1, y0, y1, lx, ly, hs, hz, F0, G0, F1, G1, p, q, h1, h2⟩ := h
  exact ⟨(hb.cell (p := ⟨bx, 0, none⟩) lx).trans x0, (hb.cell (p := ⟨bx, 1, none⟩) lx).trans x1, (hb.cell (p := ⟨br, 0, none⟩) ly).trans y0, (hb.cell (p := ⟨br, 1, none⟩) ly).trans y1,
    Nat.lt_of_lt_of_le lx hb.size, Nat.lt_of_lt_of_le ly hb.size, Nat.le_trans hs hb.size, Dg.keep hz hb, F0, G0, F1, G1, p.keep hb, q.keep hb, h1, h2⟩
theorem touch_cell {F : Nat → Prop} {w w' : World} (ht : Touch F w w') {b : Nat} (hb : b < w.heap.size) (hn : ¬ F b) (i : Nat) : w'.cell? ⟨b, i, none⟩ = w.cell? ⟨b, i, none⟩ := by
  have := ht.block b hb hn
  unfold World.cell?
  simp only [this]
/-- What Do makes of the two. -/
def duoS (d : Int) (o : Act4) (s t : St) : St × St := if o.who then (s, stepS d o.kd o.v o.n t s) else (stepS d o.kd o.v o.n s t, t)
theorem do_any {B : Nat} (w : World) {bx br bz g0 g1 r0 r1 : Nat} {d : Int} {s t : St} {k : Nat} (o : Act4) (ho : o.fits) (h : Duo B w bx br bz g0 g1 r0 r1 d s t) (ft : Fit d s k) (ft' : Fit d t k) (hk : k + k ≤ 100000000) :
    Calls Try.prog 40 #[.slice (some ⟨bx, 0, none⟩) 2 2, .slice (some ⟨br, 0, none⟩) 2 2, .agg #[.int .u8 o.kd, .bool o.who, .int .i64 o.v, .int .u64 o.n]] w fun e w' =>
      e = .returned (.bool true) ∧ Duo B w' bx br bz g0 g1 r0 r1 d (duoS d o s t).1 (duoS d o s t).2 ∧ Below B w w' := by
  obtain ⟨x0, x1, y0, y1, lx, ly, hs, hz, F0, G0, F1, G1, p, q, h1, h2⟩ := h
  obtain ⟨a0, a1, a2, a3, a4, a5⟩ := ho
  obtain ⟨kd, who, v, n⟩ := o
  have n0 : ∀ b, (b = bx ∨ b = br) → (¬ F0 b ∧ ¬ G0 b) ∧ (¬ F1 b ∧ ¬ G1 b) := fun b hb =>
    ⟨⟨fun e => by have := h2 b (.inl e); omega, fun e => by have := h2 b (.inr (.inl e)); omega⟩, ⟨fun e => by have := h2 b (.inr (.inr (.inl e))); omega, fun e => by have := h2 b (.inr (.inr (.inr e))); omega⟩⟩
  have lowp : ∀ b, F0 b ∨ G0 b → b < w.heap.size := fun b hb => hb.elim (Dg.low p.a b) (RDg.low p.b b)
  have lowq : ∀ b, F1 b ∨ G1 b → b < w.heap.size := fun b hb => hb.elim (Dg.low q.a b) (RDg.low q.b b)
  have zl := Dg.low hz bz rfl
  cases who with
  | false =>
    refine (do_zero w kd v n x0 x1 y0 y1 ⟨lx, (n0 bx (.inl rfl)).1⟩ ⟨ly, (n0 br (.inr rfl)).1⟩ p q ⟨fun b e => h1 b (.inl e), fun b e => h1 b (.inr e)⟩ ft ft' hk hk hs a0 a1 a2 a3 a4 a5).mono ?_
    rintro e w' ⟨he, F', G', p', tt, hf⟩
    have hn : ∀ b, (b = bx ∨ b = br) → ¬ (F0 b ∨ G0 b) := fun b hb e => e.elim (n0 b hb).1.1 (n0 b hb).1.2
    refine ⟨he, ⟨(touch_cell tt lx (hn _ (.inl rfl)) 0).trans x0, (touch_cell tt lx (hn _ (.inl rfl)) 1).trans x1, (touch_cell tt ly (hn _ (.inr rfl)) 0).trans y0, (touch_cell tt ly (hn _ (.inr rfl)) 1).trans y1, Nat.lt_of_lt_of_le lx tt.size, Nat.lt_of_lt_of_le ly tt.size, Nat.le_trans hs tt.size, DgS.far (s := St.zero) hz tt (fun b e e1 => by subst e; exact e1.elim (fun e1 => (h2 b (.inl e1)).2.2 rfl) (fun e1 => (h2 b (.inr (.inl e1))).2.2 rfl)),
      F', G', F1, G1, p', q.far tt (fun b e => ⟨fun e1 => (h1 b e).1 e1, fun e1 => (h1 b e).2 e1⟩), fun b e => ?_, fun b e => ?_⟩, tt.below (fun b e => e.elim (p.fa b) (p.fb b)) hs⟩
    · rcases hf b e with h3 | h3 | h3
      · exact h1 b (.inl h3)
      · exact h1 b (.inr h3)
      · exact ⟨fun e1 => by have := lowq b (.inl e1); omega, fun e1 => by have := lowq b (.inr e1); omega⟩
    · have key : F' b ∨ G' b → b ≠ bx ∧ b ≠ br ∧ b ≠ bz := fun e => by
        rcases hf b e with h3 | h3 | h3
        · exact h2 b (.inl h3)
        · exact h2 b (.inr (.inl h3))
        · omega
      rcases e with e | e | e | e
      · exact key (.inl e)
      · exact key (.inr e)
      · exact h2 b (.inr (.inr (.inl e)))
      · exact h2 b (.inr (.inr (.inr e)))
  | true =>
    refine (do_one w kd v n x1 x0 y1 y0 ⟨lx, (n0 bx (.inl rfl)).2⟩ ⟨ly, (n0 br (.inr rfl)).2⟩ q p ⟨fun b e => ⟨fun e1 => (h1 b (.inl e1)).1 e, fun e1 => (h1 b (.inr e1)).1 e⟩, fun b e => ⟨fun e1 => (h1 b (.inl e1)).2 e, fun e1 => (h1 b (.inr e1)).2 e⟩⟩ ft' ft hk hk hs a0 a1 a2 a3 a4 a5).mono ?_
    rintro e w' ⟨he, F', G', p', tt, hf⟩
    have hn : ∀ b, (b = bx ∨ b = br) → ¬ (F1 b ∨ G1 b) := fun b hb e => e.elim (n0 b hb).2.1 (n0 b hb).2.2
    refine ⟨he, ⟨(touch_cell tt lx (hn _ (.inl rfl)) 0).trans x0, (touch_cell tt lx (hn _ (.inl rfl)) 1).trans x1, (touch_cell tt ly (hn _ (.inr rfl)) 0).trans y0, (touch_cell tt ly (hn _ (.inr rfl)) 1).trans y1, Nat.lt_of_lt_of_le lx tt.size, Nat.lt_of_lt_of_le ly tt.size, Nat.le_trans hs tt.size, DgS.far (s := St.zero) hz tt (fun b e e1 => by subst e; exact e1.elim (fun e1 => (h2 b (.inr (.inr (.inl e1)))).2.2 rfl) (fun e1 => (h2 b (.inr (.inr (.inr e1)))).2.2 rfl)),
      F0, G0, F', G', p.far tt (fun b e => ⟨fun e1 => e.elim (h1 b (.inl e1)).1 (h1 b (.inl e1)).2, fun e1 => e.elim (h1 b (.inr e1)).1 (h1 b (.inr e1)).2⟩), p', fun b e => ?_, fun b e => ?_⟩, tt.below (fun b e => e.elim (q.fa b) (q.fb b)) hs⟩
    · have key : ¬ (F' b ∨ G' b) := fun e1 => by
        rcases hf b e1 with h3 | h3 | h3
        · exact (h1 b e).1 h3
        · exact (h1 b e).2 h3
        · have := lowp b e; omega
      exact ⟨fun e1 => key (.inl e1), fun e1 => key (.inr e1)⟩
    · have key : F' b ∨ G' b → b ≠ bx ∧ b ≠ br ∧ b ≠ bz := fun e => by
        rcases hf b e with h3 | h3 | h3
        · exact h2 b (.inr (.inr (.inl h3)))
        · exact h2 b (.inr (.inr (.inr h3)))
        · omega
      rcases e with e | e | e | e
      · exact h2 b (.inl e)
      · exact h2 b (.inr (.inl e))
      · exact key (.inl e)
      · exact key (.inr e)
theorem duoS_fit {d : Int} {s t : St} {k : Nat} (o : Act4) (ho : o.fits) (ft : Fit d s k) (ft' : Fit d t k) (hk : (194 * d + 99) ≤ (k : Int)) (k1 : k < 1000000) : Fit d (duoS d o s t).1 (k + 1) ∧ Fit d (duoS d o s t).2 (k + 1) := by
  obtain ⟨a0, a1, a2, a3, a4, a5⟩ := ho
  have same : ∀ {u : St}, Fit d u k → Fit d u (k + 1) := fun fu => ⟨fu.ok.more (by omega), by omega, fu.t, fu.d0, fu.d1⟩
  unfold duoS
  split
  · exact ⟨same ft, stepS_fit ft' ft hk k1 a2 a3 a4⟩
  · exact ⟨stepS_fit ft ft' hk k1 a2 a3 a4, same ft'⟩
end
end Go.Proofs.Ytedhpkfbobgkgaa
