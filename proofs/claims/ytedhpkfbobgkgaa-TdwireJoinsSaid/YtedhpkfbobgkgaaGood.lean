/- Which means a digest may be loaded from, in plain Lean. No program, no condition. -/
import Derived.Test.YtedhpkfbobgkgaaSt
namespace Go.Proofs.Ytedhpkfbobgkgaa

/-- May these means be, from number i on, behind the number p and the weight t? nl: how many are listed. -/
def goodL (lo hi : Int) (nl : Nat) : Nat → Int → Int → List Mn → Bool
  | _, _, _, [] => true
  | i, p, t, m :: r => if m.2 = 0 ∨ 281474976710656 - t < m.2 ∨ m.1 < lo ∨ hi < m.1 ∨ (0 < i ∧ i < nl ∧ m.1 < p) then false else goodL lo hi nl (i + 1) m.1 (t + m.2) r
def rightI (d lo hi : Int) (L W : List Mn) : Bool := decide (10 ≤ d ∧ d ≤ 1000 ∧ (W.length : Int) < d) && goodL lo hi L.length 0 0 0 (L ++ W) && decide (0 < tot (L ++ W) ∨ (lo = 0 ∧ hi = 0))
/-- Means of whatever numbers. -/
def rawL (l : List Mn) : Prop := ∀ m ∈ l, -9223372036854775808 ≤ m.1 ∧ m.1 ≤ 9223372036854775807 ∧ 0 ≤ m.2 ∧ m.2 ≤ 18446744073709551615

theorem goodL_all {lo hi : Int} {nl : Nat} : ∀ {l : List Mn} {i : Nat} {p t : Int}, goodL lo hi nl i p t l = true → rawL l → 0 ≤ t → t ≤ 281474976710656 → okL l ∧ (∀ m ∈ l, lo ≤ m.1 ∧ m.1 ≤ hi) ∧ t + tot l ≤ 281474976710656
  | [], i, p, t, _, _, t0, t1 => ⟨fun m hm => (by cases hm), fun m hm => (by cases hm), by simp only [tot]; omega⟩
  | m :: r, i, p, t, h, hr, t0, t1 => by
    unfold goodL at h
    split at h
    · cases h
    · rename_i hc
      have hm := hr m (List.mem_cons_self ..)
      obtain ⟨a, b, c⟩ := goodL_all h (fun x hx => hr x (List.mem_cons_of_mem _ hx)) (by omega) (by omega)
      refine ⟨fun x hx => ?_, fun x hx => ?_, by simp only [tot]; omega⟩
      · rcases List.mem_cons.1 hx with rfl | hx
        · exact ⟨hm.1, hm.2.1, by omega⟩
        · exact a x hx
      · rcases List.mem_cons.1 hx with rfl | hx
        · omega
        · exact b x hx
theorem goodL_rise {lo hi : Int} {nl : Nat} : ∀ {l : List Mn} {i : Nat} {p t : Int}, goodL lo hi nl i p t l = true → 0 < i → Rises ((p, 0) :: l.take (nl - i))
  | [], i, p, t, _, _ => by simp [Rises]
  | m :: r, i, p, t, h, h0 => by
    unfold goodL at h
    split at h
    · cases h
    · rename_i hc
      rcases Nat.lt_or_ge i nl with hi' | hi'
      · have ih := goodL_rise h (by omega)
        obtain ⟨k, hk⟩ : ∃ k, nl - i = k + 1 := ⟨nl - i - 1, by omega⟩
        have hk2 : nl - (i + 1) = k := by omega
        rw [hk2] at ih
        rw [hk, List.take_succ_cons]
        have h1 := List.pairwise_cons.1 ih
        refine List.pairwise_cons.2 ⟨fun x hx => ?_, List.pairwise_cons.2 ⟨h1.1, h1.2⟩⟩
        rcases List.mem_cons.1 hx with rfl | hx
        · simp only; omega
        · have := h1.1 x hx; simp only at this ⊢; omega
      · rw [show nl - i = 0 by omega]; simp [Rises]
theorem goodL_rise0 {lo hi : Int} {nl : Nat} {l : List Mn} (h : goodL lo hi nl 0 0 0 l = true) : Rises (l.take nl) := by
  cases l with
  | nil => simp [Rises]
  | cons m r =>
    unfold goodL at h
    split at h
    · cases h
    · cases nl with
      | zero => simp [Rises]
      | succ k =>
        have := goodL_rise h (by omega)
        rw [List.take_succ_cons]
        simp only [Nat.zero_add, Nat.add_sub_cancel] at this
        have h1 := List.pairwise_cons.1 this
        exact List.pairwise_cons.2 ⟨h1.1, h1.2⟩
theorem goodL_of {lo hi : Int} {nl : Nat} : ∀ {l : List Mn} {i : Nat} {p t : Int}, okL l → (∀ m ∈ l, lo ≤ m.1 ∧ m.1 ≤ hi) → t + tot l ≤ 281474976710656 → (0 < i → Rises ((p, 0) :: l.take (nl - i))) → (i = 0 → Rises (l.take nl)) → goodL lo hi nl i p t l = true
  | [], i, p, t, _, _, _, _, _ => by simp [goodL]
  | m :: r, i, p, t, ho, hb, ht, h1, h2 => by
    have hm := ho m (List.mem_cons_self ..)
    have hm2 := hm.2.2
    have hmb := hb m (List.mem_cons_self ..)
    have hr := ho.tail.tot_nonneg
    simp only [tot] at ht
    have hp : 0 < i → i < nl → p ≤ m.1 := fun h3 h4 => by
      have := h1 h3
      obtain ⟨k, hk⟩ : ∃ k, nl - i = k + 1 := ⟨nl - i - 1, by omega⟩
      rw [hk, List.take_succ_cons] at this
      exact (List.pairwise_cons.1 this).1 m (List.mem_cons_self ..)
    have hn : Rises ((m.1, 0) :: r.take (nl - (i + 1))) := by
      rcases Nat.eq_zero_or_pos i with h0 | h0
      · subst h0
        cases nl with
        | zero => simp [Rises]
        | succ k =>
          have := h2 rfl
          rw [List.take_succ_cons] at this
          have h3 := List.pairwise_cons.1 this
          rw [show k + 1 - (0 + 1) = k by omega]
          exact List.pairwise_cons.2 ⟨h3.1, h3.2⟩
      · rcases Nat.lt_or_ge i nl with h4 | h4
        · have := h1 h0
          obtain ⟨k, hk⟩ : ∃ k, nl - i = k + 1 := ⟨nl - i - 1, by omega⟩
          have hk2 : nl - (i + 1) = k := by omega
          rw [hk, List.take_succ_cons] at this
          rw [hk2]
          have h3 := List.pairwise_cons.1 (List.pairwise_cons.1 this).2
          exact List.pairwise_cons.2 ⟨h3.1, h3.2⟩
        · rw [show nl - (i + 1) = 0 by omega]; simp [Rises]
    unfold goodL
    rw [if_neg (by omega)]
    exact goodL_of ho.tail (fun x hx => hb x (List.mem_cons_of_mem _ hx)) (by omega) (fun _ => hn) (fun h => by omega)
/-- What was loaded is a state that may be. -/
theorem right_ok {d lo hi : Int} {L W : List Mn} (h : rightI d lo hi L W = true) (hr : rawL (L ++ W)) (l0 : -9223372036854775808 ≤ lo) (l1 : lo ≤ 9223372036854775807) (h0 : -9223372036854775808 ≤ hi) (h1 : hi ≤ 9223372036854775807) :
    (St.mk L W lo hi).Ok d (L.length + W.length) ∧ tot (L ++ W) ≤ 281474976710656 ∧ 10 ≤ d ∧ d ≤ 1000 := by
  unfold rightI at h
  simp only [Bool.and_eq_true, decide_eq_true_eq] at h
  obtain ⟨⟨⟨a, b, c⟩, g⟩, e⟩ := h
  obtain ⟨g1, g2, g3⟩ := goodL_all g hr (by omega) (by omega)
  have g4 := goodL_rise0 g
  rw [List.take_append_of_le_length (Nat.le_refl _), List.take_length] at g4
  refine ⟨⟨g1, g2, l0, l1, h0, h1, fun he => ?_, Nat.le_refl _, c, g4⟩, by omega, a, b⟩
  simp only at he
  rw [he] at e
  simp only [tot] at e
  simp only
  omega
theorem ok_right {d : Int} {s : St} {k : Nat} (h : s.Ok d k) (ht : tot (s.L ++ s.W) ≤ 281474976710656) (d0 : 10 ≤ d) (d1 : d ≤ 1000) : rightI d s.lo s.hi s.L s.W = true := by
  unfold rightI
  simp only [Bool.and_eq_true, decide_eq_true_eq]
  refine ⟨⟨⟨d0, d1, h.wl⟩, goodL_of h.ok h.bd (by omega) (fun h => absurd h (by omega)) (fun _ => ?_)⟩, ?_⟩
  · rw [List.take_append_of_le_length (Nat.le_refl _), List.take_length]; exact h.rise
  · by_cases h0 : tot (s.L ++ s.W) = 0
    · exact .inr (h.emp (h.n_zero.1 h0))
    · have := h.n_nonneg; exact .inl (by omega)
end Go.Proofs.Ytedhpkfbobgkgaa
