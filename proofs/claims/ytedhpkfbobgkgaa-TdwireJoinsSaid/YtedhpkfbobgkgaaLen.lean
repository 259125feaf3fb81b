/- How long a pressed list may be, in plain Lean. Conditions: the fineness from 1 on, weights together at most 2^48. -/
import Derived.Test.YtedhpkfbobgkgaaSt
namespace Go.Proofs.Ytedhpkfbobgkgaa

/-- No two neighbours might be put together, as they were looked at from the left. -/
def Gap (d n : Int) : Int → List Mn → Prop
  | _, [] => True
  | _, [_] => True
  | done, a :: b :: r => (∃ m, 0 < m ∧ m ≤ b.2 ∧ mayI d n done (a.2 + m) = false) ∧ Gap d n (done + a.2) (b :: r)
theorem pressL_head (d n : Int) : ∀ (l : List Mn) (done : Int) (now : Mn), okL l → ∃ b r, pressL d n l done now = b :: r ∧ now.2 ≤ b.2
  | [], _, now, _ => ⟨now, [], rfl, Int.le_refl _⟩
  | m :: l, done, now, ho => by
    have hm := (ho m (List.mem_cons_self ..)).2.2
    unfold pressL
    split
    · obtain ⟨b, r, h1, h2⟩ := pressL_head d n l done (lerpI now.1 m.1 m.2 (now.2 + m.2), now.2 + m.2) ho.tail
      exact ⟨b, r, h1, by simp only at h2; omega⟩
    · exact ⟨now, _, rfl, Int.le_refl _⟩
theorem pressL_gap (d n : Int) : ∀ (l : List Mn) (done : Int) (now : Mn), okL l → Gap d n done (pressL d n l done now)
  | [], _, _, _ => trivial
  | m :: l, done, now, ho => by
    have hm := (ho m (List.mem_cons_self ..)).2.2
    unfold pressL
    split
    · exact pressL_gap d n l done _ ho.tail
    · rename_i hc
      obtain ⟨b, r, h1, h2⟩ := pressL_head d n l (done + now.2) m ho.tail
      have ih := pressL_gap d n l (done + now.2) m ho.tail
      rw [h1] at ih ⊢
      exact ⟨⟨m.2, hm, h2, by simpa using hc⟩, ih⟩
theorem prs_gap (d : Int) {l : List Mn} (h : okL l) : Gap d (tot l) 0 (prs d l) := by
  unfold prs
  have := h.srt
  cases hs : srt l with
  | nil => trivial
  | cons m s => rw [hs] at this; exact pressL_gap d (tot l) s 0 m this.tail

theorem may_left {d n done w : Int} (h : mayI d n done w = false) (n0 : 0 < n) (d0 : 0 ≤ done) (w0 : 0 < w) (hl : 2 * done + w ≤ n) : 2 * done ≤ w * (d - 1) := by
  unfold mayI at h
  have h1 : (2 * done + w) * (2 * n - 2 * done - w) < w * d * n := by simpa using h
  have h2 : (2 * done + w) * n ≤ (2 * done + w) * (2 * n - 2 * done - w) := Int.mul_le_mul_of_nonneg_left (by omega) (by omega)
  have h3 : (2 * done + w) * n < w * d * n := by omega
  have h4 : 2 * done + w < w * d := Int.lt_of_mul_lt_mul_right h3 (by omega)
  have h5 : w * (d - 1) = w * d - w := by rw [Int.mul_sub, Int.mul_one]
  omega
theorem may_right {d n done w : Int} (h : mayI d n done w = false) (n0 : 0 < n) (_d0 : 0 ≤ done) (_w0 : 0 < w) (hl : n ≤ 2 * done + w) (hw : 2 * done + w ≤ 2 * n) : 2 * (n - done) ≤ w * (d + 1) := by
  unfold mayI at h
  have h1 : (2 * done + w) * (2 * n - 2 * done - w) < w * d * n := by simpa using h
  have h2 : n * (2 * n - 2 * done - w) ≤ (2 * done + w) * (2 * n - 2 * done - w) := Int.mul_le_mul_of_nonneg_right hl (by omega)
  have h3 : (2 * n - 2 * done - w) * n < w * d * n := by rw [Int.mul_comm] at h2; omega
  have h4 : 2 * n - 2 * done - w < w * d := Int.lt_of_mul_lt_mul_right h3 (by omega)
  have h5 : w * (d + 1) = w * d + w := by rw [Int.mul_add, Int.mul_one]
  omega
theorem Gap.tail2 {d n done : Int} {a b : Mn} {r : List Mn} (h : Gap d n done (a :: b :: r)) : Gap d n (done + a.2 + b.2) r := by
  obtain ⟨_, h2⟩ := h
  cases r with
  | nil => trivial
  | cons c r => exact h2.2
/-- In the left half K pairs weigh as much as 2K / (d - 1) times what is done. -/
theorem gap_left {d n : Int} (n0 : 0 < n) (d1 : 1 ≤ d) : ∀ (K : Nat) (P : List Mn) (done : Int), Gap d n done P → okL P → 0 ≤ done → 2 * K ≤ P.length → 2 * (done + tot (P.take (2 * K))) ≤ n → 2 * K * done ≤ tot (P.take (2 * K)) * (d - 1)
  | 0, P, done, _, _, _, _, _ => by simp [tot]
  | K + 1, [], _, _, _, _, h, _ => by simp only [List.length_nil] at h; omega
  | K + 1, [_], _, _, _, _, h, _ => by simp only [List.length_singleton] at h; omega
  | K + 1, a :: b :: r, done, hg, ho, h0, hl, ht => by
    have ha := (ho a (List.mem_cons_self ..)).2.2
    have hb := (ho b (by simp)).2.2
    have e : 2 * (K + 1) = 2 * K + 1 + 1 := by omega
    rw [e, List.take_succ_cons, List.take_succ_cons] at ht ⊢
    simp only [tot] at ht ⊢
    have hrt := (ho.tail.tail.take (2 * K)).tot_nonneg
    have ih := gap_left n0 d1 K r (done + a.2 + b.2) hg.tail2 ho.tail.tail (by omega) (by simp only [List.length_cons] at hl; omega) (by omega)
    obtain ⟨⟨m, m0, m1, hm⟩, _⟩ := hg
    have hp := may_left hm n0 h0 (by omega) (by omega)
    have hp2 : (a.2 + m) * (d - 1) ≤ (a.2 + b.2) * (d - 1) := Int.mul_le_mul_of_nonneg_right (by omega) (by omega)
    have hk : 2 * (K : Int) * done ≤ 2 * (K : Int) * (done + a.2 + b.2) := Int.mul_le_mul_of_nonneg_left (by omega) (by omega)
    have e1 : (a.2 + (b.2 + tot (r.take (2 * K)))) * (d - 1) = (a.2 + b.2) * (d - 1) + tot (r.take (2 * K)) * (d - 1) := by rw [← Int.add_assoc, Int.add_mul]
    have e2 : 2 * ((K + 1 : Nat) : Int) * done = 2 * (K : Int) * done + 2 * done := by
      have : 2 * ((K + 1 : Nat) : Int) = 2 * (K : Int) + 2 := by omega
      rw [this, Int.add_mul]
    rw [e1, e2]
    omega
theorem gap_right {d n : Int} (n0 : 0 < n) (d1 : 1 ≤ d) : ∀ (K : Nat) (P : List Mn) (done : Int), Gap d n done P → okL P → n ≤ 2 * done → done + tot P = n → 2 * K ≤ P.length → 2 * K * tot (P.drop (2 * K)) ≤ tot (P.take (2 * K)) * (d + 1)
  | 0, P, done, _, _, _, _, _ => by simp [tot]
  | K + 1, [], _, _, _, _, _, h => by simp only [List.length_nil] at h; omega
  | K + 1, [_], _, _, _, _, _, h => by simp only [List.length_singleton] at h; omega
  | K + 1, a :: b :: r, done, hg, ho, h0, hn, hl => by
    have ha := (ho a (List.mem_cons_self ..)).2.2
    have hb := (ho b (by simp)).2.2
    have e : 2 * (K + 1) = 2 * K + 1 + 1 := by omega
    rw [e, List.take_succ_cons, List.take_succ_cons, List.drop_succ_cons, List.drop_succ_cons]
    simp only [tot] at hn ⊢
    have hrt := (ho.tail.tail.take (2 * K)).tot_nonneg
    have hrd := (ho.tail.tail.drop (2 * K)).tot_nonneg
    have hsum := tot_append (r.take (2 * K)) (r.drop (2 * K))
    rw [List.take_append_drop] at hsum
    have ih := gap_right n0 d1 K r (done + a.2 + b.2) hg.tail2 ho.tail.tail (by omega) (by omega) (by simp only [List.length_cons] at hl; omega)
    obtain ⟨⟨m, m0, m1, hm⟩, _⟩ := hg
    have hp := may_right hm n0 (by omega) (by omega) (by omega) (by omega)
    have hp2 : (a.2 + m) * (d + 1) ≤ (a.2 + b.2) * (d + 1) := Int.mul_le_mul_of_nonneg_right (by omega) (by omega)
    have e1 : (a.2 + (b.2 + tot (r.take (2 * K)))) * (d + 1) = (a.2 + b.2) * (d + 1) + tot (r.take (2 * K)) * (d + 1) := by rw [← Int.add_assoc, Int.add_mul]
    have e2 : 2 * ((K + 1 : Nat) : Int) * tot (r.drop (2 * K)) = 2 * (K : Int) * tot (r.drop (2 * K)) + 2 * tot (r.drop (2 * K)) := by
      have : 2 * ((K + 1 : Nat) : Int) = 2 * (K : Int) + 2 := by omega
      rw [this, Int.add_mul]
    rw [e1, e2]
    omega
/-- A list cut off keeps its gaps. -/
theorem Gap.drop {d n : Int} : ∀ (i : Nat) (P : List Mn) (done : Int), Gap d n done P → Gap d n (done + tot (P.take i)) (P.drop i)
  | 0, P, done, h => by simpa [tot] using h
  | i + 1, [], done, _ => trivial
  | i + 1, [a], done, _ => by simp [Gap]
  | i + 1, a :: b :: r, done, h => by
    have := Gap.drop i (b :: r) (done + a.2) h.2
    rw [List.take_succ_cons, List.drop_succ_cons]
    simp only [tot]
    rw [← Int.add_assoc]
    exact this
/-- Doubling on the left. -/
theorem left_double {d n : Int} {D : Nat} (hD : (D : Int) = d) (n0 : 0 < n) (d1 : 1 ≤ d) : ∀ (j : Nat) (P : List Mn) (done : Int), Gap d n done P → okL P → 0 ≤ done → 2 * D * j ≤ P.length → 2 * (done + tot (P.take (2 * D * j))) ≤ n → 2 ^ j * done ≤ done + tot (P.take (2 * D * j))
  | 0, P, done, _, _, _, _, _ => by simp [tot]
  | j + 1, P, done, hg, ho, h0, hl, ht => by
    have e : 2 * D * (j + 1) = 2 * D + 2 * D * j := by rw [Nat.mul_add, Nat.mul_one]; omega
    rw [e] at hl ht ⊢
    have hsp : P.take (2 * D + 2 * D * j) = P.take (2 * D) ++ (P.drop (2 * D)).take (2 * D * j) := by rw [List.take_add]
    rw [hsp, tot_append] at ht ⊢
    have t1 := (ho.take (2 * D)).tot_nonneg
    have t2 := ((ho.drop (2 * D)).take (2 * D * j)).tot_nonneg
    have h1 := gap_left n0 d1 D P done hg ho h0 (by omega) (by omega)
    have h2 := left_double hD n0 d1 j (P.drop (2 * D)) (done + tot (P.take (2 * D))) (hg.drop (2 * D)) (ho.drop _) (by omega) (by rw [List.length_drop]; omega) (by omega)
    have h3 : done ≤ tot (P.take (2 * D)) := by
      rw [hD] at h1
      have h4 : 2 * d * done ≤ tot (P.take (2 * D)) * (d - 1) := h1
      have h5 : tot (P.take (2 * D)) * (d - 1) ≤ tot (P.take (2 * D)) * (2 * d) := Int.mul_le_mul_of_nonneg_left (by omega) t1
      have h6 : done * (2 * d) ≤ tot (P.take (2 * D)) * (2 * d) := by rw [Int.mul_comm done]; omega
      exact Int.le_of_mul_le_mul_right h6 (by omega)
    have h7 : (2 : Int) ^ j * (2 * done) ≤ 2 ^ j * (done + tot (P.take (2 * D))) := Int.mul_le_mul_of_nonneg_left (by omega) (Int.le_of_lt (Int.pow_pos (by omega)))
    have h8 : (2 : Int) ^ (j + 1) * done = 2 ^ j * (2 * done) := by rw [Int.pow_succ, Int.mul_assoc]
    rw [h8]
    omega
/-- Doubling on the right. -/
theorem right_double {d n : Int} {D : Nat} (hD : (D : Int) = d + 1) (n0 : 0 < n) (d1 : 1 ≤ d) : ∀ (j : Nat) (P : List Mn) (done : Int), Gap d n done P → okL P → n ≤ 2 * done → done + tot P = n → 2 * D * j ≤ P.length → 2 ^ j * tot (P.drop (2 * D * j)) ≤ tot P
  | 0, P, done, _, _, _, _, _ => by simp
  | j + 1, P, done, hg, ho, h0, hn, hl => by
    have e : 2 * D * (j + 1) = 2 * D + 2 * D * j := by rw [Nat.mul_add, Nat.mul_one]; omega
    rw [e] at hl ⊢
    have hsum := tot_append (P.take (2 * D)) (P.drop (2 * D))
    rw [List.take_append_drop] at hsum
    have t1 := (ho.take (2 * D)).tot_nonneg
    have t2 := (ho.drop (2 * D)).tot_nonneg
    have h1 := gap_right n0 d1 D P done hg ho h0 hn (by omega)
    have h2 := right_double hD n0 d1 j (P.drop (2 * D)) (done + tot (P.take (2 * D))) (hg.drop (2 * D)) (ho.drop _) (by omega) (by omega) (by rw [List.length_drop]; omega)
    rw [List.drop_drop] at h2
    have h3 : tot (P.drop (2 * D)) ≤ tot (P.take (2 * D)) := by
      rw [hD] at h1
      have h6 : tot (P.drop (2 * D)) * (2 * (d + 1)) ≤ tot (P.take (2 * D)) * (2 * (d + 1)) := by
        have h5 : tot (P.take (2 * D)) * (d + 1) ≤ tot (P.take (2 * D)) * (2 * (d + 1)) := Int.mul_le_mul_of_nonneg_left (by omega) t1
        rw [Int.mul_comm (tot (P.drop (2 * D)))]; omega
      exact Int.le_of_mul_le_mul_right h6 (by omega)
    have h8 : (2 : Int) ^ (j + 1) * tot (P.drop (2 * D + 2 * D * j)) = 2 * (2 ^ j * tot (P.drop (2 * D + 2 * D * j))) := by rw [Int.pow_succ, Int.mul_comm (2 ^ j) 2, Int.mul_assoc]
    rw [h8]
    omega
theorem okL_tot_len : ∀ {l : List Mn}, okL l → (l.length : Int) ≤ tot l
  | [], _ => by simp [tot]
  | m :: l, h => by
    have := okL_tot_len h.tail
    have := (h m (List.mem_cons_self ..)).2.2
    simp only [tot, List.length_cons]; omega
/-- A pressed list is short. -/
theorem prs_len {d lo hi : Int} {l : List Mn} (h : okL l) (hb : ∀ m ∈ l, lo ≤ m.1 ∧ m.1 ≤ hi) (d1 : 1 ≤ d) (ht : tot l ≤ 281474976710656) : ((prs d l).length : Int) ≤ 194 * d + 99 := by
  have hg := prs_gap d h
  have ho := (prs_ok d lo hi h hb).1
  have hn := prs_tot d l
  cases hP : prs d l with
  | nil => simp only [List.length_nil]; omega
  | cons a r =>
    rw [hP] at hg ho hn
    have ha := (ho a (List.mem_cons_self ..)).2.2
    have hr := ho.tail.tot_nonneg
    simp only [tot] at hn
    have hg1 := hg.drop 1
    simp only [List.take_succ_cons, List.take_zero, List.drop_succ_cons, List.drop_zero, tot] at hg1
    generalize tot l = n at *
    obtain ⟨D, hD⟩ : ∃ D : Nat, (D : Int) = d := ⟨d.toNat, by omega⟩
    have n0 : 0 < n := by omega
    rw [show (0 : Int) + (a.2 + 0) = a.2 by omega] at hg1
    simp only [List.length_cons]
    by_cases hX : r.length < 2 * D * 48
    · have : ((2 * D * 48 : Nat) : Int) = 96 * d := by rw [← hD]; omega
      omega
    · have hl := left_double hD n0 d1 48 r a.2 hg1 ho.tail (by omega) (by omega)
      have hnot : ¬ 2 * (a.2 + tot (r.take (2 * D * 48))) ≤ n := fun h1 => by
        have := hl h1
        have e : (2 : Int) ^ 48 = 281474976710656 := by decide
        rw [e] at this
        omega
      have hs := tot_append (r.take (2 * D * 48)) (r.drop (2 * D * 48))
      rw [List.take_append_drop] at hs
      have hg2 := hg1.drop (2 * D * 48)
      have hor := ho.tail.drop (2 * D * 48)
      have hlen : (r.drop (2 * D * 48)).length = r.length - 2 * D * 48 := List.length_drop ..
      have hx : ((2 * D * 48 : Nat) : Int) = 96 * d := by rw [← hD]; omega
      generalize r.drop (2 * D * 48) = Q at *
      generalize tot (r.take (2 * D * 48)) = tk at *
      by_cases hY : Q.length ≤ 2 * (D + 1) * 49
      · have hy : ((2 * (D + 1) * 49 : Nat) : Int) = 98 * d + 98 := by rw [← hD]; omega
        omega
      · have hq := right_double (D := D + 1) (by omega) n0 d1 49 Q (a.2 + tk) hg2 hor (by omega) (by omega) (by omega)
        have hne := okL_tot_len (hor.drop (2 * (D + 1) * 49))
        rw [List.length_drop] at hne
        have e : (2 : Int) ^ 49 = 562949953421312 := by decide
        rw [e] at hq
        omega
end Go.Proofs.Ytedhpkfbobgkgaa
