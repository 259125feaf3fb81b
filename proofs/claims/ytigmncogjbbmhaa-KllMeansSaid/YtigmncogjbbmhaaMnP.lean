/- Means as cells and in plain Lean: their weights, the mean, its ends. No program, no condition. -/
import Derived.Test.YtigmncogjbbmhaaSlice
import Derived.Test.YtigmncogjbbmhaaKmP
namespace Go.Proofs.Ytigmncogjbbmhaa
open Go.RowKit

theorem snocRec {α : Type} {motive : List α → Prop} (nil : motive []) (snoc : ∀ l x, motive l → motive (l ++ [x])) (l : List α) : motive l := by
  have h : ∀ n (l : List α), l.length = n → motive l := by
    intro n
    induction n with
    | zero => intro l hl; rw [List.eq_nil_of_length_eq_zero hl]; exact nil
    | succ n ih =>
      intro l hl
      have hne : l ≠ [] := by rintro rfl; simp at hl
      rw [← List.dropLast_concat_getLast hne]
      exact snoc _ _ (ih _ (by simp [hl]))
  exact h _ l rfl
/-- A mean: its number, its weight. -/
abbrev Mn := Int × Int
def encM (m : Mn) : List Value := [.int .i64 m.1, .int .u64 m.2]
/-- Means as cells. -/
def cellsM (l : List Mn) : List Value := l.flatMap encM
theorem cellsM_length (l : List Mn) : (cellsM l).length = l.length * 2 := by
  induction l with
  | nil => rfl
  | cons m l ih => simp only [cellsM, List.flatMap_cons, List.length_append, List.length_cons] at *; rw [ih]; simp [encM]; omega
theorem cellsM_append (a b : List Mn) : cellsM (a ++ b) = cellsM a ++ cellsM b := by simp [cellsM]
theorem cellsM_get0 : ∀ (l : List Mn) (i : Nat) (h : i < l.length), (cellsM l)[i * 2]? = some (.int .i64 l[i].1)
  | m :: l, 0, _ => rfl
  | m :: l, i + 1, h => by
    have := cellsM_get0 l i (by simpa using h)
    rw [show (i + 1) * 2 = i * 2 + 2 by omega]
    simpa [cellsM, encM] using this
theorem cellsM_get1 : ∀ (l : List Mn) (i : Nat) (h : i < l.length), (cellsM l)[i * 2 + 1]? = some (.int .u64 l[i].2)
  | m :: l, 0, _ => rfl
  | m :: l, i + 1, h => by
    have := cellsM_get1 l i (by simpa using h)
    rw [show (i + 1) * 2 + 1 = i * 2 + 1 + 2 by omega]
    simpa [cellsM, encM] using this
theorem cellsM_one (l : List Mn) : ∀ u ∈ cellsM l, u.oneCell' = true := by
  intro u hu
  obtain ⟨m, _, hm⟩ := List.mem_flatMap.1 hu
  simp [encM] at hm
  rcases hm with rfl | rfl <;> rfl
theorem cellsM_drop (l : List Mn) (k : Nat) : (cellsM l).drop (k * 2) = cellsM (l.drop k) := by
  induction k generalizing l with
  | zero => simp
  | succ k ih =>
    cases l with
    | nil => simp [cellsM]
    | cons m l =>
      rw [show (k + 1) * 2 = k * 2 + 2 by omega]
      have := ih l
      simpa [cellsM, encM] using this
theorem cellsM_take (l : List Mn) (k : Nat) : (cellsM l).take (k * 2) = cellsM (l.take k) := by
  induction k generalizing l with
  | zero => simp [cellsM]
  | succ k ih =>
    cases l with
    | nil => simp [cellsM]
    | cons m l =>
      rw [show (k + 1) * 2 = k * 2 + 2 by omega]
      have := ih l
      simpa [cellsM, encM] using this

/-- A slice that reads as means. -/
def RdM (w : World) (v : Value) (l : List Mn) : Prop := Rd 2 w v l.length (cellsM l)
theorem RdM.keep {w w' : World} {v : Value} {l : List Mn} (h : RdM w v l) (hb : Below w.heap.size w w') : RdM w' v l := Rd.keep h hb
def MForm (w : World) (A : Option Addr) (l : List Mn) : Prop := 0 < l.length → ∃ g off, A = some ⟨g, off, none⟩ ∧ g < w.heap.size ∧ ∀ j, j < l.length * 2 → w.cell? ⟨g, off + j, none⟩ = (cellsM l)[j]?
theorem RdM.form {w : World} {v : Value} {l : List Mn} (h : RdM w v l) : ∃ A c, v = .slice A l.length c ∧ l.length ≤ c ∧ c ≤ 9223372036854775807 ∧ MForm w A l := by
  obtain ⟨_, A, c, hv, h1, h2, h3⟩ := h
  exact ⟨A, c, hv, h1, by unfold maxLen at h2; omega, h3⟩
theorem RdM.of_form {w : World} {A : Option Addr} {l : List Mn} {c : Nat} (h1 : l.length ≤ c) (h2 : c ≤ 9223372036854775807) (h : MForm w A l) : RdM w (.slice A l.length c) l :=
  ⟨cellsM_length l, A, c, rfl, h1, by unfold maxLen; omega, h⟩
theorem MForm.keep {w w' : World} {A : Option Addr} {l : List Mn} (h : MForm w A l) (hb : Below w.heap.size w w') : MForm w' A l := fun h0 => by
  obtain ⟨g, off, hA, hg, hj⟩ := h h0
  exact ⟨g, off, hA, Nat.lt_of_lt_of_le hg hb.size, fun j hj' => (hb.cell (p := ⟨g, off + j, none⟩) hg).trans (hj j hj')⟩
theorem MForm.at_ {w : World} {A : Option Addr} {l : List Mn} (h : MForm w A l) {j : Nat} (hj : j < l.length) :
    ∃ g off, A = some ⟨g, off, none⟩ ∧ g < w.heap.size ∧ w.cell? ⟨g, off + j * 2, none⟩ = some (.int .i64 l[j].1) ∧ w.cell? ⟨g, off + j * 2 + 1, none⟩ = some (.int .u64 l[j].2) := by
  obtain ⟨g, off, hA, hg, hc⟩ := h (by omega)
  refine ⟨g, off, hA, hg, ?_, ?_⟩
  · rw [hc (j * 2) (by omega), cellsM_get0 l j hj]
  · rw [Nat.add_assoc, hc (j * 2 + 1) (by omega), cellsM_get1 l j hj]
/-- All weights together. -/
def tot : List Mn → Int
  | [] => 0
  | m :: l => m.2 + tot l
theorem tot_append (a b : List Mn) : tot (a ++ b) = tot a + tot b := by
  induction a with
  | nil => simp [tot]
  | cons m a ih => simp only [List.cons_append, tot, ih]; omega
theorem tot_take_succ (l : List Mn) (j : Nat) (h : j < l.length) : tot (l.take (j + 1)) = tot (l.take j) + l[j].2 := by
  rw [List.take_succ_eq_append_getElem h, tot_append]; simp [tot]
/-! ### Means that may be -/
def okM (m : Mn) : Prop := -9223372036854775808 ≤ m.1 ∧ m.1 ≤ 9223372036854775807 ∧ 0 < m.2
def okL (l : List Mn) : Prop := ∀ m ∈ l, okM m
theorem okL.tot_nonneg : ∀ {l : List Mn}, okL l → 0 ≤ tot l
  | [], _ => by simp [tot]
  | m :: l, h => by
    have h1 := okL.tot_nonneg (l := l) (fun x hx => h x (List.mem_cons_of_mem _ hx))
    have h2 := (h m (List.mem_cons_self ..)).2.2
    simp only [tot]; omega
theorem okL.tail {m : Mn} {l : List Mn} (h : okL (m :: l)) : okL l := fun x hx => h x (List.mem_cons_of_mem _ hx)
theorem okL.append {a b : List Mn} (h : okL a) (k : okL b) : okL (a ++ b) := fun m hm => by
  rcases List.mem_append.1 hm with h1 | h1
  · exact h m h1
  · exact k m h1
theorem okL.take {l : List Mn} (h : okL l) (j : Nat) : okL (l.take j) := fun m hm => h m (List.mem_of_mem_take hm)
theorem okL.drop {l : List Mn} (h : okL l) (j : Nat) : okL (l.drop j) := fun m hm => h m (List.mem_of_mem_drop hm)
theorem okL.get {l : List Mn} (h : okL l) {j : Nat} (hj : j < l.length) : okM l[j] := h _ (List.getElem_mem hj)
theorem okL.tot_take {l : List Mn} (h : okL l) (j : Nat) : 0 ≤ tot (l.take j) ∧ tot (l.take j) ≤ tot l := by
  have h1 := (h.take j).tot_nonneg
  have h2 := (h.drop j).tot_nonneg
  have h3 := tot_append (l.take j) (l.drop j)
  rw [List.take_append_drop] at h3
  omega
theorem okL.tot_get {l : List Mn} (h : okL l) {j : Nat} (hj : j < l.length) : tot (l.take j) + l[j].2 ≤ tot l := by
  rw [← tot_take_succ l j hj]; exact (h.tot_take _).2
/-- All numbers by their weights. -/
def wsum : List Mn → Int
  | [] => 0
  | m :: l => m.1 * m.2 + wsum l
/-- The floor of the mean. -/
def meanI (l : List Mn) : Int := wsum l / tot l
theorem wsum_append (a b : List Mn) : wsum (a ++ b) = wsum a + wsum b := by
  induction a with
  | nil => simp [wsum]
  | cons m a ih => simp only [List.cons_append, wsum, ih]; omega
theorem wsum_take_succ (l : List Mn) (j : Nat) (h : j < l.length) : wsum (l.take (j + 1)) = wsum (l.take j) + l[j].1 * l[j].2 := by
  rw [List.take_succ_eq_append_getElem h, wsum_append]; simp [wsum]
theorem wsum_low (lo : Int) : ∀ (l : List Mn), okL l → (∀ m ∈ l, lo ≤ m.1) → lo * tot l ≤ wsum l
  | [], _, _ => by simp [wsum, tot]
  | m :: l, h, k => by
    have h1 := wsum_low lo l h.tail (fun x hx => k x (List.mem_cons_of_mem _ hx))
    have h2 := k m (List.mem_cons_self ..)
    have h3 := (h m (List.mem_cons_self ..)).2.2
    have h4 : lo * m.2 ≤ m.1 * m.2 := Int.mul_le_mul_of_nonneg_right h2 (by omega)
    simp only [wsum, tot, Int.mul_add]; omega
theorem wsum_high (hi : Int) : ∀ (l : List Mn), okL l → (∀ m ∈ l, m.1 ≤ hi) → wsum l ≤ hi * tot l
  | [], _, _ => by simp [wsum, tot]
  | m :: l, h, k => by
    have h1 := wsum_high hi l h.tail (fun x hx => k x (List.mem_cons_of_mem _ hx))
    have h2 := k m (List.mem_cons_self ..)
    have h3 := (h m (List.mem_cons_self ..)).2.2
    have h4 : m.1 * m.2 ≤ hi * m.2 := Int.mul_le_mul_of_nonneg_right h2 (by omega)
    simp only [wsum, tot, Int.mul_add]; omega
/-- The mean lies between the ends. -/
theorem meanI_bd {lo hi : Int} {l : List Mn} (h : okL l) (ht : 0 < tot l) (hb : ∀ m ∈ l, lo ≤ m.1 ∧ m.1 ≤ hi) : lo ≤ meanI l ∧ meanI l ≤ hi := by
  have h1 := wsum_low lo l h (fun m hm => (hb m hm).1)
  have h2 := wsum_high hi l h (fun m hm => (hb m hm).2)
  refine ⟨(Int.le_ediv_iff_mul_le ht).2 h1, ?_⟩
  have : wsum l < (hi + 1) * tot l := by rw [Int.add_mul]; omega
  have := (Int.ediv_lt_iff_lt_mul ht).2 this
  unfold meanI
  omega
/-- Above a number, as it is reckoned. -/
theorem meanI_above (low : Int) {l : List Mn} (ht : 0 < tot l) : meanI l = low + (wsum l - low * tot l) / tot l := by
  unfold meanI
  rw [show wsum l - low * tot l = wsum l + (-low) * tot l by rw [Int.neg_mul]; omega, Int.add_mul_ediv_right _ _ (by omega)]
  omega
/-- The sum above a number, as it is gathered. -/
def asum (low : Int) (l : List Mn) : Int := wsum l - low * tot l
theorem asum_nil (low : Int) : asum low [] = 0 := by simp [asum, wsum, tot]
theorem asum_take_succ (low : Int) (l : List Mn) (j : Nat) (h : j < l.length) : asum low (l.take (j + 1)) = asum low (l.take j) + (l[j].1 - low) * l[j].2 := by
  unfold asum
  rw [wsum_take_succ l j h, tot_take_succ l j h, Int.mul_add, Int.sub_mul]
  omega
theorem asum_bd {low : Int} {l : List Mn} (h : okL l) (hb : ∀ m ∈ l, low ≤ m.1 ∧ m.1 ≤ low + 18446744073709551615) : 0 ≤ asum low l ∧ asum low l ≤ 18446744073709551615 * tot l := by
  have h1 := wsum_low low l h (fun m hm => (hb m hm).1)
  have h2 := wsum_high (low + 18446744073709551615) l h (fun m hm => (hb m hm).2)
  rw [Int.add_mul] at h2
  unfold asum
  omega
/-- The least number. -/
def lowL (a : Int) (l : List Mn) : Int := l.foldl (fun b m => min b m.1) a
theorem lowL_snoc (a : Int) (l : List Mn) (m : Mn) : lowL a (l ++ [m]) = min (lowL a l) m.1 := by simp [lowL, List.foldl_append]
theorem lowL_take_succ (a : Int) (l : List Mn) (j : Nat) (h : j < l.length) : lowL a (l.take (j + 1)) = min (lowL a (l.take j)) l[j].1 := by
  rw [List.take_succ_eq_append_getElem h, lowL_snoc]
theorem lowL_bd (lo a : Int) (l : List Mn) (ha : lo ≤ a) (h : ∀ m ∈ l, lo ≤ m.1) : lo ≤ lowL a l ∧ lowL a l ≤ a ∧ ∀ m ∈ l, lowL a l ≤ m.1 := by
  induction l using snocRec with
  | nil => exact ⟨ha, Int.le_refl _, fun m hm => by cases hm⟩
  | snoc l x ih =>
    obtain ⟨h1, h2, h3⟩ := ih (fun m hm => h m (List.mem_append_left _ hm))
    have h4 := h x (by simp)
    rw [lowL_snoc]
    refine ⟨by omega, by omega, fun m hm => ?_⟩
    rcases List.mem_append.1 hm with hm | hm
    · have := h3 m hm; omega
    · simp only [List.mem_singleton] at hm; subst hm; omega

end Go.Proofs.Ytigmncogjbbmhaa
