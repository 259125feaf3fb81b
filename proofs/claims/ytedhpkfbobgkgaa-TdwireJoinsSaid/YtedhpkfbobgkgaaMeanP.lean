/- The weighted mean, plain: its ends, and what pressing takes of it. No program, no condition. -/
import Derived.Test.YtedhpkfbobgkgaaDigP
namespace Go.Proofs.Ytedhpkfbobgkgaa
open Go.RowKit

/-- All numbers by their weights. -/
def wsum : List Mn → Int
  | [] => 0
  | m :: l => m.1 * m.2 + wsum l
/-- The floor of the mean. -/
def meanI (l : List Mn) : Int := wsum l / tot l
theorem wsum_append (a b : List Mn) : wsum (a ++ b) = wsum a + wsum b := by
  induction a with
  | nil => simp [wsum]
  | cons m a ih => simp only [List.cons_append, wsum, ih]; omega
theorem wsum_ins (x : Mn) (l : List Mn) : wsum (ins x l) = x.1 * x.2 + wsum l := by
  induction l with
  | nil => rfl
  | cons y l ih => simp only [ins]; split <;> simp only [wsum, ih]; omega
theorem wsum_srt (l : List Mn) : wsum (srt l) = wsum l := by
  induction l using snocRec with
  | nil => rfl
  | snoc l x ih => rw [srt_snoc, wsum_ins, ih, wsum_append]; simp only [wsum]; omega
theorem wsum_take_succ (l : List Mn) (j : Nat) (h : j < l.length) : wsum (l.take (j + 1)) = wsum (l.take j) + l[j].1 * l[j].2 := by
  rw [List.take_succ_eq_append_getElem h, wsum_append]; simp [wsum]
theorem wsum_low (lo : Int) : ∀ (l : List Mn), okL l → (∀ m ∈ l, lo ≤ m.1) → lo * tot l ≤ wsum l
  | [], _, _ => by simp [wsum, tot]
  | m :: l, h, k => by
    have h1 := wsum_low lo l h.tail (fun x hx => k x (List.mem_cons_of_mem _ hx))
    have h2 := k m (List.mem_cons_self ..)
    have h3 := (h m (List.mem_cons_self ..)).2.2
    have h4 : lo * m.2 ≤ m.1 * m.2 := Int.mul_le_mul_of_nonneg_right h2 (by omega)
    simp only [wsum, tot, Int.mul_add]; omega
theorem wsum_high (hi : Int) : ∀ (l : List Mn), okL l → (∀ m ∈ l, m.1 ≤ hi) → wsum l ≤ hi * tot l
  | [], _, _ => by simp [wsum, tot]
  | m :: l, h, k => by
    have h1 := wsum_high hi l h.tail (fun x hx => k x (List.mem_cons_of_mem _ hx))
    have h2 := k m (List.mem_cons_self ..)
    have h3 := (h m (List.mem_cons_self ..)).2.2
    have h4 : m.1 * m.2 ≤ hi * m.2 := Int.mul_le_mul_of_nonneg_right h2 (by omega)
    simp only [wsum, tot, Int.mul_add]; omega
/-- The mean lies between the ends. -/
theorem meanI_bd {lo hi : Int} {l : List Mn} (h : okL l) (ht : 0 < tot l) (hb : ∀ m ∈ l, lo ≤ m.1 ∧ m.1 ≤ hi) : lo ≤ meanI l ∧ meanI l ≤ hi := by
  have h1 := wsum_low lo l h (fun m hm => (hb m hm).1)
  have h2 := wsum_high hi l h (fun m hm => (hb m hm).2)
  refine ⟨(Int.le_ediv_iff_mul_le ht).2 h1, ?_⟩
  have : wsum l < (hi + 1) * tot l := by rw [Int.add_mul]; omega
  have := (Int.ediv_lt_iff_lt_mul ht).2 this
  unfold meanI
  omega
/-- Above a number, as it is reckoned. -/
theorem meanI_above (low : Int) {l : List Mn} (ht : 0 < tot l) : meanI l = low + (wsum l - low * tot l) / tot l := by
  unfold meanI
  rw [show wsum l - low * tot l = wsum l + (-low) * tot l by rw [Int.neg_mul]; omega, Int.add_mul_ediv_right _ _ (by omega)]
  omega
/-- The sum above a number, as it is gathered. -/
def asum (low : Int) (l : List Mn) : Int := wsum l - low * tot l
theorem asum_nil (low : Int) : asum low [] = 0 := by simp [asum, wsum, tot]
theorem asum_take_succ (low : Int) (l : List Mn) (j : Nat) (h : j < l.length) : asum low (l.take (j + 1)) = asum low (l.take j) + (l[j].1 - low) * l[j].2 := by
  unfold asum
  rw [wsum_take_succ l j h, tot_take_succ l j h, Int.mul_add, Int.sub_mul]
  omega
theorem asum_bd {low : Int} {l : List Mn} (h : okL l) (hb : ∀ m ∈ l, low ≤ m.1 ∧ m.1 ≤ low + 18446744073709551615) : 0 ≤ asum low l ∧ asum low l ≤ 18446744073709551615 * tot l := by
  have h1 := wsum_low low l h (fun m hm => (hb m hm).1)
  have h2 := wsum_high (low + 18446744073709551615) l h (fun m hm => (hb m hm).2)
  rw [Int.add_mul] at h2
  unfold asum
  omega
/-- The least number. -/
def lowL (a : Int) (l : List Mn) : Int := l.foldl (fun b m => min b m.1) a
theorem lowL_snoc (a : Int) (l : List Mn) (m : Mn) : lowL a (l ++ [m]) = min (lowL a l) m.1 := by simp [lowL, List.foldl_append]
theorem lowL_take_succ (a : Int) (l : List Mn) (j : Nat) (h : j < l.length) : lowL a (l.take (j + 1)) = min (lowL a (l.take j)) l[j].1 := by
  rw [List.take_succ_eq_append_getElem h, lowL_snoc]
theorem lowL_bd (lo a : Int) (l : List Mn) (ha : lo ≤ a) (h : ∀ m ∈ l, lo ≤ m.1) : lo ≤ lowL a l ∧ lowL a l ≤ a ∧ ∀ m ∈ l, lowL a l ≤ m.1 := by
  induction l using snocRec with
  | nil => exact ⟨ha, Int.le_refl _, fun m hm => by cases hm⟩
  | snoc l x ih =>
    obtain ⟨h1, h2, h3⟩ := ih (fun m hm => h m (List.mem_append_left _ hm))
    have h4 := h x (by simp)
    rw [lowL_snoc]
    refine ⟨by omega, by omega, fun m hm => ?_⟩
    rcases List.mem_append.1 hm with hm | hm
    · have := h3 m hm; omega
    · simp only [List.mem_singleton] at hm; subst hm; omega

/-! ### Pressing -/
theorem lerp_sum (V v N n : Int) (hN : 0 < N + n) : lerpI V v n (N + n) * (N + n) ≤ V * N + v * n ∧ V * N + v * n < lerpI V v n (N + n) * (N + n) + (N + n) := by
  unfold lerpI
  have h1 := Int.mul_ediv_add_emod ((v - V) * n) (N + n)
  have h2 := Int.emod_nonneg ((v - V) * n) (show N + n ≠ 0 by omega)
  have h3 := Int.emod_lt_of_pos ((v - V) * n) hN
  have h4 : (V + (v - V) * n / (N + n)) * (N + n) = V * N + V * n + (N + n) * ((v - V) * n / (N + n)) := by
    rw [Int.add_mul, Int.mul_add, Int.mul_comm ((v - V) * n / (N + n))]
  have h5 : (v - V) * n = v * n - V * n := Int.sub_mul ..
  rw [h4]
  omega
theorem pressL_sum (d n : Int) : ∀ (l : List Mn) (done : Int) (now : Mn) (T : Int), okL (now :: l) → Rises (now :: l) → now.2 + tot l ≤ T →
    wsum (pressL d n l done now) ≤ wsum (now :: l) ∧ wsum (now :: l) ≤ wsum (pressL d n l done now) + l.length * T
  | [], _, now, T, _, _, _ => by simp [pressL, wsum]
  | m :: l, done, now, T, h, hr, hT => by
    have p1 := h now (List.mem_cons_self ..)
    have p2 := h m (by simp)
    have o1 := p1.2.2
    have o2 := p2.2.2
    have o3 := (okL.tail (okL.tail h)).tot_nonneg
    have hp := List.pairwise_cons.1 hr
    have hp2 := List.pairwise_cons.1 hp.2
    have hle : now.1 ≤ m.1 := hp.1 m (List.mem_cons_self ..)
    have hlen : ((l.length + 1 : Nat) : Int) * T = l.length * T + T := by rw [Int.natCast_add, Int.add_mul]; simp
    simp only [tot] at hT
    unfold pressL
    split
    · obtain ⟨s1, s2⟩ := lerp_sum now.1 m.1 now.2 m.2 (by omega)
      have hb := lerpI_bd hle (x := m.2) (y := now.2 + m.2) (by omega) (by omega) (by omega)
      obtain ⟨a, b⟩ := pressL_sum d n l done (lerpI now.1 m.1 m.2 (now.2 + m.2), now.2 + m.2) T (fun x hx => by
          rcases List.mem_cons.1 hx with rfl | hx
          · unfold okM at *; refine ⟨?_, ?_, ?_⟩ <;> simp only <;> omega
          · exact h x (by simp [hx])) (List.pairwise_cons.2 ⟨fun x hx => by have := hp2.1 x hx; simp only; omega, hp2.2⟩) (by simp only; omega)
      simp only [wsum, List.length_cons] at a b ⊢
      rw [hlen]
      omega
    · obtain ⟨a, b⟩ := pressL_sum d n l (done + now.2) m T h.tail hp.2 (by omega)
      simp only [wsum, List.length_cons] at a b ⊢
      rw [hlen]
      omega
theorem prs_sum (d : Int) {l : List Mn} (h : okL l) : wsum (prs d l) ≤ wsum l ∧ wsum l ≤ wsum (prs d l) + l.length * tot l := by
  have h1 := h.srt
  have h2 := rises_srt l
  have h3 := wsum_srt l
  have h4 := tot_srt l
  have h5 := srt_length l
  have h6 := h.tot_nonneg
  unfold prs
  cases hs : srt l with
  | nil => rw [hs] at h3; simp only [press, wsum] at h3 ⊢; rw [← h3]; exact ⟨by omega, by have := Int.mul_nonneg (show 0 ≤ (l.length : Int) by omega) h6; omega⟩
  | cons m s =>
    rw [hs] at h1 h2 h3 h4 h5
    simp only [tot] at h4
    obtain ⟨a, b⟩ := pressL_sum d (tot l) s 0 m (tot l) h1 h2 (by omega)
    simp only [press]
    rw [← h3]
    refine ⟨a, ?_⟩
    have e : (l.length : Int) * tot l = (s.length : Int) * tot l + tot l := by
      rw [← h5, List.length_cons, Int.natCast_add, Int.add_mul]; simp
    omega
/-- Pressing moves the mean down, by at most one for each mean. -/
theorem meanI_press (d : Int) {l : List Mn} (h : okL l) (ht : 0 < tot l) : meanI (prs d l) ≤ meanI l ∧ meanI l ≤ meanI (prs d l) + l.length := by
  obtain ⟨a, b⟩ := prs_sum d h
  unfold meanI
  rw [prs_tot]
  refine ⟨Int.ediv_le_ediv ht a, ?_⟩
  have h1 := Int.ediv_le_ediv ht b
  rwa [Int.add_mul_ediv_right _ _ (by omega)] at h1
end Go.Proofs.Ytedhpkfbobgkgaa
