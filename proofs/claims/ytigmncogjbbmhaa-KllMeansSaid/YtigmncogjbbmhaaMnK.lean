/- What a stack keeps, as means: its weights, its sum; what was added to it. No program, no condition. -/
import Derived.Test.YtigmncogjbbmhaaMnP
namespace Go.Proofs.Ytigmncogjbbmhaa

/-- What is kept, from below. -/
def keepF : Nat → LL → List Mn
  | _, [] => []
  | w, l :: L => l.map (fun x => (x, (w : Int))) ++ keepF (2 * w) L
theorem keepF_append : ∀ (w : Nat) (A B : LL), keepF w (A ++ B) = keepF w A ++ keepF (2 ^ A.length * w) B
  | w, [], B => by simp [keepF]
  | w, a :: A, B => by
    rw [List.cons_append, keepF, keepF_append (2 * w) A B, keepF, List.length_cons, Nat.pow_succ, Nat.mul_assoc, List.append_assoc]
theorem keepF_take_succ {L : LL} {j : Nat} (h : j < L.length) : keepF 1 (L.take (j + 1)) = keepF 1 (L.take j) ++ (lvl L j).map (fun x => (x, ((2 ^ j : Nat) : Int))) := by
  rw [List.take_succ_eq_append_getElem h, keepF_append, List.length_take, Nat.min_eq_left (by omega), lvl_at h]
  simp [keepF]
theorem keepF_length : ∀ (w : Nat) (L : LL), (keepF w L).length = cnt L
  | _, [] => rfl
  | w, l :: L => by rw [keepF, List.length_append, List.length_map, keepF_length (2 * w) L, cnt_cons]
theorem tot_level (l : List Int) (w : Nat) : tot (l.map (fun x => (x, (w : Int)))) = ((l.length * w : Nat) : Int) := by
  induction l with
  | nil => simp [tot]
  | cons x l ih => rw [List.map_cons, tot, ih, List.length_cons, Nat.add_mul]; simp only; omega
theorem keepF_tot : ∀ (w : Nat) (L : LL), tot (keepF w L) = ((wtF w L : Nat) : Int)
  | _, [] => rfl
  | w, l :: L => by rw [keepF, tot_append, tot_level, keepF_tot (2 * w) L, wtF]; omega
theorem keepF_mem : ∀ (w : Nat) (L : LL), 0 < w → ∀ m ∈ keepF w L, m.1 ∈ allV L ∧ 0 < m.2
  | _, [], _, m, hm => by simp [keepF] at hm
  | w, l :: L, hw, m, hm => by
    rw [keepF] at hm
    unfold allV
    rw [List.flatten_cons]
    rcases List.mem_append.1 hm with h | h
    · obtain ⟨x, hx, rfl⟩ := List.mem_map.1 h
      exact ⟨List.mem_append_left _ hx, by simp only; omega⟩
    · obtain ⟨h1, h2⟩ := keepF_mem (2 * w) L (by omega) m h
      exact ⟨List.mem_append_right _ h1, h2⟩
/-! ### Sums -/
def sumI : List Int → Int
  | [] => 0
  | x :: l => x + sumI l
theorem sumI_append (a b : List Int) : sumI (a ++ b) = sumI a + sumI b := by
  induction a with
  | nil => simp [sumI]
  | cons x a ih => rw [List.cons_append, sumI, sumI, ih]; omega
theorem sumI_perm {a b : List Int} (h : a.Perm b) : sumI a = sumI b := by
  induction h with
  | nil => rfl
  | cons x _ ih => rw [sumI, sumI, ih]
  | swap x y l => rw [sumI, sumI, sumI, sumI]; omega
  | trans _ _ h1 h2 => rw [h1, h2]
/-- All that is kept by its weight. -/
def sF : Nat → LL → Int
  | _, [] => 0
  | w, l :: L => sumI l * (w : Int) + sF (2 * w) L
theorem wsum_level (l : List Int) (w : Nat) : wsum (l.map (fun x => (x, (w : Int)))) = sumI l * (w : Int) := by
  induction l with
  | nil => simp [wsum, sumI]
  | cons x l ih => rw [List.map_cons, wsum, ih, sumI, Int.add_mul]
theorem keepF_wsum : ∀ (w : Nat) (L : LL), wsum (keepF w L) = sF w L
  | _, [] => rfl
  | w, l :: L => by rw [keepF, wsum_append, wsum_level, keepF_wsum (2 * w) L, sF]
theorem sF_append : ∀ (w : Nat) (A B : LL), sF w (A ++ B) = sF w A + sF (2 ^ A.length * w) B
  | w, [], B => by simp [sF]
  | w, a :: A, B => by
    rw [List.cons_append, sF, sF_append (2 * w) A B, sF, List.length_cons, Nat.pow_succ, Nat.mul_assoc, Int.add_assoc]
theorem sF_set : ∀ (L : LL) (w h : Nat) (_ : h < L.length) (l : List Int), sF w (L.set h l) + sumI (lvl L h) * ((2 ^ h * w : Nat) : Int) = sF w L + sumI l * ((2 ^ h * w : Nat) : Int)
  | x :: L, w, 0, _, l => by
    rw [List.set_cons_zero, sF, sF]
    simp only [lvl, List.getD_cons_zero, Nat.pow_zero, Nat.one_mul]; omega
  | x :: L, w, h + 1, hh, l => by
    have := sF_set L (2 * w) h (by simpa using hh) l
    rw [List.set_cons_succ, sF, sF, Nat.pow_succ, Nat.mul_assoc (2 ^ h) 2 w]
    simp only [lvl, List.getD_cons_succ] at this ⊢
    omega
theorem sF_rep : ∀ (n w : Nat), sF w (List.replicate n []) = 0
  | 0, _ => rfl
  | n + 1, w => by rw [List.replicate_succ, sF, sF_rep n]; simp [sumI]
theorem sF_ext (L : LL) (h : Nat) : sF 1 (ext L h) = sF 1 L := by rw [ext, sF_append, sF_rep]; omega
theorem sF_put (L : LL) (h : Nat) (vs : List Int) : sF 1 (putL L h vs) = sF 1 L + sumI vs * ((2 ^ h : Nat) : Int) := by
  have h1 := sF_set (ext L h) 1 h (by rw [ext_length]; omega) (insL (lvl L h) vs)
  rw [lvl_ext, sumI_perm (insL_perm vs (lvl L h)), sumI_append, Nat.mul_one, Int.add_mul, sF_ext] at h1
  unfold putL
  omega
theorem sF_putB : ∀ (f h m : Nat) (L : LL) (v : Int), m < 2 ^ f → sF 1 (putB f h m L v) = sF 1 L + v * ((m * 2 ^ h : Nat) : Int)
  | 0, h, m, L, v, hm => by
    obtain rfl : m = 0 := by omega
    simp [putB]
  | f + 1, h, m, L, v, hm => by
    rw [putB]
    by_cases h0 : m = 0
    · rw [if_pos h0, h0]; simp
    · rw [if_neg h0, sF_putB f (h + 1) (m / 2) _ v (by rw [Nat.pow_succ] at hm; omega)]
      have e : m * 2 ^ h = m % 2 * 2 ^ h + m / 2 * 2 ^ (h + 1) := by
        conv => lhs; rw [← Nat.mod_add_div m 2]
        rw [Nat.add_mul, Nat.pow_succ, Nat.mul_comm 2 (m / 2), Nat.mul_assoc, Nat.mul_comm 2]
      rw [e, Int.natCast_add, Int.mul_add]
      by_cases h1 : m % 2 = 1
      · rw [if_pos h1, sF_put, h1, Nat.one_mul]
        simp only [sumI, Int.add_zero]
        omega
      · rw [if_neg h1, show m % 2 = 0 by omega, Nat.zero_mul]
        simp
theorem sF_addL (L : LL) (v : Int) {n : Nat} (hn : n < 18446744073709551616) : sF 1 (addL L v n) = sF 1 L + v * (n : Int) := by
  unfold addL
  rw [sF_putB 64 0 n L v (by omega)]; simp

/-! ### What was added -/
theorem pack_zero {k : Nat} {B : List Int} {s : KS} (h : (packA k B s).2.1 = 0) : packA k B s = s := by
  have := packA_keep (k := k) (B := B) (P := fun t => t = s ∨ 0 < t.2.1) (fun t j _ _ => .inr (by
    show 0 < min (t.2.1 + 2 ^ j) 4611686018427387904
    have := Nat.two_pow_pos j
    omega)) (s := s) (.inl rfl)
  rcases this with e | e
  · exact e
  · omega
/-- Those that were added, with their weights. -/
def addM (l n : List Int) (i : Nat) : List Mn := (List.range i).map fun j => (l.getD j 0, ((wtI n j : Nat) : Int))
theorem addM_length (l n : List Int) (i : Nat) : (addM l n i).length = i := by simp [addM]
theorem addM_succ (l n : List Int) (i : Nat) : addM l n (i + 1) = addM l n i ++ [(l.getD i 0, ((wtI n i : Nat) : Int))] := by
  unfold addM
  rw [List.range_succ, List.map_append]; rfl
theorem addM_tot (l n : List Int) : ∀ i, tot (addM l n i) = ((sumW n i : Nat) : Int)
  | 0 => rfl
  | i + 1 => by
    rw [addM_succ, tot_append, addM_tot l n i, sumW]
    simp only [tot]; omega
theorem added_zero {K : Nat} {B l n : List Int} (h8 : 8 ≤ K) (hk : K ≤ 4096) : ∀ i, i ≤ 120 → (addedN K B l n i).2.1 = 0 → sF 1 (addedN K B l n i).1 = wsum (addM l n i)
  | 0, _, _ => rfl
  | i + 1, hi, h0 => by
    obtain ⟨f1, f2, f3⟩ := addedN_ok (B := B) (l := l) (n := n) h8 hk i (by omega)
    have hw := wtI_bd n i
    rw [addedN] at h0 ⊢
    unfold addS at h0 ⊢
    rw [if_pos f3] at h0 ⊢
    have hz := pack_zero h0
    rw [hz] at h0 ⊢
    have ih := added_zero (B := B) (l := l) (n := n) h8 hk i (by omega) h0
    show sF 1 (addL _ _ _) = _
    rw [sF_addL _ _ (by omega), ih, addM_succ, wsum_append]
    simp only [wsum]; omega
end Go.Proofs.Ytigmncogjbbmhaa
