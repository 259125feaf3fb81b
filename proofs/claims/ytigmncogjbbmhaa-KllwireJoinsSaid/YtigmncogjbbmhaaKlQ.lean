/- Stacks of levels in plain Lean: coins, packing to the end, adding, taking. No program, no condition. -/
import Derived.Test.YtigmncogjbbmhaaKlP
namespace Go.Proofs.Ytigmncogjbbmhaa

def coinAt (B : List Int) (a : Nat) : Nat := if a < 8 * B.length then (B.getD (a / 8) 0 / 2 ^ (a % 8) % 2).toNat else 0
def coinNx (B : List Int) (a : Nat) : Nat := if a < 8 * B.length then a + 1 else a
theorem coinAt_le (B : List Int) (a : Nat) : coinAt B a ≤ 1 := by
  unfold coinAt
  split
  · have := Int.emod_lt_of_pos (B.getD (a / 8) 0 / 2 ^ (a % 8)) (show (0 : Int) < 2 by decide)
    omega
  · omega
theorem coinNx_le {B : List Int} {a : Nat} (h : a ≤ 8 * B.length) : coinNx B a ≤ 8 * B.length := by
  unfold coinNx
  split <;> omega
/-- Levels, ledger, how many coins were read. -/
abbrev KS := LL × Nat × Nat
def packN (B : List Int) (h : Nat) (s : KS) : KS := (packS s.1 h (coinAt B s.2.2), min (s.2.1 + 2 ^ h) 4611686018427387904, coinNx B s.2.2)
def packF (k : Nat) (B : List Int) : Nat → KS → KS
  | 0, s => s
  | f + 1, s => match fullN k s.1 with
    | none => s
    | some h => packF k B f (packN B h s)
def packA (k : Nat) (B : List Int) (s : KS) : KS := packF k B (cnt s.1) s
theorem packN_cnt {k : Nat} {B : List Int} {s : KS} {h : Nat} (e : fullN k s.1 = some h) : cnt (packN B h s).1 + 1 ≤ cnt s.1 := by
  obtain ⟨h1, h2, _⟩ := fullN_some e
  have := room_ge (k := k) h1
  have := packS_cnt h1 (coinAt B s.2.2)
  show cnt (packS s.1 h (coinAt B s.2.2)) + 1 ≤ _
  omega
theorem packF_more (k : Nat) (B : List Int) : ∀ (f g : Nat) (s : KS), cnt s.1 ≤ f → f ≤ g → packF k B g s = packF k B f s
  | 0, g, s, h1, _ => by
    have e : fullN k s.1 = none := by
      cases e : fullN k s.1 with
      | none => rfl
      | some h => have := packN_cnt (B := B) e; omega
    cases g with
    | zero => rfl
    | succ g => simp only [packF, e]
  | f + 1, g, s, h1, h2 => by
    obtain ⟨g, rfl⟩ : ∃ g', g = g' + 1 := ⟨g - 1, by omega⟩
    simp only [packF]
    cases e : fullN k s.1 with
    | none => rfl
    | some h =>
      have := packN_cnt (B := B) e
      exact packF_more k B f g _ (by omega) (by omega)
theorem packA_none {k : Nat} {B : List Int} {s : KS} (e : fullN k s.1 = none) : packA k B s = s := by
  unfold packA
  cases h : cnt s.1 with
  | zero => rfl
  | succ f => simp only [packF, e]
theorem packA_some {k : Nat} {B : List Int} {s : KS} {h : Nat} (e : fullN k s.1 = some h) : packA k B s = packA k B (packN B h s) := by
  have h1 := packN_cnt (B := B) e
  have h2 : packA k B s = packF k B (cnt s.1 - 1) (packN B h s) := by
    unfold packA
    obtain ⟨f, hf⟩ : ∃ f, cnt s.1 = f + 1 := ⟨cnt s.1 - 1, by omega⟩
    rw [hf]
    simp only [packF, e]; rfl
  rw [h2]
  exact packF_more k B _ _ _ (Nat.le_refl _) (by omega)
/-- What each step keeps, packing keeps. -/
theorem packA_inv {k : Nat} {B : List Int} {P : KS → Prop} (step : ∀ s h, P s → fullN k s.1 = some h → P (packN B h s)) : ∀ (n : Nat) (s : KS), cnt s.1 ≤ n → P s → P (packA k B s) ∧ fullN k (packA k B s).1 = none
  | n, s, hn, hs => by
    cases e : fullN k s.1 with
    | none => rw [packA_none e]; exact ⟨hs, e⟩
    | some h =>
      have h1 := packN_cnt (B := B) e
      rw [packA_some e]
      match n, hn with
      | 0, hn => omega
      | n + 1, hn => exact packA_inv step n _ (by omega) (step s h hs e)
theorem packA_keep {k : Nat} {B : List Int} {P : KS → Prop} (step : ∀ s h, P s → fullN k s.1 = some h → P (packN B h s)) {s : KS} (hs : P s) : P (packA k B s) := (packA_inv step _ s (Nat.le_refl _) hs).1
theorem packA_done (k : Nat) (B : List Int) (s : KS) : fullN k (packA k B s).1 = none := (packA_inv (P := fun _ => True) (fun _ _ _ _ => trivial) _ s (Nat.le_refl _) trivial).2

/-! ### Adding -/
def putB : Nat → Nat → Nat → LL → Int → LL
  | 0, _, _, L, _ => L
  | f + 1, h, m, L, v => if m = 0 then L else putB f (h + 1) (m / 2) (if m % 2 = 1 then putL L h [v] else L) v
def addL (L : LL) (v : Int) (n : Nat) : LL := putB 64 0 n L v
theorem putB_zero : ∀ (f h : Nat) (L : LL) (v : Int), putB f h 0 L v = L
  | 0, _, _, _ => rfl
  | f + 1, _, _, _ => by rw [putB, if_pos rfl]
theorem putB_wt : ∀ (f h m : Nat) (L : LL) (v : Int), m < 2 ^ f → wt (putB f h m L v) = wt L + m * 2 ^ h
  | 0, h, m, L, v, hm => by
    obtain rfl : m = 0 := by omega
    simp [putB]
  | f + 1, h, m, L, v, hm => by
    rw [putB]
    by_cases h0 : m = 0
    · rw [if_pos h0, h0]; simp
    · rw [if_neg h0, putB_wt f (h + 1) (m / 2) _ v (by rw [Nat.pow_succ] at hm; omega)]
      have e : m * 2 ^ h = m % 2 * 2 ^ h + m / 2 * 2 ^ (h + 1) := by
        conv => lhs; rw [← Nat.mod_add_div m 2]
        rw [Nat.add_mul, Nat.pow_succ, Nat.mul_comm 2 (m / 2), Nat.mul_assoc, Nat.mul_comm 2]
      split
      · rename_i h1
        rw [wt_put, e, h1]
        simp only [List.length_singleton]; omega
      · have : m % 2 = 0 := by omega
        rw [e, this]; omega
theorem addL_wt {n : Nat} (L : LL) (v : Int) (hn : n < 18446744073709551616) : wt (addL L v n) = wt L + n := by
  unfold addL
  rw [putB_wt 64 0 n L v (by omega)]; simp
theorem putB_cnt : ∀ (f h m : Nat) (L : LL) (v : Int), cnt (putB f h m L v) ≤ cnt L + f
  | 0, h, m, L, v => Nat.le_refl _
  | f + 1, h, m, L, v => by
    rw [putB]
    split
    · omega
    · refine Nat.le_trans (putB_cnt f _ _ _ v) ?_
      split
      · rw [cnt_put]; simp only [List.length_singleton]; omega
      · omega
theorem addL_cnt (L : LL) (v : Int) (n : Nat) : cnt (addL L v n) ≤ cnt L + 64 := putB_cnt 64 0 n L v
theorem putB_keep {P : LL → Prop} {v : Int} (step : ∀ L h, P L → P (putL L h [v])) : ∀ (f h m : Nat) (L : LL), P L → P (putB f h m L v)
  | 0, _, _, _, hp => hp
  | f + 1, h, m, L, hp => by
    rw [putB]
    split
    · exact hp
    · refine putB_keep step f _ _ _ ?_
      split
      · exact step L h hp
      · exact hp
/-- At the top there is something. -/
def Top (L : LL) : Prop := 0 < L.length → lvl L (L.length - 1) ≠ []
theorem insL_ne {l vs : List Int} (h : vs ≠ [] ∨ l ≠ []) : insL l vs ≠ [] := by
  intro e
  have := congrArg List.length e
  rw [insL_length, List.length_nil] at this
  rcases h with h | h
  · exact h (List.eq_nil_of_length_eq_zero (by omega))
  · exact h (List.eq_nil_of_length_eq_zero (by omega))
theorem Top.put {L : LL} (ht : Top L) (h : Nat) {vs : List Int} (hv : vs ≠ []) : Top (putL L h vs) := by
  intro h0
  rw [putL_length, lvl_put]
  split
  · exact insL_ne (.inl hv)
  · rename_i hne
    have : max L.length (h + 1) = L.length := by omega
    rw [this]
    exact ht (by omega)
theorem Top.pack {L : LL} (ht : Top L) {h : Nat} (hh : h < L.length) (h2 : 2 ≤ (lvl L h).length) (c : Nat) : Top (packS L h c) := by
  intro h0
  rw [packS_length]
  unfold packS
  rw [lvl_put]
  split
  · refine insL_ne (.inl fun e => ?_)
    have := congrArg List.length e
    rw [upV_length, List.length_nil] at this
    omega
  · rename_i hne
    rw [lvl_set _ _ _ _ hh, if_neg (by omega), show max L.length (h + 2) = L.length by omega]
    exact ht (by omega)
theorem Top.add {L : LL} (ht : Top L) (v : Int) (n : Nat) : Top (addL L v n) := putB_keep (fun _ h hp => hp.put h (by simp)) 64 0 n L ht
theorem top_len {L : LL} (ht : Top L) (hw : wt L ≤ 281474976710656) : L.length ≤ 49 := by
  rcases Nat.eq_zero_or_pos L.length with h0 | h0
  · omega
  · have h1 := lvl_wt L 1 (L.length - 1)
    have h2 : 1 ≤ (lvl L (L.length - 1)).length := List.length_pos_iff.2 (ht h0)
    rcases Nat.lt_or_ge 49 L.length with h3 | h3
    · exfalso
      have h4 : 2 ^ 49 ≤ 2 ^ (L.length - 1) := Nat.pow_le_pow_right (by decide) (by omega)
      have h5 : 1 * (2 ^ (L.length - 1) * 1) ≤ (lvl L (L.length - 1)).length * (2 ^ (L.length - 1) * 1) := Nat.mul_le_mul_right _ h2
      unfold wt at hw
      omega
    · exact h3

/-! ### Taking -/
def takeN (M : LL) : Nat → LL → LL
  | 0, L => L
  | j + 1, L => putL (takeN M j L) j (lvl M j)
def takeL (L M : LL) : LL := takeN M M.length L
theorem takeN_wt (M L : LL) : ∀ j, j ≤ M.length → wt (takeN M j L) = wt L + wtF 1 (M.take j)
  | 0, _ => by simp [takeN, wtF]
  | j + 1, hj => by
    rw [takeN, wt_put, takeN_wt M L j (by omega), List.take_succ_eq_append_getElem (by omega), wtF_append, List.length_take, Nat.min_eq_left (by omega), lvl_at (by omega)]
    simp [wtF, Nat.add_assoc]
theorem takeL_wt (L M : LL) : wt (takeL L M) = wt L + wt M := by
  unfold takeL
  rw [takeN_wt M L M.length (Nat.le_refl _), List.take_length]; rfl
theorem takeN_cnt (M L : LL) : ∀ j, j ≤ M.length → cnt (takeN M j L) = cnt L + cnt (M.take j)
  | 0, _ => by simp [takeN, cnt]
  | j + 1, hj => by
    rw [takeN, cnt_put, takeN_cnt M L j (by omega), List.take_succ_eq_append_getElem (by omega), cnt_append, lvl_at (by omega)]
    simp [cnt, Nat.add_assoc]
theorem takeL_cnt (L M : LL) : cnt (takeL L M) = cnt L + cnt M := by
  unfold takeL
  rw [takeN_cnt M L M.length (Nat.le_refl _), List.take_length]
theorem takeN_length (M L : LL) : ∀ j, (takeN M j L).length = max L.length j
  | 0 => by simp [takeN]
  | j + 1 => by rw [takeN, putL_length, takeN_length M L j]; omega
theorem lvl_takeN (M L : LL) : ∀ j i, lvl (takeN M j L) i = if i < j then insL (lvl L i) (lvl M i) else lvl L i
  | 0, i => by simp [takeN]
  | j + 1, i => by
    rw [takeN, lvl_put, lvl_takeN M L j i, lvl_takeN M L j j]
    by_cases e : i = j
    · subst e; rw [if_pos rfl, if_neg (by omega), if_pos (by omega)]
    · rw [if_neg e]
      by_cases h : i < j
      · rw [if_pos h, if_pos (by omega)]
      · rw [if_neg h, if_neg (by omega)]
theorem Top.take {L M : LL} (hl : Top L) (hm : Top M) : Top (takeL L M) := by
  intro h0
  have e1 := takeN_length M L M.length
  unfold takeL at h0 ⊢
  rw [e1, lvl_takeN]
  rcases Nat.lt_or_ge (L.length - 1) M.length with h1 | h1
  · rcases Nat.eq_zero_or_pos M.length with h2 | h2
    · omega
    · rw [if_pos (by omega)]
      rcases Nat.lt_or_ge M.length L.length with h3 | h3
      · have : max L.length M.length - 1 = L.length - 1 := by omega
        rw [this]
        exact insL_ne (.inr (hl (by omega)))
      · have : max L.length M.length - 1 = M.length - 1 := by omega
        rw [this]
        exact insL_ne (.inl (hm h2))
  · have h3 : max L.length M.length - 1 = L.length - 1 := by omega
    rw [h3, if_neg (by omega)]
    exact hl (by omega)
end Go.Proofs.Ytigmncogjbbmhaa
