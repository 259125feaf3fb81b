/- How far the weights that are told may be off, plain. No program, no condition. -/
import Derived.Test.YtigmncogjbbmhaaKmD
namespace Go.Proofs.Ytigmncogjbbmhaa

/-- So of a value, so of each lesser one. -/
def Down (p : Int → Bool) : Prop := ∀ a b, a ≤ b → p b = true → p a = true
theorem cF_set (p : Int → Bool) : ∀ (L : LL) (w h : Nat) (_ : h < L.length) (l : List Int), cF p w (L.set h l) + (lvl L h).countP p * (2 ^ h * w) = cF p w L + l.countP p * (2 ^ h * w)
  | x :: L, w, 0, _, l => by
    rw [List.set_cons_zero, cF, cF]
    simp only [lvl, List.getD_cons_zero, Nat.pow_zero, Nat.one_mul]; omega
  | x :: L, w, h + 1, hh, l => by
    have := cF_set p L (2 * w) h (by simpa using hh) l
    rw [List.set_cons_succ, cF, cF, Nat.pow_succ, Nat.mul_assoc (2 ^ h) 2 w]
    simp only [lvl, List.getD_cons_succ] at this ⊢
    omega
theorem cF_rep (p : Int → Bool) : ∀ (n w : Nat), cF p w (List.replicate n []) = 0
  | 0, _ => rfl
  | n + 1, w => by rw [List.replicate_succ, cF, cF_rep p n]; simp
theorem cF_ext (p : Int → Bool) (L : LL) (h : Nat) : cF p 1 (ext L h) = cF p 1 L := by rw [ext, cF_append, cF_rep]; rfl
theorem cF_put (p : Int → Bool) (L : LL) (h : Nat) (vs : List Int) : cF p 1 (putL L h vs) = cF p 1 L + vs.countP p * 2 ^ h := by
  have h1 := cF_set p (ext L h) 1 h (by rw [ext_length]; omega) (insL (lvl L h) vs)
  rw [lvl_ext, (insL_perm vs (lvl L h)).countP_eq, List.countP_append, Nat.mul_one, Nat.add_mul, cF_ext] at h1
  unfold putL
  omega
/-- Of the first m, those below a bound at every other place. -/
theorem count_twos (m y c : Nat) (hy : y ≤ 1) : (List.range m).countP (fun i => decide (2 * i + y < c)) = min m ((c + 1 - y) / 2) := by
  induction m with
  | zero => simp
  | succ m ih =>
    rw [List.range_succ, List.countP_append, ih]
    by_cases h : 2 * m + y < c
    · rw [List.countP_cons_of_pos (by simpa using h), List.countP_nil]; omega
    · rw [List.countP_cons_of_neg (by simpa using h), List.countP_nil]; omega
theorem upV_count {p : Int → Bool} (hp : Down p) {l : List Int} (hs : Srt l) (y : Nat) (hy : y ≤ 1) : (upV l y).countP p = min (l.length / 2) ((l.countP p + 1 - y) / 2) := by
  unfold upV
  rw [List.countP_map, ← count_twos _ _ _ hy]
  refine List.countP_congr fun i hi => ?_
  have hi' := List.mem_range.1 hi
  have hlt : 2 * i + y < l.length := by omega
  have := srt_count hp hs hlt
  simp only [Function.comp_apply, decide_eq_true_eq]
  rw [List.getD, List.getElem?_eq_getElem hlt, Option.getD_some]
  exact this
theorem oddV_count {p : Int → Bool} (hp : Down p) {l : List Int} (hs : Srt l) : (oddV l).countP p = if l.length % 2 = 1 ∧ l.countP p = l.length then 1 else 0 := by
  unfold oddV
  have hc : l.countP p ≤ l.length := List.countP_le_length
  by_cases h : l.length % 2 = 1
  · have e : 2 * (l.length / 2) = l.length - 1 := by omega
    rw [e, List.drop_eq_getElem_cons (by omega), List.drop_eq_nil_of_le (by omega)]
    have := srt_count hp hs (j := l.length - 1) (by omega)
    by_cases h2 : l.countP p = l.length
    · rw [if_pos ⟨h, h2⟩, List.countP_cons_of_pos (this.2 (by omega)), List.countP_nil]
    · rw [if_neg (fun e => h2 e.2), List.countP_cons_of_neg (fun e => by have := this.1 e; omega), List.countP_nil]
  · rw [if_neg (fun e => h e.1), List.drop_eq_nil_of_le (by omega)]; rfl
theorem pack_count {p : Int → Bool} (hp : Down p) {l : List Int} (hs : Srt l) (y : Nat) (hy : y ≤ 1) : (oddV l).countP p + 2 * (upV l y).countP p ≤ l.countP p + 1 ∧ l.countP p ≤ (oddV l).countP p + 2 * (upV l y).countP p + 1 := by
  rw [upV_count hp hs y hy, oddV_count hp hs]
  have hc : l.countP p ≤ l.length := List.countP_le_length
  split
  · rename_i h; omega
  · rename_i h
    by_cases h1 : l.length % 2 = 1
    · have : l.countP p ≠ l.length := fun e => h ⟨h1, e⟩
      omega
    · omega
theorem cF_pack {p : Int → Bool} (hp : Down p) {L : LL} {h : Nat} (hh : h < L.length) (hs : Srt (lvl L h)) (y : Nat) (hy : y ≤ 1) : cF p 1 (packS L h y) ≤ cF p 1 L + 2 ^ h ∧ cF p 1 L ≤ cF p 1 (packS L h y) + 2 ^ h := by
  have h1 := cF_set p L 1 h hh (oddV (lvl L h))
  rw [Nat.mul_one] at h1
  obtain ⟨h2, h3⟩ := pack_count hp hs y hy
  unfold packS
  rw [cF_put, Nat.pow_succ]
  have e1 : (upV (lvl L h) y).countP p * (2 ^ h * 2) = (2 * (upV (lvl L h) y).countP p) * 2 ^ h := by rw [Nat.mul_comm (2 ^ h) 2, ← Nat.mul_assoc, Nat.mul_comm _ 2]
  rw [e1]
  have a1 := Nat.mul_le_mul_right (2 ^ h) h2
  have a2 := Nat.mul_le_mul_right (2 ^ h) h3
  rw [Nat.add_mul, Nat.add_mul, Nat.one_mul] at a1
  rw [Nat.add_mul, Nat.add_mul, Nat.one_mul] at a2
  omega
/-- What is told is off by at most the ledger. -/
structure Off (p : Int → Bool) (A : Nat) (s : KS) : Prop where
  up : cF p 1 s.1 ≤ A + s.2.1
  lo : A ≤ cF p 1 s.1 + s.2.1
theorem off_pack {p : Int → Bool} (hp : Down p) {k A : Nat} {B : List Int} (hA : A ≤ 4611686018427387904) {s : KS} (hok : PkOk s) (h : Off p A s) : Off p A (packA k B s) := by
  refine (packA_keep (k := k) (B := B) (P := fun s => PkOk s ∧ Off p A s) (fun s h hs e => ⟨hs.1.step e, ?_⟩) ⟨hok, h⟩).2
  obtain ⟨h1, _, _⟩ := fullN_some e
  obtain ⟨h2, h3⟩ := cF_pack hp h1 (hs.1.srt h) (coinAt B s.2.2) (coinAt_le B s.2.2)
  have hw := (hs.1.step (B := B) e).wt
  have hc := cF_le p 1 (packN B h s).1
  have hu := hs.2.up
  have hl := hs.2.lo
  have e1 : (packN B h s).2.1 = min (s.2.1 + 2 ^ h) 4611686018427387904 := rfl
  have e2 : (packN B h s).1 = packS s.1 h (coinAt B s.2.2) := rfl
  have e3 : wt (packN B h s).1 = wtF 1 (packN B h s).1 := rfl
  rw [e2] at hw hc e3
  refine ⟨?_, ?_⟩
  · rw [e1, e2]; omega
  · rw [e1, e2]; omega
theorem cF_putB (p : Int → Bool) : ∀ (f h m : Nat) (L : LL) (v : Int), m < 2 ^ f → cF p 1 (putB f h m L v) = cF p 1 L + if p v then m * 2 ^ h else 0
  | 0, h, m, L, v, hm => by
    obtain rfl : m = 0 := by omega
    simp [putB]
  | f + 1, h, m, L, v, hm => by
    rw [putB]
    by_cases h0 : m = 0
    · rw [if_pos h0, h0]; simp
    · rw [if_neg h0, cF_putB p f (h + 1) (m / 2) _ v (by rw [Nat.pow_succ] at hm; omega)]
      have e : m * 2 ^ h = m % 2 * 2 ^ h + m / 2 * 2 ^ (h + 1) := by
        conv => lhs; rw [← Nat.mod_add_div m 2]
        rw [Nat.add_mul, Nat.pow_succ, Nat.mul_comm 2 (m / 2), Nat.mul_assoc, Nat.mul_comm 2]
      by_cases h1 : m % 2 = 1
      · rw [if_pos h1, cF_put]
        by_cases hv : p v = true
        · rw [if_pos hv, if_pos hv, e, h1, List.countP_cons_of_pos hv, List.countP_nil]; omega
        · rw [if_neg hv, if_neg hv, List.countP_cons_of_neg hv, List.countP_nil]; omega
      · rw [if_neg h1]
        have h2 : m % 2 = 0 := by omega
        by_cases hv : p v = true
        · rw [if_pos hv, if_pos hv, e, h2]; omega
        · rw [if_neg hv, if_neg hv]
theorem cF_addL (p : Int → Bool) (L : LL) (v : Int) {n : Nat} (hn : n < 18446744073709551616) : cF p 1 (addL L v n) = cF p 1 L + if p v then n else 0 := by
  unfold addL
  rw [cF_putB p 64 0 n L v (by omega)]; simp
theorem cF_takeN (p : Int → Bool) (M L : LL) : ∀ j, j ≤ M.length → cF p 1 (takeN M j L) = cF p 1 L + cF p 1 (M.take j)
  | 0, _ => by simp [takeN, cF]
  | j + 1, hj => by
    rw [takeN, cF_put, cF_takeN p M L j (by omega), cF_take_succ p (by omega)]; omega
theorem cF_takeL (p : Int → Bool) (L M : LL) : cF p 1 (takeL L M) = cF p 1 L + cF p 1 M := by
  unfold takeL
  rw [cF_takeN p M L M.length (Nat.le_refl _), List.take_length]

/-! ### Which values there are -/
theorem mem_allV {L : LL} {x : Int} : x ∈ allV L ↔ ∃ h, x ∈ lvl L h := by
  unfold allV
  rw [List.mem_flatten]
  constructor
  · rintro ⟨l, hl, hx⟩
    obtain ⟨h, hh, rfl⟩ := List.getElem_of_mem hl
    exact ⟨h, by rw [lvl_at hh]; exact hx⟩
  · rintro ⟨h, hx⟩
    rcases Nat.lt_or_ge h L.length with hh | hh
    · exact ⟨L[h], List.getElem_mem hh, by rw [← lvl_at hh]; exact hx⟩
    · rw [lvl_of_ge hh] at hx; cases hx
theorem mem_put {L : LL} {h : Nat} {vs : List Int} {x : Int} (hx : x ∈ allV (putL L h vs)) : x ∈ allV L ∨ x ∈ vs := by
  obtain ⟨j, hj⟩ := mem_allV.1 hx
  rw [lvl_put] at hj
  split at hj
  · rcases insL_mem.1 hj with h1 | h1
    · exact .inl (mem_allV.2 ⟨_, h1⟩)
    · exact .inr h1
  · exact .inl (mem_allV.2 ⟨_, hj⟩)
theorem mem_pack {L : LL} {h y : Nat} {x : Int} (hh : h < L.length) (hy : y ≤ 1) (hx : x ∈ allV (packS L h y)) : x ∈ allV L := by
  unfold packS at hx
  rcases mem_put hx with h1 | h1
  · obtain ⟨j, hj⟩ := mem_allV.1 h1
    rw [lvl_set _ _ _ _ hh] at hj
    split at hj
    · exact mem_allV.2 ⟨h, List.mem_of_mem_drop hj⟩
    · exact mem_allV.2 ⟨j, hj⟩
  · unfold upV at h1
    obtain ⟨i, hi, rfl⟩ := List.mem_map.1 h1
    have hi' := List.mem_range.1 hi
    have hlt : 2 * i + y < (lvl L h).length := by omega
    rw [List.getD, List.getElem?_eq_getElem hlt, Option.getD_some]
    exact mem_allV.2 ⟨h, List.getElem_mem hlt⟩
theorem mem_packA {k : Nat} {B : List Int} {s : KS} {x : Int} (hx : x ∈ allV (packA k B s).1) : x ∈ allV s.1 := by
  have := packA_keep (k := k) (B := B) (P := fun t => ∀ x ∈ allV t.1, x ∈ allV s.1) (fun t h hs e => fun x hx => hs x (mem_pack (fullN_some e).1 (coinAt_le B t.2.2) hx)) (s := s) (fun x hx => hx)
  exact this x hx
theorem mem_putB : ∀ (f h m : Nat) (L : LL) (v : Int) {x : Int}, x ∈ allV (putB f h m L v) → x ∈ allV L ∨ x = v
  | 0, _, _, _, _, x, hx => .inl hx
  | f + 1, h, m, L, v, x, hx => by
    rw [putB] at hx
    split at hx
    · exact .inl hx
    · rcases mem_putB f _ _ _ v hx with h1 | h1
      · split at h1
        · rcases mem_put h1 with h2 | h2
          · exact .inl h2
          · exact .inr (by simpa using h2)
        · exact .inl h1
      · exact .inr h1
theorem mem_takeN (M L : LL) : ∀ j {x : Int}, x ∈ allV (takeN M j L) → x ∈ allV L ∨ x ∈ allV M
  | 0, _, hx => .inl hx
  | j + 1, x, hx => by
    rw [takeN] at hx
    rcases mem_put hx with h1 | h1
    · exact mem_takeN M L j h1
    · exact .inr (mem_allV.2 ⟨j, h1⟩)

/-! ### What was added -/
/-- The weight of the first i that are so. -/
def addC (p : Int → Bool) (l n : List Int) : Nat → Nat
  | 0 => 0
  | i + 1 => addC p l n i + if p (l.getD i 0) then wtI n i else 0
theorem addC_le (p : Int → Bool) (l n : List Int) : ∀ i, addC p l n i ≤ 1000 * i
  | 0 => Nat.le_refl _
  | i + 1 => by
    have := addC_le p l n i
    have := wtI_bd n i
    rw [addC]
    split <;> omega
theorem added_off {p : Int → Bool} (hp : Down p) {K : Nat} {B l n : List Int} (h8 : 8 ≤ K) (hk : K ≤ 4096) : ∀ i, i ≤ 120 → Off p (addC p l n i) (addedN K B l n i)
  | 0, _ => ⟨Nat.le_refl _, Nat.zero_le _⟩
  | i + 1, hi => by
    have ih := added_off (B := B) (l := l) (n := n) hp h8 hk i (by omega)
    obtain ⟨f1, f2, f3⟩ := addedN_ok (B := B) (l := l) (n := n) h8 hk i (by omega)
    have hw := wtI_bd n i
    have ha := addC_le p l n (i + 1)
    have hb := (addE_zero f3).2
    rw [addedN]
    unfold addS
    rw [if_pos f3]
    refine off_pack hp (by omega) (pkOk_add f1.pk _ _ hb (by have := f1.cnt (by omega) hk; omega)) ⟨?_, ?_⟩
    · show cF p 1 (addL _ _ _) ≤ _ + (addedN K B l n i).2.1
      rw [cF_addL p _ _ (by omega), addC]
      have := ih.up; omega
    · show _ ≤ cF p 1 (addL _ _ _) + (addedN K B l n i).2.1
      rw [cF_addL p _ _ (by omega), addC]
      have := ih.lo; omega
theorem added_mem {K : Nat} {B l n : List Int} : ∀ i, i ≤ l.length → ∀ x ∈ allV (addedN K B l n i).1, x ∈ l.take i
  | 0, _, x, hx => by simp [addedN, allV] at hx
  | i + 1, hi, x, hx => by
    rw [addedN] at hx
    unfold addS at hx
    have ht : l.take (i + 1) = l.take i ++ [l.getD i 0] := by rw [List.take_succ_eq_append_getElem hi, List.getD, List.getElem?_eq_getElem hi, Option.getD_some]
    rw [ht]
    split at hx
    · rcases mem_putB _ _ _ _ _ (mem_packA hx) with h1 | h1
      · exact List.mem_append_left _ (added_mem i (by omega) x h1)
      · exact List.mem_append_right _ (by simp [h1])
    · exact List.mem_append_left _ (added_mem i (by omega) x hx)

/-! ### The value of a rank -/
theorem atV_spec {L : LL} {r : Nat} (h1 : 1 ≤ r) (h2 : r ≤ wt L) : IsAt L r (atV L r) := by
  obtain ⟨S, hS⟩ : ∃ S, ((allV L).mergeSort fun x y => decide (x ≤ y)) = S := ⟨_, rfl⟩
  have hsr : Srt S := by rw [← hS]; exact sort_srt _
  have hpm : S.Perm (allV L) := by rw [← hS]; exact List.mergeSort_perm _ _
  have hne : 0 < S.length := by
    rcases Nat.eq_zero_or_pos S.length with h0 | h0
    · have h3 : allV L = [] := List.eq_nil_of_length_eq_zero (by rw [← hpm.length_eq]; exact h0)
      have h4 : wt L = 0 := wtF_pos 1 L h3
      omega
    · exact h0
  have htop : uptoL L (S[S.length - 1]'(by omega)) = wt L := uptoL_all fun x hx => by
    obtain ⟨i, hi, rfl⟩ := List.getElem_of_mem (hpm.mem_iff.2 hx)
    rcases Nat.eq_or_lt_of_le (show i ≤ S.length - 1 by omega) with h3 | h3
    · have e : i = S.length - 1 := h3
      subst e; exact Int.le_refl _
    · exact List.pairwise_iff_getElem.1 hsr i (S.length - 1) hi (by omega) h3
  have hs := minF_spec (fun x => decide (r ≤ uptoL L x)) (allV L) none (fun z hz => by cases hz)
  unfold atV
  cases e : minP (fun x => decide (r ≤ uptoL L x)) (allV L) with
  | none =>
    have h3 := (hs.2 e).2 _ (hpm.mem_iff.1 (List.getElem_mem (show S.length - 1 < S.length by omega)))
    simp only [decide_eq_false_iff_not, htop] at h3
    omega
  | some z =>
    obtain ⟨h3, h4, h5, _⟩ := hs.1 z e
    simp only [decide_eq_true_eq] at h3 h5
    refine ⟨?_, h3, h5⟩
    rcases h4 with h4 | h4
    · exact h4
    · cases h4
theorem countP_eq_of {p q : Int → Bool} {l : List Int} (h : ∀ x ∈ l, p x = q x) : l.countP p = l.countP q := List.countP_congr fun x hx => by rw [h x hx]
theorem cF_congr {p q : Int → Bool} : ∀ (w : Nat) (L : LL), (∀ x ∈ allV L, p x = q x) → cF p w L = cF q w L
  | w, [], _ => rfl
  | w, l :: L, h => by
    rw [cF, cF, cF_congr (2 * w) L fun x hx => h x (by unfold allV at *; rw [List.flatten_cons]; exact List.mem_append_right _ hx),
      countP_eq_of fun x hx => h x (by unfold allV; rw [List.flatten_cons]; exact List.mem_append_left _ hx)]
theorem cF_zero {p : Int → Bool} : ∀ (w : Nat) (L : LL), (∀ x ∈ allV L, p x = false) → cF p w L = 0
  | w, [], _ => rfl
  | w, l :: L, h => by
    rw [cF, cF_zero (2 * w) L fun x hx => h x (by unfold allV at *; rw [List.flatten_cons]; exact List.mem_append_right _ hx)]
    have : l.countP p = 0 := List.countP_eq_zero.2 fun x hx hp => by
      have := h x (by unfold allV; rw [List.flatten_cons]; exact List.mem_append_left _ hx)
      rw [this] at hp; cases hp
    rw [this]; simp
/-- The weight of what is less than the value of a rank is less than the rank. -/
theorem less_atV {L : LL} {r : Nat} (h1 : 1 ≤ r) (h2 : r ≤ wt L) : lessL L (atV L r) < r := by
  have hat := atV_spec h1 h2
  obtain ⟨y, hy⟩ : ∃ y, atV L r = y := ⟨_, rfl⟩
  rw [hy] at hat ⊢
  obtain ⟨S, hS⟩ : ∃ S, ((allV L).mergeSort fun x y => decide (x ≤ y)) = S := ⟨_, rfl⟩
  have hsr : Srt S := by rw [← hS]; exact sort_srt _
  have hpm : S.Perm (allV L) := by rw [← hS]; exact List.mergeSort_perm _ _
  have hcl : S.countP (fun x => decide (x < y)) ≤ S.length := List.countP_le_length
  obtain ⟨c, hc⟩ : ∃ c, S.countP (fun x => decide (x < y)) = c := ⟨_, rfl⟩
  rw [hc] at hcl
  have hlt : ∀ j (hj : j < S.length), (S[j] < y ↔ j < c) := fun j hj => by
    have := srt_count (lt_down y) hsr hj
    rw [hc] at this
    simpa using this
  rcases Nat.eq_zero_or_pos c with h0 | h0
  · have : lessL L y = 0 := cF_zero 1 L fun x hx => by
      obtain ⟨j, hj, rfl⟩ := List.getElem_of_mem (hpm.mem_iff.2 hx)
      have := hlt j hj
      simp only [decide_eq_false_iff_not]
      omega
    omega
  · obtain ⟨z, hz⟩ : ∃ z, S[c - 1]'(by omega) = z := ⟨_, rfl⟩
    have hzy : z < y := by rw [← hz]; exact (hlt (c - 1) (by omega)).2 (by omega)
    have e : lessL L y = uptoL L z := cF_congr 1 L fun x hx => by
      obtain ⟨j, hj, rfl⟩ := List.getElem_of_mem (hpm.mem_iff.2 hx)
      have h3 := hlt j hj
      refine decide_eq_decide.2 ⟨fun h4 => ?_, fun h4 => by omega⟩
      have h5 := h3.1 h4
      rcases Nat.eq_or_lt_of_le (show j ≤ c - 1 by omega) with h6 | h6
      · subst h6; omega
      · have := List.pairwise_iff_getElem.1 hsr j (c - 1) hj (by omega) h6
        omega
    rw [e]
    rcases Nat.lt_or_ge (uptoL L z) r with h3 | h3
    · exact h3
    · have := hat.least z (by rw [← hz]; exact hpm.mem_iff.1 (List.getElem_mem _)) h3
      omega
end Go.Proofs.Ytigmncogjbbmhaa
