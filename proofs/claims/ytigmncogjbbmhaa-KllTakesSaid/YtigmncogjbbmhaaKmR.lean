/- KllTakes: its plain laws. No condition. -/
import Derived.Test.YtigmncogjbbmhaaKmP
namespace Go.Proofs.Ytigmncogjbbmhaa

theorem wtI_nil (i : Nat) : wtI [] i = 1 := by unfold wtI; rw [if_neg (by simp)]
theorem addC_nil (p : Int → Bool) (l : List Int) : ∀ i, i ≤ l.length → addC p l [] i = (l.take i).countP p
  | 0, _ => by simp [addC]
  | i + 1, hi => by
    rw [addC, addC_nil p l i (by omega), wtI_nil, List.take_succ_eq_append_getElem hi, List.countP_append, List.getD, List.getElem?_eq_getElem hi, Option.getD_some]
    cases hp : p l[i] <;> simp [hp]
theorem sumW_nil : ∀ i, sumW [] i = i
  | 0 => rfl
  | i + 1 => by rw [sumW, sumW_nil i, wtI_nil]
/-- Packing adds little to the ledger, and takes nothing off it. -/
theorem pack_led {k : Nat} {B : List Int} {s : KS} (h : PkOk s) : (packA k B s).2.1 + cnt (packA k B s).1 * 281474976710656 ≤ s.2.1 + cnt s.1 * 281474976710656 ∧ s.2.1 ≤ (packA k B s).2.1 := by
  refine (packA_keep (k := k) (B := B) (P := fun t => PkOk t ∧ (t.2.1 + cnt t.1 * 281474976710656 ≤ s.2.1 + cnt s.1 * 281474976710656 ∧ s.2.1 ≤ t.2.1)) (fun t j ht e => ⟨ht.1.step e, ?_⟩) ⟨h, Nat.le_refl _, Nat.le_refl _⟩).2
  obtain ⟨h1, _, _⟩ := fullN_some e
  have h2 := packN_cnt (B := B) e
  have h3 := ht.1.len
  have h4 : 2 ^ j ≤ 281474976710656 := Nat.le_trans (Nat.pow_le_pow_right (by decide) (show j ≤ 48 by omega)) (by decide)
  have h5 : (packN B j t).2.1 = min (t.2.1 + 2 ^ j) 4611686018427387904 := rfl
  have h6 := ht.1.led
  have h9 := h.led
  have h7 : (cnt (packN B j t).1 + 1) * 281474976710656 ≤ cnt t.1 * 281474976710656 := Nat.mul_le_mul_right _ h2
  rw [h5]
  have h8 := ht.2
  obtain ⟨m, hm⟩ : ∃ m, 2 ^ j = m := ⟨_, rfl⟩
  rw [hm] at h4 ⊢
  clear h5
  rcases Nat.le_total (t.2.1 + m) 4611686018427387904 with h10 | h10
  · rw [Nat.min_eq_left h10]; omega
  · rw [Nat.min_eq_right h10]; omega
theorem added_led {K : Nat} {B l : List Int} (h8 : 8 ≤ K) (hk : K ≤ 4096) : ∀ i, i ≤ 120 → (addedN K B l [] i).2.1 + cnt (addedN K B l [] i).1 * 281474976710656 ≤ i * 281474976710656
  | 0, _ => by simp [addedN, cnt]
  | i + 1, hi => by
    have ih := added_led (B := B) (l := l) h8 hk i (by omega)
    obtain ⟨f1, f2, f3⟩ := addedN_ok (B := B) (l := l) (n := []) h8 hk i (by omega)
    have f4 : PkOk (addL (addedN K B l [] i).1 (l.getD i 0) (wtI [] i), (addedN K B l [] i).2.1, (addedN K B l [] i).2.2) := pkOk_add f1.pk _ _ (addE_zero f3).2 (by have := f1.cnt (by omega) hk; omega)
    rw [addedN]
    unfold addS
    rw [if_pos f3]
    rw [wtI_nil] at f4 ⊢
    obtain ⟨S, hS⟩ : ∃ S, addedN K B l [] i = S := ⟨_, rfl⟩
    rw [hS] at ih f4 ⊢
    clear hS f1 f2 f3
    obtain ⟨L, led, a⟩ := S
    have hp := (pack_led (k := K) (B := B) f4).1
    have hc : cnt (addL L (l.getD i 0) 1) = cnt L + 1 := by rw [addL_one, cnt_put]; rfl
    simp only at ih hp ⊢
    rw [hc] at hp
    omega
def cntAB (p : Int → Bool) (a b : List Int) (i : Nat) : Nat := (a.take (min i 120)).countP p + (b.take (i - 120)).countP p
theorem cntAB_le (p : Int → Bool) (a b : List Int) {i : Nat} (hi : i ≤ 240) : cntAB p a b i ≤ 240 := by
  unfold cntAB
  have h1 : (a.take (min i 120)).countP p ≤ (a.take (min i 120)).length := List.countP_le_length
  have h2 : (b.take (i - 120)).countP p ≤ (b.take (i - 120)).length := List.countP_le_length
  rw [List.length_take] at h1 h2
  omega
theorem cntAB_a (p : Int → Bool) {a b : List Int} {i : Nat} (h1 : i < 120) (h2 : i < a.length) : cntAB p a b (i + 1) = cntAB p a b i + if p a[i] then 1 else 0 := by
  unfold cntAB
  rw [show min (i + 1) 120 = i + 1 by omega, show min i 120 = i by omega, show i + 1 - 120 = 0 by omega, show i - 120 = 0 by omega, List.take_succ_eq_append_getElem h2, List.countP_append]
  cases hp : p a[i] <;> simp [hp] <;> omega
theorem cntAB_b (p : Int → Bool) {a b : List Int} {i : Nat} (h1 : 120 ≤ i) (h2 : i - 120 < b.length) : cntAB p a b (i + 1) = cntAB p a b i + if p b[i - 120] then 1 else 0 := by
  unfold cntAB
  rw [show min (i + 1) 120 = 120 by omega, show min i 120 = 120 by omega, show i + 1 - 120 = (i - 120) + 1 by omega, List.take_succ_eq_append_getElem h2, List.countP_append]
  cases hp : p b[i - 120] <;> simp [hp] <;> omega
theorem cntAB_no (p : Int → Bool) {a b : List Int} {i : Nat} (h : (i < 120 ∧ a.length ≤ i) ∨ (120 ≤ i ∧ b.length ≤ i - 120)) : cntAB p a b (i + 1) = cntAB p a b i := by
  unfold cntAB
  rcases h with ⟨h1, h2⟩ | ⟨h1, h2⟩
  · rw [List.take_of_length_le (i := min (i + 1) 120) (by omega), List.take_of_length_le (i := min i 120) (by omega), show i + 1 - 120 = 0 by omega, show i - 120 = 0 by omega]
  · rw [List.take_of_length_le (i := i + 1 - 120) (by omega), List.take_of_length_le (i := i - 120) (by omega), show min (i + 1) 120 = 120 by omega, show min i 120 = 120 by omega]
theorem cntAB_end (p : Int → Bool) (a b : List Int) : cntAB p a b 240 = addC p a [] (min a.length 120) + addC p b [] (min b.length 120) := by
  rw [addC_nil p a _ (by omega), addC_nil p b _ (by omega)]
  unfold cntAB
  have e : ∀ l : List Int, l.take (min l.length 120) = l.take 120 := fun l => by
    rcases Nat.le_total l.length 120 with h | h
    · rw [Nat.min_eq_left h, List.take_length, List.take_of_length_le h]
    · rw [Nat.min_eq_right h]
  rw [e, e]
  rfl
/-- Of two stacks that were taken together. -/
theorem take_facts {K : Nat} {B a b : List Int} (h8 : 8 ≤ K) (hk : K ≤ 4096) (s t r : KS) (hs : addedS K B a [] = s) (ht : addedS K [] b [] = t) (hr : takeS K B (t.1, t.2.1) (s.1, s.2.1, 0) = r) :
    takeE s.1 t.1 = 0 ∧ wt r.1 = min a.length 120 + min b.length 120 ∧ s.2.1 + t.2.1 ≤ r.2.1 ∧ s.2.1 + t.2.1 ≤ 4611686018427387904 ∧ ∀ p, Down p → Off p (cntAB p a b 240) r := by
  have w1 : wt s.1 = min a.length 120 := by rw [← hs]; show wt (addedN _ _ _ _ _).1 = _; rw [addedN_wt h8 hk _ (by omega), sumW_nil]
  have w2 : wt t.1 = min b.length 120 := by rw [← ht]; show wt (addedN _ _ _ _ _).1 = _; rw [addedN_wt h8 hk _ (by omega), sumW_nil]
  have l1 : s.2.1 ≤ 120 * 281474976710656 := by
    have := added_led (B := B) (l := a) h8 hk (min a.length 120) (by omega)
    rw [← hs]; show (addedN _ _ _ _ _).2.1 ≤ _
    have := Nat.mul_le_mul_right 281474976710656 (show min a.length 120 ≤ 120 by omega)
    omega
  have l2 : t.2.1 ≤ 120 * 281474976710656 := by
    have := added_led (B := []) (l := b) h8 hk (min b.length 120) (by omega)
    rw [← ht]; show (addedN _ _ _ _ _).2.1 ≤ _
    have := Nat.mul_le_mul_right 281474976710656 (show min b.length 120 ≤ 120 by omega)
    omega
  have e0 : takeE s.1 t.1 = 0 := by unfold takeE; rw [if_neg (by omega)]
  have f1 := (addedN_ok (B := B) (l := a) (n := []) h8 hk (min a.length 120) (by omega)).1
  have f2 := (addedN_ok (B := []) (l := b) (n := []) h8 hk (min b.length 120) (by omega)).1
  have f1' : Fit K s.1 s.2.1 := by rw [← hs]; exact f1
  have f2' : Fit K t.1 t.2.1 := by rw [← ht]; exact f2
  have c1 := f1'.cnt (by omega) hk
  have c2 := f2'.cnt (by omega) hk
  have hpk : PkOk (takeL s.1 t.1, min (s.2.1 + t.2.1) 4611686018427387904, 0) := pkOk_take f1'.pk (f2'.pk (a := 0)) (by omega) (by omega)
  have e1 : r = packA K B (takeL s.1 t.1, min (s.2.1 + t.2.1) 4611686018427387904, 0) := by rw [← hr]; unfold takeS; rw [if_pos e0]
  have hled := (pack_led (k := K) (B := B) hpk).2
  rw [← e1] at hled
  refine ⟨e0, ?_, ?_, by omega, fun p hp => ?_⟩
  · rw [e1, packA_wt, takeL_wt, w1, w2]
  · refine Nat.le_trans ?_ hled
    show _ ≤ min _ _
    omega
  · rw [e1]
    have o1 := added_off (B := B) (l := a) (n := []) hp h8 hk (min a.length 120) (by omega)
    have o2 := added_off (B := []) (l := b) (n := []) hp h8 hk (min b.length 120) (by omega)
    have o1' : Off p (addC p a [] (min a.length 120)) s := by rw [← hs]; exact o1
    have o2' : Off p (addC p b [] (min b.length 120)) t := by rw [← ht]; exact o2
    have hb := cntAB_le p a b (Nat.le_refl 240)
    refine off_pack hp (by omega) hpk ⟨?_, ?_⟩
    · show cF p 1 (takeL s.1 t.1) ≤ _ + min _ _
      rw [cF_takeL, cntAB_end]
      have := o1'.up; have := o2'.up
      omega
    · show _ ≤ cF p 1 (takeL s.1 t.1) + min _ _
      rw [cF_takeL, cntAB_end]
      have := o1'.lo; have := o2'.lo
      omega
end Go.Proofs.Ytigmncogjbbmhaa
