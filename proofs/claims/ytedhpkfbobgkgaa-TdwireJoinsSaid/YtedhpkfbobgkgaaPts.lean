/- The points of a digest, and what it answers, in plain Lean: at a spot, up to a value; both rise. No program, no condition. -/
import Derived.Test.YtedhpkfbobgkgaaDigP
namespace Go.Proofs.Ytedhpkfbobgkgaa

/-- Points: a number, and where it stands. -/
abbrev Pt := Int × Int
def ptsL (hi n : Int) : List Mn → Int → List Pt
  | [], _ => [(hi, 2 * n)]
  | m :: l, done => (m.1, 2 * done + m.2) :: ptsL hi n l (done + m.2)
def pts (lo hi : Int) (P : List Mn) : List Pt := (lo, 0) :: ptsL hi (tot P) P 0
def walkA (hi s : Int) : Pt → List Pt → Int
  | _, [] => hi
  | a, b :: r => if s < b.2 then lerpI a.1 b.1 (s - a.2) (b.2 - a.2) else walkA hi s b r
def walkU (n v : Int) : Pt → List Pt → Int
  | _, [] => n
  | a, b :: r => if v < b.1 then (a.2 + (b.2 - a.2) * (v - a.1) / (b.1 - a.1)) / 2 else walkU n v b r
/-- What stands at a spot. -/
def atI (lo hi : Int) (P : List Mn) (s : Int) : Int := walkA hi s (lo, 0) (ptsL hi (tot P) P 0)
/-- How much is up to a value. -/
def uptoI (lo hi : Int) (P : List Mn) (v : Int) : Int := if tot P = 0 ∨ v < lo then 0 else if hi ≤ v then tot P else walkU (tot P) v (lo, 0) (ptsL hi (tot P) P 0)

/-- The numbers rise, the places rise strictly. -/
def RiseP : Pt → List Pt → Prop
  | _, [] => True
  | a, b :: r => a.1 ≤ b.1 ∧ a.2 < b.2 ∧ RiseP b r
/-- The last number. -/
def lastP : Pt → List Pt → Pt
  | a, [] => a
  | _, b :: r => lastP b r
theorem RiseP.last : ∀ {r : List Pt} {a : Pt}, RiseP a r → a.1 ≤ (lastP a r).1 ∧ a.2 ≤ (lastP a r).2
  | [], a, _ => ⟨Int.le_refl _, Int.le_refl _⟩
  | b :: r, a, h => by
    have := RiseP.last h.2.2
    obtain ⟨h1, h2, _⟩ := h
    simp only [lastP]
    omega
theorem lerpI_mono {l h x x' y : Int} (hlh : l ≤ h) (hx : x ≤ x') (y0 : 0 < y) : lerpI l h x y ≤ lerpI l h x' y := by
  unfold lerpI
  have h1 : (h - l) * x ≤ (h - l) * x' := Int.mul_le_mul_of_nonneg_left hx (by omega)
  have h2 : (h - l) * x / y ≤ (h - l) * x' / y := Int.ediv_le_ediv y0 h1
  omega
theorem lerpI_zero (l h y : Int) : lerpI l h 0 y = l := by unfold lerpI; simp
theorem walkA_bd {s : Int} : ∀ {r : List Pt} {a : Pt}, RiseP a r → a.2 ≤ s → a.1 ≤ walkA (lastP a r).1 s a r ∧ walkA (lastP a r).1 s a r ≤ (lastP a r).1
  | [], a, _, _ => ⟨Int.le_refl _, Int.le_refl _⟩
  | b :: r, a, h, hs => by
    obtain ⟨h1, h2, h3⟩ := h
    have hl := h3.last
    simp only [walkA, lastP]
    split
    · have := lerpI_bd h1 (x := s - a.2) (y := b.2 - a.2) (by omega) (by omega) (by omega)
      omega
    · have := walkA_bd (s := s) h3 (by omega)
      omega
theorem walkA_mono {s t : Int} (hst : s ≤ t) : ∀ {r : List Pt} {a : Pt}, RiseP a r → a.2 ≤ s → walkA (lastP a r).1 s a r ≤ walkA (lastP a r).1 t a r
  | [], a, _, _ => Int.le_refl _
  | b :: r, a, h, hs => by
    obtain ⟨h1, h2, h3⟩ := h
    simp only [walkA, lastP]
    by_cases hs1 : s < b.2
    · rw [if_pos hs1]
      by_cases ht1 : t < b.2
      · rw [if_pos ht1]
        exact lerpI_mono h1 (by omega) (by omega)
      · rw [if_neg ht1]
        have i1 := lerpI_bd h1 (x := s - a.2) (y := b.2 - a.2) (by omega) (by omega) (by omega)
        have i2 := walkA_bd (s := t) h3 (by omega)
        omega
    · rw [if_neg hs1, if_neg (by omega)]
      exact walkA_mono hst h3 (by omega)
theorem part_bd {p q x y : Int} (hp : 0 ≤ p) (x0 : 0 ≤ x) (xy : x ≤ y) (y0 : 0 < y) (hq : q = p * x / y) : 0 ≤ q ∧ q ≤ p := by
  subst hq
  refine ⟨Int.ediv_nonneg (Int.mul_nonneg hp x0) (by omega), Int.ediv_le_of_le_mul y0 (Int.mul_le_mul_of_nonneg_left xy hp)⟩
theorem walkU_bd {n v : Int} : ∀ {r : List Pt} {a : Pt}, RiseP a r → a.1 ≤ v → (lastP a r).2 = 2 * n → a.2 / 2 ≤ walkU n v a r ∧ walkU n v a r ≤ n
  | [], a, _, _, hn => by simp only [lastP] at hn; simp only [walkU]; omega
  | b :: r, a, h, hs, hn => by
    obtain ⟨h1, h2, h3⟩ := h
    have hl := h3.last
    simp only [lastP] at hn
    simp only [walkU]
    split
    · obtain ⟨q, hq⟩ : ∃ q, q = (b.2 - a.2) * (v - a.1) / (b.1 - a.1) := ⟨_, rfl⟩
      have := part_bd (p := b.2 - a.2) (x := v - a.1) (y := b.1 - a.1) (by omega) (by omega) (by omega) (by omega) hq
      rw [← hq]
      omega
    · have := walkU_bd (n := n) (v := v) h3 (by omega) hn
      omega
theorem walkU_mono {n v u : Int} (hvu : v ≤ u) : ∀ {r : List Pt} {a : Pt}, RiseP a r → a.1 ≤ v → (lastP a r).2 = 2 * n → walkU n v a r ≤ walkU n u a r
  | [], a, _, _, _ => Int.le_refl _
  | b :: r, a, h, hs, hn => by
    obtain ⟨h1, h2, h3⟩ := h
    simp only [lastP] at hn
    simp only [walkU]
    by_cases hs1 : v < b.1
    · rw [if_pos hs1]
      by_cases ht1 : u < b.1
      · rw [if_pos ht1]
        have i1 : (b.2 - a.2) * (v - a.1) ≤ (b.2 - a.2) * (u - a.1) := Int.mul_le_mul_of_nonneg_left (by omega) (by omega)
        have i2 := Int.ediv_le_ediv (show 0 < b.1 - a.1 by omega) i1
        omega
      · rw [if_neg ht1]
        obtain ⟨q, hq⟩ : ∃ q, q = (b.2 - a.2) * (v - a.1) / (b.1 - a.1) := ⟨_, rfl⟩
        have i1 := part_bd (p := b.2 - a.2) (x := v - a.1) (y := b.1 - a.1) (by omega) (by omega) (by omega) (by omega) hq
        have i2 := walkU_bd (n := n) (v := u) h3 (by omega) hn
        rw [← hq]
        omega
    · rw [if_neg hs1, if_neg (by omega)]
      exact walkU_mono hvu h3 (by omega) hn

theorem ptsL_rise (hi : Int) : ∀ (l : List Mn) (done n v at_ : Int), n = done + tot l → okL l → Rises l → (∀ m ∈ l, v ≤ m.1 ∧ m.1 ≤ hi) → v ≤ hi → (l = [] → at_ < 2 * n) → at_ ≤ 2 * done → RiseP (v, at_) (ptsL hi n l done) ∧ lastP (v, at_) (ptsL hi n l done) = (hi, 2 * n)
  | [], done, n, v, at_, hn, _, _, _, hv, h1, _ => by
    simp only [ptsL, RiseP, lastP]
    simp only [and_true]
    exact ⟨hv, h1 rfl⟩
  | m :: l, done, n, v, at_, hn, ho, hr, hb, hv, h1, h2 => by
    have hm := hb m (List.mem_cons_self ..)
    have hm2 := (ho m (List.mem_cons_self ..)).2.2
    have hp := List.pairwise_cons.1 hr
    have ht := ho.tail.tot_nonneg
    simp only [tot] at hn
    have ih := ptsL_rise hi l (done + m.2) n m.1 (2 * done + m.2) (by omega) ho.tail hp.2 (fun x hx => ⟨hp.1 x hx, (hb x (List.mem_cons_of_mem _ hx)).2⟩) hm.2 (fun h => by subst h; simp only [tot] at hn; omega) (by omega)
    simp only [ptsL, RiseP, lastP]
    exact ⟨⟨hm.1, by omega, ih.1⟩, ih.2⟩
/-- Of a digest that isn't empty. -/
theorem pts_rise {lo hi : Int} {P : List Mn} (ho : okL P) (hr : Rises P) (hb : ∀ m ∈ P, lo ≤ m.1 ∧ m.1 ≤ hi) (hne : P ≠ []) : RiseP (lo, 0) (ptsL hi (tot P) P 0) ∧ lastP (lo, 0) (ptsL hi (tot P) P 0) = (hi, 2 * tot P) := by
  match P, hne with
  | m :: l, _ =>
    have := hb m (List.mem_cons_self ..)
    exact ptsL_rise hi (m :: l) 0 _ lo 0 (by omega) ho hr hb (by omega) (fun h => by cases h) (by omega)

section
variable {lo hi : Int} {P : List Mn}
theorem atI_bd (ho : okL P) (hr : Rises P) (hb : ∀ m ∈ P, lo ≤ m.1 ∧ m.1 ≤ hi) (hne : P ≠ []) {s : Int} (hs : 0 ≤ s) : lo ≤ atI lo hi P s ∧ atI lo hi P s ≤ hi := by
  obtain ⟨h1, h2⟩ := pts_rise ho hr hb hne
  have := walkA_bd (s := s) h1 hs
  rw [h2] at this
  exact this
theorem atI_mono (ho : okL P) (hr : Rises P) (hb : ∀ m ∈ P, lo ≤ m.1 ∧ m.1 ≤ hi) (hne : P ≠ []) {s t : Int} (hs : 0 ≤ s) (hst : s ≤ t) : atI lo hi P s ≤ atI lo hi P t := by
  obtain ⟨h1, h2⟩ := pts_rise ho hr hb hne
  have := walkA_mono hst h1 hs
  rw [h2] at this
  exact this
theorem atI_zero (ho : okL P) (hne : P ≠ []) : atI lo hi P 0 = lo := by
  match P, hne with
  | m :: l, _ =>
    have hm := (ho m (List.mem_cons_self ..)).2.2
    unfold atI
    simp only [ptsL, walkA]
    rw [if_pos (by omega), Int.sub_self, lerpI_zero]
theorem walkA_far (hi : Int) {s : Int} : ∀ {r : List Pt} {a : Pt}, RiseP a r → (lastP a r).2 ≤ s → walkA hi s a r = hi
  | [], a, _, _ => rfl
  | b :: r, a, h, hs => by
    obtain ⟨h1, h2, h3⟩ := h
    have hl := h3.last
    simp only [lastP] at hs
    simp only [walkA]
    rw [if_neg (by omega)]
    exact walkA_far hi h3 hs
theorem atI_far (ho : okL P) (hr : Rises P) (hb : ∀ m ∈ P, lo ≤ m.1 ∧ m.1 ≤ hi) (hne : P ≠ []) {s : Int} (hs : 2 * tot P ≤ s) : atI lo hi P s = hi := by
  obtain ⟨h1, h2⟩ := pts_rise ho hr hb hne
  exact walkA_far hi h1 (by rw [h2]; exact hs)
theorem uptoI_bd (ho : okL P) (hr : Rises P) (hb : ∀ m ∈ P, lo ≤ m.1 ∧ m.1 ≤ hi) (hne : P ≠ []) (v : Int) : 0 ≤ uptoI lo hi P v ∧ uptoI lo hi P v ≤ tot P := by
  obtain ⟨h1, h2⟩ := pts_rise ho hr hb hne
  have h0 := ho.tot_nonneg
  unfold uptoI
  split
  · omega
  · split
    · omega
    · have := walkU_bd (n := tot P) (v := v) h1 (by simp only; omega) (by rw [h2])
      simp only at this
      omega
theorem uptoI_mono (ho : okL P) (hr : Rises P) (hb : ∀ m ∈ P, lo ≤ m.1 ∧ m.1 ≤ hi) (hne : P ≠ []) {v u : Int} (hvu : v ≤ u) : uptoI lo hi P v ≤ uptoI lo hi P u := by
  obtain ⟨h1, h2⟩ := pts_rise ho hr hb hne
  by_cases h : tot P = 0 ∨ v < lo
  · have := uptoI_bd ho hr hb hne u
    have e : uptoI lo hi P v = 0 := by unfold uptoI; rw [if_pos h]
    omega
  · by_cases h3 : hi ≤ u
    · have := uptoI_bd ho hr hb hne v
      have e : uptoI lo hi P u = tot P := by unfold uptoI; rw [if_neg (by omega), if_pos h3]
      omega
    · unfold uptoI
      rw [if_neg h, if_neg (by omega), if_neg (by omega), if_neg h3]
      exact walkU_mono hvu h1 (by simp only; omega) (by rw [h2])
end

/-! ### By the number of the first point behind -/
theorem walkA_at (hi s : Int) : ∀ (r : List Pt) (a : Pt) (i : Nat) (h : i < (a :: r).length), 0 < i → (∀ j (hj : j < (a :: r).length), 0 < j → j < i → (a :: r)[j].2 ≤ s) → s < (a :: r)[i].2 →
    walkA hi s a r = lerpI (a :: r)[i - 1].1 (a :: r)[i].1 (s - (a :: r)[i - 1].2) ((a :: r)[i].2 - (a :: r)[i - 1].2)
  | [], a, i, h, h0, _, _ => by simp at h; omega
  | b :: r, a, 1, h, h0, h1, h2 => by
    simp only [List.getElem_cons_succ, List.getElem_cons_zero] at h2 ⊢
    simp only [walkA]
    rw [if_pos h2]
    rfl
  | b :: r, a, i + 2, h, h0, h1, h2 => by
    have h3 := h1 1 (by simp) (by omega) (by omega)
    simp only [List.getElem_cons_succ, List.getElem_cons_zero] at h3
    simp only [walkA]
    rw [if_neg (by omega)]
    have := walkA_at hi s r b (i + 1) (by simpa using h) (by omega) (fun j hj j0 hji => by
      have := h1 (j + 1) (by simpa using hj) (by omega) (by omega)
      simpa using this) (by simpa using h2)
    rw [this]
    rfl
theorem walkA_none (hi s : Int) : ∀ (r : List Pt) (a : Pt), (∀ j (hj : j < (a :: r).length), 0 < j → (a :: r)[j].2 ≤ s) → walkA hi s a r = hi
  | [], a, _ => rfl
  | b :: r, a, h1 => by
    have h3 := h1 1 (by simp) (by omega)
    simp only [List.getElem_cons_succ, List.getElem_cons_zero] at h3
    simp only [walkA]
    rw [if_neg (by omega)]
    exact walkA_none hi s r b fun j hj j0 => by
      have := h1 (j + 1) (by simpa using hj) (by omega)
      simpa using this
theorem walkU_at (n v : Int) : ∀ (r : List Pt) (a : Pt) (i : Nat) (h : i < (a :: r).length), 0 < i → (∀ j (hj : j < (a :: r).length), 0 < j → j < i → (a :: r)[j].1 ≤ v) → v < (a :: r)[i].1 →
    walkU n v a r = ((a :: r)[i - 1].2 + ((a :: r)[i].2 - (a :: r)[i - 1].2) * (v - (a :: r)[i - 1].1) / ((a :: r)[i].1 - (a :: r)[i - 1].1)) / 2
  | [], a, i, h, h0, _, _ => by simp at h; omega
  | b :: r, a, 1, h, h0, h1, h2 => by
    simp only [List.getElem_cons_succ, List.getElem_cons_zero] at h2 ⊢
    simp only [walkU]
    rw [if_pos h2]
    rfl
  | b :: r, a, i + 2, h, h0, h1, h2 => by
    have h3 := h1 1 (by simp) (by omega) (by omega)
    simp only [List.getElem_cons_succ, List.getElem_cons_zero] at h3
    simp only [walkU]
    rw [if_neg (by omega)]
    have := walkU_at n v r b (i + 1) (by simpa using h) (by omega) (fun j hj j0 hji => by
      have := h1 (j + 1) (by simpa using hj) (by omega) (by omega)
      simpa using this) (by simpa using h2)
    rw [this]
    rfl

/-- Pointwise: the numbers rise, the places, too. -/
theorem RiseP.get : ∀ {r : List Pt} {a : Pt}, RiseP a r → ∀ i j (hi : i < (a :: r).length) (hj : j < (a :: r).length), i < j → (a :: r)[i].1 ≤ (a :: r)[j].1 ∧ (a :: r)[i].2 < (a :: r)[j].2
  | [], a, _, i, j, hi, hj, h => by simp at hi hj; omega
  | b :: r, a, h, i, 0, hi, hj, hij => by omega
  | b :: r, a, h, 0, j + 1, hi, hj, hij => by
    obtain ⟨h1, h2, h3⟩ := h
    simp only [List.getElem_cons_succ, List.getElem_cons_zero]
    rcases Nat.eq_zero_or_pos j with rfl | hj0
    · simp only [List.getElem_cons_zero]; exact ⟨h1, h2⟩
    · have := RiseP.get h3 0 j (by simp) (by simpa using hj) hj0
      simp only [List.getElem_cons_zero] at this
      omega
  | b :: r, a, h, i + 1, j + 1, hi, hj, hij => by
    obtain ⟨h1, h2, h3⟩ := h
    have := RiseP.get h3 i j (by simpa using hi) (by simpa using hj) (by omega)
    simpa using this
theorem lastP_get : ∀ (r : List Pt) (a : Pt), (a :: r)[(a :: r).length - 1]'(by simp) = lastP a r
  | [], a => rfl
  | b :: r, a => by
    have := lastP_get r b
    simp only [List.length_cons, Nat.add_sub_cancel, lastP] at this ⊢
    rw [← this]
    rfl
/-- Parts of a whole: a greater part stands no nearer to the beginning. -/
theorem spot_le {n a b c e : Int} (n0 : 0 ≤ n) (b0 : 0 < b) (e0 : 0 < e) (h : a * e ≤ c * b) : 2 * n * a / b ≤ 2 * n * c / e := by
  have hq := Int.ediv_mul_le (2 * n * a) (show b ≠ 0 by omega)
  generalize 2 * n * a / b = q at *
  rw [Int.le_ediv_iff_mul_le e0]
  have h1 : q * b * e ≤ 2 * n * a * e := Int.mul_le_mul_of_nonneg_right hq (by omega)
  have h2 : 2 * n * (a * e) ≤ 2 * n * (c * b) := Int.mul_le_mul_of_nonneg_left h (by omega)
  have h3 : (q * e) * b ≤ (2 * n * c) * b := by
    have e1 : q * e * b = q * b * e := by rw [Int.mul_assoc, Int.mul_comm e b, ← Int.mul_assoc]
    have e2 : 2 * n * a * e = 2 * n * (a * e) := by rw [Int.mul_assoc]
    have e3 : 2 * n * c * b = 2 * n * (c * b) := by rw [Int.mul_assoc]
    omega
  exact Int.le_of_mul_le_mul_right h3 b0
/-- As few values as a mean each has: nothing is put together. -/
theorem may_few {n done : Int} (n0 : 0 < n) (n1 : n ≤ 9) (d0 : 0 ≤ done) (d1 : done + 2 ≤ n) : mayI 40 n done 2 = false := by
  unfold mayI
  have : ¬ (2 * 40 * n ≤ (2 * done + 2) * (2 * n - 2 * done - 2)) := by
    have h1 : n = 2 ∨ n = 3 ∨ n = 4 ∨ n = 5 ∨ n = 6 ∨ n = 7 ∨ n = 8 ∨ n = 9 := by omega
    have h2 : done = 0 ∨ done = 1 ∨ done = 2 ∨ done = 3 ∨ done = 4 ∨ done = 5 ∨ done = 6 ∨ done = 7 := by omega
    rcases h1 with rfl | rfl | rfl | rfl | rfl | rfl | rfl | rfl <;> rcases h2 with rfl | rfl | rfl | rfl | rfl | rfl | rfl | rfl <;> omega
  simpa using this
theorem pressL_few {n : Int} (n1 : n ≤ 9) : ∀ (l : List Mn) (done : Int) (now : Mn), 0 ≤ done → now.2 = 1 → (∀ m ∈ l, m.2 = 1) → n = done + 1 + tot l → pressL 40 n l done now = now :: l
  | [], _, _, _, _, _, _ => rfl
  | m :: l, done, now, d0, h1, h2, hn => by
    have hm := h2 m (List.mem_cons_self ..)
    have ht : ∀ k : List Mn, (∀ m ∈ k, m.2 = 1) → 0 ≤ tot k := fun k => by
      induction k with
      | nil => intro _; simp [tot]
      | cons x k ih => intro h; have := ih (fun m hm => h m (List.mem_cons_of_mem _ hm)); have := h x (List.mem_cons_self ..); simp only [tot]; omega
    have h3 := ht l (fun m hm => h2 m (List.mem_cons_of_mem _ hm))
    simp only [tot] at hn
    have hmf : mayI 40 n done (now.2 + m.2) = false := by
      rw [h1, hm]; exact may_few (by omega) n1 d0 (by omega)
    unfold pressL
    rw [if_neg (by rw [hmf]; simp), pressL_few n1 l (done + now.2) m (by omega) hm (fun x hx => h2 x (List.mem_cons_of_mem _ hx)) (by omega)]
theorem tot_ones : ∀ l : List Mn, (∀ m ∈ l, m.2 = 1) → tot l = l.length
  | [], _ => rfl
  | m :: l, h => by
    have := tot_ones l (fun x hx => h x (List.mem_cons_of_mem _ hx))
    have := h m (List.mem_cons_self ..)
    simp only [tot, List.length_cons]
    omega
theorem prs_few {l : List Mn} (h : ∀ m ∈ l, m.2 = 1) (hl : l.length ≤ 9) : prs 40 l = srt l := by
  have h1 : ∀ m ∈ srt l, m.2 = 1 := fun m hm => h m ((mem_srt l m).1 hm)
  have h2 := tot_ones _ h1
  have h3 := srt_length l
  have h4 := tot_srt l
  unfold prs
  cases hs : srt l with
  | nil => rfl
  | cons m s =>
    rw [hs] at h1 h2 h3 h4
    have hm := h1 m (List.mem_cons_self ..)
    simp only [tot] at h2 h4
    simp only [List.length_cons] at h2 h3
    simp only [press]
    exact pressL_few (by omega) s 0 m (by omega) hm (fun x hx => h1 x (List.mem_cons_of_mem _ hx)) (by omega)
/-- At the middle of each mean of weight 1 stands just that mean. -/
theorem walkA_mid (hi n : Int) : ∀ (l : List Mn) (done : Int) (a : Pt) (i : Nat) (h : i < l.length), (∀ m ∈ l, m.2 = 1) → a.2 ≤ 2 * done → n = done + tot l → walkA hi (2 * (done + i) + 1) a (ptsL hi n l done) = l[i].1
  | [], _, _, _, h, _, _, _ => by simp at h
  | m :: l, done, a, 0, h, h1, h2, h3 => by
    have hm := h1 m (List.mem_cons_self ..)
    have h5 : 0 ≤ tot l := by rw [tot_ones l (fun x hx => h1 x (List.mem_cons_of_mem _ hx))]; omega
    simp only [tot] at h3
    simp only [ptsL, walkA, List.getElem_cons_zero]
    rw [if_neg (by omega)]
    cases l with
    | nil =>
      simp only [tot] at h3
      simp only [ptsL, walkA]
      rw [if_pos (by omega), show 2 * (done + ((0 : Nat) : Int)) + 1 - (2 * done + m.2) = 0 by omega, lerpI_zero]
    | cons k l =>
      have hk := h1 k (by simp)
      simp only [ptsL, walkA]
      rw [if_pos (by omega), show 2 * (done + ((0 : Nat) : Int)) + 1 - (2 * done + m.2) = 0 by omega, lerpI_zero]
  | m :: l, done, a, i + 1, h, h1, h2, h3 => by
    have hm := h1 m (List.mem_cons_self ..)
    simp only [tot] at h3
    simp only [ptsL, walkA, List.getElem_cons_succ]
    rw [if_neg (by omega)]
    have := walkA_mid hi n l (done + m.2) (m.1, 2 * done + m.2) i (by simpa using h) (fun x hx => h1 x (List.mem_cons_of_mem _ hx)) (by simp only; omega) (by omega)
    rw [show 2 * (done + m.2 + (i : Int)) + 1 = 2 * (done + ((i + 1 : Nat) : Int)) + 1 by omega] at this
    exact this
end Go.Proofs.Ytedhpkfbobgkgaa
