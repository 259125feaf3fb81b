/- What a digest answers, in plain Lean; DigestMonotone's walk. -/
import Derived.Test.YtedhpkfbobgkgaaDigQ
namespace Go.Proofs.Ytedhpkfbobgkgaa
open Go.RowKit Go.Lib

section
variable {d : Int} {s : St} {k : Nat}
theorem Fit.okp (ft : Fit d s k) : okL (prs d (s.L ++ s.W)) ∧ Rises (prs d (s.L ++ s.W)) ∧ (∀ m ∈ prs d (s.L ++ s.W), s.lo ≤ m.1 ∧ m.1 ≤ s.hi) := prs_ok d s.lo s.hi ft.ok.ok ft.ok.bd
theorem Fit.ne (_ft : Fit d s k) (hn : 0 < tot (s.L ++ s.W)) : prs d (s.L ++ s.W) ≠ [] := prs_pos d fun e => by rw [e] at hn; simp [tot] at hn
theorem ask_zero (hn : tot (s.L ++ s.W) = 0) (a b : Int) (h : b ≠ 0 ∧ a ≤ b) : askI d s a b = (0, 8) := by
  unfold askI spotI
  rw [hn, if_neg (show ¬ (b = 0 ∨ b < a) by omega)]
  simp
theorem ask_eq {a b : Int} (h : (askI d s a b).2 = 0) : (spotI a b (tot (s.L ++ s.W))).2 = 0 ∧ (askI d s a b).1 = atI s.lo s.hi (prs d (s.L ++ s.W)) (spotI a b (tot (s.L ++ s.W))).1 := by
  unfold askI at *
  split at h
  · rename_i h1; rw [if_pos h1]; exact ⟨h1, rfl⟩
  · rename_i h1; exact absurd h h1
theorem ask_bd (ft : Fit d s k) {a b : Int} (a0 : 0 ≤ a) (b0 : 0 ≤ b) (h : (askI d s a b).2 = 0) : s.lo ≤ (askI d s a b).1 ∧ (askI d s a b).1 ≤ s.hi := by
  obtain ⟨h1, h2⟩ := ask_eq h
  obtain ⟨g1, g2, g3, g4, g5, g6⟩ := spotI_ok a0 b0 ft.ok.n_nonneg h1
  obtain ⟨p1, p2, p3⟩ := ft.okp
  rw [h2]
  exact atI_bd p1 p2 p3 (ft.ne g1) g2
theorem ask_le (ft : Fit d s k) {a b c e : Int} (a0 : 0 ≤ a) (b0 : 0 ≤ b) (c0 : 0 ≤ c) (e0 : 0 ≤ e) (h : (askI d s a b).2 = 0) (h' : (askI d s c e).2 = 0) (hle : a * e ≤ c * b) : (askI d s a b).1 ≤ (askI d s c e).1 := by
  obtain ⟨h1, h2⟩ := ask_eq h
  obtain ⟨h3, h4⟩ := ask_eq h'
  obtain ⟨g1, g2, g3, g4, g5, g6⟩ := spotI_ok a0 b0 ft.ok.n_nonneg h1
  obtain ⟨i1, i2, i3, i4, i5, i6⟩ := spotI_ok c0 e0 ft.ok.n_nonneg h3
  obtain ⟨p1, p2, p3⟩ := ft.okp
  rw [h2, h4]
  refine atI_mono p1 p2 p3 (ft.ne g1) g2 ?_
  rw [g6, i6]
  exact spot_le (by omega) g4 i4 hle
theorem ask_nz {a b : Int} (h : (askI d s a b).2 = 0) : b ≠ 0 := by
  have := (ask_eq h).1
  intro hb
  subst hb
  simp [spotI] at this
theorem ask_first (ft : Fit d s k) (hn : 0 < tot (s.L ++ s.W)) : askI d s 0 1 = (s.lo, 0) := by
  have ht := ft.t
  obtain ⟨p1, p2, p3⟩ := ft.okp
  have h : spotI 0 1 (tot (s.L ++ s.W)) = (0, 0) := by
    unfold spotI
    rw [if_neg (show ¬ ((1 : Int) = 0 ∨ (1 : Int) < 0) by omega), if_neg (show ¬ tot (s.L ++ s.W) = 0 by omega), if_neg (show ¬ 4611686018427387904 < tot (s.L ++ s.W) by omega)]
    simp
  unfold askI
  rw [h]
  simp only [if_true]
  rw [atI_zero p1 (ft.ne hn)]
theorem ask_last (ft : Fit d s k) (hn : 0 < tot (s.L ++ s.W)) : askI d s 1 1 = (s.hi, 0) := by
  have ht := ft.t
  obtain ⟨p1, p2, p3⟩ := ft.okp
  have h : spotI 1 1 (tot (s.L ++ s.W)) = (2 * tot (s.L ++ s.W), 0) := by
    unfold spotI
    rw [if_neg (show ¬ ((1 : Int) = 0 ∨ (1 : Int) < 1) by omega), if_neg (show ¬ tot (s.L ++ s.W) = 0 by omega), if_neg (show ¬ 4611686018427387904 < tot (s.L ++ s.W) by omega)]
    simp
  unfold askI
  rw [h]
  simp only [if_true]
  rw [atI_far p1 p2 p3 (ft.ne hn) (by rw [prs_tot]; omega)]
theorem upto_bd (ft : Fit d s k) (hn : 0 < tot (s.L ++ s.W)) (v : Int) : 0 ≤ uptoS d s v ∧ uptoS d s v ≤ tot (s.L ++ s.W) := by
  obtain ⟨p1, p2, p3⟩ := ft.okp
  have := uptoI_bd p1 p2 p3 (ft.ne hn) v
  rw [prs_tot] at this
  exact this
theorem upto_le (ft : Fit d s k) (hn : 0 < tot (s.L ++ s.W)) {v u : Int} (h : v ≤ u) : uptoS d s v ≤ uptoS d s u := by
  obtain ⟨p1, p2, p3⟩ := ft.okp
  exact uptoI_mono p1 p2 p3 (ft.ne hn) h
theorem Fit.lohi (ft : Fit d s k) (hn : 0 < tot (s.L ++ s.W)) : s.lo ≤ s.hi := by
  cases h : s.L ++ s.W with
  | nil => rw [h] at hn; simp [tot] at hn
  | cons m l => have := ft.ok.bd m (by rw [h]; exact List.mem_cons_self ..); omega
theorem upto_last (ft : Fit d s k) (hn : 0 < tot (s.L ++ s.W)) : uptoS d s s.hi = tot (s.L ++ s.W) := by
  have := ft.lohi hn
  unfold uptoS uptoI
  rw [prs_tot, if_neg (by omega), if_pos (Int.le_refl _)]
theorem upto_none {v : Int} (h : v < s.lo ∨ tot (s.L ++ s.W) = 0) : uptoS d s v = 0 := by
  unfold uptoS uptoI
  rw [prs_tot, if_pos (by omega)]
end
theorem sOf_pos {d : Int} {l n : List Int} {k : Nat} (hk : 0 < k) : 0 < tot ((sOf d l n k).L ++ (sOf d l n k).W) := by
  rw [sOf_n]
  match k, hk with
  | k + 1, _ =>
    have h1 := (given_tot l n k).1
    have h := wt_bd (n := n) k
    have e : given l n (k + 1) = given l n k ++ [(l[k]?.getD 0, wt n k)] := by simp [given, List.range_succ]
    rw [e, tot_append]
    simp only [tot]
    omega

end Go.Proofs.Ytedhpkfbobgkgaa
