/- A state goes on: how long its lists grow, in plain Lean. -/
import Derived.Test.YtedhpkfbobgkgaaDo
import Derived.Test.YtedhpkfbobgkgaaLen
namespace Go.Proofs.Ytedhpkfbobgkgaa
open Go.RowKit Go.Lib

theorem St.Ok.take {d : Int} {s t : St} {k kt : Nat} (h : s.Ok d k) (ht : t.Ok d kt) (hd : 0 < d) (hz : tot (t.L ++ t.W) ≠ 0) (hs : tot (s.L ++ s.W) + tot (t.L ++ t.W) ≤ 281474976710656) :
    ∃ k' : Nat, (k' : Int) ≤ 194 * d + 99 ∧ (s.take d t).Ok d k' ∧ tot ((s.take d t).L ++ (s.take d t).W) = tot (s.L ++ s.W) + tot (t.L ++ t.W) := by
  have hT : s.take d t = ⟨prs d (s.L ++ (s.W ++ (t.L ++ t.W))), [], if tot (s.L ++ s.W) = 0 then t.lo else min s.lo t.lo, if tot (s.L ++ s.W) = 0 then t.hi else max s.hi t.hi⟩ := by
    unfold St.take; rw [if_neg hz]
  have hlo : (if tot (s.L ++ s.W) = 0 then t.lo else min s.lo t.lo) ≤ t.lo ∧ (tot (s.L ++ s.W) ≠ 0 → (if tot (s.L ++ s.W) = 0 then t.lo else min s.lo t.lo) ≤ s.lo) ∧ -9223372036854775808 ≤ (if tot (s.L ++ s.W) = 0 then t.lo else min s.lo t.lo) ∧ (if tot (s.L ++ s.W) = 0 then t.lo else min s.lo t.lo) ≤ 9223372036854775807 := by
    have := h.lo0
    have := ht.lo0
    have := ht.lo1
    split <;> refine ⟨by omega, by omega, by omega, by omega⟩
  have hhi : t.hi ≤ (if tot (s.L ++ s.W) = 0 then t.hi else max s.hi t.hi) ∧ (tot (s.L ++ s.W) ≠ 0 → s.hi ≤ (if tot (s.L ++ s.W) = 0 then t.hi else max s.hi t.hi)) ∧ (if tot (s.L ++ s.W) = 0 then t.hi else max s.hi t.hi) ≤ 9223372036854775807 ∧ -9223372036854775808 ≤ (if tot (s.L ++ s.W) = 0 then t.hi else max s.hi t.hi) := by
    have := h.hi1
    have := ht.hi1
    have := ht.hi0
    split <;> refine ⟨by omega, by omega, by omega, by omega⟩
  have hall : okL (s.L ++ (s.W ++ (t.L ++ t.W))) := by
    rw [← List.append_assoc]
    exact h.ok.append ht.ok
  have hne : s.L ++ (s.W ++ (t.L ++ t.W)) ≠ [] := by
    rw [← List.append_assoc]
    intro e
    have := List.append_eq_nil_iff.1 e
    rw [this.2] at hz
    exact hz rfl
  have hbd : ∀ m ∈ s.L ++ (s.W ++ (t.L ++ t.W)), (if tot (s.L ++ s.W) = 0 then t.lo else min s.lo t.lo) ≤ m.1 ∧ m.1 ≤ (if tot (s.L ++ s.W) = 0 then t.hi else max s.hi t.hi) := by
    intro m hm
    rw [← List.append_assoc] at hm
    rcases List.mem_append.1 hm with h1 | h1
    · have h2 := h.bd m h1
      have h3 : tot (s.L ++ s.W) ≠ 0 := fun e => by rw [h.n_zero.1 e] at h1; cases h1
      have := hlo.2.1 h3
      have := hhi.2.1 h3
      omega
    · have h2 := ht.bd m h1
      omega
  have htot : tot (s.L ++ (s.W ++ (t.L ++ t.W))) = tot (s.L ++ s.W) + tot (t.L ++ t.W) := by rw [← List.append_assoc, tot_append]
  have hlen := prs_len hall hbd (by omega : 1 ≤ d) (by omega)
  have hp := prs_ok d _ _ hall hbd
  refine ⟨(prs d (s.L ++ (s.W ++ (t.L ++ t.W)))).length, hlen, ?_, ?_⟩
  · rw [hT]
    exact ⟨by simpa using hp.1, by simpa using hp.2.2, hlo.2.2.1, hlo.2.2.2, hhi.2.2.2, hhi.2.2.1, fun e => absurd (by simpa using e) (prs_pos d hne), by simp, by simpa using hd, hp.2.1⟩
  · rw [hT]
    simp [prs_tot, htot]

theorem stepS_fit {d kd v n : Int} {s t : St} {k : Nat} (ft : Fit d s k) (ft' : Fit d t k) (hk : (194 * d + 99) ≤ (k : Int)) (k1 : k < 1000000) (v0 : -9223372036854775808 ≤ v) (v1 : v ≤ 9223372036854775807) (n0 : 0 ≤ n) : Fit d (stepS d kd v n s t) (k + 1) := by
  have hd := ft.d0
  have same : ∀ {u : St}, Fit d u k → Fit d u (k + 1) := fun fu => ⟨fu.ok.more (by omega), by omega, fu.t, fu.d0, fu.d1⟩
  have tk : ∀ u : St, Fit d u k → Fit d (takeS d s u) (k + 1) := fun u fu => by
    unfold takeS
    split
    · exact same ft
    · by_cases hz : tot (u.L ++ u.W) = 0
      · have : s.take d u = s := by unfold St.take; rw [if_pos hz]
        rw [this]
        exact same ft
      · obtain ⟨k', h1, h2, h3⟩ := ft.ok.take fu.ok (by omega) hz (by omega)
        exact ⟨h2.more (by omega), by omega, by omega, ft.d0, ft.d1⟩
  unfold stepS
  split
  · exact tk t ft'
  split
  · exact tk s ft
  split
  · exact ⟨(ft.ok.press (by omega)).more (by omega), by omega, by rw [St.press_n]; exact ft.t, ft.d0, ft.d1⟩
  unfold addS
  split
  · exact same ft
  · have := St.add_n d s v n
    exact ⟨ft.ok.add (by omega) v0 v1 (by omega), by omega, by omega, ft.d0, ft.d1⟩
end Go.Proofs.Ytedhpkfbobgkgaa
