/- A digest's state in plain Lean: what adding and taking make of it. No program, no condition. -/
import Derived.Test.YtedhpkfbobgkgaaPts
namespace Go.Proofs.Ytedhpkfbobgkgaa

/-- The lists after an addition. -/
def addL (d : Int) (L W : List Mn) (m : Mn) : List Mn := if d ≤ (W.length : Int) + 1 then prs d (L ++ (W ++ [m])) else L
def addW (d : Int) (W : List Mn) (m : Mn) : List Mn := if d ≤ (W.length : Int) + 1 then [] else W ++ [m]
theorem add_all_tot (d : Int) (L W : List Mn) (m : Mn) : tot (addL d L W m ++ addW d W m) = tot (L ++ W) + m.2 := by
  unfold addL addW
  split
  · rw [List.append_nil, prs_tot]; simp only [tot_append, tot]; omega
  · simp only [tot_append, tot]; omega
theorem add_all_len (d : Int) (L W : List Mn) (m : Mn) : (addL d L W m).length + (addW d W m).length ≤ L.length + W.length + 1 := by
  unfold addL addW
  split
  · have := prs_length d (L ++ (W ++ [m])); simp only [List.length_append, List.length_cons, List.length_nil] at this ⊢; omega
  · simp only [List.length_append, List.length_cons, List.length_nil]; omega
theorem add_all_ne (d : Int) (L W : List Mn) (m : Mn) : addL d L W m ++ addW d W m ≠ [] := by
  unfold addL addW
  split
  · rw [List.append_nil]; exact prs_pos d (by simp)
  · simp
theorem addW_len (d : Int) (W : List Mn) (m : Mn) (hd : 0 < d) : ((addW d W m).length : Int) < d := by
  unfold addW
  split
  · simpa using hd
  · simp only [List.length_append, List.length_cons, List.length_nil]; omega
theorem rises_mid {L : List Mn} (h : Rises L) : Rises L := h

structure St where
  L : List Mn
  W : List Mn
  lo : Int
  hi : Int
namespace St
def all (s : St) : List Mn := s.L ++ s.W
def n (s : St) : Int := tot (s.L ++ s.W)
def zero : St := ⟨[], [], 0, 0⟩
def add (d : Int) (s : St) (a k : Int) : St := ⟨addL d s.L s.W (a, k), addW d s.W (a, k), if tot (s.L ++ s.W) = 0 then a else min s.lo a, if tot (s.L ++ s.W) = 0 then a else max s.hi a⟩
def press (d : Int) (s : St) : St := ⟨prs d (s.L ++ s.W), [], s.lo, s.hi⟩
def take (d : Int) (s t : St) : St :=
  if tot (t.L ++ t.W) = 0 then s else ⟨prs d (s.L ++ (s.W ++ (t.L ++ t.W))), [], if tot (s.L ++ s.W) = 0 then t.lo else min s.lo t.lo, if tot (s.L ++ s.W) = 0 then t.hi else max s.hi t.hi⟩

/-- A state that may be, of at most k means. -/
structure Ok (d : Int) (s : St) (k : Nat) : Prop where
  ok : okL (s.L ++ s.W)
  bd : ∀ m ∈ s.L ++ s.W, s.lo ≤ m.1 ∧ m.1 ≤ s.hi
  lo0 : -9223372036854775808 ≤ s.lo
  lo1 : s.lo ≤ 9223372036854775807
  hi0 : -9223372036854775808 ≤ s.hi
  hi1 : s.hi ≤ 9223372036854775807
  emp : s.L ++ s.W = [] → s.lo = 0 ∧ s.hi = 0
  len : s.L.length + s.W.length ≤ k
  wl : (s.W.length : Int) < d
  rise : Rises s.L
theorem zero_ok (d : Int) (h : 0 < d) : zero.Ok d 0 := ⟨fun m hm => by simp [zero] at hm, fun m hm => by simp [zero] at hm, by simp [zero], by simp [zero], by simp [zero], by simp [zero], fun _ => ⟨rfl, rfl⟩, by simp [zero], by simpa [zero] using h, by simp [zero, Rises]⟩
theorem Ok.more {d : Int} {s : St} {k j : Nat} (h : s.Ok d k) (hk : k ≤ j) : s.Ok d j := ⟨h.ok, h.bd, h.lo0, h.lo1, h.hi0, h.hi1, h.emp, Nat.le_trans h.len hk, h.wl, h.rise⟩
theorem okL_pos {l : List Mn} (h : okL l) (hne : l ≠ []) : 0 < tot l := by
  match l, hne with
  | m :: l, _ =>
    have h1 := (h m (List.mem_cons_self ..)).2.2
    have h2 := h.tail.tot_nonneg
    simp only [tot]; omega
theorem Ok.n_zero {d : Int} {s : St} {k : Nat} (h : s.Ok d k) : tot (s.L ++ s.W) = 0 ↔ s.L ++ s.W = [] := by
  constructor
  · intro h0
    by_cases hne : s.L ++ s.W = []
    · exact hne
    · have := okL_pos h.ok hne; omega
  · intro h0; rw [h0]; rfl
theorem Ok.n_nonneg {d : Int} {s : St} {k : Nat} (h : s.Ok d k) : 0 ≤ tot (s.L ++ s.W) := h.ok.tot_nonneg
theorem add_n (d : Int) (s : St) (a k : Int) : tot ((s.add d a k).L ++ (s.add d a k).W) = tot (s.L ++ s.W) + k := add_all_tot d s.L s.W (a, k)
/-- Means of a bigger list, pressed or not, lie between the ends. -/
theorem Ok.add {d : Int} {s : St} {k : Nat} (h : s.Ok d k) (hd : 0 < d) {a n : Int} (a0 : -9223372036854775808 ≤ a) (a1 : a ≤ 9223372036854775807) (n0 : 0 < n) : (s.add d a n).Ok d (k + 1) := by
  have hlo : (if tot (s.L ++ s.W) = 0 then a else min s.lo a) ≤ a ∧ (tot (s.L ++ s.W) ≠ 0 → (if tot (s.L ++ s.W) = 0 then a else min s.lo a) ≤ s.lo) ∧ -9223372036854775808 ≤ (if tot (s.L ++ s.W) = 0 then a else min s.lo a) := by
    have := h.lo0
    split <;> refine ⟨by omega, by omega, by omega⟩
  have hhi : a ≤ (if tot (s.L ++ s.W) = 0 then a else max s.hi a) ∧ (tot (s.L ++ s.W) ≠ 0 → s.hi ≤ (if tot (s.L ++ s.W) = 0 then a else max s.hi a)) ∧ (if tot (s.L ++ s.W) = 0 then a else max s.hi a) ≤ 9223372036854775807 := by
    have := h.hi1
    split <;> refine ⟨by omega, by omega, by omega⟩
  have hall : okL (s.L ++ (s.W ++ [(a, n)])) := by
    rw [← List.append_assoc]
    exact h.ok.append (fun m hm => by simp only [List.mem_singleton] at hm; subst hm; exact ⟨a0, a1, n0⟩)
  have hbd : ∀ m ∈ s.L ++ (s.W ++ [(a, n)]), (if tot (s.L ++ s.W) = 0 then a else min s.lo a) ≤ m.1 ∧ m.1 ≤ (if tot (s.L ++ s.W) = 0 then a else max s.hi a) := by
    intro m hm
    rw [← List.append_assoc] at hm
    rcases List.mem_append.1 hm with h1 | h1
    · have h2 := h.bd m h1
      have h3 : tot (s.L ++ s.W) ≠ 0 := fun e => by rw [h.n_zero.1 e] at h1; cases h1
      have := hlo.2.1 h3
      have := hhi.2.1 h3
      omega
    · simp only [List.mem_singleton] at h1
      subst h1
      exact ⟨hlo.1, hhi.1⟩
  refine ⟨?_, ?_, hlo.2.2, by show (if _ then _ else _) ≤ _; omega, by show _ ≤ (if _ then _ else _); omega, hhi.2.2, fun e => absurd e (add_all_ne d s.L s.W (a, n)), ?_, addW_len d s.W (a, n) hd, ?_⟩
  · show okL (addL d s.L s.W (a, n) ++ addW d s.W (a, n))
    unfold addL addW
    split
    · rw [List.append_nil]
      exact (prs_ok d _ _ hall hbd).1
    · exact hall
  · show ∀ m ∈ addL d s.L s.W (a, n) ++ addW d s.W (a, n), (if tot (s.L ++ s.W) = 0 then a else min s.lo a) ≤ m.1 ∧ m.1 ≤ (if tot (s.L ++ s.W) = 0 then a else max s.hi a)
    generalize (if tot (s.L ++ s.W) = 0 then a else min s.lo a) = lo at *
    generalize (if tot (s.L ++ s.W) = 0 then a else max s.hi a) = hi at *
    unfold addL addW
    split
    · rw [List.append_nil]
      exact (prs_ok d _ _ hall hbd).2.2
    · exact hbd
  · have := add_all_len d s.L s.W (a, n)
    have := h.len
    show (addL d s.L s.W (a, n)).length + (addW d s.W (a, n)).length ≤ k + 1
    omega
  · show Rises (addL d s.L s.W (a, n))
    unfold addL
    split
    · exact (prs_ok d _ _ hall hbd).2.1
    · exact h.rise
theorem Ok.press {d : Int} {s : St} {k : Nat} (h : s.Ok d k) (hd : 0 < d) : (s.press d).Ok d k := by
  have hp := prs_ok d s.lo s.hi h.ok h.bd
  refine ⟨by simpa [St.press] using hp.1, by simpa [St.press] using hp.2.2, h.lo0, h.lo1, h.hi0, h.hi1, fun e => ?_, ?_, by simpa [St.press] using hd, hp.2.1⟩
  · simp only [St.press, List.append_nil] at e
    by_cases hne : s.L ++ s.W = []
    · exact h.emp hne
    · exact absurd e (prs_pos d hne)
  · have := prs_length d (s.L ++ s.W)
    have h2 := h.len
    simp only [St.press, List.length_nil, List.length_append] at *
    omega
theorem press_n (d : Int) (s : St) : tot ((s.press d).L ++ (s.press d).W) = tot (s.L ++ s.W) := by simp [St.press, prs_tot]

/-- Many are added. -/
def adds (d : Int) : St → List (Int × Int) → St
  | s, [] => s
  | s, m :: l => adds d (s.add d m.1 m.2) l
theorem adds_snoc (d : Int) : ∀ (l : List (Int × Int)) (s : St) (m : Int × Int), adds d s (l ++ [m]) = (adds d s l).add d m.1 m.2
  | [], _, _ => rfl
  | _ :: l, _, m => adds_snoc d l _ m
theorem adds_n (d : Int) : ∀ (l : List (Int × Int)) (s : St), tot ((adds d s l).L ++ (adds d s l).W) = tot (s.L ++ s.W) + tot l
  | [], s => by simp [adds, tot]
  | x :: l, s => by simp only [adds, tot]; rw [adds_n d l, add_n]; omega
theorem adds_ok {d : Int} (hd : 0 < d) : ∀ (l : List (Int × Int)) (s : St) (k : Nat), s.Ok d k → okL l → (adds d s l).Ok d (k + l.length)
  | [], s, k, h, _ => h
  | x :: l, s, k, h, ho => by
    have hx := ho x (List.mem_cons_self ..)
    have := adds_ok hd l _ _ (h.add hd hx.1 hx.2.1 hx.2.2) ho.tail
    simp only [adds, List.length_cons]
    rw [show k + (l.length + 1) = k + 1 + l.length by omega]
    exact this
end St
end Go.Proofs.Ytedhpkfbobgkgaa
