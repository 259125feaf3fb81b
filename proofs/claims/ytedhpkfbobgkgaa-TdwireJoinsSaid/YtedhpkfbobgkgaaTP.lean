/- Numbers as bytes, plain: LEB128 and zig-zag; a digest's bytes, and how they are read. No program, no condition. · A digest's bytes, plain; how they are read. No program, no condition. · How a digest's bytes are read, plain: what was written is read as it was, whatever stands behind it. No program, no condition. · What is read of bytes, plain. No program, no condition. -/
import Derived.Test.YtedhpkfbobgkgaaSt
import Derived.Test.YtedhpkfbobgkgaaGood
namespace Go.Proofs.Ytedhpkfbobgkgaa
section
open Go.RowKit
/-- The bytes of a number, seven bits each, the lowest first. -/
def lebF : Nat → Int → List Int
  | 0, n => [n]
  | k + 1, n => if 127 < n then (n % 128 + 128) :: lebF k (n / 128) else [n]
def leb (n : Int) : List Int := lebF 9 n
/-- A number with a sign, as one without. -/
def sgn (v : Int) : Int := if 0 ≤ v then 2 * v else -2 * v - 1
def uns (n : Int) : Int := if n % 2 = 0 then n / 2 else -(n / 2) - 1
def zg (v : Int) : List Int := leb (sgn v)
theorem sgn_bd {v : Int} (h0 : -9223372036854775808 ≤ v) (h1 : v ≤ 9223372036854775807) : 0 ≤ sgn v ∧ sgn v < 18446744073709551616 := by
  unfold sgn; split <;> omega
theorem uns_sgn (v : Int) : uns (sgn v) = v := by
  unfold uns sgn; (repeat' split) <;> omega
theorem uns_bd {n : Int} (h0 : 0 ≤ n) (h1 : n < 18446744073709551616) : -9223372036854775808 ≤ uns n ∧ uns n ≤ 9223372036854775807 := by
  unfold uns; split <;> omega
theorem lebF_len : ∀ (k : Nat) (n : Int), 1 ≤ (lebF k n).length ∧ (lebF k n).length ≤ k + 1
  | 0, n => by simp [lebF]
  | k + 1, n => by
    unfold lebF
    split
    · have := lebF_len k (n / 128); simp only [List.length_cons]; omega
    · simp
theorem leb_len (n : Int) : 1 ≤ (leb n).length ∧ (leb n).length ≤ 10 := lebF_len 9 n
/-- Bytes. -/
def byL (l : List Int) : Prop := ∀ b ∈ l, 0 ≤ b ∧ b ≤ 255
theorem byL.append {a b : List Int} (h : byL a) (k : byL b) : byL (a ++ b) := fun x hx => (List.mem_append.1 hx).elim (h x) (k x)
theorem byL.drop {a : List Int} (h : byL a) (k : Nat) : byL (a.drop k) := fun x hx => h x (List.mem_of_mem_drop hx)
theorem lebF_by : ∀ (k : Nat) (n : Int), 0 ≤ n → n < 2 * 128 ^ k → byL (lebF k n)
  | 0, n, h0, h1 => fun b hb => by simp only [lebF, List.mem_singleton] at hb; subst hb; simp at h1; omega
  | k + 1, n, h0, h1 => by
    unfold lebF
    split
    · intro b hb
      rcases List.mem_cons.1 hb with rfl | hb
      · omega
      · refine lebF_by k (n / 128) (by omega) ?_ b hb
        exact Int.ediv_lt_of_lt_mul (by omega) (by rw [Int.mul_assoc, ← Int.pow_succ]; exact h1)
    · intro b hb; simp only [List.mem_singleton] at hb; subst hb; omega
theorem leb_by {n : Int} (h0 : 0 ≤ n) (h1 : n < 18446744073709551616) : byL (leb n) := lebF_by 9 n h0 (by omega)

/-- Reading: at most k bytes more (k is 10 at the number's start). -/
def unF : Nat → List Int → Option (Int × List Int)
  | 0, _ => none
  | _ + 1, [] => none
  | k + 1, x :: r =>
    if k = 0 ∧ 1 < x then none
    else if 127 < x then (unF k r).map (fun p => (x - 128 + 128 * p.1, p.2))
    else if x = 0 ∧ k < 9 then none else some (x, r)
def unleb (l : List Int) : Option (Int × List Int) := unF 10 l
theorem unF_leb (r : List Int) : ∀ (k : Nat) (n : Int), 0 ≤ n → n < 2 * 128 ^ k → (n = 0 → 9 ≤ k) → unF (k + 1) (lebF k n ++ r) = some (n, r)
  | 0, n, h0, h1, h2 => by
    have hn : n = 1 := by simp at h1; omega
    subst hn
    simp [lebF, unF]
  | k + 1, n, h0, h1, h2 => by
    unfold lebF
    split
    · rename_i h
      have e1 : n / 128 < 2 * 128 ^ k := Int.ediv_lt_of_lt_mul (by omega) (by rw [Int.mul_assoc, ← Int.pow_succ]; exact h1)
      have ih := unF_leb r k (n / 128) (by omega) e1 (by omega)
      rw [List.cons_append, unF, if_neg (by omega), if_pos (by omega), ih]
      simp only [Option.map_some, Option.some.injEq, Prod.mk.injEq, and_true]
      omega
    · rename_i h
      rw [List.cons_append, unF, if_neg (by omega), if_neg (by omega), if_neg (by omega)]
      rfl
theorem unleb_leb {n : Int} (h0 : 0 ≤ n) (h1 : n < 18446744073709551616) (r : List Int) : unleb (leb n ++ r) = some (n, r) := unF_leb r 9 n h0 (by omega) (fun _ => Nat.le_refl _)
theorem unF_len : ∀ (k : Nat) (l : List Int) (p : Int × List Int), unF k l = some p → p.2.length < l.length ∧ ∃ j, p.2 = l.drop j
  | 0, _, _, h => by simp [unF] at h
  | k + 1, [], _, h => by simp [unF] at h
  | k + 1, x :: r, p, h => by
    unfold unF at h
    split at h
    · cases h
    · split at h
      · cases hu : unF k r with
        | none => rw [hu] at h; simp at h
        | some q =>
          rw [hu] at h
          simp only [Option.map_some, Option.some.injEq] at h
          obtain ⟨h1, j, h2⟩ := unF_len k r q hu
          subst h
          exact ⟨by simp only [List.length_cons]; omega, j + 1, by simpa using h2⟩
      · split at h
        · cases h
        · simp only [Option.some.injEq] at h
          subst h
          exact ⟨by simp, 1, by simp⟩
theorem unF_bd : ∀ (k : Nat) (l : List Int) (p : Int × List Int), byL l → unF (k + 1) l = some p → 0 ≤ p.1 ∧ p.1 < 2 * 128 ^ k
  | _, [], _, _, h => by simp [unF] at h
  | 0, x :: r, p, hb, h => by
    have hx := hb x (List.mem_cons_self ..)
    rw [unF] at h
    split at h
    · cases h
    · split at h
      · simp [unF] at h
      · split at h
        · cases h
        · simp only [Option.some.injEq] at h
          subst h
          simp; omega
  | k + 1, x :: r, p, hb, h => by
    have hx := hb x (List.mem_cons_self ..)
    have hp : (0 : Int) < 128 ^ k := Int.pow_pos (by omega)
    rw [unF] at h
    split at h
    · cases h
    · split at h
      · cases hu : unF (k + 1) r with
        | none => rw [hu] at h; simp at h
        | some q =>
          rw [hu] at h
          simp only [Option.map_some, Option.some.injEq] at h
          have := unF_bd k r q (fun y hy => hb y (List.mem_cons_of_mem _ hy)) hu
          subst h
          rw [Int.pow_succ]
          simp only
          omega
      · split at h
        · cases h
        · simp only [Option.some.injEq] at h
          subst h
          rw [Int.pow_succ]
          simp only
          omega
theorem unleb_bd {l : List Int} {p : Int × List Int} (hb : byL l) (h : unleb l = some p) : 0 ≤ p.1 ∧ p.1 < 18446744073709551616 := by
  have := unF_bd 9 l p hb h
  omega
end
section
open Go.RowKit
/-- A number behind another one, where it is listed. -/
def encP (p : Option Int) (v : Int) : List Int := match p with
  | none => zg v
  | some q => leb (v - q)
def wrl : Option Int → List Mn → List Int
  | _, [] => []
  | p, m :: l => encP p m.1 ++ (leb m.2 ++ wrl (some m.1) l)
def wrw : List Mn → List Int
  | [] => []
  | m :: l => zg m.1 ++ (leb m.2 ++ wrw l)
def wrD (d : Int) (L W : List Mn) (lo hi : Int) : List Int := leb d ++ (zg lo ++ (zg hi ++ (leb L.length ++ (wrl none L ++ (leb W.length ++ wrw W)))))
def lastN : Option Int → List Mn → Option Int
  | p, [] => p
  | _, m :: l => lastN (some m.1) l
theorem lastN_snoc (m : Mn) : ∀ (p : Option Int) (l : List Mn), lastN p (l ++ [m]) = some m.1
  | _, [] => rfl
  | _, x :: l => lastN_snoc m (some x.1) l
theorem wrl_snoc (m : Mn) : ∀ (p : Option Int) (l : List Mn), wrl p (l ++ [m]) = wrl p l ++ (encP (lastN p l) m.1 ++ leb m.2)
  | p, [] => by simp [wrl, lastN]
  | p, x :: l => by simp only [List.cons_append, wrl, wrl_snoc m (some x.1) l, lastN, List.append_assoc]
theorem wrw_snoc (m : Mn) : ∀ (l : List Mn), wrw (l ++ [m]) = wrw l ++ (zg m.1 ++ leb m.2)
  | [] => by simp [wrw]
  | x :: l => by simp only [List.cons_append, wrw, wrw_snoc m l, List.append_assoc]
theorem wrl_take0 (l : List Mn) (h : 0 < l.length) : wrl none (l.take 1) = wrl none (l.take 0) ++ (zg l[0].1 ++ leb l[0].2) := by
  have := wrl_snoc l[0] none (l.take 0)
  rw [← List.take_succ_eq_append_getElem h] at this
  rw [this]
  simp [lastN, encP]
theorem wrl_take (l : List Mn) (j : Nat) (h : j + 1 < l.length) : wrl none (l.take (j + 1 + 1)) = wrl none (l.take (j + 1)) ++ (leb (l[j + 1].1 - l[j].1) ++ leb l[j + 1].2) := by
  have := wrl_snoc l[j + 1] none (l.take (j + 1))
  rw [← List.take_succ_eq_append_getElem h] at this
  rw [this, List.take_succ_eq_append_getElem (show j < l.length by omega), lastN_snoc]
  rfl
theorem wrw_take (l : List Mn) (j : Nat) (h : j < l.length) : wrw (l.take (j + 1)) = wrw (l.take j) ++ (zg l[j].1 ++ leb l[j].2) := by
  rw [List.take_succ_eq_append_getElem h, wrw_snoc]
theorem encP_len (p : Option Int) (v : Int) : 1 ≤ (encP p v).length ∧ (encP p v).length ≤ 10 := by
  unfold encP
  split
  · exact leb_len _
  · exact leb_len _
theorem wrl_len : ∀ (p : Option Int) (l : List Mn), 2 * l.length ≤ (wrl p l).length ∧ (wrl p l).length ≤ 20 * l.length
  | _, [] => by simp [wrl]
  | p, m :: l => by
    have h1 := wrl_len (some m.1) l
    have h2 := encP_len p m.1
    have h3 := leb_len m.2
    simp only [wrl, List.length_append, List.length_cons]
    omega
theorem wrw_len : ∀ (l : List Mn), 2 * l.length ≤ (wrw l).length ∧ (wrw l).length ≤ 20 * l.length
  | [] => by simp [wrw]
  | m :: l => by
    have h1 := wrw_len l
    have h2 := leb_len (sgn m.1)
    have h3 := leb_len m.2
    simp only [wrw, zg, List.length_append, List.length_cons]
    omega
theorem wrl_take_len (l : List Mn) (j : Nat) : (wrl none (l.take j)).length ≤ 20 * l.length := by
  have h1 := (wrl_len none (l.take j)).2
  have h2 : (l.take j).length ≤ l.length := by rw [List.length_take]; omega
  omega
theorem wrw_take_len (l : List Mn) (j : Nat) : (wrw (l.take j)).length ≤ 20 * l.length := by
  have h1 := (wrw_len (l.take j)).2
  have h2 : (l.take j).length ≤ l.length := by rw [List.length_take]; omega
  omega
end
section
open Go.RowKit
/-- How many means there are. -/
def rdMany (l : List Int) : Option (Nat × List Int) := match unleb l with
  | some p => if p.1 ≤ 65536 ∧ p.1 ≤ p.2.length then some (p.1.toNat, p.2) else none
  | none => none
theorem unleb_len {l : List Int} {p : Int × List Int} (h : unleb l = some p) : p.2.length < l.length ∧ ∃ j, p.2 = l.drop j := unF_len 10 l p h
/-- A number as 64 bits, as it stands without a sign. -/
def ub (v : Int) : Int := v % 18446744073709551616
/-- A listed mean's number, behind another one. -/
def rdV (p : Option Int) (n : Int) : Option Int := match p with
  | none => some (uns n)
  | some q => if wrap64 ((ub q + n) % 18446744073709551616) < q then none else some (wrap64 ((ub q + n) % 18446744073709551616))
/-- One listed mean. -/
def rdOne (p : Option Int) (l : List Int) : Option (Mn × List Int) := match unleb l with
  | none => none
  | some x => match rdV p x.1 with
    | none => none
    | some v => match unleb x.2 with
      | none => none
      | some y => some ((v, y.1), y.2)
/-- Listed means, behind those of acc. -/
def rdl : Nat → List Mn → List Int → Option (List Mn × List Int)
  | 0, acc, l => some (acc, l)
  | k + 1, acc, l => match rdOne (acc.getLast?.map (·.1)) l with
    | none => none
    | some x => rdl k (acc ++ [x.1]) x.2
/-- Waiting means, behind those of acc. -/
def rdw : Nat → List Mn → List Int → Option (List Mn × List Int)
  | 0, acc, l => some (acc, l)
  | k + 1, acc, l => match rdOne none l with
    | none => none
    | some x => rdw k (acc ++ [x.1]) x.2
def rdList (l : List Int) : Option (List Mn × List Int) := match rdMany l with
  | none => none
  | some x => rdl x.1 [] x.2
def rdWait (l : List Int) : Option (List Mn × List Int) := match rdMany l with
  | none => none
  | some x => rdw x.1 [] x.2
structure Rd5 where
  d : Int
  lo : Int
  hi : Int
  L : List Mn
  W : List Mn
/-- The whole. -/
def rdD (l : List Int) : Option (Rd5 × List Int) := match unleb l with
  | none => none
  | some a => match unleb a.2 with
    | none => none
    | some b => match unleb b.2 with
      | none => none
      | some c => match rdList c.2 with
        | none => none
        | some x => match rdWait x.2 with
          | none => none
          | some y => some (⟨a.1, uns b.1, uns c.1, x.1, y.1⟩, y.2)

theorem wrap_step {q v : Int} (q0 : -9223372036854775808 ≤ q) (qv : q ≤ v) (v1 : v ≤ 9223372036854775807) : wrap64 ((ub q + (v - q)) % 18446744073709551616) = v := by
  unfold ub wrap64; omega
theorem rdOne_none (m : Mn) (r : List Int) (h0 : -9223372036854775808 ≤ m.1) (h1 : m.1 ≤ 9223372036854775807) (n0 : 0 ≤ m.2) (n1 : m.2 < 18446744073709551616) : rdOne none (encP none m.1 ++ (leb m.2 ++ r)) = some (m, r) := by
  have hs := sgn_bd h0 h1
  unfold rdOne encP zg
  rw [unleb_leb hs.1 hs.2]
  simp only [rdV, uns_sgn]
  rw [unleb_leb n0 n1]
theorem rdOne_some (q : Int) (m : Mn) (r : List Int) (q0 : -9223372036854775808 ≤ q) (qv : q ≤ m.1) (h1 : m.1 ≤ 9223372036854775807) (n0 : 0 ≤ m.2) (n1 : m.2 < 18446744073709551616) : rdOne (some q) (encP (some q) m.1 ++ (leb m.2 ++ r)) = some (m, r) := by
  unfold rdOne encP
  rw [unleb_leb (by omega) (by omega)]
  simp only [rdV, wrap_step q0 qv h1]
  rw [if_neg (by omega)]
  simp only
  rw [unleb_leb n0 n1]
theorem rdl_wrl (r : List Int) : ∀ (l acc : List Mn), rawL (acc ++ l) → Rises (acc ++ l) → rdl l.length acc (wrl (acc.getLast?.map (·.1)) l ++ r) = some (acc ++ l, r)
  | [], acc, _, _ => by simp [rdl, wrl]
  | m :: l, acc, hr, hs => by
    have hm := hr m (by simp)
    have h2 := rdl_wrl r l (acc ++ [m]) (by simpa using hr) (by simpa using hs)
    rw [List.getLast?_concat] at h2
    simp only [List.length_cons, rdl, wrl, List.append_assoc, Option.map_some] at h2 ⊢
    cases hl : acc.getLast? with
    | none =>
      simp only [Option.map_none]
      rw [rdOne_none m _ hm.1 hm.2.1 hm.2.2.1 (by omega)]
      simp only
      rw [h2]
      simp
    | some q =>
      have hq : q ∈ acc := List.mem_of_getLast? hl
      have hqr := hr q (by simp [hq])
      have hle : q.1 ≤ m.1 := (List.pairwise_append.1 hs).2.2 q hq m (by simp)
      simp only [Option.map_some]
      rw [rdOne_some q.1 m _ hqr.1 hle hm.2.1 hm.2.2.1 (by omega)]
      simp only
      rw [h2]
      simp
theorem rdw_wrw (r : List Int) : ∀ (l acc : List Mn), rawL l → rdw l.length acc (wrw l ++ r) = some (acc ++ l, r)
  | [], acc, _ => by simp [rdw, wrw]
  | m :: l, acc, hr => by
    have hm := hr m (by simp)
    have h2 := rdw_wrw r l (acc ++ [m]) (fun x hx => hr x (List.mem_cons_of_mem _ hx))
    have h3 := rdOne_none m (wrw l ++ r) hm.1 hm.2.1 hm.2.2.1 (by omega)
    simp only [encP] at h3
    simp only [List.length_cons, rdw, wrw, List.append_assoc]
    rw [h3]
    simp only
    rw [h2]
    simp
theorem rdMany_leb (n : Nat) (r : List Int) (h : n ≤ 65536) (hr : n ≤ r.length) : rdMany (leb n ++ r) = some (n, r) := by
  unfold rdMany
  rw [unleb_leb (by omega) (by omega)]
  simp only
  rw [if_pos ⟨by omega, by omega⟩]
  simp
/-- What was written is read as it was, whatever stands behind it. -/
theorem rdD_wrD {d lo hi : Int} {L W : List Mn} (r : List Int) (d0 : 0 ≤ d) (d1 : d < 18446744073709551616) (l0 : -9223372036854775808 ≤ lo) (l1 : lo ≤ 9223372036854775807) (h0 : -9223372036854775808 ≤ hi) (h1 : hi ≤ 9223372036854775807)
    (hL : rawL L) (hs : Rises L) (hW : rawL W) (nL : L.length ≤ 65536) (nW : W.length ≤ 65536) : rdD (wrD d L W lo hi ++ r) = some (⟨d, lo, hi, L, W⟩, r) := by
  have sl := sgn_bd l0 l1
  have sh := sgn_bd h0 h1
  have wl := (wrl_len none L).1
  have ww := (wrw_len W).1
  unfold rdD wrD zg
  simp only [List.append_assoc]
  rw [unleb_leb d0 d1]
  simp only
  rw [unleb_leb sl.1 sl.2]
  simp only
  rw [unleb_leb sh.1 sh.2]
  simp only
  have e1 : rdList (leb L.length ++ (wrl none L ++ (leb W.length ++ (wrw W ++ r)))) = some (L, leb W.length ++ (wrw W ++ r)) := by
    unfold rdList
    rw [rdMany_leb _ _ nL (by rw [List.length_append]; omega)]
    simp only
    have := rdl_wrl (leb W.length ++ (wrw W ++ r)) L [] (by simpa using hL) (by simpa using hs)
    simpa using this
  rw [e1]
  simp only
  have e2 : rdWait (leb W.length ++ (wrw W ++ r)) = some (W, r) := by
    unfold rdWait
    rw [rdMany_leb _ _ nW (by rw [List.length_append]; omega)]
    simp only
    have := rdw_wrw r W [] hW
    simpa using this
  rw [e2]
  simp only [uns_sgn]
end
section
open Go.RowKit
theorem unleb_by {l : List Int} {p : Int × List Int} (hb : byL l) (h : unleb l = some p) : byL p.2 := by
  obtain ⟨_, j, hj⟩ := unleb_len h
  rw [hj]; exact hb.drop j
theorem rdOne_raw {p : Option Int} {l : List Int} {x : Mn × List Int} (hb : byL l) (h : rdOne p l = some x) : (-9223372036854775808 ≤ x.1.1 ∧ x.1.1 ≤ 9223372036854775807 ∧ 0 ≤ x.1.2 ∧ x.1.2 ≤ 18446744073709551615) ∧ byL x.2 := by
  unfold rdOne at h
  cases h1 : unleb l with
  | none => rw [h1] at h; cases h
  | some a =>
    rw [h1] at h
    simp only at h
    have ab := unleb_bd hb h1
    have ay := unleb_by hb h1
    cases h2 : rdV p a.1 with
    | none => rw [h2] at h; cases h
    | some v =>
      rw [h2] at h
      simp only at h
      cases h3 : unleb a.2 with
      | none => rw [h3] at h; cases h
      | some y =>
        rw [h3] at h
        simp only [Option.some.injEq] at h
        subst h
        have yb := unleb_bd ay h3
        refine ⟨?_, unleb_by ay h3⟩
        have hv : -9223372036854775808 ≤ v ∧ v ≤ 9223372036854775807 := by
          unfold rdV at h2
          cases p with
          | none => simp only [Option.some.injEq] at h2; rw [← h2]; exact uns_bd ab.1 ab.2
          | some q =>
            simp only at h2
            split at h2
            · cases h2
            · simp only [Option.some.injEq] at h2; rw [← h2]; unfold wrap64; omega
        simp only
        omega
theorem rdl_raw : ∀ (k : Nat) (acc : List Mn) (l : List Int) (x : List Mn × List Int), byL l → rawL acc → rdl k acc l = some x → rawL x.1 ∧ x.1.length = acc.length + k ∧ byL x.2
  | 0, acc, l, x, hb, hr, h => by simp only [rdl, Option.some.injEq] at h; subst h; exact ⟨hr, rfl, hb⟩
  | k + 1, acc, l, x, hb, hr, h => by
    rw [rdl] at h
    cases h1 : rdOne (acc.getLast?.map (·.1)) l with
    | none => rw [h1] at h; cases h
    | some y =>
      rw [h1] at h
      obtain ⟨a, b⟩ := rdOne_raw hb h1
      have := rdl_raw k (acc ++ [y.1]) y.2 x b (fun m hm => by
        rcases List.mem_append.1 hm with hm | hm
        · exact hr m hm
        · simp only [List.mem_singleton] at hm; subst hm; exact a) h
      refine ⟨this.1, ?_, this.2.2⟩
      rw [this.2.1]; simp; omega
theorem rdw_raw : ∀ (k : Nat) (acc : List Mn) (l : List Int) (x : List Mn × List Int), byL l → rawL acc → rdw k acc l = some x → rawL x.1 ∧ x.1.length = acc.length + k ∧ byL x.2
  | 0, acc, l, x, hb, hr, h => by simp only [rdw, Option.some.injEq] at h; subst h; exact ⟨hr, rfl, hb⟩
  | k + 1, acc, l, x, hb, hr, h => by
    rw [rdw] at h
    cases h1 : rdOne none l with
    | none => rw [h1] at h; cases h
    | some y =>
      rw [h1] at h
      obtain ⟨a, b⟩ := rdOne_raw hb h1
      have := rdw_raw k (acc ++ [y.1]) y.2 x b (fun m hm => by
        rcases List.mem_append.1 hm with hm | hm
        · exact hr m hm
        · simp only [List.mem_singleton] at hm; subst hm; exact a) h
      refine ⟨this.1, ?_, this.2.2⟩
      rw [this.2.1]; simp; omega
theorem rdMany_bd {l : List Int} {p : Nat × List Int} (hb : byL l) (h : rdMany l = some p) : p.1 ≤ 65536 ∧ byL p.2 := by
  unfold rdMany at h
  cases h1 : unleb l with
  | none => rw [h1] at h; cases h
  | some a =>
    rw [h1] at h
    simp only at h
    split at h
    · rename_i hc
      simp only [Option.some.injEq] at h
      subst h
      exact ⟨by simp only; omega, unleb_by hb h1⟩
    · cases h
theorem rdList_raw {l : List Int} {x : List Mn × List Int} (hb : byL l) (h : rdList l = some x) : rawL x.1 ∧ x.1.length ≤ 65536 ∧ byL x.2 := by
  unfold rdList at h
  cases h1 : rdMany l with
  | none => rw [h1] at h; cases h
  | some a =>
    rw [h1] at h
    obtain ⟨k1, k2⟩ := rdMany_bd hb h1
    obtain ⟨a1, a2, a3⟩ := rdl_raw a.1 [] a.2 x k2 (fun m hm => by cases hm) h
    exact ⟨a1, by rw [a2]; simpa using k1, a3⟩
theorem rdWait_raw {l : List Int} {x : List Mn × List Int} (hb : byL l) (h : rdWait l = some x) : rawL x.1 ∧ x.1.length ≤ 65536 ∧ byL x.2 := by
  unfold rdWait at h
  cases h1 : rdMany l with
  | none => rw [h1] at h; cases h
  | some a =>
    rw [h1] at h
    obtain ⟨k1, k2⟩ := rdMany_bd hb h1
    obtain ⟨a1, a2, a3⟩ := rdw_raw a.1 [] a.2 x k2 (fun m hm => by cases hm) h
    exact ⟨a1, by rw [a2]; simpa using k1, a3⟩
theorem suf_trans {l a b : List Int} (h1 : ∃ j, a = l.drop j) (h2 : ∃ j, b = a.drop j) : ∃ j, b = l.drop j := by
  obtain ⟨i, rfl⟩ := h1
  obtain ⟨j, rfl⟩ := h2
  exact ⟨i + j, by rw [List.drop_drop]⟩
theorem rdOne_suf {p : Option Int} {l : List Int} {x : Mn × List Int} (h : rdOne p l = some x) : ∃ j, x.2 = l.drop j := by
  unfold rdOne at h
  cases h1 : unleb l with
  | none => rw [h1] at h; cases h
  | some a =>
    rw [h1] at h
    simp only at h
    cases h2 : rdV p a.1 with
    | none => rw [h2] at h; cases h
    | some v =>
      rw [h2] at h
      simp only at h
      cases h3 : unleb a.2 with
      | none => rw [h3] at h; cases h
      | some y =>
        rw [h3] at h
        simp only [Option.some.injEq] at h
        subst h
        exact suf_trans (unleb_len h1).2 (unleb_len h3).2
theorem rdl_suf : ∀ (k : Nat) (acc : List Mn) (l : List Int) (x : List Mn × List Int), rdl k acc l = some x → ∃ j, x.2 = l.drop j
  | 0, acc, l, x, h => by simp only [rdl, Option.some.injEq] at h; subst h; exact ⟨0, by simp⟩
  | k + 1, acc, l, x, h => by
    rw [rdl] at h
    cases h1 : rdOne (acc.getLast?.map (·.1)) l with
    | none => rw [h1] at h; cases h
    | some y => rw [h1] at h; exact suf_trans (rdOne_suf h1) (rdl_suf k _ _ x h)
theorem rdw_suf : ∀ (k : Nat) (acc : List Mn) (l : List Int) (x : List Mn × List Int), rdw k acc l = some x → ∃ j, x.2 = l.drop j
  | 0, acc, l, x, h => by simp only [rdw, Option.some.injEq] at h; subst h; exact ⟨0, by simp⟩
  | k + 1, acc, l, x, h => by
    rw [rdw] at h
    cases h1 : rdOne none l with
    | none => rw [h1] at h; cases h
    | some y => rw [h1] at h; exact suf_trans (rdOne_suf h1) (rdw_suf k _ _ x h)
theorem rdMany_suf {l : List Int} {p : Nat × List Int} (h : rdMany l = some p) : ∃ j, p.2 = l.drop j := by
  unfold rdMany at h
  cases h1 : unleb l with
  | none => rw [h1] at h; cases h
  | some a =>
    rw [h1] at h
    simp only at h
    split at h
    · simp only [Option.some.injEq] at h; subst h; exact (unleb_len h1).2
    · cases h
theorem rdList_suf {l : List Int} {x : List Mn × List Int} (h : rdList l = some x) : ∃ j, x.2 = l.drop j := by
  unfold rdList at h
  cases h1 : rdMany l with
  | none => rw [h1] at h; cases h
  | some a => rw [h1] at h; exact suf_trans (rdMany_suf h1) (rdl_suf _ _ _ _ h)
theorem rdWait_suf {l : List Int} {x : List Mn × List Int} (h : rdWait l = some x) : ∃ j, x.2 = l.drop j := by
  unfold rdWait at h
  cases h1 : rdMany l with
  | none => rw [h1] at h; cases h
  | some a => rw [h1] at h; exact suf_trans (rdMany_suf h1) (rdw_suf _ _ _ _ h)
/-- What Read makes of bytes. -/
def readT (bs : List Int) : Option Rd5 := match rdD bs with
  | some (x, []) => if x.d ≤ 1000 ∧ rightI x.d x.lo x.hi x.L x.W = true ∧ wrD x.d x.L x.W x.lo x.hi = bs then some x else none
  | _ => none
/-- The whole of the bytes, or not. -/
def readFin (bs : List Int) (x : Rd5) : List Int → Option Rd5
  | [] => if x.d ≤ 1000 ∧ rightI x.d x.lo x.hi x.L x.W = true ∧ wrD x.d x.L x.W x.lo x.hi = bs then some x else none
  | _ :: _ => none
theorem readT_of {bs r1 r2 r3 r4 r5 : List Int} {d l h : Int} {L W : List Mn} (hA : unleb bs = some (d, r1)) (hB : unleb r1 = some (l, r2)) (hC : unleb r2 = some (h, r3)) (hD : rdList r3 = some (L, r4)) (hE : rdWait r4 = some (W, r5)) :
    readT bs = readFin bs ⟨d, uns l, uns h, L, W⟩ r5 := by
  unfold readT rdD
  rw [hA]; simp only
  rw [hB]; simp only
  rw [hC]; simp only
  rw [hD]; simp only
  rw [hE]
  cases r5 <;> rfl
theorem readT_d {bs r1 r2 r3 : List Int} {d l h : Int} (hA : unleb bs = some (d, r1)) (hB : unleb r1 = some (l, r2)) (hC : unleb r2 = some (h, r3)) (hD : rdList r3 = none) : readT bs = none := by
  unfold readT rdD
  rw [hA]; simp only
  rw [hB]; simp only
  rw [hC]; simp only
  rw [hD]
theorem readT_e {bs r1 r2 r3 r4 : List Int} {d l h : Int} {L : List Mn} (hA : unleb bs = some (d, r1)) (hB : unleb r1 = some (l, r2)) (hC : unleb r2 = some (h, r3)) (hD : rdList r3 = some (L, r4)) (hE : rdWait r4 = none) : readT bs = none := by
  unfold readT rdD
  rw [hA]; simp only
  rw [hB]; simp only
  rw [hC]; simp only
  rw [hD]; simp only
  rw [hE]
/-- What was written is read. -/
theorem readT_wrD {d lo hi : Int} {L W : List Mn} (d0 : 0 ≤ d) (d1 : d ≤ 9223372036854775807) (l0 : -9223372036854775808 ≤ lo) (l1 : lo ≤ 9223372036854775807) (h0 : -9223372036854775808 ≤ hi) (h1 : hi ≤ 9223372036854775807)
    (hL : rawL L) (hs : Rises L) (hW : rawL W) (nL : L.length ≤ 65536) (nW : W.length ≤ 65536) : readT (wrD d L W lo hi) = if rightI d lo hi L W = true then some ⟨d, lo, hi, L, W⟩ else none := by
  have h := rdD_wrD (r := []) d0 (by omega) l0 l1 h0 h1 hL hs hW nL nW
  rw [List.append_nil] at h
  unfold readT
  rw [h]
  simp only
  by_cases hr : rightI d lo hi L W = true
  · have hd : d ≤ 1000 := by
      have := hr
      unfold rightI at this
      simp only [Bool.and_eq_true, decide_eq_true_eq] at this
      omega
    rw [if_pos hr, if_pos ⟨hd, hr, trivial⟩]
  · rw [if_neg hr, if_neg (fun h => hr h.2.1)]
theorem readT_ok {bs : List Int} {x : Rd5} (h : readT bs = some x) : rightI x.d x.lo x.hi x.L x.W = true ∧ wrD x.d x.L x.W x.lo x.hi = bs := by
  unfold readT at h
  split at h
  · split at h
    · rename_i hc
      simp only [Option.some.injEq] at h
      subst h
      exact ⟨hc.2.1, hc.2.2⟩
    · cases h
  · cases h
end
end Go.Proofs.Ytedhpkfbobgkgaa
