/- Labels and selectors: which they are, in plain Lean. No program, no condition. -/
import Derived.Test.YtmfocgaojbebgaaDoorSeq
import Derived.Lib.Split
namespace Go.Proofs.YtmfocgaojbebgaaDoor
open Go.RowKit

abbrev Tx := List UInt8
def bsOf (l : Tx) : ByteArray := ⟨l.toArray⟩
theorem bsOf_data (l : Tx) : (bsOf l).data.toList = l := by simp [bsOf]
theorem bsOf_toList (l : Tx) : (bsOf l).toList = l := by rw [ByteArray.toList_eq]; exact bsOf_data l
theorem bsOf_size (l : Tx) : (bsOf l).size = l.length := by show (bsOf l).data.size = _; simp [bsOf]
theorem bsOf_eta (s : ByteArray) : bsOf s.data.toList = s := by cases s; simp [bsOf]
theorem bsOf_inj {a b : Tx} (h : bsOf a = bsOf b) : a = b := by rw [← bsOf_data a, h, bsOf_data]
theorem ba_ext {a b : ByteArray} (h : a.data.toList = b.data.toList) : a = b := by rw [← bsOf_eta a, h, bsOf_eta]
theorem bsOf_append (a b : Tx) : bsOf a ++ bsOf b = bsOf (a ++ b) := ba_ext (by rw [ByteArray.data_append, Array.toList_append, bsOf_data, bsOf_data, bsOf_data])
theorem bsOf_take (l : Tx) (j : Nat) : (bsOf l).extract 0 j = bsOf (l.take j) := ba_ext (by rw [Lib.extract_from_zero, bsOf_data, bsOf_data])
theorem bsOf_drop (l : Tx) (i : Nat) : (bsOf l).extract i l.length = bsOf (l.drop i) := by
  refine ba_ext ?_
  have h := Lib.extract_to_end (bsOf l) i
  rw [bsOf_size] at h
  rw [h, bsOf_data, bsOf_data]
theorem ba_get (s : ByteArray) (i : Nat) (h : i < s.size) : s[i] = s.data.toList[i]'(by rw [Array.length_toList]; exact h) := rfl

/-! ### The order of texts -/
def lessT (a b : Tx) : Bool := Op.bytesLess a b
theorem lessT_nil (a : Tx) : lessT a [] = false := by cases a <;> rfl
theorem lessT_cons (a b : UInt8) (x y : Tx) : lessT (a :: x) (b :: y) = (decide (a < b) || (a == b && lessT x y)) := rfl
theorem lessT_irrefl : ∀ a : Tx, lessT a a = false
  | [] => rfl
  | a :: x => by rw [lessT_cons, lessT_irrefl x]; simp
theorem lessT_turn : ∀ a b : Tx, lessT b a = !(lessT a b || a == b)
  | [], [] => rfl
  | [], _ :: _ => rfl
  | _ :: _, [] => by simp [lessT, Op.bytesLess]
  | a :: x, b :: y => by
    rw [lessT_cons, lessT_cons, lessT_turn x y]
    rcases Nat.lt_trichotomy a.toNat b.toNat with h | h | h
    · have h1 : a < b := h
      have h2 : ¬ b < a := fun h3 => by have : b.toNat < a.toNat := h3; omega
      have h3 : (b == a) = false := by simp; rintro rfl; omega
      simp [h1, h2, h3]
    · have h1 : a = b := UInt8.toNat_inj.1 h
      subst h1
      simp
    · have h1 : b < a := h
      have h2 : ¬ a < b := fun h3 => by have : a.toNat < b.toNat := h3; omega
      have h3 : (a == b) = false := by simp; rintro rfl; omega
      simp [h1, h2, h3]
theorem lessT_trans : ∀ {a b c : Tx}, lessT a b = true → lessT b c = true → lessT a c = true
  | _, [], _, h, _ => by rw [lessT_nil] at h; cases h
  | _, _ :: _, [], _, h => by rw [lessT_nil] at h; cases h
  | [], _ :: _, _ :: _, _, _ => rfl
  | a :: x, b :: y, c :: z, h1, h2 => by
    rw [lessT_cons] at h1 h2 ⊢
    simp only [Bool.or_eq_true, decide_eq_true_eq, Bool.and_eq_true, beq_iff_eq] at h1 h2 ⊢
    rcases h1 with h1 | ⟨rfl, h1⟩
    · rcases h2 with h2 | ⟨rfl, h2⟩
      · exact .inl (by have h1' : a.toNat < b.toNat := h1; have h2' : b.toNat < c.toNat := h2; exact (by omega : a.toNat < c.toNat))
      · exact .inl h1
    · rcases h2 with h2 | ⟨rfl, h2⟩
      · exact .inl h2
      · exact .inr ⟨rfl, lessT_trans h1 h2⟩

/-! ### Names, values, sets -/
def letC (c : UInt8) : Bool := decide (97 ≤ c.toNat) && decide (c.toNat ≤ 122)
def nameC (c : UInt8) : Bool := letC c || (decide (48 ≤ c.toNat) && decide (c.toNat ≤ 57)) || c.toNat == 95
def valC (c : UInt8) : Bool := decide (33 ≤ c.toNat) && decide (c.toNat ≤ 126) && !(c.toNat == 44 || c.toNat == 61 || c.toNat == 33 || c.toNat == 126)
def nameB (s : Tx) : Bool := s.all nameC && decide (1 ≤ s.length) && decide (s.length ≤ 16) && letC (s.headD 0)
def valueB (s : Tx) : Bool := s.all valC && decide (s.length ≤ 32)
abbrev Lb := Tx × Tx
def labB (x : Lb) : Bool := nameB x.1 && valueB x.2 && !x.2.isEmpty
def riseB : List Lb → Bool
  | x :: y :: l => lessT x.1 y.1 && riseB (y :: l)
  | _ => true
def rightL (l : List Lb) : Bool := l.all labB && riseB l && decide (l.length ≤ 8)
theorem riseB_iff : ∀ l : List Lb, riseB l = true ↔ ∀ i (h : i + 1 < l.length), lessT l[i].1 l[i + 1].1 = true
  | [] => by simp [riseB]
  | [x] => by simp [riseB]
  | x :: y :: l => by
    rw [riseB, Bool.and_eq_true, riseB_iff (y :: l)]
    constructor
    · rintro ⟨h1, h2⟩ i hi
      match i with
      | 0 => exact h1
      | i + 1 => exact h2 i (by simpa using hi)
    · intro h
      exact ⟨h 0 (by simp), fun i hi => h (i + 1) (by simpa using hi)⟩

/-! ### Cutting -/
def spl (c : UInt8) : Tx → List Tx
  | [] => [[]]
  | x :: s => if x == c then [] :: spl c s else match spl c s with
    | [] => [[x]]
    | p :: r => (x :: p) :: r
def partsT (s : Tx) : List Tx := if s.isEmpty then [] else spl 44 s
theorem spl_ne (c : UInt8) : ∀ s, spl c s ≠ []
  | [] => by simp [spl]
  | x :: s => by
    unfold spl
    split
    · simp
    · split <;> simp
theorem spl_none {c : UInt8} : ∀ {s : Tx}, c ∉ s → spl c s = [s]
  | [], _ => rfl
  | x :: s, h => by
    have h1 : ¬ (x == c) = true := by simp; rintro rfl; exact h (by simp)
    rw [spl, if_neg h1, spl_none (fun h2 => h (List.mem_cons_of_mem _ h2))]
theorem spl_some {c : UInt8} (b : Tx) : ∀ {a : Tx}, c ∉ a → spl c (a ++ c :: b) = a :: spl c b
  | [], _ => by simp [spl]
  | x :: a, h => by
    have h1 : ¬ (x == c) = true := by simp; rintro rfl; exact h (by simp)
    rw [List.cons_append, spl, if_neg h1, spl_some b (fun h2 => h (List.mem_cons_of_mem _ h2))]
theorem spl_len (c : UInt8) : ∀ s : Tx, (spl c s).length ≤ s.length + 1
  | [] => by simp [spl]
  | x :: s => by
    have ih := spl_len c s
    have := spl_ne c s
    unfold spl
    split
    · simp only [List.length_cons]; omega
    · split
      · simp
      · rename_i p r h
        rw [h] at ih
        simp only [List.length_cons] at ih ⊢
        omega
theorem index_one (c : UInt8) : ∀ s : Tx, Lib.index s [c] = Lib.indexByte s c
  | [] => rfl
  | b :: s => by
    rw [Lib.index, Lib.indexByte, index_one c s]
    have : ([c].isPrefixOf (b :: s)) = (b == c) := by
      simp only [List.isPrefixOf, Bool.and_true]
      exact Bool.beq_comm ..
    rw [this]
theorem indexByte_cases (c : UInt8) : ∀ s : Tx, (Lib.indexByte s c = -1 ∧ c ∉ s) ∨ ∃ a b, s = a ++ c :: b ∧ c ∉ a ∧ Lib.indexByte s c = (a.length : Int)
  | [] => .inl ⟨rfl, by simp⟩
  | x :: s => by
    rw [Lib.indexByte]
    by_cases h : (x == c) = true
    · rw [if_pos h]
      have h1 : x = c := by simpa using h
      subst h1
      exact .inr ⟨[], s, rfl, by simp, rfl⟩
    · rw [if_neg h]
      have h1 : c ≠ x := fun e => h (by simp [e])
      rcases indexByte_cases c s with ⟨h2, h3⟩ | ⟨a, b, rfl, h2, h3⟩
      · rw [if_pos (by simp [h2])]
        exact .inl ⟨rfl, by simp [h1, h3]⟩
      · rw [if_neg (by rw [h3]; simp), h3]
        exact .inr ⟨x :: a, b, rfl, by simp [h1, h2], by simp⟩
theorem splitK_spl (c : UInt8) : ∀ (k : Nat) (s : Tx), Lib.count s [c] ≤ k → Lib.splitK [c] 0 k s = spl c s
  | 0, s, h => by
    rcases indexByte_cases c s with ⟨h2, h3⟩ | ⟨a, b, rfl, h2, h3⟩
    · rw [spl_none h3]; rfl
    · rw [← index_one] at h3
      rw [Lib.count_hit (by simp) h3] at h
      omega
  | k + 1, s, h => by
    rw [Lib.splitK]
    rcases indexByte_cases c s with ⟨h2, h3⟩ | ⟨a, b, rfl, h2, h3⟩
    · rw [← index_one] at h2
      rw [if_pos (by simp [h2]), spl_none h3]
    · rw [← index_one] at h3
      rw [Lib.count_hit (by simp) h3] at h
      have e1 : (a ++ c :: b).take a.length = a := by simp
      have e2 : (a ++ c :: b).drop (a.length + 1) = b := by rw [List.drop_append]; simp
      rw [List.length_singleton, e2] at h
      rw [if_neg (by rw [h3]; simp), h3, spl_some b h2, Int.toNat_natCast, Nat.add_zero, List.length_singleton, e1, e2, splitK_spl c k b (by omega)]
theorem split_spl (c : UInt8) (s : Tx) : Lib.split s [c] = spl c s := splitK_spl c _ s (Nat.le_refl _)
theorem splitK_len (c : UInt8) : ∀ (k : Nat) (s : Tx), Lib.count s [c] = k → (Lib.splitK [c] 0 k s).length = k + 1
  | 0, s, _ => rfl
  | k + 1, s, h => by
    rw [Lib.splitK]
    rcases indexByte_cases c s with ⟨h2, h3⟩ | ⟨a, b, rfl, h2, h3⟩
    · rw [← index_one] at h2
      rw [Lib.count_miss h2] at h
      omega
    · rw [← index_one] at h3
      rw [Lib.count_hit (by simp) h3] at h
      have e2 : (a ++ c :: b).drop (a.length + 1) = b := by rw [List.drop_append]; simp
      rw [List.length_singleton, e2] at h
      rw [if_neg (by rw [h3]; simp), h3, Int.toNat_natCast, List.length_singleton, e2, List.length_cons, splitK_len c k b (by omega)]
/-- What strings.Split makes, at a letter. -/
theorem splitB_spl (s : ByteArray) (c : UInt8) : Lib.splitB (bsOf [c]) 0 (Lib.countB s (bsOf [c])) s = (spl c s.data.toList).map bsOf ∧ Lib.countB s (bsOf [c]) + 1 = (spl c s.data.toList).length := by
  have h := Lib.splitB_data (bsOf [c]) 0 (Lib.countB s (bsOf [c])) s
  have hc : Lib.countB s (bsOf [c]) = Lib.count s.data.toList [c] := by unfold Lib.countB; rw [bsOf_data]
  rw [bsOf_data] at h
  have h2 : Lib.splitK [c] 0 (Lib.countB s (bsOf [c])) s.data.toList = spl c s.data.toList := splitK_spl c _ _ (by rw [hc]; exact Nat.le_refl _)
  rw [h2] at h
  refine ⟨?_, ?_⟩
  · rw [← h, List.map_map]
    conv => lhs; rw [← List.map_id (Lib.splitB (bsOf [c]) 0 (Lib.countB s (bsOf [c])) s)]
    exact List.map_congr_left fun x _ => (bsOf_eta x).symm
  · rw [← h2, hc, splitK_len c _ _ rfl]
def cutE : Tx → Option Lb
  | [] => none
  | x :: s => if x == 61 then some ([], s) else (cutE s).map fun p => (x :: p.1, p.2)
theorem cutE_none : ∀ {s : Tx}, 61 ∉ s → cutE s = none
  | [], _ => rfl
  | x :: s, h => by
    have h1 : ¬ (x == 61) = true := by simp; rintro rfl; exact h (by simp)
    rw [cutE, if_neg h1, cutE_none (fun h2 => h (List.mem_cons_of_mem _ h2))]; rfl
theorem cutE_some (b : Tx) : ∀ {a : Tx}, 61 ∉ a → cutE (a ++ 61 :: b) = some (a, b)
  | [], _ => by simp [cutE]
  | x :: a, h => by
    have h1 : ¬ (x == 61) = true := by simp; rintro rfl; exact h (by simp)
    rw [List.cons_append, cutE, if_neg h1, cutE_some b (fun h2 => h (List.mem_cons_of_mem _ h2))]; rfl
theorem lib_cut (s : Tx) : Lib.cut s [61] = match cutE s with | some p => (p.1, p.2, true) | none => (s, [], false) := by
  unfold Lib.cut
  rcases indexByte_cases 61 s with ⟨h2, h3⟩ | ⟨a, b, rfl, h2, h3⟩
  · rw [← index_one] at h2
    rw [if_neg (by omega), cutE_none h3]
  · rw [← index_one] at h3
    have e2 : (a ++ 61 :: b).drop (a.length + 1) = b := by rw [List.drop_append]; simp
    rw [if_pos (by omega), h3, cutE_some b h2, Int.toNat_natCast, List.length_singleton, e2]
    simp

/-! ### Parsing -/
def insT (x : Lb) : List Lb → List Lb
  | [] => [x]
  | y :: l => if lessT x.1 y.1 then x :: y :: l else y :: insT x l
def srtT (l : List Lb) : List Lb := l.foldl (fun o x => insT x o) []
theorem srtT_snoc (l : List Lb) (x : Lb) : srtT (l ++ [x]) = insT x (srtT l) := by simp [srtT]
theorem insT_length (x : Lb) : ∀ l, (insT x l).length = l.length + 1
  | [] => rfl
  | y :: l => by
    unfold insT
    split
    · rfl
    · rw [List.length_cons, insT_length x l, List.length_cons]
theorem srtT_length (l : List Lb) : (srtT l).length = l.length := by
  have key : ∀ (l o : List Lb), (l.foldl (fun o x => insT x o) o).length = o.length + l.length := by
    intro l
    induction l with
    | nil => intro o; rfl
    | cons x l ih => intro o; rw [List.foldl_cons, ih, insT_length, List.length_cons]; omega
  rw [srtT, key]; simp
def cutL (ps : List Tx) : Option (List Lb) := ps.mapM cutE
def parseT (s : Tx) : Option (List Lb) := if 8 < (partsT s).length then none else match cutL (partsT s) with
  | none => none
  | some l => if rightL (srtT l) then some (srtT l) else none
def itemT (x : Lb) : Tx := x.1 ++ 61 :: x.2
def textT : List Lb → Tx
  | [] => []
  | [x] => itemT x
  | x :: y :: l => itemT x ++ 44 :: textT (y :: l)
theorem textT_snoc (x : Lb) : ∀ l : List Lb, l ≠ [] → textT (l ++ [x]) = textT l ++ 44 :: itemT x
  | [], h => absurd rfl h
  | [y], _ => rfl
  | y :: z :: l, _ => by
    have := textT_snoc x (z :: l) (by simp)
    rw [List.cons_append] at this
    rw [List.cons_append, List.cons_append, textT, this, textT, List.append_assoc, List.cons_append]
theorem insT_last {x : Lb} : ∀ {l : List Lb}, (∀ y ∈ l, lessT x.1 y.1 = false) → insT x l = l ++ [x]
  | [], _ => rfl
  | y :: l, h => by
    unfold insT
    rw [if_neg (by simp [h y (by simp)]), insT_last (fun z hz => h z (List.mem_cons_of_mem _ hz)), List.cons_append]
theorem rise_lt {l : List Lb} (h : riseB l = true) : ∀ (i j : Nat) (hi : i < j) (hj : j < l.length), lessT l[i].1 l[j].1 = true := by
  intro i j hi hj
  rw [riseB_iff] at h
  induction j with
  | zero => omega
  | succ j ih =>
    rcases Nat.lt_or_ge i j with h1 | h1
    · exact lessT_trans (ih h1 (by omega)) (h j hj)
    · have : i = j := by omega
      subst this
      exact h i hj
theorem rise_take {l : List Lb} (h : riseB l = true) (k : Nat) : riseB (l.take k) = true := by
  rw [riseB_iff] at h ⊢
  intro i hi
  rw [List.length_take] at hi
  rw [List.getElem_take, List.getElem_take]
  exact h i (by omega)
theorem srtT_rise {l : List Lb} (h : riseB l = true) : srtT l = l := by
  have key : ∀ k, k ≤ l.length → srtT (l.take k) = l.take k := by
    intro k
    induction k with
    | zero => intro _; simp [srtT]
    | succ k ih =>
      intro hk
      rw [List.take_succ_eq_append_getElem hk, srtT_snoc, ih (by omega)]
      refine insT_last fun y hy => ?_
      obtain ⟨i, hi, rfl⟩ := List.getElem_of_mem hy
      rw [List.length_take] at hi
      rw [List.getElem_take]
      have h1 := rise_lt h i k (by omega) hk
      rw [lessT_turn, h1]
      rfl
  have := key l.length (Nat.le_refl _)
  rwa [List.take_length] at this
theorem name_no {s : Tx} (h : nameB s = true) : (44 : UInt8) ∉ s ∧ (61 : UInt8) ∉ s := by
  unfold nameB at h
  simp only [Bool.and_eq_true, List.all_eq_true] at h
  exact ⟨fun h1 => by have := h.1.1.1 _ h1; revert this; decide, fun h1 => by have := h.1.1.1 _ h1; revert this; decide⟩
theorem value_no {s : Tx} (h : valueB s = true) : (44 : UInt8) ∉ s := by
  unfold valueB at h
  simp only [Bool.and_eq_true, List.all_eq_true] at h
  exact fun h1 => by have := h.1 _ h1; revert this; decide
theorem item_no {x : Lb} (h : labB x = true) : (44 : UInt8) ∉ itemT x := by
  unfold labB at h
  simp only [Bool.and_eq_true] at h
  unfold itemT
  intro h1
  rcases List.mem_append.1 h1 with h2 | h2
  · exact (name_no h.1.1).1 h2
  · rcases List.mem_cons.1 h2 with h3 | h3
    · cases h3
    · exact value_no h.1.2 h3
theorem spl_text : ∀ {l : List Lb}, l ≠ [] → l.all labB = true → spl 44 (textT l) = l.map itemT
  | [], h, _ => absurd rfl h
  | [x], _, h => by
    simp only [List.all_cons, List.all_nil, Bool.and_true] at h
    exact spl_none (item_no h)
  | x :: y :: l, _, h => by
    rw [List.all_cons, Bool.and_eq_true] at h
    rw [textT, spl_some _ (item_no h.1), spl_text (by simp) h.2]
    rfl
theorem cutL_items : ∀ {l : List Lb}, l.all labB = true → cutL (l.map itemT) = some l
  | [], _ => rfl
  | x :: l, h => by
    rw [List.all_cons, Bool.and_eq_true] at h
    have h1 := h.1
    unfold labB at h1
    simp only [Bool.and_eq_true] at h1
    have ih := cutL_items h.2
    unfold cutL at ih ⊢
    rw [List.map_cons, List.mapM_cons, show itemT x = x.1 ++ 61 :: x.2 from rfl, cutE_some _ (name_no h1.1.1).2, ih]
    rfl
/-- What a set's text is read as. -/
theorem parse_text {l : List Lb} (h : rightL l = true) : parseT (textT l) = some l := by
  have h0 := h
  unfold rightL at h
  simp only [Bool.and_eq_true, decide_eq_true_eq] at h
  have hp : partsT (textT l) = l.map itemT := by
    unfold partsT
    cases l with
    | nil => rfl
    | cons x l =>
      have hne : textT (x :: l) ≠ [] := by
        cases l <;> simp [textT, itemT]
      rw [if_neg (by simpa using hne), spl_text (by simp) h.1.1]
  unfold parseT
  rw [hp, List.length_map, if_neg (by omega), cutL_items h.1.1]
  simp only
  rw [srtT_rise h.1.2, if_pos h0]
theorem parse_right {s : Tx} {l : List Lb} (h : parseT s = some l) : rightL l = true := by
  unfold parseT at h
  split at h
  · cases h
  · split at h
    · cases h
    · split at h
      · simp only [Option.some.injEq] at h
        subst h
        assumption
      · cases h

/-! ### Selectors -/
abbrev Cd := Tx × Tx × Tx
def isOp (c : UInt8) : Bool := c == 61 || c == 33 || c == 126
def opAt : Tx → Nat
  | [] => 0
  | c :: s => if isOp c then 0 else opAt s + 1
def signT : Tx → Option (Tx × Tx)
  | 33 :: 61 :: v => some ([33, 61], v)
  | 33 :: 126 :: v => some ([33, 126], v)
  | 61 :: v => some ([61], v)
  | 126 :: v => some ([126], v)
  | _ => none
def condT (s : Tx) : Option Cd := match signT (s.drop (opAt s)) with
  | none => none
  | some p => if nameB (s.take (opAt s)) && valueB p.2 then some (s.take (opAt s), p.1, p.2) else none
def selT (s : Tx) : Option (List Cd) := if 8 < (partsT s).length then none else (partsT s).mapM condT
def getT (l : List Lb) (n : Tx) : Tx := match l with
  | [] => []
  | x :: l => if x.1 == n then x.2 else getT l n
def holdsT (l : List Lb) (c : Cd) : Bool :=
  if c.2.1 == [61] then getT l c.1 == c.2.2
  else if c.2.1 == [33, 61] then !(getT l c.1 == c.2.2)
  else if c.2.1 == [126] then c.2.2.isPrefixOf (getT l c.1)
  else if c.2.1 == [33, 126] then !(c.2.2.isPrefixOf (getT l c.1))
  else false
def fitsT (l : List Lb) (c : List Cd) : Bool := rightL l && c.all (holdsT l)
end Go.Proofs.YtmfocgaojbebgaaDoor
