/- A region that draws its order, whose head reads, reckons and calls functions that turn nothing of what is read: one walk in the order of the text. The head: n operations; what each yields is the same in every world that meets S, and S stands behind it. No program; the side conditions are the kit's own. -/
import Derived.Test.YtigmncogjbbmhaaSlice
import Derived.StillTail
namespace Go.Proofs.Ytigmncogjbbmhaa
open Go.RowKit

section
variable {P : Program} {ops : Array Oper} {md : Region.Mode} {S : World → Prop}

/-- Behind names that the walk does not open: the value u is v, and S stands; an ending returns v, and S stands. -/
def GiveV (S : World → Prop) (v u : Value) (w : World) : Prop := u = v ∧ S w
def EndV (S : World → Prop) (v : Value) (e : Ending) (w : World) : Prop := e = .returned v ∧ S w
/-- What an operation's run comes to: the value v, at once or by a call. -/
def Gives (P : Program) (S : World → Prop) (v : Value) : Result Next → Prop
  | .ok (.value u) w => GiveV S v u w
  | .ok (.enter f args) w => Calls P f args w (EndV S v)
  | _ => False
@[go_sem] theorem gives_value {v : Value} (u : Value) (w : World) : Gives P S v (.ok (.value u) w) = GiveV S v u w := rfl
@[go_sem] theorem gives_enter {v : Value} (f : FuncId) (args : Array Value) (w : World) : Gives P S v (.ok (.enter f args) w) = Calls P f args w (EndV S v) := rfl

/-- In state a, in every world that meets S, the operation yields v, and S stands. -/
def YieldsC (P : Program) (ops : Array Oper) (S : World → Prop) (o : Oper) (v : Value) (a : Act) : Prop :=
  (Region.wanted o (yielded ops a.tmps) = true ∧ ∀ w, S w → Gives P S v ((execOp a.eval o).run P w)) ∨
  (Region.wanted o (yielded ops a.tmps) = false ∧ v = undef)

theorem YieldsC.of_same {o : Oper} {v : Value} {a a' : Act} (hy : YieldsC P ops S o v a) (he : execOp a'.eval o = execOp a.eval o)
    (hw : Region.wanted o (yielded ops a'.tmps) = Region.wanted o (yielded ops a.tmps)) : YieldsC P ops S o v a' := by
  unfold YieldsC at *
  rw [he, hw]
  exact hy

theorem YieldsC.wpOp {Q : Exit → Act → World → Prop} {i : Nat} {o : Oper} {v : Value} {a : Act} (hi : ops[i]? = some o) (hy : YieldsC P ops S o v a)
    {K : Act → World → Prop} {w : World} (hS : S w) (h : ∀ w', S w' → K (a.put o.dst v) w') : Go.wpOp P ops Q i K a w := by
  unfold Go.wpOp
  simp only [hi]
  rcases hy with ⟨hw, hv⟩ | ⟨hw, rfl⟩
  · simp only [hw, if_true]
    refine .inl ?_
    have hg := hv w hS
    unfold Oper.wp
    generalize (execOp a.eval o).run P w = r at *
    cases r with
    | ok n w' =>
      cases n <;> simp only [Gives, GiveV, Oper.upon] at hg ⊢
      case value u => obtain ⟨rfl, hS'⟩ := hg; exact h _ hS'
      case enter f args =>
        refine Calls.mono hg fun e w'' he => ?_
        obtain ⟨rfl, hS'⟩ := he
        exact h _ hS'
    | halt x w' => simp only [Gives] at hg
  · simp only [hw, Bool.false_eq_true, if_false]; exact h _ hS

/-- The head, in whatever order: of the states alone. -/
def wpAnyC (P : Program) (md : Region.Mode) (ops : Array Oper) (S : World → Prop) (n : Nat) (L : Array Bool → Act → Prop) : Nat → Array Bool → Act → Prop
  | 0, listed, a => L listed a
  | f + 1, listed, a =>
    Region.ready md ops listed ≠ [] ∧ ∀ i ∈ Region.ready md ops listed, i < n ∧ ∃ o v, ops[i]? = some o ∧ YieldsC P ops S o v a ∧ wpAnyC P md ops S n L f (listed.setIfInBounds i true) (a.put o.dst v)

theorem wpAny_of_headC {n g : Nat} {L : Array Bool → Act → Prop} {Q : Exit → Act → World → Prop} (hL : ∀ listed a, L listed a → ∀ w, S w → wpAny P md ops Q g listed a w) :
    ∀ (f : Nat) (listed : Array Bool) (a : Act), wpAnyC P md ops S n L f listed a → ∀ w, S w → wpAny P md ops Q (f + g) listed a w
  | 0, listed, a, h, w, hS => by rw [Nat.zero_add]; exact hL _ _ h w hS
  | f + 1, listed, a, h, w, hS => by
    rw [show f + 1 + g = (f + g) + 1 by omega]
    refine ⟨fun h0 => absurd h0 h.1, fun i hi => ?_⟩
    obtain ⟨_, o, v, ho, hy, hn⟩ := h.2 i hi
    exact hy.wpOp ho hS fun w' hS' => wpAny_of_headC hL f _ _ hn w' hS'

/-- An operation that may come up now may be taken first. -/
theorem wpAnyC_first {n i : Nat} {oi : Oper} {v : Value} {L : Array Bool → Act → Prop} (hi : ops[i]? = some oi) (hsel : ∀ (j : Nat) (o : Oper) cs b, ops[j]? = some o → o.op ≠ .select cs b)
    (hs : Region.sinkB md ops n = true) (hc : Region.chainB md ops n = true) (hn : n < ops.size) (hin : i < n)
    (hdone : ∀ listed a, L listed a → ∀ j ∈ Region.ready md ops listed, n ≤ j) :
    ∀ (f : Nat) (listed : Array Bool) (a : Act), HeadInv md ops n listed →
      (∀ j oj, ops[j]? = some oj → j ≠ i → listed.getD j true = false → (∀ e ∈ oj.after, Region.binds md e = true → e.on ≠ i) → oi.apart ops oj = true) →
      i ∈ Region.ready md ops listed → YieldsC P ops S oi v a →
      wpAnyC P md ops S n L f (listed.setIfInBounds i true) (a.put oi.dst v) → wpAnyC P md ops S n L (f + 1) listed a := by
  intro f
  induction f with
  | zero =>
    intro listed a inv _ hr hy H
    have hun := (mem_ready.1 hr).1
    refine ⟨fun h => (by rw [h] at hr; cases hr), fun j hj => ?_⟩
    have hjn : j < n := by
      rcases Nat.lt_or_ge j n with h | h
      · exact h
      · exact absurd hj (tail_waits hs hc hn inv _ i rfl hin hun j h)
    refine ⟨hjn, ?_⟩
    by_cases hji : j = i
    · subst hji; exact ⟨oi, v, hi, hy, H⟩
    · have := hdone _ _ H j (ready_mono hj hji)
      omega
  | succ f ih =>
    intro listed a inv hfree hr hy H
    have hun := (mem_ready.1 hr).1
    refine ⟨fun h => (by rw [h] at hr; cases hr), fun j hj => ?_⟩
    have hjn : j < n := by
      rcases Nat.lt_or_ge j n with h | h
      · exact h
      · exact absurd hj (tail_waits hs hc hn inv _ i rfl hin hun j h)
    refine ⟨hjn, ?_⟩
    by_cases hji : j = i
    · subst hji; exact ⟨oi, v, hi, hy, H⟩
    · obtain ⟨_, oj, u, hoj, hyj, hnext⟩ := H.2 j (ready_mono hj hji)
      obtain ⟨hjun, oj', hoj', hall⟩ := mem_ready.1 hj
      have hojj : oj' = oj := Option.some.inj (hoj'.symm.trans hoj)
      subst hojj
      have hnot : ∀ e ∈ oj'.after, Region.binds md e = true → e.on ≠ i := fun e he hb heq => by
        have h1 := hall e he hb
        rw [heq, getD_both hun] at h1
        cases h1
      obtain ⟨h1, h2, h3⟩ := Oper.apart_spec (hfree j oj' hoj hji hjun hnot)
      have hfree' : ∀ k ok, ops[k]? = some ok → k ≠ i → (listed.setIfInBounds j true).getD k true = false →
          (∀ e ∈ ok.after, Region.binds md e = true → e.on ≠ i) → oi.apart ops ok = true := fun k ok hk hki hun' hno => by
        refine hfree k ok hk hki ?_ hno
        by_cases hjk : j = k
        · subst hjk; exact hjun
        · rw [getD_set_ne true hjk] at hun'; exact hun'
      have hyj' : YieldsC P ops S oj' u a := hyj.of_same (execOp_put oj' (fun cs b => hsel j oj' cs b hoj) a oi.dst v h1).symm (wanted_put oj' a oi.dst v h1).symm
      have hyi' : YieldsC P ops S oi v (a.put oj'.dst u) := hy.of_same (execOp_put oi (fun cs b => hsel i oi cs b hi) a oj'.dst u h3) (wanted_put oi a oj'.dst u h3)
      refine ⟨oj', u, hoj, hyj', ih _ _ (inv.set hj hjn) hfree' (ready_mono hr (Ne.symm hji)) hyi' ?_⟩
      rw [Array.setIfInBounds_comm _ _ hji, ← Act.put_comm a v u h2]
      exact hnext

/-- The head in the order of the text. -/
def wpHead (P : Program) (ops : Array Oper) (S : World → Prop) (Lq : Act → Prop) : List Oper → Act → Prop
  | [], a => Lq a
  | o :: rest, a => ∃ v, YieldsC P ops S o v a ∧ wpHead P ops S Lq rest (a.put o.dst v)

theorem wpAnyC_lex {n g : Nat} {Lq : Act → Prop} (hsel : Region.noSelect ops = true) (hs : Region.sinkB md ops n = true) (hc : Region.chainB md ops n = true) (hn : n < ops.size) :
    ∀ (l : List Oper) (k : Nat) (listed : Array Bool) (a : Act), (∀ j, j < l.length → l[j]? = ops[k + j]?) → k + l.length = n → HeadInv md ops n listed →
    Region.lexHead md ops g l.length k listed = true → wpHead P ops S Lq l a →
    wpAnyC P md ops S n (fun listed' a' => Region.seqB md ops g n listed' = true ∧ Lq a') l.length listed a
  | [], k, listed, a, _, hk, _, hB, h => by
    have : k = n := by simpa using hk
    subst this
    exact ⟨by simpa [Region.lexHead] using hB, h⟩
  | o :: l, k, listed, a, hl, hk, inv, hB, h => by
    have h0 : ops[k]? = some o := by simpa using (hl 0 (by simp)).symm
    simp only [List.length_cons, Region.lexHead, Bool.and_eq_true] at hB
    obtain ⟨⟨hr, hf⟩, hB'⟩ := hB
    have hkn : k < n := by simp only [List.length_cons] at hk; omega
    have hr' : k ∈ Region.ready md ops listed := by simpa using hr
    obtain ⟨v, hy, hK⟩ := h
    exact wpAnyC_first h0 (Region.noSelect_spec hsel) hs hc hn hkn (fun listed' a' hL => seqB_ready hL.1) l.length listed a inv (Region.free_spec h0 hf) hr' hy
      (wpAnyC_lex hsel hs hc hn l (k + 1) _ _ (fun j hj => by have := hl (j + 1) (by simp; omega); simpa [Nat.add_assoc, Nat.add_comm 1 j] using this) (by simp only [List.length_cons] at hk; omega) (inv.set hr' hkn) hB' hK)

theorem wp_region_head {id : Nat} {Q : Exit → Act → World → Prop} {a : Act} {w : World} {l : List Oper} (S : World → Prop) (n : Nat) (hm : P.follows .mixedOrders = true) (hB : Region.lexTailB .any l.toArray n = true)
    (hS : S w.drew) (h : wpHead P l.toArray S (fun a' => ∀ w', S w' → wpList P l.toArray Q (l.drop n) a' w') (l.take n) a) : (Code.region id l.toArray true).wp P Q a w := by
  simp only [Region.lexTailB, Bool.and_eq_true, decide_eq_true_eq] at hB
  obtain ⟨⟨⟨⟨hsel, hn⟩, hs⟩, hc⟩, hlex⟩ := hB
  have hn' : n < l.length := by simpa using hn
  have htl : (l.take n).length = n := by simp; omega
  have hdl : (l.drop n).length = l.toArray.size - n := by simp
  have inv0 : HeadInv .any l.toArray n (Array.replicate l.toArray.size false) :=
    ⟨by simp, fun j oj _ hl => (by rw [getD_replicate_false] at hl; cases hl), fun t _ ht => getD_in (by simpa using ht) (getD_replicate_false _ _)⟩
  have H := wpAnyC_lex (md := .any) (g := l.toArray.size - n) hsel hs hc hn (l.take n) 0 _ a (fun j hj => by
    have hj' : j < n := by rw [htl] at hj; exact hj
    simp [hj']) (by simpa using htl) inv0 (by rw [htl]; exact hlex) h
  refine wp_region_any hm ?_
  have := wpAny_of_headC (Q := Q) (g := l.toArray.size - n) (fun listed a' hL w' hS' => by
    have := wpAny_of_seq (md := .any) (Q' := Q) (l.drop n) n listed a' w' (fun j => by simp [List.getElem?_drop]) (by rw [hdl]; exact hL.1) (hL.2 w' hS')
    rwa [hdl] at this) _ _ _ H _ hS
  rw [htl, show n + (l.toArray.size - n) = l.toArray.size by omega] at this
  exact this

theorem wpHead_nil {Lq : Act → Prop} {a : Act} (h : Lq a) : wpHead P ops S Lq [] a := h
theorem wpHead_of {Lq : Act → Prop} {a : Act} {o : Oper} {rest : List Oper} (hw : Region.wanted o (yielded ops a.tmps) = true)
    (h : ∀ R : Act → Prop, (∀ a', wpHead P ops S Lq rest a' → R a') → ∃ v, (∀ w, S w → Gives P S v ((execOp a.eval o).run P w)) ∧ R (a.put o.dst v)) : wpHead P ops S Lq (o :: rest) a := by
  obtain ⟨v, h1, h2⟩ := h _ (fun _ h => h)
  exact ⟨v, .inl ⟨hw, h1⟩, h2⟩
theorem wpHead_val {Lq : Act → Prop} {a : Act} {o : Oper} {rest : List Oper} (v : Value) (hw : Region.wanted o (yielded ops a.tmps) = true) (h : ∀ w, S w → Gives P S v ((execOp a.eval o).run P w))
    (k : wpHead P ops S Lq rest (a.put o.dst v)) : wpHead P ops S Lq (o :: rest) a := ⟨v, .inl ⟨hw, h⟩, k⟩
theorem wpHead_skip {Lq : Act → Prop} {a : Act} {o : Oper} {rest : List Oper} (hw : Region.wanted o (yielded ops a.tmps) = false)
    (k : wpHead P ops S Lq rest (a.put o.dst undef)) : wpHead P ops S Lq (o :: rest) a := ⟨undef, .inr ⟨hw, rfl⟩, k⟩
end
end Go.Proofs.Ytigmncogjbbmhaa
