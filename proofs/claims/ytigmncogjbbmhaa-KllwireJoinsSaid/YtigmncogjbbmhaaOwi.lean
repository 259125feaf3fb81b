/- Slices of numbers that a call made. No condition. -/
import Derived.Test.YtigmncogjbbmhaaLaw
import Derived.Test.YtigmncogjbbmhaaProg
namespace Go.Proofs.Ytigmncogjbbmhaa
open Go.RowKit Go.Lib

/-- A slice of numbers that is the call's own. -/
def OwnI (t : TypeId) (k : IntKind) (base : Nat) (w : World) (v : Value) (l : List Int) : Prop := w.ownsRow base t 1 v l.length (l.map (Value.int k))
section
variable {t : TypeId} {k : IntKind} {base : Nat} {w w' : World} {v : Value} {l : List Int}
theorem OwnI.rd (h : OwnI t k base w v l) : RdI k w v l := Rd.of_own h
theorem OwnI.alloc (h : OwnI t k base w v l) (o : Obj) : OwnI t k base (w.alloc o) v l := World.ownsRow.alloc h o
theorem OwnI.drewN (h : OwnI t k base w v l) (n : Nat) : OwnI t k base (w.drewN n) v l := h
theorem OwnI.drew (h : OwnI t k base w v l) : OwnI t k base w.drew v l := h
theorem OwnI.lt (h : OwnI t k base w v l) : ∀ g, v.ownBlock = some g → base ≤ g ∧ g < w.heap.size := World.ownsRow.lt h
theorem OwnI.stay (h : OwnI t k base w v l) (hk : ∀ g, v.ownBlock = some g → w'.heap[g]? = w.heap[g]?) : OwnI t k base w' v l := by
  obtain ⟨h1, h2⟩ := h
  refine ⟨h1, ?_⟩
  rcases h2 with h2 | ⟨g, cap, cur, rfl, e2, e3, r⟩
  · exact .inl h2
  · exact .inr ⟨g, cap, cur, rfl, e2, (hk g rfl).trans e3, r⟩
theorem OwnI.keep (h : OwnI t k base w v l) (hb : Below w.heap.size w w') : OwnI t k base w' v l := h.stay fun g hg => hb.block g (h.lt g hg).2
theorem OwnI.nil_ (t : TypeId) (k : IntKind) (base : Nat) (w : World) : OwnI t k base w (.slice none 0 0) [] := ⟨rfl, .inl ⟨rfl, rfl⟩⟩
theorem OwnI.one (t : TypeId) (k : IntKind) (w : World) (x : Int) : OwnI t k w.heap.size (w.alloc (.cells #[.int k x] t)) (.slice (some ⟨w.heap.size, 0, none⟩) 1 1) [x] :=
  ⟨rfl, .inr ⟨w.heap.size, 1, _, rfl, Nat.le_refl _, heap_alloc_new _ _, by simp, by unfold maxLen; omega, rfl, by simp⟩⟩
theorem RdI.one_at (t : TypeId) (k : IntKind) (w : World) (x : Int) (H : Nat) (h : w.heap.size = H) : RdI k (w.alloc (.cells #[.int k x] t)) (.slice (some ⟨H, 0, none⟩) 1 1) [x] := by
  subst h; exact (OwnI.one t k w x).rd
end
theorem infoU : (Try.prog.info? 26).map (fun i => (i.zero, i.size, i.bytes)) = some (some (.int .u64 0), 1, 8) := by kernel_rfl
theorem infoS : (Try.prog.info? 2).map (fun i => (i.zero, i.size, i.bytes)) = some (some (.int .i64 0), 1, 8) := by kernel_rfl
theorem int_one (k : IntKind) (l : List Int) : ∀ u ∈ l.map (Value.int k), u.oneCell' = true := fun u hu => by
  obtain ⟨x, _, rfl⟩ := List.mem_map.1 hu
  rfl
theorem append_I {ts t : TypeId} {k : IntKind} (ht : Try.prog.underlying ts = some (.slice t)) (hinfo : (Try.prog.info? t).map (fun i => (i.zero, i.size, i.bytes)) = some (some (.int k 0), 1, 8))
    {w : World} {ops : Array Oper} {rest : List Oper} {o : Oper} {a : Act} {Q : Exit → Act → World → Prop} (hgd : o.guard = none) (s x : Operand)
    (ho : o.op = .call { callee := .builtin .append, args := #[s, x], argTypes := #[ts, ts] })
    (base : Nat) (v : Value) (xs : List Int) (hs : a.eval s = v) (hown : OwnI t k base w v xs)
    (u : Value) (news : List Int) (hx : a.eval x = u) (hr : RdI k w u news)
    (hlen : xs.length + news.length ≤ 1099511627776) (hbase : base ≤ w.heap.size)
    (h : ∀ v' w', OwnI t k base w' v' (xs ++ news) → w.grownBy w' v.ownBlock → (v'.ownBlock = v.ownBlock ∨ v'.ownBlock = some w.heap.size) → wpList Try.prog ops Q rest (a.put o.dst v') w') : wpList Try.prog ops Q (o :: rest) a w := by
  obtain ⟨i0, hi, hz0, hz1, hz2⟩ := info_parts hinfo
  obtain ⟨A, c, rfl, _, _, _⟩ := hr.form
  refine wpList_append_rd w hgd s x ts ho base t i0 _ 1 8 ht hi hz0 hz1 hz2 rfl (by omega) v xs.length (xs.map (Value.int k)) hs hown A news.length c (news.map (Value.int k)) hx hr (int_one k _)
    (by unfold maxLen; omega) (by omega) hbase fun v' w' h1 h2 h3 => h v' w' ?_ h2 h3
  unfold OwnI
  rw [List.length_append, List.map_append]
  exact h1
end Go.Proofs.Ytigmncogjbbmhaa
