/- Terms of a mean, as a slice of one's own; the mean of a list, or none. Of a digest: its mean. Condition: a state within the bounds. -/
import Derived.Test.YtigmncogjbbmhaaMeanW
namespace Go.Proofs.Ytigmncogjbbmhaa
open Go.RowKit Go.Lib

/-- A slice of terms that is the call's own. -/
def OwnT (base : Nat) (w : World) (v : Value) (l : List Mn) : Prop := w.ownsRow base 121 2 v l.length (cellsM l)
theorem OwnT.rd {base : Nat} {w : World} {v : Value} {l : List Mn} (h : OwnT base w v l) : RdM w v l := Rd.of_own h
theorem OwnT.nil_ (base : Nat) (w : World) : OwnT base w (.slice none 0 0) [] := World.ownsRow_nil w base _ _
theorem OwnT.alloc {base : Nat} {w : World} {v : Value} {l : List Mn} (h : OwnT base w v l) (o : Obj) : OwnT base (w.alloc o) v l := World.ownsRow.alloc h o
theorem OwnT.drewN {base : Nat} {w : World} {v : Value} {l : List Mn} (h : OwnT base w v l) (n : Nat) : OwnT base (w.drewN n) v l := h
theorem OwnT.lt {base : Nat} {w : World} {v : Value} {l : List Mn} (h : OwnT base w v l) : ∀ g, v.ownBlock = some g → base ≤ g ∧ g < w.heap.size := World.ownsRow.lt h
theorem OwnT.one (w : World) (m : Mn) : OwnT w.heap.size (w.alloc (.cells #[.int .i64 m.1, .int .u64 m.2] 121)) (.slice (some ⟨w.heap.size, 0, none⟩) 1 1) [m] :=
  ⟨rfl, .inr ⟨w.heap.size, 1, _, rfl, Nat.le_refl _, heap_alloc_new _ _, by simp, by unfold maxLen; omega, rfl, by simp [cellsM, encM]⟩⟩
theorem RdM.oneT_at (w : World) (m : Mn) (H : Nat) (h : w.heap.size = H) : RdM (w.alloc (.cells #[.int .i64 m.1, .int .u64 m.2] 121)) (.slice (some ⟨H, 0, none⟩) 1 1) [m] := by
  subst h; exact (OwnT.one w m).rd
theorem infoT : (Try.prog.info? 121).map (fun i => (i.zero, i.size, i.bytes)) = some (some (.agg #[.int .i64 0, .int .u64 0]), 2, 16) := by kernel_rfl
theorem append_T {w : World} {ops : Array Oper} {rest : List Oper} {o : Oper} {a : Act} {Q : Exit → Act → World → Prop} (hgd : o.guard = none) (s x : Operand)
    (ho : o.op = .call { callee := .builtin .append, args := #[s, x], argTypes := #[119, 119] })
    (base : Nat) (v : Value) (xs : List Mn) (hs : a.eval s = v) (hown : OwnT base w v xs)
    (u : Value) (news : List Mn) (hx : a.eval x = u) (hr : RdM w u news)
    (hlen : xs.length + news.length ≤ 1099511627776) (hbase : base ≤ w.heap.size)
    (h : ∀ v' w', OwnT base w' v' (xs ++ news) → w.grownBy w' v.ownBlock → (v'.ownBlock = v.ownBlock ∨ v'.ownBlock = some w.heap.size) → wpList Try.prog ops Q rest (a.put o.dst v') w') : wpList Try.prog ops Q (o :: rest) a w := by
  obtain ⟨i0, hi, hz0, hz1, hz2⟩ := info_parts infoT
  obtain ⟨A, c, rfl, _, _, _⟩ := hr.form
  refine wpList_append_rd w hgd s x 119 ho base 121 i0 _ 2 16 Try.underlying119 hi hz0 hz1 hz2 rfl (by omega) v xs.length (cellsM xs) hs hown A news.length c (cellsM news) hx hr (cellsM_one _)
    (by unfold maxLen; omega) (by omega) hbase fun v' w' h1 h2 h3 => h v' w' ?_ h2 h3
  unfold OwnT
  rw [List.length_append, cellsM_append]
  exact h1

/-- What the mean of a digest is: the number, and the error. -/
def meanR (l : List Mn) : Int × Int := if l.length = 0 then (0, 8) else (meanI l, 0)

end Go.Proofs.Ytigmncogjbbmhaa
