/- The kit's modules under one name, and small laws of memory. No condition. -/
import Derived.WalkKit
import Derived.WalkSpells
import Derived.WalkLawsBesides
import Derived.Lib.Hide
import Derived.Deep.QuietTactic
import Derived.BigQuiet
import Derived.Deep.RegionHeld3
import Derived.Deep.AppendLies
import Derived.Deep.DeepFit
import Derived.Deep.DeepCutAuto
import Derived.Deep.DeepMust
import Derived.Deep.Light
import Derived.Deep.LoopGhost
import Derived.Deep.CutBlock
import Derived.Deep.RegionLaw
import Derived.StillTailTactics
import Derived.Maps.AppendAt
import Derived.Laws.CopyOwn
import Derived.Laws.ResultCell
import Derived.Deep.Draws
import Derived.Handy
namespace Go.Proofs.Ytigmncogjbbmhaa
open Go.RowKit
theorem bcell {W w1 : World} (hb : Below W.heap.size W w1) : (∀ b o, b < W.heap.size → w1.cell? ⟨b, o, none⟩ = W.cell? ⟨b, o, none⟩) ∧ (∀ b o, b < W.heap.size → w1.frozen? ⟨b, o, none⟩ = W.frozen? ⟨b, o, none⟩) :=
  ⟨fun b o h => hb.cell (p := ⟨b, o, none⟩) h, fun b o h => hb.frozen (p := ⟨b, o, none⟩) h⟩
theorem ret_int {k : IntKind} {a b : Int} (h : a = b) : Ending.returned (.int k a) = .returned (.int k b) := by rw [h]
theorem ret_bool {a b : Bool} (h : a = b) : Ending.returned (.bool a) = .returned (.bool b) := by rw [h]
theorem below_of {B B' : Nat} {a b c : World} (h : Below B' b c) (hB : B ≤ B') (k : Below B a b) : Below B a c := k.trans (h.mono hB)
theorem below_drewN {B : Nat} {a w : World} (h : Below B a w) (n : Nat) : Below B a (w.drewN n) := ⟨h.os, h.tape, h.output, h.size, h.block⟩

/-! ### A block that is known whole -/
def Blk (w : World) (g : Nat) (t : TypeId) (cs : Array Value) : Prop := w.heap[g]? = some (.cells cs t (0, 0))
section
variable {w w' : World} {g : Nat} {t : TypeId} {cs : Array Value}
theorem Blk.lt (h : Blk w g t cs) : g < w.heap.size := by
  rcases Nat.lt_or_ge g w.heap.size with hlt | hge
  · exact hlt
  · unfold Blk at h; rw [Array.getElem?_eq_none hge] at h; cases h
theorem Blk.cell (h : Blk w g t cs) (i : Nat) : w.cell? ⟨g, i, none⟩ = cs[i]? := cell_of_row w g i cs t (0, 0) h
theorem Blk.frozen (h : Blk w g t cs) (i : Nat) : w.frozen? ⟨g, i, none⟩ = false := by
  unfold Blk at h
  simp [World.frozen?, h]
theorem Blk.new (w : World) (t : TypeId) (cs : Array Value) : Blk (w.alloc (.cells cs t)) w.heap.size t cs := heap_alloc_new w _
theorem Blk.drew (h : Blk w g t cs) : Blk w.drew g t cs := h
theorem Blk.drewN (h : Blk w g t cs) (n : Nat) : Blk (w.drewN n) g t cs := h
theorem Blk.alloc (h : Blk w g t cs) (o : Obj) : Blk (w.alloc o) g t cs := (Below.heap_alloc w o g h.lt).trans h
theorem Blk.set_ (h : Blk w g t cs) (i : Nat) (u : Value) : Blk (w.setCell ⟨g, i, none⟩ u) g t (cs.setIfInBounds i u) := by
  unfold Blk at h ⊢
  simp [World.setCell, Array.getElem?_modify, h]
theorem Blk.far (h : Blk w g t cs) {p : Addr} (hp : g ≠ p.block) (u : Value) : Blk (w.setCell p u) g t cs := (Below.heap_setCell w p u g hp).trans h
theorem Blk.below {B : Nat} (h : Blk w g t cs) (hb : Below B w w') (hg : g < B) : Blk w' g t cs := (hb.block g hg).trans h
theorem Blk.keep (h : Blk w g t cs) (hb : Below w.heap.size w w') : Blk w' g t cs := h.below hb h.lt
end

/-! ### A block of numbers of one kind -/
def IBlk (w : World) (g : Nat) (t : TypeId) (k : IntKind) (l : List Int) : Prop := Blk w g t (l.map (Value.int k)).toArray
section
variable {w w' : World} {g : Nat} {t : TypeId} {k : IntKind} {l : List Int}
theorem IBlk.lt (h : IBlk w g t k l) : g < w.heap.size := Blk.lt h
theorem IBlk.cell (h : IBlk w g t k l) {j : Nat} (hj : j < l.length) : w.cell? ⟨g, j, none⟩ = some (.int k (l[j]?.getD 0)) := by
  rw [Blk.cell h j]
  simp [List.getElem?_eq_getElem hj]
theorem IBlk.frozen (h : IBlk w g t k l) (j : Nat) : w.frozen? ⟨g, j, none⟩ = false := Blk.frozen h j
theorem IBlk.drew (h : IBlk w g t k l) : IBlk w.drew g t k l := h
theorem IBlk.drewN (h : IBlk w g t k l) (n : Nat) : IBlk (w.drewN n) g t k l := h
theorem IBlk.alloc (h : IBlk w g t k l) (o : Obj) : IBlk (w.alloc o) g t k l := Blk.alloc h o
theorem IBlk.set_ (h : IBlk w g t k l) (j : Nat) (v : Int) : IBlk (w.setCell ⟨g, j, none⟩ (.int k v)) g t k (l.set j v) := by
  unfold IBlk
  have := Blk.set_ h j (.int k v)
  rw [List.setIfInBounds_toArray, ← List.map_set] at this
  exact this
theorem IBlk.far (h : IBlk w g t k l) {p : Addr} (hp : g ≠ p.block) (u : Value) : IBlk (w.setCell p u) g t k l := Blk.far h hp u
theorem IBlk.below {B : Nat} (h : IBlk w g t k l) (hb : Below B w w') (hg : g < B) : IBlk w' g t k l := Blk.below h hb hg
theorem IBlk.keep (h : IBlk w g t k l) (hb : Below w.heap.size w w') : IBlk w' g t k l := Blk.keep h hb
end
end Go.Proofs.Ytigmncogjbbmhaa
