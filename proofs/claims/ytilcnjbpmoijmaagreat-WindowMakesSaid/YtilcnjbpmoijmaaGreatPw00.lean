/- Short words for lemmas of the library. No condition. -/
import Derived.Test.YtilcnjbpmoijmaaGreatProg
import Derived.WalkKit
import Derived.WalkSpells
import Derived.WalkLawsBesides
import Derived.Lib.Hide
import Derived.Deep.QuietTactic
import Derived.BigQuiet
import Derived.Deep.RegionHeld3
import Derived.Deep.AppendLies
import Derived.Deep.DeepFit
import Derived.Deep.DeepCutAuto
import Derived.Deep.DeepMust
import Derived.Deep.Light
import Derived.Deep.LoopGhost
import Derived.Deep.CutBlock
import Derived.Deep.RegionLaw
import Derived.StillTailTactics
import Derived.Maps.AppendAt
import Derived.Laws.CopyOwn
import Derived.Laws.ResultCell
import Derived.Deep.Draws
import Derived.Handy
theorem Go.RowKit.Hid.o {p : Prop} (h : Go.RowKit.Hid p) : p := h.out
namespace Go.Proofs.YtilcnjbpmoijmaaGreat
open Go.RowKit
abbrev aI:=@Lib.hid
abbrev aJ:=@List.getElem?_cons_zero
abbrev aK:=@List.getElem?_toArray
abbrev aN:=@List.getElem?_cons_succ
abbrev aO:=@Below.refl
abbrev aP:=@And.intro
abbrev aQ:=@List.length_append
abbrev aS:=@Nat.le_refl
abbrev aT:=@List.mem_cons_self
abbrev aU:=@List.length_cons
abbrev aV:=@World.size_alloc
abbrev aW:=@IntKind.wrap_i64
abbrev aX:=@List.append_assoc
abbrev aY:=@List.mem_cons_of_mem
abbrev aZ:=@List.pairwise_cons
abbrev a_:=@List.getElem?_eq_getElem
abbrev bf:=@List.getElem_mem
abbrev bg:=@List.take_succ_eq_append_getElem
abbrev bn:=@List.mem_cons
abbrev bu:=@List.length_drop
abbrev bz:=@List.eq_nil_of_length_eq_zero
abbrev bC:=@List.length_nil
abbrev bD:=@List.getD_eq_getElem?_getD
abbrev bF:=@Nat.lt_of_lt_of_le
abbrev bG:=@List.length_take
abbrev bH:=@Option.some.injEq
abbrev bJ:=@Nat.le_trans
abbrev bK:=@List.length_set
abbrev bM:=@Below.heap_setCell
abbrev bP:=@List.take_of_length_le
abbrev bQ:=@Nat.eq_zero_or_pos
abbrev bT:=@List.drop_succ_cons
abbrev bU:=@Int.mul_assoc
abbrev bV:=@Nat.lt_or_ge
abbrev bW:=@List.length_singleton
abbrev bY:=@List.setIfInBounds_toArray
abbrev bZ:=@World.block_lt_of_cell?
abbrev b_:=@List.length_replicate
abbrev cO:=@List.drop_zero
abbrev cZ:=@World.cell?_of_block
abbrev df:=@Nat.zero_le
abbrev dh:=@Exists.intro
abbrev di:=@Int.toNat_natCast
abbrev dA:=@World.size_setCell
abbrev dB:=@List.mem_append
abbrev dC:=@Nat.mul_comm
abbrev dD:=@IntKind.wrap_u64
abbrev dE:=@List.getElem_append_left
abbrev dF:=@Int.natCast_add
abbrev dG:=@Below.alloc
abbrev dH:=@List.length_map
abbrev dI:=@Below.setCell
theorem ae {p : Prop} (h : p := by omega) : p := h
theorem af {p : Prop} (h : p := by decide) : p := h
theorem ag {p : Prop} (h : p := by simp) : p := h
theorem ah {p : Prop} (h : p := by simp; omega) : p := h
theorem ai {p : Prop} (h : p := by go_num) : p := h
theorem aj {p : Prop} (h : p := by go_size) : p := h
theorem ak {p : Prop} (h : p := by rw [IntKind.wrap_i64]; omega) : p := h
theorem au {p : Prop} (h : p := by decide +kernel) : p := h
theorem ax {p : Prop} (h : p := by rfl) : p := h
abbrev aH:=Calls Tryz.prog
abbrev aG(w:World)(v:Value)(e:Ending)(w':World):Prop:=e=.returned v∧Below w.heap.size w w'
theorem aF{a:Type}(x:a):∃y,x=y:=⟨_,rfl⟩
end Go.Proofs.YtilcnjbpmoijmaaGreat
