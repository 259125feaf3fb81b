/- Short words for lemmas of the library. No condition. -/
import Derived.WalkKit
import Derived.WalkSpells
import Derived.WalkLawsBesides
import Derived.Lib.Hide
import Derived.Deep.QuietTactic
import Derived.BigQuiet
import Derived.Deep.RegionHeld3
import Derived.Deep.AppendLies
import Derived.Deep.DeepFit
import Derived.Deep.DeepCutAuto
import Derived.Deep.DeepMust
import Derived.Deep.Light
import Derived.Deep.LoopGhost
import Derived.Deep.CutBlock
import Derived.Deep.RegionLaw
import Derived.StillTailTactics
import Derived.Maps.AppendAt
import Derived.Laws.CopyOwn
import Derived.Laws.ResultCell
import Derived.Deep.Draws
import Derived.Handy
namespace Go.Proofs.YtkiebccnpheloaaGreat
open Go.RowKit
abbrev aB:=@Lib.hid
abbrev aC:=@List.getElem?_cons_zero
abbrev aF:=@List.getElem?_toArray
abbrev aG:=@List.getElem?_cons_succ
abbrev aH:=@Below.refl
abbrev aI:=@List.length_append
abbrev aJ:=@Exists.intro
abbrev aK:=@Nat.le_refl
abbrev aN:=@And.intro
abbrev aO:=@World.size_alloc
abbrev aP:=@List.length_cons
abbrev aQ:=@List.mem_cons_self
abbrev aS:=@List.append_assoc
abbrev aT:=@List.take_succ_eq_append_getElem
abbrev aU:=@Nat.lt_of_lt_of_le
abbrev aV:=@List.mem_cons_of_mem
abbrev aW:=@List.eq_nil_of_length_eq_zero
abbrev aX:=@IntKind.wrap_i64
abbrev aY:=@List.getElem?_eq_getElem
abbrev aZ:=@List.pairwise_cons
abbrev a_:=@List.mem_cons
abbrev bf:=@List.length_nil
abbrev bg:=@List.length_take
abbrev bn:=@List.length_drop
abbrev bu:=@List.getElem_mem
abbrev bC:=@Option.some.injEq
abbrev bD:=@List.drop_succ_cons
abbrev bF:=@Below.heap_setCell
abbrev bG:=@Nat.le_trans
abbrev bH:=@List.take_of_length_le
abbrev bJ:=@Nat.lt_or_ge
abbrev bK:=@List.length_singleton
abbrev bM:=@World.cell?_of_block
abbrev bP:=@List.setIfInBounds_toArray
abbrev bQ:=@List.drop_zero
abbrev bT:=@Nat.eq_zero_or_pos
abbrev bU:=@List.length_set
abbrev bV:=@Int.mul_assoc
abbrev bW:=@Nat.zero_le
abbrev bY:=@Int.toNat_natCast
abbrev bZ:=@World.size_setCell
abbrev b_:=@World.block_lt_of_cell?
abbrev cO:=@List.mem_append
abbrev cZ:=@Nat.mul_comm
abbrev df:=@IntKind.wrap_u64
abbrev dh:=@Int.natCast_add
abbrev di:=@List.getElem_append_left
abbrev dA:=@Below.setCell
abbrev dB:=@Below.alloc
theorem ae {p : Prop} (h : p := by omega) : p := h
theorem af {p : Prop} (h : p := by decide) : p := h
theorem ag {p : Prop} (h : p := by simp) : p := h
theorem ah {p : Prop} (h : p := by simp; omega) : p := h
theorem ai {p : Prop} (h : p := by go_num) : p := h
theorem aj {p : Prop} (h : p := by go_size) : p := h
theorem ak {p : Prop} (h : p := by rw [IntKind.wrap_i64]; omega) : p := h
theorem au {p : Prop} (h : p := by decide +kernel) : p := h
theorem ax {p : Prop} (h : p := by rfl) : p := h
end Go.Proofs.YtkiebccnpheloaaGreat
