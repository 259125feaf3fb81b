/- Slices of numbers that came in, as rows. No condition. -/
import Derived.Test.YtigmncogjbbmhaaLaw
import Derived.Test.YtigmncogjbbmhaaKmA
namespace Go.Proofs.Ytigmncogjbbmhaa
open Go.RowKit

theorem cells_u8 : ∀ l : List Int, cellsE u8E l = l.map (Value.int .u8)
  | [] => rfl
  | x :: l => by rw [cellsE_cons, cells_u8 l]; rfl
theorem cells_u16 : ∀ l : List Int, cellsE u16E l = l.map (Value.int .u16)
  | [] => rfl
  | x :: l => by rw [cellsE_cons, cells_u16 l]; rfl
theorem rdE_u8 {w : World} {v : Value} {l : List Int} (h : RdI .u8 w v l) : RdE u8E w v l := by
  unfold RdE
  rw [cells_u8]; exact h
theorem rdE_u16 {w : World} {v : Value} {l : List Int} (h : RdI .u16 w v l) : RdE u16E w v l := by
  unfold RdE
  rw [cells_u16]; exact h
theorem rdE_i64 {w : World} {v : Value} {l : List Int} (h : RdI .i64 w v l) : RdE i64E w v l := rd_i64.2 h
end Go.Proofs.Ytigmncogjbbmhaa
