/-
  No cell of these rows narrows 'for every input' (looked for: loops, veiled, ifaces, maps, wideKeys, modest, calm, conditions, laid).
  DERIVED. THE GIVEN ROWS OF THIS SEAT. 2 by the template 'for every input the law returns true; each argument reads behind the call as it read before'; 0 by the template 'total and deterministic' (their statements: YtingnldfpokckaaGreatTotals.lean).
  GIVEN WITH THE SEED: the statements are not yours to turn. If you find one false, say at which input.
  Laid BY PROGRAM, IN A SANDBOX (cutbox-rows.mjs): the forced cells as the released guide's own fill.sh prints them over the translation 6b6ca385cb0e86f0… (all of the seat's roots in one cut). By AI agents, Wed Nov 11 2026. No macro, syntax, notation, axiom, sorry.
-/
import Derived.Test.YtingnldfpokckaaGreatChecked
import GoSem.Claim
import GoSem.ClaimJoined
import GoSem.ClaimMapViews
import Derived.JoinedTies
import Derived.KernelRfl
namespace Go.Proofs.YtingnldfpokckaaGreat
/- THE CELL 'sum', in the pinned program and in every row, IS THE sha256 OF THE DUMP (.gsa) THAT YtingnldfpokckaaGreatProg.lean LOADS. Nothing in Lean hashes anything: it is a label: what it is worth is what the hold of that sum in a sandbox is worth. -/
noncomputable def Tryz.pinned : Pinned := { name := "ytingnldfpokckaagreat", sum := "6b6ca385cb0e86f09f32ac2995f8142db6af4d3eba7e055ec1ac1ebbf1284bf1", checked := Tryz.checked }
namespace Rows
def none {H : Type} : Left H := { results := [], args := [] }

/-- 'theodolitelaw27.JoinMakes': WHATEVER THE INPUT: true; the input reads as it did. -/
def joinMakesSpec : ChangeSpec := { name := "joinMakes", fn := fun _ => fun
  | [d1, d2] => { results := [.lit (.bool true)], args := [d1, d2] }
  | _ => none }
def joinMakesRow : OpenClaim := { program := "ytingnldfpokckaagreat", sum := "6b6ca385cb0e86f09f32ac2995f8142db6af4d3eba7e055ec1ac1ebbf1284bf1", func := "theodolite/theodolitelaw27.JoinMakes", spec := "joinMakes", inPlace := ["slices.overlaps[theodolite/api.Pair]", "math/bits.Add64"], unfollowed := true, recurses := true, named := ["math/bits.divideError", "math/bits.overflowError"], plainKeys := false, apart := false }
def JoinMakesSaid : Prop := joinMakesRow.holds Tryz.pinned (OpenSpec.ofChange joinMakesSpec)

/-- ITS FALSE NEIGHBOUR: 'it returns false'. Refute it at one input. -/
def joinMakesWrong : ChangeSpec := { name := "joinMakes", fn := fun _ => fun
  | [d1, d2] => { results := [.lit (.bool false)], args := [d1, d2] }
  | _ => none }
def JoinMakesWrongFalsely : Prop := joinMakesRow.holds Tryz.pinned (OpenSpec.ofChange joinMakesWrong)

/-- 'theodolitelaw28.SuiteFull': WHATEVER THE INPUT: true; the input reads as it did. -/
def suiteFullSpec : ChangeSpec := { name := "suiteFull", fn := fun _ => fun
  | [d1, d2, d3] => { results := [.lit (.bool true)], args := [d1, d2, d3] }
  | _ => none }
def suiteFullRow : OpenClaim := { program := "ytingnldfpokckaagreat", sum := "6b6ca385cb0e86f09f32ac2995f8142db6af4d3eba7e055ec1ac1ebbf1284bf1", func := "theodolite/theodolitelaw28.SuiteFull", spec := "suiteFull", inPlace := ["slices.overlaps[theodolite/api.Pair]", "math/bits.Add64"], unfollowed := true, recurses := true, named := ["math/bits.divideError", "math/bits.overflowError"], plainKeys := false, apart := false }
def SuiteFullSaid : Prop := suiteFullRow.holds Tryz.pinned (OpenSpec.ofChange suiteFullSpec)

/-- ITS FALSE NEIGHBOUR: 'it returns false'. Refute it at one input. -/
def suiteFullWrong : ChangeSpec := { name := "suiteFull", fn := fun _ => fun
  | [d1, d2, d3] => { results := [.lit (.bool false)], args := [d1, d2, d3] }
  | _ => none }
def SuiteFullWrongFalsely : Prop := suiteFullRow.holds Tryz.pinned (OpenSpec.ofChange suiteFullWrong)

/- THE SECOND FORM. 'bulk': how many values and letters a reading holds, each counted each time it is reached (what is shared counts as often as it is met; a slice's spare places count too). A statement '..UptoSaid' is the law's where the arguments, and the package variables that the reading takes, are together of bulk at most 1048576: NARROWER than '..Said'. Prove '..Said' where nothing that the law and all that it calls make is longer than what came in: it says more and counts as full. Else prove '..UptoSaid'. A law counts once. -/
mutual
def uptoBulk {H : Type} : DataW H → Nat
  | .lit (.string bytes) => bytes.length + 1
  | .lit _ => 1
  | .nil => 1
  | .ptr d => uptoBulk d + 1
  | .slice elems spare => uptoBulkAll elems + uptoBulkAll spare + 1
  | .agg parts => uptoBulkAll parts + 1
  | .iface _ d => uptoBulk d + 1
  | .map entries => uptoBulkEntries entries + 1
  | .held _ => 1
def uptoBulkAll {H : Type} : List (DataW H) → Nat
  | [] => 0
  | d :: r => uptoBulk d + uptoBulkAll r
def uptoBulkEntries {H : Type} : List (Lit × DataW H) → Nat
  | [] => 0
  | x :: r => uptoBulkEntry x + uptoBulkEntries r
def uptoBulkEntry {H : Type} : Lit × DataW H → Nat
  | (.string bytes, d) => bytes.length + uptoBulk d + 1
  | (_, d) => uptoBulk d + 1
 end
def uptoSmall : (H : Type) → List (DataW H) → Bool := fun _ ds => decide (uptoBulkAll ds ≤ 1048576)
def OpenSpec.upto (s : _root_.Go.ChangeSpec) : _root_.Go.OpenSpec := { _root_.Go.OpenSpec.ofChange s with cond := some uptoSmall }

/-- 'theodolitelaw27.JoinMakes', WHERE WHAT IT READS IS OF BULK AT MOST 1048576: true; the input reads as it did. -/
def joinMakesUptoRow : OpenClaim := { program := "ytingnldfpokckaagreat", sum := "6b6ca385cb0e86f09f32ac2995f8142db6af4d3eba7e055ec1ac1ebbf1284bf1", func := "theodolite/theodolitelaw27.JoinMakes", spec := "joinMakes", inPlace := ["slices.overlaps[theodolite/api.Pair]", "math/bits.Add64"], unfollowed := true, recurses := true, named := ["math/bits.divideError", "math/bits.overflowError"], plainKeys := false, apart := false, narrowed := true }
def JoinMakesUptoSaid : Prop := joinMakesUptoRow.holds Tryz.pinned (OpenSpec.upto joinMakesSpec)

/-- 'theodolitelaw28.SuiteFull', WHERE WHAT IT READS IS OF BULK AT MOST 1048576: true; the input reads as it did. -/
def suiteFullUptoRow : OpenClaim := { program := "ytingnldfpokckaagreat", sum := "6b6ca385cb0e86f09f32ac2995f8142db6af4d3eba7e055ec1ac1ebbf1284bf1", func := "theodolite/theodolitelaw28.SuiteFull", spec := "suiteFull", inPlace := ["slices.overlaps[theodolite/api.Pair]", "math/bits.Add64"], unfollowed := true, recurses := true, named := ["math/bits.divideError", "math/bits.overflowError"], plainKeys := false, apart := false, narrowed := true }
def SuiteFullUptoSaid : Prop := suiteFullUptoRow.holds Tryz.pinned (OpenSpec.upto suiteFullSpec)

end Rows
end Go.Proofs.YtingnldfpokckaaGreat
