/-
  No cell of these rows narrows 'for every input' (looked for: loops, veiled, ifaces, maps, wideKeys, modest, calm, conditions, laid).
  DERIVED. THE GIVEN ROWS OF THIS SEAT. 4 by the template 'for every input the law returns true; each argument reads behind the call as it read before'; 0 by the template 'total and deterministic' (their statements: YtdicblkhpcphfaaGreatTotals.lean).
  GIVEN WITH THE SEED: the statements are not yours to turn. If you find one false, say at which input.
  Laid BY PROGRAM, IN A SANDBOX (cutbox-rows.mjs): the forced cells as the released guide's own fill.sh prints them over the translation 69b0dc50cdd69c89… (all of the seat's roots in one cut). By AI agents, Wed Nov 11 2026. No macro, syntax, notation, axiom, sorry.
-/
import Derived.Test.YtdicblkhpcphfaaGreatChecked
import GoSem.Claim
import GoSem.ClaimJoined
import GoSem.ClaimMapViews
import Derived.JoinedTies
import Derived.KernelRfl
namespace Go.Proofs.YtdicblkhpcphfaaGreat
/- THE CELL 'sum', in the pinned program and in every row, IS THE sha256 OF THE DUMP (.gsa) THAT YtdicblkhpcphfaaGreatProg.lean LOADS. Nothing in Lean hashes anything: it is a label: what it is worth is what the hold of that sum in a sandbox is worth. -/
noncomputable def Tryz.pinned : Pinned := { name := "ytdicblkhpcphfaagreat", sum := "69b0dc50cdd69c8959c4d259886ae450656397fb5b51cf6e4b5eefc3e1c4892f", checked := Tryz.checked }
namespace Rows
def none {H : Type} : Left H := { results := [], args := [] }

/-- 'theodolitelaw30.WindowPlays': WHATEVER THE INPUT: true; the input reads as it did. -/
def windowPlaysSpec : ChangeSpec := { name := "windowPlays", fn := fun _ => fun
  | [d1, d2, d3, d4, d5] => { results := [.lit (.bool true)], args := [d1, d2, d3, d4, d5] }
  | _ => none }
def windowPlaysRow : OpenClaim := { program := "ytdicblkhpcphfaagreat", sum := "69b0dc50cdd69c8959c4d259886ae450656397fb5b51cf6e4b5eefc3e1c4892f", func := "theodolite/theodolitelaw30.WindowPlays", spec := "windowPlays", inPlace := ["slices.overlaps[theodolite/api.Pair]", "math/bits.Add64"], unfollowed := true, recurses := true, named := ["math/bits.divideError", "math/bits.overflowError"], plainKeys := false, apart := false }
def WindowPlaysSaid : Prop := windowPlaysRow.holds Tryz.pinned (OpenSpec.ofChange windowPlaysSpec)

/-- ITS FALSE NEIGHBOUR: 'it returns false'. Refute it at one input. -/
def windowPlaysWrong : ChangeSpec := { name := "windowPlays", fn := fun _ => fun
  | [d1, d2, d3, d4, d5] => { results := [.lit (.bool false)], args := [d1, d2, d3, d4, d5] }
  | _ => none }
def WindowPlaysWrongFalsely : Prop := windowPlaysRow.holds Tryz.pinned (OpenSpec.ofChange windowPlaysWrong)

/-- 'theodolitelaw30.WindowOne': WHATEVER THE INPUT: true; the input reads as it did. -/
def windowOneSpec : ChangeSpec := { name := "windowOne", fn := fun _ => fun
  | [d1, d2, d3, d4] => { results := [.lit (.bool true)], args := [d1, d2, d3, d4] }
  | _ => none }
def windowOneRow : OpenClaim := { program := "ytdicblkhpcphfaagreat", sum := "69b0dc50cdd69c8959c4d259886ae450656397fb5b51cf6e4b5eefc3e1c4892f", func := "theodolite/theodolitelaw30.WindowOne", spec := "windowOne", inPlace := ["slices.overlaps[theodolite/api.Pair]", "math/bits.Add64"], unfollowed := true, recurses := true, named := ["math/bits.divideError", "math/bits.overflowError"], plainKeys := false, apart := false }
def WindowOneSaid : Prop := windowOneRow.holds Tryz.pinned (OpenSpec.ofChange windowOneSpec)

/-- ITS FALSE NEIGHBOUR: 'it returns false'. Refute it at one input. -/
def windowOneWrong : ChangeSpec := { name := "windowOne", fn := fun _ => fun
  | [d1, d2, d3, d4] => { results := [.lit (.bool false)], args := [d1, d2, d3, d4] }
  | _ => none }
def WindowOneWrongFalsely : Prop := windowOneRow.holds Tryz.pinned (OpenSpec.ofChange windowOneWrong)

/-- 'theodolitelaw30.WindowOver': WHATEVER THE INPUT: true; the input reads as it did. -/
def windowOverSpec : ChangeSpec := { name := "windowOver", fn := fun _ => fun
  | [d1, d2, d3, d4, d5, d6, d7] => { results := [.lit (.bool true)], args := [d1, d2, d3, d4, d5, d6, d7] }
  | _ => none }
def windowOverRow : OpenClaim := { program := "ytdicblkhpcphfaagreat", sum := "69b0dc50cdd69c8959c4d259886ae450656397fb5b51cf6e4b5eefc3e1c4892f", func := "theodolite/theodolitelaw30.WindowOver", spec := "windowOver", inPlace := ["slices.overlaps[theodolite/api.Pair]", "math/bits.Add64"], unfollowed := true, recurses := true, named := ["math/bits.divideError", "math/bits.overflowError"], plainKeys := false, apart := false }
def WindowOverSaid : Prop := windowOverRow.holds Tryz.pinned (OpenSpec.ofChange windowOverSpec)

/-- ITS FALSE NEIGHBOUR: 'it returns false'. Refute it at one input. -/
def windowOverWrong : ChangeSpec := { name := "windowOver", fn := fun _ => fun
  | [d1, d2, d3, d4, d5, d6, d7] => { results := [.lit (.bool false)], args := [d1, d2, d3, d4, d5, d6, d7] }
  | _ => none }
def WindowOverWrongFalsely : Prop := windowOverRow.holds Tryz.pinned (OpenSpec.ofChange windowOverWrong)

/-- 'theodolitelaw27.JoinAsks': WHATEVER THE INPUT: true; the input reads as it did. -/
def joinAsksSpec : ChangeSpec := { name := "joinAsks", fn := fun _ => fun
  | [d1, d2, d3, d4, d5, d6, d7, d8] => { results := [.lit (.bool true)], args := [d1, d2, d3, d4, d5, d6, d7, d8] }
  | _ => none }
def joinAsksRow : OpenClaim := { program := "ytdicblkhpcphfaagreat", sum := "69b0dc50cdd69c8959c4d259886ae450656397fb5b51cf6e4b5eefc3e1c4892f", func := "theodolite/theodolitelaw27.JoinAsks", spec := "joinAsks", inPlace := ["slices.overlaps[theodolite/api.Pair]", "math/bits.Add64"], unfollowed := true, recurses := true, named := ["math/bits.divideError", "math/bits.overflowError"], plainKeys := false, apart := false }
def JoinAsksSaid : Prop := joinAsksRow.holds Tryz.pinned (OpenSpec.ofChange joinAsksSpec)

/-- ITS FALSE NEIGHBOUR: 'it returns false'. Refute it at one input. -/
def joinAsksWrong : ChangeSpec := { name := "joinAsks", fn := fun _ => fun
  | [d1, d2, d3, d4, d5, d6, d7, d8] => { results := [.lit (.bool false)], args := [d1, d2, d3, d4, d5, d6, d7, d8] }
  | _ => none }
def JoinAsksWrongFalsely : Prop := joinAsksRow.holds Tryz.pinned (OpenSpec.ofChange joinAsksWrong)

/- THE SECOND FORM. 'bulk': how many values and letters a reading holds, each counted each time it is reached (what is shared counts as often as it is met; a slice's spare places count too). A statement '..UptoSaid' is the law's where the arguments, and the package variables that the reading takes, are together of bulk at most 1048576: NARROWER than '..Said'. Prove '..Said' where nothing that the law and all that it calls make is longer than what came in: it says more and counts as full. Else prove '..UptoSaid'. A law counts once. -/
mutual
def uptoBulk {H : Type} : DataW H → Nat
  | .lit (.string bytes) => bytes.length + 1
  | .lit _ => 1
  | .nil => 1
  | .ptr d => uptoBulk d + 1
  | .slice elems spare => uptoBulkAll elems + uptoBulkAll spare + 1
  | .agg parts => uptoBulkAll parts + 1
  | .iface _ d => uptoBulk d + 1
  | .map entries => uptoBulkEntries entries + 1
  | .held _ => 1
def uptoBulkAll {H : Type} : List (DataW H) → Nat
  | [] => 0
  | d :: r => uptoBulk d + uptoBulkAll r
def uptoBulkEntries {H : Type} : List (Lit × DataW H) → Nat
  | [] => 0
  | x :: r => uptoBulkEntry x + uptoBulkEntries r
def uptoBulkEntry {H : Type} : Lit × DataW H → Nat
  | (.string bytes, d) => bytes.length + uptoBulk d + 1
  | (_, d) => uptoBulk d + 1
 end
def uptoSmall : (H : Type) → List (DataW H) → Bool := fun _ ds => decide (uptoBulkAll ds ≤ 1048576)
def OpenSpec.upto (s : _root_.Go.ChangeSpec) : _root_.Go.OpenSpec := { _root_.Go.OpenSpec.ofChange s with cond := some uptoSmall }

/-- 'theodolitelaw30.WindowPlays', WHERE WHAT IT READS IS OF BULK AT MOST 1048576: true; the input reads as it did. -/
def windowPlaysUptoRow : OpenClaim := { program := "ytdicblkhpcphfaagreat", sum := "69b0dc50cdd69c8959c4d259886ae450656397fb5b51cf6e4b5eefc3e1c4892f", func := "theodolite/theodolitelaw30.WindowPlays", spec := "windowPlays", inPlace := ["slices.overlaps[theodolite/api.Pair]", "math/bits.Add64"], unfollowed := true, recurses := true, named := ["math/bits.divideError", "math/bits.overflowError"], plainKeys := false, apart := false, narrowed := true }
def WindowPlaysUptoSaid : Prop := windowPlaysUptoRow.holds Tryz.pinned (OpenSpec.upto windowPlaysSpec)

/-- 'theodolitelaw30.WindowOne', WHERE WHAT IT READS IS OF BULK AT MOST 1048576: true; the input reads as it did. -/
def windowOneUptoRow : OpenClaim := { program := "ytdicblkhpcphfaagreat", sum := "69b0dc50cdd69c8959c4d259886ae450656397fb5b51cf6e4b5eefc3e1c4892f", func := "theodolite/theodolitelaw30.WindowOne", spec := "windowOne", inPlace := ["slices.overlaps[theodolite/api.Pair]", "math/bits.Add64"], unfollowed := true, recurses := true, named := ["math/bits.divideError", "math/bits.overflowError"], plainKeys := false, apart := false, narrowed := true }
def WindowOneUptoSaid : Prop := windowOneUptoRow.holds Tryz.pinned (OpenSpec.upto windowOneSpec)

/-- 'theodolitelaw30.WindowOver', WHERE WHAT IT READS IS OF BULK AT MOST 1048576: true; the input reads as it did. -/
def windowOverUptoRow : OpenClaim := { program := "ytdicblkhpcphfaagreat", sum := "69b0dc50cdd69c8959c4d259886ae450656397fb5b51cf6e4b5eefc3e1c4892f", func := "theodolite/theodolitelaw30.WindowOver", spec := "windowOver", inPlace := ["slices.overlaps[theodolite/api.Pair]", "math/bits.Add64"], unfollowed := true, recurses := true, named := ["math/bits.divideError", "math/bits.overflowError"], plainKeys := false, apart := false, narrowed := true }
def WindowOverUptoSaid : Prop := windowOverUptoRow.holds Tryz.pinned (OpenSpec.upto windowOverSpec)

/-- 'theodolitelaw27.JoinAsks', WHERE WHAT IT READS IS OF BULK AT MOST 1048576: true; the input reads as it did. -/
def joinAsksUptoRow : OpenClaim := { program := "ytdicblkhpcphfaagreat", sum := "69b0dc50cdd69c8959c4d259886ae450656397fb5b51cf6e4b5eefc3e1c4892f", func := "theodolite/theodolitelaw27.JoinAsks", spec := "joinAsks", inPlace := ["slices.overlaps[theodolite/api.Pair]", "math/bits.Add64"], unfollowed := true, recurses := true, named := ["math/bits.divideError", "math/bits.overflowError"], plainKeys := false, apart := false, narrowed := true }
def JoinAsksUptoSaid : Prop := joinAsksUptoRow.holds Tryz.pinned (OpenSpec.upto joinAsksSpec)

end Rows
end Go.Proofs.YtdicblkhpcphfaaGreat
