/-
  No cell of these rows narrows 'for every input' (looked for: loops, veiled, ifaces, maps, wideKeys, modest, calm, conditions, laid).
  DERIVED. THE GIVEN ROWS OF THIS SEAT. 11 by the template 'for every input the law returns true; each argument reads behind the call as it read before'; 0 by the template 'total and deterministic' (their statements: YtkiebccnpheloaaGreatTotals.lean).
  GIVEN WITH THE SEED: the statements are not yours to turn. If you find one false, say at which input.
  Laid BY PROGRAM, IN A SANDBOX (cutbox-rows.mjs): the forced cells as the released guide's own fill.sh prints them over the translation fcd628d9e04d0619… (all of the seat's roots in one cut). By AI agents, Wed Nov 11 2026. No macro, syntax, notation, axiom, sorry.
-/
import Derived.Test.YtkiebccnpheloaaGreatChecked
import GoSem.Claim
import GoSem.ClaimJoined
import GoSem.ClaimMapViews
import Derived.JoinedTies
import Derived.KernelRfl
namespace Go.Proofs.YtkiebccnpheloaaGreat
/- THE CELL 'sum', in the pinned program and in every row, IS THE sha256 OF THE DUMP (.gsa) THAT YtkiebccnpheloaaGreatProg.lean LOADS. Nothing in Lean hashes anything: it is a label: what it is worth is what the hold of that sum in a sandbox is worth. -/
noncomputable def Tryz.pinned : Pinned := { name := "ytkiebccnpheloaagreat", sum := "fcd628d9e04d061961b55337f46d32f9512b0c379b3c34bfd6a57ceda85dc132", checked := Tryz.checked }
namespace Rows
def none {H : Type} : Left H := { results := [], args := [] }

/-- 'theodolitelaw27.JoinReads': WHATEVER THE INPUT: true; the input reads as it did. -/
def joinReadsSpec : ChangeSpec := { name := "joinReads", fn := fun _ => fun
  | [d1, d2, d3] => { results := [.lit (.bool true)], args := [d1, d2, d3] }
  | _ => none }
def joinReadsRow : OpenClaim := { program := "ytkiebccnpheloaagreat", sum := "fcd628d9e04d061961b55337f46d32f9512b0c379b3c34bfd6a57ceda85dc132", func := "theodolite/theodolitelaw27.JoinReads", spec := "joinReads", inPlace := ["slices.overlaps[theodolite/api.Pair]", "math/bits.Add64"], unfollowed := true, recurses := true, named := ["math/bits.divideError", "math/bits.overflowError"], plainKeys := false, apart := false }
def JoinReadsSaid : Prop := joinReadsRow.holds Tryz.pinned (OpenSpec.ofChange joinReadsSpec)

/-- ITS FALSE NEIGHBOUR: 'it returns false'. Refute it at one input. -/
def joinReadsWrong : ChangeSpec := { name := "joinReads", fn := fun _ => fun
  | [d1, d2, d3] => { results := [.lit (.bool false)], args := [d1, d2, d3] }
  | _ => none }
def JoinReadsWrongFalsely : Prop := joinReadsRow.holds Tryz.pinned (OpenSpec.ofChange joinReadsWrong)

/-- 'theodolitelaw27.JoinMakes': WHATEVER THE INPUT: true; the input reads as it did. -/
def joinMakesSpec : ChangeSpec := { name := "joinMakes", fn := fun _ => fun
  | [d1, d2] => { results := [.lit (.bool true)], args := [d1, d2] }
  | _ => none }
def joinMakesRow : OpenClaim := { program := "ytkiebccnpheloaagreat", sum := "fcd628d9e04d061961b55337f46d32f9512b0c379b3c34bfd6a57ceda85dc132", func := "theodolite/theodolitelaw27.JoinMakes", spec := "joinMakes", inPlace := ["slices.overlaps[theodolite/api.Pair]", "math/bits.Add64"], unfollowed := true, recurses := true, named := ["math/bits.divideError", "math/bits.overflowError"], plainKeys := false, apart := false }
def JoinMakesSaid : Prop := joinMakesRow.holds Tryz.pinned (OpenSpec.ofChange joinMakesSpec)

/-- ITS FALSE NEIGHBOUR: 'it returns false'. Refute it at one input. -/
def joinMakesWrong : ChangeSpec := { name := "joinMakes", fn := fun _ => fun
  | [d1, d2] => { results := [.lit (.bool false)], args := [d1, d2] }
  | _ => none }
def JoinMakesWrongFalsely : Prop := joinMakesRow.holds Tryz.pinned (OpenSpec.ofChange joinMakesWrong)

/-- 'theodolitelaw27.JoinPlays': WHATEVER THE INPUT: true; the input reads as it did. -/
def joinPlaysSpec : ChangeSpec := { name := "joinPlays", fn := fun _ => fun
  | [d1, d2, d3, d4, d5] => { results := [.lit (.bool true)], args := [d1, d2, d3, d4, d5] }
  | _ => none }
def joinPlaysRow : OpenClaim := { program := "ytkiebccnpheloaagreat", sum := "fcd628d9e04d061961b55337f46d32f9512b0c379b3c34bfd6a57ceda85dc132", func := "theodolite/theodolitelaw27.JoinPlays", spec := "joinPlays", inPlace := ["slices.overlaps[theodolite/api.Pair]", "math/bits.Add64"], unfollowed := true, recurses := true, named := ["math/bits.divideError", "math/bits.overflowError"], plainKeys := false, apart := false }
def JoinPlaysSaid : Prop := joinPlaysRow.holds Tryz.pinned (OpenSpec.ofChange joinPlaysSpec)

/-- ITS FALSE NEIGHBOUR: 'it returns false'. Refute it at one input. -/
def joinPlaysWrong : ChangeSpec := { name := "joinPlays", fn := fun _ => fun
  | [d1, d2, d3, d4, d5] => { results := [.lit (.bool false)], args := [d1, d2, d3, d4, d5] }
  | _ => none }
def JoinPlaysWrongFalsely : Prop := joinPlaysRow.holds Tryz.pinned (OpenSpec.ofChange joinPlaysWrong)

/-- 'theodolitelaw27.JoinWraps': WHATEVER THE INPUT: true; the input reads as it did. -/
def joinWrapsSpec : ChangeSpec := { name := "joinWraps", fn := fun _ => fun
  | [d1, d2, d3, d4, d5, d6, d7] => { results := [.lit (.bool true)], args := [d1, d2, d3, d4, d5, d6, d7] }
  | _ => none }
def joinWrapsRow : OpenClaim := { program := "ytkiebccnpheloaagreat", sum := "fcd628d9e04d061961b55337f46d32f9512b0c379b3c34bfd6a57ceda85dc132", func := "theodolite/theodolitelaw27.JoinWraps", spec := "joinWraps", inPlace := ["slices.overlaps[theodolite/api.Pair]", "math/bits.Add64"], unfollowed := true, recurses := true, named := ["math/bits.divideError", "math/bits.overflowError"], plainKeys := false, apart := false }
def JoinWrapsSaid : Prop := joinWrapsRow.holds Tryz.pinned (OpenSpec.ofChange joinWrapsSpec)

/-- ITS FALSE NEIGHBOUR: 'it returns false'. Refute it at one input. -/
def joinWrapsWrong : ChangeSpec := { name := "joinWraps", fn := fun _ => fun
  | [d1, d2, d3, d4, d5, d6, d7] => { results := [.lit (.bool false)], args := [d1, d2, d3, d4, d5, d6, d7] }
  | _ => none }
def JoinWrapsWrongFalsely : Prop := joinWrapsRow.holds Tryz.pinned (OpenSpec.ofChange joinWrapsWrong)

/-- 'theodolitelaw27.JoinJoins': WHATEVER THE INPUT: true; the input reads as it did. -/
def joinJoinsSpec : ChangeSpec := { name := "joinJoins", fn := fun _ => fun
  | [d1, d2, d3, d4, d5, d6, d7, d8, d9, d10] => { results := [.lit (.bool true)], args := [d1, d2, d3, d4, d5, d6, d7, d8, d9, d10] }
  | _ => none }
def joinJoinsRow : OpenClaim := { program := "ytkiebccnpheloaagreat", sum := "fcd628d9e04d061961b55337f46d32f9512b0c379b3c34bfd6a57ceda85dc132", func := "theodolite/theodolitelaw27.JoinJoins", spec := "joinJoins", inPlace := ["slices.overlaps[theodolite/api.Pair]", "math/bits.Add64"], unfollowed := true, recurses := true, named := ["math/bits.divideError", "math/bits.overflowError"], plainKeys := false, apart := false }
def JoinJoinsSaid : Prop := joinJoinsRow.holds Tryz.pinned (OpenSpec.ofChange joinJoinsSpec)

/-- ITS FALSE NEIGHBOUR: 'it returns false'. Refute it at one input. -/
def joinJoinsWrong : ChangeSpec := { name := "joinJoins", fn := fun _ => fun
  | [d1, d2, d3, d4, d5, d6, d7, d8, d9, d10] => { results := [.lit (.bool false)], args := [d1, d2, d3, d4, d5, d6, d7, d8, d9, d10] }
  | _ => none }
def JoinJoinsWrongFalsely : Prop := joinJoinsRow.holds Tryz.pinned (OpenSpec.ofChange joinJoinsWrong)

/-- 'theodolitelaw27.JoinAsks': WHATEVER THE INPUT: true; the input reads as it did. -/
def joinAsksSpec : ChangeSpec := { name := "joinAsks", fn := fun _ => fun
  | [d1, d2, d3, d4, d5, d6, d7, d8] => { results := [.lit (.bool true)], args := [d1, d2, d3, d4, d5, d6, d7, d8] }
  | _ => none }
def joinAsksRow : OpenClaim := { program := "ytkiebccnpheloaagreat", sum := "fcd628d9e04d061961b55337f46d32f9512b0c379b3c34bfd6a57ceda85dc132", func := "theodolite/theodolitelaw27.JoinAsks", spec := "joinAsks", inPlace := ["slices.overlaps[theodolite/api.Pair]", "math/bits.Add64"], unfollowed := true, recurses := true, named := ["math/bits.divideError", "math/bits.overflowError"], plainKeys := false, apart := false }
def JoinAsksSaid : Prop := joinAsksRow.holds Tryz.pinned (OpenSpec.ofChange joinAsksSpec)

/-- ITS FALSE NEIGHBOUR: 'it returns false'. Refute it at one input. -/
def joinAsksWrong : ChangeSpec := { name := "joinAsks", fn := fun _ => fun
  | [d1, d2, d3, d4, d5, d6, d7, d8] => { results := [.lit (.bool false)], args := [d1, d2, d3, d4, d5, d6, d7, d8] }
  | _ => none }
def JoinAsksWrongFalsely : Prop := joinAsksRow.holds Tryz.pinned (OpenSpec.ofChange joinAsksWrong)

/-- 'theodolitelaw30.WindowMakes': WHATEVER THE INPUT: true; the input reads as it did. -/
def windowMakesSpec : ChangeSpec := { name := "windowMakes", fn := fun _ => fun
  | [d1, d2, d3, d4] => { results := [.lit (.bool true)], args := [d1, d2, d3, d4] }
  | _ => none }
def windowMakesRow : OpenClaim := { program := "ytkiebccnpheloaagreat", sum := "fcd628d9e04d061961b55337f46d32f9512b0c379b3c34bfd6a57ceda85dc132", func := "theodolite/theodolitelaw30.WindowMakes", spec := "windowMakes", inPlace := ["slices.overlaps[theodolite/api.Pair]", "math/bits.Add64"], unfollowed := true, recurses := true, named := ["math/bits.divideError", "math/bits.overflowError"], plainKeys := false, apart := false }
def WindowMakesSaid : Prop := windowMakesRow.holds Tryz.pinned (OpenSpec.ofChange windowMakesSpec)

/-- ITS FALSE NEIGHBOUR: 'it returns false'. Refute it at one input. -/
def windowMakesWrong : ChangeSpec := { name := "windowMakes", fn := fun _ => fun
  | [d1, d2, d3, d4] => { results := [.lit (.bool false)], args := [d1, d2, d3, d4] }
  | _ => none }
def WindowMakesWrongFalsely : Prop := windowMakesRow.holds Tryz.pinned (OpenSpec.ofChange windowMakesWrong)

/-- 'theodolitelaw30.WindowPlays': WHATEVER THE INPUT: true; the input reads as it did. -/
def windowPlaysSpec : ChangeSpec := { name := "windowPlays", fn := fun _ => fun
  | [d1, d2, d3, d4, d5] => { results := [.lit (.bool true)], args := [d1, d2, d3, d4, d5] }
  | _ => none }
def windowPlaysRow : OpenClaim := { program := "ytkiebccnpheloaagreat", sum := "fcd628d9e04d061961b55337f46d32f9512b0c379b3c34bfd6a57ceda85dc132", func := "theodolite/theodolitelaw30.WindowPlays", spec := "windowPlays", inPlace := ["slices.overlaps[theodolite/api.Pair]", "math/bits.Add64"], unfollowed := true, recurses := true, named := ["math/bits.divideError", "math/bits.overflowError"], plainKeys := false, apart := false }
def WindowPlaysSaid : Prop := windowPlaysRow.holds Tryz.pinned (OpenSpec.ofChange windowPlaysSpec)

/-- ITS FALSE NEIGHBOUR: 'it returns false'. Refute it at one input. -/
def windowPlaysWrong : ChangeSpec := { name := "windowPlays", fn := fun _ => fun
  | [d1, d2, d3, d4, d5] => { results := [.lit (.bool false)], args := [d1, d2, d3, d4, d5] }
  | _ => none }
def WindowPlaysWrongFalsely : Prop := windowPlaysRow.holds Tryz.pinned (OpenSpec.ofChange windowPlaysWrong)

/-- 'theodolitelaw30.WindowForgets': WHATEVER THE INPUT: true; the input reads as it did. -/
def windowForgetsSpec : ChangeSpec := { name := "windowForgets", fn := fun _ => fun
  | [d1, d2, d3, d4, d5, d6] => { results := [.lit (.bool true)], args := [d1, d2, d3, d4, d5, d6] }
  | _ => none }
def windowForgetsRow : OpenClaim := { program := "ytkiebccnpheloaagreat", sum := "fcd628d9e04d061961b55337f46d32f9512b0c379b3c34bfd6a57ceda85dc132", func := "theodolite/theodolitelaw30.WindowForgets", spec := "windowForgets", inPlace := ["slices.overlaps[theodolite/api.Pair]", "math/bits.Add64"], unfollowed := true, recurses := true, named := ["math/bits.divideError", "math/bits.overflowError"], plainKeys := false, apart := false }
def WindowForgetsSaid : Prop := windowForgetsRow.holds Tryz.pinned (OpenSpec.ofChange windowForgetsSpec)

/-- ITS FALSE NEIGHBOUR: 'it returns false'. Refute it at one input. -/
def windowForgetsWrong : ChangeSpec := { name := "windowForgets", fn := fun _ => fun
  | [d1, d2, d3, d4, d5, d6] => { results := [.lit (.bool false)], args := [d1, d2, d3, d4, d5, d6] }
  | _ => none }
def WindowForgetsWrongFalsely : Prop := windowForgetsRow.holds Tryz.pinned (OpenSpec.ofChange windowForgetsWrong)

/-- 'theodolitelaw30.WindowOne': WHATEVER THE INPUT: true; the input reads as it did. -/
def windowOneSpec : ChangeSpec := { name := "windowOne", fn := fun _ => fun
  | [d1, d2, d3, d4] => { results := [.lit (.bool true)], args := [d1, d2, d3, d4] }
  | _ => none }
def windowOneRow : OpenClaim := { program := "ytkiebccnpheloaagreat", sum := "fcd628d9e04d061961b55337f46d32f9512b0c379b3c34bfd6a57ceda85dc132", func := "theodolite/theodolitelaw30.WindowOne", spec := "windowOne", inPlace := ["slices.overlaps[theodolite/api.Pair]", "math/bits.Add64"], unfollowed := true, recurses := true, named := ["math/bits.divideError", "math/bits.overflowError"], plainKeys := false, apart := false }
def WindowOneSaid : Prop := windowOneRow.holds Tryz.pinned (OpenSpec.ofChange windowOneSpec)

/-- ITS FALSE NEIGHBOUR: 'it returns false'. Refute it at one input. -/
def windowOneWrong : ChangeSpec := { name := "windowOne", fn := fun _ => fun
  | [d1, d2, d3, d4] => { results := [.lit (.bool false)], args := [d1, d2, d3, d4] }
  | _ => none }
def WindowOneWrongFalsely : Prop := windowOneRow.holds Tryz.pinned (OpenSpec.ofChange windowOneWrong)

/-- 'theodolitelaw30.WindowOver': WHATEVER THE INPUT: true; the input reads as it did. -/
def windowOverSpec : ChangeSpec := { name := "windowOver", fn := fun _ => fun
  | [d1, d2, d3, d4, d5, d6, d7] => { results := [.lit (.bool true)], args := [d1, d2, d3, d4, d5, d6, d7] }
  | _ => none }
def windowOverRow : OpenClaim := { program := "ytkiebccnpheloaagreat", sum := "fcd628d9e04d061961b55337f46d32f9512b0c379b3c34bfd6a57ceda85dc132", func := "theodolite/theodolitelaw30.WindowOver", spec := "windowOver", inPlace := ["slices.overlaps[theodolite/api.Pair]", "math/bits.Add64"], unfollowed := true, recurses := true, named := ["math/bits.divideError", "math/bits.overflowError"], plainKeys := false, apart := false }
def WindowOverSaid : Prop := windowOverRow.holds Tryz.pinned (OpenSpec.ofChange windowOverSpec)

/-- ITS FALSE NEIGHBOUR: 'it returns false'. Refute it at one input. -/
def windowOverWrong : ChangeSpec := { name := "windowOver", fn := fun _ => fun
  | [d1, d2, d3, d4, d5, d6, d7] => { results := [.lit (.bool false)], args := [d1, d2, d3, d4, d5, d6, d7] }
  | _ => none }
def WindowOverWrongFalsely : Prop := windowOverRow.holds Tryz.pinned (OpenSpec.ofChange windowOverWrong)

/- THE SECOND FORM. 'bulk': how many values and letters a reading holds, each counted each time it is reached (what is shared counts as often as it is met; a slice's spare places count too). A statement '..UptoSaid' is the law's where the arguments, and the package variables that the reading takes, are together of bulk at most 1048576: NARROWER than '..Said'. Prove '..Said' where nothing that the law and all that it calls make is longer than what came in: it says more and counts as full. Else prove '..UptoSaid'. A law counts once. -/
mutual
def uptoBulk {H : Type} : DataW H → Nat
  | .lit (.string bytes) => bytes.length + 1
  | .lit _ => 1
  | .nil => 1
  | .ptr d => uptoBulk d + 1
  | .slice elems spare => uptoBulkAll elems + uptoBulkAll spare + 1
  | .agg parts => uptoBulkAll parts + 1
  | .iface _ d => uptoBulk d + 1
  | .map entries => uptoBulkEntries entries + 1
  | .held _ => 1
def uptoBulkAll {H : Type} : List (DataW H) → Nat
  | [] => 0
  | d :: r => uptoBulk d + uptoBulkAll r
def uptoBulkEntries {H : Type} : List (Lit × DataW H) → Nat
  | [] => 0
  | x :: r => uptoBulkEntry x + uptoBulkEntries r
def uptoBulkEntry {H : Type} : Lit × DataW H → Nat
  | (.string bytes, d) => bytes.length + uptoBulk d + 1
  | (_, d) => uptoBulk d + 1
 end
def uptoSmall : (H : Type) → List (DataW H) → Bool := fun _ ds => decide (uptoBulkAll ds ≤ 1048576)
def OpenSpec.upto (s : _root_.Go.ChangeSpec) : _root_.Go.OpenSpec := { _root_.Go.OpenSpec.ofChange s with cond := some uptoSmall }

/-- 'theodolitelaw27.JoinReads', WHERE WHAT IT READS IS OF BULK AT MOST 1048576: true; the input reads as it did. -/
def joinReadsUptoRow : OpenClaim := { program := "ytkiebccnpheloaagreat", sum := "fcd628d9e04d061961b55337f46d32f9512b0c379b3c34bfd6a57ceda85dc132", func := "theodolite/theodolitelaw27.JoinReads", spec := "joinReads", inPlace := ["slices.overlaps[theodolite/api.Pair]", "math/bits.Add64"], unfollowed := true, recurses := true, named := ["math/bits.divideError", "math/bits.overflowError"], plainKeys := false, apart := false, narrowed := true }
def JoinReadsUptoSaid : Prop := joinReadsUptoRow.holds Tryz.pinned (OpenSpec.upto joinReadsSpec)

/-- 'theodolitelaw27.JoinMakes', WHERE WHAT IT READS IS OF BULK AT MOST 1048576: true; the input reads as it did. -/
def joinMakesUptoRow : OpenClaim := { program := "ytkiebccnpheloaagreat", sum := "fcd628d9e04d061961b55337f46d32f9512b0c379b3c34bfd6a57ceda85dc132", func := "theodolite/theodolitelaw27.JoinMakes", spec := "joinMakes", inPlace := ["slices.overlaps[theodolite/api.Pair]", "math/bits.Add64"], unfollowed := true, recurses := true, named := ["math/bits.divideError", "math/bits.overflowError"], plainKeys := false, apart := false, narrowed := true }
def JoinMakesUptoSaid : Prop := joinMakesUptoRow.holds Tryz.pinned (OpenSpec.upto joinMakesSpec)

/-- 'theodolitelaw27.JoinPlays', WHERE WHAT IT READS IS OF BULK AT MOST 1048576: true; the input reads as it did. -/
def joinPlaysUptoRow : OpenClaim := { program := "ytkiebccnpheloaagreat", sum := "fcd628d9e04d061961b55337f46d32f9512b0c379b3c34bfd6a57ceda85dc132", func := "theodolite/theodolitelaw27.JoinPlays", spec := "joinPlays", inPlace := ["slices.overlaps[theodolite/api.Pair]", "math/bits.Add64"], unfollowed := true, recurses := true, named := ["math/bits.divideError", "math/bits.overflowError"], plainKeys := false, apart := false, narrowed := true }
def JoinPlaysUptoSaid : Prop := joinPlaysUptoRow.holds Tryz.pinned (OpenSpec.upto joinPlaysSpec)

/-- 'theodolitelaw27.JoinWraps', WHERE WHAT IT READS IS OF BULK AT MOST 1048576: true; the input reads as it did. -/
def joinWrapsUptoRow : OpenClaim := { program := "ytkiebccnpheloaagreat", sum := "fcd628d9e04d061961b55337f46d32f9512b0c379b3c34bfd6a57ceda85dc132", func := "theodolite/theodolitelaw27.JoinWraps", spec := "joinWraps", inPlace := ["slices.overlaps[theodolite/api.Pair]", "math/bits.Add64"], unfollowed := true, recurses := true, named := ["math/bits.divideError", "math/bits.overflowError"], plainKeys := false, apart := false, narrowed := true }
def JoinWrapsUptoSaid : Prop := joinWrapsUptoRow.holds Tryz.pinned (OpenSpec.upto joinWrapsSpec)

/-- 'theodolitelaw27.JoinJoins', WHERE WHAT IT READS IS OF BULK AT MOST 1048576: true; the input reads as it did. -/
def joinJoinsUptoRow : OpenClaim := { program := "ytkiebccnpheloaagreat", sum := "fcd628d9e04d061961b55337f46d32f9512b0c379b3c34bfd6a57ceda85dc132", func := "theodolite/theodolitelaw27.JoinJoins", spec := "joinJoins", inPlace := ["slices.overlaps[theodolite/api.Pair]", "math/bits.Add64"], unfollowed := true, recurses := true, named := ["math/bits.divideError", "math/bits.overflowError"], plainKeys := false, apart := false, narrowed := true }
def JoinJoinsUptoSaid : Prop := joinJoinsUptoRow.holds Tryz.pinned (OpenSpec.upto joinJoinsSpec)

/-- 'theodolitelaw27.JoinAsks', WHERE WHAT IT READS IS OF BULK AT MOST 1048576: true; the input reads as it did. -/
def joinAsksUptoRow : OpenClaim := { program := "ytkiebccnpheloaagreat", sum := "fcd628d9e04d061961b55337f46d32f9512b0c379b3c34bfd6a57ceda85dc132", func := "theodolite/theodolitelaw27.JoinAsks", spec := "joinAsks", inPlace := ["slices.overlaps[theodolite/api.Pair]", "math/bits.Add64"], unfollowed := true, recurses := true, named := ["math/bits.divideError", "math/bits.overflowError"], plainKeys := false, apart := false, narrowed := true }
def JoinAsksUptoSaid : Prop := joinAsksUptoRow.holds Tryz.pinned (OpenSpec.upto joinAsksSpec)

/-- 'theodolitelaw30.WindowMakes', WHERE WHAT IT READS IS OF BULK AT MOST 1048576: true; the input reads as it did. -/
def windowMakesUptoRow : OpenClaim := { program := "ytkiebccnpheloaagreat", sum := "fcd628d9e04d061961b55337f46d32f9512b0c379b3c34bfd6a57ceda85dc132", func := "theodolite/theodolitelaw30.WindowMakes", spec := "windowMakes", inPlace := ["slices.overlaps[theodolite/api.Pair]", "math/bits.Add64"], unfollowed := true, recurses := true, named := ["math/bits.divideError", "math/bits.overflowError"], plainKeys := false, apart := false, narrowed := true }
def WindowMakesUptoSaid : Prop := windowMakesUptoRow.holds Tryz.pinned (OpenSpec.upto windowMakesSpec)

/-- 'theodolitelaw30.WindowPlays', WHERE WHAT IT READS IS OF BULK AT MOST 1048576: true; the input reads as it did. -/
def windowPlaysUptoRow : OpenClaim := { program := "ytkiebccnpheloaagreat", sum := "fcd628d9e04d061961b55337f46d32f9512b0c379b3c34bfd6a57ceda85dc132", func := "theodolite/theodolitelaw30.WindowPlays", spec := "windowPlays", inPlace := ["slices.overlaps[theodolite/api.Pair]", "math/bits.Add64"], unfollowed := true, recurses := true, named := ["math/bits.divideError", "math/bits.overflowError"], plainKeys := false, apart := false, narrowed := true }
def WindowPlaysUptoSaid : Prop := windowPlaysUptoRow.holds Tryz.pinned (OpenSpec.upto windowPlaysSpec)

/-- 'theodolitelaw30.WindowForgets', WHERE WHAT IT READS IS OF BULK AT MOST 1048576: true; the input reads as it did. -/
def windowForgetsUptoRow : OpenClaim := { program := "ytkiebccnpheloaagreat", sum := "fcd628d9e04d061961b55337f46d32f9512b0c379b3c34bfd6a57ceda85dc132", func := "theodolite/theodolitelaw30.WindowForgets", spec := "windowForgets", inPlace := ["slices.overlaps[theodolite/api.Pair]", "math/bits.Add64"], unfollowed := true, recurses := true, named := ["math/bits.divideError", "math/bits.overflowError"], plainKeys := false, apart := false, narrowed := true }
def WindowForgetsUptoSaid : Prop := windowForgetsUptoRow.holds Tryz.pinned (OpenSpec.upto windowForgetsSpec)

/-- 'theodolitelaw30.WindowOne', WHERE WHAT IT READS IS OF BULK AT MOST 1048576: true; the input reads as it did. -/
def windowOneUptoRow : OpenClaim := { program := "ytkiebccnpheloaagreat", sum := "fcd628d9e04d061961b55337f46d32f9512b0c379b3c34bfd6a57ceda85dc132", func := "theodolite/theodolitelaw30.WindowOne", spec := "windowOne", inPlace := ["slices.overlaps[theodolite/api.Pair]", "math/bits.Add64"], unfollowed := true, recurses := true, named := ["math/bits.divideError", "math/bits.overflowError"], plainKeys := false, apart := false, narrowed := true }
def WindowOneUptoSaid : Prop := windowOneUptoRow.holds Tryz.pinned (OpenSpec.upto windowOneSpec)

/-- 'theodolitelaw30.WindowOver', WHERE WHAT IT READS IS OF BULK AT MOST 1048576: true; the input reads as it did. -/
def windowOverUptoRow : OpenClaim := { program := "ytkiebccnpheloaagreat", sum := "fcd628d9e04d061961b55337f46d32f9512b0c379b3c34bfd6a57ceda85dc132", func := "theodolite/theodolitelaw30.WindowOver", spec := "windowOver", inPlace := ["slices.overlaps[theodolite/api.Pair]", "math/bits.Add64"], unfollowed := true, recurses := true, named := ["math/bits.divideError", "math/bits.overflowError"], plainKeys := false, apart := false, narrowed := true }
def WindowOverUptoSaid : Prop := windowOverUptoRow.holds Tryz.pinned (OpenSpec.upto windowOverSpec)

end Rows
end Go.Proofs.YtkiebccnpheloaaGreat
