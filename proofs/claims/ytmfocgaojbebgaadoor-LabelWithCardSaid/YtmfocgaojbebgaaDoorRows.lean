/-
  NARROWER THAN 'FOR EVERY INPUT', by the rows' own cells (each row's printed sentence says how): LabelParses: laid · LabelSelects: laid · LabelTurns: laid · LabelTexts: laid · LabelWith: laid.
  DERIVED. THE GIVEN ROWS OF THIS SEAT. 5 by the template 'for every input the law returns true; each argument reads behind the call as it read before'; 0 by the template 'total and deterministic' (their statements: YtmfocgaojbebgaaDoorTotals.lean).
  GIVEN WITH THE SEED: the statements are not yours to turn. If you find one false, say at which input.
  Laid BY PROGRAM, IN A SANDBOX (cutbox-rows.mjs): the forced cells as the released guide's own fill.sh prints them over the translation c8100f4499896cdc… (all of the seat's roots in one cut). By AI agents, Wed Nov 11 2026. No macro, syntax, notation, axiom, sorry.
-/
import Derived.Test.YtmfocgaojbebgaaDoorChecked
import GoSem.PinnedTables
import GoSem.Claim
import GoSem.ClaimJoined
import GoSem.ClaimMapViews
import Derived.JoinedTies
import Derived.KernelRfl
namespace Go.Proofs.YtmfocgaojbebgaaDoor
/- THE CELL 'sum', in the pinned program and in every row, IS THE sha256 OF THE DUMP (.gsa) THAT YtmfocgaojbebgaaDoorProg.lean LOADS. Nothing in Lean hashes anything: it is a label: what it is worth is what the hold of that sum in a sandbox is worth. -/
noncomputable def Tryd.pinned : Pinned := { name := "ytmfocgaojbebgaadoor", sum := "c8100f4499896cdc0508714801606a02b3711b442ad8ca0fbcdd76724efc3f1d", checked := Tryd.checked }
namespace Rows
def none {H : Type} : Left H := { results := [], args := [] }

/- WHAT THE LISTED PACKAGE-LEVEL VARIABLES READ AS WHEN THE CALL BEGINS. Each datum BY PROGRAM (the guide's laid-datum.mjs) off the statement by which the dump's own 'gosem.cut.vars' lays the variable. In a bare row this is a premise. The card (YtmfocgaojbebgaaDoorCards.lean) ties it to the program's text. -/
def laid_unicode_utf8_acceptRanges {H : Type} : DataW H := .agg [.agg [.lit (.int .u8 128), .lit (.int .u8 191)], .agg [.lit (.int .u8 160), .lit (.int .u8 191)], .agg [.lit (.int .u8 128), .lit (.int .u8 159)], .agg [.lit (.int .u8 144), .lit (.int .u8 191)], .agg [.lit (.int .u8 128), .lit (.int .u8 143)], .agg [.lit (.int .u8 0), .lit (.int .u8 0)], .agg [.lit (.int .u8 0), .lit (.int .u8 0)], .agg [.lit (.int .u8 0), .lit (.int .u8 0)], .agg [.lit (.int .u8 0), .lit (.int .u8 0)], .agg [.lit (.int .u8 0), .lit (.int .u8 0)], .agg [.lit (.int .u8 0), .lit (.int .u8 0)], .agg [.lit (.int .u8 0), .lit (.int .u8 0)], .agg [.lit (.int .u8 0), .lit (.int .u8 0)], .agg [.lit (.int .u8 0), .lit (.int .u8 0)], .agg [.lit (.int .u8 0), .lit (.int .u8 0)], .agg [.lit (.int .u8 0), .lit (.int .u8 0)]]
/-- One of Go's own tables, pinned by name: the form's constant. -/
def laid_unicode_utf8_first : DataW Unit := Go.Pinned.utf8First

/-- 'theodolitelaw31.LabelParses': WHATEVER THE INPUT: true; the input reads as it did. -/
def labelParsesSpec : ChangeSpec := { name := "labelParses", fn := fun _ => fun
  | [d] => { results := [.lit (.bool true)], args := [d] }
  | _ => none }
def labelParsesRow : OpenClaim := { program := "ytmfocgaojbebgaadoor", sum := "c8100f4499896cdc0508714801606a02b3711b442ad8ca0fbcdd76724efc3f1d", func := "theodolite/theodolitelaw31.LabelParses", spec := "labelParses", inPlace := ["internal/bytealg.CountString", "internal/bytealg.IndexByteString", "internal/bytealg.IndexString", "internal/abi.NoEscape"], unfollowed := true, recurses := true, named := ["unicode/utf8.first", "unicode/utf8.acceptRanges", "internal/bytealg.MaxLen"], apart := false, laid := [("unicode/utf8.acceptRanges", laid_unicode_utf8_acceptRanges), ("unicode/utf8.first", laid_unicode_utf8_first)] }
def LabelParsesSaid : Prop := labelParsesRow.holds Tryd.pinned (OpenSpec.ofChange labelParsesSpec)

/-- ITS FALSE NEIGHBOUR: 'it returns false'. Refute it at one input. -/
def labelParsesWrong : ChangeSpec := { name := "labelParses", fn := fun _ => fun
  | [d] => { results := [.lit (.bool false)], args := [d] }
  | _ => none }
def LabelParsesWrongFalsely : Prop := labelParsesRow.holds Tryd.pinned (OpenSpec.ofChange labelParsesWrong)

/-- 'theodolitelaw31.LabelSelects': WHATEVER THE INPUT: true; the input reads as it did. -/
def labelSelectsSpec : ChangeSpec := { name := "labelSelects", fn := fun _ => fun
  | [d1, d2] => { results := [.lit (.bool true)], args := [d1, d2] }
  | _ => none }
def labelSelectsRow : OpenClaim := { program := "ytmfocgaojbebgaadoor", sum := "c8100f4499896cdc0508714801606a02b3711b442ad8ca0fbcdd76724efc3f1d", func := "theodolite/theodolitelaw31.LabelSelects", spec := "labelSelects", inPlace := ["internal/bytealg.CountString", "internal/bytealg.IndexByteString", "internal/bytealg.IndexString", "internal/abi.NoEscape"], unfollowed := true, recurses := true, named := ["unicode/utf8.first", "unicode/utf8.acceptRanges", "internal/bytealg.MaxLen"], apart := false, laid := [("unicode/utf8.acceptRanges", laid_unicode_utf8_acceptRanges), ("unicode/utf8.first", laid_unicode_utf8_first)] }
def LabelSelectsSaid : Prop := labelSelectsRow.holds Tryd.pinned (OpenSpec.ofChange labelSelectsSpec)

/-- ITS FALSE NEIGHBOUR: 'it returns false'. Refute it at one input. -/
def labelSelectsWrong : ChangeSpec := { name := "labelSelects", fn := fun _ => fun
  | [d1, d2] => { results := [.lit (.bool false)], args := [d1, d2] }
  | _ => none }
def LabelSelectsWrongFalsely : Prop := labelSelectsRow.holds Tryd.pinned (OpenSpec.ofChange labelSelectsWrong)

/-- 'theodolitelaw31.LabelTurns': WHATEVER THE INPUT: true; the input reads as it did. -/
def labelTurnsSpec : ChangeSpec := { name := "labelTurns", fn := fun _ => fun
  | [d1, d2] => { results := [.lit (.bool true)], args := [d1, d2] }
  | _ => none }
def labelTurnsRow : OpenClaim := { program := "ytmfocgaojbebgaadoor", sum := "c8100f4499896cdc0508714801606a02b3711b442ad8ca0fbcdd76724efc3f1d", func := "theodolite/theodolitelaw31.LabelTurns", spec := "labelTurns", inPlace := ["internal/bytealg.CountString", "internal/bytealg.IndexByteString", "internal/bytealg.IndexString", "internal/abi.NoEscape"], unfollowed := true, recurses := true, named := ["unicode/utf8.first", "unicode/utf8.acceptRanges", "internal/bytealg.MaxLen"], apart := false, laid := [("unicode/utf8.acceptRanges", laid_unicode_utf8_acceptRanges), ("unicode/utf8.first", laid_unicode_utf8_first)] }
def LabelTurnsSaid : Prop := labelTurnsRow.holds Tryd.pinned (OpenSpec.ofChange labelTurnsSpec)

/-- ITS FALSE NEIGHBOUR: 'it returns false'. Refute it at one input. -/
def labelTurnsWrong : ChangeSpec := { name := "labelTurns", fn := fun _ => fun
  | [d1, d2] => { results := [.lit (.bool false)], args := [d1, d2] }
  | _ => none }
def LabelTurnsWrongFalsely : Prop := labelTurnsRow.holds Tryd.pinned (OpenSpec.ofChange labelTurnsWrong)

/-- 'theodolitelaw31.LabelTexts': WHATEVER THE INPUT: true; the input reads as it did. -/
def labelTextsSpec : ChangeSpec := { name := "labelTexts", fn := fun _ => fun
  | [d1, d2, d3] => { results := [.lit (.bool true)], args := [d1, d2, d3] }
  | _ => none }
def labelTextsRow : OpenClaim := { program := "ytmfocgaojbebgaadoor", sum := "c8100f4499896cdc0508714801606a02b3711b442ad8ca0fbcdd76724efc3f1d", func := "theodolite/theodolitelaw31.LabelTexts", spec := "labelTexts", inPlace := ["internal/bytealg.CountString", "internal/bytealg.IndexByteString", "internal/bytealg.IndexString", "internal/abi.NoEscape"], unfollowed := true, recurses := true, named := ["unicode/utf8.first", "unicode/utf8.acceptRanges", "internal/bytealg.MaxLen"], apart := false, laid := [("unicode/utf8.acceptRanges", laid_unicode_utf8_acceptRanges), ("unicode/utf8.first", laid_unicode_utf8_first)] }
def LabelTextsSaid : Prop := labelTextsRow.holds Tryd.pinned (OpenSpec.ofChange labelTextsSpec)

/-- ITS FALSE NEIGHBOUR: 'it returns false'. Refute it at one input. -/
def labelTextsWrong : ChangeSpec := { name := "labelTexts", fn := fun _ => fun
  | [d1, d2, d3] => { results := [.lit (.bool false)], args := [d1, d2, d3] }
  | _ => none }
def LabelTextsWrongFalsely : Prop := labelTextsRow.holds Tryd.pinned (OpenSpec.ofChange labelTextsWrong)

/-- 'theodolitelaw31.LabelWith': WHATEVER THE INPUT: true; the input reads as it did. -/
def labelWithSpec : ChangeSpec := { name := "labelWith", fn := fun _ => fun
  | [d1, d2, d3, d4] => { results := [.lit (.bool true)], args := [d1, d2, d3, d4] }
  | _ => none }
def labelWithRow : OpenClaim := { program := "ytmfocgaojbebgaadoor", sum := "c8100f4499896cdc0508714801606a02b3711b442ad8ca0fbcdd76724efc3f1d", func := "theodolite/theodolitelaw31.LabelWith", spec := "labelWith", inPlace := ["internal/bytealg.CountString", "internal/bytealg.IndexByteString", "internal/bytealg.IndexString", "internal/abi.NoEscape", "slices.overlaps[theodolite/api.Label]"], unfollowed := true, recurses := true, named := ["unicode/utf8.first", "unicode/utf8.acceptRanges", "internal/bytealg.MaxLen"], apart := false, laid := [("unicode/utf8.acceptRanges", laid_unicode_utf8_acceptRanges), ("unicode/utf8.first", laid_unicode_utf8_first)] }
def LabelWithSaid : Prop := labelWithRow.holds Tryd.pinned (OpenSpec.ofChange labelWithSpec)

/-- ITS FALSE NEIGHBOUR: 'it returns false'. Refute it at one input. -/
def labelWithWrong : ChangeSpec := { name := "labelWith", fn := fun _ => fun
  | [d1, d2, d3, d4] => { results := [.lit (.bool false)], args := [d1, d2, d3, d4] }
  | _ => none }
def LabelWithWrongFalsely : Prop := labelWithRow.holds Tryd.pinned (OpenSpec.ofChange labelWithWrong)

/- THE SECOND FORM. 'bulk': how many values and letters a reading holds, each counted each time it is reached (what is shared counts as often as it is met; a slice's spare places count too). A statement '..UptoSaid' is the law's where the arguments, and the package variables that the reading takes, are together of bulk at most 1048576: NARROWER than '..Said'. Prove '..Said' where nothing that the law and all that it calls make is longer than what came in: it says more and counts as full. Else prove '..UptoSaid'. A law counts once. -/
mutual
def uptoBulk {H : Type} : DataW H → Nat
  | .lit (.string bytes) => bytes.length + 1
  | .lit _ => 1
  | .nil => 1
  | .ptr d => uptoBulk d + 1
  | .slice elems spare => uptoBulkAll elems + uptoBulkAll spare + 1
  | .agg parts => uptoBulkAll parts + 1
  | .iface _ d => uptoBulk d + 1
  | .map entries => uptoBulkEntries entries + 1
  | .held _ => 1
def uptoBulkAll {H : Type} : List (DataW H) → Nat
  | [] => 0
  | d :: r => uptoBulk d + uptoBulkAll r
def uptoBulkEntries {H : Type} : List (Lit × DataW H) → Nat
  | [] => 0
  | x :: r => uptoBulkEntry x + uptoBulkEntries r
def uptoBulkEntry {H : Type} : Lit × DataW H → Nat
  | (.string bytes, d) => bytes.length + uptoBulk d + 1
  | (_, d) => uptoBulk d + 1
 end
def uptoSmall : (H : Type) → List (DataW H) → Bool := fun _ ds => decide (uptoBulkAll ds ≤ 1048576)
def OpenSpec.upto (s : _root_.Go.ChangeSpec) : _root_.Go.OpenSpec := { _root_.Go.OpenSpec.ofChange s with cond := some uptoSmall }

/-- 'theodolitelaw31.LabelParses', WHERE WHAT IT READS IS OF BULK AT MOST 1048576: true; the input reads as it did. -/
def labelParsesUptoRow : OpenClaim := { program := "ytmfocgaojbebgaadoor", sum := "c8100f4499896cdc0508714801606a02b3711b442ad8ca0fbcdd76724efc3f1d", func := "theodolite/theodolitelaw31.LabelParses", spec := "labelParses", inPlace := ["internal/bytealg.CountString", "internal/bytealg.IndexByteString", "internal/bytealg.IndexString", "internal/abi.NoEscape"], unfollowed := true, recurses := true, named := ["unicode/utf8.first", "unicode/utf8.acceptRanges", "internal/bytealg.MaxLen"], apart := false, laid := [("unicode/utf8.acceptRanges", laid_unicode_utf8_acceptRanges), ("unicode/utf8.first", laid_unicode_utf8_first)], narrowed := true }
def LabelParsesUptoSaid : Prop := labelParsesUptoRow.holds Tryd.pinned (OpenSpec.upto labelParsesSpec)

/-- 'theodolitelaw31.LabelSelects', WHERE WHAT IT READS IS OF BULK AT MOST 1048576: true; the input reads as it did. -/
def labelSelectsUptoRow : OpenClaim := { program := "ytmfocgaojbebgaadoor", sum := "c8100f4499896cdc0508714801606a02b3711b442ad8ca0fbcdd76724efc3f1d", func := "theodolite/theodolitelaw31.LabelSelects", spec := "labelSelects", inPlace := ["internal/bytealg.CountString", "internal/bytealg.IndexByteString", "internal/bytealg.IndexString", "internal/abi.NoEscape"], unfollowed := true, recurses := true, named := ["unicode/utf8.first", "unicode/utf8.acceptRanges", "internal/bytealg.MaxLen"], apart := false, laid := [("unicode/utf8.acceptRanges", laid_unicode_utf8_acceptRanges), ("unicode/utf8.first", laid_unicode_utf8_first)], narrowed := true }
def LabelSelectsUptoSaid : Prop := labelSelectsUptoRow.holds Tryd.pinned (OpenSpec.upto labelSelectsSpec)

/-- 'theodolitelaw31.LabelTurns', WHERE WHAT IT READS IS OF BULK AT MOST 1048576: true; the input reads as it did. -/
def labelTurnsUptoRow : OpenClaim := { program := "ytmfocgaojbebgaadoor", sum := "c8100f4499896cdc0508714801606a02b3711b442ad8ca0fbcdd76724efc3f1d", func := "theodolite/theodolitelaw31.LabelTurns", spec := "labelTurns", inPlace := ["internal/bytealg.CountString", "internal/bytealg.IndexByteString", "internal/bytealg.IndexString", "internal/abi.NoEscape"], unfollowed := true, recurses := true, named := ["unicode/utf8.first", "unicode/utf8.acceptRanges", "internal/bytealg.MaxLen"], apart := false, laid := [("unicode/utf8.acceptRanges", laid_unicode_utf8_acceptRanges), ("unicode/utf8.first", laid_unicode_utf8_first)], narrowed := true }
def LabelTurnsUptoSaid : Prop := labelTurnsUptoRow.holds Tryd.pinned (OpenSpec.upto labelTurnsSpec)

/-- 'theodolitelaw31.LabelTexts', WHERE WHAT IT READS IS OF BULK AT MOST 1048576: true; the input reads as it did. -/
def labelTextsUptoRow : OpenClaim := { program := "ytmfocgaojbebgaadoor", sum := "c8100f4499896cdc0508714801606a02b3711b442ad8ca0fbcdd76724efc3f1d", func := "theodolite/theodolitelaw31.LabelTexts", spec := "labelTexts", inPlace := ["internal/bytealg.CountString", "internal/bytealg.IndexByteString", "internal/bytealg.IndexString", "internal/abi.NoEscape"], unfollowed := true, recurses := true, named := ["unicode/utf8.first", "unicode/utf8.acceptRanges", "internal/bytealg.MaxLen"], apart := false, laid := [("unicode/utf8.acceptRanges", laid_unicode_utf8_acceptRanges), ("unicode/utf8.first", laid_unicode_utf8_first)], narrowed := true }
def LabelTextsUptoSaid : Prop := labelTextsUptoRow.holds Tryd.pinned (OpenSpec.upto labelTextsSpec)

/-- 'theodolitelaw31.LabelWith', WHERE WHAT IT READS IS OF BULK AT MOST 1048576: true; the input reads as it did. -/
def labelWithUptoRow : OpenClaim := { program := "ytmfocgaojbebgaadoor", sum := "c8100f4499896cdc0508714801606a02b3711b442ad8ca0fbcdd76724efc3f1d", func := "theodolite/theodolitelaw31.LabelWith", spec := "labelWith", inPlace := ["internal/bytealg.CountString", "internal/bytealg.IndexByteString", "internal/bytealg.IndexString", "internal/abi.NoEscape", "slices.overlaps[theodolite/api.Label]"], unfollowed := true, recurses := true, named := ["unicode/utf8.first", "unicode/utf8.acceptRanges", "internal/bytealg.MaxLen"], apart := false, laid := [("unicode/utf8.acceptRanges", laid_unicode_utf8_acceptRanges), ("unicode/utf8.first", laid_unicode_utf8_first)], narrowed := true }
def LabelWithUptoSaid : Prop := labelWithUptoRow.holds Tryd.pinned (OpenSpec.upto labelWithSpec)

end Rows
end Go.Proofs.YtmfocgaojbebgaaDoor
