/-
  DERIVED. GIVEN WITH THE SEED: THE CARDS: each row of YtmfocgaojbebgaaDoorRows.lean that lists a variable, with what it lists TIED to the program's text (the seventh form; the later family's looks); each row that meets fmt, with fmt's text TOLD by the authors' own Lean function (tested against real Go, not proved from fmt's source: count such statements apart). THE CARD IS WHAT COUNTS. Prove the row's statement (the work); the ties are given (YtmfocgaojbebgaaDoorTie.lean); close each card by the builder's one call (the guide's Derived/Test/ToyasCard.lean, 'card_holds'). Laid BY PROGRAM, IN A SANDBOX (cutbox-door.mjs). By AI agents, Wed Nov 11 2026. No macro, syntax, notation, axiom, sorry.
-/
import Derived.Test.YtmfocgaojbebgaaDoorRows
import GoSem.ClaimSeven
namespace Go.Proofs.YtmfocgaojbebgaaDoor
namespace Rows

/-- THE TIED CARD OF 'theodolitelaw31.LabelParses'. -/
def labelParsesCard : Claim7 := { stood := { row := labelParsesRow, standIns := [], harness := (true, "20b2a4fca3414cee51f738b440eaa6f0fefd3239970039fb59f61b2c3af16353"), looks := false }, kinds := [], alts := [], laidByText := true, laidKinds := [.data, .pinned], laidTests := true, laidLooks := .later }
def LabelParsesCardSaid : Prop := Claim7.holds Tryd.pinned (.plain (OpenSpec.ofChange labelParsesSpec)) labelParsesCard

/-- THE TIED CARD OF 'theodolitelaw31.LabelSelects'. -/
def labelSelectsCard : Claim7 := { stood := { row := labelSelectsRow, standIns := [], harness := (true, "20b2a4fca3414cee51f738b440eaa6f0fefd3239970039fb59f61b2c3af16353"), looks := false }, kinds := [], alts := [], laidByText := true, laidKinds := [.data, .pinned], laidTests := true, laidLooks := .later }
def LabelSelectsCardSaid : Prop := Claim7.holds Tryd.pinned (.plain (OpenSpec.ofChange labelSelectsSpec)) labelSelectsCard

/-- THE TIED CARD OF 'theodolitelaw31.LabelTurns'. -/
def labelTurnsCard : Claim7 := { stood := { row := labelTurnsRow, standIns := [], harness := (true, "20b2a4fca3414cee51f738b440eaa6f0fefd3239970039fb59f61b2c3af16353"), looks := false }, kinds := [], alts := [], laidByText := true, laidKinds := [.data, .pinned], laidTests := true, laidLooks := .later }
def LabelTurnsCardSaid : Prop := Claim7.holds Tryd.pinned (.plain (OpenSpec.ofChange labelTurnsSpec)) labelTurnsCard

/-- THE TIED CARD OF 'theodolitelaw31.LabelTexts'. -/
def labelTextsCard : Claim7 := { stood := { row := labelTextsRow, standIns := [], harness := (true, "20b2a4fca3414cee51f738b440eaa6f0fefd3239970039fb59f61b2c3af16353"), looks := false }, kinds := [], alts := [], laidByText := true, laidKinds := [.data, .pinned], laidTests := true, laidLooks := .later }
def LabelTextsCardSaid : Prop := Claim7.holds Tryd.pinned (.plain (OpenSpec.ofChange labelTextsSpec)) labelTextsCard

/-- THE TIED CARD OF 'theodolitelaw31.LabelWith'. -/
def labelWithCard : Claim7 := { stood := { row := labelWithRow, standIns := [], harness := (true, "20b2a4fca3414cee51f738b440eaa6f0fefd3239970039fb59f61b2c3af16353"), looks := false }, kinds := [], alts := [], laidByText := true, laidKinds := [.data, .pinned], laidTests := true, laidLooks := .later }
def LabelWithCardSaid : Prop := Claim7.holds Tryd.pinned (.plain (OpenSpec.ofChange labelWithSpec)) labelWithCard

/-- THE SECOND FORM's CARD OF 'theodolitelaw31.LabelParses'. -/
def labelParsesUptoCard : Claim7 := { stood := { row := labelParsesUptoRow, standIns := [], harness := (true, "20b2a4fca3414cee51f738b440eaa6f0fefd3239970039fb59f61b2c3af16353"), looks := false }, kinds := [], alts := [], laidByText := true, laidKinds := [.data, .pinned], laidTests := true, laidLooks := .later }
def LabelParsesUptoCardSaid : Prop := Claim7.holds Tryd.pinned (.plain (OpenSpec.upto labelParsesSpec)) labelParsesUptoCard

/-- THE SECOND FORM's CARD OF 'theodolitelaw31.LabelSelects'. -/
def labelSelectsUptoCard : Claim7 := { stood := { row := labelSelectsUptoRow, standIns := [], harness := (true, "20b2a4fca3414cee51f738b440eaa6f0fefd3239970039fb59f61b2c3af16353"), looks := false }, kinds := [], alts := [], laidByText := true, laidKinds := [.data, .pinned], laidTests := true, laidLooks := .later }
def LabelSelectsUptoCardSaid : Prop := Claim7.holds Tryd.pinned (.plain (OpenSpec.upto labelSelectsSpec)) labelSelectsUptoCard

/-- THE SECOND FORM's CARD OF 'theodolitelaw31.LabelTurns'. -/
def labelTurnsUptoCard : Claim7 := { stood := { row := labelTurnsUptoRow, standIns := [], harness := (true, "20b2a4fca3414cee51f738b440eaa6f0fefd3239970039fb59f61b2c3af16353"), looks := false }, kinds := [], alts := [], laidByText := true, laidKinds := [.data, .pinned], laidTests := true, laidLooks := .later }
def LabelTurnsUptoCardSaid : Prop := Claim7.holds Tryd.pinned (.plain (OpenSpec.upto labelTurnsSpec)) labelTurnsUptoCard

/-- THE SECOND FORM's CARD OF 'theodolitelaw31.LabelTexts'. -/
def labelTextsUptoCard : Claim7 := { stood := { row := labelTextsUptoRow, standIns := [], harness := (true, "20b2a4fca3414cee51f738b440eaa6f0fefd3239970039fb59f61b2c3af16353"), looks := false }, kinds := [], alts := [], laidByText := true, laidKinds := [.data, .pinned], laidTests := true, laidLooks := .later }
def LabelTextsUptoCardSaid : Prop := Claim7.holds Tryd.pinned (.plain (OpenSpec.upto labelTextsSpec)) labelTextsUptoCard

/-- THE SECOND FORM's CARD OF 'theodolitelaw31.LabelWith'. -/
def labelWithUptoCard : Claim7 := { stood := { row := labelWithUptoRow, standIns := [], harness := (true, "20b2a4fca3414cee51f738b440eaa6f0fefd3239970039fb59f61b2c3af16353"), looks := false }, kinds := [], alts := [], laidByText := true, laidKinds := [.data, .pinned], laidTests := true, laidLooks := .later }
def LabelWithUptoCardSaid : Prop := Claim7.holds Tryd.pinned (.plain (OpenSpec.upto labelWithSpec)) labelWithUptoCard
end Rows
end Go.Proofs.YtmfocgaojbebgaaDoor
