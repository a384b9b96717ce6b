/-
  DERIVED. GIVEN WITH THE SEED: THE CARDS: each row of YtdbmifjankgfpaaGreatDoorRows.lean that lists a variable, with what it lists TIED to the program's text (the seventh form; the later family's looks); each row that meets fmt, with fmt's text TOLD by the authors' own Lean function (tested against real Go, not proved from fmt's source: count such statements apart). THE CARD IS WHAT COUNTS. Prove the row's statement (the work); the ties are given (YtdbmifjankgfpaaGreatDoorTie.lean); close each card by the builder's one call (the guide's Derived/Test/ToyasCard.lean, 'card_holds'). Laid BY PROGRAM, IN A SANDBOX (cutbox-door.mjs). By AI agents, Wed Nov 11 2026. No macro, syntax, notation, axiom, sorry.
-/
import Derived.Test.YtdbmifjankgfpaaGreatDoorRows
import GoSem.ClaimSeven
namespace Go.Proofs.YtdbmifjankgfpaaGreatDoor
namespace Rows

/-- THE TIED CARD OF 'hatchwaytop.WholeSends'. -/
def wholeSendsCard : Claim7 := { stood := { row := wholeSendsRow, standIns := [], harness := (true, "51f278aba1a934dcf767831a51ab009816846d7dcd76e1fc6d8c547428f6282c"), looks := false }, kinds := [], alts := [], laidByText := true, laidKinds := [.data, .data, .data, .pinned], laidTests := true, laidLooks := .later }
def WholeSendsCardSaid : Prop := Claim7.holds Tryz.pinned (.plain (OpenSpec.ofChange wholeSendsSpec)) wholeSendsCard

/-- THE TIED CARD OF 'hatchwaytop.WholeChunks'. -/
def wholeChunksCard : Claim7 := { stood := { row := wholeChunksRow, standIns := [], harness := (true, "51f278aba1a934dcf767831a51ab009816846d7dcd76e1fc6d8c547428f6282c"), looks := false }, kinds := [], alts := [], laidByText := true, laidKinds := [.data, .data, .data, .pinned], laidTests := true, laidLooks := .later }
def WholeChunksCardSaid : Prop := Claim7.holds Tryz.pinned (.plain (OpenSpec.ofChange wholeChunksSpec)) wholeChunksCard

/-- THE TIED CARD OF 'hatchwaytop.WholeOver'. -/
def wholeOverCard : Claim7 := { stood := { row := wholeOverRow, standIns := [], harness := (true, "51f278aba1a934dcf767831a51ab009816846d7dcd76e1fc6d8c547428f6282c"), looks := false }, kinds := [], alts := [], laidByText := true, laidKinds := [.data, .data, .data, .pinned], laidTests := true, laidLooks := .later }
def WholeOverCardSaid : Prop := Claim7.holds Tryz.pinned (.plain (OpenSpec.ofChange wholeOverSpec)) wholeOverCard

/-- THE TIED CARD OF 'hatchwaytop.WholeBounds'. -/
def wholeBoundsCard : Claim7 := { stood := { row := wholeBoundsRow, standIns := [], harness := (true, "51f278aba1a934dcf767831a51ab009816846d7dcd76e1fc6d8c547428f6282c"), looks := false }, kinds := [], alts := [], laidByText := true, laidKinds := [.data, .data, .data, .pinned], laidTests := true, laidLooks := .later }
def WholeBoundsCardSaid : Prop := Claim7.holds Tryz.pinned (.plain (OpenSpec.ofChange wholeBoundsSpec)) wholeBoundsCard

/-- THE SECOND FORM's CARD OF 'hatchwaytop.WholeSends'. -/
def wholeSendsUptoCard : Claim7 := { stood := { row := wholeSendsUptoRow, standIns := [], harness := (true, "51f278aba1a934dcf767831a51ab009816846d7dcd76e1fc6d8c547428f6282c"), looks := false }, kinds := [], alts := [], laidByText := true, laidKinds := [.data, .data, .data, .pinned], laidTests := true, laidLooks := .later }
def WholeSendsUptoCardSaid : Prop := Claim7.holds Tryz.pinned (.plain (OpenSpec.upto wholeSendsSpec)) wholeSendsUptoCard

/-- THE SECOND FORM's CARD OF 'hatchwaytop.WholeChunks'. -/
def wholeChunksUptoCard : Claim7 := { stood := { row := wholeChunksUptoRow, standIns := [], harness := (true, "51f278aba1a934dcf767831a51ab009816846d7dcd76e1fc6d8c547428f6282c"), looks := false }, kinds := [], alts := [], laidByText := true, laidKinds := [.data, .data, .data, .pinned], laidTests := true, laidLooks := .later }
def WholeChunksUptoCardSaid : Prop := Claim7.holds Tryz.pinned (.plain (OpenSpec.upto wholeChunksSpec)) wholeChunksUptoCard

/-- THE SECOND FORM's CARD OF 'hatchwaytop.WholeOver'. -/
def wholeOverUptoCard : Claim7 := { stood := { row := wholeOverUptoRow, standIns := [], harness := (true, "51f278aba1a934dcf767831a51ab009816846d7dcd76e1fc6d8c547428f6282c"), looks := false }, kinds := [], alts := [], laidByText := true, laidKinds := [.data, .data, .data, .pinned], laidTests := true, laidLooks := .later }
def WholeOverUptoCardSaid : Prop := Claim7.holds Tryz.pinned (.plain (OpenSpec.upto wholeOverSpec)) wholeOverUptoCard

/-- THE SECOND FORM's CARD OF 'hatchwaytop.WholeBounds'. -/
def wholeBoundsUptoCard : Claim7 := { stood := { row := wholeBoundsUptoRow, standIns := [], harness := (true, "51f278aba1a934dcf767831a51ab009816846d7dcd76e1fc6d8c547428f6282c"), looks := false }, kinds := [], alts := [], laidByText := true, laidKinds := [.data, .data, .data, .pinned], laidTests := true, laidLooks := .later }
def WholeBoundsUptoCardSaid : Prop := Claim7.holds Tryz.pinned (.plain (OpenSpec.upto wholeBoundsSpec)) wholeBoundsUptoCard
end Rows
end Go.Proofs.YtdbmifjankgfpaaGreatDoor
