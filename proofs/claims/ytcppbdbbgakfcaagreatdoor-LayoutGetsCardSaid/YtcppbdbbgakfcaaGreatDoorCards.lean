/-
  DERIVED. GIVEN WITH THE SEED: THE CARDS: each row of YtcppbdbbgakfcaaGreatDoorRows.lean that lists a variable, with what it lists TIED to the program's text (the seventh form; the later family's looks); each row that meets fmt, with fmt's text TOLD by the authors' own Lean function (tested against real Go, not proved from fmt's source: count such statements apart). THE CARD IS WHAT COUNTS. Prove the row's statement (the work); the ties are given (YtcppbdbbgakfcaaGreatDoorTie.lean); close each card by the builder's one call (the guide's Derived/Test/ToyasCard.lean, 'card_holds'). Laid BY PROGRAM, IN A SANDBOX (cutbox-door.mjs). By AI agents, Wed Nov 11 2026. No macro, syntax, notation, axiom, sorry.
-/
import Derived.Test.YtcppbdbbgakfcaaGreatDoorRows
import GoSem.ClaimSeven
namespace Go.Proofs.YtcppbdbbgakfcaaGreatDoor
namespace Rows

/-- THE TIED CARD OF 'hatchwaylaw23.LayoutCuts'. -/
def layoutCutsCard : Claim7 := { stood := { row := layoutCutsRow, standIns := [], harness := (true, "c7f9e4acfa7d09486273dc3d255e7d4420345ca702aade61e1e27a2fe607d2e3"), looks := false }, kinds := [], alts := [], laidByText := true, laidKinds := [.data, .data], laidTests := true, laidLooks := .later }
def LayoutCutsCardSaid : Prop := Claim7.holds Tryz.pinned (.plain (OpenSpec.ofChange layoutCutsSpec)) layoutCutsCard

/-- THE TIED CARD OF 'hatchwaylaw23.LayoutPuts'. -/
def layoutPutsCard : Claim7 := { stood := { row := layoutPutsRow, standIns := [], harness := (true, "c7f9e4acfa7d09486273dc3d255e7d4420345ca702aade61e1e27a2fe607d2e3"), looks := false }, kinds := [], alts := [], laidByText := true, laidKinds := [.data, .data], laidTests := true, laidLooks := .later }
def LayoutPutsCardSaid : Prop := Claim7.holds Tryz.pinned (.plain (OpenSpec.ofChange layoutPutsSpec)) layoutPutsCard

/-- THE TIED CARD OF 'hatchwaylaw23.LayoutGets'. -/
def layoutGetsCard : Claim7 := { stood := { row := layoutGetsRow, standIns := [], harness := (true, "c7f9e4acfa7d09486273dc3d255e7d4420345ca702aade61e1e27a2fe607d2e3"), looks := false }, kinds := [], alts := [], laidByText := true, laidKinds := [.data, .data], laidTests := true, laidLooks := .later }
def LayoutGetsCardSaid : Prop := Claim7.holds Tryz.pinned (.plain (OpenSpec.ofChange layoutGetsSpec)) layoutGetsCard

/-- THE SECOND FORM's CARD OF 'hatchwaylaw23.LayoutCuts'. -/
def layoutCutsUptoCard : Claim7 := { stood := { row := layoutCutsUptoRow, standIns := [], harness := (true, "c7f9e4acfa7d09486273dc3d255e7d4420345ca702aade61e1e27a2fe607d2e3"), looks := false }, kinds := [], alts := [], laidByText := true, laidKinds := [.data, .data], laidTests := true, laidLooks := .later }
def LayoutCutsUptoCardSaid : Prop := Claim7.holds Tryz.pinned (.plain (OpenSpec.upto layoutCutsSpec)) layoutCutsUptoCard

/-- THE SECOND FORM's CARD OF 'hatchwaylaw23.LayoutPuts'. -/
def layoutPutsUptoCard : Claim7 := { stood := { row := layoutPutsUptoRow, standIns := [], harness := (true, "c7f9e4acfa7d09486273dc3d255e7d4420345ca702aade61e1e27a2fe607d2e3"), looks := false }, kinds := [], alts := [], laidByText := true, laidKinds := [.data, .data], laidTests := true, laidLooks := .later }
def LayoutPutsUptoCardSaid : Prop := Claim7.holds Tryz.pinned (.plain (OpenSpec.upto layoutPutsSpec)) layoutPutsUptoCard

/-- THE SECOND FORM's CARD OF 'hatchwaylaw23.LayoutGets'. -/
def layoutGetsUptoCard : Claim7 := { stood := { row := layoutGetsUptoRow, standIns := [], harness := (true, "c7f9e4acfa7d09486273dc3d255e7d4420345ca702aade61e1e27a2fe607d2e3"), looks := false }, kinds := [], alts := [], laidByText := true, laidKinds := [.data, .data], laidTests := true, laidLooks := .later }
def LayoutGetsUptoCardSaid : Prop := Claim7.holds Tryz.pinned (.plain (OpenSpec.upto layoutGetsSpec)) layoutGetsUptoCard
end Rows
end Go.Proofs.YtcppbdbbgakfcaaGreatDoor
