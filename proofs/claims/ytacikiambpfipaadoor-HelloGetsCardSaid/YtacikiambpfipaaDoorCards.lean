/-
  DERIVED. GIVEN WITH THE SEED: THE CARDS: each row of YtacikiambpfipaaDoorRows.lean that lists a variable, with what it lists TIED to the program's text (the seventh form; the later family's looks); each row that meets fmt, with fmt's text TOLD by the authors' own Lean function (tested against real Go, not proved from fmt's source: count such statements apart). THE CARD IS WHAT COUNTS. Prove the row's statement (the work); the ties are given (YtacikiambpfipaaDoorTie.lean); close each card by the builder's one call (the guide's Derived/Test/ToyasCard.lean, 'card_holds'). Laid BY PROGRAM, IN A SANDBOX (cutbox-door.mjs). By AI agents, Wed Nov 11 2026. No macro, syntax, notation, axiom, sorry.
-/
import Derived.Test.YtacikiambpfipaaDoorRows
import GoSem.ClaimSeven
namespace Go.Proofs.YtacikiambpfipaaDoor
namespace Rows

/-- THE TIED CARD OF 'hatchwaylaw22.TreeOne'. -/
def treeOneCard : Claim7 := { stood := { row := treeOneRow, standIns := [], harness := (true, "c36f595f8989a10b996688cba3989289d9ca6bbf225ea1c774cb14b1f11d7ab5"), looks := false }, kinds := [], alts := [], laidByText := true, laidKinds := [.data], laidTests := true, laidLooks := .later }
def TreeOneCardSaid : Prop := Claim7.holds Tryd.pinned (.plain (OpenSpec.ofChange treeOneSpec)) treeOneCard

/-- THE TIED CARD OF 'hatchwaylaw14.CoinPuts'. -/
def coinPutsCard : Claim7 := { stood := { row := coinPutsRow, standIns := [], harness := (true, "c36f595f8989a10b996688cba3989289d9ca6bbf225ea1c774cb14b1f11d7ab5"), looks := false }, kinds := [], alts := [], laidByText := true, laidKinds := [.data, .pinned], laidTests := true, laidLooks := .later }
def CoinPutsCardSaid : Prop := Claim7.holds Tryd.pinned (.plain (OpenSpec.ofChange coinPutsSpec)) coinPutsCard

/-- THE TIED CARD OF 'hatchwaylaw14.CoinReads'. -/
def coinReadsCard : Claim7 := { stood := { row := coinReadsRow, standIns := [], harness := (true, "c36f595f8989a10b996688cba3989289d9ca6bbf225ea1c774cb14b1f11d7ab5"), looks := false }, kinds := [], alts := [], laidByText := true, laidKinds := [.data, .pinned], laidTests := true, laidLooks := .later }
def CoinReadsCardSaid : Prop := Claim7.holds Tryd.pinned (.plain (OpenSpec.ofChange coinReadsSpec)) coinReadsCard

/-- THE TIED CARD OF 'hatchwaylaw14.CoinTurned'. -/
def coinTurnedCard : Claim7 := { stood := { row := coinTurnedRow, standIns := [], harness := (true, "c36f595f8989a10b996688cba3989289d9ca6bbf225ea1c774cb14b1f11d7ab5"), looks := false }, kinds := [], alts := [], laidByText := true, laidKinds := [.data, .pinned], laidTests := true, laidLooks := .later }
def CoinTurnedCardSaid : Prop := Claim7.holds Tryd.pinned (.plain (OpenSpec.ofChange coinTurnedSpec)) coinTurnedCard

/-- THE TIED CARD OF 'hatchwaylaw22.TreePuts'. -/
def treePutsCard : Claim7 := { stood := { row := treePutsRow, standIns := [], harness := (true, "c36f595f8989a10b996688cba3989289d9ca6bbf225ea1c774cb14b1f11d7ab5"), looks := false }, kinds := [], alts := [], laidByText := true, laidKinds := [.data], laidTests := true, laidLooks := .later }
def TreePutsCardSaid : Prop := Claim7.holds Tryd.pinned (.plain (OpenSpec.ofChange treePutsSpec)) treePutsCard

/-- THE TIED CARD OF 'hatchwaylaw22.TreeGets'. -/
def treeGetsCard : Claim7 := { stood := { row := treeGetsRow, standIns := [], harness := (true, "c36f595f8989a10b996688cba3989289d9ca6bbf225ea1c774cb14b1f11d7ab5"), looks := false }, kinds := [], alts := [], laidByText := true, laidKinds := [.data], laidTests := true, laidLooks := .later }
def TreeGetsCardSaid : Prop := Claim7.holds Tryd.pinned (.plain (OpenSpec.ofChange treeGetsSpec)) treeGetsCard

/-- THE TIED CARD OF 'hatchwaylaw32.HelloPuts'. -/
def helloPutsCard : Claim7 := { stood := { row := helloPutsRow, standIns := [], harness := (true, "c36f595f8989a10b996688cba3989289d9ca6bbf225ea1c774cb14b1f11d7ab5"), looks := false }, kinds := [], alts := [], laidByText := true, laidKinds := [.data], laidTests := true, laidLooks := .later }
def HelloPutsCardSaid : Prop := Claim7.holds Tryd.pinned (.plain (OpenSpec.ofChange helloPutsSpec)) helloPutsCard

/-- THE TIED CARD OF 'hatchwaylaw32.HelloGets'. -/
def helloGetsCard : Claim7 := { stood := { row := helloGetsRow, standIns := [], harness := (true, "c36f595f8989a10b996688cba3989289d9ca6bbf225ea1c774cb14b1f11d7ab5"), looks := false }, kinds := [], alts := [], laidByText := true, laidKinds := [.data], laidTests := true, laidLooks := .later }
def HelloGetsCardSaid : Prop := Claim7.holds Tryd.pinned (.plain (OpenSpec.ofChange helloGetsSpec)) helloGetsCard

/-- THE SECOND FORM's CARD OF 'hatchwaylaw22.TreeOne'. -/
def treeOneUptoCard : Claim7 := { stood := { row := treeOneUptoRow, standIns := [], harness := (true, "c36f595f8989a10b996688cba3989289d9ca6bbf225ea1c774cb14b1f11d7ab5"), looks := false }, kinds := [], alts := [], laidByText := true, laidKinds := [.data], laidTests := true, laidLooks := .later }
def TreeOneUptoCardSaid : Prop := Claim7.holds Tryd.pinned (.plain (OpenSpec.upto treeOneSpec)) treeOneUptoCard

/-- THE SECOND FORM's CARD OF 'hatchwaylaw14.CoinPuts'. -/
def coinPutsUptoCard : Claim7 := { stood := { row := coinPutsUptoRow, standIns := [], harness := (true, "c36f595f8989a10b996688cba3989289d9ca6bbf225ea1c774cb14b1f11d7ab5"), looks := false }, kinds := [], alts := [], laidByText := true, laidKinds := [.data, .pinned], laidTests := true, laidLooks := .later }
def CoinPutsUptoCardSaid : Prop := Claim7.holds Tryd.pinned (.plain (OpenSpec.upto coinPutsSpec)) coinPutsUptoCard

/-- THE SECOND FORM's CARD OF 'hatchwaylaw14.CoinReads'. -/
def coinReadsUptoCard : Claim7 := { stood := { row := coinReadsUptoRow, standIns := [], harness := (true, "c36f595f8989a10b996688cba3989289d9ca6bbf225ea1c774cb14b1f11d7ab5"), looks := false }, kinds := [], alts := [], laidByText := true, laidKinds := [.data, .pinned], laidTests := true, laidLooks := .later }
def CoinReadsUptoCardSaid : Prop := Claim7.holds Tryd.pinned (.plain (OpenSpec.upto coinReadsSpec)) coinReadsUptoCard

/-- THE SECOND FORM's CARD OF 'hatchwaylaw14.CoinTurned'. -/
def coinTurnedUptoCard : Claim7 := { stood := { row := coinTurnedUptoRow, standIns := [], harness := (true, "c36f595f8989a10b996688cba3989289d9ca6bbf225ea1c774cb14b1f11d7ab5"), looks := false }, kinds := [], alts := [], laidByText := true, laidKinds := [.data, .pinned], laidTests := true, laidLooks := .later }
def CoinTurnedUptoCardSaid : Prop := Claim7.holds Tryd.pinned (.plain (OpenSpec.upto coinTurnedSpec)) coinTurnedUptoCard

/-- THE SECOND FORM's CARD OF 'hatchwaylaw22.TreePuts'. -/
def treePutsUptoCard : Claim7 := { stood := { row := treePutsUptoRow, standIns := [], harness := (true, "c36f595f8989a10b996688cba3989289d9ca6bbf225ea1c774cb14b1f11d7ab5"), looks := false }, kinds := [], alts := [], laidByText := true, laidKinds := [.data], laidTests := true, laidLooks := .later }
def TreePutsUptoCardSaid : Prop := Claim7.holds Tryd.pinned (.plain (OpenSpec.upto treePutsSpec)) treePutsUptoCard

/-- THE SECOND FORM's CARD OF 'hatchwaylaw22.TreeGets'. -/
def treeGetsUptoCard : Claim7 := { stood := { row := treeGetsUptoRow, standIns := [], harness := (true, "c36f595f8989a10b996688cba3989289d9ca6bbf225ea1c774cb14b1f11d7ab5"), looks := false }, kinds := [], alts := [], laidByText := true, laidKinds := [.data], laidTests := true, laidLooks := .later }
def TreeGetsUptoCardSaid : Prop := Claim7.holds Tryd.pinned (.plain (OpenSpec.upto treeGetsSpec)) treeGetsUptoCard

/-- THE SECOND FORM's CARD OF 'hatchwaylaw32.HelloPuts'. -/
def helloPutsUptoCard : Claim7 := { stood := { row := helloPutsUptoRow, standIns := [], harness := (true, "c36f595f8989a10b996688cba3989289d9ca6bbf225ea1c774cb14b1f11d7ab5"), looks := false }, kinds := [], alts := [], laidByText := true, laidKinds := [.data], laidTests := true, laidLooks := .later }
def HelloPutsUptoCardSaid : Prop := Claim7.holds Tryd.pinned (.plain (OpenSpec.upto helloPutsSpec)) helloPutsUptoCard

/-- THE SECOND FORM's CARD OF 'hatchwaylaw32.HelloGets'. -/
def helloGetsUptoCard : Claim7 := { stood := { row := helloGetsUptoRow, standIns := [], harness := (true, "c36f595f8989a10b996688cba3989289d9ca6bbf225ea1c774cb14b1f11d7ab5"), looks := false }, kinds := [], alts := [], laidByText := true, laidKinds := [.data], laidTests := true, laidLooks := .later }
def HelloGetsUptoCardSaid : Prop := Claim7.holds Tryd.pinned (.plain (OpenSpec.upto helloGetsSpec)) helloGetsUptoCard
end Rows
end Go.Proofs.YtacikiambpfipaaDoor
