/-
  DERIVED. GIVEN WITH THE SEED: THE CARDS: each row of YthbechmkjhkipaaDoorRows.lean that lists a variable, with what it lists TIED to the program's text (the seventh form; the later family's looks); each row that meets fmt, with fmt's text TOLD by the authors' own Lean function (tested against real Go, not proved from fmt's source: count such statements apart). THE CARD IS WHAT COUNTS. Prove the row's statement (the work); the ties are given (YthbechmkjhkipaaDoorTie.lean); close each card by the builder's one call (the guide's Derived/Test/ToyasCard.lean, 'card_holds'). Laid BY PROGRAM, IN A SANDBOX (cutbox-door.mjs). By AI agents, Wed Nov 11 2026. No macro, syntax, notation, axiom, sorry.
-/
import Derived.Test.YthbechmkjhkipaaDoorRows
import GoSem.ClaimSeven
namespace Go.Proofs.YthbechmkjhkipaaDoor
namespace Rows

/-- THE TIED CARD OF 'hatchwaylaw13.CommandPuts'. -/
def commandPutsCard : Claim7 := { stood := { row := commandPutsRow, standIns := [], harness := (true, "11e569620289e82229337765518ad74e2a3c2b30abc7cd90681ea406e133973e"), looks := false }, kinds := [], alts := [], laidByText := true, laidKinds := [.data, .pinned], laidTests := true, laidLooks := .later }
def CommandPutsCardSaid : Prop := Claim7.holds Tryd.pinned (.plain (OpenSpec.ofChange commandPutsSpec)) commandPutsCard

/-- THE TIED CARD OF 'hatchwaylaw13.CommandGets'. -/
def commandGetsCard : Claim7 := { stood := { row := commandGetsRow, standIns := [], harness := (true, "11e569620289e82229337765518ad74e2a3c2b30abc7cd90681ea406e133973e"), looks := false }, kinds := [], alts := [], laidByText := true, laidKinds := [.data, .pinned], laidTests := true, laidLooks := .later }
def CommandGetsCardSaid : Prop := Claim7.holds Tryd.pinned (.plain (OpenSpec.ofChange commandGetsSpec)) commandGetsCard

/-- THE TIED CARD OF 'hatchwaylaw13.CommandTurned'. -/
def commandTurnedCard : Claim7 := { stood := { row := commandTurnedRow, standIns := [], harness := (true, "11e569620289e82229337765518ad74e2a3c2b30abc7cd90681ea406e133973e"), looks := false }, kinds := [], alts := [], laidByText := true, laidKinds := [.data, .pinned], laidTests := true, laidLooks := .later }
def CommandTurnedCardSaid : Prop := Claim7.holds Tryd.pinned (.plain (OpenSpec.ofChange commandTurnedSpec)) commandTurnedCard

/-- THE TIED CARD OF 'hatchwaylaw14.CoinPuts'. -/
def coinPutsCard : Claim7 := { stood := { row := coinPutsRow, standIns := [], harness := (true, "11e569620289e82229337765518ad74e2a3c2b30abc7cd90681ea406e133973e"), looks := false }, kinds := [], alts := [], laidByText := true, laidKinds := [.data, .pinned], laidTests := true, laidLooks := .later }
def CoinPutsCardSaid : Prop := Claim7.holds Tryd.pinned (.plain (OpenSpec.ofChange coinPutsSpec)) coinPutsCard

/-- THE TIED CARD OF 'hatchwaylaw14.CoinReads'. -/
def coinReadsCard : Claim7 := { stood := { row := coinReadsRow, standIns := [], harness := (true, "11e569620289e82229337765518ad74e2a3c2b30abc7cd90681ea406e133973e"), looks := false }, kinds := [], alts := [], laidByText := true, laidKinds := [.data, .pinned], laidTests := true, laidLooks := .later }
def CoinReadsCardSaid : Prop := Claim7.holds Tryd.pinned (.plain (OpenSpec.ofChange coinReadsSpec)) coinReadsCard

/-- THE TIED CARD OF 'hatchwaylaw14.CoinTurned'. -/
def coinTurnedCard : Claim7 := { stood := { row := coinTurnedRow, standIns := [], harness := (true, "11e569620289e82229337765518ad74e2a3c2b30abc7cd90681ea406e133973e"), looks := false }, kinds := [], alts := [], laidByText := true, laidKinds := [.data, .pinned], laidTests := true, laidLooks := .later }
def CoinTurnedCardSaid : Prop := Claim7.holds Tryd.pinned (.plain (OpenSpec.ofChange coinTurnedSpec)) coinTurnedCard

/-- THE SECOND FORM's CARD OF 'hatchwaylaw13.CommandPuts'. -/
def commandPutsUptoCard : Claim7 := { stood := { row := commandPutsUptoRow, standIns := [], harness := (true, "11e569620289e82229337765518ad74e2a3c2b30abc7cd90681ea406e133973e"), looks := false }, kinds := [], alts := [], laidByText := true, laidKinds := [.data, .pinned], laidTests := true, laidLooks := .later }
def CommandPutsUptoCardSaid : Prop := Claim7.holds Tryd.pinned (.plain (OpenSpec.upto commandPutsSpec)) commandPutsUptoCard

/-- THE SECOND FORM's CARD OF 'hatchwaylaw13.CommandGets'. -/
def commandGetsUptoCard : Claim7 := { stood := { row := commandGetsUptoRow, standIns := [], harness := (true, "11e569620289e82229337765518ad74e2a3c2b30abc7cd90681ea406e133973e"), looks := false }, kinds := [], alts := [], laidByText := true, laidKinds := [.data, .pinned], laidTests := true, laidLooks := .later }
def CommandGetsUptoCardSaid : Prop := Claim7.holds Tryd.pinned (.plain (OpenSpec.upto commandGetsSpec)) commandGetsUptoCard

/-- THE SECOND FORM's CARD OF 'hatchwaylaw13.CommandTurned'. -/
def commandTurnedUptoCard : Claim7 := { stood := { row := commandTurnedUptoRow, standIns := [], harness := (true, "11e569620289e82229337765518ad74e2a3c2b30abc7cd90681ea406e133973e"), looks := false }, kinds := [], alts := [], laidByText := true, laidKinds := [.data, .pinned], laidTests := true, laidLooks := .later }
def CommandTurnedUptoCardSaid : Prop := Claim7.holds Tryd.pinned (.plain (OpenSpec.upto commandTurnedSpec)) commandTurnedUptoCard

/-- THE SECOND FORM's CARD OF 'hatchwaylaw14.CoinPuts'. -/
def coinPutsUptoCard : Claim7 := { stood := { row := coinPutsUptoRow, standIns := [], harness := (true, "11e569620289e82229337765518ad74e2a3c2b30abc7cd90681ea406e133973e"), looks := false }, kinds := [], alts := [], laidByText := true, laidKinds := [.data, .pinned], laidTests := true, laidLooks := .later }
def CoinPutsUptoCardSaid : Prop := Claim7.holds Tryd.pinned (.plain (OpenSpec.upto coinPutsSpec)) coinPutsUptoCard

/-- THE SECOND FORM's CARD OF 'hatchwaylaw14.CoinReads'. -/
def coinReadsUptoCard : Claim7 := { stood := { row := coinReadsUptoRow, standIns := [], harness := (true, "11e569620289e82229337765518ad74e2a3c2b30abc7cd90681ea406e133973e"), looks := false }, kinds := [], alts := [], laidByText := true, laidKinds := [.data, .pinned], laidTests := true, laidLooks := .later }
def CoinReadsUptoCardSaid : Prop := Claim7.holds Tryd.pinned (.plain (OpenSpec.upto coinReadsSpec)) coinReadsUptoCard

/-- THE SECOND FORM's CARD OF 'hatchwaylaw14.CoinTurned'. -/
def coinTurnedUptoCard : Claim7 := { stood := { row := coinTurnedUptoRow, standIns := [], harness := (true, "11e569620289e82229337765518ad74e2a3c2b30abc7cd90681ea406e133973e"), looks := false }, kinds := [], alts := [], laidByText := true, laidKinds := [.data, .pinned], laidTests := true, laidLooks := .later }
def CoinTurnedUptoCardSaid : Prop := Claim7.holds Tryd.pinned (.plain (OpenSpec.upto coinTurnedSpec)) coinTurnedUptoCard
end Rows
end Go.Proofs.YthbechmkjhkipaaDoor
