/-
  DERIVED. GIVEN WITH THE SEED: THE CARDS: each row of YtebllmpdlapefaaGreatDoorRows.lean that lists a variable, with what it lists TIED to the program's text (the seventh form; the later family's looks); each row that meets fmt, with fmt's text TOLD by the authors' own Lean function (tested against real Go, not proved from fmt's source: count such statements apart). THE CARD IS WHAT COUNTS. Prove the row's statement (the work); the ties are given (YtebllmpdlapefaaGreatDoorTie.lean); close each card by the builder's one call (the guide's Derived/Test/ToyasCard.lean, 'card_holds'). Laid BY PROGRAM, IN A SANDBOX (cutbox-door.mjs). By AI agents, Wed Nov 11 2026. No macro, syntax, notation, axiom, sorry.
-/
import Derived.Test.YtebllmpdlapefaaGreatDoorRows
import GoSem.ClaimSeven
namespace Go.Proofs.YtebllmpdlapefaaGreatDoor
namespace Rows

/-- THE TIED CARD OF 'hatchwaylaw17.WirePuts'. -/
def wirePutsCard : Claim7 := { stood := { row := wirePutsRow, standIns := [], harness := (true, "8efd8158077ccae1d51444487cd6a3a6e008fab19af279c02d98268919d2f0eb"), looks := false }, kinds := [], alts := [], laidByText := true, laidKinds := [.data, .pinned], laidTests := true, laidLooks := .later }
def WirePutsCardSaid : Prop := Claim7.holds Tryz.pinned (.plain (OpenSpec.ofChange wirePutsSpec)) wirePutsCard

/-- THE TIED CARD OF 'hatchwaylaw17.WireMost'. -/
def wireMostCard : Claim7 := { stood := { row := wireMostRow, standIns := [], harness := (true, "8efd8158077ccae1d51444487cd6a3a6e008fab19af279c02d98268919d2f0eb"), looks := false }, kinds := [], alts := [], laidByText := true, laidKinds := [.data, .pinned], laidTests := true, laidLooks := .later }
def WireMostCardSaid : Prop := Claim7.holds Tryz.pinned (.plain (OpenSpec.ofChange wireMostSpec)) wireMostCard

/-- THE TIED CARD OF 'hatchwaylaw17.WireReads'. -/
def wireReadsCard : Claim7 := { stood := { row := wireReadsRow, standIns := [], harness := (true, "8efd8158077ccae1d51444487cd6a3a6e008fab19af279c02d98268919d2f0eb"), looks := false }, kinds := [], alts := [], laidByText := true, laidKinds := [.data, .pinned], laidTests := true, laidLooks := .later }
def WireReadsCardSaid : Prop := Claim7.holds Tryz.pinned (.plain (OpenSpec.ofChange wireReadsSpec)) wireReadsCard

/-- THE TIED CARD OF 'hatchwaylaw18.SplitMore'. -/
def splitMoreCard : Claim7 := { stood := { row := splitMoreRow, standIns := [], harness := (true, "8efd8158077ccae1d51444487cd6a3a6e008fab19af279c02d98268919d2f0eb"), looks := false }, kinds := [], alts := [], laidByText := true, laidKinds := [.data, .pinned], laidTests := true, laidLooks := .later }
def SplitMoreCardSaid : Prop := Claim7.holds Tryz.pinned (.plain (OpenSpec.ofChange splitMoreSpec)) splitMoreCard

/-- THE TIED CARD OF 'hatchwaylaw18.SplitReads'. -/
def splitReadsCard : Claim7 := { stood := { row := splitReadsRow, standIns := [], harness := (true, "8efd8158077ccae1d51444487cd6a3a6e008fab19af279c02d98268919d2f0eb"), looks := false }, kinds := [], alts := [], laidByText := true, laidKinds := [.data, .pinned], laidTests := true, laidLooks := .later }
def SplitReadsCardSaid : Prop := Claim7.holds Tryz.pinned (.plain (OpenSpec.ofChange splitReadsSpec)) splitReadsCard

/-- THE TIED CARD OF 'hatchwaylaw18.SplitJoins'. -/
def splitJoinsCard : Claim7 := { stood := { row := splitJoinsRow, standIns := [], harness := (true, "8efd8158077ccae1d51444487cd6a3a6e008fab19af279c02d98268919d2f0eb"), looks := false }, kinds := [], alts := [], laidByText := true, laidKinds := [.data, .pinned], laidTests := true, laidLooks := .later }
def SplitJoinsCardSaid : Prop := Claim7.holds Tryz.pinned (.plain (OpenSpec.ofChange splitJoinsSpec)) splitJoinsCard

/-- THE TIED CARD OF 'hatchwaylaw19.FramerChunks'. -/
def framerChunksCard : Claim7 := { stood := { row := framerChunksRow, standIns := [], harness := (true, "8efd8158077ccae1d51444487cd6a3a6e008fab19af279c02d98268919d2f0eb"), looks := false }, kinds := [], alts := [], laidByText := true, laidKinds := [.data, .pinned], laidTests := true, laidLooks := .later }
def FramerChunksCardSaid : Prop := Claim7.holds Tryz.pinned (.plain (OpenSpec.ofChange framerChunksSpec)) framerChunksCard

/-- THE TIED CARD OF 'hatchwaylaw19.FramerBounds'. -/
def framerBoundsCard : Claim7 := { stood := { row := framerBoundsRow, standIns := [], harness := (true, "8efd8158077ccae1d51444487cd6a3a6e008fab19af279c02d98268919d2f0eb"), looks := false }, kinds := [], alts := [], laidByText := true, laidKinds := [.data, .pinned], laidTests := true, laidLooks := .later }
def FramerBoundsCardSaid : Prop := Claim7.holds Tryz.pinned (.plain (OpenSpec.ofChange framerBoundsSpec)) framerBoundsCard

/-- THE TIED CARD OF 'hatchwaylaw19.FramerEmpty'. -/
def framerEmptyCard : Claim7 := { stood := { row := framerEmptyRow, standIns := [], harness := (true, "8efd8158077ccae1d51444487cd6a3a6e008fab19af279c02d98268919d2f0eb"), looks := false }, kinds := [], alts := [], laidByText := true, laidKinds := [.data, .pinned], laidTests := true, laidLooks := .later }
def FramerEmptyCardSaid : Prop := Claim7.holds Tryz.pinned (.plain (OpenSpec.ofChange framerEmptySpec)) framerEmptyCard

/-- THE TIED CARD OF 'hatchwaylaw19.FramerFeeds'. -/
def framerFeedsCard : Claim7 := { stood := { row := framerFeedsRow, standIns := [], harness := (true, "8efd8158077ccae1d51444487cd6a3a6e008fab19af279c02d98268919d2f0eb"), looks := false }, kinds := [], alts := [], laidByText := true, laidKinds := [.data, .pinned], laidTests := true, laidLooks := .later }
def FramerFeedsCardSaid : Prop := Claim7.holds Tryz.pinned (.plain (OpenSpec.ofChange framerFeedsSpec)) framerFeedsCard

/-- THE SECOND FORM's CARD OF 'hatchwaylaw17.WirePuts'. -/
def wirePutsUptoCard : Claim7 := { stood := { row := wirePutsUptoRow, standIns := [], harness := (true, "8efd8158077ccae1d51444487cd6a3a6e008fab19af279c02d98268919d2f0eb"), looks := false }, kinds := [], alts := [], laidByText := true, laidKinds := [.data, .pinned], laidTests := true, laidLooks := .later }
def WirePutsUptoCardSaid : Prop := Claim7.holds Tryz.pinned (.plain (OpenSpec.upto wirePutsSpec)) wirePutsUptoCard

/-- THE SECOND FORM's CARD OF 'hatchwaylaw17.WireMost'. -/
def wireMostUptoCard : Claim7 := { stood := { row := wireMostUptoRow, standIns := [], harness := (true, "8efd8158077ccae1d51444487cd6a3a6e008fab19af279c02d98268919d2f0eb"), looks := false }, kinds := [], alts := [], laidByText := true, laidKinds := [.data, .pinned], laidTests := true, laidLooks := .later }
def WireMostUptoCardSaid : Prop := Claim7.holds Tryz.pinned (.plain (OpenSpec.upto wireMostSpec)) wireMostUptoCard

/-- THE SECOND FORM's CARD OF 'hatchwaylaw17.WireReads'. -/
def wireReadsUptoCard : Claim7 := { stood := { row := wireReadsUptoRow, standIns := [], harness := (true, "8efd8158077ccae1d51444487cd6a3a6e008fab19af279c02d98268919d2f0eb"), looks := false }, kinds := [], alts := [], laidByText := true, laidKinds := [.data, .pinned], laidTests := true, laidLooks := .later }
def WireReadsUptoCardSaid : Prop := Claim7.holds Tryz.pinned (.plain (OpenSpec.upto wireReadsSpec)) wireReadsUptoCard

/-- THE SECOND FORM's CARD OF 'hatchwaylaw18.SplitMore'. -/
def splitMoreUptoCard : Claim7 := { stood := { row := splitMoreUptoRow, standIns := [], harness := (true, "8efd8158077ccae1d51444487cd6a3a6e008fab19af279c02d98268919d2f0eb"), looks := false }, kinds := [], alts := [], laidByText := true, laidKinds := [.data, .pinned], laidTests := true, laidLooks := .later }
def SplitMoreUptoCardSaid : Prop := Claim7.holds Tryz.pinned (.plain (OpenSpec.upto splitMoreSpec)) splitMoreUptoCard

/-- THE SECOND FORM's CARD OF 'hatchwaylaw18.SplitReads'. -/
def splitReadsUptoCard : Claim7 := { stood := { row := splitReadsUptoRow, standIns := [], harness := (true, "8efd8158077ccae1d51444487cd6a3a6e008fab19af279c02d98268919d2f0eb"), looks := false }, kinds := [], alts := [], laidByText := true, laidKinds := [.data, .pinned], laidTests := true, laidLooks := .later }
def SplitReadsUptoCardSaid : Prop := Claim7.holds Tryz.pinned (.plain (OpenSpec.upto splitReadsSpec)) splitReadsUptoCard

/-- THE SECOND FORM's CARD OF 'hatchwaylaw18.SplitJoins'. -/
def splitJoinsUptoCard : Claim7 := { stood := { row := splitJoinsUptoRow, standIns := [], harness := (true, "8efd8158077ccae1d51444487cd6a3a6e008fab19af279c02d98268919d2f0eb"), looks := false }, kinds := [], alts := [], laidByText := true, laidKinds := [.data, .pinned], laidTests := true, laidLooks := .later }
def SplitJoinsUptoCardSaid : Prop := Claim7.holds Tryz.pinned (.plain (OpenSpec.upto splitJoinsSpec)) splitJoinsUptoCard

/-- THE SECOND FORM's CARD OF 'hatchwaylaw19.FramerChunks'. -/
def framerChunksUptoCard : Claim7 := { stood := { row := framerChunksUptoRow, standIns := [], harness := (true, "8efd8158077ccae1d51444487cd6a3a6e008fab19af279c02d98268919d2f0eb"), looks := false }, kinds := [], alts := [], laidByText := true, laidKinds := [.data, .pinned], laidTests := true, laidLooks := .later }
def FramerChunksUptoCardSaid : Prop := Claim7.holds Tryz.pinned (.plain (OpenSpec.upto framerChunksSpec)) framerChunksUptoCard

/-- THE SECOND FORM's CARD OF 'hatchwaylaw19.FramerBounds'. -/
def framerBoundsUptoCard : Claim7 := { stood := { row := framerBoundsUptoRow, standIns := [], harness := (true, "8efd8158077ccae1d51444487cd6a3a6e008fab19af279c02d98268919d2f0eb"), looks := false }, kinds := [], alts := [], laidByText := true, laidKinds := [.data, .pinned], laidTests := true, laidLooks := .later }
def FramerBoundsUptoCardSaid : Prop := Claim7.holds Tryz.pinned (.plain (OpenSpec.upto framerBoundsSpec)) framerBoundsUptoCard

/-- THE SECOND FORM's CARD OF 'hatchwaylaw19.FramerEmpty'. -/
def framerEmptyUptoCard : Claim7 := { stood := { row := framerEmptyUptoRow, standIns := [], harness := (true, "8efd8158077ccae1d51444487cd6a3a6e008fab19af279c02d98268919d2f0eb"), looks := false }, kinds := [], alts := [], laidByText := true, laidKinds := [.data, .pinned], laidTests := true, laidLooks := .later }
def FramerEmptyUptoCardSaid : Prop := Claim7.holds Tryz.pinned (.plain (OpenSpec.upto framerEmptySpec)) framerEmptyUptoCard

/-- THE SECOND FORM's CARD OF 'hatchwaylaw19.FramerFeeds'. -/
def framerFeedsUptoCard : Claim7 := { stood := { row := framerFeedsUptoRow, standIns := [], harness := (true, "8efd8158077ccae1d51444487cd6a3a6e008fab19af279c02d98268919d2f0eb"), looks := false }, kinds := [], alts := [], laidByText := true, laidKinds := [.data, .pinned], laidTests := true, laidLooks := .later }
def FramerFeedsUptoCardSaid : Prop := Claim7.holds Tryz.pinned (.plain (OpenSpec.upto framerFeedsSpec)) framerFeedsUptoCard
end Rows
end Go.Proofs.YtebllmpdlapefaaGreatDoor
