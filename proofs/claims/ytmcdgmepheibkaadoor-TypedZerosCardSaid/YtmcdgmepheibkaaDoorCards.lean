/-
  DERIVED. GIVEN WITH THE SEED: THE CARDS: each row of YtmcdgmepheibkaaDoorRows.lean that lists a variable, with what it lists TIED to the program's text (the seventh form; the later family's looks); each row that meets fmt, with fmt's text TOLD by the authors' own Lean function (tested against real Go, not proved from fmt's source: count such statements apart). THE CARD IS WHAT COUNTS. Prove the row's statement (the work); the ties are given (YtmcdgmepheibkaaDoorTie.lean); close each card by the builder's one call (the guide's Derived/Test/ToyasCard.lean, 'card_holds'). Laid BY PROGRAM, IN A SANDBOX (cutbox-door.mjs). By AI agents, Wed Nov 11 2026. No macro, syntax, notation, axiom, sorry.
-/
import Derived.Test.YtmcdgmepheibkaaDoorRows
import GoSem.ClaimSeven
namespace Go.Proofs.YtmcdgmepheibkaaDoor
namespace Rows

/-- THE TIED CARD OF 'hatchwaylaw21.TypedFits'. -/
def typedFitsCard : Claim7 := { stood := { row := typedFitsRow, standIns := [], harness := (true, "659416f3c4a6144ea6cee158e326df8824391548cb54e5dd917a16b872b80f38"), looks := false }, kinds := [], alts := [], laidByText := true, laidKinds := [.data], laidTests := true, laidLooks := .later }
def TypedFitsCardSaid : Prop := Claim7.holds Tryd.pinned (.plain (OpenSpec.ofChange typedFitsSpec)) typedFitsCard

/-- THE TIED CARD OF 'hatchwaylaw21.TypedZeros'. -/
def typedZerosCard : Claim7 := { stood := { row := typedZerosRow, standIns := [], harness := (true, "659416f3c4a6144ea6cee158e326df8824391548cb54e5dd917a16b872b80f38"), looks := false }, kinds := [], alts := [], laidByText := true, laidKinds := [.data], laidTests := true, laidLooks := .later }
def TypedZerosCardSaid : Prop := Claim7.holds Tryd.pinned (.plain (OpenSpec.ofChange typedZerosSpec)) typedZerosCard

/-- THE TIED CARD OF 'hatchwaylaw21.TypedNumbers'. -/
def typedNumbersCard : Claim7 := { stood := { row := typedNumbersRow, standIns := [], harness := (true, "659416f3c4a6144ea6cee158e326df8824391548cb54e5dd917a16b872b80f38"), looks := false }, kinds := [], alts := [], laidByText := true, laidKinds := [.data], laidTests := true, laidLooks := .later }
def TypedNumbersCardSaid : Prop := Claim7.holds Tryd.pinned (.plain (OpenSpec.ofChange typedNumbersSpec)) typedNumbersCard

/-- THE TIED CARD OF 'hatchwaylaw22.TreeOne'. -/
def treeOneCard : Claim7 := { stood := { row := treeOneRow, standIns := [], harness := (true, "659416f3c4a6144ea6cee158e326df8824391548cb54e5dd917a16b872b80f38"), looks := false }, kinds := [], alts := [], laidByText := true, laidKinds := [.data], laidTests := true, laidLooks := .later }
def TreeOneCardSaid : Prop := Claim7.holds Tryd.pinned (.plain (OpenSpec.ofChange treeOneSpec)) treeOneCard

/-- THE TIED CARD OF 'hatchwaylaw22.TreePuts'. -/
def treePutsCard : Claim7 := { stood := { row := treePutsRow, standIns := [], harness := (true, "659416f3c4a6144ea6cee158e326df8824391548cb54e5dd917a16b872b80f38"), looks := false }, kinds := [], alts := [], laidByText := true, laidKinds := [.data], laidTests := true, laidLooks := .later }
def TreePutsCardSaid : Prop := Claim7.holds Tryd.pinned (.plain (OpenSpec.ofChange treePutsSpec)) treePutsCard

/-- THE TIED CARD OF 'hatchwaylaw22.TreeGets'. -/
def treeGetsCard : Claim7 := { stood := { row := treeGetsRow, standIns := [], harness := (true, "659416f3c4a6144ea6cee158e326df8824391548cb54e5dd917a16b872b80f38"), looks := false }, kinds := [], alts := [], laidByText := true, laidKinds := [.data], laidTests := true, laidLooks := .later }
def TreeGetsCardSaid : Prop := Claim7.holds Tryd.pinned (.plain (OpenSpec.ofChange treeGetsSpec)) treeGetsCard

/-- THE TIED CARD OF 'hatchwaylaw32.HelloPuts'. -/
def helloPutsCard : Claim7 := { stood := { row := helloPutsRow, standIns := [], harness := (true, "659416f3c4a6144ea6cee158e326df8824391548cb54e5dd917a16b872b80f38"), looks := false }, kinds := [], alts := [], laidByText := true, laidKinds := [.data], laidTests := true, laidLooks := .later }
def HelloPutsCardSaid : Prop := Claim7.holds Tryd.pinned (.plain (OpenSpec.ofChange helloPutsSpec)) helloPutsCard

/-- THE TIED CARD OF 'hatchwaylaw32.HelloGets'. -/
def helloGetsCard : Claim7 := { stood := { row := helloGetsRow, standIns := [], harness := (true, "659416f3c4a6144ea6cee158e326df8824391548cb54e5dd917a16b872b80f38"), looks := false }, kinds := [], alts := [], laidByText := true, laidKinds := [.data], laidTests := true, laidLooks := .later }
def HelloGetsCardSaid : Prop := Claim7.holds Tryd.pinned (.plain (OpenSpec.ofChange helloGetsSpec)) helloGetsCard

/-- THE SECOND FORM's CARD OF 'hatchwaylaw21.TypedFits'. -/
def typedFitsUptoCard : Claim7 := { stood := { row := typedFitsUptoRow, standIns := [], harness := (true, "659416f3c4a6144ea6cee158e326df8824391548cb54e5dd917a16b872b80f38"), looks := false }, kinds := [], alts := [], laidByText := true, laidKinds := [.data], laidTests := true, laidLooks := .later }
def TypedFitsUptoCardSaid : Prop := Claim7.holds Tryd.pinned (.plain (OpenSpec.upto typedFitsSpec)) typedFitsUptoCard

/-- THE SECOND FORM's CARD OF 'hatchwaylaw21.TypedZeros'. -/
def typedZerosUptoCard : Claim7 := { stood := { row := typedZerosUptoRow, standIns := [], harness := (true, "659416f3c4a6144ea6cee158e326df8824391548cb54e5dd917a16b872b80f38"), looks := false }, kinds := [], alts := [], laidByText := true, laidKinds := [.data], laidTests := true, laidLooks := .later }
def TypedZerosUptoCardSaid : Prop := Claim7.holds Tryd.pinned (.plain (OpenSpec.upto typedZerosSpec)) typedZerosUptoCard

/-- THE SECOND FORM's CARD OF 'hatchwaylaw21.TypedNumbers'. -/
def typedNumbersUptoCard : Claim7 := { stood := { row := typedNumbersUptoRow, standIns := [], harness := (true, "659416f3c4a6144ea6cee158e326df8824391548cb54e5dd917a16b872b80f38"), looks := false }, kinds := [], alts := [], laidByText := true, laidKinds := [.data], laidTests := true, laidLooks := .later }
def TypedNumbersUptoCardSaid : Prop := Claim7.holds Tryd.pinned (.plain (OpenSpec.upto typedNumbersSpec)) typedNumbersUptoCard

/-- THE SECOND FORM's CARD OF 'hatchwaylaw22.TreeOne'. -/
def treeOneUptoCard : Claim7 := { stood := { row := treeOneUptoRow, standIns := [], harness := (true, "659416f3c4a6144ea6cee158e326df8824391548cb54e5dd917a16b872b80f38"), looks := false }, kinds := [], alts := [], laidByText := true, laidKinds := [.data], laidTests := true, laidLooks := .later }
def TreeOneUptoCardSaid : Prop := Claim7.holds Tryd.pinned (.plain (OpenSpec.upto treeOneSpec)) treeOneUptoCard

/-- THE SECOND FORM's CARD OF 'hatchwaylaw22.TreePuts'. -/
def treePutsUptoCard : Claim7 := { stood := { row := treePutsUptoRow, standIns := [], harness := (true, "659416f3c4a6144ea6cee158e326df8824391548cb54e5dd917a16b872b80f38"), looks := false }, kinds := [], alts := [], laidByText := true, laidKinds := [.data], laidTests := true, laidLooks := .later }
def TreePutsUptoCardSaid : Prop := Claim7.holds Tryd.pinned (.plain (OpenSpec.upto treePutsSpec)) treePutsUptoCard

/-- THE SECOND FORM's CARD OF 'hatchwaylaw22.TreeGets'. -/
def treeGetsUptoCard : Claim7 := { stood := { row := treeGetsUptoRow, standIns := [], harness := (true, "659416f3c4a6144ea6cee158e326df8824391548cb54e5dd917a16b872b80f38"), looks := false }, kinds := [], alts := [], laidByText := true, laidKinds := [.data], laidTests := true, laidLooks := .later }
def TreeGetsUptoCardSaid : Prop := Claim7.holds Tryd.pinned (.plain (OpenSpec.upto treeGetsSpec)) treeGetsUptoCard

/-- THE SECOND FORM's CARD OF 'hatchwaylaw32.HelloPuts'. -/
def helloPutsUptoCard : Claim7 := { stood := { row := helloPutsUptoRow, standIns := [], harness := (true, "659416f3c4a6144ea6cee158e326df8824391548cb54e5dd917a16b872b80f38"), looks := false }, kinds := [], alts := [], laidByText := true, laidKinds := [.data], laidTests := true, laidLooks := .later }
def HelloPutsUptoCardSaid : Prop := Claim7.holds Tryd.pinned (.plain (OpenSpec.upto helloPutsSpec)) helloPutsUptoCard

/-- THE SECOND FORM's CARD OF 'hatchwaylaw32.HelloGets'. -/
def helloGetsUptoCard : Claim7 := { stood := { row := helloGetsUptoRow, standIns := [], harness := (true, "659416f3c4a6144ea6cee158e326df8824391548cb54e5dd917a16b872b80f38"), looks := false }, kinds := [], alts := [], laidByText := true, laidKinds := [.data], laidTests := true, laidLooks := .later }
def HelloGetsUptoCardSaid : Prop := Claim7.holds Tryd.pinned (.plain (OpenSpec.upto helloGetsSpec)) helloGetsUptoCard
end Rows
end Go.Proofs.YtmcdgmepheibkaaDoor
