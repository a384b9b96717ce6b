/-
  DERIVED. GIVEN WITH THE SEED: THE CARDS: each row of YtnfpgadegpmhkaaGreatDoorRows.lean that lists a variable, with what it lists TIED to the program's text (the seventh form; the later family's looks); each row that meets fmt, with fmt's text TOLD by the authors' own Lean function (tested against real Go, not proved from fmt's source: count such statements apart). THE CARD IS WHAT COUNTS. Prove the row's statement (the work); the ties are given (YtnfpgadegpmhkaaGreatDoorTie.lean); close each card by the builder's one call (the guide's Derived/Test/ToyasCard.lean, 'card_holds'). Laid BY PROGRAM, IN A SANDBOX (cutbox-door.mjs). By AI agents, Wed Nov 11 2026. No macro, syntax, notation, axiom, sorry.
-/
import Derived.Test.YtnfpgadegpmhkaaGreatDoorRows
import GoSem.ClaimSeven
namespace Go.Proofs.YtnfpgadegpmhkaaGreatDoor
namespace Rows

/-- THE TIED CARD OF 'hatchwaylaw24.RegistryEncodes'. -/
def registryEncodesCard : Claim7 := { stood := { row := registryEncodesRow, standIns := [], harness := (true, "5846773acc061a1cd81f8ddbfab2de4e64ea14b6ce771ed1e0ba79950b41e27f"), looks := false }, kinds := [], alts := [], laidByText := true, laidKinds := [.data, .data], laidTests := true, laidLooks := .later }
def RegistryEncodesCardSaid : Prop := Claim7.holds Tryz.pinned (.plain (OpenSpec.ofChange registryEncodesSpec)) registryEncodesCard

/-- THE TIED CARD OF 'hatchwaylaw24.RegistryDecodes'. -/
def registryDecodesCard : Claim7 := { stood := { row := registryDecodesRow, standIns := [], harness := (true, "5846773acc061a1cd81f8ddbfab2de4e64ea14b6ce771ed1e0ba79950b41e27f"), looks := false }, kinds := [], alts := [], laidByText := true, laidKinds := [.data, .data], laidTests := true, laidLooks := .later }
def RegistryDecodesCardSaid : Prop := Claim7.holds Tryz.pinned (.plain (OpenSpec.ofChange registryDecodesSpec)) registryDecodesCard

/-- THE TIED CARD OF 'hatchwaylaw24.RegistryMakes'. -/
def registryMakesCard : Claim7 := { stood := { row := registryMakesRow, standIns := [], harness := (true, "5846773acc061a1cd81f8ddbfab2de4e64ea14b6ce771ed1e0ba79950b41e27f"), looks := false }, kinds := [], alts := [], laidByText := true, laidKinds := [.data, .data], laidTests := true, laidLooks := .later }
def RegistryMakesCardSaid : Prop := Claim7.holds Tryz.pinned (.plain (OpenSpec.ofChange registryMakesSpec)) registryMakesCard

/-- THE SECOND FORM's CARD OF 'hatchwaylaw24.RegistryEncodes'. -/
def registryEncodesUptoCard : Claim7 := { stood := { row := registryEncodesUptoRow, standIns := [], harness := (true, "5846773acc061a1cd81f8ddbfab2de4e64ea14b6ce771ed1e0ba79950b41e27f"), looks := false }, kinds := [], alts := [], laidByText := true, laidKinds := [.data, .data], laidTests := true, laidLooks := .later }
def RegistryEncodesUptoCardSaid : Prop := Claim7.holds Tryz.pinned (.plain (OpenSpec.upto registryEncodesSpec)) registryEncodesUptoCard

/-- THE SECOND FORM's CARD OF 'hatchwaylaw24.RegistryDecodes'. -/
def registryDecodesUptoCard : Claim7 := { stood := { row := registryDecodesUptoRow, standIns := [], harness := (true, "5846773acc061a1cd81f8ddbfab2de4e64ea14b6ce771ed1e0ba79950b41e27f"), looks := false }, kinds := [], alts := [], laidByText := true, laidKinds := [.data, .data], laidTests := true, laidLooks := .later }
def RegistryDecodesUptoCardSaid : Prop := Claim7.holds Tryz.pinned (.plain (OpenSpec.upto registryDecodesSpec)) registryDecodesUptoCard

/-- THE SECOND FORM's CARD OF 'hatchwaylaw24.RegistryMakes'. -/
def registryMakesUptoCard : Claim7 := { stood := { row := registryMakesUptoRow, standIns := [], harness := (true, "5846773acc061a1cd81f8ddbfab2de4e64ea14b6ce771ed1e0ba79950b41e27f"), looks := false }, kinds := [], alts := [], laidByText := true, laidKinds := [.data, .data], laidTests := true, laidLooks := .later }
def RegistryMakesUptoCardSaid : Prop := Claim7.holds Tryz.pinned (.plain (OpenSpec.upto registryMakesSpec)) registryMakesUptoCard
end Rows
end Go.Proofs.YtnfpgadegpmhkaaGreatDoor
