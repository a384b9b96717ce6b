/-
  DERIVED. GIVEN WITH THE SEED: THE PROGRAM's TIES (one call each: nine closed facts by the kernel) AND EACH ROW's TIE, after the 31st guide's Derived/Test/Toyas{Tie, Card}.lean. No idea stands in it: it is a product of the set-up. Laid BY PROGRAM, IN A SANDBOX (cutbox-door.mjs). By AI agents, Wed Nov 11 2026. No macro, syntax, notation, axiom, sorry.
-/
import Derived.Test.YtnfpgadegpmhkaaGreatDoorRows
import Derived.LaidByTextLater
import Derived.SevenTiedAt
import Derived.LaidSub
import Derived.LaidOnce
namespace Go.Proofs.YtnfpgadegpmhkaaGreatDoor
open Go
set_option maxRecDepth 100000
theorem seatTie1 : Tryz.prog.laidByTextLater [("hatchway/compact.behind", Rows.laid_hatchway_compact_behind), ("hatchway/schema.uintSizes", Rows.laid_hatchway_schema_uintSizes)] [.data, .data] true :=
  Program.laidByTextLater_by_one 19 8 5 (by kernel_rfl) (by kernel_rfl) (by kernel_rfl) (by kernel_rfl) (by kernel_rfl) (by kernel_rfl) (fun _ _ => by kernel_rfl)
theorem noOwnUnsafe : Tryz.pinned.checked.prog.headLifts.contains "ownunsafe" = false := by kernel_rfl
theorem tie : Tryz.prog.laidByTextLater [("hatchway/compact.behind", Rows.laid_hatchway_compact_behind), ("hatchway/schema.uintSizes", Rows.laid_hatchway_schema_uintSizes)] [.data, .data] true :=
  Program.laidByTextLater.sub seatTie1 ["hatchway/compact.behind", "hatchway/schema.uintSizes"] (by kernel_rfl) (by kernel_rfl)
theorem registryEncodes_row_tie : Rows.registryEncodesRow.laidByTextAt .later Tryz.pinned [.data, .data] true :=
  OpenClaim.laidByTextAt_later rfl rfl tie noOwnUnsafe
theorem registryDecodes_row_tie : Rows.registryDecodesRow.laidByTextAt .later Tryz.pinned [.data, .data] true :=
  OpenClaim.laidByTextAt_later rfl rfl tie noOwnUnsafe
theorem registryMakes_row_tie : Rows.registryMakesRow.laidByTextAt .later Tryz.pinned [.data, .data] true :=
  OpenClaim.laidByTextAt_later rfl rfl tie noOwnUnsafe
theorem registryEncodesUpto_row_tie : Rows.registryEncodesUptoRow.laidByTextAt .later Tryz.pinned [.data, .data] true :=
  OpenClaim.laidByTextAt_later rfl rfl tie noOwnUnsafe
theorem registryDecodesUpto_row_tie : Rows.registryDecodesUptoRow.laidByTextAt .later Tryz.pinned [.data, .data] true :=
  OpenClaim.laidByTextAt_later rfl rfl tie noOwnUnsafe
theorem registryMakesUpto_row_tie : Rows.registryMakesUptoRow.laidByTextAt .later Tryz.pinned [.data, .data] true :=
  OpenClaim.laidByTextAt_later rfl rfl tie noOwnUnsafe
end Go.Proofs.YtnfpgadegpmhkaaGreatDoor
