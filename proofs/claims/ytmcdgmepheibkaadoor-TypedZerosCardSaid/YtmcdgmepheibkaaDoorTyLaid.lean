/- The row's condition on the table of a Uint's sizes. -/
import Derived.Test.YtmcdgmepheibkaaDoorTySchema
import Derived.Lib.LaidTab
import Derived.MakeChecks
namespace Go.Proofs.YtmcdgmepheibkaaDoor
set_option linter.unusedVariables false
set_option linter.unusedSimpArgs false
open Go.RowKit

theorem laid_in {W : World} (h : laidMetH Tryd.prog [("hatchway/schema.uintSizes", .agg [.lit (.int .i64 1), .lit (.int .i64 2), .lit (.int .i64 4), .lit (.int .i64 8)])] W) : Laid W := by
  rw [MakeChecks.laidMetH_plain _ _ _ (by kernel_rfl)] at h
  have hg : Tryd.prog.globalNamed "hatchway/schema.uintSizes" = some 0 := by kernel_rfl
  have hT : Lib.TabIs Tryd.prog W "hatchway/schema.uintSizes" .i64 [1, 2, 4, 8] := Lib.tabIs_of_head (k := .i64) (zs := [1, 2, 4, 8]) (rest := []) (n := 4) hg (by kernel_rfl) Tryd.underlying174 Tryd.underlying3 (by kernel_rfl) (by kernel_rfl) h
  exact ⟨hT.cell hg 0 (by simp), hT.cell hg 1 (by simp), hT.cell hg 2 (by simp), hT.cell hg 3 (by simp)⟩
end Go.Proofs.YtmcdgmepheibkaaDoor
