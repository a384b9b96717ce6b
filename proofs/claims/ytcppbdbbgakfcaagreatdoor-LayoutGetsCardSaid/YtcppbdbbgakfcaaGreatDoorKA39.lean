/- The rows' condition on the two tables (a Uint's sizes; how many bytes stand behind a first byte). -/
import Derived.Test.YtcppbdbbgakfcaaGreatDoorKA14
import Derived.Test.YtcppbdbbgakfcaaGreatDoorKA9
import Derived.Lib.LaidTab
import Derived.Stop.LaidErr
import Derived.MakeChecks
set_option linter.unusedVariables false
set_option linter.unusedSimpArgs false
namespace Go.Proofs.YtcppbdbbgakfcaaGreatDoor
open Go.RowKit
theorem laid_in {W : World} (h : laidMetH Tryz.prog [("hatchway/compact.behind", .agg [.lit (.int .i64 2), .lit (.int .i64 4), .lit (.int .i64 8)]), ("hatchway/schema.uintSizes", .agg [.lit (.int .i64 1), .lit (.int .i64 2), .lit (.int .i64 4), .lit (.int .i64 8)])] W) : Laid W ∧ LaidC W := by
 rw [MakeChecks.laidMetH_plain _ _ _ (by kernel_rfl)] at h
 have hg : Tryz.prog.globalNamed "hatchway/compact.behind" = some 0 := by kernel_rfl
 have hg2 : Tryz.prog.globalNamed "hatchway/schema.uintSizes" = some 1 := by kernel_rfl
 have hT : Lib.TabIs Tryz.prog W "hatchway/compact.behind" .i64 [2, 4, 8] := Lib.tabIs_of_head (k := .i64) (zs := [2, 4, 8]) (n := 3) hg (by kernel_rfl) Tryz.underlying114 Tryz.underlying3 (by kernel_rfl) (by kernel_rfl) h
 have hT2 : Lib.TabIs Tryz.prog W "hatchway/schema.uintSizes" .i64 [1, 2, 4, 8] := Lib.tabIs_of_head (k := .i64) (zs := [1, 2, 4, 8]) (n := 4) hg2 (by kernel_rfl) Tryz.underlying141 Tryz.underlying3 (by kernel_rfl) (by kernel_rfl) h.tail
 exact ⟨⟨hT2.cell hg2 0 (by simp), hT2.cell hg2 1 (by simp), hT2.cell hg2 2 (by simp), hT2.cell hg2 3 (by simp)⟩, ⟨hT.cell hg 0 (by simp), hT.cell hg 1 (by simp), hT.cell hg 2 (by simp)⟩⟩
end Go.Proofs.YtcppbdbbgakfcaaGreatDoor
