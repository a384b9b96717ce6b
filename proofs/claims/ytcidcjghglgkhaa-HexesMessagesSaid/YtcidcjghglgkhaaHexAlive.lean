/- hatchwaylaw27.alive. -/
import Derived.Test.YtcidcjghglgkhaaHexDump
namespace Go.Proofs.Ytcidcjghglgkhaa
set_option linter.unusedVariables false
set_option linter.unusedSimpArgs false
open Go.RowKit

theorem dump_alive : dumpL [97, 0] = [48, 48, 48, 48, 48, 48, 48, 48, 32, 54, 49, 32, 48, 48, 32, 32, 97, 46, 10] := by decide +kernel
set_option maxRecDepth 100000 in
theorem hexAlive_c (w : World) : Calls Try.prog 30 #[] w fun e w' => e = .returned (.bool true) ∧ Below w.heap.size w w' := by
  have h := dump_c ⟨#[97, 0]⟩ w (by decide)
  rw [show (⟨#[97, 0]⟩ : ByteArray).data.toList = [97, 0] from rfl, dump_alive] at h
  have HD := Lib.hid h
  clear h
  go_enter Try.func30, Try.ntmps30
  go_wp2_with fail
  refine HD.out.mono ?_
  rintro e w1 ⟨rfl, hb⟩
  go_wp2
  go_ret
  exact ⟨rfl, hb⟩
end Go.Proofs.Ytcidcjghglgkhaa
