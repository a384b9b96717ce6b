/- fixed.fits. -/
import Derived.Test.YtacikiambpfipaaDoorDigitsD
namespace Go.Proofs.YtacikiambpfipaaDoor
set_option linter.unusedVariables false
set_option linter.unusedSimpArgs false
open Go.RowKit

set_option maxRecDepth 100000 in
theorem fits_c (n sz : Nat) (w : World) (hn : n < 2 ^ (8 * sz)) (h1 : 1 ≤ sz) (h8 : sz ≤ 8) :
    Calls Tryd.prog 105 #[.int .u64 n, .int .i64 sz] w fun e w' => e = .returned (.int .i64 0) ∧ w = w' := by
  have e0 : (n : Int) / 2 ^ (8 * sz) = 0 := by
    have : ((n / 2 ^ (8 * sz) : Nat) : Int) = 0 := by rw [Nat.div_eq_of_lt hn]; rfl
    simpa using this
  have H := Lib.hid hn
  clear hn
  go_enter Tryd.func105, Tryd.ntmps105
  go_wp2
  go_ret
  exact ⟨rfl, rfl⟩
end Go.Proofs.YtacikiambpfipaaDoor
