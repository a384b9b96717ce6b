/- The document's example: a type and a value of it. -/
import Derived.Test.YtcppbdbbgakfcaaGreatDoorKA23
import Derived.Test.YtcppbdbbgakfcaaGreatDoorKA3
set_option linter.unusedVariables false
set_option linter.unusedSimpArgs false
namespace Go.Proofs.YtcppbdbbgakfcaaGreatDoor
open Go.RowKit
theorem exTy2_may : exTy2.may = true := by
 simp [exTy2, Ty.may, Ty.count, Ty.deep, Ty.right, countT, deepT, rightT, tyOk]
theorem exTy2_get : readTy [123, 117, 49, 54, 44, 115, 53, 125] = some exTy2 := by rw [readTy_eq, exTy2_read]; simp [readT, exTy2_may]
def exIt22 : It := .mk ⟨#[]⟩ true [.mk ⟨#[1, 44]⟩ false [], .mk ⟨#[97, 98]⟩ false []]
theorem exIt22_fits : fitE exTy2 exIt22 = 0 := by
 unfold fitE
 rw [exTy2_may]
 simp [exTy2, exIt22, It.may, It.right, It.deep, It.count, rightL, deepL, countL, formed, It.isOf, isOfL, is1, Ty.at, lead0, ByteArray.size]
end Go.Proofs.YtcppbdbbgakfcaaGreatDoor
