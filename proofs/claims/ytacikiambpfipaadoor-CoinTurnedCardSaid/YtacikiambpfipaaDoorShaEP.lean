/- The checksum of the empty text, reckoned. No program in sight. -/
import Derived.Test.YtacikiambpfipaaDoorShaRP
namespace Go.Proofs.YtacikiambpfipaaDoor
set_option linter.unusedVariables false
set_option linter.unusedSimpArgs false

theorem shaB_of (s : ByteArray) (v : Sh) (h : (s ++ shPad s.size).size = 64) (e : (mixF shV (s ++ shPad s.size)).eqB v = true) : shaB s = ⟨(shOut v).toArray⟩ := by
  have h1 : shLast s = v := by
    rw [shLast, h, show 64 / 64 = 1 from rfl]
    show shMix shK shV _ = v
    rw [show 64 * 0 = 0 from rfl, show 0 + 64 = (s ++ shPad s.size).size from by omega, cut_all, ← mixF_eq]
    exact Sh.of_eqB e
  rw [shaB, h1]
theorem sha_empty : shaB ⟨#[]⟩ = ⟨#[227, 176, 196, 66, 152, 252, 28, 20, 154, 251, 244, 200, 153, 111, 185, 36, 39, 174, 65, 228, 100, 155, 147, 76, 164, 149, 153, 27, 120, 82, 184, 85]⟩ := by
  rw [shaB_of ⟨#[]⟩ ⟨0xe3b0c442, 0x98fc1c14, 0x9afbf4c8, 0x996fb924, 0x27ae41e4, 0x649b934c, 0xa495991b, 0x7852b855⟩ (by decide +kernel) (by decide +kernel)]
  rfl
theorem chk_empty : shChk ⟨#[]⟩ = ⟨#[93, 246, 224, 226]⟩ := by
  rw [shChk, sha2, sha_empty, shaB_of _ ⟨0x5df6e0e2, 0x761359d3, 0x0a827505, 0x8e299fcc, 0x03815345, 0x45f55cf4, 0x3e41983f, 0x5d4c9456⟩ (by decide +kernel) (by decide +kernel)]
  rfl
end Go.Proofs.YtacikiambpfipaaDoor
