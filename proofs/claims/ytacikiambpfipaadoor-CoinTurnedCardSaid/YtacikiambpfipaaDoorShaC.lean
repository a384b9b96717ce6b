/- sha: the constants that the program holds are the document's roots. -/
import Derived.Test.YtacikiambpfipaaDoorSha
import Derived.Test.YtacikiambpfipaaDoorShaRP
namespace Go.Proofs.YtacikiambpfipaaDoor
set_option linter.unusedVariables false
set_option linter.unusedSimpArgs false
open Go.RowKit

def sixtyB : ByteArray := ⟨#[66, 138, 47, 152, 113, 55, 68, 145, 181, 192, 251, 207, 233, 181, 219, 165, 57, 86, 194, 91, 89, 241, 17, 241, 146, 63, 130, 164, 171, 28, 94, 213, 216, 7, 170, 152, 18, 131, 91, 1, 36, 49, 133, 190, 85, 12, 125, 195, 114, 190, 93, 116, 128, 222, 177, 254, 155, 220, 6, 167, 193, 155, 241, 116, 228, 155, 105, 193, 239, 190, 71, 134, 15, 193, 157, 198, 36, 12, 161, 204, 45, 233, 44, 111, 74, 116, 132, 170, 92, 176, 169, 220, 118, 249, 136, 218, 152, 62, 81, 82, 168, 49, 198, 109, 176, 3, 39, 200, 191, 89, 127, 199, 198, 224, 11, 243, 213, 167, 145, 71, 6, 202, 99, 81, 20, 41, 41, 103, 39, 183, 10, 133, 46, 27, 33, 56, 77, 44, 109, 252, 83, 56, 13, 19, 101, 10, 115, 84, 118, 106, 10, 187, 129, 194, 201, 46, 146, 114, 44, 133, 162, 191, 232, 161, 168, 26, 102, 75, 194, 75, 139, 112, 199, 108, 81, 163, 209, 146, 232, 25, 214, 153, 6, 36, 244, 14, 53, 133, 16, 106, 160, 112, 25, 164, 193, 22, 30, 55, 108, 8, 39, 72, 119, 76, 52, 176, 188, 181, 57, 28, 12, 179, 78, 216, 170, 74, 91, 156, 202, 79, 104, 46, 111, 243, 116, 143, 130, 238, 120, 165, 99, 111, 132, 200, 120, 20, 140, 199, 2, 8, 144, 190, 255, 250, 164, 80, 108, 235, 190, 249, 163, 247, 198, 113, 120, 242]⟩
theorem sixty_all : ((List.range 64).all fun i => wordAt sixtyB i == shKlit.getD i 0) = true := by decide +kernel
theorem sixty_word (i : Nat) (h : i < 64) : wordAt ⟨#[66, 138, 47, 152, 113, 55, 68, 145, 181, 192, 251, 207, 233, 181, 219, 165, 57, 86, 194, 91, 89, 241, 17, 241, 146, 63, 130, 164, 171, 28, 94, 213, 216, 7, 170, 152, 18, 131, 91, 1, 36, 49, 133, 190, 85, 12, 125, 195, 114, 190, 93, 116, 128, 222, 177, 254, 155, 220, 6, 167, 193, 155, 241, 116, 228, 155, 105, 193, 239, 190, 71, 134, 15, 193, 157, 198, 36, 12, 161, 204, 45, 233, 44, 111, 74, 116, 132, 170, 92, 176, 169, 220, 118, 249, 136, 218, 152, 62, 81, 82, 168, 49, 198, 109, 176, 3, 39, 200, 191, 89, 127, 199, 198, 224, 11, 243, 213, 167, 145, 71, 6, 202, 99, 81, 20, 41, 41, 103, 39, 183, 10, 133, 46, 27, 33, 56, 77, 44, 109, 252, 83, 56, 13, 19, 101, 10, 115, 84, 118, 106, 10, 187, 129, 194, 201, 46, 146, 114, 44, 133, 162, 191, 232, 161, 168, 26, 102, 75, 194, 75, 139, 112, 199, 108, 81, 163, 209, 146, 232, 25, 214, 153, 6, 36, 244, 14, 53, 133, 16, 106, 160, 112, 25, 164, 193, 22, 30, 55, 108, 8, 39, 72, 119, 76, 52, 176, 188, 181, 57, 28, 12, 179, 78, 216, 170, 74, 91, 156, 202, 79, 104, 46, 111, 243, 116, 143, 130, 238, 120, 165, 99, 111, 132, 200, 120, 20, 140, 199, 2, 8, 144, 190, 255, 250, 164, 80, 108, 235, 190, 249, 163, 247, 198, 113, 120, 242]⟩ i = shK.getD i 0 := by
  have := List.all_eq_true.1 sixty_all i (List.mem_range.2 h)
  rw [shK_lit]
  exact beq_iff_eq.1 this
theorem shK_lt (i : Nat) : shK.getD i 0 < 4294967296 := by
  rw [shK_lit]
  by_cases h : i < 64
  · rw [← shK_lit, ← sixty_word i h]; exact wordAt_lt _ _
  · rw [List.getD_eq_getElem?_getD, List.getElem?_eq_none (by simp [shKlit]; omega)]; simp
set_option maxRecDepth 100000 in
set_option maxHeartbeats 400000 in
theorem mix1_c (i : Nat) (w : World) (h : i < 64) : Calls Tryd.prog 184 #[.int .i64 i] w fun e w' => e = .returned (.int .u32 (shK.getD i 0 : Nat)) ∧ ∃ n, w' = w.drewN n := by
  have HS := Lib.hid (sixty_word i h)
  generalize hK : shK.getD i 0 = K at *
  go_enter Tryd.func184, Tryd.ntmps184
  go_wp2_with fail
  refine (word_c _ i _ (by simp [ByteArray.size]; omega) (by simp [ByteArray.size])).mono ?_
  rintro e w' ⟨rfl, n, rfl⟩
  rw [HS.out]
  go_wp2
  go_ret
  exact ⟨rfl, _, rfl⟩
end Go.Proofs.YtacikiambpfipaaDoor
