/- leb.Size. -/
import Derived.Test.YtebllmpdlapefaaGreatDoorKA4
import Derived.Test.YtebllmpdlapefaaGreatDoorKA1
namespace Go.Proofs.YtebllmpdlapefaaGreatDoor
set_option linter.unusedVariables false
set_option linter.unusedSimpArgs false
open Go.RowKit

theorem bl_leb (n : Nat) : n < 2 ^ 64 → (lebL n).length = max 1 ((bl n + 6) / 7) := by
  induction n using Nat.strongRecOn with
  | ind n ih =>
    intro hn
    by_cases h : n < 128
    · have := bl_le 7 n h (by omega)
      rw [lebL_small h]
      simp only [List.length_singleton]; omega
    · rw [lebL_more h, List.length_cons, ih (n / 128) (by omega) (by omega)]
      have h1 := bl_shift 7 n (by omega) hn
      have h2 := bl_pos (n / 2 ^ 7) (by omega) (by omega)
      rw [show (2 : Nat) ^ 7 = 128 from rfl] at h1 h2
      omega
set_option maxRecDepth 100000 in
theorem lebSize_c (n : Nat) (w : World) (hn : n < 18446744073709551616) :
    Calls Tryz.prog 111 #[.int .u64 n] w fun e w' => e = .returned (.int .i64 (lebL n).length) ∧ w = w' := by
  have hl := bl_leb n (by simpa using hn)
  have hb := bl_le 64 n (by simpa using hn) (by omega)
  have HC := Lib.hid (len64_c n w hn)
  have HR := Lib.hid hl
  generalize bl n = b at *
  clear hl
  by_cases h1 : 1 ≤ b
  · have h2 : 1 ≤ (b + 6) / 7 := by omega
    go_enter Tryz.func111, Tryz.ntmps111
    go_wp2_with fail
    refine HC.out.mono ?_
    rintro e w' ⟨rfl, rfl⟩
    by_cases h3 : 8 ≤ b
    · go_wp2
      go_ret
      exact ⟨ret_int (by rw [HR.out]; omega), rfl⟩
    · go_wp2
      go_ret
      exact ⟨ret_int (by rw [HR.out]; omega), rfl⟩
  · obtain rfl : b = 0 := by omega
    go_enter Tryz.func111, Tryz.ntmps111
    go_wp2_with fail
    refine HC.out.mono ?_
    rintro e w' ⟨rfl, rfl⟩
    go_wp2
    go_ret
    exact ⟨ret_int (by rw [HR.out]; omega), rfl⟩
end Go.Proofs.YtebllmpdlapefaaGreatDoor
