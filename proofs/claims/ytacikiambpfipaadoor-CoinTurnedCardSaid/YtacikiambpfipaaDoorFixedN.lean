/- The document's number of bytes, the highest first. -/
import Derived.Test.YtacikiambpfipaaDoorProg
import Derived.Test.YtacikiambpfipaaDoorWords
import Derived.Test.YtacikiambpfipaaDoorFixedP
import Derived.WalkSpells
namespace Go.Proofs.YtacikiambpfipaaDoor
set_option linter.unusedVariables false
set_option linter.unusedSimpArgs false
open Go.RowKit

theorem ret2_num {a : Int} {b c : Nat} (h : a = (b : Int)) (h' : b = c) : Ending.returned (.tuple #[.int .u64 a, .int .i64 0]) = .returned (.tuple #[.int .u64 c, .int .i64 0]) := by
  subst h; subst h'; rfl

set_option maxRecDepth 100000 in
set_option maxHeartbeats 1000000 in
theorem refNumber_c (s : ByteArray) (w : World) (h8 : s.size ≤ 8) :
    Calls Tryd.prog 68 #[.string s] w fun e w' => e = .returned (.int .u64 (beL s.data.toList)) ∧ w = w' := by
  go_enter Tryd.func68, Tryd.ntmps68
  go_wp2
  go_loop [3, 4] (fun n i => ∃ k m : Nat, k ≤ s.size ∧ Hid (m = beL (s.data.toList.take k)) ∧ n = .int .u64 m ∧ i = .int .i64 k) (fun _ i => s.size - (intOf i).toNat)
  case atStart => exact ⟨0, 0, by omega, rfl, rfl, rfl⟩
  case round =>
    obtain ⟨k, m, hk, hm, rfl, rfl⟩ := hrel
    by_cases hlt : k < s.size
    · go_wp2
      go_round
      case rel =>
        have hb := s[k].toNat_lt
        have hn := beL_lt (s.data.toList.take (k + 1))
        rw [length_take s (k + 1) (by omega), take_snoc s k hlt, beL_snoc, ← hm.out] at hn
        have hp := le_pow (k + 1) (by omega)
        refine ⟨k + 1, _, by omega, Lib.hid rfl, ?_, by go_num⟩
        rw [take_snoc s k hlt, beL_snoc, ← hm.out, IntWalk.u64_in (256 * (m : Int)) (by omega), IntWalk.u64_in (s[k].toNat : Int) (by omega), IntWalk.u64_in _ (by omega)]
        go_num
      case measure => simp [intOf]; omega
    · go_wp2
      go_ret
      exact ⟨by show Ending.returned (.int .u64 m) = _; rw [hm.out, List.take_of_length_le (by simp; omega)], rfl⟩
end Go.Proofs.YtacikiambpfipaaDoor
