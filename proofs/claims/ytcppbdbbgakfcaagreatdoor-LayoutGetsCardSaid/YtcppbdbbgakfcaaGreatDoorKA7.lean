/- The document's number of bytes, the highest first. -/
import Derived.Test.YtcppbdbbgakfcaaGreatDoorProg
import Derived.Test.YtcppbdbbgakfcaaGreatDoorKA1
import Derived.Test.YtcppbdbbgakfcaaGreatDoorKA3
import Derived.WalkSpells
set_option linter.unusedVariables false
set_option linter.unusedSimpArgs false
set_option maxRecDepth 100000
set_option maxHeartbeats 1000000
namespace Go.Proofs.YtcppbdbbgakfcaaGreatDoor
open Go.RowKit
theorem ret2_num {a : Int} {b c : Nat} (h : a = (b : Int)) (h' : b = c) : Ending.returned (.tuple #[.int .u64 a, .int .i64 0]) = .returned (.tuple #[.int .u64 c, .int .i64 0]) := by
 subst h; subst h'; rfl
theorem refNumber_c (s : ByteArray) (w : World) (h8 : s.size ≤ 8) :
 Calls Tryz.prog 48 #[.string s] w fun e w' => e = .returned (.int .u64 (beL s.data.toList)) ∧ w = w' := by
 go_enter Tryz.func48, Tryz.ntmps48
 go_wp2
 go_loop [3, 4] (fun n i => ∃ k m : Nat, k ≤ s.size ∧ Hid (m = beL (s.data.toList.take k)) ∧ n = .int .u64 m ∧ i = .int .i64 k) (fun _ i => s.size - (intOf i).toNat)
 case atStart => exact ⟨0, 0, by omega, rfl, rfl, rfl⟩
 case round =>
  obtain ⟨k, m, hk, hm, rfl, rfl⟩ := hrel
  by_cases hlt : k < s.size
  ·go_wp2
   go_round
   case rel =>
    have hb := s[k].toNat_lt
    have hn := beL_lt (s.data.toList.take (k + 1))
    rw [length_take s (k + 1) (by omega), take_snoc s k hlt, beL_snoc, ← hm.out] at hn
    have hp := le_pow (k + 1) (by omega)
    refine ⟨k + 1, _, by omega, Lib.hid rfl, ?_, by go_num⟩
    rw [take_snoc s k hlt, beL_snoc, ← hm.out, IntWalk.u64_in (256 * (m : Int)) (by omega), IntWalk.u64_in (s[k].toNat : Int) (by omega), IntWalk.u64_in _ (by omega)]
    go_num
   case measure => simp [intOf]; omega
  ·go_wp2
   go_ret
   exact ⟨by show Ending.returned (.int .u64 m) = _; rw [hm.out, List.take_of_length_le (by simp; omega)], rfl⟩
theorem le_bits (n b k : Nat) (hb : b < 256) (hk : k < 8) (hn : n < 2 ^ (8 * k)) :
 bits .or .u64 (n : Int) (IntKind.u64.wrap (IntKind.u64.wrap (b : Int) * 2 ^ (8 * k))) = ((n + b * 2 ^ (8 * k) : Nat) : Int) := by
 have hl := le_step n b k hb hn
 have hp := le_pow (k + 1) (by omega)
 have h2 : (b : Int) * 2 ^ (8 * k) = ((b * 2 ^ (8 * k) : Nat) : Int) := by simp
 rw [IntWalk.u64_in (b : Int) (by omega), h2, IntWalk.u64_in _ (by omega), u64_or_nat _ _ (by omega) (by omega), le_or _ _ _ hn]
theorem getLittle_c (s : ByteArray) (w : World) (h0 : 0 < s.size) (h8 : s.size ≤ 8) :
 Calls Tryz.prog 58 #[.string s] w fun e w' => e = .returned (.tuple #[.int .u64 (leL s.data.toList), .int .i64 0]) ∧ w = w' := by
 have hz : ((s.size : Int) == 0) = false := beq_eq_false_iff_ne.2 (by omega)
 go_enter Tryz.func58, Tryz.ntmps58
 go_wp2
 go_loop [5, 15] (fun n i => ∃ k m : Nat, k ≤ s.size ∧ Hid (m = leL (s.data.toList.take k)) ∧ n = .int .u64 m ∧ i = .int .i64 k) (fun _ i => s.size - (intOf i).toNat)
 case atStart => exact ⟨0, 0, by omega, rfl, rfl, rfl⟩
 case round =>
  obtain ⟨k, m, hk, hm, rfl, rfl⟩ := hrel
  by_cases hlt : k < s.size
  ·go_wp2
   have hb := s[k].toNat_lt
   have hn := leL_lt (s.data.toList.take k)
   rw [length_take s k hk, ← hm.out] at hn
   have e := le_bits m s[k].toNat k hb (by omega) hn
   go_round
   case rel =>
    refine ⟨k + 1, _, by omega, Lib.hid rfl, ?_, by go_num⟩
    rw [take_snoc s k hlt, leL_snoc, length_take s k hk, ← hm.out, ← e]
   case measure => simp [intOf]; omega
  ·go_wp2
   go_ret2
   exact ⟨ret2_num rfl (by rw [hm.out, List.take_of_length_le (by simp; omega)]), rfl⟩
theorem getLittle_none (s : ByteArray) (w : World) (h0 : s.size = 0) :
 Calls Tryz.prog 58 #[.string s] w fun e w' => e = .returned (.tuple #[.int .u64 0, .int .i64 1]) ∧ w = w' := by
 go_enter Tryz.func58, Tryz.ntmps58
 go_wp2
 go_ret2
 exact ⟨rfl, rfl⟩
theorem refTurned_c (s : ByteArray) (w : World) (hs : s.size ≤ 1000000) :
 Calls Tryz.prog 49 #[.string s] w fun e w' => e = .returned (.string ⟨s.data.toList.reverse.toArray⟩) ∧ w = w' := by
 go_enter Tryz.func49, Tryz.ntmps49
 go_wp2
 go_loop [3, 4] (fun o i => ∃ (k : Nat) (x : ByteArray), k ≤ s.size ∧ Hid (x = ⟨(s.data.toList.take k).reverse.toArray⟩) ∧ x.size ≤ k ∧ o = .string x ∧ i = .int .i64 k) (fun _ i => s.size - (intOf i).toNat)
 case atStart => exact ⟨0, _, by omega, rfl, by simp [ByteArray.size], rfl, rfl⟩
 case round =>
  obtain ⟨k, x, hk, hx, hxs, rfl, rfl⟩ := hrel
  by_cases hlt : k < s.size
  ·go_wp2
   go_round
   case rel =>
    refine ⟨k + 1, _, by omega, Lib.hid ?_, ?_, rfl, by go_num⟩
    ·apply bytes_ext
     rw [toList_app, cut_one s k hlt, hx.out, take_snoc s k hlt]; simp
    ·rw [size_app, size_cut s k (k + 1) (by omega)]; omega
   case measure => simp [intOf]; omega
  ·go_wp2
   go_ret
   exact ⟨by show Ending.returned (.string x) = _; rw [hx.out, List.take_of_length_le (by simp; omega)], rfl⟩
end Go.Proofs.YtcppbdbbgakfcaaGreatDoor
