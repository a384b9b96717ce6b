/- The document's number of bytes, the highest first. -/
/- fixed.GetLittle; a text turned. -/
/- The document's little numbers. -/
import Derived.Test.YtebllmpdlapefaaGreatDoorProg
import Derived.Test.YtebllmpdlapefaaGreatDoorKA1
import Derived.WalkSpells
namespace Go.Proofs.YtebllmpdlapefaaGreatDoor
set_option linter.unusedVariables false
set_option linter.unusedSimpArgs false
open Go.RowKit

theorem ret2_num {a : Int} {b c : Nat} (h : a = (b : Int)) (h' : b = c) : Ending.returned (.tuple #[.int .u64 a, .int .i64 0]) = .returned (.tuple #[.int .u64 c, .int .i64 0]) := by
  subst h; subst h'; rfl

set_option maxRecDepth 100000 in
set_option maxHeartbeats 1000000 in
theorem refNumber_c (s : ByteArray) (w : World) (h8 : s.size ≤ 8) :
    Calls Tryz.prog 85 #[.string s] w fun e w' => e = .returned (.int .u64 (beL s.data.toList)) ∧ w = w' := by
  go_enter Tryz.func85, Tryz.ntmps85
  go_wp2
  go_loop [3, 4] (fun n i => ∃ k m : Nat, k ≤ s.size ∧ Hid (m = beL (s.data.toList.take k)) ∧ n = .int .u64 m ∧ i = .int .i64 k) (fun _ i => s.size - (intOf i).toNat)
  case atStart => exact ⟨0, 0, by omega, rfl, rfl, rfl⟩
  case round =>
    obtain ⟨k, m, hk, hm, rfl, rfl⟩ := hrel
    by_cases hlt : k < s.size
    · go_wp2
      go_round
      case rel =>
        have hb := s[k].toNat_lt
        have hn := beL_lt (s.data.toList.take (k + 1))
        rw [length_take s (k + 1) (by omega), take_snoc s k hlt, beL_snoc, ← hm.out] at hn
        have hp := le_pow (k + 1) (by omega)
        refine ⟨k + 1, _, by omega, Lib.hid rfl, ?_, by go_num⟩
        rw [take_snoc s k hlt, beL_snoc, ← hm.out, IntWalk.u64_in (256 * (m : Int)) (by omega), IntWalk.u64_in (s[k].toNat : Int) (by omega), IntWalk.u64_in _ (by omega)]
        go_num
      case measure => simp [intOf]; omega
    · go_wp2
      go_ret
      exact ⟨by show Ending.returned (.int .u64 m) = _; rw [hm.out, List.take_of_length_le (by simp; omega)], rfl⟩
end Go.Proofs.YtebllmpdlapefaaGreatDoor
namespace Go.Proofs.YtebllmpdlapefaaGreatDoor
set_option linter.unusedVariables false
set_option linter.unusedSimpArgs false
open Go.RowKit

/-- What the walk leaves of 'n |= uint64(s[i]) << (8*i)'. -/
theorem le_bits (n b k : Nat) (hb : b < 256) (hk : k < 8) (hn : n < 2 ^ (8 * k)) :
    bits .or .u64 (n : Int) (IntKind.u64.wrap (IntKind.u64.wrap (b : Int) * 2 ^ (8 * k))) = ((n + b * 2 ^ (8 * k) : Nat) : Int) := by
  have hl := le_step n b k hb hn
  have hp := le_pow (k + 1) (by omega)
  have h2 : (b : Int) * 2 ^ (8 * k) = ((b * 2 ^ (8 * k) : Nat) : Int) := by simp
  rw [IntWalk.u64_in (b : Int) (by omega), h2, IntWalk.u64_in _ (by omega), u64_or_nat _ _ (by omega) (by omega), le_or _ _ _ hn]
set_option maxRecDepth 100000 in
set_option maxHeartbeats 1000000 in
theorem getLittle_c (s : ByteArray) (w : World) (h0 : 0 < s.size) (h8 : s.size ≤ 8) :
    Calls Tryz.prog 100 #[.string s] w fun e w' => e = .returned (.tuple #[.int .u64 (leL s.data.toList), .int .i64 0]) ∧ w = w' := by
  have hz : ((s.size : Int) == 0) = false := beq_eq_false_iff_ne.2 (by omega)
  go_enter Tryz.func100, Tryz.ntmps100
  go_wp2
  go_loop [5, 15] (fun n i => ∃ k m : Nat, k ≤ s.size ∧ Hid (m = leL (s.data.toList.take k)) ∧ n = .int .u64 m ∧ i = .int .i64 k) (fun _ i => s.size - (intOf i).toNat)
  case atStart => exact ⟨0, 0, by omega, rfl, rfl, rfl⟩
  case round =>
    obtain ⟨k, m, hk, hm, rfl, rfl⟩ := hrel
    by_cases hlt : k < s.size
    · go_wp2
      have hb := s[k].toNat_lt
      have hn := leL_lt (s.data.toList.take k)
      rw [length_take s k hk, ← hm.out] at hn
      have e := le_bits m s[k].toNat k hb (by omega) hn
      go_round
      case rel =>
        refine ⟨k + 1, _, by omega, Lib.hid rfl, ?_, by go_num⟩
        rw [take_snoc s k hlt, leL_snoc, length_take s k hk, ← hm.out, ← e]
      case measure => simp [intOf]; omega
    · go_wp2
      go_ret2
      exact ⟨ret2_num rfl (by rw [hm.out, List.take_of_length_le (by simp; omega)]), rfl⟩

set_option maxRecDepth 100000 in
set_option maxHeartbeats 1000000 in
theorem getLittle_none (s : ByteArray) (w : World) (h0 : s.size = 0) :
    Calls Tryz.prog 100 #[.string s] w fun e w' => e = .returned (.tuple #[.int .u64 0, .int .i64 1]) ∧ w = w' := by
  go_enter Tryz.func100, Tryz.ntmps100
  go_wp2
  go_ret2
  exact ⟨rfl, rfl⟩

set_option maxRecDepth 100000 in
set_option maxHeartbeats 1000000 in
theorem refTurned_c (s : ByteArray) (w : World) (hs : s.size ≤ 1000000) :
    Calls Tryz.prog 86 #[.string s] w fun e w' => e = .returned (.string ⟨s.data.toList.reverse.toArray⟩) ∧ w = w' := by
  go_enter Tryz.func86, Tryz.ntmps86
  go_wp2
  go_loop [3, 4] (fun o i => ∃ (k : Nat) (x : ByteArray), k ≤ s.size ∧ Hid (x = ⟨(s.data.toList.take k).reverse.toArray⟩) ∧ x.size ≤ k ∧ o = .string x ∧ i = .int .i64 k) (fun _ i => s.size - (intOf i).toNat)
  case atStart => exact ⟨0, _, by omega, rfl, by simp [ByteArray.size], rfl, rfl⟩
  case round =>
    obtain ⟨k, x, hk, hx, hxs, rfl, rfl⟩ := hrel
    by_cases hlt : k < s.size
    · go_wp2
      go_round
      case rel =>
        refine ⟨k + 1, _, by omega, Lib.hid ?_, ?_, rfl, by go_num⟩
        · apply bytes_ext
          rw [toList_app, cut_one s k hlt, hx.out, take_snoc s k hlt]; simp
        · rw [size_app, size_cut s k (k + 1) (by omega)]; omega
      case measure => simp [intOf]; omega
    · go_wp2
      go_ret
      exact ⟨by show Ending.returned (.string x) = _; rw [hx.out, List.take_of_length_le (by simp; omega)], rfl⟩

end Go.Proofs.YtebllmpdlapefaaGreatDoor
namespace Go.Proofs.YtebllmpdlapefaaGreatDoor
set_option linter.unusedVariables false
set_option linter.unusedSimpArgs false
open Go.RowKit

/-- little number of so many bytes. -/
theorem refLittle_c (s : ByteArray) (w : World) (hs : s.size ≤ 4) :
    Calls Tryz.prog 150 #[.string s] w fun e w' => e = .returned (.int .i64 (leL s.data.toList)) ∧ w = w' := by
  have hb := leL_lt s.data.toList
  have hp : 2 ^ (8 * s.data.toList.length) ≤ 2 ^ 32 := Nat.pow_le_pow_right (by omega) (by simp; omega)
  have hlt : leL s.data.toList ≤ 4294967295 := by omega
  clear hb hp
  have hr : (⟨s.data.toList.reverse.toArray⟩ : ByteArray).size ≤ 8 := by rw [size_of]; simp; omega
  have hn := fun w => refNumber_c ⟨s.data.toList.reverse.toArray⟩ w hr
  have he : beL s.data.toList.reverse = leL s.data.toList := by simp [beL]
  simp only [he] at hn
  have Hn := Lib.hid hn
  clear hn he hr
  go_enter Tryz.func150, Tryz.ntmps150
  go_wp2_with fail
  refine (refTurned_c s w (by omega)).mono ?_
  rintro e w' ⟨rfl, rfl⟩
  go_wp2_with fail
  refine (Hn.out _).mono ?_
  rintro e w' ⟨rfl, rfl⟩
  go_wp2
  go_ret
  exact ⟨rfl, rfl⟩
end Go.Proofs.YtebllmpdlapefaaGreatDoor
