/- Names: command.May and the document's. -/
import Derived.Test.YtnfpgadegpmhkaaGreatDoorProg
import Derived.Test.YtnfpgadegpmhkaaGreatDoorKA1
import Derived.Test.YtnfpgadegpmhkaaGreatDoorKA2
import Derived.WalkSpells
import Derived.Lib.BufferWrite
import Derived.Deep.WholeRow
set_option linter.unusedVariables false
set_option linter.unusedSimpArgs false
set_option maxRecDepth 100000
set_option maxHeartbeats 1000000
namespace Go.Proofs.YtnfpgadegpmhkaaGreatDoor
open Go.RowKit
theorem may_next {s : ByteArray} {k : Nat} (hlt : k < s.size) (h : nameL (s.data.toList.take k) = true) (hb : nameB s[k].toNat = true) : nameL (s.data.toList.take (k + 1)) = true := by
 rw [take_snoc s k hlt, nameL_snoc, h, hb]; rfl
theorem may_stop {s : ByteArray} {k : Nat} (hlt : k < s.size) (hb : nameB s[k].toNat = false) : nmMay s = false := by
 have : nameL (s.data.toList.take (k + 1)) = false := by rw [take_snoc s k hlt, nameL_snoc, hb]; simp
 rw [nmMay, nameL_take_no _ _ this]; rfl
theorem may_end {s : ByteArray} {k : Nat} (hk : ¬ k < s.size) (h1 : 1 ≤ s.size) (h2 : s.size ≤ 12) (h : nameL (s.data.toList.take k) = true) : nmMay s = true := by
 rw [List.take_of_length_le (by simp; omega)] at h
 rw [nmMay_of h1 h2, h]
theorem cmdMay_c (s : ByteArray) (w : World) (hs : s.size ≤ 9223372036854775807) :
 Calls Tryz.prog 49 #[.string s] w fun e w' => e = .returned (.bool (nmMay s)) ∧ w = w' := by
 by_cases h1 : 1 ≤ s.size
 ·by_cases h2 : s.size ≤ 12
  ·go_enter Tryz.func49, Tryz.ntmps49
   go_wp2
   go_loop [15] (fun i => ∃ k : Nat, k ≤ s.size ∧ Hid (nameL (s.data.toList.take k) = true) ∧ i = .int .i64 k) (fun i => s.size - (intOf i).toNat)
   case atStart => exact ⟨0, by omega, Lib.hid (by simp [nameL]), rfl⟩
   case round =>
    obtain ⟨k, hk, hm, rfl⟩ := hrel
    by_cases hlt : k < s.size
    ·rcases name_ways s[k].toNat s[k].toNat_lt with ⟨hb, hw, hne⟩ | ⟨hb, hw⟩
     ·have HB := Lib.hid hb
      have e5 : (((s[k].toNat : Nat) : Int) != 95) = true := bne_iff_ne.2 (by omega)
      clear hb hne
      rcases hw with h | ⟨h, h'⟩ | ⟨h, h'⟩ | h
      all_goals
       go_wp2
       go_ret
       exact ⟨ret_bool (may_stop hlt HB.out), rfl⟩
     ·have HB := Lib.hid hb
      clear hb
      rcases hw with ⟨h, h'⟩ | h | ⟨h, h'⟩
      ·go_wp2
       go_round
       case rel => exact ⟨k + 1, by omega, Lib.hid (may_next hlt hm.out HB.out), by go_num⟩
       case measure => simp [intOf]; omega
      ·have e5 : (((s[k].toNat : Nat) : Int) != 95) = false := by simp [h]
       have h6 : 94 < s[k].toNat := by omega
       have h7 : s[k].toNat < 96 := by omega
       clear h
       go_wp2
       go_round
       case rel => exact ⟨k + 1, by omega, Lib.hid (may_next hlt hm.out HB.out), by go_num⟩
       case measure => simp [intOf]; omega
      ·go_wp2
       go_round
       case rel => exact ⟨k + 1, by omega, Lib.hid (may_next hlt hm.out HB.out), by go_num⟩
       case measure => simp [intOf]; omega
    ·go_wp2
     go_ret
     exact ⟨ret_bool (may_end hlt h1 h2 hm.out), rfl⟩
  ·go_enter Tryz.func49, Tryz.ntmps49
   go_wp2
   go_ret
   exact ⟨ret_bool (nmMay_no (by omega)), rfl⟩
 ·go_enter Tryz.func49, Tryz.ntmps49
  go_wp2
  go_ret
  exact ⟨ret_bool (nmMay_no (by omega)), rfl⟩
theorem refMayN_c (s : ByteArray) (w : World) (hs : s.size ≤ 9223372036854775807) :
 Calls Tryz.prog 33 #[.string s] w fun e w' => e = .returned (.bool (nmMay s)) ∧ w = w' := by
 go_enter Tryz.func33, Tryz.ntmps33
 go_wp2
 go_loop [3] (fun i => ∃ k : Nat, k ≤ s.size ∧ Hid (nameL (s.data.toList.take k) = true) ∧ i = .int .i64 k) (fun i => s.size - (intOf i).toNat)
 case atStart => exact ⟨0, by omega, Lib.hid (by simp [nameL]), rfl⟩
 case round =>
  obtain ⟨k, hk, hm, rfl⟩ := hrel
  by_cases hlt : k < s.size
  ·rcases name_ways s[k].toNat s[k].toNat_lt with ⟨hb, hw, hne⟩ | ⟨hb, hw⟩
   ·have HB := Lib.hid hb
    have e5 : (((s[k].toNat : Nat) : Int) == 95) = false := beq_eq_false_iff_ne.2 (by omega)
    clear hb hne
    rcases hw with h | ⟨h, h'⟩ | ⟨h, h'⟩ | h
    ·go_wp2
     go_ret
     exact ⟨ret_bool (may_stop hlt HB.out), rfl⟩
    ·have d1 : decide (((s[k].toNat : Nat) : Int) ≤ 57) = false := decide_eq_false (by omega)
     go_wp2
     go_ret
     exact ⟨ret_bool (may_stop hlt HB.out), rfl⟩
    ·have d1 : decide (((s[k].toNat : Nat) : Int) ≤ 57) = false := decide_eq_false (by omega)
     go_wp2
     go_ret
     exact ⟨ret_bool (may_stop hlt HB.out), rfl⟩
    ·have d1 : decide (((s[k].toNat : Nat) : Int) ≤ 57) = false := decide_eq_false (by omega)
     have d2 : decide (((s[k].toNat : Nat) : Int) ≤ 122) = false := decide_eq_false (by omega)
     go_wp2
     go_ret
     exact ⟨ret_bool (may_stop hlt HB.out), rfl⟩
   ·have HB := Lib.hid hb
    clear hb
    rcases hw with ⟨h, h'⟩ | h | ⟨h, h'⟩
    ·go_wp2
     go_round
     case rel => exact ⟨k + 1, by omega, Lib.hid (may_next hlt hm.out HB.out), by go_num⟩
     case measure => simp [intOf]; omega
    ·have e5 : (((s[k].toNat : Nat) : Int) == 95) = true := by simp [h]
     have h6 : 94 < s[k].toNat := by omega
     have h7 : s[k].toNat < 96 := by omega
     clear h
     go_wp2
     go_round
     case rel => exact ⟨k + 1, by omega, Lib.hid (may_next hlt hm.out HB.out), by go_num⟩
     case measure => simp [intOf]; omega
    ·go_wp2
     go_round
     case rel => exact ⟨k + 1, by omega, Lib.hid (may_next hlt hm.out HB.out), by go_num⟩
     case measure => simp [intOf]; omega
  ·by_cases h1 : 1 ≤ s.size
   ·by_cases h2 : s.size ≤ 12
    ·have d1 : decide ((s.size : Int) ≤ 12) = true := decide_eq_true (by omega)
     go_wp2
     go_ret
     exact ⟨ret_bool (may_end hlt h1 h2 hm.out), rfl⟩
    ·have d1 : decide ((s.size : Int) ≤ 12) = false := decide_eq_false (by omega)
     go_wp2
     go_ret
     exact ⟨ret_bool (nmMay_no (by omega)), rfl⟩
   ·go_wp2
    go_ret
    exact ⟨ret_bool (nmMay_no (by omega)), rfl⟩
end Go.Proofs.YtnfpgadegpmhkaaGreatDoor
