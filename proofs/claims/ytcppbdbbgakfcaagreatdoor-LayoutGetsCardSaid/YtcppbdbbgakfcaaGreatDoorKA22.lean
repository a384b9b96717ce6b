/- The document's digits and parse, of types. -/
import Derived.Test.YtcppbdbbgakfcaaGreatDoorKA21
import Derived.Test.YtcppbdbbgakfcaaGreatDoorKA3
import Derived.Deep.QuietTactic
import Derived.BigQuiet
import Derived.Deep.DeepFit
import Derived.WalkSpells
set_option linter.unusedVariables false
set_option linter.unusedSimpArgs false
set_option maxRecDepth 100000
set_option maxHeartbeats 1600000
namespace Go.Proofs.YtcppbdbbgakfcaaGreatDoor
open Go.RowKit
theorem dropT (s : ByteArray) (k : Nat) (h : k ≤ s.size) : s.size - (s.data.toList.drop k).length = k := by rw [List.length_drop, toList_size]; omega
theorem w64_in (x : Int) (h1 : -9223372036854775808 ≤ x) (h2 : x ≤ 9223372036854775807) : wrap64 x = x := by unfold wrap64; omega
theorem wrap_dig (m b : Nat) (h : m < 1000000) (h1 : 48 ≤ b) (h2 : b ≤ 57) : wrap64 (wrap64 (wrap64 (10 * (m : Int)) + wrap64 (b : Int)) - 48) = ((10 * m + (b - 48) : Nat) : Int) := by
 rw [w64_in (10 * (m : Int)) (by omega) (by omega), w64_in (b : Int) (by omega) (by omega), w64_in (10 * (m : Int) + b) (by omega) (by omega), w64_in _ (by omega) (by omega)]
 omega
def numEnd (s : ByteArray) : Option (Nat × List UInt8) → Ending
 | none => .returned (.tuple #[.int .i64 0, .int .i64 (-1)])
 | some (n, r) => .returned (.tuple #[.int .i64 n, .int .i64 ((s.size - r.length : Nat) : Int)])
theorem digits20_c (s : ByteArray) (at_ : Nat) (w : World) (hat : at_ ≤ s.size) (hs : s.size ≤ 100000) :
 Calls Tryz.prog 79 #[.string s, .int .i64 at_] w fun e w' => e = numEnd s (numR (s.data.toList.drop at_)) ∧ w = w' := by
 obtain ⟨R, HR⟩ : ∃ R, Hid (numEnd s (numR (s.data.toList.drop at_)) = R) := ⟨_, Lib.hid rfl⟩
 rw [HR.out]
 go_enter Tryz.func79, Tryz.ntmps79
 go_wp2_with fail
 go_loop [6, 1] (fun n i => ∃ k m : Nat, at_ ≤ k ∧ k ≤ s.size ∧ m ≤ 10000100 ∧ Hid (DgRel s at_ k m) ∧ n = .int .i64 m ∧ i = .int .i64 k) (fun _ i => s.size - (intOf i).toNat)
 case atStart => exact ⟨at_, 0, by omega, hat, by omega, Lib.hid (DgRel.start s at_), rfl, rfl⟩
 case round =>
  obtain ⟨k, m, hka, hk, hm, hrel, rfl, rfl⟩ := hrel
  by_cases hlt : k < s.size
  ·by_cases h1 : 48 ≤ s[k].toNat
   ·by_cases h2 : s[k].toNat ≤ 57
    ·have HD := Lib.hid (hrel.out.next hlt ((isDig_iff _).2 ⟨h1, h2⟩))
     have HST := Lib.hid (digStep_le m s[k] hm h2)
     have e7 : decide ((48 : Int) ≤ (s[k].toNat : Int)) = true := decide_eq_true (by omega)
     have e8 : decide ((s[k].toNat : Int) ≤ 57) = true := decide_eq_true (by omega)
     have H1 := Lib.hid h1
     have H2 := Lib.hid h2
     clear h1 h2
     by_cases h3 : m < 1000000
     ·have HS : Hid (digStep m s[k] = 10 * m + (s[k].toNat - 48)) := Lib.hid (by simp [digStep, h3])
      have e6 : decide ((m : Int) < 1000000) = true := decide_eq_true (by omega)
      have H3 := Lib.hid h3
      have HM := Lib.hid hm
      clear h3 hm
      go_wp2_with fail
      go_round
      case rel => exact ⟨k + 1, digStep m s[k], by omega, by omega, HST.out, HD, by rw [HS.out]; have hh1 := H1.out; have hh2 := H2.out; have hh3 := H3.out; rw [wrap_dig m s[k].toNat hh3 hh1 hh2], by go_num⟩
      case measure => simp [intOf]; omega
     ·have HS : Hid (digStep m s[k] = m) := Lib.hid (by simp [digStep, h3])
      have e6 : decide ((m : Int) < 1000000) = false := decide_eq_false (by omega)
      have HM := Lib.hid hm
      clear h3 hm
      go_wp2_with fail
      go_round
      case rel => exact ⟨k + 1, digStep m s[k], by omega, by omega, HST.out, HD, by rw [HS.out], by go_num⟩
      case measure => simp [intOf]; omega
    ·have HN : Hid (∀ h : k < s.size, isDig s[k] = false) := Lib.hid (fun h => by simp [isDig]; omega)
     have e7 : decide ((s[k].toNat : Int) ≤ 57) = false := decide_eq_false (by omega)
     rcases (show k = at_ ∨ at_ < k from by omega) with rfl | hak
     ·have HE : Hid (R = .returned (.tuple #[.int .i64 0, .int .i64 (-1)])) := Lib.hid (by rw [← HR.out, numR_stop HN.out]; rfl)
      go_wp2
      all_goals
       go_ret2
       exact ⟨by rw [HE.out]; rfl, rfl⟩
     ·have hlt0 : at_ < s.size := (hrel.out.2 at_ (by omega) hak).1
      have e9 : ((k : Int) == (at_ : Int)) = false := beq_eq_false_iff_ne.2 (by omega)
      by_cases h48 : s[at_].toNat = 48
      ·have e8 : ((s[at_].toNat : Int) == 48) = true := by simp [h48]
       by_cases hk2 : at_ + 1 < k
       ·have HE : Hid (R = .returned (.tuple #[.int .i64 0, .int .i64 (-1)])) := Lib.hid (by rw [← HR.out, numR_zero hrel.out hk2 (fun _ => h48)]; rfl)
        clear h48
        go_wp2
        all_goals
         go_ret2
         exact ⟨by rw [HE.out]; rfl, rfl⟩
       ·have HE : Hid (R = .returned (.tuple #[.int .i64 m, .int .i64 k])) := Lib.hid (by rw [← HR.out, numR_is hrel.out hak HN.out (fun h => absurd h hk2)]; simp only [numEnd, dropT s k hk])
        clear h48
        go_wp2
        all_goals
         go_ret2
         exact ⟨by rw [HE.out]; rfl, rfl⟩
      ·have e8 : ((s[at_].toNat : Int) == 48) = false := beq_eq_false_iff_ne.2 (by omega)
       have HE : Hid (R = .returned (.tuple #[.int .i64 m, .int .i64 k])) := Lib.hid (by rw [← HR.out, numR_is hrel.out hak HN.out (fun _ _ => h48)]; simp only [numEnd, dropT s k hk])
       clear h48
       go_wp2
       all_goals
        go_ret2
        exact ⟨by rw [HE.out]; rfl, rfl⟩
   ·have HN : Hid (∀ h : k < s.size, isDig s[k] = false) := Lib.hid (fun h => by simp [isDig]; omega)
    have e7 : decide ((48 : Int) ≤ (s[k].toNat : Int)) = false := decide_eq_false (by omega)
    rcases (show k = at_ ∨ at_ < k from by omega) with rfl | hak
    ·have HE : Hid (R = .returned (.tuple #[.int .i64 0, .int .i64 (-1)])) := Lib.hid (by rw [← HR.out, numR_stop HN.out]; rfl)
     go_wp2
     all_goals
      go_ret2
      exact ⟨by rw [HE.out]; rfl, rfl⟩
    ·have hlt0 : at_ < s.size := (hrel.out.2 at_ (by omega) hak).1
     have e9 : ((k : Int) == (at_ : Int)) = false := beq_eq_false_iff_ne.2 (by omega)
     by_cases h48 : s[at_].toNat = 48
     ·have e8 : ((s[at_].toNat : Int) == 48) = true := by simp [h48]
      by_cases hk2 : at_ + 1 < k
      ·have HE : Hid (R = .returned (.tuple #[.int .i64 0, .int .i64 (-1)])) := Lib.hid (by rw [← HR.out, numR_zero hrel.out hk2 (fun _ => h48)]; rfl)
       clear h48
       go_wp2
       all_goals
        go_ret2
        exact ⟨by rw [HE.out]; rfl, rfl⟩
      ·have HE : Hid (R = .returned (.tuple #[.int .i64 m, .int .i64 k])) := Lib.hid (by rw [← HR.out, numR_is hrel.out hak HN.out (fun h => absurd h hk2)]; simp only [numEnd, dropT s k hk])
       clear h48
       go_wp2
       all_goals
        go_ret2
        exact ⟨by rw [HE.out]; rfl, rfl⟩
     ·have e8 : ((s[at_].toNat : Int) == 48) = false := beq_eq_false_iff_ne.2 (by omega)
      have HE : Hid (R = .returned (.tuple #[.int .i64 m, .int .i64 k])) := Lib.hid (by rw [← HR.out, numR_is hrel.out hak HN.out (fun _ _ => h48)]; simp only [numEnd, dropT s k hk])
      clear h48
      go_wp2
      all_goals
       go_ret2
       exact ⟨by rw [HE.out]; rfl, rfl⟩
  ·have HN : Hid (∀ h : k < s.size, isDig s[k] = false) := Lib.hid (fun h => absurd h hlt)
   rcases (show k = at_ ∨ at_ < k from by omega) with rfl | hak
   ·have HE : Hid (R = .returned (.tuple #[.int .i64 0, .int .i64 (-1)])) := Lib.hid (by rw [← HR.out, numR_stop HN.out]; rfl)
    go_wp2
    all_goals
     go_ret2
     exact ⟨by rw [HE.out]; rfl, rfl⟩
   ·have hlt0 : at_ < s.size := (hrel.out.2 at_ (by omega) hak).1
    have e9 : ((k : Int) == (at_ : Int)) = false := beq_eq_false_iff_ne.2 (by omega)
    by_cases h48 : s[at_].toNat = 48
    ·have e8 : ((s[at_].toNat : Int) == 48) = true := by simp [h48]
     by_cases hk2 : at_ + 1 < k
     ·have HE : Hid (R = .returned (.tuple #[.int .i64 0, .int .i64 (-1)])) := Lib.hid (by rw [← HR.out, numR_zero hrel.out hk2 (fun _ => h48)]; rfl)
      clear h48
      go_wp2
      all_goals
       go_ret2
       exact ⟨by rw [HE.out]; rfl, rfl⟩
     ·have HE : Hid (R = .returned (.tuple #[.int .i64 m, .int .i64 k])) := Lib.hid (by rw [← HR.out, numR_is hrel.out hak HN.out (fun h => absurd h hk2)]; simp only [numEnd, dropT s k hk])
      clear h48
      go_wp2
      all_goals
       go_ret2
       exact ⟨by rw [HE.out]; rfl, rfl⟩
    ·have e8 : ((s[at_].toNat : Int) == 48) = false := beq_eq_false_iff_ne.2 (by omega)
     have HE : Hid (R = .returned (.tuple #[.int .i64 m, .int .i64 k])) := Lib.hid (by rw [← HR.out, numR_is hrel.out hak HN.out (fun _ _ => h48)]; simp only [numEnd, dropT s k hk])
     clear h48
     go_wp2
     all_goals
      go_ret2
      exact ⟨by rw [HE.out]; rfl, rfl⟩
end Go.Proofs.YtcppbdbbgakfcaaGreatDoor
