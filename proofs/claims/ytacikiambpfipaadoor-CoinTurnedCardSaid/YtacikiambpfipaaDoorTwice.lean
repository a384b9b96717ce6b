/- twice.Sum, Check, Fits. -/
import Derived.Test.YtacikiambpfipaaDoorShaSum
namespace Go.Proofs.YtacikiambpfipaaDoor
set_option linter.unusedVariables false
set_option linter.unusedSimpArgs false
open Go.RowKit

def twI (s : ByteArray) : Nat → ByteArray
  | 0 => s
  | n + 1 => shaB (twI s n)
theorem twI_size (s : ByteArray) (h : s.size ≤ 100000) : ∀ n, (twI s n).size ≤ 100000
  | 0 => h
  | n + 1 => by rw [twI, shaB_size]; omega
set_option maxRecDepth 100000 in
theorem twiceSum_c (s : ByteArray) (w : World) (hs : s.size ≤ 100000) :
    Calls Tryd.prog 107 #[.string s] w fun e w' => e = .returned (.string (sha2 s)) ∧ Below w.heap.size w w' := by
  have H2 : Hid (twI s 2 = sha2 s) := Lib.hid rfl
  go_enter Tryd.func107, Tryd.ntmps107
  go_wp2
  go_loopw [0, 3] (fun v i wr => ∃ k : Nat, k ≤ 2 ∧ i = .int .i64 k ∧ v = .string (twI s k) ∧ Below w.heap.size w wr) (fun _ i _ => 2 - (intOf i).toNat)
  case atStart => exact ⟨0, by omega, rfl, rfl, Below.refl _ _⟩
  case round =>
    obtain ⟨k, hk, rfl, rfl, hb⟩ := hrel
    by_cases h2 : k < 2
    · have HS := Lib.hid (fun w => sum_c (twI s k) w (twI_size s hs k))
      have HN : Hid (twI s (k + 1) = shaB (twI s k)) := Lib.hid rfl
      generalize twI s k = t at *
      generalize shaB t = u at *
      go_wp2_with fail
      refine (HS.out _).mono ?_
      rintro e w2 ⟨rfl, hb2⟩
      have HB := Lib.hid (hb.trans (hb2.mono hb.size))
      clear hb2
      go_wp2
      go_roundw
      case rel => exact ⟨k + 1, by omega, by go_num, by rw [HN.out], HB.out⟩
      case measure => simp [intOf]; omega
    · obtain rfl : k = 2 := by omega
      rw [H2.out]
      go_wp2
      go_ret
      exact ⟨rfl, hb⟩
set_option maxRecDepth 100000 in
theorem check_c (s : ByteArray) (w : World) (hs : s.size ≤ 100000) :
    Calls Tryd.prog 50 #[.string s] w fun e w' => e = .returned (.string (shChk s)) ∧ Below w.heap.size w w' := by
  have HS := Lib.hid (fun w => twiceSum_c s w hs)
  have HC : Hid (shChk s = (sha2 s).extract 0 4) := Lib.hid rfl
  have hz := sha2_size s
  have hz4 : 4 ≤ (sha2 s).size := by omega
  clear hz
  generalize sha2 s = t at *
  go_enter Tryd.func50, Tryd.ntmps50
  go_wp2_with fail
  refine (HS.out _).mono ?_
  rintro e w2 ⟨rfl, hb2⟩
  go_wp2
  go_ret
  exact ⟨by rw [HC.out]; rfl, hb2⟩
theorem chkFits_c (s t : ByteArray) (w : World) (hs : s.size ≤ 100000) :
    Calls Tryd.prog 62 #[.string s, .string t] w fun e w' => e = .returned (.bool (decide (shChk s = t))) ∧ Below w.heap.size w w' := by
  have HS := Lib.hid (fun w => check_c s w hs)
  generalize shChk s = u at *
  rcases str_ways t u with ⟨h1, h2, h3⟩ | ⟨h1, h2, h3⟩
  · have HD : Hid (decide (u = t) = true) := Lib.hid (decide_eq_true h1.symm)
    clear h1
    generalize decide (u = t) = d at *
    go_enter Tryd.func62, Tryd.ntmps62
    go_wp2_with fail
    refine (HS.out _).mono ?_
    rintro e w2 ⟨rfl, hb2⟩
    go_wp2
    go_ret
    exact ⟨by rw [HD.out]; rfl, hb2⟩
  · have HD : Hid (decide (u = t) = false) := Lib.hid (decide_eq_false (fun e => h1 e.symm))
    clear h1
    generalize decide (u = t) = d at *
    go_enter Tryd.func62, Tryd.ntmps62
    go_wp2_with fail
    refine (HS.out _).mono ?_
    rintro e w2 ⟨rfl, hb2⟩
    go_wp2
    go_ret
    exact ⟨by rw [HD.out]; rfl, hb2⟩
end Go.Proofs.YtacikiambpfipaaDoor
