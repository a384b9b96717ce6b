/- Names: command.May and the document's. -/
/- Names: command.Put, Get, and the document's. -/
import Derived.Test.YtebllmpdlapefaaGreatDoorProg
import Derived.Test.YtebllmpdlapefaaGreatDoorKA1
import Derived.WalkSpells
import Derived.Lib.BufferWrite
import Derived.Deep.WholeRow
namespace Go.Proofs.YtebllmpdlapefaaGreatDoor
set_option linter.unusedVariables false
set_option linter.unusedSimpArgs false
open Go.RowKit

theorem may_next {s : ByteArray} {k : Nat} (hlt : k < s.size) (h : nameL (s.data.toList.take k) = true) (hb : nameB s[k].toNat = true) : nameL (s.data.toList.take (k + 1)) = true := by
  rw [take_snoc s k hlt, nameL_snoc, h, hb]; rfl
theorem may_stop {s : ByteArray} {k : Nat} (hlt : k < s.size) (hb : nameB s[k].toNat = false) : nmMay s = false := by
  have : nameL (s.data.toList.take (k + 1)) = false := by rw [take_snoc s k hlt, nameL_snoc, hb]; simp
  rw [nmMay, nameL_take_no _ _ this]; rfl
theorem may_end {s : ByteArray} {k : Nat} (hk : ¬ k < s.size) (h1 : 1 ≤ s.size) (h2 : s.size ≤ 12) (h : nameL (s.data.toList.take k) = true) : nmMay s = true := by
  rw [List.take_of_length_le (by simp; omega)] at h
  rw [nmMay_of h1 h2, h]
set_option maxRecDepth 100000 in
set_option maxHeartbeats 1000000 in
theorem cmdMay_c (s : ByteArray) (w : World) (hs : s.size ≤ 9223372036854775807) :
    Calls Tryz.prog 129 #[.string s] w fun e w' => e = .returned (.bool (nmMay s)) ∧ w = w' := by
  by_cases h1 : 1 ≤ s.size
  · by_cases h2 : s.size ≤ 12
    · go_enter Tryz.func129, Tryz.ntmps129
      go_wp2
      go_loop [15] (fun i => ∃ k : Nat, k ≤ s.size ∧ Hid (nameL (s.data.toList.take k) = true) ∧ i = .int .i64 k) (fun i => s.size - (intOf i).toNat)
      case atStart => exact ⟨0, by omega, Lib.hid (by simp [nameL]), rfl⟩
      case round =>
        obtain ⟨k, hk, hm, rfl⟩ := hrel
        by_cases hlt : k < s.size
        · rcases name_ways s[k].toNat s[k].toNat_lt with ⟨hb, hw, hne⟩ | ⟨hb, hw⟩
          · have HB := Lib.hid hb
            have e5 : (((s[k].toNat : Nat) : Int) != 95) = true := bne_iff_ne.2 (by omega)
            clear hb hne
            rcases hw with h | ⟨h, h'⟩ | ⟨h, h'⟩ | h
            all_goals
              go_wp2
              go_ret
              exact ⟨ret_bool (may_stop hlt HB.out), rfl⟩
          · have HB := Lib.hid hb
            clear hb
            rcases hw with ⟨h, h'⟩ | h | ⟨h, h'⟩
            · go_wp2
              go_round
              case rel => exact ⟨k + 1, by omega, Lib.hid (may_next hlt hm.out HB.out), by go_num⟩
              case measure => simp [intOf]; omega
            · have e5 : (((s[k].toNat : Nat) : Int) != 95) = false := by simp [h]
              have h6 : 94 < s[k].toNat := by omega
              have h7 : s[k].toNat < 96 := by omega
              clear h
              go_wp2
              go_round
              case rel => exact ⟨k + 1, by omega, Lib.hid (may_next hlt hm.out HB.out), by go_num⟩
              case measure => simp [intOf]; omega
            · go_wp2
              go_round
              case rel => exact ⟨k + 1, by omega, Lib.hid (may_next hlt hm.out HB.out), by go_num⟩
              case measure => simp [intOf]; omega
        · go_wp2
          go_ret
          exact ⟨ret_bool (may_end hlt h1 h2 hm.out), rfl⟩
    · go_enter Tryz.func129, Tryz.ntmps129
      go_wp2
      go_ret
      exact ⟨ret_bool (nmMay_no (by omega)), rfl⟩
  · go_enter Tryz.func129, Tryz.ntmps129
    go_wp2
    go_ret
    exact ⟨ret_bool (nmMay_no (by omega)), rfl⟩

set_option maxRecDepth 100000 in
set_option maxHeartbeats 1000000 in
theorem refMayN_c (s : ByteArray) (w : World) (hs : s.size ≤ 9223372036854775807) :
    Calls Tryz.prog 46 #[.string s] w fun e w' => e = .returned (.bool (nmMay s)) ∧ w = w' := by
  go_enter Tryz.func46, Tryz.ntmps46
  go_wp2
  go_loop [3] (fun i => ∃ k : Nat, k ≤ s.size ∧ Hid (nameL (s.data.toList.take k) = true) ∧ i = .int .i64 k) (fun i => s.size - (intOf i).toNat)
  case atStart => exact ⟨0, by omega, Lib.hid (by simp [nameL]), rfl⟩
  case round =>
    obtain ⟨k, hk, hm, rfl⟩ := hrel
    by_cases hlt : k < s.size
    · rcases name_ways s[k].toNat s[k].toNat_lt with ⟨hb, hw, hne⟩ | ⟨hb, hw⟩
      · have HB := Lib.hid hb
        have e5 : (((s[k].toNat : Nat) : Int) == 95) = false := beq_eq_false_iff_ne.2 (by omega)
        clear hb hne
        rcases hw with h | ⟨h, h'⟩ | ⟨h, h'⟩ | h
        · go_wp2
          go_ret
          exact ⟨ret_bool (may_stop hlt HB.out), rfl⟩
        · have d1 : decide (((s[k].toNat : Nat) : Int) ≤ 57) = false := decide_eq_false (by omega)
          go_wp2
          go_ret
          exact ⟨ret_bool (may_stop hlt HB.out), rfl⟩
        · have d1 : decide (((s[k].toNat : Nat) : Int) ≤ 57) = false := decide_eq_false (by omega)
          go_wp2
          go_ret
          exact ⟨ret_bool (may_stop hlt HB.out), rfl⟩
        · have d1 : decide (((s[k].toNat : Nat) : Int) ≤ 57) = false := decide_eq_false (by omega)
          have d2 : decide (((s[k].toNat : Nat) : Int) ≤ 122) = false := decide_eq_false (by omega)
          go_wp2
          go_ret
          exact ⟨ret_bool (may_stop hlt HB.out), rfl⟩
      · have HB := Lib.hid hb
        clear hb
        rcases hw with ⟨h, h'⟩ | h | ⟨h, h'⟩
        · go_wp2
          go_round
          case rel => exact ⟨k + 1, by omega, Lib.hid (may_next hlt hm.out HB.out), by go_num⟩
          case measure => simp [intOf]; omega
        · have e5 : (((s[k].toNat : Nat) : Int) == 95) = true := by simp [h]
          have h6 : 94 < s[k].toNat := by omega
          have h7 : s[k].toNat < 96 := by omega
          clear h
          go_wp2
          go_round
          case rel => exact ⟨k + 1, by omega, Lib.hid (may_next hlt hm.out HB.out), by go_num⟩
          case measure => simp [intOf]; omega
        · go_wp2
          go_round
          case rel => exact ⟨k + 1, by omega, Lib.hid (may_next hlt hm.out HB.out), by go_num⟩
          case measure => simp [intOf]; omega
    · by_cases h1 : 1 ≤ s.size
      · by_cases h2 : s.size ≤ 12
        · have d1 : decide ((s.size : Int) ≤ 12) = true := decide_eq_true (by omega)
          go_wp2
          go_ret
          exact ⟨ret_bool (may_end hlt h1 h2 hm.out), rfl⟩
        · have d1 : decide ((s.size : Int) ≤ 12) = false := decide_eq_false (by omega)
          go_wp2
          go_ret
          exact ⟨ret_bool (nmMay_no (by omega)), rfl⟩
      · go_wp2
        go_ret
        exact ⟨ret_bool (nmMay_no (by omega)), rfl⟩
end Go.Proofs.YtebllmpdlapefaaGreatDoor
namespace Go.Proofs.YtebllmpdlapefaaGreatDoor
set_option linter.unusedVariables false
set_option linter.unusedSimpArgs false
open Go.RowKit


theorem pad_step {s x : ByteArray} {k : Nat} (hx : x.data.toList = s.data.toList ++ List.replicate k 0) : (x ++ ⟨#[0]⟩).data.toList = s.data.toList ++ List.replicate (k + 1) 0 := by
  rw [toList_app, hx, List.append_assoc, List.replicate_succ']
set_option maxRecDepth 100000 in
set_option maxHeartbeats 1000000 in
theorem refPutN_c (s : ByteArray) (w : World) (hs : s.size ≤ 12) :
    Calls Tryz.prog 79 #[.string s] w fun e w' => e = .returned (.string (nmPad s)) ∧ w = w' := by
  go_enter Tryz.func79, Tryz.ntmps79
  go_wp2
  go_loop [0] (fun x => ∃ (k : Nat) (y : ByteArray), Hid (y.data.toList = s.data.toList ++ List.replicate k 0) ∧ y.size = s.size + k ∧ s.size + k ≤ 12 ∧ x = .string y) (fun x => 12 - strOf x)
  case atStart => exact ⟨0, s, Lib.hid (by simp), by omega, by omega, rfl⟩
  case round =>
    obtain ⟨k, y, hy, hz, hk, rfl⟩ := hrel
    have HZ := Lib.hid hz
    by_cases hlt : s.size + k < 12
    · have h1 : y.size < 12 := by omega
      clear hz
      go_wp2
      go_round
      case rel => exact ⟨k + 1, _, Lib.hid (pad_step hy.out), by rw [size_app, HZ.out]; rfl, by omega, rfl⟩
      case measure =>
        simp only [strOf_string, size_app]
        have : (⟨#[0]⟩ : ByteArray).size = 1 := rfl
        omega
    · have h1 : 12 ≤ y.size := by omega
      clear hz
      go_wp2
      go_ret
      have : y = nmPad s := bytes_ext (by rw [hy.out, nmPad_list, show 12 - s.size = k from by omega])
      exact ⟨ret_str this.symm, rfl⟩

theorem cutL_step (l : List UInt8) : cutL (l ++ [0]) = cutL l := by simp [cutL]
theorem cutL_stop (l : List UInt8) (b : UInt8) (h : b ≠ 0) : cutL (l ++ [b]) = l ++ [b] := by simp [cutL, h]
theorem cutL_nil : cutL [] = [] := rfl
theorem cut_last (y : ByteArray) (k : Nat) (h : y.size = k + 1) : y.data.toList = (y.extract 0 k).data.toList ++ [y[k]] := by
  rw [toList_cut, List.drop_zero, ← take_snoc y k (by omega), ← h, take_all]
theorem trim_next {s y : ByteArray} {k : Nat} (h : y.size = k + 1) (hc : nmCut y = nmCut s) (h0 : (y[k].toNat : Int) = 0) : nmCut (y.extract 0 k) = nmCut s := by
  rw [← hc]
  unfold nmCut
  rw [cut_last y k h]
  have : y[k] = 0 := by
    apply UInt8.toNat_inj.1
    have : y[k].toNat = 0 := by omega
    simpa using this
  rw [this, cutL_step]
theorem trim_stop {s y : ByteArray} {k : Nat} (h : y.size = k + 1) (hc : nmCut y = nmCut s) (h0 : (y[k].toNat : Int) ≠ 0) : y = nmCut s := by
  rw [← hc]
  unfold nmCut
  have hl := cut_last y k h
  have hne : y[k] ≠ 0 := by
    intro e
    apply h0
    rw [e]; rfl
  apply bytes_ext
  rw [hl, cutL_stop _ _ hne]
theorem trim_nil {s y : ByteArray} (h : y.size = 0) (hc : nmCut y = nmCut s) : y = nmCut s := by
  rw [← hc]
  have : y.data.toList = [] := List.eq_nil_of_length_eq_zero (by simpa using h)
  apply bytes_ext
  unfold nmCut
  rw [this]; rfl
set_option maxRecDepth 100000 in
set_option maxHeartbeats 1000000 in
theorem trimByte_c (s : ByteArray) (w : World) (hs : s.size ≤ 9223372036854775807) :
    Calls Tryz.prog 152 #[.string s, .int .u8 0] w fun e w' => e = .returned (.string (nmCut s)) ∧ w = w' := by
  go_enter Tryz.func152, Tryz.ntmps152
  go_wp2
  go_loop [0] (fun x => ∃ (y : ByteArray), Hid (nmCut y = nmCut s) ∧ y.size ≤ 9223372036854775807 ∧ x = .string y) (fun x => strOf x)
  case atStart => exact ⟨s, Lib.hid rfl, hs, rfl⟩
  case round =>
    obtain ⟨y, hy, hz, rfl⟩ := hrel
    rcases Nat.eq_zero_or_pos y.size with h0 | h0
    · have H0 := Lib.hid h0
      have h1 : y.size ≤ 0 := by omega
      clear h0
      go_wp2
      go_ret
      exact ⟨ret_str (trim_nil H0.out hy.out).symm, rfl⟩
    · obtain ⟨k, hk⟩ : ∃ k, y.size = k + 1 := ⟨y.size - 1, by omega⟩
      have HK := Lib.hid hk
      have hlt : k < y.size := by omega
      have e1 : (y.size : Int) - 1 = k := by omega
      rcases Bool.eq_false_or_eq_true ((y[k].toNat : Int) == 0) with h | h
      · clear hk
        go_wp2
        go_round
        case rel => exact ⟨y.extract 0 k, Lib.hid (trim_next HK.out hy.out (by simpa using h)), by rw [size_cut _ _ _ (by omega)]; omega, rfl⟩
        case measure => simp [size_cut]; omega
      · clear hk
        go_wp2
        go_ret
        exact ⟨ret_str (trim_stop HK.out hy.out (by simpa using h)).symm, rfl⟩
end Go.Proofs.YtebllmpdlapefaaGreatDoor
