/- sha.Pad: the padding behind n bytes. -/
import Derived.Test.YtebllmpdlapefaaGreatDoorKA1
import Derived.Test.YtebllmpdlapefaaGreatDoorKA4
import Derived.Test.YtebllmpdlapefaaGreatDoorKA11
namespace Go.Proofs.YtebllmpdlapefaaGreatDoor
set_option linter.unusedVariables false
set_option linter.unusedSimpArgs false
open Go.RowKit

theorem pad_cell (m k d : Nat) (h : 8 * k + d = 56) : (#[Value.int .u8 ((m : Int) / 2 ^ d % 256)] : Array Value).toList = cb [UInt8.ofNat (m / 2 ^ (56 - 8 * k))] := by
  have hd : 56 - 8 * k = d := by omega
  rw [hd]
  simp [cb]
def PadInv (n : Nat) (w : World) (v i : Value) (wr : World) : Prop :=
  ∃ k : Nat, k ≤ 8 ∧ i = .int .i64 k ∧ Buf wr w.heap.size 5 v ((128 :: List.replicate (shNought n) 0) ++ (shTail (n * 8)).take k) ∧ Kept 5 w.heap.size w wr
set_option maxRecDepth 100000 in
set_option maxHeartbeats 4000000 in
theorem pad_c (n : Nat) (w : World) (hn : n ≤ 100000) :
    Calls Tryz.prog 164 #[.int .i64 n] w fun e w' => e = .returned (.tuple #[.string (shPad n), .int .i64 0]) ∧ Below w.heap.size w w' := by
  obtain ⟨i0, hi, hz0, hz1, hz2⟩ := info_parts info_byte'
  have HP : Hid (shPad n = ⟨((128 :: List.replicate (shNought n) 0) ++ shTail (n * 8)).toArray⟩) := Lib.hid rfl
  have hz := shNought_lt n
  have HZ : Hid (shNought n = (64 - (n + 9) % 64) % 64) := Lib.hid rfl
  obtain ⟨z, hzz⟩ : ∃ z, shNought n = z := ⟨_, rfl⟩
  have HZZ := Lib.hid hzz
  rw [hzz] at hz
  obtain ⟨m, hm⟩ : ∃ m, 1 + z = m := ⟨_, rfl⟩
  obtain ⟨c, hc⟩ : ∃ c, m + 8 = c := ⟨_, rfl⟩
  have e1 : (64 - ((n : Int) + 9) % 64) % 64 = (z : Int) := by have := HZ.out; omega
  have e2 : (1 : Int) + (z : Int) = (m : Int) := by omega
  have e3 : (m : Int) + 8 = (c : Int) := by omega
  have hm2 : m ≤ c := by omega
  have hc2 : c ≤ 80 := by omega
  have hm0 : 1 ≤ m := by omega
  have HM := Lib.hid hm
  have hsh : shTail (n * 8) = shTail (n * 8) := rfl
  clear hzz hm hc hsh
  have d1 : decide ((n : Int) < 0) = false := decide_eq_false (by omega)
  have d2 : decide ((1099511627776 : Int) < n) = false := decide_eq_false (by omega)
  go_enter Tryz.func164, Tryz.ntmps164
  go_wp2_with (at_make; refine wpList_make_buf _ (by rfl) _ _ 104 (by rfl) w.heap.size 5 i0 Tryz.underlying104 hi hz0 hz1 hz2 .i64 .i64 m c (by rfl) (by rfl) hm2 (by omega) (Nat.le_refl _) ?_; intro w1 hb1 hk1 hbl1; obtain ⟨c0, f0, g0, g1⟩ := hb1.at_ (k := 0) (by simp; omega))
  have HB0 : Hid (Buf (w1.setCell ⟨w.heap.size, 0, none⟩ (.int .u8 128)) w.heap.size 5 (.slice (some ⟨w.heap.size, 0, none⟩) m c) ((128 :: List.replicate z 0) ++ (shTail (n * 8)).take 0)) := Lib.hid (by
    have := hb1.set (k := 0) (by simp; omega) 128
    have e : (List.replicate m (0 : UInt8)).set 0 128 = (128 :: List.replicate z 0) ++ (shTail (n * 8)).take 0 := by
      rw [← HM.out, Nat.add_comm 1 z, List.replicate_succ, List.set_cons_zero]; simp
    rw [e] at this
    exact this)
  obtain ⟨cur, fr, hcur, _⟩ := hb1.block
  have HK0 := Lib.hid (hk1.store (k := 0) hcur (Nat.le_refl _) (.int .u8 128))
  rw [HZZ.out] at HP
  clear hcur hb1 hk1 hbl1 c0 f0
  go_loopw [5, 26] (fun v i wr => ∃ k : Nat, k ≤ 8 ∧ i = .int .i64 k ∧ Buf wr w.heap.size 5 v ((128 :: List.replicate z 0) ++ (shTail (n * 8)).take k) ∧ Kept 5 w.heap.size w wr) (fun _ i _ => 8 - (intOf i).toNat)
  case atStart => exact ⟨0, by omega, rfl, HB0.out, HK0.out⟩
  case round =>
    obtain ⟨k, hk, rfl, hbuf, hkept⟩ := hrel
    obtain ⟨A, L, cap, rfl, hL, hLc, hcap⟩ := hbuf.form'
    have HK := Lib.hid hkept
    have hsz := hkept.size
    clear hkept
    by_cases hk8 : k < 8
    · obtain ⟨d, hd⟩ : ∃ d, 56 - 8 * k = d := ⟨_, rfl⟩
      have hdk : 8 * k + d = 56 := by omega
      have e4 : (56 : Int) - 8 * (k : Int) = (d : Int) := by omega
      have HCL := Lib.hid (pad_cell (n * 8) k d hdk)
      have hll : ((128 :: List.replicate z (0 : UInt8)) ++ (shTail (n * 8)).take k).length ≤ 100 := by simp [shTail_length]; omega
      have HTK : Hid (((128 :: List.replicate z (0 : UInt8)) ++ (shTail (n * 8)).take k) ++ [UInt8.ofNat (n * 8 / 2 ^ (56 - 8 * k))] = (128 :: List.replicate z 0) ++ (shTail (n * 8)).take (k + 1)) := Lib.hid (by rw [shTail_take _ _ hk8, List.append_assoc])
      generalize ((128 :: List.replicate z (0 : UInt8)) ++ (shTail (n * 8)).take k) = LL at *
      generalize UInt8.ofNat (n * 8 / 2 ^ (56 - 8 * k)) = bb at *
      simp only [Int.natCast_mul] at HCL
      clear hd
      go_wp2_with (at_builtin; refine wpList_append_buf (by rfl) (.tmp 29) (.tmp 38) 104 104 (by rfl) w.heap.size 5 i0 Tryz.underlying104 hi hz0 hz1 hz2 (by rfl) (hbuf.alloc _) _ [bb] (by rfl) (src_lit Tryz.underlying104 _ 5 _ [bb] 1 _ (by rfl) HCL.out) (by simp only [World.size_alloc]; omega) (by simp; omega) ?_; intro A3 n3 cap3 w3 hb3 hk3; have HB4 := Lib.hid hb3; have HK4 := Lib.hid ((HK.out.alloc (by omega) _).trans hk3); clear hb3 hk3 hbuf)
      go_roundw
      case rel => exact ⟨k + 1, by omega, by go_num, by rw [← HTK.out]; exact HB4.out, HK4.out⟩
      case measure => simp [intOf]; omega
    · have e8 : (shTail (n * 8)).take k = shTail (n * 8) := List.take_of_length_le (by rw [shTail_length]; omega)
      rw [e8] at hbuf
      have hst := hbuf.str' (P := Tryz.prog) Tryz.underlying104 Tryz.underlying5 Tryz.underlying9
      rw [← HP.out] at hst
      clear hbuf e8 HP
      obtain ⟨X, HX⟩ : ∃ X, Hid (shPad n = X) := ⟨_, Lib.hid rfl⟩
      rw [HX.out] at hst
      go_wp2
      go_ret2
      exact ⟨by rw [HX.out]; rfl, HK.out.below⟩
end Go.Proofs.YtebllmpdlapefaaGreatDoor
