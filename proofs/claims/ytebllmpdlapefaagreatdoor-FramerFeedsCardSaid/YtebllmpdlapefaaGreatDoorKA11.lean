/- fixed.digits, fits; plain: digits, the least. -/
/- fixed.fits. -/
/- The document's least bytes. -/
/- fixed.Little; the document's Least, Big. -/
import Derived.Test.YtebllmpdlapefaaGreatDoorProg
import Derived.Test.YtebllmpdlapefaaGreatDoorKA1
import Derived.WalkSpells
import Derived.LoopTactic
namespace Go.Proofs.YtebllmpdlapefaaGreatDoor
set_option linter.unusedVariables false
set_option linter.unusedSimpArgs false
open Go.RowKit

theorem info_byte' : (Tryz.prog.info? 5).map (fun i => (i.zero, i.size, i.bytes)) = some (some (.int .u8 0), 1, 1) := by kernel_rfl
def DigInv (n sz : Nat) (w : World) (i : Value) (wr : World) : Prop :=
  ∃ k : Nat, k ≤ sz ∧ i = .int .i64 k ∧ Buf wr w.heap.size 5 (.slice (some ⟨w.heap.size, 0, none⟩) sz sz) (leD n k ++ List.replicate (sz - k) 0) ∧ Kept 5 w.heap.size w wr
set_option maxRecDepth 100000 in
set_option maxHeartbeats 1000000 in
theorem digits_c (n sz : Nat) (w : World) (hn : n < 18446744073709551616) (hsz : sz ≤ 8) :
    Calls Tryz.prog 131 #[.int .u64 n, .int .i64 sz] w fun e w' => e = .returned (.slice (some ⟨w.heap.size, 0, none⟩) sz sz) ∧ Buf w' w.heap.size 5 (.slice (some ⟨w.heap.size, 0, none⟩) sz sz) (leD n sz) ∧ Kept 5 w.heap.size w w' := by
  obtain ⟨i0, hi, hz0, hz1, hz2⟩ := info_parts info_byte'
  go_enter Tryz.func131, Tryz.ntmps131
  go_wp2_with (at_make; refine wpList_make_full _ rfl _ _ 104 rfl w.heap.size 5 i0 (.int .u8 0) 1 Tryz.underlying104 hi hz0 hz1 .i64 .i64 _ _ sz rfl rfl (by omega) (by omega) (by rw [hz2]; omega) (by simp only [maxLen]; omega) (by omega) ?_; intro w1 hown1 hgrow1)
  have hb1 : Buf w1 w.heap.size 5 (.slice (some ⟨w.heap.size, 0, none⟩) sz sz) (List.replicate sz 0) := by
    rw [made_bytes] at hown1
    have := Buf.own (l := List.replicate sz 0) (by simpa using hown1)
    simpa using this
  have hk1 : Kept 5 w.heap.size w w1 := Kept.of_none hgrow1 (Nat.le_refl _)
  clear hown1 hgrow1
  go_loopw [10] (fun i wr => DigInv n sz w i wr) (fun i _ => sz - (intOf i).toNat)
  case atStart => exact ⟨0, by omega, rfl, by simpa [leD] using hb1, hk1⟩
  case round =>
    obtain ⟨k, hk, rfl, hbuf, hkept⟩ := hrel
    have hsz' := hkept.size
    clear hb1 hk1
    by_cases hlt : k < sz
    · have hl : (leD n k ++ List.replicate (sz - k) (0 : UInt8)).length = sz := by rw [List.length_append, leD_length, List.length_replicate]; omega
      obtain ⟨c1, f1, g1, g2⟩ := hbuf.at_ (k := k) (by omega)
      have HS := Lib.hid (hbuf.set (k := k) (by omega) (ub (n / 2 ^ (8 * k) % 256 : Nat)))
      rw [dig_step hlt] at HS
      obtain ⟨cur, fr, hcur, _⟩ := hbuf.block
      have HK := Lib.hid (fun v => hkept.store (k := k) hcur (Nat.le_refl _) v)
      clear hl hcur hbuf hkept
      go_wp2
      go_roundw
      case rel =>
        rw [dig_val]
        exact ⟨k + 1, by omega, by go_num, HS.out, HK.out _⟩
      case measure => simp [intOf]; omega
    · go_wp2
      go_ret
      obtain rfl : sz = k := by omega
      exact ⟨rfl, by simpa using hbuf, hkept⟩
end Go.Proofs.YtebllmpdlapefaaGreatDoor
namespace Go.Proofs.YtebllmpdlapefaaGreatDoor
set_option linter.unusedVariables false
set_option linter.unusedSimpArgs false
open Go.RowKit

set_option maxRecDepth 100000 in
theorem fits_c (n sz : Nat) (w : World) (hn : n < 2 ^ (8 * sz)) (h1 : 1 ≤ sz) (h8 : sz ≤ 8) :
    Calls Tryz.prog 130 #[.int .u64 n, .int .i64 sz] w fun e w' => e = .returned (.int .i64 0) ∧ w = w' := by
  have e0 : (n : Int) / 2 ^ (8 * sz) = 0 := by
    have : ((n / 2 ^ (8 * sz) : Nat) : Int) = 0 := by rw [Nat.div_eq_of_lt hn]; rfl
    simpa using this
  have H := Lib.hid hn
  clear hn
  go_enter Tryz.func130, Tryz.ntmps130
  go_wp2
  go_ret
  exact ⟨rfl, rfl⟩
end Go.Proofs.YtebllmpdlapefaaGreatDoor
namespace Go.Proofs.YtebllmpdlapefaaGreatDoor
set_option linter.unusedVariables false
set_option linter.unusedSimpArgs false
open Go.RowKit

def LeastInv (n : Nat) (w : World) (x v : Value) (wr : World) : Prop :=
  ∃ (m : Nat) (s : ByteArray), x = .int .u64 m ∧ v = .string s ∧ minL m ++ s.data.toList = minL n ∧ m < 18446744073709551616 ∧ s.size ≤ 8 ∧ Below w.heap.size w wr
theorem least_next {n m : Nat} {s : ByteArray} (h : minL m ++ s.data.toList = minL n) (h0 : 0 < m) : minL (m / 256) ++ (⟨#[ub ((m : Int) % 256)]⟩ ++ s).data.toList = minL n := by
  rw [← h, minL_pos (n := m) (by omega), toList_app]
  simp
theorem least_size {n m : Nat} {s : ByteArray} (h : minL m ++ s.data.toList = minL n) (hn : n < 18446744073709551616) : s.size ≤ 8 := by
  have h1 := minL_length 8 n (by simpa using hn)
  have := congrArg List.length h
  simp only [List.length_append, toList_size] at this
  omega
set_option maxRecDepth 100000 in
set_option maxHeartbeats 1000000 in
theorem refLeast_c (n : Nat) (w : World) (hn : n < 18446744073709551616) :
    Calls Tryz.prog 145 #[.int .u64 n] w fun e w' => e = .returned (.string ⟨(minL n).toArray⟩) ∧ Below w.heap.size w w' := by
  have k1 := fun (w : World) (a : Int) => run_str1 Tryz.underlying104 Tryz.underlying5 Tryz.underlying9 w a
  go_enter Tryz.func145, Tryz.ntmps145
  go_wp2
  go_loopw [0, 3] (fun x v wr => LeastInv n w x v wr) (fun x _ _ => (intOf x).toNat)
  case atStart => exact ⟨n, _, rfl, rfl, by simp, hn, by simp [ByteArray.size], Below.refl _ _⟩
  case round =>
    obtain ⟨m, s, rfl, rfl, hm, hm64, hs, hb⟩ := hrel
    have HM := Lib.hid hm
    clear hm
    by_cases h0 : 0 < m
    · go_wp2
      go_roundw
      case rel => exact ⟨m / 256, _, by go_num, rfl, least_next HM.out h0, by omega, least_size (least_next HM.out h0) hn, hb.alloc hb.size _⟩
      case measure => simp [intOf]; omega
    · go_wp2
      go_ret
      obtain rfl : m = 0 := by omega
      have e := HM.out
      rw [minL_zero, List.nil_append] at e
      exact ⟨ret_str (bytes_ext (by rw [← e])), hb⟩
end Go.Proofs.YtebllmpdlapefaaGreatDoor
namespace Go.Proofs.YtebllmpdlapefaaGreatDoor
set_option linter.unusedVariables false
set_option linter.unusedSimpArgs false
open Go.RowKit

set_option maxRecDepth 100000 in
theorem little_c (n sz : Nat) (w : World) (hn : n < 2 ^ (8 * sz)) (h1 : 1 ≤ sz) (h8 : sz ≤ 8) :
    Calls Tryz.prog 97 #[.int .u64 n, .int .i64 sz] w fun e w' => e = .returned (.tuple #[.string ⟨(leD n sz).toArray⟩, .int .i64 0]) ∧ Below w.heap.size w w' := by
  have hp := le_pow sz h8
  have HF := Lib.hid (fits_c n sz w hn h1 h8)
  have HD := Lib.hid (digits_c n sz w (by omega) h8)
  clear hn hp
  go_enter Tryz.func97, Tryz.ntmps97
  go_wp2_with fail
  refine HF.out.mono ?_
  rintro e w' ⟨rfl, rfl⟩
  go_wp2_with fail
  refine HD.out.mono ?_
  rintro e w' ⟨rfl, hbuf, hkept⟩
  have hs := Buf.str (P := Tryz.prog) (l := leD n sz) (A := some ⟨w.heap.size, 0, none⟩) (cap := sz) Tryz.underlying104 Tryz.underlying5 Tryz.underlying9 (by rw [leD_length]; exact hbuf)
  rw [leD_length] at hs
  have hb := hkept.below
  clear hbuf hkept
  go_wp2
  go_ret2
  exact ⟨rfl, hb⟩
def BigInv (n sz : Nat) (v : Value) : Prop := ∃ (k : Nat) (s : ByteArray), v = .string s ∧ s.data.toList = List.replicate k 0 ++ minL n ∧ s.size ≤ sz
set_option maxRecDepth 100000 in
set_option maxHeartbeats 1000000 in
theorem refBig_c (n sz : Nat) (w : World) (hn : n < 2 ^ (8 * sz)) (h8 : sz ≤ 8) :
    Calls Tryz.prog 121 #[.int .u64 n, .int .i64 sz] w fun e w' => e = .returned (.tuple #[.string ⟨((leD n sz).reverse).toArray⟩, .bool true]) ∧ Below w.heap.size w w' := by
  have hp := le_pow sz h8
  have hl := minL_length sz n hn
  have HL := Lib.hid (least_pad sz n hn)
  have HC := Lib.hid (refLeast_c n w (by omega))
  have hz : (⟨(minL n).toArray⟩ : ByteArray).size ≤ sz := by rw [size_of]; exact hl
  have hstart : BigInv n sz (.string ⟨(minL n).toArray⟩) := ⟨0, _, rfl, by simp, hz⟩
  generalize (⟨(minL n).toArray⟩ : ByteArray) = T at *
  clear hn hp hl
  go_enter Tryz.func121, Tryz.ntmps121
  go_wp2_with fail
  refine HC.out.mono ?_
  rintro e w1 ⟨rfl, hb⟩
  go_wp2
  go_loop [6] (fun v => BigInv n sz v) (fun v => sz - strOf v)
  case atStart => exact hstart
  case round =>
    obtain ⟨k, s, rfl, hs, hsz⟩ := hrel
    have HS := Lib.hid hs
    clear hs
    by_cases hlt : s.size < sz
    · go_wp2
      go_round
      case rel => exact ⟨k + 1, _, rfl, by rw [toList_app, HS.out, List.replicate_succ]; rfl, by rw [size_app]; show 1 + s.size ≤ sz; omega⟩
      case measure =>
        simp only [strOf_string, size_app]
        have : (⟨#[0]⟩ : ByteArray).size = 1 := rfl
        omega
    · go_wp2
      go_ret2
      have e : s = ⟨((leD n sz).reverse).toArray⟩ := bytes_ext (by
        have h1 := congrArg List.length HS.out
        simp only [toList_size, List.length_append, List.length_replicate] at h1
        rw [HS.out, ← HL.out, show sz - (minL n).length = k from by omega])
      exact ⟨by rw [e]; rfl, hb⟩
end Go.Proofs.YtebllmpdlapefaaGreatDoor
