/- The document's least bytes. -/
import Derived.Test.YtacikiambpfipaaDoorDigitsD
namespace Go.Proofs.YtacikiambpfipaaDoor
set_option linter.unusedVariables false
set_option linter.unusedSimpArgs false
open Go.RowKit

def LeastInv (n : Nat) (w : World) (x v : Value) (wr : World) : Prop :=
  ∃ (m : Nat) (s : ByteArray), x = .int .u64 m ∧ v = .string s ∧ minL m ++ s.data.toList = minL n ∧ m < 18446744073709551616 ∧ s.size ≤ 8 ∧ Below w.heap.size w wr
theorem least_next {n m : Nat} {s : ByteArray} (h : minL m ++ s.data.toList = minL n) (h0 : 0 < m) : minL (m / 256) ++ (⟨#[ub ((m : Int) % 256)]⟩ ++ s).data.toList = minL n := by
  rw [← h, minL_pos (n := m) (by omega), toList_app]
  simp
theorem least_size {n m : Nat} {s : ByteArray} (h : minL m ++ s.data.toList = minL n) (hn : n < 18446744073709551616) : s.size ≤ 8 := by
  have h1 := minL_length 8 n (by simpa using hn)
  have := congrArg List.length h
  simp only [List.length_append, toList_size] at this
  omega
set_option maxRecDepth 100000 in
set_option maxHeartbeats 1000000 in
theorem refLeast_c (n : Nat) (w : World) (hn : n < 18446744073709551616) :
    Calls Tryd.prog 130 #[.int .u64 n] w fun e w' => e = .returned (.string ⟨(minL n).toArray⟩) ∧ Below w.heap.size w w' := by
  have k1 := fun (w : World) (a : Int) => run_str1 Tryd.underlying54 Tryd.underlying5 Tryd.underlying9 w a
  go_enter Tryd.func130, Tryd.ntmps130
  go_wp2
  go_loopw [0, 3] (fun x v wr => LeastInv n w x v wr) (fun x _ _ => (intOf x).toNat)
  case atStart => exact ⟨n, _, rfl, rfl, by simp, hn, by simp [ByteArray.size], Below.refl _ _⟩
  case round =>
    obtain ⟨m, s, rfl, rfl, hm, hm64, hs, hb⟩ := hrel
    have HM := Lib.hid hm
    clear hm
    by_cases h0 : 0 < m
    · go_wp2
      go_roundw
      case rel => exact ⟨m / 256, _, by go_num, rfl, least_next HM.out h0, by omega, least_size (least_next HM.out h0) hn, hb.alloc hb.size _⟩
      case measure => simp [intOf]; omega
    · go_wp2
      go_ret
      obtain rfl : m = 0 := by omega
      have e := HM.out
      rw [minL_zero, List.nil_append] at e
      exact ⟨ret_str (bytes_ext (by rw [← e])), hb⟩
end Go.Proofs.YtacikiambpfipaaDoor
