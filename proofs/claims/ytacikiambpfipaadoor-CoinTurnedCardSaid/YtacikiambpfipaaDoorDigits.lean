/- fixed.Little; the document's Least, Big. -/
import Derived.Test.YtacikiambpfipaaDoorDigits0
import Derived.Test.YtacikiambpfipaaDoorLeastR
namespace Go.Proofs.YtacikiambpfipaaDoor
set_option linter.unusedVariables false
set_option linter.unusedSimpArgs false
open Go.RowKit

set_option maxRecDepth 100000 in
theorem little_c (n sz : Nat) (w : World) (hn : n < 2 ^ (8 * sz)) (h1 : 1 ≤ sz) (h8 : sz ≤ 8) :
    Calls Tryd.prog 49 #[.int .u64 n, .int .i64 sz] w fun e w' => e = .returned (.tuple #[.string ⟨(leD n sz).toArray⟩, .int .i64 0]) ∧ Below w.heap.size w w' := by
  have hp := le_pow sz h8
  have HF := Lib.hid (fits_c n sz w hn h1 h8)
  have HD := Lib.hid (digits_c n sz w (by omega) h8)
  clear hn hp
  go_enter Tryd.func49, Tryd.ntmps49
  go_wp2_with fail
  refine HF.out.mono ?_
  rintro e w' ⟨rfl, rfl⟩
  go_wp2_with fail
  refine HD.out.mono ?_
  rintro e w' ⟨rfl, hbuf, hkept⟩
  have hs := Buf.str (P := Tryd.prog) (l := leD n sz) (A := some ⟨w.heap.size, 0, none⟩) (cap := sz) Tryd.underlying54 Tryd.underlying5 Tryd.underlying9 (by rw [leD_length]; exact hbuf)
  rw [leD_length] at hs
  have hb := hkept.below
  clear hbuf hkept
  go_wp2
  go_ret2
  exact ⟨rfl, hb⟩
def BigInv (n sz : Nat) (v : Value) : Prop := ∃ (k : Nat) (s : ByteArray), v = .string s ∧ s.data.toList = List.replicate k 0 ++ minL n ∧ s.size ≤ sz
set_option maxRecDepth 100000 in
set_option maxHeartbeats 1000000 in
theorem refBig_c (n sz : Nat) (w : World) (hn : n < 2 ^ (8 * sz)) (h8 : sz ≤ 8) :
    Calls Tryd.prog 110 #[.int .u64 n, .int .i64 sz] w fun e w' => e = .returned (.tuple #[.string ⟨((leD n sz).reverse).toArray⟩, .bool true]) ∧ Below w.heap.size w w' := by
  have hp := le_pow sz h8
  have hl := minL_length sz n hn
  have HL := Lib.hid (least_pad sz n hn)
  have HC := Lib.hid (refLeast_c n w (by omega))
  have hz : (⟨(minL n).toArray⟩ : ByteArray).size ≤ sz := by rw [size_of]; exact hl
  have hstart : BigInv n sz (.string ⟨(minL n).toArray⟩) := ⟨0, _, rfl, by simp, hz⟩
  generalize (⟨(minL n).toArray⟩ : ByteArray) = T at *
  clear hn hp hl
  go_enter Tryd.func110, Tryd.ntmps110
  go_wp2_with fail
  refine HC.out.mono ?_
  rintro e w1 ⟨rfl, hb⟩
  go_wp2
  go_loop [6] (fun v => BigInv n sz v) (fun v => sz - strOf v)
  case atStart => exact hstart
  case round =>
    obtain ⟨k, s, rfl, hs, hsz⟩ := hrel
    have HS := Lib.hid hs
    clear hs
    by_cases hlt : s.size < sz
    · go_wp2
      go_round
      case rel => exact ⟨k + 1, _, rfl, by rw [toList_app, HS.out, List.replicate_succ]; rfl, by rw [size_app]; show 1 + s.size ≤ sz; omega⟩
      case measure =>
        simp only [strOf_string, size_app]
        have : (⟨#[0]⟩ : ByteArray).size = 1 := rfl
        omega
    · go_wp2
      go_ret2
      have e : s = ⟨((leD n sz).reverse).toArray⟩ := bytes_ext (by
        have h1 := congrArg List.length HS.out
        simp only [toList_size, List.length_append, List.length_replicate] at h1
        rw [HS.out, ← HL.out, show sz - (minL n).length = k from by omega])
      exact ⟨by rw [e]; rfl, hb⟩
end Go.Proofs.YtacikiambpfipaaDoor
