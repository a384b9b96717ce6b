/- hatchwaylaw27.HexesDumps: the dump of any bytes is the document's, and is read again. -/
import Derived.Test.YtcidcjghglgkhaaHexReadF
import Derived.Test.YtcidcjghglgkhaaHexRD
import Derived.Test.YtcidcjghglgkhaaHexAlive
namespace Go.Proofs.Ytcidcjghglgkhaa
set_option linter.unusedVariables false
set_option linter.unusedSimpArgs false
open Go.RowKit

set_option maxRecDepth 100000 in
set_option maxHeartbeats 800000 in
theorem hexesDumps_w (s : ByteArray) (w : World) (hs : s.size ≤ maxLen) :
    Calls Try.prog 9 #[.string s] w fun e w' => e = .returned (.bool true) ∧ Below w.heap.size w w' := by
  unfold maxLen at hs
  have HA := Lib.hid (hexAlive_c w)
  by_cases h0 : 500 < s.size
  · go_enter Try.func9, Try.ntmps9
    go_wp2_with fail
    refine HA.out.mono ?_
    rintro e w1 ⟨rfl, hb⟩
    go_wp2
    go_ret
    exact ⟨rfl, hb⟩
  · have HD1 := Lib.hid (fun w => dump_c s w (by omega))
    have HD2 := Lib.hid (fun w => refDump_c s w (by omega))
    have hl := dumpL_length s.data.toList
    rw [toList_size] at hl
    have hXs : (⟨(dumpL s.data.toList).toArray⟩ : ByteArray).size ≤ 37500 := by rw [size_of]; omega
    have HR := Lib.hid (fun w => read27_c ⟨(dumpL s.data.toList).toArray⟩ w (by omega))
    rw [show (⟨(dumpL s.data.toList).toArray⟩ : ByteArray).data.toList = dumpL s.data.toList by simp, rdL_eq, rdD_dump, bytEnd, bytes_of] at HR
    generalize (⟨(dumpL s.data.toList).toArray⟩ : ByteArray) = X at *
    clear hl
    have q1 : (X.toList == X.toList) = true := by simp
    have q2 : (s.toList == s.toList) = true := by simp
    go_enter Try.func9, Try.ntmps9
    go_wp2_with fail
    refine HA.out.mono ?_
    rintro e w1 ⟨rfl, hb1⟩
    have K1 := Lib.hid hb1
    clear hb1
    go_wp2_with fail
    refine (HD1.out _).mono ?_
    rintro e wn ⟨rfl, hbn⟩
    have K2 : Hid (Below w.heap.size w wn) := Lib.hid (K1.out.trans (hbn.mono K1.out.size))
    clear hbn
    go_wp2_with fail
    refine (HR.out _).mono ?_
    rintro e wn ⟨rfl, hbn⟩
    have K3 : Hid (Below w.heap.size w wn) := Lib.hid (K2.out.trans (hbn.mono K2.out.size))
    clear hbn
    go_wp2_with fail
    refine (HD2.out _).mono ?_
    rintro e wn ⟨rfl, hbn⟩
    have K4 : Hid (Below w.heap.size w wn) := Lib.hid (K3.out.trans (hbn.mono K3.out.size))
    clear hbn
    go_wp2
    go_ret
    exact ⟨rfl, K4.out⟩
end Go.Proofs.Ytcidcjghglgkhaa
