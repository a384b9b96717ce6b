/- hatchwaylaw27.HexesBytes: the digits of any text, and the text of any digits, or the error, are the document's; both go back. -/
import Derived.Test.YtcidcjghglgkhaaHexR
import Derived.Test.YtcidcjghglgkhaaHexAlive
namespace Go.Proofs.Ytcidcjghglgkhaa
set_option linter.unusedVariables false
set_option linter.unusedSimpArgs false
open Go.RowKit

set_option maxRecDepth 100000 in
set_option maxHeartbeats 800000 in
theorem hexesBytes_w (s t : ByteArray) (w : World) (hs : s.size ≤ maxLen) (ht : t.size ≤ maxLen) :
    Calls Try.prog 6 #[.string s, .string t] w fun e w' => e = .returned (.bool true) ∧ Below w.heap.size w w' := by
  unfold maxLen at hs ht
  have HA := Lib.hid (hexAlive_c w)
  by_cases h0 : 500 < s.size ∨ 500 < t.size
  · rcases h0 with h0 | h0
    · go_enter Try.func6, Try.ntmps6
      go_wp2_with fail
      refine HA.out.mono ?_
      rintro e w1 ⟨rfl, hb⟩
      go_wp2
      go_ret
      exact ⟨rfl, hb⟩
    · by_cases h1 : 500 < s.size
      all_goals
        go_enter Try.func6, Try.ntmps6
        go_wp2_with fail
        refine HA.out.mono ?_
        rintro e w1 ⟨rfl, hb⟩
        go_wp2
        go_ret
        exact ⟨rfl, hb⟩
  · have hs1 : s.size ≤ 500 := by omega
    have ht1 : t.size ≤ 500 := by omega
    have HX1 := Lib.hid (fun w => hex_c s w (by omega))
    have HX2 := Lib.hid (fun w => refHex_c s w (by omega))
    have hXl : (⟨(hxL s.data.toList).toArray⟩ : ByteArray).data.toList = hxL s.data.toList := by simp
    have HB1 := Lib.hid (fun w => bytes_c ⟨(hxL s.data.toList).toArray⟩ w (by rw [size_of, hxL_length, toList_size]; omega))
    rw [hXl, bytesL_hxL, bytEnd, bytes_of] at HB1
    clear hXl
    have hxs : (⟨(hxL s.data.toList).toArray⟩ : ByteArray).size ≤ 1000 := by rw [size_of, hxL_length, toList_size]; omega
    generalize (⟨(hxL s.data.toList).toArray⟩ : ByteArray) = X at *
    have HB2 := Lib.hid (fun w => bytes_c t w (by omega))
    have HB3 := Lib.hid (fun w => refBytes_c t w (by omega))
    have HBK := Lib.hid (fun r => bytesL_back t.data.toList r)
    have HLN := Lib.hid (fun r => bytesL_length t.data.toList r)
    generalize bytesL t.data.toList = R at *
    clear h0
    have q1 : (X.toList == X.toList) = true := by simp
    have q2 : (s.toList == s.toList) = true := by simp
    cases R with
    | none =>
      simp only [bytEnd] at HB2 HB3
      go_enter Try.func6, Try.ntmps6
      go_wp2_with fail
      refine HA.out.mono ?_
      rintro e w1 ⟨rfl, hb1⟩
      have K1 := Lib.hid hb1
      clear hb1
      go_wp2_with fail
      refine (HX1.out _).mono ?_
      rintro e wn ⟨rfl, hbn⟩
      have K2 : Hid (Below w.heap.size w wn) := Lib.hid (K1.out.trans (hbn.mono K1.out.size))
      clear hbn
      go_wp2_with fail
      refine (HB1.out _).mono ?_
      rintro e wn ⟨rfl, hbn⟩
      have K3 : Hid (Below w.heap.size w wn) := Lib.hid (K2.out.trans (hbn.mono K2.out.size))
      clear hbn
      go_wp2_with fail
      refine (HB2.out _).mono ?_
      rintro e wn ⟨rfl, hbn⟩
      have K4 : Hid (Below w.heap.size w wn) := Lib.hid (K3.out.trans (hbn.mono K3.out.size))
      clear hbn
      go_wp2_with fail
      refine (HB3.out _).mono ?_
      rintro e wn ⟨rfl, hbn⟩
      have K5 : Hid (Below w.heap.size w wn) := Lib.hid (K4.out.trans (hbn.mono K4.out.size))
      clear hbn
      go_wp2_with fail
      refine (HX2.out _).mono ?_
      rintro e wn ⟨rfl, hbn⟩
      have K6 : Hid (Below w.heap.size w wn) := Lib.hid (K5.out.trans (hbn.mono K5.out.size))
      clear hbn
      go_wp2
      go_ret
      exact ⟨rfl, K6.out⟩
    | some v =>
      have hvt := HBK.out v rfl
      have hvl := HLN.out v rfl
      rw [toList_size] at hvl
      have HX3 := Lib.hid (fun w => hex_c ⟨v.toArray⟩ w (by rw [size_of]; omega))
      have e1 : (⟨v.toArray⟩ : ByteArray).data.toList = v := by simp
      rw [e1, hvt, bytes_of] at HX3
      simp only [bytEnd] at HB2 HB3
      have hvs : (⟨v.toArray⟩ : ByteArray).size ≤ 250 := by rw [size_of]; omega
      clear HBK HLN e1 hvt hvl
      generalize (⟨v.toArray⟩ : ByteArray) = V at *
      have q3 : (V.toList == V.toList) = true := by simp
      have q4 : (t.toList == t.toList) = true := by simp
      go_enter Try.func6, Try.ntmps6
      go_wp2_with fail
      refine HA.out.mono ?_
      rintro e w1 ⟨rfl, hb1⟩
      have K1 := Lib.hid hb1
      clear hb1
      go_wp2_with fail
      refine (HX1.out _).mono ?_
      rintro e wn ⟨rfl, hbn⟩
      have K2 : Hid (Below w.heap.size w wn) := Lib.hid (K1.out.trans (hbn.mono K1.out.size))
      clear hbn
      go_wp2_with fail
      refine (HB1.out _).mono ?_
      rintro e wn ⟨rfl, hbn⟩
      have K3 : Hid (Below w.heap.size w wn) := Lib.hid (K2.out.trans (hbn.mono K2.out.size))
      clear hbn
      go_wp2_with fail
      refine (HB2.out _).mono ?_
      rintro e wn ⟨rfl, hbn⟩
      have K4 : Hid (Below w.heap.size w wn) := Lib.hid (K3.out.trans (hbn.mono K3.out.size))
      clear hbn
      go_wp2_with fail
      refine (HB3.out _).mono ?_
      rintro e wn ⟨rfl, hbn⟩
      have K5 : Hid (Below w.heap.size w wn) := Lib.hid (K4.out.trans (hbn.mono K4.out.size))
      clear hbn
      go_wp2_with fail
      refine (HX2.out _).mono ?_
      rintro e wn ⟨rfl, hbn⟩
      have K6 : Hid (Below w.heap.size w wn) := Lib.hid (K5.out.trans (hbn.mono K5.out.size))
      clear hbn
      go_wp2_with fail
      refine (HX3.out _).mono ?_
      rintro e wn ⟨rfl, hbn⟩
      have K7 : Hid (Below w.heap.size w wn) := Lib.hid (K6.out.trans (hbn.mono K6.out.size))
      clear hbn
      go_wp2
      go_ret
      exact ⟨rfl, K7.out⟩
end Go.Proofs.Ytcidcjghglgkhaa
