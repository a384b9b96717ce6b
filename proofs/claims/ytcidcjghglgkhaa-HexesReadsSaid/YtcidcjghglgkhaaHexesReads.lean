/- hatchwaylaw27.HexesReads: the bytes of any text that may be a dump, or the error, are the document's; what is read is dumped as it was. -/
import Derived.Test.YtcidcjghglgkhaaHexReadF
import Derived.Test.YtcidcjghglgkhaaHexRR
import Derived.Test.YtcidcjghglgkhaaHexAlive
namespace Go.Proofs.Ytcidcjghglgkhaa
set_option linter.unusedVariables false
set_option linter.unusedSimpArgs false
open Go.RowKit

theorem rdD_length {t l : List UInt8} (h : rdD t = some l) : l.length ≤ t.length := by
  rw [← rdD_back h, dumpL]
  have key : ∀ k, k ≤ nCh l.length 16 → (dmpF l (List.range k)).1 ≤ (dmpF l (List.range k)).2.length := by
    intro k
    induction k with
    | zero => intro _; simp [dmpF]
    | succ k ih =>
      intro hk
      have := ih (by omega)
      rw [List.range_succ, dmpF_snoc, dmpStep]
      simp only [List.length_append, lineL_length]
      omega
  have h1 := key _ (Nat.le_refl _)
  have h2 := (dmpF_at l (nCh l.length 16) (Nat.le_refl _)).1
  have hn := nCh_lt l.length 16 (nCh l.length 16) (by omega)
  omega
set_option maxRecDepth 100000 in
set_option maxHeartbeats 800000 in
theorem hexesReads_w (s : ByteArray) (w : World) (hs : s.size ≤ maxLen) :
    Calls Try.prog 10 #[.string s] w fun e w' => e = .returned (.bool true) ∧ Below w.heap.size w w' := by
  unfold maxLen at hs
  have HA := Lib.hid (hexAlive_c w)
  by_cases h0 : 1500 < s.size
  · go_enter Try.func10, Try.ntmps10
    go_wp2_with fail
    refine HA.out.mono ?_
    rintro e w1 ⟨rfl, hb⟩
    go_wp2
    go_ret
    exact ⟨rfl, hb⟩
  · have HR1 := Lib.hid (fun w => read27_c s w (by omega))
    rw [rdL_eq] at HR1
    have HR2 := Lib.hid (fun w => refRead27_c s w (by omega))
    cases hR : rdD s.data.toList with
    | none =>
      rw [hR, bytEnd] at HR1 HR2
      clear hR
      go_enter Try.func10, Try.ntmps10
      go_wp2_with fail
      refine HA.out.mono ?_
      rintro e w1 ⟨rfl, hb1⟩
      have K1 := Lib.hid hb1
      clear hb1
      go_wp2_with fail
      refine (HR1.out _).mono ?_
      rintro e wn ⟨rfl, hbn⟩
      have K2 : Hid (Below w.heap.size w wn) := Lib.hid (K1.out.trans (hbn.mono K1.out.size))
      clear hbn
      go_wp2_with fail
      refine (HR2.out _).mono ?_
      rintro e wn ⟨rfl, hbn⟩
      have K3 : Hid (Below w.heap.size w wn) := Lib.hid (K2.out.trans (hbn.mono K2.out.size))
      clear hbn
      go_wp2
      go_ret
      exact ⟨rfl, K3.out⟩
    | some v =>
      have hl := rdD_length hR
      rw [toList_size] at hl
      have HD := Lib.hid (fun w => dump_c ⟨v.toArray⟩ w (by rw [size_of]; omega))
      rw [show (⟨v.toArray⟩ : ByteArray).data.toList = v by simp, rdD_back hR, bytes_of] at HD
      rw [hR, bytEnd] at HR1 HR2
      have hvs : (⟨v.toArray⟩ : ByteArray).size ≤ 1500 := by rw [size_of]; omega
      clear hR hl
      generalize (⟨v.toArray⟩ : ByteArray) = V at *
      have q1 : (V.toList == V.toList) = true := by simp
      have q2 : (s.toList == s.toList) = true := by simp
      go_enter Try.func10, Try.ntmps10
      go_wp2_with fail
      refine HA.out.mono ?_
      rintro e w1 ⟨rfl, hb1⟩
      have K1 := Lib.hid hb1
      clear hb1
      go_wp2_with fail
      refine (HR1.out _).mono ?_
      rintro e wn ⟨rfl, hbn⟩
      have K2 : Hid (Below w.heap.size w wn) := Lib.hid (K1.out.trans (hbn.mono K1.out.size))
      clear hbn
      go_wp2_with fail
      refine (HR2.out _).mono ?_
      rintro e wn ⟨rfl, hbn⟩
      have K3 : Hid (Below w.heap.size w wn) := Lib.hid (K2.out.trans (hbn.mono K2.out.size))
      clear hbn
      go_wp2_with fail
      refine (HD.out _).mono ?_
      rintro e wn ⟨rfl, hbn⟩
      have K4 : Hid (Below w.heap.size w wn) := Lib.hid (K3.out.trans (hbn.mono K3.out.size))
      clear hbn
      go_wp2
      go_ret
      exact ⟨rfl, K4.out⟩
end Go.Proofs.Ytcidcjghglgkhaa
