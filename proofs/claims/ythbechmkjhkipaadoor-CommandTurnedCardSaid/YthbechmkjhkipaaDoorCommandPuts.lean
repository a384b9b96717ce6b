/- hatchwaylaw13.CommandPuts and CommandGets: names and their bytes are the document's, and go back. -/
import Derived.Test.YthbechmkjhkipaaDoorCommand2
namespace Go.Proofs.YthbechmkjhkipaaDoor
set_option linter.unusedVariables false
set_option linter.unusedSimpArgs false
open Go.RowKit

theorem ping_pad : nmPad ⟨#[112, 105, 110, 103]⟩ = ⟨#[112, 105, 110, 103, 0, 0, 0, 0, 0, 0, 0, 0]⟩ := by decide +kernel
theorem cmdAlive (w : World) : Calls Tryd.prog 9 #[] w fun e w' => e = .returned (.bool true) ∧ Below w.heap.size w w' := by
  have H := cmdPut_c ⟨#[112, 105, 110, 103]⟩ w (by decide +kernel)
  rw [ping_pad] at H
  have HP := Lib.hid H
  clear H
  go_enter Tryd.func9, Tryd.ntmps9
  go_wp2_with fail
  refine HP.out.mono ?_
  rintro e w' ⟨rfl, hb⟩
  go_wp2
  go_ret
  exact ⟨rfl, hb⟩

set_option maxRecDepth 100000 in
set_option maxHeartbeats 400000 in
theorem commandPuts_w (s : ByteArray) (w : World) (hs : s.size ≤ 9223372036854775807) :
    Calls Tryd.prog 3 #[.string s] w fun e w' => e = .returned (.bool true) ∧ Below w.heap.size w w' := by
  by_cases h0 : 200 < s.size
  · go_enter Tryd.func3, Tryd.ntmps3
    go_wp2_with fail
    refine (cmdAlive w).mono ?_
    rintro e w1 ⟨rfl, hb⟩
    go_wp2
    go_ret
    exact ⟨rfl, hb⟩
  · have HM := Lib.hid (fun w => cmdMay_c s w hs)
    have HR := Lib.hid (fun w => refMayN_c s w hs)
    rcases Bool.eq_false_or_eq_true (nmMay s) with h | h
    · have HP := Lib.hid (fun w => cmdPut_c s w h)
      have HQ := Lib.hid (fun w => refPutN_c s w (nmMay_size h).2)
      have HG := Lib.hid (fun w => cmdGet_c (nmPad s) w (by rw [nmPad_size s (nmMay_size h).2]; omega))
      rw [nmGet_pad s h] at HG
      rw [h] at HM HR
      clear h
      have n1 := str_ways (nmPad s) (nmPad s)
      have n2 := str_ways s s
      simp only [ne_eq, not_true_eq_false, false_and, or_false, true_and] at n1 n2
      obtain ⟨n1, n3⟩ := n1
      obtain ⟨n2, n4⟩ := n2
      generalize nmPad s = p at *
      go_enter Tryd.func3, Tryd.ntmps3
      go_wp2_with fail
      refine (cmdAlive w).mono ?_
      rintro e w1 ⟨rfl, hb⟩
      have hz := hb.size
      go_wp2_with fail
      refine (HP.out w1).mono ?_
      rintro e w2 ⟨rfl, hb2⟩
      have hb3 := hb.trans (hb2.mono hz)
      go_wp2_with (first | ((with_reducible refine (HM.out _).mono ?_); rintro e w' ⟨rfl, rfl⟩) | ((with_reducible refine (HR.out _).mono ?_); rintro e w' ⟨rfl, rfl⟩) | ((with_reducible refine (HG.out _).mono ?_); rintro e w' ⟨rfl, rfl⟩) | ((with_reducible refine (HQ.out _).mono ?_); rintro e w' ⟨rfl, rfl⟩))
      go_ret
      exact ⟨rfl, hb3⟩
    · have HP := Lib.hid (fun w => cmdPut_no s w hs h)
      rw [h] at HM HR
      clear h
      go_enter Tryd.func3, Tryd.ntmps3
      go_wp2_with fail
      refine (cmdAlive w).mono ?_
      rintro e w1 ⟨rfl, hb⟩
      go_wp2_with fail
      refine (HP.out w1).mono ?_
      rintro e w' ⟨rfl, rfl⟩
      go_wp2_with (first | ((with_reducible refine (HM.out _).mono ?_); rintro e w' ⟨rfl, rfl⟩) | ((with_reducible refine (HR.out _).mono ?_); rintro e w' ⟨rfl, rfl⟩))
      go_ret
      exact ⟨rfl, hb⟩
theorem commandPuts_row (s : ByteArray) (w : World) (hs : s.size ≤ maxLen) :
    Calls Tryd.prog 3 #[.string s] w fun e w' => e = .returned (.bool true) ∧ Below w.heap.size w w' :=
  commandPuts_w s w (by simpa [maxLen] using hs)

set_option maxRecDepth 100000 in
set_option maxHeartbeats 400000 in
theorem commandGets_w (s : ByteArray) (w : World) (hs : s.size ≤ 9223372036854775807) :
    Calls Tryd.prog 4 #[.string s] w fun e w' => e = .returned (.bool true) ∧ Below w.heap.size w w' := by
  by_cases h0 : 200 < s.size
  · go_enter Tryd.func4, Tryd.ntmps4
    go_wp2_with fail
    refine (cmdAlive w).mono ?_
    rintro e w1 ⟨rfl, hb⟩
    go_wp2
    go_ret
    exact ⟨rfl, hb⟩
  · have HG := Lib.hid (fun w => cmdGet_c s w hs)
    have HR := Lib.hid (fun w => refGetN_c s w hs)
    rcases nmGet_cases s with h | ⟨t, h⟩
    · rw [h] at HG HR
      clear h
      go_enter Tryd.func4, Tryd.ntmps4
      go_wp2_with fail
      refine (cmdAlive w).mono ?_
      rintro e w1 ⟨rfl, hb⟩
      go_wp2_with (first | ((with_reducible refine (HG.out _).mono ?_); rintro e w' ⟨rfl, rfl⟩) | ((with_reducible refine (HR.out _).mono ?_); rintro e w' ⟨rfl, rfl⟩))
      go_ret
      exact ⟨rfl, hb⟩
    · obtain ⟨hp, hm⟩ := nmPad_get s t h
      rw [h] at HG HR
      have HP := Lib.hid (fun w => cmdPut_c t w hm)
      rw [hp] at HP
      clear h hp hm
      have n1 := str_ways t t
      have n2 := str_ways s s
      simp only [ne_eq, not_true_eq_false, false_and, or_false, true_and] at n1 n2
      obtain ⟨n1, n3⟩ := n1
      obtain ⟨n2, n4⟩ := n2
      go_enter Tryd.func4, Tryd.ntmps4
      go_wp2_with fail
      refine (cmdAlive w).mono ?_
      rintro e w1 ⟨rfl, hb⟩
      have hz := hb.size
      go_wp2_with (first | ((with_reducible refine (HG.out _).mono ?_); rintro e w' ⟨rfl, rfl⟩) | ((with_reducible refine (HR.out _).mono ?_); rintro e w' ⟨rfl, rfl⟩) | ((with_reducible refine (HP.out _).mono ?_); rintro e w2 ⟨rfl, hb2⟩))
      go_ret
      exact ⟨rfl, hb.trans (hb2.mono hz)⟩
theorem commandGets_row (s : ByteArray) (w : World) (hs : s.size ≤ maxLen) :
    Calls Tryd.prog 4 #[.string s] w fun e w' => e = .returned (.bool true) ∧ Below w.heap.size w w' :=
  commandGets_w s w (by simpa [maxLen] using hs)
end Go.Proofs.YthbechmkjhkipaaDoor
