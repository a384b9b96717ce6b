/- hatchwaylaw14.CoinPuts. -/
import Derived.Test.YtacikiambpfipaaDoorCoinN
import Derived.Test.YtacikiambpfipaaDoorShaEP
import Derived.OpenShut
namespace Go.Proofs.YtacikiambpfipaaDoor
set_option linter.unusedVariables false
set_option linter.unusedSimpArgs false
open Go.RowKit

theorem alive_coin : cnPut 1 ⟨#[112, 105, 110, 103]⟩ ⟨#[]⟩ = ⟨#[1, 0, 0, 0, 112, 105, 110, 103, 0, 0, 0, 0, 0, 0, 0, 0, 0, 0, 0, 0, 93, 246, 224, 226]⟩ := by
  unfold cnPut
  rw [chk_empty]
  decide +kernel
theorem coinAlive (w : World) : Calls Tryd.prog 16 #[] w fun e w' => e = .returned (.bool true) ∧ Below w.heap.size w w' := by
  have H := coinPut_c 1 ⟨#[112, 105, 110, 103]⟩ ⟨#[]⟩ w (by omega) (by decide +kernel) (by decide)
  rw [alive_coin] at H
  have HP := Lib.hid H
  clear H
  go_enter Tryd.func16, Tryd.ntmps16
  go_wp2_with fail
  refine HP.out.mono ?_
  rintro e w' ⟨rfl, hb⟩
  go_wp2
  go_ret
  exact ⟨rfl, hb⟩
set_option maxRecDepth 100000 in
set_option maxHeartbeats 2000000 in
theorem coinPuts_w (m : Nat) (nm body more : ByteArray) (w : World) (hm : m < 4294967296) (hn1 : nm.size ≤ 9223372036854775807) (hb1 : body.size ≤ 9223372036854775807) (hm1 : more.size ≤ 9223372036854775807) :
    Calls Tryd.prog 4 #[.int .u32 m, .string nm, .string body, .string more] w fun e w' => e = .returned (.bool true) ∧ Below w.heap.size w w' := by
  have HA := Lib.hid coinAlive
  by_cases h1 : 200 < nm.size
  · go_enter Tryd.func4, Tryd.ntmps4
    go_wp2_with fail
    refine (HA.out _).mono ?_
    rintro e w1 ⟨rfl, hb⟩
    have hz1 := hb.size
    go_wp2
    go_ret
    exact ⟨rfl, hb⟩
  by_cases h2 : 500 < body.size
  · by_cases h3 : body.size ≤ 65536
    · go_enter Tryd.func4, Tryd.ntmps4
      go_wp2_with fail
      refine (HA.out _).mono ?_
      rintro e w1 ⟨rfl, hb⟩
      have hz1 := hb.size
      go_wp2
      go_ret
      exact ⟨rfl, hb⟩
    by_cases h4 : 100 < more.size
    · go_enter Tryd.func4, Tryd.ntmps4
      go_wp2_with fail
      refine (HA.out _).mono ?_
      rintro e w1 ⟨rfl, hb⟩
      have hz1 := hb.size
      go_wp2
      go_ret
      exact ⟨rfl, hb⟩
    have HM := Lib.hid (fun w => refMayN_c nm w hn1)
    cases hm2 : nmMay nm with
    | false =>
      rw [hm2] at HM
      have HP := Lib.hid (fun w => coinPut_no m nm body w hm hn1 hm2)
      clear hm2
      go_enter Tryd.func4, Tryd.ntmps4
      go_wp2_with fail
      refine (HA.out _).mono ?_
      rintro e w1 ⟨rfl, hb⟩
      have hz1 := hb.size
      go_wp2_with fail
      refine (HP.out _).mono ?_
      rintro e w' ⟨rfl, rfl⟩
      go_wp2_with fail
      refine (HM.out _).mono ?_
      rintro e w' ⟨rfl, rfl⟩
      go_wp2
      go_ret
      exact ⟨rfl, hb⟩
    | true =>
      rw [hm2] at HM
      have HP := Lib.hid (fun w => coinPut_over m nm body w hm hm2 (by omega) hb1)
      clear hm2
      go_enter Tryd.func4, Tryd.ntmps4
      go_wp2_with fail
      refine (HA.out _).mono ?_
      rintro e w1 ⟨rfl, hb⟩
      have hz1 := hb.size
      go_wp2_with fail
      refine (HP.out _).mono ?_
      rintro e w2 ⟨rfl, hb2⟩
      have hb' := hb.trans (hb2.mono hz1)
      clear hb hb2
      go_wp2_with fail
      refine (HM.out _).mono ?_
      rintro e w' ⟨rfl, rfl⟩
      go_wp2
      go_ret
      exact ⟨rfl, hb'⟩
  by_cases h4 : 100 < more.size
  · go_enter Tryd.func4, Tryd.ntmps4
    go_wp2_with fail
    refine (HA.out _).mono ?_
    rintro e w1 ⟨rfl, hb⟩
    have hz1 := hb.size
    go_wp2
    go_ret
    exact ⟨rfl, hb⟩
  have HM := Lib.hid (fun w => refMayN_c nm w hn1)
  cases hm2 : nmMay nm with
  | false =>
    rw [hm2] at HM
    have HP := Lib.hid (fun w => coinPut_no m nm body w hm hn1 hm2)
    clear hm2
    go_enter Tryd.func4, Tryd.ntmps4
    go_wp2_with fail
    refine (HA.out _).mono ?_
    rintro e w1 ⟨rfl, hb⟩
    have hz1 := hb.size
    go_wp2_with fail
    refine (HP.out _).mono ?_
    rintro e w' ⟨rfl, rfl⟩
    go_wp2_with fail
    refine (HM.out _).mono ?_
    rintro e w' ⟨rfl, rfl⟩
    go_wp2
    go_ret
    exact ⟨rfl, hb⟩
  | true =>
    rw [hm2] at HM
    have HP := Lib.hid (fun w => coinPut_c m nm body w hm hm2 (by omega))
    have HR := Lib.hid (fun w => ref14Put_c m nm body w hm hm2 (by omega))
    have hz := cnPut_size m nm body (nmMay_size hm2).2
    have HN := Lib.hid (fun w => coinNext_c m body.size (cnPut m nm body ++ more) w hm (by rw [size_app]; omega) ⟨by omega, by omega⟩)
    rw [cnNext_put m body.size nm body more hm2 (Int.le_refl _) (by omega), ← hz] at HN
    unfold cnRet at HN
    dsimp only at HN
    clear hm2
    have hz' := Lib.hid hz
    generalize cnPut m nm body = S at *
    have n1 := str_ways S S
    have n2 := str_ways body body
    have n5 := str_ways nm nm
    simp only [ne_eq, not_true_eq_false, false_and, or_false, true_and] at n1 n2 n5
    obtain ⟨n1, n3⟩ := n1
    obtain ⟨n2, n4⟩ := n2
    obtain ⟨n5, n6⟩ := n5
    have HK := Lib.hid makeKey_c
    unfold keyV at HK HR
    generalize kC 64 = KL at *
    go_enter Tryd.func4, Tryd.ntmps4
    go_wp2_with fail
    refine (HA.out _).mono ?_
    rintro e w1 ⟨rfl, hb⟩
    have hz1 := hb.size
    go_wp2_with fail
    refine (HP.out _).mono ?_
    rintro e w2 ⟨rfl, hb2⟩
    have hb' := hb.trans (hb2.mono hz1)
    clear hb hb2
    go_wp2_with fail
    refine (HM.out _).mono ?_
    rintro e w' ⟨rfl, rfl⟩
    go_wp2_with fail
    refine (HN.out _).mono ?_
    rintro e w3 ⟨rfl, hb3⟩
    have hz2 := hb'.size
    have hb'' := hb'.trans (hb3.mono hz2)
    clear hb' hb3
    have hz3 := hb''.size
    go_wp2_with fail
    refine (HK.out _).mono ?_
    rintro e w4 ⟨rfl, hb4⟩
    have hF4 : Blk w4 w3.heap.size 41 #[.int .u64 0, .string nm, .string body] := (hb4.block w3.heap.size (by simp)).trans (Blk.new w3 _ _)
    have hW4 : Below w.heap.size w w4 := (hb''.alloc (by omega) _).trans (hb4.mono (by simp; omega))
    have hz4 := hb4.size
    simp only [World.size_alloc] at hz4
    clear hb4 hb''
    go_wp2_with fail
    refine (HR.out _).mono ?_
    rintro e w5 ⟨rfl, hb5⟩
    have hF5 : Blk w5 w3.heap.size 41 #[.int .u64 0, .string nm, .string body] := (hb5.block w3.heap.size (by omega)).trans hF4
    have hW5 : Below w.heap.size w w5 := hW4.trans (hb5.mono (by omega))
    obtain ⟨c0, c1, c2, _, _, _⟩ := blk3 hF5
    clear hF4 hF5 hW4 hb5
    go_wp2
    go_ret
    exact ⟨rfl, hW5⟩
theorem coinPuts_row (m : Int) (nm body more : ByteArray) (w : World) (hm : (Lit.int .u32 m).wf = true) (h1 : nm.size ≤ maxLen) (h2 : body.size ≤ maxLen) (h3 : more.size ≤ maxLen) :
    Calls Tryd.prog 4 #[.int .u32 m, .string nm, .string body, .string more] w fun e w' => e = .returned (.bool true) ∧ Below w.heap.size w w' := by
  have h0 : 0 ≤ m ∧ m ≤ 4294967295 := by simpa [Lit.wf, IntKind.min, IntKind.max, IntKind.signed, IntKind.bits] using hm
  obtain ⟨x, rfl⟩ : ∃ x : Nat, m = (x : Int) := ⟨m.toNat, by omega⟩
  exact coinPuts_w x nm body more w (by omega) (by simpa [maxLen] using h1) (by simpa [maxLen] using h2) (by simpa [maxLen] using h3)
end Go.Proofs.YtacikiambpfipaaDoor
