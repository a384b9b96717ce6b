/- Capabilities in memory; hello.compare. -/
import Derived.Test.YtcidcjghglgkhaaCapP
import Derived.Test.YtcidcjghglgkhaaCommandM
import Derived.Test.YtcidcjghglgkhaaBufR
import Derived.Test.YtcidcjghglgkhaaItemS
import Derived.Deep.RegionHeld3
import Derived.Deep.RegionWith
import Derived.LoopTactic
import Derived.Laws.Cover1
namespace Go.Proofs.Ytcidcjghglgkhaa
set_option linter.unusedVariables false
set_option linter.unusedSimpArgs false
open Go.RowKit

theorem sCmp_lt (a b : ByteArray) : (Op.bytesLess a.toList b.toList) = sLess a b := rfl
set_option maxRecDepth 100000 in
theorem cmpStr_c (a b : ByteArray) (w : World) : Calls Try.prog 89 #[.string a, .string b] w fun e w' => e = .returned (.int .i64 (sCmp a b)) ∧ w = w' := by
  have qa : (a.toList != a.toList) = false := by simp
  have qb : (b.toList != b.toList) = false := by simp
  cases h1 : sLess a b with
  | true =>
    have HE : Hid (sCmp a b = -1) := Lib.hid (by simp [sCmp, h1])
    have q1 : Op.bytesLess a.toList b.toList = true := h1
    clear h1
    rw [HE.out]
    go_enter Try.func89, Try.ntmps89
    go_wp2
    go_ret
    exact ⟨rfl, rfl⟩
  | false =>
    have q1 : Op.bytesLess a.toList b.toList = false := h1
    rcases str_ways a b with ⟨rfl, q2, q3⟩ | ⟨hne, q2, q3⟩
    · have HE : Hid (sCmp a a = 0) := Lib.hid (sCmp_zero.2 rfl)
      clear h1
      rw [HE.out]
      go_enter Try.func89, Try.ntmps89
      go_wp2
      go_ret
      exact ⟨rfl, rfl⟩
    · have h2 : sLess b a = true := by
        cases h2 : sLess b a with
        | true => rfl
        | false => exact absurd (sLess_total h1 h2) hne
      have HE : Hid (sCmp a b = 1) := Lib.hid (by simp [sCmp, h1, h2])
      clear h1 h2 hne
      rw [HE.out]
      go_enter Try.func89, Try.ntmps89
      go_wp2
      go_ret
      exact ⟨rfl, rfl⟩
set_option maxRecDepth 100000 in
theorem cmpInt_c (a b : Int) (w : World) : Calls Try.prog 90 #[.int .i64 a, .int .i64 b] w fun e w' => e = .returned (.int .i64 (iCmp a b)) ∧ w = w' := by
  have qa : (a != a) = false := by simp
  have qb : (b != b) = false := by simp
  by_cases h1 : a < b
  · have HE : Hid (iCmp a b = -1) := Lib.hid (by simp [iCmp, h1])
    rw [HE.out]
    go_enter Try.func90, Try.ntmps90
    go_wp2
    go_ret
    exact ⟨rfl, rfl⟩
  · by_cases h2 : b < a
    · have HE : Hid (iCmp a b = 1) := Lib.hid (by simp [iCmp, h1, h2])
      rw [HE.out]
      go_enter Try.func90, Try.ntmps90
      go_wp2
      go_ret
      exact ⟨rfl, rfl⟩
    · have HE : Hid (iCmp a b = 0) := Lib.hid (by simp [iCmp, h1, h2])
      rw [HE.out]
      go_enter Try.func90, Try.ntmps90
      go_wp2
      go_ret
      exact ⟨rfl, rfl⟩
def orI (x y : Int) : Int := if x = 0 then y else x
set_option maxRecDepth 100000 in
theorem or_c (x y : Int) (g : Nat) (w : World) (h0 : w.cell? ⟨g, 0, none⟩ = some (.int .i64 x)) (h1 : w.cell? ⟨g, 1, none⟩ = some (.int .i64 y)) :
    Calls Try.prog 88 #[.slice (some ⟨g, 0, none⟩) 2 2] w fun e w' => e = .returned (.int .i64 (orI x y)) ∧ w = w' := by
  obtain ⟨D, HD⟩ : ∃ D, Hid (orI x y = D) := ⟨_, Lib.hid rfl⟩
  rw [HD.out]
  go_enter Try.func88, Try.ntmps88
  go_wp2_with fail
  go_loop [8] (fun i => ∃ k : Nat, k ≤ 2 ∧ i = .int .i64 k ∧ Hid (1 ≤ k → x = 0) ∧ Hid (2 ≤ k → y = 0)) (fun i => 2 - (intOf i).toNat)
  case atStart => exact ⟨0, by omega, rfl, Lib.hid (by omega), Lib.hid (by omega)⟩
  case round =>
    obtain ⟨k, hk, rfl, Hx, Hy⟩ := hrel
    by_cases hk0 : k = 0
    · subst hk0
      rcases beq0 x with ⟨hx, q1, q2⟩ | ⟨hx, q1, q2⟩
      · have HX := Lib.hid hx
        clear hx
        go_wp2
        go_round
        case rel => exact ⟨1, by omega, by go_num, Lib.hid (fun _ => HX.out), Lib.hid (by omega)⟩
        case measure => simp [intOf]
      · have HE : Hid (D = x) := Lib.hid (by rw [← HD.out, orI, if_neg hx])
        clear hx
        go_wp2
        go_ret
        exact ⟨by rw [HE.out]; rfl, rfl⟩
    · by_cases hk1 : k = 1
      · subst hk1
        have hx0 := Hx.out (by omega)
        rcases beq0 y with ⟨hx, q1, q2⟩ | ⟨hx, q1, q2⟩
        · have HX := Lib.hid hx
          have HX0 := Lib.hid hx0
          clear hx hx0
          go_wp2
          go_round
          case rel => exact ⟨2, by omega, by go_num, Lib.hid (fun _ => HX0.out), Lib.hid (fun _ => HX.out)⟩
          case measure => simp [intOf]
        · have HE : Hid (D = y) := Lib.hid (by rw [← HD.out, orI, if_pos hx0])
          clear hx hx0
          go_wp2
          go_ret
          exact ⟨by rw [HE.out]; rfl, rfl⟩
      · obtain rfl : k = 2 := by omega
        have HE : Hid (D = 0) := Lib.hid (by rw [← HD.out, orI, if_pos (Hx.out (by omega)), Hy.out (by omega)])
        go_wp2
        go_ret
        exact ⟨by rw [HE.out]; rfl, rfl⟩
end Go.Proofs.Ytcidcjghglgkhaa
