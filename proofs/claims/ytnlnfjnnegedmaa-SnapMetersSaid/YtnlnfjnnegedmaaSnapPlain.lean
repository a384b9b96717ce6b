/- hatchwaylaw11.SnapPlain: any bytes within one literal, with a head of any length that fits, unpack to themselves. -/
import Derived.Test.YtnlnfjnnegedmaaSnapU
import Derived.Test.YtnlnfjnnegedmaaSnapPlainP
import Derived.OpenShut
namespace Go.Proofs.Ytnlnfjnnegedmaa
set_option linter.unusedVariables false
set_option linter.unusedSimpArgs false
open Go.RowKit

set_option maxHeartbeats 400000 in
theorem snapAlive (w : World) : Calls Try.prog 45 #[] w fun e w' => e = .returned (.bool true) ∧ Below w.heap.size w w' := by
  have hu := unpack_nil ⟨#[5, 16, 97, 98, 99, 100, 101]⟩ 9 w (by decide)
  have hx : sUnpack ⟨#[5, 16, 97, 98, 99, 100, 101]⟩ 9 = (0, [97, 98, 99, 100, 101]) := by decide +kernel
  rw [hx] at hu
  have Hu := Lib.hid hu
  clear hu hx
  go_enter Try.func45, Try.ntmps45
  go_wp2_with fail
  refine Hu.out.mono ?_
  rintro e w' ⟨rfl, hb⟩
  go_wp2
  go_ret
  exact ⟨rfl, hb⟩

/-- Unpack at a block of one literal. -/
theorem unpack_plain (b s : ByteArray) (k : Nat) (w : World) (h1 : 1 ≤ s.size) (h2 : s.size ≤ 250) (hk : k ≤ 4) (hk0 : k = 0 → s.size ≤ 60) (hb : b.data.toList = szL s.size ++ (litL s.size k ++ s.data.toList)) :
    Calls Try.prog 48 #[.string b, .int .i64 250, .pointer none] w fun e w' => e = .returned (.tuple #[.string s, .int .i64 0]) ∧ Below w.heap.size w w' := by
  have hz : b.size ≤ 9223372036854775807 := by
    rw [← toList_size, hb]
    simp only [List.length_append, litL_length, toList_size]
    have : (szL s.size).length ≤ 2 := by unfold szL; split <;> simp
    omega
  have hu := unpack_nil b 250 w hz
  rw [plain_law b s.size k s.data.toList (by simp) h1 h2 hk hk0 hb, bytes_of] at hu
  exact hu


set_option maxRecDepth 100000 in
set_option maxHeartbeats 800000 in
theorem snapPlain_w (s : ByteArray) (long : Int) (w : World) (hl : 0 ≤ long ∧ long ≤ 255) :
    Calls Try.prog 12 #[.string s, .int .u8 long] w fun e w' => e = .returned (.bool true) ∧ Below w.heap.size w w' := by
  have k1 := fun (w : World) (a : Int) => run_str1 Try.underlying69 Try.underlying5 Try.underlying9 w a
  have k2 := fun (w : World) (a b : Int) => run_str2 Try.underlying69 Try.underlying5 Try.underlying9 w a b
  have k3 := fun (w : World) (o : Obj) (a : Int) => run_str1_1 Try.underlying69 Try.underlying5 Try.underlying9 w o a
  have k4 := fun (w : World) (o : Obj) (a b : Int) => run_str2_1 Try.underlying69 Try.underlying5 Try.underlying9 w o a b
  have k5 := fun (w : World) (o o' : Obj) (a : Int) => run_str1_2 Try.underlying69 Try.underlying5 Try.underlying9 w o o' a
  have k6 := fun (w : World) (o o' : Obj) (a b : Int) => run_str2_2 Try.underlying69 Try.underlying5 Try.underlying9 w o o' a b
  have k7 := fun (w : World) (o o' o'' : Obj) (a b : Int) => run_str2_3 Try.underlying69 Try.underlying5 Try.underlying9 w o o' o'' a b
  by_cases h0 : s.size = 0
  · have e1 : ((s.size : Int) == 0) = true := by simp [h0]
    clear h0
    go_enter Try.func12, Try.ntmps12
    go_wp2_with fail
    refine (snapAlive w).mono ?_
    rintro e w1 ⟨rfl, hb⟩
    go_wp2
    go_ret
    exact ⟨rfl, hb⟩
  · have e1 : ((s.size : Int) == 0) = false := beq_eq_false_iff_ne.2 (by omega)
    by_cases h1 : 250 < s.size
    · go_enter Try.func12, Try.ntmps12
      go_wp2_with fail
      refine (snapAlive w).mono ?_
      rintro e w1 ⟨rfl, hb⟩
      go_wp2
      go_ret
      exact ⟨rfl, hb⟩
    · have hs1 : 1 ≤ s.size := by omega
      have hs2 : s.size ≤ 250 := by omega
      clear h0 h1
      obtain ⟨k, hk⟩ : ∃ k : Nat, long % 5 = k := ⟨(long % 5).toNat, by omega⟩
      have hk4 : k ≤ 4 := by omega
      by_cases h2 : k = 0
      · subst h2
        by_cases h3 : s.size ≤ 60
        · go_enter Try.func12, Try.ntmps12
          go_wp2_with fail
          refine (snapAlive w).mono ?_
          rintro e w1 ⟨rfl, hb⟩
          by_cases h4 : s.size < 128
          · go_wp2_with fail
            refine (unpack_plain _ s 0 _ hs1 hs2 (by omega) (by omega) (by exact blk_list (sz_one h4) (lit_one hs1))).mono ?_
            rintro e w2 ⟨rfl, hb2⟩
            have hbz := hb.size
            have hB : Below w.heap.size w w2 := Below.trans (Below.trans hb (by repeat (first | exact Below.refl _ _ | assumption | with_reducible refine Below.drewN' ?_ _ | with_reducible refine Below.drew ?_ | ((with_reducible refine Below.alloc' ?_ ?_ _); · (first | omega | (simp <;> omega)))))) (hb2.mono (by simp; omega))
            clear hbz
            go_wp2
            go_ret
            exact ⟨rfl, hB⟩
          · omega
        · go_enter Try.func12, Try.ntmps12
          go_wp2_with fail
          refine (snapAlive w).mono ?_
          rintro e w1 ⟨rfl, hb⟩
          go_wp2_with fail
          refine wp_loop_rounds 1 ?_
          rw [rounds_succ]
          by_cases h4 : s.size < 128
          · go_wp2_with fail
            refine (unpack_plain _ s 1 _ hs1 hs2 (by omega) (by omega) (by exact blk_list (sz_one h4) (lit_start1 hs1))).mono ?_
            rintro e w2 ⟨rfl, hb2⟩
            have hbz := hb.size
            have hB : Below w.heap.size w w2 := Below.trans (Below.trans hb (by repeat (first | exact Below.refl _ _ | assumption | with_reducible refine Below.drewN' ?_ _ | with_reducible refine Below.drew ?_ | ((with_reducible refine Below.alloc' ?_ ?_ _); · (first | omega | (simp <;> omega)))))) (hb2.mono (by simp; omega))
            clear hbz
            go_wp2
            go_ret
            exact ⟨rfl, hB⟩
          · go_wp2_with fail
            refine (unpack_plain _ s 1 _ hs1 hs2 (by omega) (by omega) (by exact blk_list (sz_two h4 (by omega)) (lit_start1 hs1))).mono ?_
            rintro e w2 ⟨rfl, hb2⟩
            have hbz := hb.size
            have hB : Below w.heap.size w w2 := Below.trans (Below.trans hb (by repeat (first | exact Below.refl _ _ | assumption | with_reducible refine Below.drewN' ?_ _ | with_reducible refine Below.drew ?_ | ((with_reducible refine Below.alloc' ?_ ?_ _); · (first | omega | (simp <;> omega)))))) (hb2.mono (by simp; omega))
            clear hbz
            go_wp2
            go_ret
            exact ⟨rfl, hB⟩
      · have h3 : 1 ≤ k := by omega
        go_enter Try.func12, Try.ntmps12
        go_wp2_with fail
        refine (snapAlive w).mono ?_
        rintro e w1 ⟨rfl, hb⟩
        go_wp2_with fail
        go_loop [6, 8] (fun x i => ∃ (j : Nat) (y : ByteArray), 1 ≤ j ∧ j ≤ k ∧ i = .int .i64 j ∧ x = .string y ∧ Hid (y.data.toList = ub (4 * (59 + k) : Nat) :: ub (s.size - 1 : Nat) :: List.replicate (j - 1) 0) ∧ y.size ≤ 10) (fun _ i => k - (intOf i).toNat)
        case atStart => exact ⟨1, _, by omega, by omega, rfl, rfl, Lib.hid (lit_start hs1), by show (2 : Nat) ≤ 10; omega⟩
        case round =>
          obtain ⟨j, y, hj1, hj2, rfl, rfl, hy, hyz⟩ := hrel
          by_cases hj : j < k
          · go_wp2
            go_round
            case rel => exact ⟨j + 1, _, by omega, by omega, by go_num, rfl, Lib.hid (lit_more hj1 hy.out), by rw [← toList_size, lit_more hj1 hy.out]; simp; omega⟩
            case measure => simp [intOf]; omega
          · obtain rfl : k = j := by omega
            by_cases h4 : s.size < 128
            · go_wp2_with fail
              refine (unpack_plain _ s k _ hs1 hs2 (by omega) (by omega) (by exact blk_list (sz_one h4) (lit_done (by omega) hy.out))).mono ?_
              rintro e w2 ⟨rfl, hb2⟩
              have hbz := hb.size
              have hB : Below w.heap.size w w2 := Below.trans (Below.trans hb (by repeat (first | exact Below.refl _ _ | assumption | with_reducible refine Below.drewN' ?_ _ | with_reducible refine Below.drew ?_ | ((with_reducible refine Below.alloc' ?_ ?_ _); · (first | omega | (simp <;> omega)))))) (hb2.mono (by simp; omega))
              clear hbz
              go_wp2
              go_ret
              exact ⟨rfl, hB⟩
            · go_wp2_with fail
              refine (unpack_plain _ s k _ hs1 hs2 (by omega) (by omega) (by exact blk_list (sz_two h4 (by omega)) (lit_done (by omega) hy.out))).mono ?_
              rintro e w2 ⟨rfl, hb2⟩
              have hbz := hb.size
              have hB : Below w.heap.size w w2 := Below.trans (Below.trans hb (by repeat (first | exact Below.refl _ _ | assumption | with_reducible refine Below.drewN' ?_ _ | with_reducible refine Below.drew ?_ | ((with_reducible refine Below.alloc' ?_ ?_ _); · (first | omega | (simp <;> omega)))))) (hb2.mono (by simp; omega))
              clear hbz
              go_wp2
              go_ret
              exact ⟨rfl, hB⟩

theorem snapPlain_row (s : ByteArray) (long : Int) (w : World) (_ : s.size ≤ maxLen) (hl : (Lit.int .u8 long).wf = true) :
    Calls Try.prog 12 #[.string s, .int .u8 long] w fun e w' => e = .returned (.bool true) ∧ Below w.heap.size w w' :=
  snapPlain_w s long w (by have := bounds_u8 hl; omega)
end Go.Proofs.Ytnlnfjnnegedmaa
