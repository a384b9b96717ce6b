/- sha: turns, mixes, words; the document's. -/
/- sha: the constants that the program holds are the document's roots. -/
import Derived.Test.YtebllmpdlapefaaGreatDoorProg
import Derived.Test.YtebllmpdlapefaaGreatDoorKA1
import Derived.WalkSpells
import Derived.Deep.QuietTactic
import Derived.BigQuiet
namespace Go.Proofs.YtebllmpdlapefaaGreatDoor
set_option linter.unusedVariables false
set_option linter.unusedSimpArgs false
open Go.RowKit

theorem spun_bits (n : Nat) (h1 : 1 ≤ n) (h2 : n ≤ 31) : bits .and .u64 (IntKind.u64.wrap (-(n : Int))) 31 = ((32 - n : Nat) : Int) := by
  have e : IntKind.u64.wrap (-(n : Int)) = ((18446744073709551616 - n : Nat) : Int) := by
    simp [IntKind.wrap, IntKind.signed, IntKind.bits]; omega
  have h := u64_and_nat (18446744073709551616 - n) 31 (by omega) (by omega)
  rw [e]
  have e31 : ((31 : Nat) : Int) = 31 := rfl
  rw [e31] at h
  rw [h, show (31 : Nat) = 2 ^ 5 - 1 from rfl, Nat.and_two_pow_sub_one_eq_mod]
  omega
theorem rot_val (x n : Nat) (hx : x < 4294967296) : bits .or .u32 ((x : Int) * 2 ^ (32 - n) % 4294967296) ((x : Int) / 2 ^ n) = ((rotr x n : Nat) : Int) := by
  have h := u32_or_nat (x * 2 ^ (32 - n) % 4294967296) (x / 2 ^ n) (Nat.mod_lt _ (by omega)) (div_lt32 n hx)
  have e1 : ((x * 2 ^ (32 - n) % 4294967296 : Nat) : Int) = (x : Int) * 2 ^ (32 - n) % 4294967296 := by simp
  have e2 : ((x / 2 ^ n : Nat) : Int) = (x : Int) / 2 ^ n := by simp
  rw [e1, e2] at h
  rw [h, Nat.or_comm]; rfl
theorem rot_val' (x n : Nat) (hx : x < 4294967296) : bits .or .u32 ((x : Int) / 2 ^ n) ((x : Int) * 2 ^ (32 - n) % 4294967296) = ((rotr x n : Nat) : Int) := by
  have h := u32_or_nat (x / 2 ^ n) (x * 2 ^ (32 - n) % 4294967296) (div_lt32 n hx) (Nat.mod_lt _ (by omega))
  have e1 : ((x * 2 ^ (32 - n) % 4294967296 : Nat) : Int) = (x : Int) * 2 ^ (32 - n) % 4294967296 := by simp
  have e2 : ((x / 2 ^ n : Nat) : Int) = (x : Int) / 2 ^ n := by simp
  rw [e1, e2] at h
  rw [h]; rfl
set_option maxRecDepth 100000 in
theorem spun_c (x n : Nat) (w : World) (hx : x < 4294967296) (h1 : 1 ≤ n) (h2 : n ≤ 31) :
    Calls Tryz.prog 178 #[.int .u32 x, .int .i64 n] w fun e w' => e = .returned (.int .u32 (rotr x n)) ∧ w = w' := by
  have e1 := spun_bits n h1 h2
  obtain ⟨k, hk⟩ : ∃ k : Nat, 32 - n = k := ⟨_, rfl⟩
  rw [hk] at e1
  have e2 : (32 : Int) - (k : Int) = (n : Int) := by omega
  have hk1 : 1 ≤ k := by omega
  have hk2 : k ≤ 31 := by omega
  have HK := Lib.hid hk
  clear hk
  go_enter Tryz.func178, Tryz.ntmps178
  go_wp2
  go_ret
  exact ⟨ret_int (by rw [← HK.out]; exact rot_val x n hx), rfl⟩
theorem xor_val {a b : Nat} (ha : a < 4294967296) (hb : b < 4294967296) : bits .xor .u32 (a : Int) (b : Int) = ((a ^^^ b : Nat) : Int) := u32_xor_nat a b ha hb
set_option maxRecDepth 100000 in
theorem bigMix_c (x a b c : Nat) (w : World) (hx : x < 4294967296) (ha : 1 ≤ a ∧ a ≤ 31) (hb : 1 ≤ b ∧ b ≤ 31) (hc : 1 ≤ c ∧ c ≤ 31) :
    Calls Tryz.prog 172 #[.int .u32 x, .int .i64 a, .int .i64 b, .int .i64 c] w fun e w' => e = .returned (.int .u32 (rotr x a ^^^ rotr x b ^^^ rotr x c : Nat)) ∧ w = w' := by
  have HA := Lib.hid (fun w => spun_c x a w hx ha.1 ha.2)
  have HB := Lib.hid (fun w => spun_c x b w hx hb.1 hb.2)
  have HC := Lib.hid (fun w => spun_c x c w hx hc.1 hc.2)
  have h1 := rotr_lt a hx
  have h2 := rotr_lt b hx
  have h3 := rotr_lt c hx
  generalize rotr x a = p at *
  generalize rotr x b = q at *
  generalize rotr x c = r at *
  have e1 := xor_val h1 h2
  have e2 := xor_val (xor_lt32 h1 h2) h3
  obtain ⟨y, hy⟩ : ∃ y, p ^^^ q = y := ⟨_, rfl⟩
  obtain ⟨z, hz⟩ : ∃ z, p ^^^ q ^^^ r = z := ⟨_, rfl⟩
  rw [hy] at e1
  rw [hz, hy] at e2
  rw [hz]
  clear hy hz
  go_enter Tryz.func172, Tryz.ntmps172
  go_wp2_with fail
  refine (HA.out _).mono ?_
  rintro e w' ⟨rfl, rfl⟩
  go_wp2_with fail
  refine (HB.out _).mono ?_
  rintro e w' ⟨rfl, rfl⟩
  go_wp2_with fail
  refine (HC.out _).mono ?_
  rintro e w' ⟨rfl, rfl⟩
  go_wp2
  go_ret
  exact ⟨rfl, rfl⟩
theorem spun_q (x n : Nat) (w : World) (hx : x < 4294967296) (h1 : 1 ≤ n) (h2 : n ≤ 31) :
    Calls Tryz.prog 178 #[.int .u32 x, .int .i64 n] w fun e w' => e = .returned (.int .u32 (rotr x n)) ∧ w' = w := (spun_c x n w hx h1 h2).mono fun _ _ ⟨he, hw⟩ => ⟨he, hw.symm⟩
set_option maxRecDepth 100000 in
set_option maxHeartbeats 400000 in
theorem smallMix_c (x a b c : Nat) (w : World) (hx : x < 4294967296) (ha : 1 ≤ a ∧ a ≤ 31) (hb : 1 ≤ b ∧ b ≤ 31) (hc : 1 ≤ c ∧ c ≤ 31) :
    Calls Tryz.prog 177 #[.int .u32 x, .int .i64 a, .int .i64 b, .int .i64 c] w fun e w' => e = .returned (.int .u32 (rotr x a ^^^ rotr x b ^^^ x / 2 ^ c : Nat)) ∧ ∃ n, w' = w.drewN n := by
  have h1 := rotr_lt a hx
  have h2 := rotr_lt b hx
  have h3 := div_lt32 c hx
  have e1 := xor_val h1 h2
  have e2 := xor_val (xor_lt32 h1 h2) h3
  have e3 : ((x / 2 ^ c : Nat) : Int) = (x : Int) / 2 ^ c := by simp
  rw [e3] at e2
  obtain ⟨y, hy⟩ : ∃ y : Nat, rotr x a ^^^ rotr x b = y := ⟨_, rfl⟩
  obtain ⟨z, hz⟩ : ∃ z : Nat, rotr x a ^^^ rotr x b ^^^ x / 2 ^ c = z := ⟨_, rfl⟩
  rw [hy] at e1
  rw [hz, hy] at e2
  rw [hz]
  clear hy hz e3
  go_enter Tryz.func177, Tryz.ntmps177
  go_wp2
  go_quiet ((go_at_call 178; exact Calls.quiet_of_same (spun_q _ _ _ hx (by omega) (by omega))))
  go_wp2
  go_ret
  exact ⟨rfl, _, rfl⟩
theorem word_val (a b c d : Nat) (ha : a < 256) (hb : b < 256) (hc : c < 256) (hd : d < 256) :
    bits .or .u32 (bits .or .u32 (bits .or .u32 ((a : Int) * 2 ^ 24) ((b : Int) * 2 ^ 16)) ((c : Int) * 2 ^ 8)) (d : Int) = ((a * 16777216 + b * 65536 + c * 256 + d : Nat) : Int) := by
  have e1 : ((a : Int) * 2 ^ 24) = ((a * 2 ^ 24 : Nat) : Int) := by simp
  have e2 : ((b : Int) * 2 ^ 16) = ((b * 2 ^ 16 : Nat) : Int) := by simp
  have e3 : ((c : Int) * 2 ^ 8) = ((c * 2 ^ 8 : Nat) : Int) := by simp
  rw [e1, e2, e3, u32_or_nat _ _ (by omega) (by omega)]
  have g1 : a * 2 ^ 24 ||| b * 2 ^ 16 = a * 2 ^ 24 + b * 2 ^ 16 := by rw [Nat.mul_comm, ← Nat.two_pow_add_eq_or_of_lt (by omega)]
  rw [g1, u32_or_nat _ _ (by omega) (by omega)]
  have g2 : a * 2 ^ 24 + b * 2 ^ 16 ||| c * 2 ^ 8 = a * 2 ^ 24 + b * 2 ^ 16 + c * 2 ^ 8 := by
    rw [show a * 2 ^ 24 + b * 2 ^ 16 = 2 ^ 16 * (a * 256 + b) from by omega, ← Nat.two_pow_add_eq_or_of_lt (by omega)]
  rw [g2, u32_or_nat _ _ (by omega) (by omega)]
  have g3 : a * 2 ^ 24 + b * 2 ^ 16 + c * 2 ^ 8 ||| d = a * 2 ^ 24 + b * 2 ^ 16 + c * 2 ^ 8 + d := by
    rw [show a * 2 ^ 24 + b * 2 ^ 16 + c * 2 ^ 8 = 2 ^ 8 * (a * 65536 + b * 256 + c) from by omega, ← Nat.two_pow_add_eq_or_of_lt (by omega)]
  rw [g3]
set_option maxRecDepth 100000 in
set_option maxHeartbeats 400000 in
theorem word_c (s : ByteArray) (i : Nat) (w : World) (hi : 4 * i + 4 ≤ s.size) (hs : s.size ≤ 100000) :
    Calls Tryz.prog 170 #[.string s, .int .i64 i] w fun e w' => e = .returned (.int .u32 (wordAt s i)) ∧ ∃ n, w' = w.drewN n := by
  obtain ⟨E, hE, hEz, HV⟩ : ∃ E : ByteArray, s.extract (4 * i) (4 * i + 4) = E ∧ ∃ hEz : E.size = 4, Hid (wordAt s i = E[0].toNat * 16777216 + E[1].toNat * 65536 + E[2].toNat * 256 + E[3].toNat) := by
    have hz : (s.extract (4 * i) (4 * i + 4)).size = 4 := by rw [size_cut _ _ _ hi]; omega
    refine ⟨_, rfl, hz, Lib.hid ?_⟩
    have hg : ∀ j (hj : j < (s.extract (4 * i) (4 * i + 4)).size), (s.extract (4 * i) (4 * i + 4))[j] = s.data.toList.getD (4 * i + j) 0 := by
      intro j hj
      have h3 := byte_at (s.extract (4 * i) (4 * i + 4)) j hj
      rw [toList_cut, List.getElem?_drop, List.getElem?_take_of_lt (by omega)] at h3
      rw [List.getD_eq_getElem?_getD, h3]; rfl
    rw [hg 0, hg 1, hg 2, hg 3]; rfl
  have h0E : 0 < E.size := by omega
  have h1E : 1 < E.size := by omega
  have h2E : 2 < E.size := by omega
  have h3E : 3 < E.size := by omega
  have b0 := E[0].toNat_lt
  have b1 := E[1].toNat_lt
  have b2 := E[2].toNat_lt
  have b3 := E[3].toNat_lt
  have HW := Lib.hid (word_val E[0].toNat E[1].toNat E[2].toNat E[3].toNat b0 b1 b2 b3)
  have f0 : IntKind.u32.wrap ((E[0].toNat : Nat) : Int) = ((E[0].toNat : Nat) : Int) := IntWalk.u32_in _ (by omega)
  have f1 : IntKind.u32.wrap ((E[1].toNat : Nat) : Int) = ((E[1].toNat : Nat) : Int) := IntWalk.u32_in _ (by omega)
  have f2 : IntKind.u32.wrap ((E[2].toNat : Nat) : Int) = ((E[2].toNat : Nat) : Int) := IntWalk.u32_in _ (by omega)
  have f3 : IntKind.u32.wrap ((E[3].toNat : Nat) : Int) = ((E[3].toNat : Nat) : Int) := IntWalk.u32_in _ (by omega)
  have k0 : IntKind.u32.wrap (((E[0].toNat : Nat) : Int) * 2 ^ 24) = ((E[0].toNat : Nat) : Int) * 2 ^ 24 := IntWalk.u32_in _ (by omega)
  have k1 : IntKind.u32.wrap (((E[1].toNat : Nat) : Int) * 2 ^ 16) = ((E[1].toNat : Nat) : Int) * 2 ^ 16 := IntWalk.u32_in _ (by omega)
  have k2 : IntKind.u32.wrap (((E[2].toNat : Nat) : Int) * 2 ^ 8) = ((E[2].toNat : Nat) : Int) * 2 ^ 8 := IntWalk.u32_in _ (by omega)
  go_enter Tryz.func170, Tryz.ntmps170
  go_wp2
  go_quiet (fail)
  go_wp2
  go_ret
  refine ⟨ret_int ?_, _, rfl⟩
  have h := HW.out
  rw [show (2 : Int) ^ 24 = 16777216 from rfl, show (2 : Int) ^ 16 = 65536 from rfl, show (2 : Int) ^ 8 = 256 from rfl] at h
  rw [HV.out]
  exact h
theorem or_val {a b : Nat} (ha : a < 4294967296) (hb : b < 4294967296) : bits .or .u32 (a : Int) (b : Int) = ((a ||| b : Nat) : Int) := u32_or_nat a b ha hb
theorem and_val {a b : Nat} (ha : a < 4294967296) (hb : b < 4294967296) : bits .and .u32 (a : Int) (b : Int) = ((a &&& b : Nat) : Int) := u32_and_nat a b ha hb
set_option maxRecDepth 100000 in
theorem refSpin_c (x n : Nat) (w : World) (hx : x < 4294967296) (h1 : 1 ≤ n) (h2 : n ≤ 31) :
    Calls Tryz.prog 159 #[.int .u32 x, .int .u64 n] w fun e w' => e = .returned (.int .u32 (rotr x n)) ∧ w = w' := by
  obtain ⟨k, hk⟩ : ∃ k : Nat, 32 - n = k := ⟨_, rfl⟩
  have e2 : (32 : Int) - (n : Int) = (k : Int) := by omega
  have hk1 : 1 ≤ k := by omega
  have hk2 : k ≤ 31 := by omega
  have HK := Lib.hid hk
  clear hk
  go_enter Tryz.func159, Tryz.ntmps159
  go_wp2
  go_ret
  exact ⟨ret_int (by rw [← HK.out]; exact rot_val' x n hx), rfl⟩
set_option maxRecDepth 100000 in
theorem refChoice_c (e f g : Nat) (w : World) (he : e < 4294967296) (hf : f < 4294967296) (hg : g < 4294967296) :
    Calls Tryz.prog 160 #[.int .u32 e, .int .u32 f, .int .u32 g] w fun e' w' => e' = .returned (.int .u32 (shCh e f g)) ∧ w = w' := by
  have HV : Hid (bits .or .u32 (bits .and .u32 (e : Int) (f : Int)) (bits .and .u32 (bits .xor .u32 (e : Int) 4294967295) (g : Int)) = ((shCh e f g : Nat) : Int)) := Lib.hid (by
    have h1 := xor_val he (show 4294967295 < 4294967296 by omega)
    have e1 : ((4294967295 : Nat) : Int) = 4294967295 := rfl
    rw [e1] at h1
    rw [and_val he hf, h1, and_val (xor_lt32 he (by omega)) hg, or_val (and_lt32 he) (and_lt32 (xor_lt32 he (by omega)))]
    rfl)
  go_enter Tryz.func160, Tryz.ntmps160
  go_wp2
  go_ret
  exact ⟨ret_int HV.out, rfl⟩
set_option maxRecDepth 100000 in
theorem refVote_c (a b c : Nat) (w : World) (ha : a < 4294967296) (hb : b < 4294967296) (hc : c < 4294967296) :
    Calls Tryz.prog 161 #[.int .u32 a, .int .u32 b, .int .u32 c] w fun e' w' => e' = .returned (.int .u32 (shMaj a b c)) ∧ w = w' := by
  have HV : Hid (bits .or .u32 (bits .or .u32 (bits .and .u32 (a : Int) (b : Int)) (bits .and .u32 (a : Int) (c : Int))) (bits .and .u32 (b : Int) (c : Int)) = ((shMaj a b c : Nat) : Int)) := Lib.hid (by
    rw [and_val ha hb, and_val ha hc, and_val hb hc, or_val (and_lt32 ha) (and_lt32 ha), or_val (or_lt32 (and_lt32 ha) (and_lt32 ha)) (and_lt32 hb)]
    rfl)
  go_enter Tryz.func161, Tryz.ntmps161
  go_wp2
  go_ret
  exact ⟨ret_int HV.out, rfl⟩
end Go.Proofs.YtebllmpdlapefaaGreatDoor
namespace Go.Proofs.YtebllmpdlapefaaGreatDoor
set_option linter.unusedVariables false
set_option linter.unusedSimpArgs false
open Go.RowKit

def sixtyB : ByteArray := ⟨#[66, 138, 47, 152, 113, 55, 68, 145, 181, 192, 251, 207, 233, 181, 219, 165, 57, 86, 194, 91, 89, 241, 17, 241, 146, 63, 130, 164, 171, 28, 94, 213, 216, 7, 170, 152, 18, 131, 91, 1, 36, 49, 133, 190, 85, 12, 125, 195, 114, 190, 93, 116, 128, 222, 177, 254, 155, 220, 6, 167, 193, 155, 241, 116, 228, 155, 105, 193, 239, 190, 71, 134, 15, 193, 157, 198, 36, 12, 161, 204, 45, 233, 44, 111, 74, 116, 132, 170, 92, 176, 169, 220, 118, 249, 136, 218, 152, 62, 81, 82, 168, 49, 198, 109, 176, 3, 39, 200, 191, 89, 127, 199, 198, 224, 11, 243, 213, 167, 145, 71, 6, 202, 99, 81, 20, 41, 41, 103, 39, 183, 10, 133, 46, 27, 33, 56, 77, 44, 109, 252, 83, 56, 13, 19, 101, 10, 115, 84, 118, 106, 10, 187, 129, 194, 201, 46, 146, 114, 44, 133, 162, 191, 232, 161, 168, 26, 102, 75, 194, 75, 139, 112, 199, 108, 81, 163, 209, 146, 232, 25, 214, 153, 6, 36, 244, 14, 53, 133, 16, 106, 160, 112, 25, 164, 193, 22, 30, 55, 108, 8, 39, 72, 119, 76, 52, 176, 188, 181, 57, 28, 12, 179, 78, 216, 170, 74, 91, 156, 202, 79, 104, 46, 111, 243, 116, 143, 130, 238, 120, 165, 99, 111, 132, 200, 120, 20, 140, 199, 2, 8, 144, 190, 255, 250, 164, 80, 108, 235, 190, 249, 163, 247, 198, 113, 120, 242]⟩
theorem sixty_all : ((List.range 64).all fun i => wordAt sixtyB i == shKlit.getD i 0) = true := by decide +kernel
theorem sixty_word (i : Nat) (h : i < 64) : wordAt ⟨#[66, 138, 47, 152, 113, 55, 68, 145, 181, 192, 251, 207, 233, 181, 219, 165, 57, 86, 194, 91, 89, 241, 17, 241, 146, 63, 130, 164, 171, 28, 94, 213, 216, 7, 170, 152, 18, 131, 91, 1, 36, 49, 133, 190, 85, 12, 125, 195, 114, 190, 93, 116, 128, 222, 177, 254, 155, 220, 6, 167, 193, 155, 241, 116, 228, 155, 105, 193, 239, 190, 71, 134, 15, 193, 157, 198, 36, 12, 161, 204, 45, 233, 44, 111, 74, 116, 132, 170, 92, 176, 169, 220, 118, 249, 136, 218, 152, 62, 81, 82, 168, 49, 198, 109, 176, 3, 39, 200, 191, 89, 127, 199, 198, 224, 11, 243, 213, 167, 145, 71, 6, 202, 99, 81, 20, 41, 41, 103, 39, 183, 10, 133, 46, 27, 33, 56, 77, 44, 109, 252, 83, 56, 13, 19, 101, 10, 115, 84, 118, 106, 10, 187, 129, 194, 201, 46, 146, 114, 44, 133, 162, 191, 232, 161, 168, 26, 102, 75, 194, 75, 139, 112, 199, 108, 81, 163, 209, 146, 232, 25, 214, 153, 6, 36, 244, 14, 53, 133, 16, 106, 160, 112, 25, 164, 193, 22, 30, 55, 108, 8, 39, 72, 119, 76, 52, 176, 188, 181, 57, 28, 12, 179, 78, 216, 170, 74, 91, 156, 202, 79, 104, 46, 111, 243, 116, 143, 130, 238, 120, 165, 99, 111, 132, 200, 120, 20, 140, 199, 2, 8, 144, 190, 255, 250, 164, 80, 108, 235, 190, 249, 163, 247, 198, 113, 120, 242]⟩ i = shK.getD i 0 := by
  have := List.all_eq_true.1 sixty_all i (List.mem_range.2 h)
  rw [shK_lit]
  exact beq_iff_eq.1 this
theorem shK_lt (i : Nat) : shK.getD i 0 < 4294967296 := by
  rw [shK_lit]
  by_cases h : i < 64
  · rw [← shK_lit, ← sixty_word i h]; exact wordAt_lt _ _
  · rw [List.getD_eq_getElem?_getD, List.getElem?_eq_none (by simp [shKlit]; omega)]; simp
set_option maxRecDepth 100000 in
set_option maxHeartbeats 400000 in
theorem mix1_c (i : Nat) (w : World) (h : i < 64) : Calls Tryz.prog 169 #[.int .i64 i] w fun e w' => e = .returned (.int .u32 (shK.getD i 0 : Nat)) ∧ ∃ n, w' = w.drewN n := by
  have HS := Lib.hid (sixty_word i h)
  generalize hK : shK.getD i 0 = K at *
  go_enter Tryz.func169, Tryz.ntmps169
  go_wp2_with fail
  refine (word_c _ i _ (by simp [ByteArray.size]; omega) (by simp [ByteArray.size])).mono ?_
  rintro e w' ⟨rfl, n, rfl⟩
  rw [HS.out]
  go_wp2
  go_ret
  exact ⟨rfl, _, rfl⟩
end Go.Proofs.YtebllmpdlapefaaGreatDoor
