/- bits.Len64 and leb.Size. -/
import Derived.Test.YtnfpgadegpmhkaaGreatDoorProg
import Derived.Test.YtnfpgadegpmhkaaGreatDoorKA1
import Derived.WalkSpells
import Derived.Shelf.Strconv.Itoa0
import Derived.Test.YtnfpgadegpmhkaaGreatDoorKA12
import Derived.Test.YtnfpgadegpmhkaaGreatDoorKA20
import Derived.Test.YtnfpgadegpmhkaaGreatDoorKA6
set_option linter.unusedVariables false
set_option linter.unusedSimpArgs false
set_option maxRecDepth 100000
set_option maxHeartbeats 400000
namespace Go.Proofs.YtnfpgadegpmhkaaGreatDoor
open Go.RowKit
def blF : Nat → Nat → Nat
 | 0, _ => 0
 | f + 1, n => if n = 0 then 0 else blF f (n / 2) + 1
def bl (n : Nat) : Nat := blF 64 n
theorem blF_zero (f : Nat) : blF f 0 = 0 := by cases f <;> simp [blF]
theorem blF_more (f g n : Nat) (hf : n < 2 ^ f) (hg : n < 2 ^ g) : blF f n = blF g n := by
 induction f generalizing g n with
 | zero => simp at hf; subst hf; rw [blF_zero, blF_zero]
 | succ f ih =>
  by_cases h0 : n = 0
  ·subst h0; rw [blF_zero, blF_zero]
  ·cases g with
   | zero => simp at hg; omega
   | succ g => simp only [blF, if_neg h0]; rw [ih g (n / 2) (by rw [Nat.pow_succ] at hf; omega) (by rw [Nat.pow_succ] at hg; omega)]
theorem bl_le (k n : Nat) (h : n < 2 ^ k) (hk : k ≤ 64) : bl n ≤ k := by
 unfold bl
 have h64 : n < 2 ^ 64 := Nat.lt_of_lt_of_le h (Nat.pow_le_pow_right (by omega) hk)
 rw [blF_more 64 k n h64 h]
 clear h64 h hk
 induction k generalizing n with
 | zero => simp [blF]
 | succ k ih => simp only [blF]; split; omega; have := ih (n / 2); omega
def lenRen : Go.Shelf.Ren := ⟨fun x => if x = 129 then 144 else x, fun x => if x = 3 then 3 else if x = 4 then 4 else if x = 5 then 5 else if x = 9 then 9 else if x = 46 then 204 else if x = 53 then 38 else x, fun x => x⟩
theorem lays129 : Go.Proofs.Lays.n129 Tryz.prog lenRen where
 mixed := by kernel_rfl
 f129 := by kernel_rfl
 t3 := by kernel_rfl
 a3 := fun _ => by kernel_rfl
 z3 := fun _ => by kernel_rfl
 v3 := fun _ => by kernel_rfl
 t4 := by kernel_rfl
 a4 := fun _ => by kernel_rfl
 z4 := fun _ => by kernel_rfl
 v4 := fun _ => by kernel_rfl
 t5 := by kernel_rfl
 a5 := fun _ => by kernel_rfl
 z5 := fun _ => by kernel_rfl
 v5 := fun _ => by kernel_rfl
 t9 := by kernel_rfl
 a9 := fun _ => by kernel_rfl
 z9 := fun _ => by kernel_rfl
 v9 := fun _ => by kernel_rfl
 t46 := by kernel_rfl
 a46 := fun _ => by kernel_rfl
 z46 := fun _ => by kernel_rfl
 v46 := fun _ => by kernel_rfl
 t53 := by kernel_rfl
 a53 := fun _ => by kernel_rfl
 z53 := fun _ => by kernel_rfl
 v53 := fun _ => by kernel_rfl
theorem bitLen_eq (n : Nat) : Lib.bitLen n = bl n := by
 unfold Lib.bitLen bl
 have h : ∀ f n, Lib.bitLenAux f n = blF f n := by
  intro f
  induction f with
  | zero => intro n; rfl
  | succ f ih => intro n; simp only [Lib.bitLenAux, blF, ih]; split <;> omega
 exact h 64 n
theorem len64_c (n : Nat) (w : World) (hn : n < 18446744073709551616) :
 Calls Tryz.prog 144 #[.int .u64 n] w fun e w' => e = .returned (.int .i64 (bl n)) ∧ w = w' := by
 have h : Calls Tryz.prog 144 #[.int .u64 n] w fun e w' => e = .returned (.int .i64 (Lib.bitLen (n : Int).toNat)) ∧ w' = w := Any.bits_Len64 lays129 n w (by omega) (by omega)
 exact h.mono fun e w' ⟨he, hw⟩ => ⟨by rw [he, Int.toNat_natCast, bitLen_eq], hw.symm⟩
theorem blF_is : ∀ (f n : Nat), n < 2 ^ f → n < 2 ^ blF f n ∧ (0 < n → 2 ^ (blF f n - 1) ≤ n)
 | 0, n, h => by
  have : n = 0 := by simpa using h
  subst this
  simp [blF]
 | f + 1, n, h => by
  by_cases h0 : n = 0
  ·subst h0; simp [blF]
  ·have hh : n / 2 < 2 ^ f := by rw [Nat.pow_succ] at h; omega
   obtain ⟨h1, h2⟩ := blF_is f (n / 2) hh
   simp only [blF, if_neg h0, Nat.add_sub_cancel]
   refine ⟨by rw [Nat.pow_succ]; omega, fun _ => ?_⟩
   by_cases hz : n / 2 = 0
   ·rw [hz, blF_zero]; simp; omega
   ·have h3 := h2 (by omega)
    obtain ⟨b, hb⟩ : ∃ b, blF f (n / 2) = b + 1 := by
     cases hb : blF f (n / 2) with
     | zero => rw [hb] at h1; simp at h1; omega
     | succ b => exact ⟨b, rfl⟩
    rw [hb] at h3 ⊢
    simp only [Nat.add_sub_cancel] at h3
    rw [Nat.pow_succ]; omega
theorem minL_ge : ∀ (j n : Nat), 2 ^ (8 * j) ≤ n → j + 1 ≤ (minL n).length
 | 0, n, h => by
  rw [minL_pos (n := n) (by simp at h; omega)]; simp
 | j + 1, n, h => by
  rw [pow8] at h
  have hp : 0 < 2 ^ (8 * j) := Nat.pow_pos (by omega)
  have := minL_ge j (n / 256) (by omega)
  rw [minL_pos (n := n) (by omega)]
  simp; omega
theorem least_eq (n : Nat) (h : n < 18446744073709551616) : (leD n ((bl n + 7) / 8)).reverse = minL n ∧ (bl n + 7) / 8 ≤ 8 := by
 by_cases hn0 : n = 0
 ·subst hn0
  rw [show bl 0 = 0 from blF_zero 64, minL_zero]
  exact ⟨rfl, by omega⟩
 obtain ⟨h1, h2⟩ := blF_is 64 n (by simpa using h)
 have hb := bl_le 64 n (by simpa using h) (by omega)
 change n < 2 ^ bl n at h1
 change 0 < n → 2 ^ (bl n - 1) ≤ n at h2
 generalize bl n = b at *
 have hk : n < 2 ^ (8 * ((b + 7) / 8)) := Nat.lt_of_lt_of_le h1 (Nat.pow_le_pow_right (by omega) (by omega))
 have hp := least_pad _ n hk
 refine ⟨?_, by omega⟩
 rw [← hp]
 have hlen : (b + 7) / 8 ≤ (minL n).length := by
  obtain ⟨k, hk2⟩ : ∃ k, (b + 7) / 8 = k + 1 := by
   refine ⟨(b + 7) / 8 - 1, ?_⟩
   have : 0 < b := by
    rcases Nat.eq_zero_or_pos b with e | e
    ·subst e; simp at h1; omega
    ·exact e
   omega
  rw [hk2]
  refine minL_ge k n (Nat.le_trans (Nat.pow_le_pow_right (by omega) ?_) (h2 (by omega)))
  omega
 rw [show (b + 7) / 8 - (minL n).length = 0 from by omega]
 rfl
theorem least_c (n : Nat) (w : World) (hn : n < 18446744073709551616) :
 Calls Tryz.prog 104 #[.int .u64 n] w fun e w' => e = .returned (.string ⟨(minL n).toArray⟩) ∧ Below w.heap.size w w' := by
 obtain ⟨hq, hk⟩ := least_eq n hn
 have HL := Lib.hid (len64_c n w hn)
 obtain ⟨k, hkk⟩ : ∃ k, (bl n + 7) / 8 = k := ⟨_, rfl⟩
 rw [hkk] at hq hk
 have HD := Lib.hid (fun w => digits_c n k w hn hk)
 have HQ := Lib.hid hq
 have HK : Hid ((((bl n : Nat) : Int) + 7) / 8 = (k : Int)) := Lib.hid (by omega)
 have HK2 : Hid (Int.tdiv (((bl n : Nat) : Int) + 7) 8 = (k : Int)) := Lib.hid (by rw [Int.tdiv_eq_ediv_of_nonneg (by omega)]; omega)
 have hb := bl_le 64 n (by simpa using hn) (by omega)
 generalize bl n = b at *
 clear hq hkk
 go_enter Tryz.func104, Tryz.ntmps104
 go_wp2_with fail
 refine HL.out.mono ?_
 rintro e w' ⟨rfl, rfl⟩
 go_wp2_with fail
 first | rw [HK.out] | rw [HK2.out]
 refine (HD.out _).mono ?_
 rintro e w1 ⟨rfl, hbuf, hkept⟩
 have hlen := leD_length n k
 have HT := Lib.hid (turnedB_c w.heap.size w.heap.size k (leD n k) w1 (by rw [hlen]; exact hbuf) (by rw [hlen]; omega))
 rw [hlen, HQ.out] at HT
 have HB := Lib.hid hkept.below
 have HKP := Lib.hid hkept
 clear hbuf hkept hlen
 go_wp2_with fail
 refine HT.out.mono ?_
 rintro e w2 ⟨rfl, hk2⟩
 go_wp2
 go_ret
 exact ⟨rfl, (HKP.out.trans hk2).below⟩
theorem number_c (n : Nat) (w : World) (hn : n < 18446744073709551616) :
 Calls Tryz.prog 157 #[.int .u64 n] w fun e w' => e = .returned (.agg #[.string ⟨(minL n).toArray⟩, .bool false, .slice none 0 0]) ∧ Below w.heap.size w w' := by
 have HL := Lib.hid (fun w => least_c n w hn)
 generalize (⟨(minL n).toArray⟩ : ByteArray) = T at *
 go_enter Tryz.func157, Tryz.ntmps157
 go_wp2_with fail
 refine (HL.out _).mono ?_
 rintro e w1 ⟨rfl, hb1⟩
 have hz1 := hb1.size
 simp only [World.size_alloc] at hz1
 have hlw : w.heap.size < w1.heap.size := by omega
 have HB1 : Hid (Below w.heap.size w w1) := Lib.hid (((Below.refl w.heap.size w).alloc (Nat.le_refl _) _).trans (hb1.mono (by simp)))
 have HK1 := Lib.hid ((Blk.new w 28 #[.string ⟨#[]⟩, .bool false, .slice none 0 0]).keep hb1 (by simp))
 clear hb1
 go_wp2_with fail
 refine (text_c T w1).mono ?_
 rintro e w2 ⟨rfl, hb2⟩
 have hz2 := hb2.size
 have HB2 : Hid (Below w.heap.size w w2) := Lib.hid (HB1.out.trans (hb2.mono (by omega)))
 obtain ⟨r0, r1, r2, rf0, rf1, rf2⟩ := blk3 (HK1.out.keep hb2 (by omega))
 clear hb2
 go_wp2
 refine bodyPost_ret (v := .agg #[.string T, .bool false, .slice none 0 0]) (by simp [results, Tryz.results157, go_sem, r0, r1, r2]) rfl ⟨rfl, ?_⟩
 exact ((HB2.out.setCell (by simp) _).setCell (by simp) _).setCell (by simp) _
end Go.Proofs.YtnfpgadegpmhkaaGreatDoor
