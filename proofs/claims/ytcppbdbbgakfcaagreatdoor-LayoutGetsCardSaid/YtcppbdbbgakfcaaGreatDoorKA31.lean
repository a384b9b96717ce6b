/- bits.Len64 and leb.Size. -/
import Derived.Test.YtcppbdbbgakfcaaGreatDoorProg
import Derived.Test.YtcppbdbbgakfcaaGreatDoorKA1
import Derived.WalkSpells
import Derived.Shelf.Strconv.Itoa0
set_option linter.unusedVariables false
set_option linter.unusedSimpArgs false
namespace Go.Proofs.YtcppbdbbgakfcaaGreatDoor
open Go.RowKit
def blF : Nat → Nat → Nat
 | 0, _ => 0
 | f + 1, n => if n = 0 then 0 else blF f (n / 2) + 1
def bl (n : Nat) : Nat := blF 64 n
theorem blF_zero (f : Nat) : blF f 0 = 0 := by cases f <;> simp [blF]
theorem blF_more (f g n : Nat) (hf : n < 2 ^ f) (hg : n < 2 ^ g) : blF f n = blF g n := by
 induction f generalizing g n with
 | zero => simp at hf; subst hf; rw [blF_zero, blF_zero]
 | succ f ih =>
  by_cases h0 : n = 0
  ·subst h0; rw [blF_zero, blF_zero]
  ·cases g with
   | zero => simp at hg; omega
   | succ g => simp only [blF, if_neg h0]; rw [ih g (n / 2) (by rw [Nat.pow_succ] at hf; omega) (by rw [Nat.pow_succ] at hg; omega)]
theorem bl_le (k n : Nat) (h : n < 2 ^ k) (hk : k ≤ 64) : bl n ≤ k := by
 unfold bl
 have h64 : n < 2 ^ 64 := Nat.lt_of_lt_of_le h (Nat.pow_le_pow_right (by omega) hk)
 rw [blF_more 64 k n h64 h]
 clear h64 h hk
 induction k generalizing n with
 | zero => simp [blF]
 | succ k ih => simp only [blF]; split; omega; have := ih (n / 2); omega
def lenRen : Go.Shelf.Ren := ⟨fun x => if x = 129 then 111 else x, fun x => if x = 3 then 3 else if x = 4 then 4 else if x = 5 then 5 else if x = 9 then 9 else if x = 46 then 125 else if x = 53 then 56 else x, fun x => x⟩
theorem lays129 : Go.Proofs.Lays.n129 Tryz.prog lenRen where
 mixed := by kernel_rfl
 f129 := by kernel_rfl
 t3 := by kernel_rfl
 a3 := fun _ => by kernel_rfl
 z3 := fun _ => by kernel_rfl
 v3 := fun _ => by kernel_rfl
 t4 := by kernel_rfl
 a4 := fun _ => by kernel_rfl
 z4 := fun _ => by kernel_rfl
 v4 := fun _ => by kernel_rfl
 t5 := by kernel_rfl
 a5 := fun _ => by kernel_rfl
 z5 := fun _ => by kernel_rfl
 v5 := fun _ => by kernel_rfl
 t9 := by kernel_rfl
 a9 := fun _ => by kernel_rfl
 z9 := fun _ => by kernel_rfl
 v9 := fun _ => by kernel_rfl
 t46 := by kernel_rfl
 a46 := fun _ => by kernel_rfl
 z46 := fun _ => by kernel_rfl
 v46 := fun _ => by kernel_rfl
 t53 := by kernel_rfl
 a53 := fun _ => by kernel_rfl
 z53 := fun _ => by kernel_rfl
 v53 := fun _ => by kernel_rfl
theorem bitLen_eq (n : Nat) : Lib.bitLen n = bl n := by
 unfold Lib.bitLen bl
 have h : ∀ f n, Lib.bitLenAux f n = blF f n := by
  intro f
  induction f with
  | zero => intro n; rfl
  | succ f ih => intro n; simp only [Lib.bitLenAux, blF, ih]; split <;> omega
 exact h 64 n
theorem len64_c (n : Nat) (w : World) (hn : n < 18446744073709551616) :
 Calls Tryz.prog 111 #[.int .u64 n] w fun e w' => e = .returned (.int .i64 (bl n)) ∧ w = w' := by
 have h : Calls Tryz.prog 111 #[.int .u64 n] w fun e w' => e = .returned (.int .i64 (Lib.bitLen (n : Int).toNat)) ∧ w' = w := Any.bits_Len64 lays129 n w (by omega) (by omega)
 exact h.mono fun e w' ⟨he, hw⟩ => ⟨by rw [he, Int.toNat_natCast, bitLen_eq], hw.symm⟩
end Go.Proofs.YtcppbdbbgakfcaaGreatDoor
