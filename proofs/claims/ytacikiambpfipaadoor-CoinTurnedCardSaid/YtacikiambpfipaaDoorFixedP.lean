/- Numbers out of bytes: the plain functions and their laws. No program in sight. -/
import Derived.Test.YtacikiambpfipaaDoorBytesP
namespace Go.Proofs.YtacikiambpfipaaDoor
set_option linter.unusedVariables false
set_option linter.unusedSimpArgs false

/-- The number whose bytes these are, the lowest first. -/
def leL : List UInt8 → Nat
  | [] => 0
  | b :: t => b.toNat + 256 * leL t
theorem leL_lt (l : List UInt8) : leL l < 2 ^ (8 * l.length) := by
  induction l with
  | nil => simp [leL]
  | cons b t ih =>
    have := b.toNat_lt
    rw [List.length_cons, show 8 * (t.length + 1) = 8 + 8 * t.length from by omega, Nat.pow_add]
    simp only [leL]
    omega
theorem leL_append (l t : List UInt8) : leL (l ++ t) = leL l + 2 ^ (8 * l.length) * leL t := by
  induction l with
  | nil => simp [leL]
  | cons b r ih =>
    rw [List.cons_append, leL, leL, ih, List.length_cons, show 8 * (r.length + 1) = 8 + 8 * r.length from by omega, Nat.pow_add, Nat.mul_add, Nat.mul_assoc]
    omega
theorem leL_snoc (l : List UInt8) (b : UInt8) : leL (l ++ [b]) = leL l + b.toNat * 2 ^ (8 * l.length) := by
  rw [leL_append]; simp [leL, Nat.mul_comm]
/-- The number whose bytes these are, the highest first. -/
def beL (l : List UInt8) : Nat := leL l.reverse
theorem beL_snoc (l : List UInt8) (b : UInt8) : beL (l ++ [b]) = 256 * beL l + b.toNat := by
  simp [beL, leL]; omega
theorem beL_lt (l : List UInt8) : beL l < 2 ^ (8 * l.length) := by
  have := leL_lt l.reverse; simpa [beL] using this

theorem le_or (n b i : Nat) (hn : n < 2 ^ (8 * i)) : n ||| b * 2 ^ (8 * i) = n + b * 2 ^ (8 * i) := by
  rw [Nat.or_comm, Nat.mul_comm, ← Nat.two_pow_add_eq_or_of_lt hn]; omega
theorem le_pow (i : Nat) (hi : i ≤ 8) : 2 ^ (8 * i) ≤ 18446744073709551616 := by
  have : 2 ^ (8 * i) ≤ 2 ^ 64 := Nat.pow_le_pow_right (by omega) (by omega)
  simpa using this
theorem le_step (n b i : Nat) (hb : b < 256) (hn : n < 2 ^ (8 * i)) : n + b * 2 ^ (8 * i) < 2 ^ (8 * (i + 1)) := by
  have h2 : 2 ^ (8 * (i + 1)) = 256 * 2 ^ (8 * i) := by rw [show 8 * (i + 1) = 8 + 8 * i from by omega, Nat.pow_add]
  have h3 : b * 2 ^ (8 * i) ≤ 255 * 2 ^ (8 * i) := Nat.mul_le_mul_right _ (by omega)
  omega
end Go.Proofs.YtacikiambpfipaaDoor
