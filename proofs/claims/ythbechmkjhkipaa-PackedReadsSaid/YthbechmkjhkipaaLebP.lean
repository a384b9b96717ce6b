/- The number with which bytes begin, seven bits a byte: the plain function, and its laws. No program in sight. -/
import Derived.Below
namespace Go.Proofs.Ythbechmkjhkipaa
set_option linter.unusedVariables false
set_option linter.unusedSimpArgs false

/-- From byte i on, n so far: the number, how many bytes it has, the error. -/
def lebGo (s : ByteArray) : Nat → Nat → Nat → Nat × Nat × Int
  | 0, _, _ => (0, 0, 2)
  | f + 1, i, n => if h : i < s.size then
      if (i = 9 ∧ 1 < s[i].toNat) ∨ (0 < i ∧ s[i].toNat = 0) then (0, 0, 3)
      else if s[i].toNat < 128 then (n + s[i].toNat % 128 * 2 ^ (7 * i), i + 1, 0)
      else lebGo s f (i + 1) (n + s[i].toNat % 128 * 2 ^ (7 * i))
    else (0, 0, 2)
def lebNext (s : ByteArray) : Nat × Nat × Int := lebGo s 10 0 0

theorem lebGo_end (s : ByteArray) (f i n : Nat) (h : ¬ i < s.size) : lebGo s f i n = (0, 0, 2) := by
  cases f <;> simp [lebGo, h]
theorem lebGo_bad (s : ByteArray) (f i n : Nat) (h : i < s.size) (hb : (i = 9 ∧ 1 < s[i].toNat) ∨ (0 < i ∧ s[i].toNat = 0)) : lebGo s (f + 1) i n = (0, 0, 3) := by
  rw [lebGo, dif_pos h, if_pos hb]
theorem lebGo_last (s : ByteArray) (f i n : Nat) (h : i < s.size) (hb : ¬ ((i = 9 ∧ 1 < s[i].toNat) ∨ (0 < i ∧ s[i].toNat = 0))) (hl : s[i].toNat < 128) :
    lebGo s (f + 1) i n = (n + s[i].toNat % 128 * 2 ^ (7 * i), i + 1, 0) := by
  rw [lebGo, dif_pos h, if_neg hb, if_pos hl]
theorem lebGo_more (s : ByteArray) (f i n : Nat) (h : i < s.size) (hb : ¬ ((i = 9 ∧ 1 < s[i].toNat) ∨ (0 < i ∧ s[i].toNat = 0))) (hl : ¬ s[i].toNat < 128) :
    lebGo s (f + 1) i n = lebGo s f (i + 1) (n + s[i].toNat % 128 * 2 ^ (7 * i)) := by
  rw [lebGo, dif_pos h, if_neg hb, if_neg hl]

/-- What is added keeps below the next power. -/
theorem leb_step (n b i : Nat) (hn : n < 2 ^ (7 * i)) : n + b % 128 * 2 ^ (7 * i) < 2 ^ (7 * (i + 1)) := by
  have h1 : b % 128 ≤ 127 := by omega
  have h2 : 2 ^ (7 * (i + 1)) = 128 * 2 ^ (7 * i) := by rw [show 7 * (i + 1) = 7 + 7 * i from by omega, Nat.pow_add]
  have h3 : b % 128 * 2 ^ (7 * i) ≤ 127 * 2 ^ (7 * i) := Nat.mul_le_mul_right _ h1
  omega
theorem leb_pow (i : Nat) (hi : i ≤ 9) : 2 ^ (7 * i) ≤ 9223372036854775808 := by
  have : 2 ^ (7 * i) ≤ 2 ^ 63 := Nat.pow_le_pow_right (by omega) (by omega)
  simpa using this
theorem leb_last (n b i : Nat) (hi : i ≤ 9) (hn : n < 2 ^ (7 * i)) (hb : ¬ ((i = 9 ∧ 1 < b) ∨ (0 < i ∧ b = 0))) : n + b % 128 * 2 ^ (7 * i) < 18446744073709551616 := by
  rcases Nat.lt_or_ge i 9 with h | h
  · have h1 := leb_step n b i hn
    have h2 := leb_pow (i + 1) (by omega)
    omega
  · obtain rfl : i = 9 := by omega
    have h2 : b % 128 ≤ 1 := by omega
    have h3 : b % 128 * 2 ^ (7 * 9) ≤ 1 * 2 ^ (7 * 9) := Nat.mul_le_mul_right _ h2
    omega
/-- The or of what stands so far and of the shifted digit is their sum. -/
theorem leb_or (n b i : Nat) (hn : n < 2 ^ (7 * i)) : n ||| (b % 128) * 2 ^ (7 * i) = n + b % 128 * 2 ^ (7 * i) := by
  rw [Nat.or_comm, Nat.mul_comm, ← Nat.two_pow_add_eq_or_of_lt hn]; omega

/-- A number that is told has at most ten bytes, that are there, and is below 2^64. -/
theorem lebGo_ok (s : ByteArray) (f i n : Nat) (hi : i + f = 10) (hn : n < 2 ^ (7 * i)) (h : (lebGo s f i n).2.2 = 0) :
    i < (lebGo s f i n).2.1 ∧ (lebGo s f i n).2.1 ≤ 10 ∧ (lebGo s f i n).2.1 ≤ s.size ∧ (lebGo s f i n).1 < 18446744073709551616 := by
  induction f generalizing i n with
  | zero => simp [lebGo] at h
  | succ f ih =>
    by_cases hs : i < s.size
    · by_cases hb : (i = 9 ∧ 1 < s[i].toNat) ∨ (0 < i ∧ s[i].toNat = 0)
      · rw [lebGo_bad s f i n hs hb] at h; simp at h
      · by_cases hl : s[i].toNat < 128
        · rw [lebGo_last s f i n hs hb hl]
          exact ⟨by simp, by simp; omega, by simp; omega, leb_last n _ i (by omega) hn hb⟩
        · rw [lebGo_more s f i n hs hb hl] at h ⊢
          have := ih (i + 1) _ (by omega) (leb_step n _ i hn) h
          omega
    · rw [lebGo_end s _ i n hs] at h; simp at h
theorem lebNext_ok (s : ByteArray) (h : (lebNext s).2.2 = 0) : 0 < (lebNext s).2.1 ∧ (lebNext s).2.1 ≤ 10 ∧ (lebNext s).2.1 ≤ s.size ∧ (lebNext s).1 < 18446744073709551616 :=
  lebGo_ok s 10 0 0 rfl (by simp) h
theorem lebGo_err (s : ByteArray) (f i n : Nat) (h : (lebGo s f i n).2.2 ≠ 0) : (lebGo s f i n).1 = 0 ∧ (lebGo s f i n).2.1 = 0 ∧ ((lebGo s f i n).2.2 = 2 ∨ (lebGo s f i n).2.2 = 3) := by
  induction f generalizing i n with
  | zero => simp [lebGo]
  | succ f ih =>
    by_cases hs : i < s.size
    · by_cases hb : (i = 9 ∧ 1 < s[i].toNat) ∨ (0 < i ∧ s[i].toNat = 0)
      · rw [lebGo_bad s f i n hs hb]; simp
      · by_cases hl : s[i].toNat < 128
        · rw [lebGo_last s f i n hs hb hl] at h; simp at h
        · rw [lebGo_more s f i n hs hb hl] at h ⊢
          exact ih _ _ h
    · rw [lebGo_end s _ i n hs]; simp
end Go.Proofs.Ythbechmkjhkipaa
