/- The roots of SHA-256, by digits of base 65536, as plain functions. No program in sight. -/
import Derived.Test.YtacikiambpfipaaDoorBytesP
namespace Go.Proofs.YtacikiambpfipaaDoor
set_option linter.unusedVariables false
set_option linter.unusedSimpArgs false

def valL : List Nat → Nat
  | [] => 0
  | d :: l => d + 65536 * valL l
def digL (l : List Nat) : Prop := ∀ d, d ∈ l → d < 65536
theorem valL_lt : ∀ (l : List Nat), digL l → valL l < 65536 ^ l.length
  | [], _ => by simp [valL]
  | d :: l, h => by
    have h1 := h d (by simp)
    have h2 := valL_lt l (fun x hx => h x (by simp [hx]))
    simp only [valL, List.length_cons, Nat.pow_succ]
    omega
theorem valL_append : ∀ (l m : List Nat), valL (l ++ m) = valL l + 65536 ^ l.length * valL m
  | [], m => by simp [valL]
  | d :: l, m => by
    have h := valL_append l m
    simp only [List.cons_append, valL, List.length_cons, Nat.pow_succ, h]
    rw [Nat.mul_comm (65536 ^ l.length) 65536, Nat.mul_assoc]
    omega
theorem valL_set : ∀ (l : List Nat) (i v : Nat), i < l.length → valL (l.set i v) + l.getD i 0 * 65536 ^ i = valL l + v * 65536 ^ i
  | [], i, v, h => by simp at h
  | d :: l, 0, v, _ => by simp [valL]; omega
  | d :: l, i + 1, v, h => by
    have h := valL_set l i v (by simpa using h)
    simp only [List.set_cons_succ, valL, List.getD_cons_succ, Nat.pow_succ, ← Nat.mul_assoc]
    omega
theorem valL_take (l : List Nat) (i : Nat) (h : i < l.length) : valL (l.take (i + 1)) = valL (l.take i) + l.getD i 0 * 65536 ^ i := by
  rw [List.take_succ_eq_append_getElem h, valL_append, List.length_take, Nat.min_eq_left (by omega)]
  simp only [valL, Nat.mul_zero, Nat.add_zero, List.getD_eq_getElem?_getD, List.getElem?_eq_getElem h, Option.getD_some]
  rw [Nat.mul_comm]
theorem valL_drop (l : List Nat) (k : Nat) (h : digL l) (hk : k ≤ l.length) : valL (l.drop k) = valL l / 65536 ^ k := by
  have e := valL_append (l.take k) (l.drop k)
  rw [List.take_append_drop, List.length_take, Nat.min_eq_left hk] at e
  have h1 := valL_lt (l.take k) (fun d hd => h d (List.mem_of_mem_take hd))
  rw [List.length_take, Nat.min_eq_left hk] at h1
  rw [e, Nat.add_mul_div_left _ _ (by exact Nat.pow_pos (by omega)), Nat.div_eq_of_lt h1, Nat.zero_add]
theorem valL_rep (n : Nat) : valL (List.replicate n 0) = 0 := by
  induction n with
  | zero => rfl
  | succ n ih => simp [List.replicate_succ, valL, ih]
theorem digL_rep (n : Nat) : digL (List.replicate n 0) := fun d hd => by rw [(List.mem_replicate.1 hd).2]; omega
theorem digL_set {l : List Nat} (h : digL l) (i v : Nat) (hv : v < 65536) : digL (l.set i v) := fun d hd => by
  rcases List.mem_or_eq_of_mem_set hd with hd | rfl
  · exact h d hd
  · exact hv
theorem digL_getD {l : List Nat} (h : digL l) (i : Nat) : l.getD i 0 < 65536 := by
  by_cases hi : i < l.length
  · rw [List.getD_eq_getElem?_getD, List.getElem?_eq_getElem hi]; exact h _ (List.getElem_mem hi)
  · rw [List.getD_eq_getElem?_getD, List.getElem?_eq_none (by omega)]; simp
/-- The carry's place lies within the digits. -/
theorem carry_in {l : List Nat} {q m T n : Nat} (hq : 1 ≤ q) (h : valL l + q * 65536 ^ m = T) (hT : T < 65536 ^ n) : m < n := by
  have h1 : 65536 ^ m ≤ q * 65536 ^ m := Nat.le_mul_of_pos_left _ hq
  have h2 : 65536 ^ m < 65536 ^ n := by omega
  exact (Nat.pow_lt_pow_iff_right (by omega)).1 h2
theorem mul_lt_pow {a b m n : Nat} (ha : a < 65536 ^ m) (hb : b < 65536 ^ n) : a * b < 65536 ^ (m + n) := by
  rw [Nat.pow_add]
  rcases Nat.eq_zero_or_pos a with rfl | h
  · have := Nat.mul_pos (show 0 < 65536 ^ m from Nat.pow_pos (by omega)) (show 0 < 65536 ^ n from Nat.pow_pos (by omega)); omega
  · exact Nat.lt_of_lt_of_le ((Nat.mul_lt_mul_left h).2 hb) (Nat.mul_le_mul_right _ (by omega))
/-- One carry: the digit at m takes what is carried. -/
theorem carry_step {l : List Nat} {x m T : Nat} (hm : m < l.length) (h : valL l + x / 65536 * 65536 ^ m = T) :
    valL (l.set m ((x / 65536 + l.getD m 0) % 65536)) + (x / 65536 + l.getD m 0) / 65536 * 65536 ^ (m + 1) = T := by
  have h1 := valL_set l m ((x / 65536 + l.getD m 0) % 65536) hm
  generalize x / 65536 = q at *
  generalize l.getD m 0 = d at *
  have h2 : (q + d) % 65536 * 65536 ^ m + (q + d) / 65536 * 65536 ^ (m + 1) = (q + d) * 65536 ^ m := by
    rw [Nat.pow_succ, Nat.mul_comm (65536 ^ m) 65536, ← Nat.mul_assoc, ← Nat.add_mul]
    congr 1; omega
  rw [Nat.add_mul] at h2
  omega
/-- The first digit that is set. -/
theorem mul_step {l : List Nat} {y j T : Nat} (hj : j < l.length) (h : valL l = T) :
    valL (l.set j ((l.getD j 0 + y) % 65536)) + (l.getD j 0 + y) / 65536 * 65536 ^ (j + 1) = T + y * 65536 ^ j := by
  have h1 := valL_set l j ((l.getD j 0 + y) % 65536) hj
  generalize l.getD j 0 = d at *
  have h2 : (d + y) % 65536 * 65536 ^ j + (d + y) / 65536 * 65536 ^ (j + 1) = (d + y) * 65536 ^ j := by
    rw [Nat.pow_succ, Nat.mul_comm (65536 ^ j) 65536, ← Nat.mul_assoc, ← Nat.add_mul]
    congr 1; omega
  rw [Nat.add_mul] at h2
  omega
/-- Bit by bit, from the bit n - 1 down. -/
def bitsDown (p d : Nat) : Nat → Nat → Nat
  | 0, x => x
  | n + 1, x => bitsDown p d n (if (x + 2 ^ n) ^ d / 65536 ^ (2 * d) < p then x + 2 ^ n else x)
def fracN (p d : Nat) : Nat := bitsDown p d 36 0 % 4294967296
theorem fracN_lt (p d : Nat) : fracN p d < 4294967296 := Nat.mod_lt _ (by omega)
def divsB (p n : Nat) : Bool := (List.range n).all fun d => decide (d < 2) || decide (0 < p % d)
theorem divsB_succ (p n : Nat) (h : 2 ≤ n) : divsB p (n + 1) = (divsB p n && decide (0 < p % n)) := by
  unfold divsB
  rw [List.range_succ, List.all_append]
  simp [show ¬ n < 2 by omega]
theorem divsB_two (p : Nat) : divsB p 2 = true := by simp [divsB, List.range_succ]
def primesTo : Nat → List Nat
  | 0 => []
  | p + 1 => if 2 ≤ p ∧ divsB p p = true then primesTo p ++ [p] else primesTo p
theorem primesTo_succ (p : Nat) : primesTo (p + 1) = if 2 ≤ p ∧ divsB p p = true then primesTo p ++ [p] else primesTo p := rfl
theorem primesTo_pre (p : Nat) : ∀ q, p ≤ q → primesTo p <+: primesTo q
  | 0, h => by obtain rfl : p = 0 := by omega
               exact List.prefix_refl _
  | q + 1, h => by
    by_cases e : p = q + 1
    · subst e; exact List.prefix_refl _
    · have := primesTo_pre p q (by omega)
      rw [primesTo_succ]
      split
      · exact this.trans (List.prefix_append _ _)
      · exact this
def thePrimes : List Nat := primesTo 312
theorem primes_64 : thePrimes.length = 64 := by decide +kernel
theorem primes_below {p : Nat} (h : (primesTo p).length < 64) : p ≤ 311 := by
  by_cases hp : p ≤ 311
  · exact hp
  · have := (primesTo_pre 312 p (by omega)).length_le
    have h2 := primes_64
    unfold thePrimes at h2
    omega
theorem primes_pre {p : Nat} (h : p ≤ 312) : primesTo p <+: thePrimes := primesTo_pre p 312 h
theorem primes_le {p : Nat} (h : p ≤ 312) : (primesTo p).length ≤ 64 := by
  have := (primes_pre h).length_le
  rw [primes_64] at this; exact this
def shK : List Nat := thePrimes.map (fracN · 3)
def shH : List Nat := (thePrimes.take 8).map (fracN · 2)
theorem shK_length : shK.length = 64 := by simp [shK, primes_64]
theorem shH_length : shH.length = 8 := by simp [shH, primes_64]
def shKlit : List Nat := [0x428a2f98, 0x71374491, 0xb5c0fbcf, 0xe9b5dba5, 0x3956c25b, 0x59f111f1, 0x923f82a4, 0xab1c5ed5, 0xd807aa98, 0x12835b01, 0x243185be, 0x550c7dc3, 0x72be5d74, 0x80deb1fe, 0x9bdc06a7, 0xc19bf174,
  0xe49b69c1, 0xefbe4786, 0x0fc19dc6, 0x240ca1cc, 0x2de92c6f, 0x4a7484aa, 0x5cb0a9dc, 0x76f988da, 0x983e5152, 0xa831c66d, 0xb00327c8, 0xbf597fc7, 0xc6e00bf3, 0xd5a79147, 0x06ca6351, 0x14292967,
  0x27b70a85, 0x2e1b2138, 0x4d2c6dfc, 0x53380d13, 0x650a7354, 0x766a0abb, 0x81c2c92e, 0x92722c85, 0xa2bfe8a1, 0xa81a664b, 0xc24b8b70, 0xc76c51a3, 0xd192e819, 0xd6990624, 0xf40e3585, 0x106aa070,
  0x19a4c116, 0x1e376c08, 0x2748774c, 0x34b0bcb5, 0x391c0cb3, 0x4ed8aa4a, 0x5b9cca4f, 0x682e6ff3, 0x748f82ee, 0x78a5636f, 0x84c87814, 0x8cc70208, 0x90befffa, 0xa4506ceb, 0xbef9a3f7, 0xc67178f2]
def shHlit : List Nat := [0x6a09e667, 0xbb67ae85, 0x3c6ef372, 0xa54ff53a, 0x510e527f, 0x9b05688c, 0x1f83d9ab, 0x5be0cd19]
theorem shK_lit : shK = shKlit := by decide +kernel
theorem shH_lit : shH = shHlit := by decide +kernel
end Go.Proofs.YtacikiambpfipaaDoor
