/- The last place of four bytes: what the map of places tells is what the search tells. No program in sight. -/
import Derived.Test.YthbechmkjhkipaaSqueezeP
namespace Go.Proofs.Ythbechmkjhkipaa
set_option linter.unusedVariables false
set_option linter.unusedSimpArgs false

def gramEq (L : List UInt8) (a b : Nat) : Prop := L[a]? = L[b]? ∧ L[a + 1]? = L[b + 1]? ∧ L[a + 2]? = L[b + 2]? ∧ L[a + 3]? = L[b + 3]?
instance (L : List UInt8) (a b : Nat) : Decidable (gramEq L a b) := by unfold gramEq; infer_instance
theorem gramEq.symm {L : List UInt8} {a b : Nat} (h : gramEq L a b) : gramEq L b a := ⟨h.1.symm, h.2.1.symm, h.2.2.1.symm, h.2.2.2.symm⟩
theorem gramEq.trans {L : List UInt8} {a b c : Nat} (h : gramEq L a b) (k : gramEq L b c) : gramEq L a c := ⟨h.1.trans k.1, h.2.1.trans k.2.1, h.2.2.1.trans k.2.2.1, h.2.2.2.trans k.2.2.2⟩
/-- The last place ahead of n with the four bytes that stand at a. -/
def lastG (L : List UInt8) (a : Nat) : Nat → Option Nat
  | 0 => none
  | n + 1 => if n + 4 ≤ L.length ∧ gramEq L n a then some n else lastG L a n
theorem mt4 (L : List UInt8) (j i : Nat) (h : j < i) (hi : i ≤ L.length) : 4 ≤ mt L j i 64 ↔ i + 4 ≤ L.length ∧ gramEq L j i := by
  constructor
  · intro h4
    have hl := (mt_le L 64 j i).2 hi
    exact ⟨by omega, mt_at L 64 j i 0 (by omega), mt_at L 64 j i 1 (by omega), mt_at L 64 j i 2 (by omega), mt_at L 64 j i 3 (by omega)⟩
  · rintro ⟨hl, g0, g1, g2, g3⟩
    have e1 : mt L j i 64 = mt L (j + 4) (i + 4) 60 + 4 := by
      rw [mt, if_pos ⟨by omega, g0⟩, mt, if_pos ⟨by omega, g1⟩, mt, if_pos ⟨by omega, g2⟩, mt, if_pos ⟨by omega, g3⟩]
    omega
theorem fnd_none_short (L : List UInt8) (i : Nat) (hi : i ≤ L.length) (h : ¬ i + 4 ≤ L.length) : ∀ k, k ≤ i → fnd L i k = none := by
  intro k
  induction k with
  | zero => intro _; rfl
  | succ k ih =>
    intro hk
    rw [fnd, if_neg (by rw [mt4 L k i (by omega) hi]; exact fun hh => h hh.1)]
    exact ih (by omega)
theorem fnd_last (L : List UInt8) (i : Nat) (hi : i + 4 ≤ L.length) : ∀ k, k ≤ i → fnd L i k = lastG L i k := by
  intro k
  induction k with
  | zero => intro _; rfl
  | succ k ih =>
    intro hk
    rw [fnd, lastG, ih (by omega)]
    by_cases h : gramEq L k i
    · rw [if_pos ((mt4 L k i (by omega) (by omega)).2 ⟨hi, h⟩), if_pos ⟨by omega, h⟩]
    · rw [if_neg (fun hh => h ((mt4 L k i (by omega) (by omega)).1 hh).2), if_neg (fun hh => h hh.2)]
theorem lastG_lt (L : List UInt8) (a : Nat) : ∀ n j, lastG L a n = some j → j < n := by
  intro n
  induction n with
  | zero => intro j h; simp [lastG] at h
  | succ n ih =>
    intro j h
    rw [lastG] at h
    split at h
    · injection h with h; omega
    · have := ih j h; omega
theorem lastG_self (L : List UInt8) (a n : Nat) (h : n + 4 ≤ L.length) (hg : gramEq L n a) : lastG L a (n + 1) = some n := by rw [lastG, if_pos ⟨h, hg⟩]
theorem lastG_other (L : List UInt8) (a n : Nat) (h : ¬ (n + 4 ≤ L.length ∧ gramEq L n a)) : lastG L a (n + 1) = lastG L a n := by rw [lastG, if_neg h]
end Go.Proofs.Ythbechmkjhkipaa
