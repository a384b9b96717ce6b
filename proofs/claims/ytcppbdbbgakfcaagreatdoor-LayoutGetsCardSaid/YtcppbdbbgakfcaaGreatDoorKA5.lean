/- Digits of base 256: plain. No program in sight. -/
import Derived.Test.YtcppbdbbgakfcaaGreatDoorKA1
import Derived.Test.YtcppbdbbgakfcaaGreatDoorKA3
set_option linter.unusedVariables false
set_option linter.unusedSimpArgs false
namespace Go.Proofs.YtcppbdbbgakfcaaGreatDoor
def leD (n : Nat) : Nat → List UInt8
 | 0 => []
 | k + 1 => leD n k ++ [ub (n / 2 ^ (8 * k) % 256 : Nat)]
theorem leD_length (n k : Nat) : (leD n k).length = k := by
 induction k with
 | zero => rfl
 | succ k ih => simp [leD, ih]
theorem dig_step {n k sz : Nat} (h : k < sz) : (leD n k ++ List.replicate (sz - k) (0 : UInt8)).set k (ub (n / 2 ^ (8 * k) % 256 : Nat)) = leD n (k + 1) ++ List.replicate (sz - (k + 1)) 0 := by
 obtain ⟨d, hd⟩ : ∃ d, sz - k = d + 1 := ⟨sz - k - 1, by omega⟩
 rw [hd, List.replicate_succ, List.set_append_right _ _ (by rw [leD_length]; exact Nat.le_refl _), leD_length, Nat.sub_self, List.set_cons_zero, show sz - (k + 1) = d from by omega]
 simp [leD]
theorem dig_val (n k : Nat) : (n : Int) / 2 ^ (8 * k) % 256 = ((ub (n / 2 ^ (8 * k) % 256 : Nat)).toNat : Int) := by
 rw [ub_toNat _ (by omega)]
 simp
theorem leD_cons (n k : Nat) : leD n (k + 1) = ub (n % 256 : Nat) :: leD (n / 256) k := by
 induction k with
 | zero => simp [leD]
 | succ k ih =>
  rw [leD, ih, leD, List.cons_append]
  congr 4
  rw [Nat.div_div_eq_div_mul, show (256 : Nat) = 2 ^ 8 from rfl, ← Nat.pow_add, show 8 + 8 * k = 8 * (k + 1) from by omega]
def minL (n : Nat) : List UInt8 := if h : n = 0 then [] else minL (n / 256) ++ [ub (n % 256 : Nat)]
termination_by n
theorem minL_zero : minL 0 = [] := by rw [minL]; simp
theorem minL_pos {n : Nat} (h : n ≠ 0) : minL n = minL (n / 256) ++ [ub (n % 256 : Nat)] := by rw [minL]; simp [h]
theorem pow8 (k : Nat) : 2 ^ (8 * (k + 1)) = 256 * 2 ^ (8 * k) := by rw [show 8 * (k + 1) = 8 + 8 * k from by omega, Nat.pow_add]
theorem minL_length (k : Nat) : ∀ n, n < 2 ^ (8 * k) → (minL n).length ≤ k := by
 induction k with
 | zero => intro n h; simp at h; subst h; simp [minL_zero]
 | succ k ih =>
  intro n h
  by_cases h0 : n = 0
  ·subst h0; simp [minL_zero]
  ·rw [minL_pos h0, List.length_append]
   have := ih (n / 256) (by rw [pow8] at h; exact Nat.div_lt_of_lt_mul h)
   simp; omega
theorem least_pad (k : Nat) : ∀ n, n < 2 ^ (8 * k) → List.replicate (k - (minL n).length) 0 ++ minL n = (leD n k).reverse := by
 induction k with
 | zero => intro n h; simp at h; subst h; simp [minL_zero, leD]
 | succ k ih =>
  intro n h
  have hl := minL_length (k + 1) n h
  have hd : n / 256 < 2 ^ (8 * k) := by rw [pow8] at h; exact Nat.div_lt_of_lt_mul h
  rw [leD_cons, List.reverse_cons, ← ih _ hd]
  by_cases h0 : n = 0
  ·subst h0
   simp [minL_zero, ub]
   rw [List.replicate_succ']
  ·rw [minL_pos h0, List.length_append, List.length_singleton, show k + 1 - ((minL (n / 256)).length + 1) = k - (minL (n / 256)).length from by omega, List.append_assoc]
theorem leL_D (k n : Nat) : n < 2 ^ (8 * k) → leL (leD n k) = n := by
 induction k generalizing n with
 | zero => intro h; simp at h; subst h; rfl
 | succ k ih =>
  intro h
  rw [leD_cons, leL, ih (n / 256) (by rw [pow8] at h; exact Nat.div_lt_of_lt_mul h), ub_toNat _ (by omega)]
  omega
theorem leD_L (l : List UInt8) : leD (leL l) l.length = l := by
 induction l with
 | nil => rfl
 | cons b t ih =>
  have hb := b.toNat_lt
  rw [List.length_cons, leD_cons, leL, show (b.toNat + 256 * leL t) / 256 = leL t from by omega, ih]
  congr 1
  rw [show (b.toNat + 256 * leL t) % 256 = b.toNat from by omega]
  apply UInt8.toNat_inj.1
  rw [ub_toNat _ hb]
def cpFirst (n : Nat) : Nat := if n < 253 then n else if n < 65536 then 253 else if n < 4294967296 then 254 else 255
def cpBehind (b : Nat) : Nat := if b = 253 then 2 else if b = 254 then 4 else 8
def cpPut (n : Nat) : List UInt8 := if n < 253 then [ub n] else ub (cpFirst n) :: leD n (cpBehind (cpFirst n))
def cpNext : List UInt8 → Nat × Nat × Int
 | [] => (0, 0, 2)
 | b :: t => if b.toNat < 253 then (b.toNat, 1, 0) else if t.length < cpBehind b.toNat then (0, 0, 2)
  else if cpFirst (leL (t.take (cpBehind b.toNat))) = b.toNat then (leL (t.take (cpBehind b.toNat)), 1 + cpBehind b.toNat, 0) else (0, 0, 3)
theorem cpBehind_le (b : Nat) : 2 ≤ cpBehind b ∧ cpBehind b ≤ 8 := by unfold cpBehind; split <;> (try split) <;> omega
theorem cpFirst_lt (n : Nat) : cpFirst n < 256 := by unfold cpFirst; split <;> (try split) <;> (try split) <;> omega
theorem cpFirst_ge {n : Nat} (h : ¬ n < 253) : 253 ≤ cpFirst n := by unfold cpFirst; rw [if_neg h]; split <;> (try split) <;> omega
theorem cp_fits {n : Nat} (h : ¬ n < 253) (hn : n < 18446744073709551616) : n < 2 ^ (8 * cpBehind (cpFirst n)) := by
 unfold cpFirst
 rw [if_neg h]
 by_cases h1 : n < 65536
 ·rw [if_pos h1]; show n < 2 ^ 16; omega
 ·rw [if_neg h1]
  by_cases h2 : n < 4294967296
  ·rw [if_pos h2]; show n < 2 ^ 32; omega
  ·rw [if_neg h2]; show n < 2 ^ 64; omega
theorem cpPut_length (n : Nat) : 1 ≤ (cpPut n).length ∧ (cpPut n).length ≤ 9 := by
 unfold cpPut
 split
 ·simp
 ·have := cpBehind_le (cpFirst n)
  simp [leD_length]; omega
theorem cpNext_put (n : Nat) (q : List UInt8) (hn : n < 18446744073709551616) : cpNext (cpPut n ++ q) = (n, (cpPut n).length, 0) := by
 unfold cpPut
 by_cases h : n < 253
 ·rw [if_pos h]
  simp only [List.cons_append, List.nil_append, cpNext, ub_toNat n (by omega), if_pos h, List.length_singleton]
 ·rw [if_neg h]
  have hf := cpFirst_ge h
  have hl := cpFirst_lt n
  simp only [List.cons_append, cpNext, ub_toNat _ hl, if_neg (show ¬ cpFirst n < 253 by omega)]
  rw [if_neg (by rw [List.length_append, leD_length]; omega), List.take_left' (leD_length _ _), leL_D _ _ (cp_fits h hn), if_pos rfl]
  simp [leD_length, Nat.add_comm]
theorem cpNext_cut (n : Nat) (c : Nat) (hc : c < (cpPut n).length) : cpNext ((cpPut n).take c) = (0, 0, 2) := by
 unfold cpPut at hc ⊢
 by_cases h : n < 253
 ·rw [if_pos h] at hc ⊢
  obtain rfl : c = 0 := by simpa using hc
  rfl
 ·rw [if_neg h] at hc ⊢
  cases c with
  | zero => rfl
  | succ c =>
   have hf := cpFirst_ge h
   have hl := cpFirst_lt n
   simp only [List.length_cons, leD_length] at hc
   simp only [List.take_succ_cons, cpNext, ub_toNat _ hl, if_neg (show ¬ cpFirst n < 253 by omega)]
   rw [if_pos (by rw [List.length_take, leD_length]; omega)]
theorem cpNext_back (r : List UInt8) (n z : Nat) (h : cpNext r = (n, z, 0)) : n < 18446744073709551616 ∧ z ≤ r.length ∧ r.take z = cpPut n ∧ (cpPut n).length = z := by
 cases r with
 | nil => cases h
 | cons b t =>
  have hb := b.toNat_lt
  have hub : ub (b.toNat : Nat) = b := by apply UInt8.toNat_inj.1; rw [ub_toNat _ hb]
  simp only [cpNext] at h
  by_cases h1 : b.toNat < 253
  ·rw [if_pos h1] at h
   injection h with e1 e2
   injection e2 with e2 _
   subst e1 e2
   refine ⟨by omega, by simp, ?_, ?_⟩
   ·unfold cpPut; rw [if_pos h1, hub]; rfl
   ·unfold cpPut; rw [if_pos h1]; rfl
  ·rw [if_neg h1] at h
   by_cases h2 : t.length < cpBehind b.toNat
   ·rw [if_pos h2] at h; injection h with _ h; injection h with _ h; cases h
   rw [if_neg h2] at h
   by_cases h3 : cpFirst (leL (t.take (cpBehind b.toNat))) = b.toNat
   ·rw [if_pos h3] at h
    injection h with e1 e2
    injection e2 with e2 _
    have hlt := leL_lt (t.take (cpBehind b.toNat))
    have hlen : (t.take (cpBehind b.toNat)).length = cpBehind b.toNat := by rw [List.length_take]; omega
    have hb8 := cpBehind_le b.toNat
    rw [hlen] at hlt
    have hpow : 2 ^ (8 * cpBehind b.toNat) ≤ 18446744073709551616 := le_pow _ hb8.2
    have hp : cpPut n = b :: t.take (cpBehind b.toNat) := by
     subst e1
     have hn253 : ¬ leL (t.take (cpBehind b.toNat)) < 253 := by
      intro hlt2
      have : cpFirst (leL (t.take (cpBehind b.toNat))) = leL (t.take (cpBehind b.toNat)) := by unfold cpFirst; rw [if_pos hlt2]
      omega
     unfold cpPut
     rw [if_neg hn253, h3, hub]
     congr 1
     have := leD_L (t.take (cpBehind b.toNat))
     rwa [hlen] at this
    refine ⟨by omega, by simp only [List.length_cons]; omega, ?_, ?_⟩
    ·rw [hp, ← e2, Nat.add_comm, List.take_succ_cons]
    ·rw [hp, List.length_cons, hlen]; omega
   ·rw [if_neg h3] at h; injection h with _ h; injection h with _ h; cases h
theorem cpNext_nine (r : List UInt8) : cpNext (r.take 9) = cpNext r := by
 cases r with
 | nil => rfl
 | cons b t =>
  have h8 := cpBehind_le b.toNat
  simp only [List.take_succ_cons, cpNext]
  rw [List.take_take, show min (cpBehind b.toNat) 8 = cpBehind b.toNat from by omega, List.length_take]
  by_cases h : t.length < cpBehind b.toNat
  ·rw [if_pos (show min 8 t.length < cpBehind b.toNat by omega), if_pos h]
  ·rw [if_neg (show ¬ min 8 t.length < cpBehind b.toNat by omega), if_neg h]
open Go.RowKit
theorem lt_of_cell {w : World} {b o : Nat} {v : Value} (h : w.cell? ⟨b, o, none⟩ = some v) : b < w.heap.size := by
 rcases Nat.lt_or_ge b w.heap.size with h' | h'
 ·exact h'
 ·simp [World.cell?, Array.getElem?_eq_none h'] at h
mutual
def ItIn (w : World) (B : Nat) : It → Value → Value → Value → Prop
 | .mk t l s, c0, c1, c2 => c0 = .string t ∧ c1 = .bool l ∧ t.size ≤ 9223372036854775807 ∧ s.length ≤ 9223372036854775807 ∧ ∃ A cap, c2 = .slice A s.length cap ∧ s.length ≤ cap ∧ cap ≤ 9223372036854775807 ∧ ItsIn w B s A 0
def ItsIn (w : World) (B : Nat) : List It → Option Addr → Nat → Prop
 | [], _, _ => True
 | x :: xs, A, i => (∃ b o c0 c1 c2, A = some ⟨b, o, none⟩ ∧ b < B ∧ w.cell? ⟨b, o + i * 3, none⟩ = some c0 ∧ w.cell? ⟨b, o + i * 3 + 1, none⟩ = some c1 ∧ w.cell? ⟨b, o + i * 3 + 2, none⟩ = some c2 ∧ ItIn w B x c0 c1 c2) ∧ ItsIn w B xs A (i + 1)
end
theorem ItsIn.at_ {w : World} {B : Nat} {A : Option Addr} : ∀ {s : List It} {i : Nat}, ItsIn w B s A i → ∀ (j : Nat) (h : j < s.length), ∃ b o c0 c1 c2, A = some ⟨b, o, none⟩ ∧ b < B ∧ w.cell? ⟨b, o + (i + j) * 3, none⟩ = some c0 ∧ w.cell? ⟨b, o + (i + j) * 3 + 1, none⟩ = some c1 ∧ w.cell? ⟨b, o + (i + j) * 3 + 2, none⟩ = some c2 ∧ ItIn w B s[j] c0 c1 c2
 | [], _, _, j, h => by simp at h
 | x :: xs, i, hi, 0, _ => by simpa [ItsIn] using hi.1
 | x :: xs, i, hi, j + 1, h => by
  have := ItsIn.at_ hi.2 j (by simpa using h)
  rw [show i + 1 + j = i + (j + 1) from by omega] at this
  simpa using this
theorem ItsIn.mk_ {w : World} {B : Nat} {A : Option Addr} : ∀ {s : List It} {i : Nat}, (∀ (j : Nat) (h : j < s.length), ∃ b o c0 c1 c2, A = some ⟨b, o, none⟩ ∧ b < B ∧ w.cell? ⟨b, o + (i + j) * 3, none⟩ = some c0 ∧ w.cell? ⟨b, o + (i + j) * 3 + 1, none⟩ = some c1 ∧ w.cell? ⟨b, o + (i + j) * 3 + 2, none⟩ = some c2 ∧ ItIn w B s[j] c0 c1 c2) → ItsIn w B s A i
 | [], _, _ => by simp [ItsIn]
 | x :: xs, i, h => by
  refine ⟨h 0 (Nat.zero_lt_succ _), ItsIn.mk_ fun j hj => ?_⟩
  have := h (j + 1) (by simpa using hj)
  rw [show i + (j + 1) = i + 1 + j from by omega] at this
  simpa using this
theorem ItIn.open_ {w : World} {B : Nat} {x : It} {c0 c1 c2 : Value} (h : ItIn w B x c0 c1 c2) : ∃ A cap, c0 = .string x.text ∧ c1 = .bool x.list ∧ c2 = .slice A x.sub.length cap ∧ x.text.size ≤ 9223372036854775807 ∧ x.sub.length ≤ cap ∧ cap ≤ 9223372036854775807 ∧ ItsIn w B x.sub A 0 := by
 cases x with
 | mk t l s =>
  obtain ⟨h0, h1, ht, hs, A, cap, h2, hc, hm, h3⟩ := h
  exact ⟨A, cap, h0, h1, h2, ht, hc, hm, h3⟩
theorem ItIn.keep {w w' : World} {B B' : Nat} (hB : B ≤ B') (hk : ∀ p : Addr, p.block < B → w'.cell? p = w.cell? p) : ∀ (x : It) {c0 c1 c2 : Value}, ItIn w B x c0 c1 c2 → ItIn w' B' x c0 c1 c2 := by
 intro x
 induction x using It.ind with
 | h t l s ih =>
  intro c0 c1 c2 h
  obtain ⟨h0, h1, ht, hs, A, cap, h2, hc, hm, h3⟩ := h
  refine ⟨h0, h1, ht, hs, A, cap, h2, hc, hm, ItsIn.mk_ fun j hj => ?_⟩
  obtain ⟨b, o, d0, d1, d2, hA, hb, e0, e1, e2, hi⟩ := h3.at_ j hj
  exact ⟨b, o, d0, d1, d2, hA, by omega, (hk _ hb).trans e0, (hk _ hb).trans e1, (hk _ hb).trans e2, ih _ (List.getElem_mem hj) hi⟩
theorem ItIn.below {w w' : World} {B : Nat} {x : It} {c0 c1 c2 : Value} (h : ItIn w B x c0 c1 c2) (hb : Below B w w') : ItIn w' B x c0 c1 c2 := ItIn.keep (Nat.le_refl _) (fun _ hp => hb.cell hp) x h
theorem ItIn.mono {w : World} {B B' : Nat} {x : It} {c0 c1 c2 : Value} (h : ItIn w B x c0 c1 c2) (hB : B ≤ B') : ItIn w B' x c0 c1 c2 := ItIn.keep hB (fun _ _ => rfl) x h
def okI (i : Int) : Prop := -9223372036854775808 ≤ i ∧ i ≤ 9223372036854775807
mutual
def TyIn (w : World) (B : Nat) : Ty → Value → Value → Value → Value → Prop
 | .mk k s l t, c0, c1, c2, c3 => c0 = .int .i64 k ∧ c1 = .int .i64 s ∧ c3 = .int .i64 t ∧ okI k ∧ okI s ∧ okI t ∧ l.length ≤ 9223372036854775807 ∧ ∃ A cap, c2 = .slice A l.length cap ∧ l.length ≤ cap ∧ cap ≤ 9223372036854775807 ∧ TysIn w B l A 0
def TysIn (w : World) (B : Nat) : List Ty → Option Addr → Nat → Prop
 | [], _, _ => True
 | x :: xs, A, i => (∃ b o c0 c1 c2 c3, A = some ⟨b, o, none⟩ ∧ b < B ∧ w.cell? ⟨b, o + i * 4, none⟩ = some c0 ∧ w.cell? ⟨b, o + i * 4 + 1, none⟩ = some c1 ∧ w.cell? ⟨b, o + i * 4 + 2, none⟩ = some c2 ∧ w.cell? ⟨b, o + i * 4 + 3, none⟩ = some c3 ∧ TyIn w B x c0 c1 c2 c3) ∧ TysIn w B xs A (i + 1)
end
theorem TysIn.at_ {w : World} {B : Nat} {A : Option Addr} : ∀ {s : List Ty} {i : Nat}, TysIn w B s A i → ∀ (j : Nat) (h : j < s.length), ∃ b o c0 c1 c2 c3, A = some ⟨b, o, none⟩ ∧ b < B ∧ w.cell? ⟨b, o + (i + j) * 4, none⟩ = some c0 ∧ w.cell? ⟨b, o + (i + j) * 4 + 1, none⟩ = some c1 ∧ w.cell? ⟨b, o + (i + j) * 4 + 2, none⟩ = some c2 ∧ w.cell? ⟨b, o + (i + j) * 4 + 3, none⟩ = some c3 ∧ TyIn w B s[j] c0 c1 c2 c3
 | [], _, _, j, h => by simp at h
 | x :: xs, i, hi, 0, _ => by simpa [TysIn] using hi.1
 | x :: xs, i, hi, j + 1, h => by
  have := TysIn.at_ hi.2 j (by simpa using h)
  rw [show i + 1 + j = i + (j + 1) from by omega] at this
  simpa using this
theorem TysIn.mk_ {w : World} {B : Nat} {A : Option Addr} : ∀ {s : List Ty} {i : Nat}, (∀ (j : Nat) (h : j < s.length), ∃ b o c0 c1 c2 c3, A = some ⟨b, o, none⟩ ∧ b < B ∧ w.cell? ⟨b, o + (i + j) * 4, none⟩ = some c0 ∧ w.cell? ⟨b, o + (i + j) * 4 + 1, none⟩ = some c1 ∧ w.cell? ⟨b, o + (i + j) * 4 + 2, none⟩ = some c2 ∧ w.cell? ⟨b, o + (i + j) * 4 + 3, none⟩ = some c3 ∧ TyIn w B s[j] c0 c1 c2 c3) → TysIn w B s A i
 | [], _, _ => by simp [TysIn]
 | x :: xs, i, h => by
  refine ⟨h 0 (Nat.zero_lt_succ _), TysIn.mk_ fun j hj => ?_⟩
  have := h (j + 1) (by simpa using hj)
  rw [show i + (j + 1) = i + 1 + j from by omega] at this
  simpa using this
theorem TyIn.open_ {w : World} {B : Nat} {x : Ty} {c0 c1 c2 c3 : Value} (h : TyIn w B x c0 c1 c2 c3) : ∃ A cap, c0 = .int .i64 x.kind ∧ c1 = .int .i64 x.size ∧ c2 = .slice A x.sub.length cap ∧ c3 = .int .i64 x.tail ∧ okI x.kind ∧ okI x.size ∧ okI x.tail ∧ x.sub.length ≤ cap ∧ cap ≤ 9223372036854775807 ∧ TysIn w B x.sub A 0 := by
 cases x with
 | mk k s l t =>
  obtain ⟨h0, h1, h3, hk, hs, ht, hl, A, cap, h2, hc, hm, h4⟩ := h
  exact ⟨A, cap, h0, h1, h2, h3, hk, hs, ht, hc, hm, h4⟩
theorem TyIn.keep {w w' : World} {B B' : Nat} (hB : B ≤ B') (hk : ∀ p : Addr, p.block < B → w'.cell? p = w.cell? p) : ∀ (x : Ty) {c0 c1 c2 c3 : Value}, TyIn w B x c0 c1 c2 c3 → TyIn w' B' x c0 c1 c2 c3 := by
 intro x
 induction x using Ty.ind with
 | h k s l t ih =>
  intro c0 c1 c2 c3 h
  obtain ⟨h0, h1, h3, hk', hs, ht, hl, A, cap, h2, hc, hm, h4⟩ := h
  refine ⟨h0, h1, h3, hk', hs, ht, hl, A, cap, h2, hc, hm, TysIn.mk_ fun j hj => ?_⟩
  obtain ⟨b, o, d0, d1, d2, d3, hA, hb, e0, e1, e2, e3, hi⟩ := h4.at_ j hj
  exact ⟨b, o, d0, d1, d2, d3, hA, by omega, (hk _ hb).trans e0, (hk _ hb).trans e1, (hk _ hb).trans e2, (hk _ hb).trans e3, ih _ (List.getElem_mem hj) hi⟩
theorem TyIn.below {w w' : World} {B : Nat} {x : Ty} {c0 c1 c2 c3 : Value} (h : TyIn w B x c0 c1 c2 c3) (hb : Below B w w') : TyIn w' B x c0 c1 c2 c3 := TyIn.keep (Nat.le_refl _) (fun _ hp => hb.cell hp) x h
theorem TyIn.mono {w : World} {B B' : Nat} {x : Ty} {c0 c1 c2 c3 : Value} (h : TyIn w B x c0 c1 c2 c3) (hB : B ≤ B') : TyIn w B' x c0 c1 c2 c3 := TyIn.keep hB (fun _ _ => rfl) x h
theorem blk4 {w : World} {g : Nat} {t : TypeId} {a b c d : Value} (h : Blk w g t #[a, b, c, d]) : w.cell? ⟨g, 0, none⟩ = some a ∧ w.cell? ⟨g, 1, none⟩ = some b ∧ w.cell? ⟨g, 2, none⟩ = some c ∧ w.cell? ⟨g, 3, none⟩ = some d ∧ w.frozen? ⟨g, 0, none⟩ = false ∧ w.frozen? ⟨g, 1, none⟩ = false ∧ w.frozen? ⟨g, 2, none⟩ = false ∧ w.frozen? ⟨g, 3, none⟩ = false :=
 ⟨h.cell 0, h.cell 1, h.cell 2, h.cell 3, h.frozen 0, h.frozen 1, h.frozen 2, h.frozen 3⟩
theorem box4 {w w' : World} {t : TypeId} {a b c d : Value} (hb : Below (w.heap.size + 1) (w.alloc (.cells #[a, b, c, d] t)) w') : w'.cell? ⟨w.heap.size, 0, none⟩ = some a ∧ w'.cell? ⟨w.heap.size, 1, none⟩ = some b ∧ w'.cell? ⟨w.heap.size, 2, none⟩ = some c ∧ w'.cell? ⟨w.heap.size, 3, none⟩ = some d := by
 have h0 := Blk.new w t #[a, b, c, d]
 have h : Blk w' w.heap.size t #[a, b, c, d] := (hb.block _ (by omega)).trans h0
 exact ⟨h.cell 0, h.cell 1, h.cell 2, h.cell 3⟩
theorem minR_be (n : Nat) : beL (minL n) = n := by
 induction n using Nat.strongRecOn with
 | ind n ih =>
  by_cases h : n = 0
  ·subst h; rw [minL_zero]; rfl
  ·rw [minL_pos h, beL_snoc, ih (n / 256) (by omega), ub_toNat _ (by omega)]; omega
theorem minR_ne (n : Nat) (h : n ≠ 0) : minL n ≠ [] := by rw [minL_pos h]; simp
theorem minR_lead (n : Nat) (h : n ≠ 0) : (minL n).getD 0 0 ≠ 0 := by
 induction n using Nat.strongRecOn with
 | ind n ih =>
  rw [minL_pos h]
  by_cases h2 : n / 256 = 0
  ·rw [h2, minL_zero, List.nil_append]
   intro e
   have h4 := ub_toNat (n % 256) (by omega)
   simp only [List.getD_cons_zero] at e
   rw [e] at h4
   simp at h4
   omega
  ·have := ih (n / 256) (by omega) h2
   cases hl : minL (n / 256) with
   | nil => exact absurd hl (minR_ne _ h2)
   | cons a b => rw [hl] at this; simpa using this
theorem beR_minL (l : List UInt8) (h : l.getD 0 0 ≠ 0) : minL (beL l) = l := by
 obtain ⟨k, hk⟩ : ∃ k, l.length = k := ⟨_, rfl⟩
 induction k generalizing l with
 | zero => obtain rfl := List.eq_nil_of_length_eq_zero hk; simp at h
 | succ k ih =>
  have hne : l ≠ [] := by intro e; subst e; simp at hk
  have e := List.dropLast_concat_getLast hne
  have hb := (l.getLast hne).toNat_lt
  by_cases hk0 : k = 0
  ·subst hk0
   match l, hk with
   | [b], _ =>
    have hb' : b.toNat ≠ 0 := fun e => h (by simp; exact UInt8.toNat_inj.1 e)
    have hlt := b.toNat_lt
    have e2 : beL [b] = b.toNat := by simp [beL, leL]
    rw [e2, minL_pos hb', show b.toNat / 256 = 0 from by omega, minL_zero, List.nil_append]
    congr 1
    apply UInt8.toNat_inj.1
    rw [ub_toNat _ (by omega)]; omega
  ·have h2 : l.dropLast.getD 0 0 ≠ 0 := by
    have : l.dropLast.getD 0 0 = l.getD 0 0 := by
     rw [List.getD_eq_getElem?_getD, List.getD_eq_getElem?_getD, List.getElem?_dropLast, if_pos (by omega)]
    rw [this]; exact h
   have h3 := ih l.dropLast h2 (by rw [List.length_dropLast]; omega)
   rw [← e, beL_snoc, minL_pos, show (256 * beL l.dropLast + (l.getLast hne).toNat) / 256 = beL l.dropLast from by omega, h3]
   ·congr 2
    apply UInt8.toNat_inj.1
    rw [ub_toNat _ (by omega)]; omega
   ·intro e0
    have : beL l.dropLast = 0 := by omega
    rw [this, minL_zero] at h3
    rw [← h3] at h2; simp at h2
def hdR (s : ByteArray) : Bool × Nat × Nat × Int :=
 let b := (s.data.toList.getD 0 0).toNat
 if b < 128 then (false, 0, 1, 0)
 else
  let l := decide (192 ≤ b)
  let told := if 192 ≤ b then b - 192 else b - 128
  let size := if told ≤ 55 then 1 else 1 + (told - 55)
  let n := if told ≤ 55 then told else beL (s.extract 1 size).data.toList
  if told ≤ 55 then
   if s.size < size + n then (false, 0, 0, 2)
   else if l = false ∧ n = 1 ∧ (s.data.toList.getD 1 0).toNat < 128 then (false, 0, 0, 3)
   else (l, 1, told, 0)
  else
   if s.size < size then (false, 0, 0, 2)
   else if (s.data.toList.getD 1 0).toNat = 0 ∨ n ≤ 55 then (false, 0, 0, 3)
   else if s.size < size + n then (false, 0, 0, 2)
   else (l, size, n, 0)
def hd (s : ByteArray) (deep many : Bool) : Bool × Nat × Nat × Int :=
 if s.size = 0 then (false, 0, 0, 2) else if deep = true then (false, 0, 0, 6) else if many = true then (false, 0, 0, 4) else hdR s
def noIt : It := .mk ByteArray.empty false []
mutual
def It.lay : It → Ty → List UInt8
 | .mk tx _ s, t => if t.kind = 1 then leD (beL tx.data.toList) t.size.toNat else if t.kind = 2 then tx.data.toList else if t.kind = 3 then cpPut tx.size ++ tx.data.toList
  else if t.kind = 4 then cpPut s.length ++ layL s t 0 else layL s t 0
def layL : List It → Ty → Nat → List UInt8
 | [], _, _ => []
 | x :: xs, t, i => x.lay (t.at i) ++ layL xs t (i + 1)
end
theorem layL_append (a b : List It) (t : Ty) (i : Nat) : layL (a ++ b) t i = layL a t i ++ layL b t (i + a.length) := by
 induction a generalizing i with
 | nil => simp [layL]
 | cons x xs ih => simp only [List.cons_append, layL, ih, List.length_cons, List.append_assoc]; rw [show i + 1 + xs.length = i + (xs.length + 1) from by omega]
theorem layL_take {s : List It} {k : Nat} {t : Ty} (h : k < s.length) : layL (s.take (k + 1)) t 0 = layL (s.take k) t 0 ++ s[k].lay (t.at k) := by
 rw [take_succ_it s k h, layL_append]; simp [layL, Nat.min_eq_left (Nat.le_of_lt h)]
mutual
def Ty.full : Ty → Bool
 | .mk _ _ l t => decide (t = 0) && fullL l
def fullL : List Ty → Bool
 | [] => true
 | x :: xs => x.full && fullL xs
end
def Ty.flat (t : Ty) : Bool := t.may && fullL t.sub
structure RdL where
 e : Int
 x : It
 n : Nat
 q : List UInt8
structure RdS where
 e : Int
 xs : List It
 n : Nat
 q : List UInt8
def RdL.bad (e : Int) (n : Nat) (q : List UInt8) : RdL := ⟨e, noIt, n, q⟩
def RdS.cons (x : It) (r : RdS) : RdS := ⟨r.e, x :: r.xs, r.n, r.q⟩
def RdS.list (r : RdS) : RdL := ⟨r.e, .mk ⟨#[]⟩ true r.xs, r.n, r.q⟩
def rdN (f : Nat → List UInt8 → RdL) : Nat → Nat → List UInt8 → RdS
 | 0, n, r => ⟨0, [], n, r⟩
 | c + 1, n, r => if (f n r).e ≠ 0 then ⟨(f n r).e, [(f n r).x], (f n r).n, (f n r).q⟩ else (rdN f c (f n r).n (f n r).q).cons (f n r).x
mutual
def Ty.rd (M : Int) : Ty → Nat → List UInt8 → RdL
 | .mk k z l ta, n, r =>
  if M ≤ n then .bad 4 n r
  else if k = 1 then (if r.length < z.toNat then .bad 2 (n + 1) r else ⟨0, .mk ⟨(minL (leL (r.take z.toNat))).toArray⟩ false [], n + 1, r.drop z.toNat⟩)
  else if k = 2 then (if r.length < z.toNat then .bad 2 (n + 1) r else ⟨0, .mk ⟨(r.take z.toNat).toArray⟩ false [], n + 1, r.drop z.toNat⟩)
  else if k = 3 then
   (if (cpNext r).2.2 ≠ 0 then .bad (cpNext r).2.2 (n + 1) r else if z < (cpNext r).1 then .bad 5 (n + 1) r
   else if (r.drop (cpNext r).2.1).length < (cpNext r).1 then .bad 2 (n + 1) (r.drop (cpNext r).2.1)
   else ⟨0, .mk ⟨((r.drop (cpNext r).2.1).take (cpNext r).1).toArray⟩ false [], n + 1, (r.drop (cpNext r).2.1).drop (cpNext r).1⟩)
  else if k = 4 then
   (if (cpNext r).2.2 ≠ 0 then .bad (cpNext r).2.2 (n + 1) r else if z < (cpNext r).1 then .bad 5 (n + 1) r
   else (rdF M l (cpNext r).1 (n + 1) (r.drop (cpNext r).2.1)).list)
  else (rdT M l ((l.length : Int) - ta).toNat (n + 1) r).list
def rdF (M : Int) : List Ty → Nat → Nat → List UInt8 → RdS
 | [], _, n, r => ⟨0, [], n, r⟩
 | x :: _, c, n, r => rdN (fun n r => x.rd M n r) c n r
def rdT (M : Int) : List Ty → Nat → Nat → List UInt8 → RdS
 | [], _, n, r => ⟨0, [], n, r⟩
 | x :: xs, m, n, r => if m = 0 ∧ r = [] then ⟨0, [], n, r⟩
  else if (x.rd M n r).e ≠ 0 then ⟨(x.rd M n r).e, [(x.rd M n r).x], (x.rd M n r).n, (x.rd M n r).q⟩
  else (rdT M xs (m - 1) (x.rd M n r).n (x.rd M n r).q).cons (x.rd M n r).x
end
theorem min_be (l : List UInt8) (h : lead0 l = false) : minL (beL l) = l := by
 cases l with
 | nil => simp [beL, leL, minL_zero]
 | cons b t =>
  apply beR_minL
  have : (b == 0) = false := h
  intro e
  have e2 : b = 0 := by simpa using e
  rw [e2] at this
  simp at this
theorem right_parts {tx : ByteArray} {l : Bool} {s : List It} (h : (It.mk tx l s).right = true) : formed tx l s.length = true ∧ rightL s = true := by
 simpa only [It.right, Bool.and_eq_true] using h
theorem rightL_mem {s : List It} (h : rightL s = true) : ∀ x ∈ s, x.right = true := by
 induction s with
 | nil => simp
 | cons y ys ih =>
  simp only [rightL, Bool.and_eq_true] at h
  intro x hx
  rcases List.mem_cons.1 hx with rfl | hx
  ·exact h.1
  ·exact ih h.2 x hx
theorem full_parts {k z : Int} {l : List Ty} {ta : Int} (h : (Ty.mk k z l ta).full = true) : ta = 0 ∧ fullL l = true := by
 simpa only [Ty.full, Bool.and_eq_true, decide_eq_true_eq] using h
def okTail (t : Ty) (x : It) (q : List UInt8) : Prop := t.kind = 5 → (x.sub.length < t.sub.length → q = []) ∧ ∀ j (hj : j < x.sub.length) (hj2 : j < t.sub.length), ((t.sub.length : Int) - t.tail).toNat ≤ j → (x.sub[j]).lay (t.sub[j]) ≠ []
theorem okTail_full {t : Ty} {x : It} (h : t.full = true) (hi : x.isOf t = true) (q : List UInt8) : okTail t x q := by
 intro hk
 obtain ⟨k, z, l, ta⟩ := t
 obtain ⟨tx, b, s⟩ := x
 obtain ⟨rfl, _⟩ := full_parts h
 simp only [Ty.kind_mk] at hk
 subst hk
 simp [It.isOf, is1] at hi
 obtain ⟨⟨⟨_, h1⟩, h2⟩, _⟩ := hi
 refine ⟨fun h3 => ?_, fun j hj hj2 h3 => ?_⟩
 ·simp only [It.sub_mk, Ty.sub_mk] at h3; omega
 ·simp only [It.sub_mk, Ty.sub_mk, Ty.tail_mk] at hj hj2 h3; omega
theorem rdN_put {M : Int} {a t : Ty} {f : Nat → List UInt8 → RdL} : ∀ (s : List It) (i n : Nat) (q : List UInt8), (∀ j, t.at (i + j) = a) → (∀ x ∈ s, ∀ (n : Nat) (q : List UInt8), (n : Int) + x.count ≤ M → f n (x.lay a ++ q) = ⟨0, x, n + x.count, q⟩) → (n : Int) + countL s ≤ M →
 rdN f s.length n (layL s t i ++ q) = ⟨0, s, n + countL s, q⟩
 | [], i, n, q, _, _, _ => by simp [rdN, layL, countL]
 | x :: xs, i, n, q, ha, hf, hM => by
  simp only [countL] at hM
  have h0 := ha 0
  rw [Nat.add_zero] at h0
  have hx := hf x (by simp) n (layL xs t (i + 1) ++ q) (by omega)
  rw [List.length_cons, layL, h0, List.append_assoc, rdN, hx]
  simp only [ne_eq, not_true_eq_false, if_false]
  rw [rdN_put xs (i + 1) (n + x.count) q (fun j => by have := ha (j + 1); rwa [show i + (j + 1) = i + 1 + j from by omega] at this) (fun y hy => hf y (by simp [hy])) (by omega)]
  simp [RdS.cons, countL, Nat.add_assoc]
theorem rdT_put {M : Int} {t : Ty} : ∀ (tl : List Ty) (s : List It) (m i n : Nat) (q : List UInt8), (∀ j (h : j < tl.length), t.at (i + j) = tl[j]) → m ≤ s.length → s.length ≤ tl.length → (s.length < tl.length → q = []) →
 (∀ j (hj : j < s.length) (hj2 : j < tl.length), m ≤ j → (s[j]).lay (tl[j]) ≠ []) →
 (∀ j (hj : j < s.length) (hj2 : j < tl.length), ∀ (n : Nat) (q : List UInt8), (n : Int) + (s[j]).count ≤ M → (tl[j]).rd M n ((s[j]).lay (tl[j]) ++ q) = ⟨0, s[j], n + (s[j]).count, q⟩) → (n : Int) + countL s ≤ M →
 rdT M tl m n (layL s t i ++ q) = ⟨0, s, n + countL s, q⟩
 | [], s, m, i, n, q, _, _, hs, _, _, _, _ => by
  obtain rfl : s = [] := List.eq_nil_of_length_eq_zero (by simpa using hs)
  simp [rdT, layL, countL]
 | a :: tl, [], m, i, n, q, _, hm, _, hq, _, _, _ => by
  have hm0 : m = 0 := by simpa using hm
  have hq0 := hq (by simp)
  subst hm0 hq0
  simp [rdT, layL, countL]
 | a :: tl, x :: xs, m, i, n, q, ha, hm, hs, hq, hne, hf, hM => by
  simp only [countL] at hM
  have h0 := ha 0 (by simp)
  rw [Nat.add_zero] at h0
  have hx := hf 0 (by simp) (by simp) n (layL xs t (i + 1) ++ q) (by simp only [List.getElem_cons_zero]; omega)
  simp only [List.getElem_cons_zero] at hx h0
  rw [layL, h0, List.append_assoc, rdT, hx]
  rw [if_neg (by
   rintro ⟨hm0, hr⟩
   have := hne 0 (by simp) (by simp) (by omega)
   simp only [List.getElem_cons_zero] at this
   exact this (List.append_eq_nil_iff.1 hr).1)]
  simp only [ne_eq, not_true_eq_false, if_false]
  rw [rdT_put tl xs (m - 1) (i + 1) (n + x.count) q (fun j hj => by have := ha (j + 1) (by simpa using hj); simpa [show i + (j + 1) = i + 1 + j from by omega] using this) (by simp at hm; omega) (by simpa using hs) (fun h => hq (by simpa using h))
   (fun j hj hj2 h => by have := hne (j + 1) (by simpa using hj) (by simpa using hj2) (by omega); simpa using this) (fun j hj hj2 => by have := hf (j + 1) (by simpa using hj) (by simpa using hj2); simpa using this) (by omega)]
  simp [RdS.cons, countL, Nat.add_assoc]
theorem is1_one {z : Int} {l : List Ty} {ta : Int} {tx : ByteArray} {b : Bool} {m : Nat} (h : is1 (.mk 1 z l ta) tx b m = true) : b = false ∧ (tx.size : Int) ≤ z ∧ lead0 tx.data.toList = false := by
 simp [is1] at h; exact ⟨h.1.1, of_decide_eq_true h.1.2, h.2⟩
theorem is1_two {z : Int} {l : List Ty} {ta : Int} {tx : ByteArray} {b : Bool} {m : Nat} (h : is1 (.mk 2 z l ta) tx b m = true) : b = false ∧ (tx.size : Int) = z := by
 simp [is1] at h; exact ⟨h.1, of_decide_eq_true h.2⟩
theorem is1_three {z : Int} {l : List Ty} {ta : Int} {tx : ByteArray} {b : Bool} {m : Nat} (h : is1 (.mk 3 z l ta) tx b m = true) : b = false ∧ (tx.size : Int) ≤ z := by
 simp [is1] at h; exact ⟨h.1, of_decide_eq_true h.2⟩
theorem is1_four {z : Int} {l : List Ty} {ta : Int} {tx : ByteArray} {b : Bool} {m : Nat} (h : is1 (.mk 4 z l ta) tx b m = true) : b = true ∧ (m : Int) ≤ z := by
 simp [is1] at h; exact ⟨h.1, of_decide_eq_true h.2⟩
theorem is1_five {z : Int} {l : List Ty} {ta : Int} {tx : ByteArray} {b : Bool} {m : Nat} (h : is1 (.mk 5 z l ta) tx b m = true) : b = true ∧ m ≤ l.length ∧ (l.length : Int) - ta ≤ m := by
 simp [is1] at h; exact ⟨h.1.1, of_decide_eq_true h.1.2, of_decide_eq_true h.2⟩
theorem lay_one (tx : ByteArray) (b : Bool) (s : List It) (z : Int) (l : List Ty) (ta : Int) : (It.mk tx b s).lay (.mk 1 z l ta) = leD (beL tx.data.toList) z.toNat := rfl
theorem lay_two (tx : ByteArray) (b : Bool) (s : List It) (z : Int) (l : List Ty) (ta : Int) : (It.mk tx b s).lay (.mk 2 z l ta) = tx.data.toList := rfl
theorem lay_three (tx : ByteArray) (b : Bool) (s : List It) (z : Int) (l : List Ty) (ta : Int) : (It.mk tx b s).lay (.mk 3 z l ta) = cpPut tx.size ++ tx.data.toList := rfl
theorem lay_four (tx : ByteArray) (b : Bool) (s : List It) (z : Int) (l : List Ty) (ta : Int) : (It.mk tx b s).lay (.mk 4 z l ta) = cpPut s.length ++ layL s (.mk 4 z l ta) 0 := rfl
theorem lay_five (tx : ByteArray) (b : Bool) (s : List It) (z : Int) (l : List Ty) (ta : Int) : (It.mk tx b s).lay (.mk 5 z l ta) = layL s (.mk 5 z l ta) 0 := rfl
theorem rd_many {M : Int} {n : Nat} (h : M ≤ n) (t : Ty) (r : List UInt8) : t.rd M n r = .bad 4 n r := by obtain ⟨k, z, l, ta⟩ := t; rw [Ty.rd, if_pos h]
theorem rd_one {M : Int} {n : Nat} (h : ¬ M ≤ n) (z : Int) (l : List Ty) (ta : Int) (r : List UInt8) : (Ty.mk 1 z l ta).rd M n r = if r.length < z.toNat then .bad 2 (n + 1) r else ⟨0, .mk ⟨(minL (leL (r.take z.toNat))).toArray⟩ false [], n + 1, r.drop z.toNat⟩ := by rw [Ty.rd, if_neg h]; rfl
theorem rd_two {M : Int} {n : Nat} (h : ¬ M ≤ n) (z : Int) (l : List Ty) (ta : Int) (r : List UInt8) : (Ty.mk 2 z l ta).rd M n r = if r.length < z.toNat then .bad 2 (n + 1) r else ⟨0, .mk ⟨(r.take z.toNat).toArray⟩ false [], n + 1, r.drop z.toNat⟩ := by rw [Ty.rd, if_neg h]; rfl
theorem rd_three {M : Int} {n : Nat} (h : ¬ M ≤ n) (z : Int) (l : List Ty) (ta : Int) (r : List UInt8) : (Ty.mk 3 z l ta).rd M n r = if (cpNext r).2.2 ≠ 0 then .bad (cpNext r).2.2 (n + 1) r else if z < (cpNext r).1 then .bad 5 (n + 1) r
 else if (r.drop (cpNext r).2.1).length < (cpNext r).1 then .bad 2 (n + 1) (r.drop (cpNext r).2.1)
 else ⟨0, .mk ⟨((r.drop (cpNext r).2.1).take (cpNext r).1).toArray⟩ false [], n + 1, (r.drop (cpNext r).2.1).drop (cpNext r).1⟩ := by rw [Ty.rd, if_neg h]; rfl
theorem rd_four {M : Int} {n : Nat} (h : ¬ M ≤ n) (z : Int) (l : List Ty) (ta : Int) (r : List UInt8) : (Ty.mk 4 z l ta).rd M n r = if (cpNext r).2.2 ≠ 0 then .bad (cpNext r).2.2 (n + 1) r else if z < (cpNext r).1 then .bad 5 (n + 1) r
 else (rdF M l (cpNext r).1 (n + 1) (r.drop (cpNext r).2.1)).list := by rw [Ty.rd, if_neg h]; rfl
theorem rd_five {M : Int} {n : Nat} (h : ¬ M ≤ n) (z : Int) (l : List Ty) (ta : Int) (r : List UInt8) : (Ty.mk 5 z l ta).rd M n r = (rdT M l ((l.length : Int) - ta).toNat (n + 1) r).list := by rw [Ty.rd, if_neg h]; rfl
theorem isOfL_at : ∀ (s : List It) (t : Ty) (i : Nat), isOfL s t i = true → ∀ j (h : j < s.length), (s[j]).isOf (t.at (i + j)) = true
 | [], _, _, _, j, h => by simp at h
 | x :: xs, t, i, hi, 0, h => by simp only [isOfL, Bool.and_eq_true] at hi; simpa using hi.1
 | x :: xs, t, i, hi, j + 1, h => by
  simp only [isOfL, Bool.and_eq_true] at hi
  have := isOfL_at xs t (i + 1) hi.2 j (by simpa using h)
  rw [show i + (j + 1) = i + 1 + j from by omega]
  simpa using this
theorem fullL_at {s : List Ty} (h : fullL s = true) : ∀ k (hk : k < s.length), (s[k]).full = true := by
 induction s with
 | nil => intro k hk; simp at hk
 | cons x xs ih =>
  simp only [fullL, Bool.and_eq_true] at h
  intro k hk
  cases k with
  | zero => exact h.1
  | succ k => exact ih h.2 k (by simpa using hk)
theorem rd_lay (M : Int) (hM : M ≤ 1024) (x : It) : ∀ (t : Ty) (n : Nat) (q : List UInt8), t.right = true → fullL t.sub = true → okTail t x q → x.isOf t = true → x.right = true → (n : Int) + x.count ≤ M →
 t.rd M n (x.lay t ++ q) = ⟨0, x, n + x.count, q⟩ := by
 induction x using It.ind with
 | h tx b s ih =>
  intro t n q hr hfl htl hi hx hn
  obtain ⟨k, z, l, ta⟩ := t
  obtain ⟨hok, hrl⟩ := right_ok hr
  obtain ⟨hfm, hrs⟩ := right_parts hx
  have hall := rightL_mem hrs
  have hn1 : ¬ M ≤ (n : Int) := by simp only [It.count] at hn; omega
  simp only [It.isOf, Bool.and_eq_true] at hi
  obtain ⟨hi1, hi2⟩ := hi
  have hat := isOfL_at s _ 0 hi2
  simp only [Nat.zero_add] at hat
  simp only [Ty.sub_mk] at hfl
  rcases ok_ways hok with ⟨rfl, hs, hn0, ht⟩ | ⟨rfl, h3, h4, hn0, ht⟩ | ⟨rfl, h3, h4, hn0, ht⟩ | ⟨rfl, h3, h4, hn0, ht⟩ | ⟨rfl, h3, h4, h5, h6⟩
  ·replace hi1 := is1_one hi1
   obtain ⟨rfl, hz, hl0⟩ := hi1
   have hs0 : s = [] := by simpa [formed] using hfm
   subst hs0
   have hlt := beL_lt tx.data.toList
   rw [toList_size] at hlt
   have hle : tx.size ≤ z.toNat := by omega
   have hlt2 : beL tx.data.toList < 2 ^ (8 * z.toNat) := Nat.lt_of_lt_of_le hlt (Nat.pow_le_pow_right (by omega) (by omega))
   rw [lay_one, rd_one hn1]
   rw [if_neg (by rw [List.length_append, leD_length]; omega), List.take_left' (leD_length _ _), List.drop_left' (leD_length _ _), leL_D _ _ hlt2, min_be _ hl0, bytes_of]
   simp [It.count, countL]
  ·replace hi1 := is1_two hi1
   obtain ⟨rfl, hz⟩ := hi1
   have hs0 : s = [] := by simpa [formed] using hfm
   subst hs0
   have hle : tx.data.toList.length = z.toNat := by rw [toList_size]; omega
   rw [lay_two, rd_two hn1]
   rw [if_neg (by rw [List.length_append]; omega), List.take_left' hle, List.drop_left' hle, bytes_of]
   simp [It.count, countL]
  ·replace hi1 := is1_three hi1
   obtain ⟨rfl, hz⟩ := hi1
   have hs0 : s = [] := by simpa [formed] using hfm
   subst hs0
   have hcp := cpNext_put tx.size (tx.data.toList ++ q) (by omega)
   have hdr : (cpPut tx.size ++ (tx.data.toList ++ q)).drop (cpPut tx.size).length = tx.data.toList ++ q := List.drop_left' rfl
   rw [lay_three, List.append_assoc, rd_three hn1]
   rw [hcp]
   simp only [hdr]
   rw [if_neg (by simp), if_neg (by omega), if_neg (by rw [List.length_append, toList_size]; omega), List.take_left' (toList_size tx), List.drop_left' (toList_size tx), bytes_of]
   simp [It.count, countL]
  ·replace hi1 := is1_four hi1
   obtain ⟨rfl, hz⟩ := hi1
   have htx : tx = ⟨#[]⟩ := by
    have : tx.size = 0 := by simpa [formed] using hfm
    exact bytes_ext (by simp [List.eq_nil_of_length_eq_zero ((toList_size tx).trans this)])
   subst htx
   obtain ⟨a, rfl⟩ := List.length_eq_one_iff.1 hn0
   have haa : ∀ j, (Ty.mk 4 z [a] ta).at j = a := fun j => by unfold Ty.at; simp
   have hra : a.right = true := by simpa [rightT] using hrl
   have hfa : a.full = true := by simpa [fullL] using hfl
   have hcp := cpNext_put s.length (layL s (.mk 4 z [a] ta) 0 ++ q) (by omega)
   have hdr : (cpPut s.length ++ (layL s (.mk 4 z [a] ta) 0 ++ q)).drop (cpPut s.length).length = layL s (.mk 4 z [a] ta) 0 ++ q := List.drop_left' rfl
   simp only [It.count] at hn
   have hrd := rdN_put (M := M) (a := a) (t := .mk 4 z [a] ta) (f := fun n r => a.rd M n r) s 0 (n + 1) q (fun j => haa _) (fun x hxm n q hnx => by
    obtain ⟨j, hj, rfl⟩ := List.getElem_of_mem hxm
    have hio := hat j hj
    rw [haa] at hio
    obtain ⟨ak, az, al, at_⟩ := a
    exact ih _ hxm _ n q hra (full_parts hfa).2 (okTail_full hfa hio q) hio (hall _ hxm) hnx) (by omega)
   rw [lay_four, List.append_assoc, rd_four hn1]
   rw [hcp]
   simp only [hdr, rdF]
   rw [if_neg (by simp), if_neg (by omega), hrd]
   simp [RdS.list, It.count, Nat.add_assoc]
  ·replace hi1 := is1_five hi1
   obtain ⟨rfl, hz1, hz2⟩ := hi1
   have htx : tx = ⟨#[]⟩ := by
    have : tx.size = 0 := by simpa [formed] using hfm
    exact bytes_ext (by simp [List.eq_nil_of_length_eq_zero ((toList_size tx).trans this)])
   subst htx
   have haa : ∀ j (h : j < l.length), (Ty.mk 5 z l ta).at (0 + j) = l[j] := fun j h => by unfold Ty.at; simp [h]
   obtain ⟨ht1, ht2⟩ := htl rfl
   simp only [It.sub_mk, Ty.sub_mk, Ty.tail_mk] at ht1 ht2
   simp only [It.count] at hn
   have hrd := rdT_put (M := M) (t := .mk 5 z l ta) l s ((l.length : Int) - ta).toNat 0 (n + 1) q haa (by omega) hz1 ht1 ht2 (fun j hj hj2 n q hnx => by
    have hxm := List.getElem_mem hj
    have hio := hat j hj
    have h0 := haa j hj2
    rw [Nat.zero_add] at h0
    rw [h0] at hio
    have hfa := fullL_at hfl j hj2
    have hra := rightT_at hrl j hj2
    generalize l[j] = a at *
    obtain ⟨ak, az, al, at_⟩ := a
    exact ih _ hxm _ n q hra (full_parts hfa).2 (okTail_full hfa hio q) hio (hall _ hxm) hnx) (by omega)
   rw [lay_five, rd_five hn1]
   rw [hrd]
   simp [RdS.list, It.count, Nat.add_assoc]
theorem rdN_cut {M : Int} {a t : Ty} {f : Nat → List UInt8 → RdL} : ∀ (s : List It) (i n c : Nat), (∀ j, t.at (i + j) = a) → (∀ x ∈ s, ∀ (n : Nat) (q : List UInt8), (n : Int) + x.count ≤ M → f n (x.lay a ++ q) = ⟨0, x, n + x.count, q⟩) →
 (∀ x ∈ s, ∀ (n c : Nat), (n : Int) + x.count ≤ M → c < (x.lay a).length → (f n ((x.lay a).take c)).e = 2) → (n : Int) + countL s ≤ M → c < (layL s t i).length → (rdN f s.length n ((layL s t i).take c)).e = 2
 | [], i, n, c, _, _, _, _, hc => by simp [layL] at hc
 | x :: xs, i, n, c, ha, hf, hg, hM, hc => by
  simp only [countL] at hM
  have h0 := ha 0
  rw [Nat.add_zero] at h0
  rw [layL, h0] at hc ⊢
  rw [List.length_cons, rdN]
  by_cases hlt : c < (x.lay a).length
  ·rw [List.take_append_of_le_length (by omega)]
   have := hg x (by simp) n c (by omega) hlt
   rw [if_pos (by rw [this]; decide)]
   exact this
  ·have e : (x.lay a ++ layL xs t (i + 1)).take c = x.lay a ++ (layL xs t (i + 1)).take (c - (x.lay a).length) := by rw [List.take_append, List.take_of_length_le (by omega)]
   rw [e, hf x (by simp) n _ (by omega)]
   simp only [ne_eq, not_true_eq_false, if_false, RdS.cons]
   rw [List.length_append] at hc
   exact rdN_cut xs (i + 1) (n + x.count) _ (fun j => by have := ha (j + 1); rwa [show i + (j + 1) = i + 1 + j from by omega] at this) (fun y hy => hf y (by simp [hy])) (fun y hy => hg y (by simp [hy])) (by omega) (by omega)
theorem rdT_cut {M : Int} {t : Ty} : ∀ (tl : List Ty) (s : List It) (i n c : Nat), (∀ j (h : j < tl.length), t.at (i + j) = tl[j]) → s.length = tl.length →
 (∀ j (hj : j < s.length) (hj2 : j < tl.length), ∀ (n : Nat) (q : List UInt8), (n : Int) + (s[j]).count ≤ M → (tl[j]).rd M n ((s[j]).lay (tl[j]) ++ q) = ⟨0, s[j], n + (s[j]).count, q⟩) →
 (∀ j (hj : j < s.length) (hj2 : j < tl.length), ∀ (n c : Nat), (n : Int) + (s[j]).count ≤ M → c < ((s[j]).lay (tl[j])).length → ((tl[j]).rd M n (((s[j]).lay (tl[j])).take c)).e = 2) → (n : Int) + countL s ≤ M → c < (layL s t i).length →
 (rdT M tl tl.length n ((layL s t i).take c)).e = 2
 | [], s, i, n, c, _, hs, _, _, _, hc => by
  obtain rfl : s = [] := List.eq_nil_of_length_eq_zero (by simpa using hs)
  simp [layL] at hc
 | a :: tl, [], i, n, c, _, hs, _, _, _, _ => by simp at hs
 | a :: tl, x :: xs, i, n, c, ha, hs, hf, hg, hM, hc => by
  simp only [countL] at hM
  have h0 := ha 0 (by simp)
  simp only [Nat.add_zero, List.getElem_cons_zero] at h0
  rw [layL, h0] at hc ⊢
  rw [List.length_cons, rdT, if_neg (by rintro ⟨h, _⟩; omega)]
  by_cases hlt : c < (x.lay a).length
  ·rw [List.take_append_of_le_length (by omega)]
   have := hg 0 (by simp) (by simp) n c (by simp only [List.getElem_cons_zero]; omega) (by simpa using hlt)
   simp only [List.getElem_cons_zero] at this
   rw [if_pos (by rw [this]; decide)]
   exact this
  ·have e : (x.lay a ++ layL xs t (i + 1)).take c = x.lay a ++ (layL xs t (i + 1)).take (c - (x.lay a).length) := by rw [List.take_append, List.take_of_length_le (by omega)]
   have hx := hf 0 (by simp) (by simp) n ((layL xs t (i + 1)).take (c - (x.lay a).length)) (by simp only [List.getElem_cons_zero]; omega)
   simp only [List.getElem_cons_zero] at hx
   rw [e, hx]
   simp only [ne_eq, not_true_eq_false, if_false, RdS.cons, Nat.add_sub_cancel]
   rw [List.length_append] at hc
   exact rdT_cut tl xs (i + 1) (n + x.count) _ (fun j hj => by have := ha (j + 1) (by simpa using hj); simpa [show i + (j + 1) = i + 1 + j from by omega] using this) (by simpa using hs)
    (fun j hj hj2 => by have := hf (j + 1) (by simpa using hj) (by simpa using hj2); simpa using this) (fun j hj hj2 => by have := hg (j + 1) (by simpa using hj) (by simpa using hj2); simpa using this) (by omega) (by omega)
theorem rd_cut (M : Int) (hM : M ≤ 1024) (x : It) : ∀ (t : Ty) (n c : Nat), t.right = true → t.full = true → x.isOf t = true → x.right = true → (n : Int) + x.count ≤ M → c < (x.lay t).length → (t.rd M n ((x.lay t).take c)).e = 2 := by
 induction x using It.ind with
 | h tx b s ih =>
  intro t n c hr hfl hi hx hn hc
  obtain ⟨k, z, l, ta⟩ := t
  obtain ⟨hok, hrl⟩ := right_ok hr
  obtain ⟨hfm, hrs⟩ := right_parts hx
  have hall := rightL_mem hrs
  have hn1 : ¬ M ≤ (n : Int) := by simp only [It.count] at hn; omega
  simp only [It.isOf, Bool.and_eq_true] at hi
  obtain ⟨hi1, hi2⟩ := hi
  have hat := isOfL_at s _ 0 hi2
  simp only [Nat.zero_add] at hat
  obtain ⟨rfl, hfl2⟩ := full_parts hfl
  rcases ok_ways hok with ⟨rfl, hs, hn0, ht⟩ | ⟨rfl, h3, h4, hn0, ht⟩ | ⟨rfl, h3, h4, hn0, ht⟩ | ⟨rfl, h3, h4, hn0, ht⟩ | ⟨rfl, h3, h4, h5, h6⟩
  ·rw [lay_one] at hc ⊢
   rw [leD_length] at hc
   rw [rd_one hn1, if_pos (by rw [List.length_take, leD_length]; omega)]; rfl
  ·replace hi1 := is1_two hi1
   rw [lay_two] at hc ⊢
   rw [toList_size] at hc
   rw [rd_two hn1, if_pos (by rw [List.length_take, toList_size]; omega)]; rfl
  ·replace hi1 := is1_three hi1
   rw [lay_three] at hc ⊢
   rw [rd_three hn1]
   by_cases hlt : c < (cpPut tx.size).length
   ·rw [List.take_append_of_le_length (by omega), cpNext_cut _ _ hlt]
    simp [RdL.bad]
   ·have e : (cpPut tx.size ++ tx.data.toList).take c = cpPut tx.size ++ tx.data.toList.take (c - (cpPut tx.size).length) := by rw [List.take_append, List.take_of_length_le (by omega)]
    rw [List.length_append, toList_size] at hc
    rw [e, cpNext_put tx.size _ (by omega)]
    have hdr : (cpPut tx.size ++ tx.data.toList.take (c - (cpPut tx.size).length)).drop (cpPut tx.size).length = tx.data.toList.take (c - (cpPut tx.size).length) := List.drop_left' rfl
    simp only [hdr]
    rw [if_neg (by simp), if_neg (by omega), if_pos (by rw [List.length_take, toList_size]; omega)]; rfl
  ·replace hi1 := is1_four hi1
   obtain ⟨rfl, hz⟩ := hi1
   obtain ⟨a, rfl⟩ := List.length_eq_one_iff.1 hn0
   have haa : ∀ j, (Ty.mk 4 z [a] 0).at j = a := fun j => by unfold Ty.at; simp
   have hra : a.right = true := by simpa [rightT] using hrl
   have hfa : a.full = true := by simpa [fullL] using hfl2
   simp only [It.count] at hn
   rw [lay_four] at hc ⊢
   rw [rd_four hn1]
   by_cases hlt : c < (cpPut s.length).length
   ·rw [List.take_append_of_le_length (by omega), cpNext_cut _ _ hlt]
    simp [RdL.bad]
   ·have e : (cpPut s.length ++ layL s (.mk 4 z [a] 0) 0).take c = cpPut s.length ++ (layL s (.mk 4 z [a] 0) 0).take (c - (cpPut s.length).length) := by rw [List.take_append, List.take_of_length_le (by omega)]
    rw [List.length_append] at hc
    rw [e, cpNext_put s.length _ (by omega)]
    have hdr : (cpPut s.length ++ (layL s (.mk 4 z [a] 0) 0).take (c - (cpPut s.length).length)).drop (cpPut s.length).length = (layL s (.mk 4 z [a] 0) 0).take (c - (cpPut s.length).length) := List.drop_left' rfl
    simp only [hdr, rdF]
    rw [if_neg (by simp), if_neg (by omega)]
    refine rdN_cut (M := M) (a := a) (t := .mk 4 z [a] 0) s 0 (n + 1) _ (fun j => haa _) (fun x hxm n q hnx => ?_) (fun x hxm n c hnx hc => ?_) (by omega) (by omega)
    ·obtain ⟨j, hj, rfl⟩ := List.getElem_of_mem hxm
     have hio := hat j hj
     rw [haa] at hio
     obtain ⟨ak, az, al, at_⟩ := a
     exact rd_lay M hM _ _ n q hra (full_parts hfa).2 (okTail_full hfa hio q) hio (hall _ hxm) hnx
    ·obtain ⟨j, hj, rfl⟩ := List.getElem_of_mem hxm
     have hio := hat j hj
     rw [haa] at hio
     exact ih _ hxm a n c hra hfa hio (hall _ hxm) hnx hc
  ·replace hi1 := is1_five hi1
   obtain ⟨rfl, hz1, hz2⟩ := hi1
   have haa : ∀ j (h : j < l.length), (Ty.mk 5 z l 0).at (0 + j) = l[j] := fun j h => by unfold Ty.at; simp [h]
   simp only [It.count] at hn
   rw [lay_five] at hc ⊢
   rw [rd_five hn1, show ((l.length : Int) - 0).toNat = l.length from by omega]
   refine rdT_cut (M := M) (t := .mk 5 z l 0) l s 0 (n + 1) c haa (by omega) (fun j hj hj2 n q hnx => ?_) (fun j hj hj2 n c hnx hc => ?_) (by omega) hc
   ·have hxm := List.getElem_mem hj
    have hio := hat j hj
    have h0 := haa j hj2
    rw [Nat.zero_add] at h0
    rw [h0] at hio
    have hfa := fullL_at hfl2 j hj2
    have hra := rightT_at hrl j hj2
    generalize l[j] = a at *
    obtain ⟨ak, az, al, at_⟩ := a
    exact rd_lay M hM _ _ n q hra (full_parts hfa).2 (okTail_full hfa hio q) hio (hall _ hxm) hnx
   ·have hxm := List.getElem_mem hj
    have hio := hat j hj
    have h0 := haa j hj2
    rw [Nat.zero_add] at h0
    rw [h0] at hio
    exact ih _ hxm _ n c (rightT_at hrl j hj2) (fullL_at hfl2 j hj2) hio (hall _ hxm) hnx hc
structure RdOk (M : Int) (t : Ty) (n : Nat) (r : List UInt8) (R : RdL) : Prop where
 isOf : R.x.isOf t = true
 right : R.x.right = true
 num : R.n = n + R.x.count
 many : (R.n : Int) ≤ M
 lay : r = R.x.lay t ++ R.q
 deep : R.x.deep ≤ t.deep
structure RdsOk (M : Int) (t : Ty) (i n : Nat) (r : List UInt8) (R : RdS) : Prop where
 isOf : isOfL R.xs t i = true
 right : rightL R.xs = true
 num : R.n = n + countL R.xs
 many : (R.n : Int) ≤ M
 lay : r = layL R.xs t i ++ R.q
theorem rdN_back {M : Int} {a t : Ty} {f : Nat → List UInt8 → RdL} (hf : ∀ n r, (f n r).e = 0 → RdOk M a n r (f n r)) : ∀ (c i n : Nat) (r : List UInt8), (∀ j, t.at (i + j) = a) → (n : Int) ≤ M → (rdN f c n r).e = 0 →
 RdsOk M t i n r (rdN f c n r) ∧ (rdN f c n r).xs.length = c ∧ deepL (rdN f c n r).xs ≤ a.deep
 | 0, i, n, r, _, hM, _ => ⟨⟨rfl, rfl, by simp [rdN, countL], hM, by simp [rdN, layL]⟩, rfl, by simp [rdN, deepL]⟩
 | c + 1, i, n, r, ha, hM, h => by
  rw [rdN] at h ⊢
  by_cases h0 : (f n r).e = 0
  ·rw [if_neg (by simp [h0])] at h ⊢
   have h1 := hf n r h0
   obtain ⟨h2, h3, h4⟩ := rdN_back hf c (i + 1) (f n r).n (f n r).q (fun j => by have := ha (j + 1); rwa [show i + (j + 1) = i + 1 + j from by omega] at this) h1.many h
   have ha0 := ha 0
   rw [Nat.add_zero] at ha0
   refine ⟨⟨?_, ?_, ?_, h2.many, ?_⟩, by simp [RdS.cons, h3], ?_⟩
   ·simp only [RdS.cons, isOfL, ha0, h1.isOf, h2.isOf, Bool.and_self]
   ·simp only [RdS.cons, rightL, h1.right, h2.right, Bool.and_self]
   ·have e1 := h2.num; have e2 := h1.num; simp only [RdS.cons, countL]; omega
   ·simp only [RdS.cons, layL, ha0, List.append_assoc]; rw [← h2.lay]; exact h1.lay
   ·simp only [RdS.cons, deepL]; have := h1.deep; omega
  ·rw [if_pos (by simpa using h0)] at h; exact absurd h h0
theorem rdT_back {M : Int} {t : Ty} : ∀ (tl : List Ty) (m i n : Nat) (r : List UInt8), (∀ j (h : j < tl.length), t.at (i + j) = tl[j]) → (∀ a ∈ tl, ∀ n r, (a.rd M n r).e = 0 → RdOk M a n r (a.rd M n r)) → (n : Int) ≤ M → m ≤ tl.length → (rdT M tl m n r).e = 0 →
 RdsOk M t i n r (rdT M tl m n r) ∧ m ≤ (rdT M tl m n r).xs.length ∧ (rdT M tl m n r).xs.length ≤ tl.length ∧ deepL (rdT M tl m n r).xs ≤ deepT tl
 | [], m, i, n, r, _, _, hM, hm, _ => ⟨⟨rfl, rfl, by simp [rdT, countL], hM, by simp [rdT, layL]⟩, by simpa [rdT] using hm, by simp [rdT], by simp [rdT, deepL]⟩
 | a :: tl, m, i, n, r, ha, hf, hM, hm, h => by
  rw [rdT] at h ⊢
  by_cases hz : m = 0 ∧ r = []
  ·rw [if_pos hz]
   obtain ⟨rfl, rfl⟩ := hz
   exact ⟨⟨rfl, rfl, by simp [countL], hM, by simp [layL]⟩, by simp, by simp, by simp [deepL]⟩
  ·rw [if_neg hz] at h ⊢
   by_cases h0 : (a.rd M n r).e = 0
   ·rw [if_neg (by simp [h0])] at h ⊢
    have h1 := hf a (by simp) n r h0
    obtain ⟨h2, h3, h4, h5⟩ := rdT_back tl (m - 1) (i + 1) (a.rd M n r).n (a.rd M n r).q (fun j hj => by have := ha (j + 1) (by simpa using hj); simpa [show i + (j + 1) = i + 1 + j from by omega] using this) (fun b hb => hf b (by simp [hb])) h1.many (by simp at hm; omega) h
    have ha0 := ha 0 (by simp)
    simp only [Nat.add_zero, List.getElem_cons_zero] at ha0
    refine ⟨⟨?_, ?_, ?_, h2.many, ?_⟩, by simp only [RdS.cons, List.length_cons]; omega, by simp only [RdS.cons, List.length_cons]; omega, ?_⟩
    ·simp only [RdS.cons, isOfL, ha0, h1.isOf, h2.isOf, Bool.and_self]
    ·simp only [RdS.cons, rightL, h1.right, h2.right, Bool.and_self]
    ·have e1 := h2.num; have e2 := h1.num; simp only [RdS.cons, countL]; omega
    ·simp only [RdS.cons, layL, ha0, List.append_assoc]; rw [← h2.lay]; exact h1.lay
    ·simp only [RdS.cons, deepL, deepT]; have := h1.deep; omega
   ·rw [if_pos (by simpa using h0)] at h; exact absurd h h0
theorem mk1_one {z : Int} {l : List Ty} {ta : Int} {tx : ByteArray} {m : Nat} (h1 : (tx.size : Int) ≤ z) (h2 : lead0 tx.data.toList = false) : is1 (.mk 1 z l ta) tx false m = true := by
 show (!false && decide ((tx.size : Int) ≤ z) && !lead0 tx.data.toList) = true
 rw [h2, decide_eq_true h1]; rfl
theorem mk1_two {z : Int} {l : List Ty} {ta : Int} {tx : ByteArray} {m : Nat} (h1 : (tx.size : Int) = z) : is1 (.mk 2 z l ta) tx false m = true := by
 show (!false && decide ((tx.size : Int) = z)) = true
 rw [decide_eq_true h1]; rfl
theorem mk1_three {z : Int} {l : List Ty} {ta : Int} {tx : ByteArray} {m : Nat} (h1 : (tx.size : Int) ≤ z) : is1 (.mk 3 z l ta) tx false m = true := by
 show (!false && decide ((tx.size : Int) ≤ z)) = true
 rw [decide_eq_true h1]; rfl
theorem mk1_four {z : Int} {l : List Ty} {ta : Int} {tx : ByteArray} {m : Nat} (h1 : (m : Int) ≤ z) : is1 (.mk 4 z l ta) tx true m = true := by
 show (true && decide ((m : Int) ≤ z)) = true
 rw [decide_eq_true h1]; rfl
theorem mk1_five {z : Int} {l : List Ty} {ta : Int} {tx : ByteArray} {m : Nat} (h1 : m ≤ l.length) (h2 : (l.length : Int) - ta ≤ m) : is1 (.mk 5 z l ta) tx true m = true := by
 show (true && decide (m ≤ l.length) && decide ((l.length : Int) - ta ≤ m)) = true
 rw [decide_eq_true h1, decide_eq_true h2]; rfl
theorem lead0_minL (n : Nat) : lead0 (minL n) = false := by
 by_cases h : n = 0
 ·subst h; rw [minL_zero]; rfl
 ·cases hl : minL n with
  | nil => rfl
  | cons b t =>
   have h1 := minR_lead n h
   rw [hl] at h1
   show (b == 0) = false
   exact beq_eq_false_iff_ne.2 (by simpa using h1)
theorem rd_back (M : Int) (hM : M ≤ 1024) (t : Ty) : ∀ (n : Nat) (r : List UInt8), t.right = true → (t.rd M n r).e = 0 → RdOk M t n r (t.rd M n r) := by
 induction t using Ty.ind with
 | h k z l ta ih =>
  intro n r hr h
  obtain ⟨hok, hrl⟩ := right_ok hr
  by_cases hn1 : M ≤ (n : Int)
  ·rw [rd_many hn1] at h; cases h
  rcases ok_ways hok with ⟨rfl, hs, hn0, ht⟩ | ⟨rfl, h3, h4, hn0, ht⟩ | ⟨rfl, h3, h4, hn0, ht⟩ | ⟨rfl, h3, h4, hn0, ht⟩ | ⟨rfl, h3, h4, h5, h6⟩
  ·rw [rd_one hn1] at h ⊢
   by_cases hl : r.length < z.toNat
   ·rw [if_pos hl] at h; cases h
   rw [if_neg hl]
   have hlt := leL_lt (r.take z.toNat)
   have hlen : (r.take z.toNat).length = z.toNat := by rw [List.length_take]; omega
   rw [hlen] at hlt
   have hml := minL_length z.toNat _ hlt
   refine ⟨?_, rfl, by simp [It.count, countL], by simp only; omega, ?_, ?_⟩
   ·simp only [It.isOf, isOfL, Bool.and_true]
    exact mk1_one (by rw [size_of]; omega) (by simpa using lead0_minL _)
   ·rw [lay_one]
    simp only
    have e := leD_L (r.take z.toNat)
    rw [hlen] at e
    rw [minR_be, e, List.take_append_drop]
   ·simp [It.deep, deepL, Ty.deep]
  ·rw [rd_two hn1] at h ⊢
   by_cases hl : r.length < z.toNat
   ·rw [if_pos hl] at h; cases h
   rw [if_neg hl]
   have hlen : (r.take z.toNat).length = z.toNat := by rw [List.length_take]; omega
   refine ⟨?_, rfl, by simp [It.count, countL], by simp only; omega, ?_, ?_⟩
   ·simp only [It.isOf, isOfL, Bool.and_true]
    exact mk1_two (by rw [size_of]; omega)
   ·rw [lay_two]
    simp only
    rw [List.take_append_drop]
   ·simp [It.deep, deepL, Ty.deep]
  ·rw [rd_three hn1] at h ⊢
   by_cases he : (cpNext r).2.2 ≠ 0
   ·rw [if_pos he] at h; exact absurd h he
   rw [if_neg he] at h ⊢
   by_cases hz : z < ((cpNext r).1 : Int)
   ·rw [if_pos hz] at h; cases h
   rw [if_neg hz] at h ⊢
   by_cases hl : (r.drop (cpNext r).2.1).length < (cpNext r).1
   ·rw [if_pos hl] at h; cases h
   rw [if_neg hl]
   obtain ⟨b1, b2, b3, b4⟩ := cpNext_back r (cpNext r).1 (cpNext r).2.1 (by rw [← Decidable.not_not.1 he])
   generalize cpNext r = C at *
   have hlen : ((r.drop C.2.1).take C.1).length = C.1 := by rw [List.length_take]; omega
   refine ⟨?_, rfl, by simp [It.count, countL], by simp only; omega, ?_, ?_⟩
   ·simp only [It.isOf, isOfL, Bool.and_true]
    exact mk1_three (by rw [size_of]; omega)
   ·rw [lay_three]
    simp only
    rw [show (⟨((r.drop C.2.1).take C.1).toArray⟩ : ByteArray).size = C.1 from by rw [size_of, hlen], ← b3, List.append_assoc, List.take_append_drop, List.take_append_drop]
   ·simp [It.deep, deepL, Ty.deep]
  ·rw [rd_four hn1] at h ⊢
   by_cases he : (cpNext r).2.2 ≠ 0
   ·rw [if_pos he] at h; exact absurd h he
   rw [if_neg he] at h ⊢
   by_cases hz : z < ((cpNext r).1 : Int)
   ·rw [if_pos hz] at h; cases h
   rw [if_neg hz] at h ⊢
   obtain ⟨b1, b2, b3, b4⟩ := cpNext_back r (cpNext r).1 (cpNext r).2.1 (by rw [← Decidable.not_not.1 he])
   generalize cpNext r = C at *
   obtain ⟨a, rfl⟩ := List.length_eq_one_iff.1 hn0
   have haa : ∀ j, (Ty.mk 4 z [a] ta).at j = a := fun j => by unfold Ty.at; simp
   have hra : a.right = true := by simpa [rightT] using hrl
   simp only [rdF, RdS.list] at h ⊢
   obtain ⟨g1, g2, g3⟩ := rdN_back (M := M) (a := a) (t := .mk 4 z [a] ta) (fun n r h => ih a (by simp) n r hra h) C.1 0 (n + 1) (r.drop C.2.1) (fun j => haa _) (by omega) h
   generalize rdN (fun n r => a.rd M n r) C.1 (n + 1) (r.drop C.2.1) = R at *
   refine ⟨?_, ?_, ?_, g1.many, ?_, ?_⟩
   ·simp only [It.isOf, g1.isOf, Bool.and_true]
    exact mk1_four (by rw [g2]; omega)
   ·simp [It.right, g1.right, formed, ByteArray.size]
   ·simp only [It.count, g1.num]; omega
   ·rw [lay_four, List.append_assoc, ← g1.lay, g2, ← b3, List.take_append_drop]
   ·simp only [It.deep, Ty.deep, deepT]; omega
  ·rw [rd_five hn1] at h ⊢
   have haa : ∀ j (h : j < l.length), (Ty.mk 5 z l ta).at (0 + j) = l[j] := fun j h => by unfold Ty.at; simp [h]
   simp only [RdS.list] at h ⊢
   obtain ⟨g1, g2, g3, g4⟩ := rdT_back (M := M) (t := .mk 5 z l ta) l ((l.length : Int) - ta).toNat 0 (n + 1) r haa (fun a ha n r h => by
    obtain ⟨j, hj, rfl⟩ := List.getElem_of_mem ha
    exact ih _ ha n r (rightT_at hrl j hj) h) (by omega) (by omega) h
   generalize rdT M l ((l.length : Int) - ta).toNat (n + 1) r = R at *
   refine ⟨?_, ?_, ?_, g1.many, ?_, ?_⟩
   ·simp only [It.isOf, g1.isOf, Bool.and_true]
    exact mk1_five g3 (by omega)
   ·simp [It.right, g1.right, formed, ByteArray.size]
   ·simp only [It.count, g1.num]; omega
   ·rw [lay_five]; exact g1.lay
   ·simp only [It.deep, Ty.deep]; omega
def lyPutE (t : Ty) (x : It) (M : Int) : Int := if t.flat = false then 1 else if fitE t x ≠ 0 then fitE t x else if M < x.count then 4 else 0
def lyPut (t : Ty) (x : It) (M : Int) : ByteArray × Int := if lyPutE t x M = 0 then (⟨(x.lay t).toArray⟩, 0) else (⟨#[]⟩, lyPutE t x M)
def lyRd (t : Ty) (s : ByteArray) (M : Int) : RdL := t.rd (min M 1024) 0 s.data.toList
def lyNext (t : Ty) (s : ByteArray) (M : Int) : Int × It × Nat := if t.flat = false then (1, noIt, 0) else if (lyRd t s M).e ≠ 0 then ((lyRd t s M).e, noIt, 0) else (0, (lyRd t s M).x, s.size - (lyRd t s M).q.length)
def lyGet (t : Ty) (s : ByteArray) (M : Int) : Int × It := if (lyNext t s M).1 ≠ 0 then ((lyNext t s M).1, noIt) else if (lyNext t s M).2.2 < s.size then (3, noIt) else (0, (lyNext t s M).2.1)
mutual
def Ty.low : Ty → Int
 | .mk k z l _ => if k = 1 ∨ k = 2 then z else if k = 3 ∨ k = 4 then 1 else lowL l
def lowL : List Ty → Int
 | [] => 0
 | x :: xs => x.low + lowL xs
end
def tinyAt (t : Ty) : Bool := decide (0 < t.tail) && (List.range t.sub.length).any fun i => decide ((t.sub.length : Int) - t.tail ≤ i) && decide (((t.sub[i]?).getD (.mk 0 0 [] 0)).low = 0)
theorem flat_parts {t : Ty} (h : t.flat = true) : t.may = true ∧ t.right = true ∧ t.count ≤ 64 ∧ t.deep ≤ 8 ∧ fullL t.sub = true := by
 simp only [Ty.flat, Bool.and_eq_true] at h
 obtain ⟨h1, h2, h3⟩ := ty_may h.1
 exact ⟨h.1, h3, h1, h2, h.2⟩
theorem fit_parts {t : Ty} {x : It} (h : fitE t x = 0) : t.may = true ∧ x.may = true ∧ x.isOf t = true := by
 unfold fitE at h
 cases h1 : t.may <;> cases h2 : x.may <;> cases h3 : x.isOf t <;> simp_all
theorem fit_mk {t : Ty} {x : It} (h1 : t.may = true) (h2 : x.may = true) (h3 : x.isOf t = true) : fitE t x = 0 := by
 unfold fitE; simp [h1, h2, h3]
theorem mayIt_parts {x : It} (h : x.may = true) : x.right = true ∧ x.deep ≤ 16 ∧ x.count ≤ 1024 := by
 simpa only [It.may, Bool.and_eq_true, decide_eq_true_eq, and_assoc] using h
theorem mayIt_mk {x : It} (h1 : x.right = true) (h2 : x.deep ≤ 16) (h3 : x.count ≤ 1024) : x.may = true := by
 simp only [It.may, Bool.and_eq_true, decide_eq_true_eq]; exact ⟨⟨h1, h2⟩, h3⟩
theorem put_parts {t : Ty} {x : It} {M : Int} (h : lyPutE t x M = 0) : t.flat = true ∧ fitE t x = 0 ∧ (x.count : Int) ≤ M := by
 unfold lyPutE at h
 cases h1 : t.flat with
 | false => rw [if_pos h1] at h; cases h
 | true =>
  rw [if_neg (by simp [h1])] at h
  by_cases h2 : fitE t x ≠ 0
  ·rw [if_pos h2] at h; exact absurd h h2
  rw [if_neg h2] at h
  by_cases h3 : M < x.count
  ·rw [if_pos h3] at h; cases h
  ·exact ⟨rfl, Decidable.not_not.1 h2, by omega⟩
theorem layL_low : ∀ (s : List It) (l : List Ty) (t : Ty) (i : Nat), s.length = l.length → (∀ j (h : j < l.length), t.at (i + j) = l[j]) → (∀ j (h1 : j < s.length) (h2 : j < l.length), (l[j]).low ≤ ((s[j]).lay (l[j])).length) → lowL l ≤ (layL s t i).length
 | [], [], t, i, _, _, _ => by simp [lowL, layL]
 | x :: xs, a :: l, t, i, hs, ha, h => by
  have h0 := ha 0 (by simp)
  simp only [Nat.add_zero, List.getElem_cons_zero] at h0
  have h1 := h 0 (by simp) (by simp)
  simp only [List.getElem_cons_zero] at h1
  have h2 := layL_low xs l t (i + 1) (by simpa using hs) (fun j hj => by have := ha (j + 1) (by simpa using hj); simpa [show i + (j + 1) = i + 1 + j from by omega] using this) (fun j h1 h2 => by have := h (j + 1) (by simpa using h1) (by simpa using h2); simpa using this)
  rw [lowL, layL, h0, List.length_append]
  omega
 | [], a :: l, t, i, hs, _, _ => by simp at hs
 | x :: xs, [], t, i, hs, _, _ => by simp at hs
theorem low_le (x : It) : ∀ t : Ty, t.right = true → t.full = true → x.isOf t = true → t.low ≤ (x.lay t).length := by
 induction x using It.ind with
 | h tx b s ih =>
  intro t hr hf hi
  obtain ⟨k, z, l, ta⟩ := t
  obtain ⟨hok, hrl⟩ := right_ok hr
  obtain ⟨rfl, hfl⟩ := full_parts hf
  simp only [It.isOf, Bool.and_eq_true] at hi
  obtain ⟨hi1, hi2⟩ := hi
  have hat := isOfL_at s _ 0 hi2
  simp only [Nat.zero_add] at hat
  rcases ok_ways hok with ⟨rfl, hs, hn0, ht⟩ | ⟨rfl, h3, h4, hn0, ht⟩ | ⟨rfl, h3, h4, hn0, ht⟩ | ⟨rfl, h3, h4, hn0, ht⟩ | ⟨rfl, h3, h4, h5, h6⟩
  ·rw [lay_one, leD_length]; simp [Ty.low]; omega
  ·replace hi1 := is1_two hi1
   rw [lay_two, toList_size]; simp [Ty.low]; omega
  ·rw [lay_three, List.length_append]; have := (cpPut_length tx.size).1; simp [Ty.low]; omega
  ·rw [lay_four, List.length_append]; have := (cpPut_length s.length).1; simp [Ty.low]; omega
  ·replace hi1 := is1_five hi1
   have haa : ∀ j (h : j < l.length), (Ty.mk 5 z l 0).at (0 + j) = l[j] := fun j h => by unfold Ty.at; simp [h]
   rw [lay_five]
   have := layL_low s l (.mk 5 z l 0) 0 (by omega) haa (fun j h1 h2 => by
    have hio := hat j h1
    have h0 := haa j h2
    rw [Nat.zero_add] at h0
    rw [h0] at hio
    exact ih _ (List.getElem_mem h1) _ (rightT_at hrl j h2) (fullL_at hfl j h2) hio)
   simpa [Ty.low] using this
theorem lowL_nn (l : List Ty) (h : ∀ x ∈ l, 0 ≤ x.low) : 0 ≤ lowL l := by
 induction l with
 | nil => simp [lowL]
 | cons x xs ih => have h1 := h x (by simp); have h2 := ih (fun y hy => h y (by simp [hy])); simp only [lowL]; omega
theorem low_nn (t : Ty) : t.right = true → 0 ≤ t.low := by
 induction t using Ty.ind with
 | h k z l ta ih =>
  intro hr
  obtain ⟨hok, hrl⟩ := right_ok hr
  rcases ok_ways hok with ⟨rfl, hs, hn0, ht⟩ | ⟨rfl, h3, h4, hn0, ht⟩ | ⟨rfl, h3, h4, hn0, ht⟩ | ⟨rfl, h3, h4, hn0, ht⟩ | ⟨rfl, h3, h4, h5, h6⟩
  ·simp [Ty.low]; omega
  ·simp [Ty.low]; omega
  ·simp [Ty.low]
  ·simp [Ty.low]
  ·have := lowL_nn l (fun x hx => by obtain ⟨j, hj, rfl⟩ := List.getElem_of_mem hx; exact ih _ hx (rightT_at hrl j hj))
   simpa [Ty.low] using this
theorem ok_tail {t : Ty} {x : It} (hr : t.right = true) (hf : fullL t.sub = true) (hi : x.isOf t = true) (hx : x.right = true) (ht : tinyAt t = false) : okTail t x [] := by
 intro hk
 refine ⟨fun _ => rfl, fun j hj hj2 hge he => ?_⟩
 obtain ⟨k, z, l, ta⟩ := t
 obtain ⟨tx, b, s⟩ := x
 simp only [Ty.kind_mk] at hk
 subst hk
 simp only [It.sub_mk, Ty.sub_mk, Ty.tail_mk] at hj hj2 hge he hf
 obtain ⟨hok, hrl⟩ := right_ok hr
 simp only [It.isOf, Bool.and_eq_true] at hi
 have hat := isOfL_at s _ 0 hi.2 j hj
 have h0 : (Ty.mk 5 z l ta).at (0 + j) = l[j] := by unfold Ty.at; simp [hj2]
 rw [h0] at hat
 have hlow := low_le (s[j]) (l[j]) (rightT_at hrl j hj2) (fullL_at hf j hj2) hat
 rw [he] at hlow
 have hta : 0 < ta := by
  rcases ok_ways hok with ⟨h, _⟩ | ⟨h, _⟩ | ⟨h, _⟩ | ⟨h, _⟩ | ⟨_, h3, h4, h5, h6⟩
  ·cases h
  ·cases h
  ·cases h
  ·cases h
  ·omega
 have hnn := low_nn (l[j]) (rightT_at hrl j hj2)
 unfold tinyAt at ht
 simp only [Ty.tail_mk, Ty.sub_mk, Bool.and_eq_false_iff] at ht
 simp only [List.length_nil] at hlow
 rcases ht with ht | ht
 ·exact absurd hta (of_decide_eq_false ht)
 ·have := List.any_eq_false.1 ht j (List.mem_range.2 hj2)
  apply this
  simp only [List.getElem?_eq_getElem hj2, Option.getD_some]
  rw [Bool.and_eq_true]
  exact ⟨decide_eq_true (by omega), decide_eq_true (by omega)⟩
theorem lyGet_put (t : Ty) (x : It) (M : Int) (h : lyPutE t x M = 0) (ht : tinyAt t = false) (s : ByteArray) (hs : s.data.toList = x.lay t) : lyGet t s M = (0, x) := by
 obtain ⟨h1, h2, h3⟩ := put_parts h
 obtain ⟨_, p2, _, _, p5⟩ := flat_parts h1
 obtain ⟨_, q2, q3⟩ := fit_parts h2
 obtain ⟨r1, r2, r3⟩ := mayIt_parts q2
 have hrd : lyRd t s M = ⟨0, x, 0 + x.count, []⟩ := by
  unfold lyRd
  rw [hs]
  have := rd_lay (min M 1024) (by omega) x t 0 [] p2 p5 (ok_tail p2 p5 q3 r1 ht) q3 r1 (by omega)
  rwa [List.append_nil] at this
 have hn : lyNext t s M = (0, x, s.size) := by unfold lyNext; rw [if_neg (by simp [h1]), hrd]; simp
 unfold lyGet
 rw [hn]; simp
theorem lyNext_back (t : Ty) (s : ByteArray) (M : Int) (h : (lyNext t s M).1 = 0) : lyPutE t (lyNext t s M).2.1 M = 0 ∧ (lyNext t s M).2.2 ≤ s.size ∧ (lyNext t s M).2.1.lay t = s.data.toList.take (lyNext t s M).2.2 := by
 unfold lyNext at h ⊢
 cases h1 : t.flat with
 | false => rw [if_pos h1] at h; cases h
 | true =>
  rw [if_neg (by simp [h1])] at h ⊢
  by_cases h2 : (lyRd t s M).e ≠ 0
  ·rw [if_pos h2] at h; exact absurd h h2
  rw [if_neg h2]
  obtain ⟨p1, p2, p3, p4, p5⟩ := flat_parts h1
  have hb := rd_back (min M 1024) (by omega) t 0 s.data.toList p2 (Decidable.not_not.1 h2)
  change RdOk (min M 1024) t 0 s.data.toList (lyRd t s M) at hb
  generalize lyRd t s M = R at *
  have hl := congrArg List.length hb.lay
  rw [List.length_append, toList_size] at hl
  have hm := hb.many
  have hn := hb.num
  have hd := hb.deep
  refine ⟨?_, by simp only; omega, ?_⟩
  ·unfold lyPutE
   simp only
   rw [if_neg (by simp [h1]), fit_mk p1 (mayIt_mk hb.right (by omega) (by omega)) hb.isOf, if_neg (by simp), if_neg (by omega)]
  ·simp only
   rw [hb.lay, show s.size - R.q.length = (R.x.lay t).length from by omega, List.take_left' rfl]
theorem lyGet_back (t : Ty) (s : ByteArray) (M : Int) (h : (lyGet t s M).1 = 0) : lyPutE t (lyGet t s M).2 M = 0 ∧ (lyGet t s M).2.lay t = s.data.toList := by
 unfold lyGet at h ⊢
 by_cases h1 : (lyNext t s M).1 ≠ 0
 ·rw [if_pos h1] at h; exact absurd h h1
 rw [if_neg h1] at h ⊢
 by_cases h2 : (lyNext t s M).2.2 < s.size
 ·rw [if_pos h2] at h; cases h
 rw [if_neg h2]
 obtain ⟨a1, a2, a3⟩ := lyNext_back t s M (Decidable.not_not.1 h1)
 refine ⟨a1, ?_⟩
 rw [a3, List.take_of_length_le (by rw [toList_size]; omega)]
theorem lyNext_cut (t : Ty) (x : It) (h : lyPutE t x 1024 = 0) (ht : t.tail = 0) (s : ByteArray) (c : Nat) (hc : c < (x.lay t).length) (hs : s.data.toList = (x.lay t).take c) : lyNext t s 1024 = (2, noIt, 0) := by
 obtain ⟨h1, h2, h3⟩ := put_parts h
 obtain ⟨_, p2, _, _, p5⟩ := flat_parts h1
 obtain ⟨_, q2, q3⟩ := fit_parts h2
 obtain ⟨r1, r2, r3⟩ := mayIt_parts q2
 have hf : t.full = true := by
  obtain ⟨k, z, l, ta⟩ := t
  simp only [Ty.tail_mk] at ht
  subst ht
  simp only [Ty.sub_mk] at p5
  simp [Ty.full, p5]
 have := rd_cut (min 1024 1024) (by omega) x t 0 c p2 hf q3 r1 (by omega) hc
 rw [← hs] at this
 unfold lyNext
 rw [if_neg (by simp [h1])]
 change (lyRd t s 1024).e = 2 at this
 rw [if_pos (by rw [this]; decide), this]
end Go.Proofs.YtcppbdbbgakfcaaGreatDoor
