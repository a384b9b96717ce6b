/- Packing, greedily: the plain function; what it packs is unpacked again, and isn't longer than the bound. No program in sight. -/
import Derived.Test.YthbechmkjhkipaaSnapRunsP
namespace Go.Proofs.Ythbechmkjhkipaa
set_option linter.unusedVariables false
set_option linter.unusedSimpArgs false

/-- The bytes of a number, seven bits each. -/
def lebL (n : Nat) : List UInt8 := if n < 128 then [ub n] else ub (n % 128 + 128 : Nat) :: lebL (n / 128)
termination_by n
theorem lebL_small {n : Nat} (h : n < 128) : lebL n = [ub n] := by rw [lebL, if_pos h]
theorem lebL_more {n : Nat} (h : ¬ n < 128) : lebL n = ub (n % 128 + 128 : Nat) :: lebL (n / 128) := by rw [lebL, if_neg h]
theorem lebL_pos (n : Nat) : 1 ≤ (lebL n).length := by
  by_cases h : n < 128
  · simp [lebL_small h]
  · simp [lebL_more h]
theorem lebL_length (k : Nat) : ∀ n, n < 128 ^ k → 1 ≤ k → (lebL n).length ≤ k := by
  induction k with
  | zero => intro n _ h; omega
  | succ k ih =>
    intro n hn _
    by_cases h : n < 128
    · simp [lebL_small h]
    · rw [lebL_more h, List.length_cons]
      rcases Nat.eq_zero_or_pos k with h0 | h0
      · subst h0; simp at hn; omega
      · have := ih (n / 128) (by rw [Nat.pow_succ] at hn; exact Nat.div_lt_of_lt_mul (by rw [Nat.mul_comm]; exact hn)) h0
        omega
theorem ub_mod (n : Nat) : (ub n).toNat = n % 256 := by simp [ub]
/-- A number that was put is told again. -/
theorem lebGo_put (n : Nat) : ∀ (s : ByteArray) (pre rest : List UInt8) (i m : Nat), s.data.toList = pre ++ (lebL n ++ rest) → pre.length = i → i ≤ 9 → n < 2 ^ (64 - 7 * i) → (i = 0 ∨ 0 < n) →
    lebGo s (10 - i) i m = (m + n * 2 ^ (7 * i), i + (lebL n).length, 0) := by
  induction n using Nat.strongRecOn with
  | ind n ih =>
    intro s pre rest i m hs hp hi hn h0
    rw [show 10 - i = (9 - i) + 1 from by omega]
    have hi9 : i = 9 → n ≤ 1 := by
      intro h; subst h
      have : (2 : Nat) ^ (64 - 7 * 9) = 2 := by decide
      omega
    by_cases h : n < 128
    · rw [lebL_small h] at hs ⊢
      obtain ⟨g, e⟩ := get_of (s := s) (k := i) (b := ub n) (by rw [hs, List.getElem?_append_right (by omega), hp]; simp)
      have e' : s[i].toNat = n := by rw [e, ub_toNat n (by omega)]
      rw [lebGo_last s _ i m g (by rw [e']; omega) (by rw [e']; exact h), e', Nat.mod_eq_of_lt h]
      simp
    · rw [lebL_more h] at hs ⊢
      obtain ⟨g, e⟩ := get_of (s := s) (k := i) (b := ub (n % 128 + 128 : Nat)) (by rw [hs, List.getElem?_append_right (by omega), hp]; simp)
      have e' : s[i].toNat = n % 128 + 128 := by rw [e, ub_toNat _ (by omega)]
      rw [lebGo_more s _ i m g (by rw [e']; omega) (by rw [e']; omega), e']
      have h7 : 7 * i + 7 ≤ 64 := by
        rcases Nat.lt_or_ge i 9 with h9 | h9
        · omega
        · have := hi9 (by omega); omega
      have hpw : 2 ^ (64 - 7 * i) = 2 ^ (64 - 7 * (i + 1)) * 128 := by
        rw [show 64 - 7 * i = (64 - 7 * (i + 1)) + 7 from by omega, Nat.pow_add]
      have hd : n / 128 < 2 ^ (64 - 7 * (i + 1)) := Nat.div_lt_of_lt_mul (by rw [Nat.mul_comm, ← hpw]; exact hn)
      have hi8 : i ≤ 8 := by
        rcases Nat.lt_or_ge i 9 with h9 | h9
        · omega
        · have := hi9 (by omega); omega
      have := ih (n / 128) (by omega) s (pre ++ [ub (n % 128 + 128 : Nat)]) rest (i + 1) (m + (n % 128 + 128) % 128 * 2 ^ (7 * i)) (by rw [hs]; simp) (by simp; omega) (by omega) hd (Or.inr (by omega))
      rw [show 9 - i = 10 - (i + 1) from by omega, this]
      have hq : n = n / 128 * 128 + n % 128 := by omega
      have h2 : 2 ^ (7 * (i + 1)) = 128 * 2 ^ (7 * i) := by rw [show 7 * (i + 1) = 7 + 7 * i from by omega, Nat.pow_add]
      have e3 : m + (n % 128 + 128) % 128 * 2 ^ (7 * i) + n / 128 * 2 ^ (7 * (i + 1)) = m + n * 2 ^ (7 * i) := by
        rw [h2, show (n % 128 + 128) % 128 = n % 128 from by omega, ← Nat.mul_assoc, Nat.add_assoc, ← Nat.add_mul, show n % 128 + n / 128 * 128 = n from by omega]
      rw [e3]
      exact Prod.ext rfl (Prod.ext (by simp only [List.length_cons]; omega) rfl)
theorem lebNext_put (n : Nat) (s : ByteArray) (rest : List UInt8) (hs : s.data.toList = lebL n ++ rest) (hn : n < 18446744073709551616) : lebNext s = (n, (lebL n).length, 0) := by
  have := lebGo_put n s [] rest 0 0 (by simpa using hs) rfl (by omega) (by simpa using hn) (Or.inl rfl)
  simpa [lebNext] using this

/-- For how many bytes two places match, the first of them ahead. -/
def mt (L : List UInt8) (j i : Nat) : Nat → Nat
  | 0 => 0
  | f + 1 => if i < L.length ∧ L[j]? = L[i]? then mt L (j + 1) (i + 1) f + 1 else 0
/-- The nearest place ahead with a match of four. -/
def fnd (L : List UInt8) (i : Nat) : Nat → Option Nat
  | 0 => none
  | j + 1 => if 4 ≤ mt L j i 64 then some j else fnd L i j
def litE (l : List UInt8) : List UInt8 :=
  if l.length = 0 then [] else if l.length ≤ 60 then ub (4 * (l.length - 1) : Nat) :: l
  else if l.length ≤ 256 then 240 :: ub (l.length - 1 : Nat) :: l
  else 244 :: ub ((l.length - 1) % 256 : Nat) :: ub ((l.length - 1) / 256 : Nat) :: l
def cpyE (n d : Nat) : List UInt8 :=
  if n ≤ 11 ∧ d < 2048 then [ub (1 + 4 * (n - 4) + 32 * (d / 256) : Nat), ub (d % 256 : Nat)]
  else [ub (2 + 4 * (n - 1) : Nat), ub (d % 256 : Nat), ub (d / 256 : Nat)]
/-- The elements from place i on, of which what stands from p on is pending. -/
def pk (L : List UInt8) : Nat → Nat → Nat → List UInt8
  | 0, _, _ => []
  | f + 1, p, i => if i < L.length then
      (match fnd L i i with
      | none => pk L f p (i + 1)
      | some j => litE ((L.take i).drop p) ++ (cpyE (mt L j i 64) (i - j) ++ pk L f (i + mt L j i 64) (i + mt L j i 64)))
    else litE (L.drop p)
def pack (L : List UInt8) : List UInt8 := lebL L.length ++ pk L (L.length + 1) 0 0

theorem mt_le (L : List UInt8) (f : Nat) : ∀ j i, mt L j i f ≤ f ∧ (i ≤ L.length → i + mt L j i f ≤ L.length) := by
  induction f with
  | zero => intro j i; simp [mt]
  | succ f ih =>
    intro j i
    have := ih (j + 1) (i + 1)
    unfold mt
    split <;> omega
theorem mt_at (L : List UInt8) (f : Nat) : ∀ j i n, n < mt L j i f → L[j + n]? = L[i + n]? := by
  induction f with
  | zero => intro j i n h; simp [mt] at h
  | succ f ih =>
    intro j i n h
    unfold mt at h
    split at h
    · rename_i hc
      cases n with
      | zero => exact hc.2
      | succ n =>
        have := ih (j + 1) (i + 1) n (by omega)
        rw [show j + (n + 1) = j + 1 + n from by omega, show i + (n + 1) = i + 1 + n from by omega]; exact this
    · omega
theorem fnd_some (L : List UInt8) (i : Nat) : ∀ k j, fnd L i k = some j → j < k ∧ 4 ≤ mt L j i 64 := by
  intro k
  induction k with
  | zero => intro j h; simp [fnd] at h
  | succ k ih =>
    intro j h
    unfold fnd at h
    split at h
    · rename_i hc
      injection h with h
      subst h
      exact ⟨by omega, hc⟩
    · have := ih j h
      omega
/-- What a copy lays is what stands there. -/
theorem cpy_mt (L : List UInt8) (j i : Nat) (hj : j < i) (hi : i ≤ L.length) : ∀ n, n ≤ mt L j i 64 → cpy (L.take i) (i - j) n = L.take (i + n) := by
  intro n
  induction n with
  | zero => intro _; rfl
  | succ n ih =>
    intro hn
    have hl := (mt_le L 64 j i).2 hi
    rw [cpy_snoc, ih (by omega)]
    have h1 : (L.take (i + n)).length = i + n := by rw [List.length_take]; omega
    have h2 := mt_at L 64 j i n (by omega)
    rw [h1, show i + n - (i - j) = j + n from by omega, show i + (n + 1) = (i + n) + 1 from by omega, List.take_succ_eq_append_getElem (by omega)]
    congr 1
    rw [List.getD_eq_getElem?_getD, List.getElem?_take_of_lt (by omega), h2, List.getElem?_eq_getElem (by omega)]
    rfl

theorem litE_length (l : List UInt8) (h : l.length ≤ 65536) : l.length ≤ (litE l).length ∧ (litE l).length ≤ l.length + (if l.length = 0 then 0 else if l.length ≤ 60 then 1 else if l.length ≤ 256 then 2 else 3) := by
  unfold litE
  split
  · rename_i h0; simp [h0]
  · split
    · simp
    · split <;> simp <;> omega
theorem cpyE_length (n d : Nat) : 2 ≤ (cpyE n d).length ∧ (cpyE n d).length ≤ 3 := by
  unfold cpyE; split <;> simp
/-- THE BOUND. -/
theorem pk_length (L : List UInt8) (hL : L.length ≤ 65536) (f : Nat) : ∀ p i, p ≤ i → i ≤ L.length → 32 * (pk L f p i).length ≤ 33 * (L.length - p) + 96 := by
  induction f with
  | zero => intro p i _ _; simp [pk]
  | succ f ih =>
    intro p i hp hi
    unfold pk
    split
    · cases hf : fnd L i i with
      | none => exact ih p (i + 1) (by omega) (by omega)
      | some j =>
        obtain ⟨hj, h4⟩ := fnd_some L i i j hf
        have hm := (mt_le L 64 j i).2 hi
        have h1 := ih (i + mt L j i 64) (i + mt L j i 64) (Nat.le_refl _) hm
        have h2 := cpyE_length (mt L j i 64) (i - j)
        have hlen : ((L.take i).drop p).length = i - p := by simp; omega
        have h3 := litE_length ((L.take i).drop p) (by omega)
        rw [hlen] at h3
        simp only [List.length_append]
        split at h3
        · omega
        · split at h3
          · omega
          · split at h3 <;> omega
    · have hlen : (L.drop p).length = L.length - p := by simp
      have h3 := litE_length (L.drop p) (by omega)
      rw [hlen] at h3
      split at h3
      · omega
      · split at h3
        · omega
        · split at h3 <;> omega
theorem pack_length (L : List UInt8) (hL : L.length ≤ 65536) : (pack L).length ≤ L.length + L.length / 32 + 8 := by
  have h1 := pk_length L hL (L.length + 1) 0 0 (Nat.le_refl _) (Nat.zero_le _)
  have h2 := lebL_length 3 L.length (by omega) (by omega)
  unfold pack
  rw [List.length_append]
  omega

/-- A literal is laid. -/
theorem lit_lays (B : ByteArray) (size : Nat) (pre l rest out : List UInt8) (hB : B.data.toList = pre ++ (litE l ++ rest)) (hl : l.length ≤ 65536) (hs : out.length + l.length ≤ size) :
    ∃ n, n ≤ (litE l).length ∧ ∀ F, sAll B size (F + n) pre.length out = sAll B size F (pre.length + (litE l).length) (out ++ l) := by
  by_cases h0 : l.length = 0
  · have : l = [] := List.eq_nil_of_length_eq_zero h0
    subst this
    exact ⟨0, by simp, fun F => by simp [litE]⟩
  · refine ⟨1, ?_, fun F => ?_⟩
    · have := litE_length l hl; omega
    · have hz : B.size = pre.length + (litE l).length + rest.length := by rw [← toList_size, hB]; simp [Nat.add_assoc]
      have hcut : ∀ a b, (B.extract (pre.length + a) (pre.length + b)).data.toList = ((litE l ++ rest).take b).drop a := by
        intro a b
        rw [toList_cut, hB, List.take_append, List.drop_append, show pre.length + b - pre.length = b from by omega, List.drop_eq_nil_of_le (by rw [List.length_take]; omega), List.nil_append, List.length_take, show pre.length + a - min (pre.length + b) pre.length = a from by omega]
      unfold litE at hB hz hcut ⊢
      rw [if_neg h0] at hB hz hcut ⊢
      by_cases h1 : l.length ≤ 60
      · rw [if_pos h1] at hB hz hcut ⊢
        obtain ⟨g, e⟩ := get_of (s := B) (k := pre.length) (b := ub (4 * (l.length - 1) : Nat)) (by rw [hB]; simp)
        have e' : B[pre.length].toNat = 4 * (l.length - 1) := by rw [e, ub_toNat _ (by omega)]
        have hh : sHead (4 * (l.length - 1)) = 1 := by unfold sHead; rw [if_pos (by omega), if_neg (by omega)]
        have hc : ∀ x, sCount (4 * (l.length - 1)) x = l.length := by intro x; unfold sCount; rw [if_pos (by omega), if_neg (by omega)]; omega
        simp only [List.length_cons] at hz ⊢
        refine sAll_step g e' ?_
        unfold sStep
        rw [hc, hh, if_neg (by omega), if_neg (by omega), if_pos (by omega), if_neg (by omega), show pre.length + 1 + l.length = pre.length + (1 + l.length) from by omega, hcut]
        simp only [List.cons_append, Nat.add_comm 1, List.take_succ_cons, List.drop_succ_cons, List.drop_zero, List.take_append_of_le_length (Nat.le_refl l.length), List.take_length]
      · rw [if_neg h1] at hB hz hcut ⊢
        by_cases h2 : l.length ≤ 256
        · rw [if_pos h2] at hB hz hcut ⊢
          obtain ⟨g, e⟩ := get_of (s := B) (k := pre.length) (b := 240) (by rw [hB]; simp)
          have e' : B[pre.length].toNat = 240 := by rw [e]; rfl
          have hh : sHead 240 = 2 := by decide
          simp only [List.length_cons] at hz ⊢
          have hn : sNum B pre.length 240 = l.length - 1 := by
            unfold sNum
            rw [hh, hcut]
            simp only [List.cons_append, List.take_succ_cons, List.drop_succ_cons, List.drop_zero, List.take_zero]
            simp only [leL, ub_toNat (l.length - 1) (by omega)]
            omega
          have hc : sCount 240 (l.length - 1) = l.length := by unfold sCount; rw [if_pos (by omega), if_pos (by omega)]; omega
          refine sAll_step g e' ?_
          unfold sStep
          rw [hn, hc, hh, if_neg (by omega), if_neg (by omega), if_pos (by omega), if_neg (by omega), show pre.length + 2 + l.length = pre.length + (l.length + 2) from by omega, hcut]
          simp only [List.cons_append, List.take_succ_cons, List.drop_succ_cons, List.drop_zero, List.take_append_of_le_length (Nat.le_refl l.length), List.take_length]
        · rw [if_neg h2] at hB hz hcut ⊢
          obtain ⟨g, e⟩ := get_of (s := B) (k := pre.length) (b := 244) (by rw [hB]; simp)
          have e' : B[pre.length].toNat = 244 := by rw [e]; rfl
          have hh : sHead 244 = 3 := by decide
          simp only [List.length_cons] at hz ⊢
          have hn : sNum B pre.length 244 = l.length - 1 := by
            unfold sNum
            rw [hh, hcut]
            simp only [List.cons_append, List.take_succ_cons, List.drop_succ_cons, List.drop_zero, List.take_zero]
            simp only [leL, ub_toNat ((l.length - 1) % 256) (by omega), ub_toNat ((l.length - 1) / 256) (by omega)]
            omega
          have hc : sCount 244 (l.length - 1) = l.length := by unfold sCount; rw [if_pos (by omega), if_pos (by omega)]; omega
          refine sAll_step g e' ?_
          unfold sStep
          rw [hn, hc, hh, if_neg (by omega), if_neg (by omega), if_pos (by omega), if_neg (by omega), show pre.length + 3 + l.length = pre.length + (l.length + 3) from by omega, hcut]
          simp only [List.cons_append, List.take_succ_cons, List.drop_succ_cons, List.drop_zero, List.take_append_of_le_length (Nat.le_refl l.length), List.take_length]
/-- A copy is laid. -/
theorem cpy_lays (B : ByteArray) (size n d : Nat) (pre rest out : List UInt8) (hB : B.data.toList = pre ++ (cpyE n d ++ rest)) (h4 : 4 ≤ n) (hn : n ≤ 64) (hd : 1 ≤ d) (hd2 : d ≤ out.length) (hd3 : d < 65536) (hs : out.length + n ≤ size) (F : Nat) :
    sAll B size (F + 1) pre.length out = sAll B size F (pre.length + (cpyE n d).length) (cpy out d n) := by
  have hz : B.size = pre.length + (cpyE n d).length + rest.length := by rw [← toList_size, hB]; simp [Nat.add_assoc]
  have hcut : ∀ a b, (B.extract (pre.length + a) (pre.length + b)).data.toList = ((cpyE n d ++ rest).take b).drop a := by
    intro a b
    rw [toList_cut, hB, List.take_append, List.drop_append, show pre.length + b - pre.length = b from by omega, List.drop_eq_nil_of_le (by rw [List.length_take]; omega), List.nil_append, List.length_take, show pre.length + a - min (pre.length + b) pre.length = a from by omega]
  unfold cpyE at hB hz hcut ⊢
  by_cases h1 : n ≤ 11 ∧ d < 2048
  · rw [if_pos h1] at hB hz hcut ⊢
    obtain ⟨g, e⟩ := get_of (s := B) (k := pre.length) (b := ub (1 + 4 * (n - 4) + 32 * (d / 256) : Nat)) (by rw [hB]; simp)
    have e' : B[pre.length].toNat = 1 + 4 * (n - 4) + 32 * (d / 256) := by rw [e, ub_toNat _ (by omega)]
    have hh : sHead (1 + 4 * (n - 4) + 32 * (d / 256)) = 2 := by unfold sHead; rw [if_neg (by omega), if_pos (by omega)]
    simp only [List.length_cons, List.length_nil] at hz ⊢
    have hnum : sNum B pre.length (1 + 4 * (n - 4) + 32 * (d / 256)) = d % 256 := by
      unfold sNum
      rw [hh, hcut]
      simp only [List.cons_append, List.take_succ_cons, List.drop_succ_cons, List.drop_zero, List.take_zero]
      simp only [leL, ub_toNat (d % 256) (by omega)]
      omega
    have hc : ∀ x, sCount (1 + 4 * (n - 4) + 32 * (d / 256)) x = n := by intro x; unfold sCount; rw [if_neg (by omega), if_pos (by omega)]; omega
    have hb : sBack (1 + 4 * (n - 4) + 32 * (d / 256)) (d % 256) = d := by unfold sBack; rw [if_pos (by omega)]; omega
    refine sAll_step g e' ?_
    unfold sStep
    rw [hnum, hb, hc, hh, if_neg (by omega), if_neg (by omega), if_neg (by omega)]
  · rw [if_neg h1] at hB hz hcut ⊢
    obtain ⟨g, e⟩ := get_of (s := B) (k := pre.length) (b := ub (2 + 4 * (n - 1) : Nat)) (by rw [hB]; simp)
    have e' : B[pre.length].toNat = 2 + 4 * (n - 1) := by rw [e, ub_toNat _ (by omega)]
    have hh : sHead (2 + 4 * (n - 1)) = 3 := by unfold sHead; rw [if_neg (by omega), if_neg (by omega), if_pos (by omega)]
    simp only [List.length_cons, List.length_nil] at hz ⊢
    have hnum : sNum B pre.length (2 + 4 * (n - 1)) = d := by
      unfold sNum
      rw [hh, hcut]
      simp only [List.cons_append, List.take_succ_cons, List.drop_succ_cons, List.drop_zero, List.take_zero]
      simp only [leL, ub_toNat (d % 256) (by omega), ub_toNat (d / 256) (by omega)]
      omega
    have hc : ∀ x, sCount (2 + 4 * (n - 1)) x = n := by intro x; unfold sCount; rw [if_neg (by omega), if_neg (by omega)]; omega
    have hb : sBack (2 + 4 * (n - 1)) d = d := by unfold sBack; rw [if_neg (by omega)]
    refine sAll_step g e' ?_
    unfold sStep
    rw [hnum, hb, hc, hh, if_neg (by omega), if_neg (by omega), if_neg (by omega)]
/-- All elements are laid. -/
theorem pk_lays (B : ByteArray) (L : List UInt8) (hL : L.length ≤ 65536) (f : Nat) : ∀ (p i : Nat) (pre : List UInt8), p ≤ i → i ≤ L.length → L.length - i < f → B.data.toList = pre ++ pk L f p i →
    ∃ n, n ≤ (pk L f p i).length ∧ ∀ F, sAll B L.length (F + n) pre.length (L.take p) = sAll B L.length F B.size L := by
  induction f with
  | zero => intro p i pre _ _ h; omega
  | succ f ih =>
    intro p i pre hp hi hf hB
    unfold pk at hB ⊢
    by_cases h : i < L.length
    · rw [if_pos h] at hB ⊢
      cases hfd : fnd L i i with
      | none =>
        rw [hfd] at hB
        exact ih p (i + 1) pre (by omega) (by omega) (by omega) hB
      | some j =>
        rw [hfd] at hB
        simp only at hB ⊢
        obtain ⟨hj, h4⟩ := fnd_some L i i j hfd
        have hm := mt_le L 64 j i
        have hm2 := hm.2 hi
        have hlen : ((L.take i).drop p).length = i - p := by simp; omega
        have ht : (L.take p).length = p := by rw [List.length_take]; omega
        have hti : (L.take i).length = i := by rw [List.length_take]; omega
        have happ : L.take p ++ (L.take i).drop p = L.take i := by
          have := List.take_append_drop p (L.take i)
          rwa [List.take_take, Nat.min_eq_left hp] at this
        obtain ⟨n1, hn1, l1⟩ := lit_lays B L.length pre ((L.take i).drop p) _ (L.take p) hB (by omega) (by omega)
        rw [happ] at l1
        have hB2 : B.data.toList = (pre ++ litE ((L.take i).drop p)) ++ (cpyE (mt L j i 64) (i - j) ++ pk L f (i + mt L j i 64) (i + mt L j i 64)) := by rw [hB, List.append_assoc]
        have l2 := cpy_lays B L.length (mt L j i 64) (i - j) _ _ (L.take i) hB2 h4 hm.1 (by omega) (by omega) (by omega) (by omega)
        rw [cpy_mt L j i hj hi _ (Nat.le_refl _), List.length_append] at l2
        have hB3 : B.data.toList = ((pre ++ litE ((L.take i).drop p)) ++ cpyE (mt L j i 64) (i - j)) ++ pk L f (i + mt L j i 64) (i + mt L j i 64) := by rw [hB2, List.append_assoc _ (cpyE _ _) _]
        obtain ⟨n3, hn3, l3⟩ := ih _ _ _ (Nat.le_refl _) hm2 (by omega) hB3
        rw [List.length_append, List.length_append] at l3
        refine ⟨n3 + 1 + n1, ?_, fun F => ?_⟩
        · have := cpyE_length (mt L j i 64) (i - j)
          simp only [List.length_append]; omega
        · rw [show F + (n3 + 1 + n1) = (F + n3 + 1) + n1 from by omega, l1, l2, l3]
    · rw [if_neg h] at hB ⊢
      have hti : (L.take p).length = p := by rw [List.length_take]; omega
      obtain ⟨n1, hn1, l1⟩ := lit_lays B L.length pre (L.drop p) [] (L.take p) (by simpa using hB) (by simp; omega) (by simp; omega)
      refine ⟨n1, hn1, fun F => ?_⟩
      rw [l1, List.take_append_drop]
      congr 1
      rw [← toList_size, hB, List.length_append]
theorem pack_head (s : ByteArray) (L : List UInt8) (hL : L.length ≤ 65536) (hs : s.data.toList = pack L) : sSize s = (L.length, (lebL L.length).length, 0) := by
  unfold pack at hs
  have h := lebNext_put L.length s _ hs (by omega)
  unfold sSize
  rw [h, if_pos rfl, if_neg (by simp; omega)]
/-- THE LAW: what is packed is unpacked again. -/
theorem unpack_pack (s : ByteArray) (L : List UInt8) (hL : L.length ≤ 65536) (hs : s.data.toList = pack L) (most : Int) (hm : L.length ≤ most) : sUnpack s most = (0, L) := by
  have hh := pack_head s L hL hs
  unfold sUnpack
  rw [hh]
  simp only [ne_eq, not_true_eq_false, if_false]
  rw [if_neg (by omega)]
  unfold pack at hs
  generalize hB : s.extract (lebL L.length).length s.size = B
  have hBl : B.data.toList = pk L (L.length + 1) 0 0 := by
    rw [← hB, toList_cut, take_all, hs, List.drop_append_of_le_length (Nat.le_refl _), List.drop_length, List.nil_append]
  obtain ⟨n, hn, hl⟩ := pk_lays B L hL (L.length + 1) 0 0 [] (Nat.le_refl _) (Nat.zero_le _) (by omega) (by simpa using hBl)
  unfold sElems
  have hz : B.size = (pk L (L.length + 1) 0 0).length := by rw [← toList_size, hBl]
  rw [show B.size + 1 = (B.size - n + 1) + n from by omega]
  have := hl (B.size - n + 1)
  simp only [List.length_nil, List.take_zero] at this
  rw [this]
  unfold sAll
  rw [dif_neg (by omega), if_neg (by omega)]
end Go.Proofs.Ythbechmkjhkipaa
