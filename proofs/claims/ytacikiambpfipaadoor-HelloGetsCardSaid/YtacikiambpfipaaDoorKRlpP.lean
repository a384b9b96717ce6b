/- Items as bytes: plain functions and their laws. -/
import Derived.Test.YtacikiambpfipaaDoorKA1
import Derived.Test.YtacikiambpfipaaDoorKA2
namespace Go.Proofs.YtacikiambpfipaaDoor
set_option linter.unusedVariables false
set_option linter.unusedSimpArgs false

theorem minR_be (n : Nat) : beL (minL n) = n := by
  induction n using Nat.strongRecOn with
  | ind n ih =>
    by_cases h : n = 0
    · subst h; rw [minL_zero]; rfl
    · rw [minL_pos h, beL_snoc, ih (n / 256) (by omega), ub_toNat _ (by omega)]; omega
theorem minR_ne (n : Nat) (h : n ≠ 0) : minL n ≠ [] := by rw [minL_pos h]; simp
theorem minR_lead (n : Nat) (h : n ≠ 0) : (minL n).getD 0 0 ≠ 0 := by
  induction n using Nat.strongRecOn with
  | ind n ih =>
    rw [minL_pos h]
    by_cases h2 : n / 256 = 0
    · rw [h2, minL_zero, List.nil_append]
      intro e
      have h4 := ub_toNat (n % 256) (by omega)
      simp only [List.getD_cons_zero] at e
      rw [e] at h4
      simp at h4
      omega
    · have := ih (n / 256) (by omega) h2
      cases hl : minL (n / 256) with
      | nil => exact absurd hl (minR_ne _ h2)
      | cons a b => rw [hl] at this; simpa using this
theorem beR_minL (l : List UInt8) (h : l.getD 0 0 ≠ 0) : minL (beL l) = l := by
  obtain ⟨k, hk⟩ : ∃ k, l.length = k := ⟨_, rfl⟩
  induction k generalizing l with
  | zero => obtain rfl := List.eq_nil_of_length_eq_zero hk; simp at h
  | succ k ih =>
    have hne : l ≠ [] := by intro e; subst e; simp at hk
    have e := List.dropLast_concat_getLast hne
    have hb := (l.getLast hne).toNat_lt
    by_cases hk0 : k = 0
    · subst hk0
      match l, hk with
      | [b], _ =>
        have hb' : b.toNat ≠ 0 := fun e => h (by simp; exact UInt8.toNat_inj.1 e)
        have hlt := b.toNat_lt
        have e2 : beL [b] = b.toNat := by simp [beL, leL]
        rw [e2, minL_pos hb', show b.toNat / 256 = 0 from by omega, minL_zero, List.nil_append]
        congr 1
        apply UInt8.toNat_inj.1
        rw [ub_toNat _ (by omega)]; omega
    · have h2 : l.dropLast.getD 0 0 ≠ 0 := by
        have : l.dropLast.getD 0 0 = l.getD 0 0 := by
          rw [List.getD_eq_getElem?_getD, List.getD_eq_getElem?_getD, List.getElem?_dropLast, if_pos (by omega)]
        rw [this]; exact h
      have h3 := ih l.dropLast h2 (by rw [List.length_dropLast]; omega)
      rw [← e, beL_snoc, minL_pos, show (256 * beL l.dropLast + (l.getLast hne).toNat) / 256 = beL l.dropLast from by omega, h3]
      · congr 2
        apply UInt8.toNat_inj.1
        rw [ub_toNat _ (by omega)]; omega
      · intro e0
        have : beL l.dropLast = 0 := by omega
        rw [this, minL_zero] at h3
        rw [← h3] at h2; simp at h2

def rHead (b n : Nat) : List UInt8 := if n ≤ 55 then [ub ((b + n : Nat) : Int)] else ub ((b + 55 + (minL n).length : Nat) : Int) :: minL n
mutual
/-- An item's bytes. -/
def It.rlp : It → List UInt8
  | .mk t l s => if l = true then rHead 192 (rlpL s).length ++ rlpL s else if t.size = 1 ∧ (t.data.toList.getD 0 0).toNat < 128 then t.data.toList else rHead 128 t.size ++ t.data.toList
def rlpL : List It → List UInt8
  | [] => []
  | x :: xs => x.rlp ++ rlpL xs
end
theorem rlpL_append (a b : List It) : rlpL (a ++ b) = rlpL a ++ rlpL b := by
  induction a with
  | nil => rfl
  | cons x xs ih => simp [rlpL, ih]
def listB (b : List UInt8) : List UInt8 := rHead 192 b.length ++ b
/-- The bytes of the whole, when the open lists are closed: the top one, then the others. -/
def closeL (xs : List It) (b : List UInt8) (rest : List (List It × List UInt8)) : List UInt8 := rest.foldl (fun inner f => f.2 ++ (listB inner ++ rlpL f.1)) (b ++ rlpL xs)
theorem closeL_pop (b c : List UInt8) (ys : List It) (rest : List (List It × List UInt8)) : closeL [] b ((ys, c) :: rest) = closeL ys (c ++ listB b) rest := by simp [closeL, rlpL]
theorem closeL_text (x : It) (xs : List It) (b : List UInt8) (rest : List (List It × List UInt8)) : closeL (x :: xs) b rest = closeL xs (b ++ x.rlp) rest := by simp [closeL, rlpL]
theorem closeL_list (t : ByteArray) (s : List It) (xs : List It) (b : List UInt8) (rest : List (List It × List UInt8)) : closeL (.mk t true s :: xs) b rest = closeL s [] ((xs, b) :: rest) := by simp [closeL, rlpL, It.rlp, listB]

/-- What stands next: whether a list, the head's bytes, the bytes behind it, the error. -/
def hdR (s : ByteArray) : Bool × Nat × Nat × Int :=
  let b := (s.data.toList.getD 0 0).toNat
  if b < 128 then (false, 0, 1, 0)
  else
    let l := decide (192 ≤ b)
    let told := if 192 ≤ b then b - 192 else b - 128
    let size := if told ≤ 55 then 1 else 1 + (told - 55)
    let n := if told ≤ 55 then told else beL (s.extract 1 size).data.toList
    if told ≤ 55 then
      if s.size < size + n then (false, 0, 0, 2)
      else if l = false ∧ n = 1 ∧ (s.data.toList.getD 1 0).toNat < 128 then (false, 0, 0, 3)
      else (l, 1, told, 0)
    else
      if s.size < size then (false, 0, 0, 2)
      else if (s.data.toList.getD 1 0).toNat = 0 ∨ n ≤ 55 then (false, 0, 0, 3)
      else if s.size < size + n then (false, 0, 0, 2)
      else (l, size, n, 0)
def hd (s : ByteArray) (deep many : Bool) : Bool × Nat × Nat × Int :=
  if s.size = 0 then (false, 0, 0, 2) else if deep = true then (false, 0, 0, 6) else if many = true then (false, 0, 0, 4) else hdR s
theorem hdR_ok (s : ByteArray) (hs : 0 < s.size) (h : (hdR s).2.2.2 = 0) : (hdR s).2.1 + (hdR s).2.2.1 ≤ s.size ∧ 1 ≤ (hdR s).2.1 + (hdR s).2.2.1 ∧ ((hdR s).1 = true → 1 ≤ (hdR s).2.1) := by
  unfold hdR at h ⊢
  dsimp only at h ⊢
  generalize (s.data.toList.getD 0 0).toNat = b at *
  by_cases hb : b < 128
  · rw [if_pos hb] at h ⊢; dsimp only; refine ⟨by omega, by omega, by simp⟩
  rw [if_neg hb] at h ⊢
  generalize (if 192 ≤ b then b - 192 else b - 128) = told at *
  by_cases ht : told ≤ 55
  · simp only [if_pos ht] at h ⊢
    by_cases h1 : s.size < 1 + told
    · rw [if_pos h1] at h; simp at h
    rw [if_neg h1] at h ⊢
    split at h
    · simp at h
    · rename_i h2; rw [if_neg h2]; dsimp only; refine ⟨by omega, by omega, fun _ => by omega⟩
  · simp only [if_neg ht] at h ⊢
    generalize beL (s.extract 1 (1 + (told - 55))).data.toList = n at *
    by_cases h1 : s.size < 1 + (told - 55)
    · rw [if_pos h1] at h; simp at h
    rw [if_neg h1] at h ⊢
    split at h
    · simp at h
    rename_i h2
    rw [if_neg h2]
    split at h
    · simp at h
    rename_i h3
    rw [if_neg h3]
    dsimp only; refine ⟨by omega, by omega, fun _ => by omega⟩
theorem hd_ok (s : ByteArray) (d m : Bool) (h : (hd s d m).2.2.2 = 0) : 0 < s.size ∧ (hd s d m).2.1 + (hd s d m).2.2.1 ≤ s.size ∧ 1 ≤ (hd s d m).2.1 + (hd s d m).2.2.1 ∧ ((hd s d m).1 = true → 1 ≤ (hd s d m).2.1) := by
  unfold hd at h ⊢
  by_cases h0 : s.size = 0
  · rw [if_pos h0] at h; simp at h
  rw [if_neg h0] at h ⊢
  by_cases h1 : d = true
  · rw [if_pos h1] at h; simp at h
  rw [if_neg h1] at h ⊢
  by_cases h2 : m = true
  · rw [if_pos h2] at h; simp at h
  rw [if_neg h2] at h ⊢
  exact ⟨by omega, hdR_ok s (by omega) h⟩

/-- What was read: the item, its bytes, its items, the error. -/
structure Rd where
  x : It
  size : Nat
  items : Nat
  e : Int
structure Rds where
  xs : List It
  items : Nat
  e : Int
def noIt : It := .mk ByteArray.empty false []
def Rd.bad (e : Int) : Rd := ⟨noIt, 0, 0, e⟩
def Rds.bad (e : Int) : Rds := ⟨[], 0, e⟩
def tooDeep (D : Int) (deep : Nat) : Bool := decide (D < deep) || decide (16 < deep)
def tooMany (M : Int) (ahead : Nat) : Bool := decide (M < ahead + 1) || decide (1024 < ahead + 1)
def within (e : Int) : Int := if e = 2 then 3 else e
mutual
def rdI (D M : Int) : Nat → ByteArray → Nat → Nat → Rd
  | 0, _, _, _ => Rd.bad 2
  | f + 1, s, deep, ahead =>
    if (hd s (tooDeep D deep) (tooMany M ahead)).2.2.2 ≠ 0 then Rd.bad (hd s (tooDeep D deep) (tooMany M ahead)).2.2.2
    else if (hd s (tooDeep D deep) (tooMany M ahead)).1 = false then
      ⟨.mk (s.extract (hd s (tooDeep D deep) (tooMany M ahead)).2.1 ((hd s (tooDeep D deep) (tooMany M ahead)).2.1 + (hd s (tooDeep D deep) (tooMany M ahead)).2.2.1)) false [],
        (hd s (tooDeep D deep) (tooMany M ahead)).2.1 + (hd s (tooDeep D deep) (tooMany M ahead)).2.2.1, 1, 0⟩
    else
      if (rdS D M f (s.extract (hd s (tooDeep D deep) (tooMany M ahead)).2.1 ((hd s (tooDeep D deep) (tooMany M ahead)).2.1 + (hd s (tooDeep D deep) (tooMany M ahead)).2.2.1)) (deep + 1) (ahead + 1)).e ≠ 0
      then Rd.bad (rdS D M f (s.extract (hd s (tooDeep D deep) (tooMany M ahead)).2.1 ((hd s (tooDeep D deep) (tooMany M ahead)).2.1 + (hd s (tooDeep D deep) (tooMany M ahead)).2.2.1)) (deep + 1) (ahead + 1)).e
      else ⟨.mk ByteArray.empty true (rdS D M f (s.extract (hd s (tooDeep D deep) (tooMany M ahead)).2.1 ((hd s (tooDeep D deep) (tooMany M ahead)).2.1 + (hd s (tooDeep D deep) (tooMany M ahead)).2.2.1)) (deep + 1) (ahead + 1)).xs,
        (hd s (tooDeep D deep) (tooMany M ahead)).2.1 + (hd s (tooDeep D deep) (tooMany M ahead)).2.2.1,
        1 + (rdS D M f (s.extract (hd s (tooDeep D deep) (tooMany M ahead)).2.1 ((hd s (tooDeep D deep) (tooMany M ahead)).2.1 + (hd s (tooDeep D deep) (tooMany M ahead)).2.2.1)) (deep + 1) (ahead + 1)).items, 0⟩
def rdS (D M : Int) : Nat → ByteArray → Nat → Nat → Rds
  | 0, _, _, _ => Rds.bad 2
  | f + 1, s, deep, ahead =>
    if s.size = 0 then ⟨[], 0, 0⟩
    else if (rdI D M f s deep ahead).e ≠ 0 then Rds.bad (within (rdI D M f s deep ahead).e)
    else if (rdS D M f (s.extract (rdI D M f s deep ahead).size s.size) deep (ahead + (rdI D M f s deep ahead).items)).e ≠ 0
      then Rds.bad (rdS D M f (s.extract (rdI D M f s deep ahead).size s.size) deep (ahead + (rdI D M f s deep ahead).items)).e
    else ⟨(rdI D M f s deep ahead).x :: (rdS D M f (s.extract (rdI D M f s deep ahead).size s.size) deep (ahead + (rdI D M f s deep ahead).items)).xs,
      (rdI D M f s deep ahead).items + (rdS D M f (s.extract (rdI D M f s deep ahead).size s.size) deep (ahead + (rdI D M f s deep ahead).items)).items, 0⟩
end
theorem rdI_size (D M : Int) (f : Nat) (s : ByteArray) (deep ahead : Nat) (h : (rdI D M f s deep ahead).e = 0) : 1 ≤ (rdI D M f s deep ahead).size ∧ (rdI D M f s deep ahead).size ≤ s.size := by
  cases f with
  | zero => simp [rdI, Rd.bad] at h
  | succ f =>
    rw [rdI] at h ⊢
    have hk := hd_ok s (tooDeep D deep) (tooMany M ahead)
    generalize hd s (tooDeep D deep) (tooMany M ahead) = H at *
    by_cases h1 : H.2.2.2 ≠ 0
    · rw [if_pos h1] at h; exact absurd h h1
    rw [if_neg h1] at h ⊢
    have hk := hk (Decidable.not_not.1 h1)
    by_cases h2 : H.1 = false
    · rw [if_pos h2]; dsimp only; omega
    rw [if_neg h2] at h ⊢
    split at h
    · rename_i h3; exact absurd h h3
    · rename_i h3; rw [if_neg h3]; dsimp only; omega
/-- Fuel enough is enough. -/
theorem rd_fuel (D M : Int) : ∀ (z : Nat), (∀ (s : ByteArray) (deep ahead f g : Nat), s.size ≤ z → 2 * s.size ≤ f → 2 * s.size ≤ g → rdI D M f s deep ahead = rdI D M g s deep ahead) ∧
    (∀ (s : ByteArray) (deep ahead f g : Nat), s.size ≤ z → 2 * s.size + 1 ≤ f → 2 * s.size + 1 ≤ g → rdS D M f s deep ahead = rdS D M g s deep ahead) := by
  intro z
  induction z with
  | zero =>
    refine ⟨fun s deep ahead f g hz _ _ => ?_, fun s deep ahead f g hz hf hg => ?_⟩
    · have h0 : s.size = 0 := by omega
      have hh : ∀ d m, hd s d m = (false, 0, 0, 2) := fun d m => by simp [hd, h0]
      have : ∀ f, rdI D M f s deep ahead = Rd.bad 2 := by
        intro f
        cases f with
        | zero => rfl
        | succ f => rw [rdI]; simp [hh]
      rw [this f, this g]
    · obtain ⟨f, rfl⟩ : ∃ k, f = k + 1 := ⟨f - 1, by omega⟩
      obtain ⟨g, rfl⟩ : ∃ k, g = k + 1 := ⟨g - 1, by omega⟩
      rw [rdS, rdS, if_pos (by omega), if_pos (by omega)]
  | succ z ih =>
    obtain ⟨ihI, ihS⟩ := ih
    have hI : ∀ (s : ByteArray) (deep ahead f g : Nat), s.size ≤ z + 1 → 2 * s.size ≤ f → 2 * s.size ≤ g → rdI D M f s deep ahead = rdI D M g s deep ahead := by
      intro s deep ahead f g hz hf hg
      by_cases h0 : s.size = 0
      · exact ihI s deep ahead f g (by omega) hf hg
      obtain ⟨f, rfl⟩ : ∃ k, f = k + 1 := ⟨f - 1, by omega⟩
      obtain ⟨g, rfl⟩ : ∃ k, g = k + 1 := ⟨g - 1, by omega⟩
      rw [rdI, rdI]
      have hk := hd_ok s (tooDeep D deep) (tooMany M ahead)
      generalize hd s (tooDeep D deep) (tooMany M ahead) = H at *
      by_cases h1 : H.2.2.2 ≠ 0
      · rw [if_pos h1, if_pos h1]
      have hk := hk (Decidable.not_not.1 h1)
      by_cases h2 : H.1 = false
      · rw [if_neg h1, if_neg h1, if_pos h2, if_pos h2]
      have hl := hk.2.2.2 (by simpa using h2)
      have hz' : (s.extract H.2.1 (H.2.1 + H.2.2.1)).size = H.2.2.1 := by rw [size_cut _ _ _ hk.2.1]; omega
      rw [ihS (s.extract H.2.1 (H.2.1 + H.2.2.1)) (deep + 1) (ahead + 1) f g (by omega) (by omega) (by omega)]
    refine ⟨hI, fun s deep ahead f g hz hf hg => ?_⟩
    by_cases h0 : s.size = 0
    · exact ihS s deep ahead f g (by omega) hf hg
    obtain ⟨f, rfl⟩ : ∃ k, f = k + 1 := ⟨f - 1, by omega⟩
    obtain ⟨g, rfl⟩ : ∃ k, g = k + 1 := ⟨g - 1, by omega⟩
    rw [rdS, rdS, if_neg h0, if_neg h0, hI s deep ahead f g hz (by omega) (by omega)]
    have hk := rdI_size D M g s deep ahead
    generalize rdI D M g s deep ahead = R at *
    by_cases h1 : R.e ≠ 0
    · rw [if_pos h1, if_pos h1]
    have hk := hk (Decidable.not_not.1 h1)
    have hz' : (s.extract R.size s.size).size = s.size - R.size := size_cut _ _ _ (Nat.le_refl _)
    rw [ihS (s.extract R.size s.size) deep (ahead + R.items) f g (by omega) (by omega) (by omega)]
def rdItem (D M : Int) (s : ByteArray) (deep ahead : Nat) : Rd := rdI D M (2 * s.size + 2) s deep ahead
def rdSeq (D M : Int) (s : ByteArray) (deep ahead : Nat) : Rds := rdS D M (2 * s.size + 1) s deep ahead
theorem rdItem_eq (D M : Int) (s : ByteArray) (deep ahead : Nat) (H : Bool × Nat × Nat × Int) (hH : hd s (tooDeep D deep) (tooMany M ahead) = H) : rdItem D M s deep ahead =
    if H.2.2.2 ≠ 0 then Rd.bad H.2.2.2
    else if H.1 = false then ⟨.mk (s.extract H.2.1 (H.2.1 + H.2.2.1)) false [], H.2.1 + H.2.2.1, 1, 0⟩
    else if (rdSeq D M (s.extract H.2.1 (H.2.1 + H.2.2.1)) (deep + 1) (ahead + 1)).e ≠ 0 then Rd.bad (rdSeq D M (s.extract H.2.1 (H.2.1 + H.2.2.1)) (deep + 1) (ahead + 1)).e
    else ⟨.mk ByteArray.empty true (rdSeq D M (s.extract H.2.1 (H.2.1 + H.2.2.1)) (deep + 1) (ahead + 1)).xs, H.2.1 + H.2.2.1, 1 + (rdSeq D M (s.extract H.2.1 (H.2.1 + H.2.2.1)) (deep + 1) (ahead + 1)).items, 0⟩ := by
  subst hH
  rw [rdItem, rdI]
  have hk := hd_ok s (tooDeep D deep) (tooMany M ahead)
  generalize hd s (tooDeep D deep) (tooMany M ahead) = H at *
  by_cases h1 : H.2.2.2 ≠ 0
  · rw [if_pos h1, if_pos h1]
  have hk := hk (Decidable.not_not.1 h1)
  by_cases h2 : H.1 = false
  · rw [if_neg h1, if_neg h1, if_pos h2, if_pos h2]
  have hz' : (s.extract H.2.1 (H.2.1 + H.2.2.1)).size = H.2.2.1 := by rw [size_cut _ _ _ hk.2.1]; omega
  rw [rdSeq, (rd_fuel D M s.size).2 (s.extract H.2.1 (H.2.1 + H.2.2.1)) (deep + 1) (ahead + 1) (2 * s.size + 1) (2 * (s.extract H.2.1 (H.2.1 + H.2.2.1)).size + 1) (by omega) (by omega) (by omega)]
theorem rdSeq_nil (D M : Int) (s : ByteArray) (deep ahead : Nat) (h : s.size = 0) : rdSeq D M s deep ahead = ⟨[], 0, 0⟩ := by rw [rdSeq, rdS, if_pos h]
theorem rdSeq_cons (D M : Int) (s : ByteArray) (deep ahead : Nat) (h : s.size ≠ 0) (R : Rd) (hR : rdItem D M s deep ahead = R) : rdSeq D M s deep ahead =
    if R.e ≠ 0 then Rds.bad (within R.e)
    else if (rdSeq D M (s.extract R.size s.size) deep (ahead + R.items)).e ≠ 0 then Rds.bad (rdSeq D M (s.extract R.size s.size) deep (ahead + R.items)).e
    else ⟨R.x :: (rdSeq D M (s.extract R.size s.size) deep (ahead + R.items)).xs, R.items + (rdSeq D M (s.extract R.size s.size) deep (ahead + R.items)).items, 0⟩ := by
  subst hR
  rw [rdSeq, rdS, if_neg h, rdItem, (rd_fuel D M s.size).1 s deep ahead (2 * s.size) (2 * s.size + 2) (by omega) (by omega) (by omega)]
  have hk := rdI_size D M (2 * s.size + 2) s deep ahead
  generalize rdI D M (2 * s.size + 2) s deep ahead = R at *
  by_cases h1 : R.e ≠ 0
  · rw [if_pos h1, if_pos h1]
  have hk := hk (Decidable.not_not.1 h1)
  have hz' : (s.extract R.size s.size).size = s.size - R.size := size_cut _ _ _ (Nat.le_refl _)
  rw [rdSeq, (rd_fuel D M s.size).2 (s.extract R.size s.size) deep (ahead + R.items) (2 * s.size) (2 * (s.extract R.size s.size).size + 1) (by omega) (by omega) (by omega)]
end Go.Proofs.YtacikiambpfipaaDoor
