/- What a block's elements lay: the plain functions and their laws. No program in sight. -/
import Derived.Test.YthbechmkjhkipaaFixedP
import Derived.Test.YthbechmkjhkipaaLebP
namespace Go.Proofs.Ythbechmkjhkipaa
set_option linter.unusedVariables false
set_option linter.unusedSimpArgs false

/-- A copy of n bytes from so many back, byte by byte. -/
def cpy (out : List UInt8) (back : Nat) : Nat → List UInt8
  | 0 => out
  | n + 1 => cpy (out ++ [out.getD (out.length - back) 0]) back n
theorem cpy_length (out : List UInt8) (back n : Nat) : (cpy out back n).length = out.length + n := by
  induction n generalizing out with
  | zero => rfl
  | succ n ih => rw [cpy, ih]; simp; omega
theorem cpy_add (out : List UInt8) (back m n : Nat) : cpy out back (m + n) = cpy (cpy out back m) back n := by
  induction m generalizing out with
  | zero => simp [cpy]
  | succ m ih => rw [show m + 1 + n = (m + n) + 1 from by omega, cpy, cpy, ih]
theorem cpy_snoc (out : List UInt8) (back n : Nat) : cpy out back (n + 1) = cpy out back n ++ [(cpy out back n).getD ((cpy out back n).length - back) 0] := by
  rw [cpy_add]; rfl
theorem cpy_chunk (out : List UInt8) (back m : Nat) (hm : m ≤ back) (hb : back ≤ out.length) : cpy out back m = out ++ (out.drop (out.length - back)).take m := by
  induction m with
  | zero => simp [cpy]
  | succ m ih =>
    rw [cpy_snoc, ih (by omega)]
    have hl : (out ++ (out.drop (out.length - back)).take m).length = out.length + m := by simp; omega
    rw [hl, List.append_assoc]
    congr 1
    rw [List.take_succ_eq_append_getElem (by simp; omega)]
    congr 1
    rw [List.getD_eq_getElem?_getD, List.getElem?_append_left (by omega), List.getElem_drop, List.getElem?_eq_getElem (by omega)]
    simp
    congr 1
    omega

/-- How many bytes an element's head has, from its first byte. -/
def sHead (b : Nat) : Nat := if b % 4 = 0 then (if 60 ≤ b / 4 then b / 4 - 58 else 1) else if b % 4 = 1 then 2 else if b % 4 = 2 then 3 else 5
theorem sHead_pos (b : Nat) (hb : b < 256) : 1 ≤ sHead b ∧ sHead b ≤ 5 := by
  unfold sHead; split <;> (try split) <;> (try split) <;> omega
/-- How many bytes it lays, from its first byte and the number behind it. -/
def sCount (b l : Nat) : Nat := if b % 4 = 0 then (if 60 ≤ b / 4 then l + 1 else b / 4 + 1) else if b % 4 = 1 then 4 + b / 4 % 8 else b / 4 + 1
/-- From how far back. -/
def sBack (b l : Nat) : Nat := if b % 4 = 1 then b / 4 / 8 * 256 + l else l
/-- The number behind the first byte of the element at k. -/
def sNum (s : ByteArray) (k b : Nat) : Nat := leL (s.extract (k + 1) (k + sHead b)).data.toList

/-- The element at k: an error, or the place behind it and what is laid then. -/
def sStep (s : ByteArray) (size k b : Nat) (out : List UInt8) : Int × Nat × List UInt8 :=
  if s.size < k + sHead b then (2, k, out)
  else if (b % 4 ≠ 0 ∧ (sBack b (sNum s k b) = 0 ∨ out.length < sBack b (sNum s k b))) ∨ size - out.length < sCount b (sNum s k b) then (3, k, out)
  else if b % 4 = 0 then
    if s.size < k + sHead b + sCount b (sNum s k b) then (2, k, out)
    else (0, k + sHead b + sCount b (sNum s k b), out ++ (s.extract (k + sHead b) (k + sHead b + sCount b (sNum s k b))).data.toList)
  else (0, k + sHead b, cpy out (sBack b (sNum s k b)) (sCount b (sNum s k b)))

/-- All elements from k on. -/
def sAll (s : ByteArray) (size : Nat) : Nat → Nat → List UInt8 → Int × List UInt8
  | 0, _, _ => (2, [])
  | f + 1, k, out => if h : k < s.size then
      if (sStep s size k s[k].toNat out).1 = 0 then sAll s size f (sStep s size k s[k].toNat out).2.1 (sStep s size k s[k].toNat out).2.2
      else ((sStep s size k s[k].toNat out).1, [])
    else if out.length < size then (2, []) else (0, out)
/-- What elements lay, of so many bytes. -/
def sElems (s : ByteArray) (size : Nat) : Int × List UInt8 := sAll s size (s.size + 1) 0 []
/-- How many bytes a block has unpacked, how many bytes that number has, the error. -/
def sSize (s : ByteArray) : Nat × Nat × Int :=
  if (lebNext s).2.2 = 0 then (if 4294967295 < (lebNext s).1 then (0, 0, 5) else lebNext s) else (0, 0, (lebNext s).2.2)
/-- What a block unpacks to, by a cap: an error, or bytes. -/
def sUnpack (s : ByteArray) (most : Int) : Int × List UInt8 :=
  if (sSize s).2.2 ≠ 0 then ((sSize s).2.2, [])
  else if most < (sSize s).1 then (5, [])
  else sElems (s.extract (sSize s).2.1 s.size) (sSize s).1

theorem sStep_ok {s : ByteArray} {size k b : Nat} {out : List UInt8} (hb : b < 256) (hk : k < s.size) (ho : out.length ≤ size) (h : (sStep s size k b out).1 = 0) :
    k < (sStep s size k b out).2.1 ∧ (sStep s size k b out).2.1 ≤ s.size ∧ (sStep s size k b out).2.2.length ≤ size := by
  have hp := sHead_pos b hb
  unfold sStep at h ⊢
  split at h <;> rename_i h1
  · simp at h
  · split at h <;> rename_i h2
    · simp at h
    · split at h <;> rename_i h3
      · split at h <;> rename_i h4
        · simp at h
        · rw [if_neg h1, if_neg h2, if_pos h3, if_neg h4]
          refine ⟨by simp; omega, by simp; omega, ?_⟩
          rw [List.length_append, toList_size, size_cut _ _ _ (by omega)]
          omega
      · rw [if_neg h1, if_neg h2, if_neg h3]
        refine ⟨by simp; omega, by simp; omega, ?_⟩
        rw [cpy_length]; omega
theorem sAll_next {s : ByteArray} {size f k : Nat} {out : List UInt8} {x : Int × List UInt8} (hk : k < s.size) (hx : sAll s size (f + 1) k out = x) (h : (sStep s size k s[k].toNat out).1 = 0) :
    sAll s size f (sStep s size k s[k].toNat out).2.1 (sStep s size k s[k].toNat out).2.2 = x := by
  rw [← hx, sAll, dif_pos hk, if_pos h]
theorem sAll_err {s : ByteArray} {size f k : Nat} {out : List UInt8} {x : Int × List UInt8} (hk : k < s.size) (hx : sAll s size (f + 1) k out = x) (h : (sStep s size k s[k].toNat out).1 ≠ 0) :
    x = ((sStep s size k s[k].toNat out).1, []) := by
  rw [← hx, sAll, dif_pos hk, if_neg h]
theorem sAll_end {s : ByteArray} {size f k : Nat} {out : List UInt8} {x : Int × List UInt8} (hk : ¬ k < s.size) (hx : sAll s size (f + 1) k out = x) : x = if out.length < size then (2, []) else (0, out) := by
  rw [← hx, sAll, dif_neg hk]
end Go.Proofs.Ythbechmkjhkipaa
