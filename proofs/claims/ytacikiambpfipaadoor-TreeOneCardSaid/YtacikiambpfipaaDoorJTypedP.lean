/- Values of types, as plain data. No program in sight. -/
import Derived.Test.YtacikiambpfipaaDoorJTyP
namespace Go.Proofs.YtacikiambpfipaaDoor
set_option linter.unusedVariables false
set_option linter.unusedSimpArgs false

def lead0 : List UInt8 → Bool
  | [] => false
  | b :: _ => b == 0
/-- The type of the value at a place within. -/
def Ty.at (t : Ty) (i : Nat) : Ty := (t.sub[if t.kind = 4 then 0 else i]?).getD (.mk 0 0 [] 0)
/-- Is an item, those within it apart, a value of a type? -/
def is1 (t : Ty) (tx : ByteArray) (l : Bool) (m : Nat) : Bool :=
  if t.kind = 1 then !l && decide ((tx.size : Int) ≤ t.size) && !lead0 tx.data.toList
  else if t.kind = 2 then !l && decide ((tx.size : Int) = t.size)
  else if t.kind = 3 then !l && decide ((tx.size : Int) ≤ t.size)
  else if t.kind = 4 then l && decide ((m : Int) ≤ t.size)
  else l && decide (m ≤ t.sub.length) && decide ((t.sub.length : Int) - t.tail ≤ m)
mutual
def It.isOf : It → Ty → Bool
  | .mk tx l s, t => is1 t tx l s.length && isOfL s t 0
def isOfL : List It → Ty → Nat → Bool
  | [], _, _ => true
  | x :: xs, t, i => x.isOf (t.at i) && isOfL xs t (i + 1)
end
theorem isOfL_append (a b : List It) (t : Ty) (i : Nat) : isOfL (a ++ b) t i = (isOfL a t i && isOfL b t (i + a.length)) := by
  induction a generalizing i with
  | nil => simp [isOfL]
  | cons x xs ih => simp only [List.cons_append, isOfL, ih, List.length_cons, Bool.and_assoc]; rw [show i + 1 + xs.length = i + (xs.length + 1) from by omega]
theorem isOfL_take {s : List It} {k : Nat} {t : Ty} (h : k < s.length) : isOfL (s.take (k + 1)) t 0 = (isOfL (s.take k) t 0 && s[k].isOf (t.at k)) := by
  rw [take_succ_it s k h, isOfL_append]; simp [isOfL, Nat.min_eq_left (Nat.le_of_lt h)]
theorem isOfL_false {s : List It} {k : Nat} {t : Ty} (h : k < s.length) (hf : s[k].isOf (t.at k) = false) : isOfL s t 0 = false := by
  have h1 := isOfL_append (s.take (k + 1)) (s.drop (k + 1)) t 0
  rw [List.take_append_drop, isOfL_take h, hf] at h1
  simpa using h1

def noughts (n : Nat) : ByteArray := ⟨(List.replicate n 0).toArray⟩
theorem noughts_size (n : Nat) : (noughts n).size = n := by simp [noughts, ByteArray.size]
mutual
/-- The zero value. -/
def Ty.zero : Ty → It
  | .mk k s l t => if k = 2 then .mk (noughts s.toNat) false [] else if k = 4 then .mk ⟨#[]⟩ true [] else if k = 5 then .mk ⟨#[]⟩ true (zeroL l ((l.length : Int) - t).toNat) else .mk ⟨#[]⟩ false []
def zeroL : List Ty → Nat → List It
  | [], _ => []
  | _ :: _, 0 => []
  | x :: xs, n + 1 => x.zero :: zeroL xs n
end
theorem zeroL_eq : ∀ (l : List Ty) (n : Nat), zeroL l n = (l.take n).map Ty.zero
  | [], n => by cases n <;> simp [zeroL]
  | x :: xs, 0 => by simp [zeroL]
  | x :: xs, n + 1 => by simp [zeroL, zeroL_eq xs n]
/-- How many types within the zero value has a value of. -/
def Ty.kept (t : Ty) : Nat := if t.kind = 5 then ((t.sub.length : Int) - t.tail).toNat else 0
mutual
def Ty.least : Ty → Nat
  | .mk k _ l t => 1 + leastL l (if k = 5 then ((l.length : Int) - t).toNat else 0)
def leastL : List Ty → Nat → Nat
  | [], _ => 0
  | _ :: _, 0 => 0
  | x :: xs, n + 1 => x.least + leastL xs n
end
theorem leastL_eq : ∀ (l : List Ty) (n : Nat), leastL l n = ((l.take n).map Ty.least).sum
  | [], n => by cases n <;> simp [leastL]
  | x :: xs, 0 => by simp [leastL]
  | x :: xs, n + 1 => by simp [leastL, leastL_eq xs n]
theorem countL_map (l : List Ty) (h : ∀ x ∈ l, x.zero.count = x.least) : countL (l.map Ty.zero) = (l.map Ty.least).sum := by
  induction l with
  | nil => simp [countL]
  | cons x xs ih => simp only [List.map_cons, countL, List.sum_cons, h x (by simp), ih (fun y hy => h y (by simp [hy]))]
theorem zero_count (x : Ty) : x.zero.count = x.least := by
  induction x using Ty.ind with
  | h k s l t ih =>
    simp only [Ty.zero, Ty.least]
    by_cases h5 : k = 5
    · subst h5
      rw [if_neg (by decide), if_neg (by decide), if_pos rfl, if_pos rfl, It.count, zeroL_eq, leastL_eq]
      rw [countL_map _ fun y hy => ih y (List.mem_of_mem_take hy)]
    · rw [if_neg h5]
      have : leastL l 0 = 0 := by cases l <;> rfl
      rw [if_neg h5, this]
      split
      · simp [It.count, countL]
      · split <;> simp [It.count, countL]
theorem leastL_le (l : List Ty) (n : Nat) (h : ∀ x ∈ l, x.least ≤ x.count) : leastL l n ≤ countT l := by
  induction l generalizing n with
  | nil => simp [leastL]
  | cons x xs ih =>
    cases n with
    | zero => simp [leastL]
    | succ n =>
      have h1 := h x (by simp)
      have h2 := ih n (fun y hy => h y (by simp [hy]))
      simp only [leastL, countT]; omega
theorem least_le (x : Ty) : x.least ≤ x.count := by
  induction x using Ty.ind with
  | h k s l t ih => simp only [Ty.least, Ty.count]; have := leastL_le l (if k = 5 then ((l.length : Int) - t).toNat else 0) ih; omega
theorem least_pos (x : Ty) : 1 ≤ x.least := by cases x; simp [Ty.least]
theorem deepL_map (l : List Ty) (h : ∀ x ∈ l, x.zero.deep ≤ x.deep) : deepL (l.map Ty.zero) ≤ deepT l := by
  induction l with
  | nil => simp [deepL]
  | cons x xs ih =>
    have h1 := h x (by simp)
    have h2 := ih (fun y hy => h y (by simp [hy]))
    simp only [List.map_cons, deepL, deepT]; omega
theorem zero_deep (x : Ty) : x.zero.deep ≤ x.deep := by
  induction x using Ty.ind with
  | h k s l t ih =>
    simp only [Ty.zero, Ty.deep]
    split
    · simp [It.deep, deepL]
    · split
      · simp [It.deep, deepL]
      · split
        · rw [It.deep, zeroL_eq]
          have := deepL_map _ fun y hy => ih y (List.mem_of_mem_take (i := ((l.length : Int) - t).toNat) hy)
          have h2 := deepT_take_le l ((l.length : Int) - t).toNat
          omega
        · simp [It.deep, deepL]
theorem rightL_map (l : List Ty) (h : ∀ x ∈ l, x.zero.right = true) : rightL (l.map Ty.zero) = true := by
  induction l with
  | nil => simp [rightL]
  | cons x xs ih => simp only [List.map_cons, rightL, h x (by simp), ih (fun y hy => h y (by simp [hy])), Bool.and_self]
theorem zero_right (x : Ty) : x.zero.right = true := by
  induction x using Ty.ind with
  | h k s l t ih =>
    simp only [Ty.zero]
    split
    · simp [It.right, rightL, formed]
    · split
      · simp [It.right, rightL, formed, ByteArray.size]
      · split
        · rw [It.right, zeroL_eq, rightL_map _ fun y hy => ih y (List.mem_of_mem_take hy)]
          simp [formed, ByteArray.size]
        · simp [It.right, rightL, formed]
theorem ty_may {t : Ty} (h : t.may = true) : t.count ≤ 64 ∧ t.deep ≤ 8 ∧ t.right = true := by
  unfold Ty.may at h
  simp only [Bool.and_eq_true, decide_eq_true_eq] at h
  exact ⟨h.1.1, h.1.2, h.2⟩
theorem zero_may {t : Ty} (h : t.may = true) : t.zero.may = true := by
  obtain ⟨h1, h2, h3⟩ := ty_may h
  have := zero_deep t
  have := zero_count t
  have := least_le t
  simp only [It.may, zero_right, Bool.true_and, Bool.and_eq_true, decide_eq_true_eq]
  omega
theorem right_ok {k s : Int} {l : List Ty} {t : Int} (h : (Ty.mk k s l t).right = true) : tyOk k s l.length t = true ∧ rightT l = true := by
  simpa only [Ty.right, Bool.and_eq_true] using h
/-- What a kind asks for. -/
theorem ok_ways {k s : Int} {n : Nat} {t : Int} (h : tyOk k s n t = true) :
    (k = 1 ∧ (s = 1 ∨ s = 2 ∨ s = 4 ∨ s = 8) ∧ n = 0 ∧ t = 0) ∨ (k = 2 ∧ 1 ≤ s ∧ s ≤ 65536 ∧ n = 0 ∧ t = 0) ∨ (k = 3 ∧ 0 ≤ s ∧ s ≤ 65536 ∧ n = 0 ∧ t = 0) ∨ (k = 4 ∧ 0 ≤ s ∧ s ≤ 1024 ∧ n = 1 ∧ t = 0) ∨ (k = 5 ∧ s = 0 ∧ n ≤ 16 ∧ 0 ≤ t ∧ t ≤ n) := by
  unfold tyOk at h
  split at h
  · exact .inl ⟨by assumption, by simpa using h⟩
  · split at h
    · exact .inr (.inl ⟨by assumption, by simpa using h⟩)
    · split at h
      · exact .inr (.inr (.inl ⟨by assumption, by simpa using h⟩))
      · split at h
        · exact .inr (.inr (.inr (.inl ⟨by assumption, by simpa using h⟩)))
        · split at h
          · exact .inr (.inr (.inr (.inr ⟨by assumption, by simpa using h⟩)))
          · cases h
theorem isOfL_map (t : Ty) (l : List Ty) (hk : t.kind = 5) (ih : ∀ x ∈ l, x.zero.isOf x = true) : ∀ i, (∀ j, j < l.length → t.sub[i + j]? = l[j]?) → isOfL (l.map Ty.zero) t i = true := by
  induction l with
  | nil => intro i _; rfl
  | cons x xs hxs =>
    intro i h
    have h0 := h 0 (by simp)
    have e : t.at i = x := by
      unfold Ty.at
      rw [if_neg (by omega)]
      rw [Nat.add_zero] at h0
      rw [h0]; rfl
    rw [List.map_cons, isOfL, e, ih x (by simp), Bool.true_and]
    refine hxs (fun y hy => ih y (by simp [hy])) (i + 1) fun j hj => ?_
    have := h (j + 1) (by simp; omega)
    rw [show i + 1 + j = i + (j + 1) from by omega, this]
    simp
/-- The zero value is one. -/
theorem zero_isOf (x : Ty) : x.right = true → x.zero.isOf x = true := by
  induction x using Ty.ind with
  | h k s l t ih =>
    intro hr
    obtain ⟨h1, h2⟩ := right_ok hr
    rcases ok_ways h1 with ⟨rfl, hs, hn, ht⟩ | ⟨rfl, h3, h4, hn, ht⟩ | ⟨rfl, h3, h4, hn, ht⟩ | ⟨rfl, h3, h4, hn, ht⟩ | ⟨rfl, h3, h4, h5, h6⟩
    · simp [Ty.zero, It.isOf, isOfL, is1, lead0, ByteArray.size]; omega
    · simp [Ty.zero, It.isOf, isOfL, is1, noughts_size]; omega
    · simp [Ty.zero, It.isOf, isOfL, is1, ByteArray.size]; omega
    · simp [Ty.zero, It.isOf, isOfL, is1, h3]
    · have hlen : (zeroL l ((l.length : Int) - t).toNat).length = ((l.length : Int) - t).toNat := by rw [zeroL_eq]; simp; omega
      simp only [Ty.zero, if_neg (show ¬ (5 : Int) = 2 by decide), if_neg (show ¬ (5 : Int) = 4 by decide), if_true, It.isOf]
      rw [Bool.and_eq_true]
      refine ⟨?_, ?_⟩
      · simp only [is1, Ty.kind_mk, Ty.sub_mk, Ty.tail_mk, hlen, if_neg (show ¬ (5 : Int) = 1 by decide), if_neg (show ¬ (5 : Int) = 2 by decide), if_neg (show ¬ (5 : Int) = 3 by decide), if_neg (show ¬ (5 : Int) = 4 by decide), Bool.true_and, Bool.and_eq_true, decide_eq_true_eq]
        omega
      · rw [zeroL_eq]
        refine isOfL_map _ _ rfl (fun y hy => ?_) 0 fun j hj => ?_
        · have hm := List.mem_of_mem_take hy
          refine ih y hm ?_
          obtain ⟨i, hi, rfl⟩ := List.getElem_of_mem hm
          exact rightT_at h2 i hi
        · simp only [Nat.zero_add, Ty.sub_mk]
          simp at hj
          rw [List.getElem?_take_of_lt (by omega)]
mutual
/-- Has a type, or one within it, a size above 3,000? -/
def Ty.wide : Ty → Bool
  | .mk k s l _ => (decide (k = 2) && decide (3000 < s)) || wideL l
def wideL : List Ty → Bool
  | [] => false
  | x :: xs => x.wide || wideL xs
end
theorem wideL_append (a b : List Ty) : wideL (a ++ b) = (wideL a || wideL b) := by
  induction a with
  | nil => simp [wideL]
  | cons x xs ih => simp [wideL, ih, Bool.or_assoc]
theorem wideL_take (s : List Ty) (k : Nat) (h : k < s.length) : wideL (s.take (k + 1)) = (wideL (s.take k) || s[k].wide) := by
  rw [take_succ_ty s k h, wideL_append]; simp [wideL]
theorem wideL_true (s : List Ty) (k : Nat) (h : k < s.length) (hf : s[k].wide = true) : wideL s = true := by
  have h1 := wideL_append (s.take (k + 1)) (s.drop (k + 1))
  rw [List.take_append_drop, wideL_take s k h, hf] at h1
  simpa using h1
theorem wideL_at {s : List Ty} (h : wideL s = false) (k : Nat) (hk : k < s.length) : s[k].wide = false := by
  cases hr : s[k].wide with
  | false => rfl
  | true => rw [wideL_true s k hk hr] at h; cases h
/-- Whether an item is a value of a type: the error. -/
def fitE (ty : Ty) (x : It) : Int := if ty.may && x.may then (if x.isOf ty then 0 else 12) else 1
end Go.Proofs.YtacikiambpfipaaDoor
