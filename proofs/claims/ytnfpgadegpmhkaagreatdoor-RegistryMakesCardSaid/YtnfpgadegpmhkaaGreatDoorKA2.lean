/- Texts and the lists of their bytes: small plain laws. No program in sight. -/
import Derived.Below
import Derived.Laws.Strings
import Derived.Test.YtnfpgadegpmhkaaGreatDoorProg
import Derived.Test.YtnfpgadegpmhkaaGreatDoorKA1
import Derived.WalkSpells
set_option linter.unusedVariables false
set_option linter.unusedSimpArgs false
set_option maxRecDepth 100000
set_option maxHeartbeats 1000000
namespace Go.Proofs.YtnfpgadegpmhkaaGreatDoor
theorem bytes_ext {a b : ByteArray} (h : a.data.toList = b.data.toList) : a = b := by
 cases a; cases b; simp at h; simpa using h
theorem toList_size (s : ByteArray) : s.data.toList.length = s.size := by simp
theorem size_of (l : List UInt8) : (⟨l.toArray⟩ : ByteArray).size = l.length := by simp [ByteArray.size]
theorem toList_app (a b : ByteArray) : (a ++ b).data.toList = a.data.toList ++ b.data.toList := by
 rw [ByteArray.data_append]; simp
theorem toList_cut (s : ByteArray) (i j : Nat) : (s.extract i j).data.toList = (s.data.toList.take j).drop i := by
 rw [ByteArray.data_extract, Array.toList_extract, List.extract_eq_take_drop, List.drop_take]
theorem size_cut (s : ByteArray) (i j : Nat) (hj : j ≤ s.size) : (s.extract i j).size = j - i := by
 rw [ByteArray.size_extract, Nat.min_eq_left hj]
theorem take_snoc (s : ByteArray) (k : Nat) (h : k < s.size) : s.data.toList.take (k + 1) = s.data.toList.take k ++ [s[k]] := by
 rw [List.take_succ_eq_append_getElem (by simpa using h)]; rfl
theorem drop_cons (s : ByteArray) (k : Nat) (h : k < s.size) : s.data.toList.drop k = s[k] :: s.data.toList.drop (k + 1) := by
 rw [List.drop_eq_getElem_cons (by simpa using h)]; rfl
theorem length_take (s : ByteArray) (k : Nat) (h : k ≤ s.size) : (s.data.toList.take k).length = k := by
 rw [List.length_take, Nat.min_eq_left (by simpa using h)]
theorem byte_at (s : ByteArray) (k : Nat) (h : k < s.size) : s.data.toList[k]? = some s[k] := by
 rw [List.getElem?_eq_getElem (by simpa using h)]; rfl
theorem empty_ways (t : ByteArray) : (t.size = 0 ∧ t = ⟨#[]⟩) ∨ (t.size ≠ 0 ∧ t.toList.isEmpty = false ∧ (!t.toList.isEmpty) = true) := by
 by_cases h : t.size = 0
 ·exact .inl ⟨h, bytes_ext (List.eq_nil_of_length_eq_zero (by simpa using h))⟩
 ·refine .inr ⟨h, ?_, ?_⟩ <;> rw [ByteArray.toList_eq] <;> cases h2 : t.data.toList with
  | nil => exact absurd (by rw [← toList_size, h2]; rfl) h
  | cons a b => rfl
theorem beq0 (e : Int) : (e = 0 ∧ (e == 0) = true ∧ (e != 0) = false) ∨ (e ≠ 0 ∧ (e == 0) = false ∧ (e != 0) = true) := by
 by_cases h : e = 0
 ·exact .inl ⟨h, by simp [h], by simp [h]⟩
 ·exact .inr ⟨h, by simp [h], by simp [h]⟩
theorem str_ways (a b : ByteArray) : (a = b ∧ (a.toList == b.toList) = true ∧ (a.toList != b.toList) = false) ∨ (a ≠ b ∧ (a.toList == b.toList) = false ∧ (a.toList != b.toList) = true) := by
 by_cases h : a = b
 ·subst h; exact .inl ⟨rfl, by simp, by simp⟩
 ·have h2 : a.toList ≠ b.toList := by
   intro e
   rw [ByteArray.toList_eq, ByteArray.toList_eq] at e
   exact h (bytes_ext e)
  exact .inr ⟨h, by simp [h2], by simp [h2]⟩
inductive It where
 | mk : ByteArray → Bool → List It → It
def It.text : It → ByteArray | .mk t _ _ => t
def It.list : It → Bool | .mk _ l _ => l
def It.sub : It → List It | .mk _ _ s => s
@[simp] theorem It.text_mk (t : ByteArray) (l : Bool) (s : List It) : (It.mk t l s).text = t := rfl
@[simp] theorem It.list_mk (t : ByteArray) (l : Bool) (s : List It) : (It.mk t l s).list = l := rfl
@[simp] theorem It.sub_mk (t : ByteArray) (l : Bool) (s : List It) : (It.mk t l s).sub = s := rfl
mutual
def It.count : It → Nat
 | .mk _ _ s => 1 + countL s
def countL : List It → Nat
 | [] => 0
 | x :: xs => x.count + countL xs
end
mutual
def It.deep : It → Nat
 | .mk _ _ s => deepL s + 1
def deepL : List It → Nat
 | [] => 0
 | x :: xs => max x.deep (deepL xs)
end
def formed (t : ByteArray) (l : Bool) (n : Nat) : Bool := if l then decide (t.size = 0) else decide (n = 0)
mutual
def It.right : It → Bool
 | .mk t l s => formed t l s.length && rightL s
def rightL : List It → Bool
 | [] => true
 | x :: xs => x.right && rightL xs
end
def It.may (x : It) : Bool := x.right && decide (x.deep ≤ 16) && decide (x.count ≤ 1024)
theorem It.ind {P : It → Prop} (h : ∀ t l s, (∀ x ∈ s, P x) → P (.mk t l s)) : ∀ x, P x := by
 intro x
 exact It.rec (motive_1 := P) (motive_2 := fun s => ∀ x ∈ s, P x) (fun t l s ih => h t l s ih) (by simp) (fun x xs hx hxs => by
  intro y hy
  rcases List.mem_cons.1 hy with rfl | hy
  ·exact hx
  ·exact hxs y hy) x
theorem count_pos (x : It) : 1 ≤ x.count := by cases x; simp [It.count]
theorem take_succ_it (s : List It) (k : Nat) (h : k < s.length) : s.take (k + 1) = s.take k ++ [s[k]] := List.take_succ_eq_append_getElem h
inductive Ty where
 | mk : Int → Int → List Ty → Int → Ty
def Ty.kind : Ty → Int | .mk k _ _ _ => k
def Ty.size : Ty → Int | .mk _ s _ _ => s
def Ty.sub : Ty → List Ty | .mk _ _ l _ => l
def Ty.tail : Ty → Int | .mk _ _ _ t => t
@[simp] theorem Ty.kind_mk (k s : Int) (l : List Ty) (t : Int) : (Ty.mk k s l t).kind = k := rfl
@[simp] theorem Ty.size_mk (k s : Int) (l : List Ty) (t : Int) : (Ty.mk k s l t).size = s := rfl
@[simp] theorem Ty.sub_mk (k s : Int) (l : List Ty) (t : Int) : (Ty.mk k s l t).sub = l := rfl
@[simp] theorem Ty.tail_mk (k s : Int) (l : List Ty) (t : Int) : (Ty.mk k s l t).tail = t := rfl
mutual
def Ty.count : Ty → Nat
 | .mk _ _ l _ => 1 + countT l
def countT : List Ty → Nat
 | [] => 0
 | x :: xs => x.count + countT xs
end
mutual
def Ty.deep : Ty → Nat
 | .mk _ _ l _ => deepT l + 1
def deepT : List Ty → Nat
 | [] => 0
 | x :: xs => max x.deep (deepT xs)
end
def tyOk (k s : Int) (n : Nat) (t : Int) : Bool :=
 if k = 1 then decide ((s = 1 ∨ s = 2 ∨ s = 4 ∨ s = 8) ∧ n = 0 ∧ t = 0)
 else if k = 2 then decide (1 ≤ s ∧ s ≤ 65536 ∧ n = 0 ∧ t = 0)
 else if k = 3 then decide (0 ≤ s ∧ s ≤ 65536 ∧ n = 0 ∧ t = 0)
 else if k = 4 then decide (0 ≤ s ∧ s ≤ 1024 ∧ n = 1 ∧ t = 0)
 else if k = 5 then decide (s = 0 ∧ n ≤ 16 ∧ 0 ≤ t ∧ t ≤ n)
 else false
mutual
def Ty.right : Ty → Bool
 | .mk k s l t => tyOk k s l.length t && rightT l
def rightT : List Ty → Bool
 | [] => true
 | x :: xs => x.right && rightT xs
end
def Ty.may (t : Ty) : Bool := decide (t.count ≤ 64) && decide (t.deep ≤ 8) && t.right
theorem Ty.ind {P : Ty → Prop} (h : ∀ k s l t, (∀ x ∈ l, P x) → P (.mk k s l t)) : ∀ x, P x := by
 intro x
 exact Ty.rec (motive_1 := P) (motive_2 := fun s => ∀ x ∈ s, P x) (fun k s l t ih => h k s l t ih) (by simp) (fun x xs hx hxs => by
  intro y hy
  rcases List.mem_cons.1 hy with rfl | hy
  ·exact hx
  ·exact hxs y hy) x
theorem take_succ_ty (s : List Ty) (k : Nat) (h : k < s.length) : s.take (k + 1) = s.take k ++ [s[k]] := List.take_succ_eq_append_getElem h
theorem countT_append (a b : List Ty) : countT (a ++ b) = countT a + countT b := by
 induction a with
 | nil => simp [countT]
 | cons x xs ih => simp [countT, ih, Nat.add_assoc]
theorem deepT_append (a b : List Ty) : deepT (a ++ b) = max (deepT a) (deepT b) := by
 induction a with
 | nil => simp [deepT]
 | cons x xs ih => simp only [List.cons_append, deepT, ih]; omega
theorem rightT_append (a b : List Ty) : rightT (a ++ b) = (rightT a && rightT b) := by
 induction a with
 | nil => simp [rightT]
 | cons x xs ih => simp [rightT, ih, Bool.and_assoc]
theorem countT_pos (x : Ty) : 1 ≤ x.count := by cases x; simp [Ty.count]
theorem countT_take (s : List Ty) (k : Nat) (h : k < s.length) : countT (s.take (k + 1)) = countT (s.take k) + s[k].count := by
 rw [take_succ_ty s k h, countT_append]; simp [countT]
theorem countT_take_le (s : List Ty) (k : Nat) : countT (s.take k) ≤ countT s := by
 have := countT_append (s.take k) (s.drop k)
 rw [List.take_append_drop] at this
 omega
theorem deepT_take (s : List Ty) (k : Nat) (h : k < s.length) : deepT (s.take (k + 1)) = max (deepT (s.take k)) s[k].deep := by
 rw [take_succ_ty s k h, deepT_append]; simp [deepT]
theorem deepT_take_le (s : List Ty) (k : Nat) : deepT (s.take k) ≤ deepT s := by
 have := deepT_append (s.take k) (s.drop k)
 rw [List.take_append_drop] at this
 omega
theorem rightT_take (s : List Ty) (k : Nat) (h : k < s.length) : rightT (s.take (k + 1)) = (rightT (s.take k) && s[k].right) := by
 rw [take_succ_ty s k h, rightT_append]; simp [rightT]
theorem rightT_false (s : List Ty) (k : Nat) (h : k < s.length) (hf : s[k].right = false) : rightT s = false := by
 have h1 := rightT_append (s.take (k + 1)) (s.drop (k + 1))
 rw [List.take_append_drop, rightT_take s k h, hf] at h1
 simpa using h1
theorem rightT_at {s : List Ty} (h : rightT s = true) (k : Nat) (hk : k < s.length) : s[k].right = true := by
 cases hr : s[k].right with
 | true => rfl
 | false => rw [rightT_false s k hk hr] at h; cases h
theorem deepT_le (s : List Ty) (h : ∀ x ∈ s, x.deep ≤ x.count) : deepT s ≤ countT s := by
 induction s with
 | nil => simp [deepT]
 | cons x xs ih =>
  have h1 := h x (by simp)
  have h2 := ih (fun y hy => h y (by simp [hy]))
  simp only [deepT, countT]; omega
theorem tyDeep_le (x : Ty) : x.deep ≤ x.count := by
 induction x using Ty.ind with
 | h k s l t ih => simp only [Ty.deep, Ty.count]; have := deepT_le l ih; omega
mutual
def Ty.vis : Ty → Nat → Nat → Bool × Nat
 | .mk k s l t, lv, c => if 8 < lv ∨ c = 0 ∨ tyOk k s l.length t = false then (false, c) else visT l (lv + 1) (c - 1)
def visT : List Ty → Nat → Nat → Bool × Nat
 | [], _, c => (true, c)
 | x :: xs, lv, c => match x.vis lv c with
  | (true, c') => visT xs lv c'
  | (false, c') => (false, c')
end
theorem visT_append (a b : List Ty) (lv c : Nat) : visT (a ++ b) lv c = match visT a lv c with
 | (true, c') => visT b lv c'
 | (false, c') => (false, c') := by
 induction a generalizing c with
 | nil => simp [visT]
 | cons x xs ih =>
  simp only [List.cons_append, visT]
  rcases x.vis lv c with ⟨r, c'⟩
  cases r with
  | true => simp only [ih]
  | false => rfl
theorem visT_take {s : List Ty} {k lv c c' : Nat} (h : k < s.length) (hv : visT (s.take k) lv c = (true, c')) : visT (s.take (k + 1)) lv c = s[k].vis lv c' := by
 rw [take_succ_ty s k h, visT_append, hv]
 simp only [visT]
 rcases s[k].vis lv c' with ⟨r, d⟩
 cases r <;> rfl
theorem visT_stop {s : List Ty} {k lv c c' d : Nat} (h : k < s.length) (hv : visT (s.take k) lv c = (true, c')) (hf : s[k].vis lv c' = (false, d)) : visT s lv c = (false, d) := by
 have h1 := visT_append (s.take (k + 1)) (s.drop (k + 1)) lv c
 rw [List.take_append_drop, visT_take h hv, hf] at h1
 exact h1
def VisIs (r : Bool × Nat) (rt : Bool) (lv d n c : Nat) : Prop := (r.1 = true ↔ rt = true ∧ lv + d ≤ 9 ∧ n ≤ c) ∧ (r.1 = true → r.2 + n = c) ∧ r.2 ≤ c
theorem visT_is (s : List Ty) (ih : ∀ x ∈ s, ∀ lv c, lv ≤ 9 → VisIs (x.vis lv c) x.right lv x.deep x.count c) : ∀ lv c, lv ≤ 9 → VisIs (visT s lv c) (rightT s) lv (deepT s) (countT s) c := by
 induction s with
 | nil => intro lv c h; simp [VisIs, visT, rightT, deepT, countT, h]
 | cons x xs hxs =>
  intro lv c hlv
  have h1 := ih x (by simp) lv c hlv
  rcases hv : x.vis lv c with ⟨r, c'⟩
  rw [hv] at h1
  obtain ⟨h1, h2, h3⟩ := h1
  simp only at h1 h2 h3
  have hp := countT_pos x
  unfold VisIs
  simp only [visT, hv, rightT, deepT, countT, Bool.and_eq_true]
  cases r with
  | true =>
   have h2 := h2 rfl
   obtain ⟨h4, h5, h6⟩ := hxs (fun y hy => ih y (by simp [hy])) lv c' hlv
   have h1 := h1.1 rfl
   refine ⟨?_, fun hh => by have := h5 hh; simp only; omega, by simp only; omega⟩
   simp only [h4]
   constructor
   ·rintro ⟨a, b, d⟩; exact ⟨⟨h1.1, a⟩, by omega, by omega⟩
   ·rintro ⟨a, b, d⟩; exact ⟨a.2, by omega, by omega⟩
  | false =>
   refine ⟨?_, by simp, h3⟩
   constructor
   ·intro h; cases h
   ·rintro ⟨a, b, d⟩; exact h1.2 ⟨a.1, by omega, by omega⟩
theorem tyVis_is (x : Ty) : ∀ lv c, lv ≤ 9 → VisIs (x.vis lv c) x.right lv x.deep x.count c := by
 induction x using Ty.ind with
 | h k s l t ih =>
  intro lv c hlv
  unfold VisIs
  simp only [Ty.vis, Ty.right, Ty.deep, Ty.count, Bool.and_eq_true]
  by_cases h1 : 8 < lv ∨ c = 0 ∨ tyOk k s l.length t = false
  ·simp only [if_pos h1]
   refine ⟨?_, by simp, Nat.le_refl _⟩
   constructor
   ·intro h; cases h
   ·rintro ⟨⟨a, _⟩, b, d⟩
    rcases h1 with h1 | h1 | h1
    ·omega
    ·omega
    ·rw [h1] at a; cases a
  ·simp only [if_neg h1]
   have h2 : lv ≤ 8 ∧ 0 < c ∧ tyOk k s l.length t = true := by
    refine ⟨by omega, by omega, ?_⟩
    cases h : tyOk k s l.length t with
    | true => rfl
    | false => exact absurd (.inr (.inr h)) h1
   obtain ⟨h3, h4, h5⟩ := visT_is l ih (lv + 1) (c - 1) (by omega)
   refine ⟨?_, fun hh => by have := h4 hh; omega, by omega⟩
   rw [h3]
   constructor
   ·rintro ⟨a, b, d⟩; exact ⟨⟨h2.2.2, a⟩, by omega, by omega⟩
   ·rintro ⟨a, b, d⟩; exact ⟨a.2, by omega, by omega⟩
theorem tyVis_may (x : Ty) : (x.vis 1 64).1 = x.may := by
 have h := (tyVis_is x 1 64 (by omega)).1
 rw [Bool.eq_iff_iff, h]
 simp only [Ty.may, Bool.and_eq_true, decide_eq_true_eq]
 constructor
 ·rintro ⟨a, b, c⟩; exact ⟨⟨by omega, by omega⟩, a⟩
 ·rintro ⟨⟨a, b⟩, c⟩; exact ⟨c, by omega, by omega⟩
structure Cfg where
 fm : Int
 mg : Nat
 fr : Int
 un : Int
 de : Int
 it : Int
structure Fr where
 id : Nat
 nm : ByteArray
 body : ByteArray
def noFr : Fr := ⟨0, ByteArray.empty, ByteArray.empty⟩
def Cfg.right (c : Cfg) : Bool := decide (1 ≤ c.fm) && (decide (c.fm ≤ 3) && (decide (1 ≤ c.fr) && (decide (c.fr ≤ 65536) && (decide (1 ≤ c.un) && (decide (c.un ≤ 65536) && (decide (1 ≤ c.de) && (decide (c.de ≤ 16) && (decide (1 ≤ c.it) && decide (c.it ≤ 1024)))))))))
def nameB (b : Nat) : Bool := decide ((97 ≤ b ∧ b ≤ 122) ∨ (48 ≤ b ∧ b ≤ 57) ∨ b = 95)
def nameL (l : List UInt8) : Bool := l.all fun b => nameB b.toNat
def nmMay (s : ByteArray) : Bool := nameL s.data.toList && (decide (1 ≤ s.size) && decide (s.size ≤ 12))
theorem nameL_snoc (l : List UInt8) (b : UInt8) : nameL (l ++ [b]) = (nameL l && nameB b.toNat) := by simp [nameL]
theorem nameL_take_no (l : List UInt8) (k : Nat) (h : nameL (l.take k) = false) : nameL l = false := by
 simp only [nameL, List.all_eq_false] at h ⊢
 obtain ⟨x, hx, hb⟩ := h
 exact ⟨x, List.mem_of_mem_take hx, hb⟩
theorem name_ways (b : Nat) (hb : b < 256) : (nameB b = false ∧ (b < 48 ∨ (57 < b ∧ b < 95) ∨ (95 < b ∧ b < 97) ∨ 122 < b) ∧ b ≠ 95) ∨ (nameB b = true ∧ ((48 ≤ b ∧ b ≤ 57) ∨ (b = 95) ∨ (97 ≤ b ∧ b ≤ 122))) := by
 rcases Bool.eq_false_or_eq_true (nameB b) with h | h
 ·right; refine ⟨h, ?_⟩; simp only [nameB, decide_eq_true_eq] at h; omega
 ·left; refine ⟨h, ?_⟩; simp only [nameB, decide_eq_false_iff_not] at h; omega
theorem nmMay_size {s : ByteArray} (h : nmMay s = true) : 1 ≤ s.size ∧ s.size ≤ 12 := by
 simp only [nmMay, Bool.and_eq_true, decide_eq_true_eq] at h; exact h.2
theorem nmMay_no {s : ByteArray} (h : s.size < 1 ∨ 12 < s.size) : nmMay s = false := by
 rcases Bool.eq_false_or_eq_true (nmMay s) with h1 | h1
 ·have := nmMay_size h1; omega
 ·exact h1
theorem nmMay_of {s : ByteArray} (h1 : 1 ≤ s.size) (h2 : s.size ≤ 12) : nmMay s = nameL s.data.toList := by simp [nmMay, h1, h2]
def isDig (b : UInt8) : Bool := decide (48 ≤ b.toNat) && decide (b.toNat ≤ 57)
def digStep (n : Nat) (b : UInt8) : Nat := if n < 1000000 then 10 * n + (b.toNat - 48) else n
def numGo : List UInt8 → Nat → Nat × List UInt8
 | [], n => (n, [])
 | b :: r, n => if isDig b then numGo r (digStep n b) else (n, b :: r)
def digAhead : List UInt8 → Bool
 | [] => false
 | b :: _ => isDig b
def numR : List UInt8 → Option (Nat × List UInt8)
 | [] => none
 | b :: r => if isDig b = false then none else if b = 48 ∧ digAhead r = true then none else some (numGo (b :: r) 0)
theorem numR_cons (b : UInt8) (r : List UInt8) : numR (b :: r) = if isDig b = false then none else if b = 48 ∧ digAhead r = true then none else some (numGo (b :: r) 0) := rfl
def tSep (acc : List Ty) (l : List UInt8) : Option (List UInt8) :=
 if acc = [] then some l else match l with
  | [] => none
  | c :: r => if c = 44 then some r else none
def tQ (l : List UInt8) (tl : Nat) : Option (List UInt8 × Nat) := match l with
 | [] => if 0 < tl then none else some ([], tl)
 | c :: r => if c = 63 then some (r, tl + 1) else if 0 < tl then none else some (c :: r, tl)
def tLoop (p : List UInt8 → Option (Ty × List UInt8)) : Nat → List UInt8 → List Ty → Nat → Option (Ty × List UInt8)
 | 0, _, _, _ => none
 | _ + 1, [], _, _ => none
 | n + 1, c :: r, acc, tl =>
  if c = 125 then some (.mk 5 0 acc tl, r)
  else match tSep acc (c :: r) with
   | none => none
   | some l1 => match tQ l1 tl with
    | none => none
    | some (l2, tl') => match p l2 with
     | none => none
     | some (y, r') => tLoop p n r' (acc ++ [y]) tl'
def tTail (x : Ty) : List UInt8 → Option (Ty × List UInt8)
 | [] => none
 | c :: r => if c = 58 then (match numR r with
  | none => none
  | some (_, []) => none
  | some (n, d :: r') => if d = 93 then some (.mk 4 n [x] 0, r') else none) else none
def tItem : Nat → List UInt8 → Option (Ty × List UInt8)
 | 0, _ => none
 | _ + 1, [] => none
 | f + 1, c :: r =>
  if c = 117 then (match numR r with | none => none | some (n, r') => if n % 8 = 0 then some (.mk 1 ((n / 8 : Nat) : Int) [] 0, r') else none)
  else if c = 98 then (match numR r with | none => none | some (n, r') => some (.mk 2 n [] 0, r'))
  else if c = 115 then (match numR r with | none => none | some (n, r') => some (.mk 3 n [] 0, r'))
  else if c = 91 then (match tItem f r with | none => none | some (x, r') => tTail x r')
  else if c = 123 then tLoop (tItem f) (r.length + 1) r [] 0
  else none
def numU : Option (Nat × List UInt8) → Option (Ty × List UInt8)
 | none => none
 | some (n, r) => if n % 8 = 0 then some (.mk 1 ((n / 8 : Nat) : Int) [] 0, r) else none
def numK (k : Int) : Option (Nat × List UInt8) → Option (Ty × List UInt8)
 | none => none
 | some (n, r) => some (.mk k n [] 0, r)
def tList (o : Option (Ty × List UInt8)) : Option (Ty × List UInt8) := match o with
 | none => none
 | some (x, r) => tTail x r
theorem tItem_u (f : Nat) (r : List UInt8) : tItem (f + 1) (117 :: r) = numU (numR r) := by
 simp only [tItem, if_true]
 cases numR r <;> rfl
theorem tItem_b (f : Nat) (r : List UInt8) : tItem (f + 1) (98 :: r) = numK 2 (numR r) := by
 simp only [tItem, if_neg (show ¬ (98 : UInt8) = 117 by decide), if_true]
 cases numR r <;> rfl
theorem tItem_s (f : Nat) (r : List UInt8) : tItem (f + 1) (115 :: r) = numK 3 (numR r) := by
 simp only [tItem, if_neg (show ¬ (115 : UInt8) = 117 by decide), if_neg (show ¬ (115 : UInt8) = 98 by decide), if_true]
 cases numR r <;> rfl
theorem tItem_l (f : Nat) (r : List UInt8) : tItem (f + 1) (91 :: r) = tList (tItem f r) := by
 simp only [tItem, if_neg (show ¬ (91 : UInt8) = 117 by decide), if_neg (show ¬ (91 : UInt8) = 98 by decide), if_neg (show ¬ (91 : UInt8) = 115 by decide), if_true]
 cases tItem f r <;> rfl
theorem tItem_t (f : Nat) (r : List UInt8) : tItem (f + 1) (123 :: r) = tLoop (tItem f) (r.length + 1) r [] 0 := by
 simp only [tItem, if_neg (show ¬ (123 : UInt8) = 117 by decide), if_neg (show ¬ (123 : UInt8) = 98 by decide), if_neg (show ¬ (123 : UInt8) = 115 by decide), if_neg (show ¬ (123 : UInt8) = 91 by decide), if_true]
theorem tItem_no (f : Nat) (c : UInt8) (r : List UInt8) (h1 : c.toNat ≠ 117) (h2 : c.toNat ≠ 98) (h3 : c.toNat ≠ 115) (h4 : c.toNat ≠ 91) (h5 : c.toNat ≠ 123) : tItem (f + 1) (c :: r) = none := by
 have k : ∀ n : UInt8, c.toNat ≠ n.toNat → ¬ c = n := fun n h e => h (by rw [e])
 simp only [tItem, if_neg (k 117 h1), if_neg (k 98 h2), if_neg (k 115 h3), if_neg (k 91 h4), if_neg (k 123 h5)]
def tClose (x : Ty) : Option (Nat × List UInt8) → Option (Ty × List UInt8)
 | none => none
 | some (_, []) => none
 | some (n, d :: r') => if d.toNat = 93 then some (.mk 4 n [x] 0, r') else none
theorem tTail_colon (x : Ty) (r : List UInt8) : tTail x (58 :: r) = tClose x (numR r) := by
 simp only [tTail, if_true]
 cases numR r with
 | none => rfl
 | some z =>
  obtain ⟨n, r'⟩ := z
  cases r' with
  | nil => rfl
  | cons d r' =>
   simp only [tClose]
   by_cases h : d = 93
   ·subst h; rfl
   ·have h2 : ¬ d.toNat = 93 := fun e => h (UInt8.toNat_inj.1 e)
    simp [h, h2]
theorem tTail_no (x : Ty) (c : UInt8) (r : List UInt8) (h : c.toNat ≠ 58) : tTail x (c :: r) = none := by
 simp only [tTail, if_neg (fun e : c = 58 => h (by rw [e]; rfl))]
def readTy (l : List UInt8) : Option Ty := match tItem 8 l with
 | some (x, []) => if x.may then some x else none
 | _ => none
theorem numGo_suffix : ∀ (l : List UInt8) (n m : Nat) (r : List UInt8), numGo l n = (m, r) → r <:+ l
 | [], n, m, r, h => by simp [numGo] at h; rw [← h.2]; exact List.suffix_refl _
 | b :: l, n, m, r, h => by
  unfold numGo at h
  split at h
  ·exact (numGo_suffix l _ m r h).trans (List.suffix_cons b l)
  ·injection h with h1 h2
   rw [← h2]; exact List.suffix_refl _
theorem digStep_le (n : Nat) (b : UInt8) (h : n ≤ 10000100) (hb : b.toNat ≤ 57) : digStep n b ≤ 10000100 := by unfold digStep; split <;> omega
theorem isDig_iff (b : UInt8) : isDig b = true ↔ 48 ≤ b.toNat ∧ b.toNat ≤ 57 := by simp [isDig]
theorem numGo_le : ∀ (l : List UInt8) (n m : Nat) (r : List UInt8), numGo l n = (m, r) → n ≤ 10000100 → m ≤ 10000100
 | [], n, m, r, h, hn => by simp [numGo] at h; omega
 | b :: l, n, m, r, h, hn => by
  unfold numGo at h
  split at h
  ·rename_i hd
   exact numGo_le l _ m r h (digStep_le n b hn ((isDig_iff b).1 hd).2)
  ·injection h with h1 h2; omega
theorem numR_some {l : List UInt8} {n : Nat} {r : List UInt8} (h : numR l = some (n, r)) : r <:+ l ∧ r.length < l.length ∧ n ≤ 10000100 := by
 match l, h with
 | [], h => simp [numR] at h
 | b :: l, h =>
  rw [numR_cons] at h
  split at h
  ·cases h
  ·rename_i hb
   split at h
   ·cases h
   ·injection h with h
    have h2 := numGo_le _ _ _ _ h (by omega)
    unfold numGo at h
    rw [if_pos (by simpa using hb)] at h
    have h1 := numGo_suffix _ _ _ _ h
    refine ⟨h1.trans (List.suffix_cons b l), ?_, h2⟩
    have := h1.length_le
    simp; omega
theorem tSep_some {acc : List Ty} {l r : List UInt8} (h : tSep acc l = some r) : r <:+ l := by
 unfold tSep at h
 split at h
 ·injection h with h; rw [h]; exact List.suffix_refl _
 ·match l, h with
  | c :: l, h =>
   simp only at h
   split at h
   ·injection h with h; rw [← h]; exact List.suffix_cons c l
   ·cases h
theorem tQ_some {l r : List UInt8} {tl tl' : Nat} (h : tQ l tl = some (r, tl')) : r <:+ l := by
 unfold tQ at h
 match l, h with
 | [], h =>
  simp only at h
  split at h
  ·cases h
  ·injection h with h; injection h with h _; rw [← h]; exact List.suffix_refl _
 | c :: l, h =>
  simp only at h
  split at h
  ·injection h with h; injection h with h _; rw [← h]; exact List.suffix_cons c l
  ·split at h
   ·cases h
   ·injection h with h; injection h with h _; rw [← h]; exact List.suffix_refl _
theorem tLoop_sfx {p : List UInt8 → Option (Ty × List UInt8)} (hp : ∀ l y r, p l = some (y, r) → r <:+ l ∧ r.length < l.length) : ∀ n l acc tl y r, tLoop p n l acc tl = some (y, r) → r <:+ l ∧ r.length < l.length
 | 0, _, _, _, _, _, h => by simp [tLoop] at h
 | n + 1, [], _, _, _, _, h => by simp [tLoop] at h
 | n + 1, c :: l, acc, tl, y, r, h => by
  unfold tLoop at h
  split at h
  ·injection h with h; injection h with _ h; rw [← h]; exact ⟨List.suffix_cons c l, by simp⟩
  ·split at h
   ·cases h
   ·rename_i l1 h1
    split at h
    ·cases h
    ·rename_i l2 tl' h2
     split at h
     ·cases h
     ·rename_i y' r' h3
      have k1 := tSep_some h1
      have k2 := tQ_some h2
      have k3 := hp _ _ _ h3
      have k4 := tLoop_sfx hp n _ _ _ _ _ h
      have k5 := (k4.1.trans k3.1).trans (k2.trans k1)
      refine ⟨k5, ?_⟩
      have := (k2.trans k1).length_le
      omega
theorem tTail_sfx {x y : Ty} {l r : List UInt8} (h : tTail x l = some (y, r)) : r <:+ l ∧ r.length < l.length := by
 unfold tTail at h
 match l, h with
 | c :: l, h =>
  simp only at h
  split at h
  ·split at h
   ·cases h
   ·cases h
   ·rename_i n d r' h1
    split at h
    ·injection h with h; injection h with _ h; subst h
     have k1 := (numR_some h1)
     refine ⟨((List.suffix_cons d r').trans k1.1).trans (List.suffix_cons c l), ?_⟩
     have := k1.2.1
     simp at this ⊢; omega
    ·cases h
  ·cases h
theorem tItem_sfx : ∀ (f : Nat) (l : List UInt8) (y : Ty) (r : List UInt8), tItem f l = some (y, r) → r <:+ l ∧ r.length < l.length
 | 0, _, _, _, h => by simp [tItem] at h
 | f + 1, [], _, _, h => by simp [tItem] at h
 | f + 1, c :: l, y, r, h => by
  have key : ∀ {m : Nat} {r' : List UInt8}, numR l = some (m, r') → r' <:+ c :: l ∧ r'.length < (c :: l).length := fun h1 => by
   have k := numR_some h1
   exact ⟨k.1.trans (List.suffix_cons c l), by have := k.2.1; simp; omega⟩
  unfold tItem at h
  split at h
  ·split at h
   ·cases h
   ·rename_i h1
    split at h
    ·injection h with h; injection h with _ h; subst h; exact key h1
    ·cases h
  ·split at h
   ·split at h
    ·cases h
    ·rename_i h1
     injection h with h; injection h with _ h; subst h; exact key h1
   ·split at h
    ·split at h
     ·cases h
     ·rename_i h1
      injection h with h; injection h with _ h; subst h; exact key h1
    ·split at h
     ·split at h
      ·cases h
      ·rename_i x r' h1
       have k1 := tItem_sfx f _ _ _ h1
       have k2 := tTail_sfx h
       exact ⟨(k2.1.trans k1.1).trans (List.suffix_cons c l), by have := k1.2; have := k2.2; simp; omega⟩
     ·split at h
      ·have k := tLoop_sfx (tItem_sfx f) _ _ _ _ _ _ h
       exact ⟨k.1.trans (List.suffix_cons c l), by have := k.2; simp; omega⟩
      ·cases h
theorem sfx_drop {s : ByteArray} {q : Nat} {r : List UInt8} (hq : q ≤ s.size) (h : r <:+ s.data.toList.drop q) : s.data.toList.drop (s.size - r.length) = r ∧ q ≤ s.size - r.length := by
 obtain ⟨pre, hp⟩ := h
 have h1 := congrArg List.length hp
 simp only [List.length_append, List.length_drop, toList_size] at h1
 have h2 : r = (s.data.toList.drop q).drop pre.length := by rw [← hp, List.drop_left]
 rw [List.drop_drop] at h2
 refine ⟨?_, by omega⟩
 rw [h2]
 congr 1
 rw [List.length_drop, toList_size]
 omega
def TLoop (f : Nat) (s : ByteArray) (R : Option (Ty × List UInt8)) (p : Nat) (acc : List Ty) (tl : Nat) : Prop := ∃ n, tLoop (tItem f) n (s.data.toList.drop p) acc tl = R ∧ (s.data.toList.drop p).length < n
def TAt (f : Nat) (s : ByteArray) (R : Option (Ty × List UInt8)) (q : Nat) (acc : List Ty) (tl : Nat) : Prop := ∃ n, (match tItem f (s.data.toList.drop q) with | none => none | some (y, r') => tLoop (tItem f) n r' (acc ++ [y]) tl) = R ∧ (s.data.toList.drop q).length ≤ n
theorem TLoop.stop {f : Nat} {s : ByteArray} {R : Option (Ty × List UInt8)} {p : Nat} {acc : List Ty} {tl : Nat} (h : TLoop f s R p acc tl) (hp : s.size ≤ p) : R = none := by
 obtain ⟨n, h1, _⟩ := h
 rw [List.drop_eq_nil_of_le (by simpa using hp)] at h1
 cases n <;> simp [tLoop] at h1 <;> exact h1.symm
theorem TLoop.ends {f : Nat} {s : ByteArray} {R : Option (Ty × List UInt8)} {p : Nat} {acc : List Ty} {tl : Nat} (h : TLoop f s R p acc tl) (hp : p < s.size) (hc : s[p].toNat = 125) : R = some (.mk 5 0 acc tl, s.data.toList.drop (p + 1)) := by
 obtain ⟨n, h1, h2⟩ := h
 rw [drop_cons s p hp, show s[p] = 125 from UInt8.toNat_inj.1 hc] at h1
 cases n with
 | zero => omega
 | succ n => simp [tLoop] at h1; exact h1.symm
theorem TLoop.open_ {f : Nat} {s : ByteArray} {R : Option (Ty × List UInt8)} {p : Nat} {acc : List Ty} {tl : Nat} (h : TLoop f s R p acc tl) (hp : p < s.size) (hc : s[p].toNat ≠ 125) :
 ∃ n, (match tSep acc (s.data.toList.drop p) with
  | none => none
  | some l1 => match tQ l1 tl with
   | none => none
   | some (l2, tl') => match tItem f l2 with
    | none => none
    | some (y, r') => tLoop (tItem f) n r' (acc ++ [y]) tl') = R ∧ (s.data.toList.drop p).length ≤ n := by
 obtain ⟨n, h1, h2⟩ := h
 have c1 : s[p] ≠ 125 := fun e => hc (by rw [e]; rfl)
 match n, h1, h2 with
 | n + 1, h1, h2 =>
  refine ⟨n, ?_, by omega⟩
  rw [drop_cons s p hp] at h1 ⊢
  simpa only [tLoop, if_neg c1] using h1
theorem TLoop.bad {f : Nat} {s : ByteArray} {R : Option (Ty × List UInt8)} {p : Nat} {acc : List Ty} {tl : Nat} (h : TLoop f s R p acc tl) (hp : p < s.size) (hc : s[p].toNat ≠ 125) (hn : s[p].toNat ≠ 44) (ha : acc ≠ []) : R = none := by
 obtain ⟨n, h1, _⟩ := h.open_ hp hc
 have c2 : s[p] ≠ 44 := fun e => hn (by rw [e]; rfl)
 rw [show tSep acc (s.data.toList.drop p) = none by rw [drop_cons s p hp]; simp [tSep, ha, c2]] at h1
 exact h1.symm
def TSep (f : Nat) (s : ByteArray) (R : Option (Ty × List UInt8)) (q : Nat) (acc : List Ty) (tl : Nat) : Prop :=
 ∃ n, (match tQ (s.data.toList.drop q) tl with
  | none => none
  | some (l2, tl') => match tItem f l2 with
   | none => none
   | some (y, r') => tLoop (tItem f) n r' (acc ++ [y]) tl') = R ∧ (s.data.toList.drop q).length ≤ n
theorem TLoop.first {f : Nat} {s : ByteArray} {R : Option (Ty × List UInt8)} {p : Nat} {tl : Nat} (h : TLoop f s R p [] tl) (hp : p < s.size) (hc : s[p].toNat ≠ 125) : TSep f s R p [] tl := by
 obtain ⟨n, h1, h2⟩ := h.open_ hp hc
 rw [show tSep [] (s.data.toList.drop p) = some (s.data.toList.drop p) by simp [tSep]] at h1
 exact ⟨n, h1, h2⟩
theorem TLoop.more {f : Nat} {s : ByteArray} {R : Option (Ty × List UInt8)} {p : Nat} {acc : List Ty} {tl : Nat} (h : TLoop f s R p acc tl) (hp : p < s.size) (hc : s[p].toNat = 44) (ha : acc ≠ []) : TSep f s R (p + 1) acc tl := by
 obtain ⟨n, h1, h2⟩ := h.open_ hp (by omega)
 have c2 : s[p] = 44 := UInt8.toNat_inj.1 hc
 rw [show tSep acc (s.data.toList.drop p) = some (s.data.toList.drop (p + 1)) by rw [drop_cons s p hp]; simp [tSep, ha, c2]] at h1
 rw [drop_cons s p hp] at h2
 exact ⟨n, h1, by simp at h2 ⊢; omega⟩
theorem TSep.mark {f : Nat} {s : ByteArray} {R : Option (Ty × List UInt8)} {q : Nat} {acc : List Ty} {tl : Nat} (h : TSep f s R q acc tl) (hq : q < s.size) (hc : s[q].toNat = 63) : TAt f s R (q + 1) acc (tl + 1) := by
 obtain ⟨n, h1, h2⟩ := h
 have c2 : s[q] = 63 := UInt8.toNat_inj.1 hc
 rw [show tQ (s.data.toList.drop q) tl = some (s.data.toList.drop (q + 1), tl + 1) by rw [drop_cons s q hq]; simp [tQ, c2]] at h1
 rw [drop_cons s q hq] at h2
 exact ⟨n, h1, by simp at h2 ⊢; omega⟩
theorem TSep.none_ {f : Nat} {s : ByteArray} {R : Option (Ty × List UInt8)} {q : Nat} {acc : List Ty} {tl : Nat} (h : TSep f s R q acc tl) (hc : ∀ hq : q < s.size, s[q].toNat ≠ 63) (ht : 0 < tl) : R = none := by
 obtain ⟨n, h1, h2⟩ := h
 rw [show tQ (s.data.toList.drop q) tl = none by
  by_cases hq : q < s.size
  ·have c2 : s[q] ≠ 63 := fun e => hc hq (by rw [e]; rfl)
   rw [drop_cons s q hq]; simp [tQ, c2, ht]
  ·rw [List.drop_eq_nil_of_le (by simp; omega)]; simp [tQ, ht]] at h1
 exact h1.symm
theorem TSep.plain {f : Nat} {s : ByteArray} {R : Option (Ty × List UInt8)} {q : Nat} {acc : List Ty} (h : TSep f s R q acc 0) (hc : ∀ hq : q < s.size, s[q].toNat ≠ 63) : TAt f s R q acc 0 := by
 obtain ⟨n, h1, h2⟩ := h
 rw [show tQ (s.data.toList.drop q) 0 = some (s.data.toList.drop q, 0) by
  by_cases hq : q < s.size
  ·have c2 : s[q] ≠ 63 := fun e => hc hq (by rw [e]; rfl)
   rw [drop_cons s q hq]; simp [tQ, c2]
  ·rw [List.drop_eq_nil_of_le (by simp; omega)]; simp [tQ]] at h1
 exact ⟨n, h1, h2⟩
theorem TAt.none {f : Nat} {s : ByteArray} {R : Option (Ty × List UInt8)} {q : Nat} {acc : List Ty} {tl : Nat} (h : TAt f s R q acc tl) (hn : tItem f (s.data.toList.drop q) = none) : R = none := by
 obtain ⟨n, h1, _⟩ := h
 rw [hn] at h1
 exact h1.symm
theorem TAt.some {f : Nat} {s : ByteArray} {R : Option (Ty × List UInt8)} {q : Nat} {acc : List Ty} {tl : Nat} {y : Ty} {r : List UInt8} (h : TAt f s R q acc tl) (hq : q ≤ s.size) (hn : tItem f (s.data.toList.drop q) = some (y, r)) :
 TLoop f s R (s.size - r.length) (acc ++ [y]) tl ∧ q < s.size - r.length ∧ s.size - r.length ≤ s.size := by
 obtain ⟨n, h1, h2⟩ := h
 obtain ⟨k1, k2⟩ := tItem_sfx _ _ _ _ hn
 have hlen : (s.data.toList.drop q).length = s.size - q := by simp
 rw [hlen] at h2 k2
 rw [hn] at h1
 have e1 := (sfx_drop hq k1).1
 exact ⟨⟨n, by rw [e1]; exact h1, by rw [e1]; omega⟩, by omega, by omega⟩
def DgRel (s : ByteArray) (at_ k m : Nat) : Prop := numGo (s.data.toList.drop at_) 0 = numGo (s.data.toList.drop k) m ∧ ∀ j, at_ ≤ j → j < k → ∃ h : j < s.size, isDig s[j] = true
theorem DgRel.start (s : ByteArray) (at_ : Nat) : DgRel s at_ at_ 0 := ⟨rfl, by omega⟩
theorem DgRel.next {s : ByteArray} {at_ k m : Nat} (h : DgRel s at_ k m) (hk : k < s.size) (hd : isDig s[k] = true) : DgRel s at_ (k + 1) (digStep m s[k]) := by
 refine ⟨?_, fun j h1 h2 => ?_⟩
 ·rw [h.1, drop_cons s k hk, numGo, if_pos hd]
 ·by_cases e : j = k
  ·subst e; exact ⟨hk, hd⟩
  ·exact h.2 j h1 (by omega)
theorem numR_stop {s : ByteArray} {at_ : Nat} (hn : ∀ h : at_ < s.size, isDig s[at_] = false) : numR (s.data.toList.drop at_) = none := by
 by_cases h : at_ < s.size
 ·rw [drop_cons s at_ h]; simp [numR, hn h]
 ·rw [List.drop_eq_nil_of_le (by simp; omega)]; rfl
theorem numR_zero {s : ByteArray} {at_ k m : Nat} (h : DgRel s at_ k m) (hk : at_ + 1 < k) (hz : ∀ h : at_ < s.size, s[at_].toNat = 48) : numR (s.data.toList.drop at_) = none := by
 obtain ⟨h1, d1⟩ := h.2 at_ (by omega) (by omega)
 obtain ⟨h2, d2⟩ := h.2 (at_ + 1) (by omega) hk
 have c2 : s[at_] = 48 := UInt8.toNat_inj.1 (hz h1)
 rw [drop_cons s at_ h1, drop_cons s (at_ + 1) h2]
 simp [numR, c2, digAhead, d2]
theorem numR_is {s : ByteArray} {at_ k m : Nat} (h : DgRel s at_ k m) (hk : at_ < k) (hn : ∀ h : k < s.size, isDig s[k] = false) (hz : at_ + 1 < k → ∀ h : at_ < s.size, s[at_].toNat ≠ 48) : numR (s.data.toList.drop at_) = some (m, s.data.toList.drop k) := by
 obtain ⟨h1, d1⟩ := h.2 at_ (by omega) hk
 have e : numGo (s.data.toList.drop k) m = (m, s.data.toList.drop k) := by
  by_cases hks : k < s.size
  ·rw [drop_cons s k hks, numGo, if_neg (by rw [hn hks]; simp)]
  ·rw [List.drop_eq_nil_of_le (by simp; omega)]; rfl
 have hg := h.1
 rw [e] at hg
 rw [drop_cons s at_ h1] at hg ⊢
 rw [numR_cons, if_neg (by simp [d1]), if_neg, hg]
 rintro ⟨c, hd⟩
 have hk1 : at_ + 1 < k ∨ k = at_ + 1 := by omega
 rcases hk1 with hk1 | hk1
 ·exact hz hk1 h1 (by rw [c]; rfl)
 ·subst hk1
  by_cases hks : at_ + 1 < s.size
  ·rw [drop_cons s (at_ + 1) hks] at hd
   simp [digAhead, hn hks] at hd
  ·rw [List.drop_eq_nil_of_le (by simp; omega)] at hd
   simp [digAhead] at hd
theorem numR_pos {s : ByteArray} {q n : Nat} {r : List UInt8} (hq : q ≤ s.size) (h : numR (s.data.toList.drop q) = some (n, r)) : s.data.toList.drop (s.size - r.length) = r ∧ q < s.size - r.length ∧ s.size - r.length ≤ s.size ∧ n ≤ 10000100 := by
 obtain ⟨h1, h2, h3⟩ := numR_some h
 obtain ⟨k1, k2⟩ := sfx_drop hq h1
 simp at h2
 exact ⟨k1, by omega, by omega, h3⟩
def leL : List UInt8 → Nat
 | [] => 0
 | b :: t => b.toNat + 256 * leL t
theorem leL_lt (l : List UInt8) : leL l < 2 ^ (8 * l.length) := by
 induction l with
 | nil => simp [leL]
 | cons b t ih =>
  have := b.toNat_lt
  rw [List.length_cons, show 8 * (t.length + 1) = 8 + 8 * t.length from by omega, Nat.pow_add]
  simp only [leL]
  omega
theorem leL_append (l t : List UInt8) : leL (l ++ t) = leL l + 2 ^ (8 * l.length) * leL t := by
 induction l with
 | nil => simp [leL]
 | cons b r ih =>
  rw [List.cons_append, leL, leL, ih, List.length_cons, show 8 * (r.length + 1) = 8 + 8 * r.length from by omega, Nat.pow_add, Nat.mul_add, Nat.mul_assoc]
  omega
theorem leL_snoc (l : List UInt8) (b : UInt8) : leL (l ++ [b]) = leL l + b.toNat * 2 ^ (8 * l.length) := by
 rw [leL_append]; simp [leL, Nat.mul_comm]
def beL (l : List UInt8) : Nat := leL l.reverse
theorem beL_snoc (l : List UInt8) (b : UInt8) : beL (l ++ [b]) = 256 * beL l + b.toNat := by
 simp [beL, leL]; omega
theorem beL_lt (l : List UInt8) : beL l < 2 ^ (8 * l.length) := by
 have := leL_lt l.reverse; simpa [beL] using this
theorem le_or (n b i : Nat) (hn : n < 2 ^ (8 * i)) : n ||| b * 2 ^ (8 * i) = n + b * 2 ^ (8 * i) := by
 rw [Nat.or_comm, Nat.mul_comm, ← Nat.two_pow_add_eq_or_of_lt hn]; omega
theorem le_pow (i : Nat) (hi : i ≤ 8) : 2 ^ (8 * i) ≤ 18446744073709551616 := by
 have : 2 ^ (8 * i) ≤ 2 ^ 64 := Nat.pow_le_pow_right (by omega) (by omega)
 simpa using this
theorem le_step (n b i : Nat) (hb : b < 256) (hn : n < 2 ^ (8 * i)) : n + b * 2 ^ (8 * i) < 2 ^ (8 * (i + 1)) := by
 have h2 : 2 ^ (8 * (i + 1)) = 256 * 2 ^ (8 * i) := by rw [show 8 * (i + 1) = 8 + 8 * i from by omega, Nat.pow_add]
 have h3 : b * 2 ^ (8 * i) ≤ 255 * 2 ^ (8 * i) := Nat.mul_le_mul_right _ (by omega)
 omega
def lead0 : List UInt8 → Bool
 | [] => false
 | b :: _ => b == 0
def Ty.at (t : Ty) (i : Nat) : Ty := (t.sub[if t.kind = 4 then 0 else i]?).getD (.mk 0 0 [] 0)
def is1 (t : Ty) (tx : ByteArray) (l : Bool) (m : Nat) : Bool :=
 if t.kind = 1 then !l && decide ((tx.size : Int) ≤ t.size) && !lead0 tx.data.toList
 else if t.kind = 2 then !l && decide ((tx.size : Int) = t.size)
 else if t.kind = 3 then !l && decide ((tx.size : Int) ≤ t.size)
 else if t.kind = 4 then l && decide ((m : Int) ≤ t.size)
 else l && decide (m ≤ t.sub.length) && decide ((t.sub.length : Int) - t.tail ≤ m)
mutual
def It.isOf : It → Ty → Bool
 | .mk tx l s, t => is1 t tx l s.length && isOfL s t 0
def isOfL : List It → Ty → Nat → Bool
 | [], _, _ => true
 | x :: xs, t, i => x.isOf (t.at i) && isOfL xs t (i + 1)
end
theorem isOfL_append (a b : List It) (t : Ty) (i : Nat) : isOfL (a ++ b) t i = (isOfL a t i && isOfL b t (i + a.length)) := by
 induction a generalizing i with
 | nil => simp [isOfL]
 | cons x xs ih => simp only [List.cons_append, isOfL, ih, List.length_cons, Bool.and_assoc]; rw [show i + 1 + xs.length = i + (xs.length + 1) from by omega]
theorem isOfL_take {s : List It} {k : Nat} {t : Ty} (h : k < s.length) : isOfL (s.take (k + 1)) t 0 = (isOfL (s.take k) t 0 && s[k].isOf (t.at k)) := by
 rw [take_succ_it s k h, isOfL_append]; simp [isOfL, Nat.min_eq_left (Nat.le_of_lt h)]
theorem isOfL_false {s : List It} {k : Nat} {t : Ty} (h : k < s.length) (hf : s[k].isOf (t.at k) = false) : isOfL s t 0 = false := by
 have h1 := isOfL_append (s.take (k + 1)) (s.drop (k + 1)) t 0
 rw [List.take_append_drop, isOfL_take h, hf] at h1
 simpa using h1
def noughts (n : Nat) : ByteArray := ⟨(List.replicate n 0).toArray⟩
mutual
def Ty.zero : Ty → It
 | .mk k s l t => if k = 2 then .mk (noughts s.toNat) false [] else if k = 4 then .mk ⟨#[]⟩ true [] else if k = 5 then .mk ⟨#[]⟩ true (zeroL l ((l.length : Int) - t).toNat) else .mk ⟨#[]⟩ false []
def zeroL : List Ty → Nat → List It
 | [], _ => []
 | _ :: _, 0 => []
 | x :: xs, n + 1 => x.zero :: zeroL xs n
end
def Ty.kept (t : Ty) : Nat := if t.kind = 5 then ((t.sub.length : Int) - t.tail).toNat else 0
theorem ty_may {t : Ty} (h : t.may = true) : t.count ≤ 64 ∧ t.deep ≤ 8 ∧ t.right = true := by
 unfold Ty.may at h
 simp only [Bool.and_eq_true, decide_eq_true_eq] at h
 exact ⟨h.1.1, h.1.2, h.2⟩
theorem right_ok {k s : Int} {l : List Ty} {t : Int} (h : (Ty.mk k s l t).right = true) : tyOk k s l.length t = true ∧ rightT l = true := by
 simpa only [Ty.right, Bool.and_eq_true] using h
theorem ok_ways {k s : Int} {n : Nat} {t : Int} (h : tyOk k s n t = true) :
 (k = 1 ∧ (s = 1 ∨ s = 2 ∨ s = 4 ∨ s = 8) ∧ n = 0 ∧ t = 0) ∨ (k = 2 ∧ 1 ≤ s ∧ s ≤ 65536 ∧ n = 0 ∧ t = 0) ∨ (k = 3 ∧ 0 ≤ s ∧ s ≤ 65536 ∧ n = 0 ∧ t = 0) ∨ (k = 4 ∧ 0 ≤ s ∧ s ≤ 1024 ∧ n = 1 ∧ t = 0) ∨ (k = 5 ∧ s = 0 ∧ n ≤ 16 ∧ 0 ≤ t ∧ t ≤ n) := by
 unfold tyOk at h
 split at h
 ·exact .inl ⟨by assumption, by simpa using h⟩
 ·split at h
  ·exact .inr (.inl ⟨by assumption, by simpa using h⟩)
  ·split at h
   ·exact .inr (.inr (.inl ⟨by assumption, by simpa using h⟩))
   ·split at h
    ·exact .inr (.inr (.inr (.inl ⟨by assumption, by simpa using h⟩)))
    ·split at h
     ·exact .inr (.inr (.inr (.inr ⟨by assumption, by simpa using h⟩)))
     ·cases h
def fitE (ty : Ty) (x : It) : Int := if ty.may && x.may then (if x.isOf ty then 0 else 12) else 1
def hxd (n : Nat) : UInt8 := if n < 10 then UInt8.ofNat (48 + n) else UInt8.ofNat (87 + n)
def hx (b : UInt8) : List UInt8 := [hxd (b.toNat / 16), hxd (b.toNat % 16)]
mutual
def It.vis : It → Nat → Nat → Nat → Bool × Nat × Nat
 | .mk t l s, lv, c, d => if 16 < lv ∨ c = 1024 ∨ formed t l s.length = false then (false, c, d) else visL s (lv + 1) (c + 1) (max d lv)
def visL : List It → Nat → Nat → Nat → Bool × Nat × Nat
 | [], _, c, d => (true, c, d)
 | x :: xs, lv, c, d => if (x.vis lv c d).1 then visL xs lv (x.vis lv c d).2.1 (x.vis lv c d).2.2 else (false, (x.vis lv c d).2.1, (x.vis lv c d).2.2)
end
theorem visL_append (a b : List It) (lv c d : Nat) : visL (a ++ b) lv c d = if (visL a lv c d).1 then visL b lv (visL a lv c d).2.1 (visL a lv c d).2.2 else (false, (visL a lv c d).2.1, (visL a lv c d).2.2) := by
 induction a generalizing c d with
 | nil => simp [visL]
 | cons x xs ih =>
  by_cases h : (x.vis lv c d).1 = true
  ·simp only [List.cons_append, visL, h, if_true, ih]
  ·simp [visL, h]
theorem visL_take {s : List It} {k lv c d c1 d1 : Nat} (h : k < s.length) (ht : visL (s.take k) lv c d = (true, c1, d1)) : visL (s.take (k + 1)) lv c d = s[k].vis lv c1 d1 := by
 rw [take_succ_it s k h, visL_append, ht]
 simp only [if_true, visL]
 by_cases h2 : (s[k].vis lv c1 d1).1 = true
 ·rw [if_pos h2, ← h2]
 ·rw [if_neg h2]
  simp only [Bool.not_eq_true] at h2
  rw [← h2]
theorem visL_stop {s : List It} {k lv c d c1 d1 c2 d2 : Nat} (h : k < s.length) (ht : visL (s.take k) lv c d = (true, c1, d1)) (hf : s[k].vis lv c1 d1 = (false, c2, d2)) : visL s lv c d = (false, c2, d2) := by
 have h1 := visL_append (s.take (k + 1)) (s.drop (k + 1)) lv c d
 rw [List.take_append_drop, visL_take h ht, hf] at h1
 simpa using h1
def IVisIs (x : It) : Prop := ∀ lv c d, 1 ≤ lv → c ≤ 1024 → (((x.vis lv c d).1 = true ↔ x.right = true ∧ lv + x.deep ≤ 17 ∧ c + x.count ≤ 1024) ∧ ((x.vis lv c d).1 = true → (x.vis lv c d).2 = (c + x.count, max d (lv - 1 + x.deep))) ∧ (x.vis lv c d).2.1 ≤ 1024 ∧ (x.vis lv c d).2.2 ≤ max d 16)
theorem visL_is (s : List It) (ih : ∀ x ∈ s, IVisIs x) : ∀ lv c d, 1 ≤ lv → c ≤ 1024 → (((visL s lv c d).1 = true ↔ rightL s = true ∧ (s = [] ∨ lv + deepL s ≤ 17) ∧ c + countL s ≤ 1024) ∧ ((visL s lv c d).1 = true → (visL s lv c d).2 = (c + countL s, if s = [] then d else max d (lv - 1 + deepL s))) ∧ (visL s lv c d).2.1 ≤ 1024 ∧ (visL s lv c d).2.2 ≤ max d 16) := by
 induction s with
 | nil => intro lv c d hl hc; simp [visL, rightL, countL, hc]; omega
 | cons x xs hxs =>
  intro lv c d hl hc
  obtain ⟨h1, h2, h3, h4⟩ := ih x (by simp) lv c d hl hc
  by_cases hv : (x.vis lv c d).1 = true
  ·have h5 := h2 hv
   have h6 := h1.1 hv
   obtain ⟨g1, g2, g3, g4⟩ := hxs (fun y hy => ih y (by simp [hy])) lv (c + x.count) (max d (lv - 1 + x.deep)) hl h6.2.2
   simp only [visL, hv, if_true, h5]
   simp only [rightL, countL, deepL, Bool.and_eq_true, h6.1, true_and]
   refine ⟨?_, ?_, g3, by omega⟩
   ·rw [g1]
    constructor
    ·rintro ⟨a, b, e⟩
     refine ⟨a, .inr ?_, by omega⟩
     rcases b with rfl | b
     ·simp [deepL]; omega
     ·omega
    ·rintro ⟨a, b, e⟩
     refine ⟨a, ?_, by omega⟩
     rcases b with b | b
     ·cases b
     ·exact .inr (by omega)
   ·intro hh
    rw [g2 hh]
    by_cases hn : xs = []
    ·subst hn; simp [deepL, countL]
    ·simp only [hn, if_false]
     simp; omega
  ·simp only [visL, hv]
   refine ⟨?_, by simp, by simpa using h3, by simpa using h4⟩
   simp only [Bool.false_eq_true, if_false, false_iff]
   rintro ⟨a, b, e⟩
   simp only [rightL, countL, deepL, Bool.and_eq_true] at a b e
   exact hv (h1.2 ⟨a.1, by rcases b with b | b; cases b; omega, by omega⟩)
theorem vis_is (x : It) : IVisIs x := by
 induction x using It.ind with
 | h t l s ih =>
  intro lv c d hl hc
  by_cases hbad : 16 < lv ∨ c = 1024 ∨ formed t l s.length = false
  ·simp only [It.vis, if_pos hbad, It.right, It.deep, It.count]
   refine ⟨?_, by simp, hc, by omega⟩
   simp only [Bool.false_eq_true, false_iff, Bool.and_eq_true]
   rintro ⟨⟨a, _⟩, b, e⟩
   rcases hbad with h | h | h
   ·omega
   ·omega
   ·rw [h] at a; cases a
  ·obtain ⟨n1, n2, n3⟩ : ¬ 16 < lv ∧ ¬ c = 1024 ∧ ¬ formed t l s.length = false := by
    refine ⟨fun h => hbad (.inl h), fun h => hbad (.inr (.inl h)), fun h => hbad (.inr (.inr h))⟩
   obtain ⟨g1, g2, g3, g4⟩ := visL_is s ih (lv + 1) (c + 1) (max d lv) (by omega) (by omega)
   simp only [It.vis, if_neg hbad, It.right, It.deep, It.count]
   simp only [Bool.not_eq_false] at n3
   refine ⟨?_, ?_, g3, by omega⟩
   ·rw [g1, n3]
    simp only [Bool.true_and]
    constructor
    ·rintro ⟨a, b, e⟩
     refine ⟨a, ?_, by omega⟩
     rcases b with rfl | b
     ·simp [deepL]; omega
     ·omega
    ·rintro ⟨a, b, e⟩
     exact ⟨a, .inr (by omega), by omega⟩
   ·intro hh
    rw [g2 hh]
    by_cases hn : s = []
    ·subst hn; simp [deepL, countL]; omega
    ·simp only [hn, if_false]
     simp; omega
theorem vis_may (x : It) : (x.vis 1 0 0).1 = x.may := by
 have h := (vis_is x 1 0 0 (by omega) (by omega)).1
 rw [Bool.eq_iff_iff, h]
 simp only [It.may, Bool.and_eq_true, decide_eq_true_eq, Nat.zero_add]
 constructor
 ·rintro ⟨a, b, c⟩; exact ⟨⟨a, by omega⟩, c⟩
 ·rintro ⟨⟨a, b⟩, c⟩; exact ⟨a, by omega, c⟩
def capsE (x : It) (D M : Int) : Int := if x.may = false then 1 else if D < x.deep then 6 else if M < x.count then 4 else 0
def TyBad (L : Nat) (t : Ty) : Prop := t.right = false ∨ L < t.count
theorem tLoop_acc {p : List UInt8 → Option (Ty × List UInt8)} : ∀ (n : Nat) (l : List UInt8) (acc : List Ty) (tl : Nat) (t : Ty) (r : List UInt8), tLoop p n l acc tl = some (t, r) → ∃ (more : List Ty) (tl' : Nat), t = .mk 5 0 (acc ++ more) tl'
 | 0, _, _, _, _, _, h => by simp [tLoop] at h
 | n + 1, [], _, _, _, _, h => by simp [tLoop] at h
 | n + 1, c :: l, acc, tl, t, r, h => by
  unfold tLoop at h
  split at h
  ·injection h with h; injection h with h _; exact ⟨[], tl, by rw [← h, List.append_nil]⟩
  ·split at h
   ·cases h
   ·split at h
    ·cases h
    ·rename_i l2 tl' _
     split at h
     ·cases h
     ·rename_i y r' _
      obtain ⟨more, tl2, e⟩ := tLoop_acc n _ _ _ _ _ h
      exact ⟨y :: more, tl2, by rw [e, List.append_assoc, List.singleton_append]⟩
theorem rightT_mem {s : List Ty} (h : rightT s = true) : ∀ x ∈ s, x.right = true := fun x hx => by
 obtain ⟨j, hj, rfl⟩ := List.getElem_of_mem hx
 exact rightT_at h j hj
theorem right_subs {k z : Int} {l : List Ty} {ta : Int} (h : (Ty.mk k z l ta).right = true) : rightT l = true := by
 simp only [Ty.right, Bool.and_eq_true] at h; exact h.2
theorem TyBad.sub {L : Nat} {y : Ty} (h : TyBad L y) (acc more : List Ty) (tl : Int) : TyBad (1 + countT acc + L) (.mk 5 0 (acc ++ [y] ++ more) tl) := by
 rcases h with h | h
 ·left
  rw [Bool.eq_false_iff]
  intro hr
  have := rightT_mem (right_subs hr) y (by simp)
  rw [h] at this; cases this
 ·right
  simp only [Ty.count, countT_append, countT]; omega
theorem TyBad.list {L : Nat} {x : Ty} (h : TyBad L x) (n : Int) : TyBad (1 + L) (.mk 4 n [x] 0) := by
 rcases h with h | h
 ·left
  rw [Bool.eq_false_iff]
  intro hr
  have := rightT_mem (right_subs hr) x (by simp)
  rw [h] at this; cases this
 ·right
  simp only [Ty.count, countT]; omega
theorem TyBad.mono {L L' : Nat} {t : Ty} (h : TyBad L t) (hL : L' ≤ L) : TyBad L' t := h.imp id (fun h => Nat.lt_of_le_of_lt hL h)
theorem TyBad.may {t : Ty} (h : TyBad 64 t) : t.may = false := by
 rw [Bool.eq_false_iff]
 intro hm
 simp only [Ty.may, Bool.and_eq_true, decide_eq_true_eq] at hm
 rcases h with h | h
 ·rw [h] at hm; exact absurd hm.2 (by simp)
 ·omega
theorem digStep_ge (n : Nat) (b : UInt8) : n ≤ digStep n b := by unfold digStep; split <;> omega
theorem numGo_ge : ∀ (l : List UInt8) (n : Nat), n ≤ (numGo l n).1
 | [], n => Nat.le_refl _
 | b :: l, n => by
  unfold numGo
  split
  ·exact Nat.le_trans (digStep_ge n b) (numGo_ge l _)
  ·exact Nat.le_refl _
theorem numR_over {s : ByteArray} {at_ k m : Nat} (h : DgRel s at_ k m) (n : Nat) (r : List UInt8) (hn : numR (s.data.toList.drop at_) = some (n, r)) : m ≤ n := by
 have e : numGo (s.data.toList.drop at_) 0 = (n, r) := by
  generalize s.data.toList.drop at_ = l at *
  match l, hn with
  | [], hn => simp [numR] at hn
  | b :: l, hn =>
   rw [numR_cons] at hn
   split at hn
   ·cases hn
   ·split at hn
    ·cases hn
    ·injection hn
 rw [h.1] at e
 have := numGo_ge (s.data.toList.drop k) m
 rw [e] at this
 exact this
def NumIs (most : Nat) (s : ByteArray) (p : Nat) (n : Nat) (ok : Bool) (q : Nat) : Prop :=
 (ok = true → numR (s.data.toList.drop p) = some (n, s.data.toList.drop q) ∧ n ≤ most ∧ p < q) ∧ (ok = false → ∀ n' r, numR (s.data.toList.drop p) = some (n', r) → most < n') ∧ q ≤ s.size ∧ n ≤ most
theorem numIs_no {most : Nat} {s : ByteArray} {p n q : Nat} (h : ∀ n' r, numR (s.data.toList.drop p) = some (n', r) → most < n') (hq : q ≤ s.size) (hn : n ≤ most) : NumIs most s p n false q := ⟨(by intro h; cases h), fun _ => h, hq, hn⟩
theorem numIs_none {most : Nat} {s : ByteArray} {p n q : Nat} (h : numR (s.data.toList.drop p) = none) (hq : q ≤ s.size) (hm : n ≤ most) : NumIs most s p n false q := numIs_no (by intro n' r hn; rw [h] at hn; cases hn) hq hm
theorem numIs_yes {most : Nat} {s : ByteArray} {p n q : Nat} (h : numR (s.data.toList.drop p) = some (n, s.data.toList.drop q)) (hn : n ≤ most) (hp : p < q) (hq : q ≤ s.size) : NumIs most s p n true q := ⟨fun _ => ⟨h, hn, hp⟩, (by intro h; cases h), hq, hn⟩
theorem bad_kind {k z : Int} {l : List Ty} {ta : Int} (L : Nat) (h : tyOk k z l.length ta = false) : TyBad L (.mk k z l ta) := by
 left; simp [Ty.right, h]
theorem bad_u {l : List UInt8} (h : ∀ n' r, numR l = some (n', r) → 64 < n') (L : Nat) (t : Ty) (r : List UInt8) (ht : numU (numR l) = some (t, r)) : TyBad L t := by
 cases hn : numR l with
 | none => rw [hn] at ht; cases ht
 | some z =>
  obtain ⟨n, r'⟩ := z
  have h1 := h n r' hn
  rw [hn, numU] at ht
  split at ht
  ·injection ht with ht; injection ht with ht _
   subst ht
   refine bad_kind L ?_
   unfold tyOk
   simp only [if_true]
   simp
   omega
  ·cases ht
theorem bad_b {l : List UInt8} (h : ∀ n' r, numR l = some (n', r) → 65536 < n') (L : Nat) (t : Ty) (r : List UInt8) (ht : numK 2 (numR l) = some (t, r)) : TyBad L t := by
 cases hn : numR l with
 | none => rw [hn] at ht; cases ht
 | some z =>
  obtain ⟨n, r'⟩ := z
  have h1 := h n r' hn
  rw [hn, numK] at ht
  injection ht with ht; injection ht with ht _
  subst ht
  refine bad_kind L ?_
  unfold tyOk
  simp
  omega
theorem bad_s {l : List UInt8} (h : ∀ n' r, numR l = some (n', r) → 65536 < n') (L : Nat) (t : Ty) (r : List UInt8) (ht : numK 3 (numR l) = some (t, r)) : TyBad L t := by
 cases hn : numR l with
 | none => rw [hn] at ht; cases ht
 | some z =>
  obtain ⟨n, r'⟩ := z
  have h1 := h n r' hn
  rw [hn, numK] at ht
  injection ht with ht; injection ht with ht _
  subst ht
  refine bad_kind L ?_
  unfold tyOk
  simp
  omega
theorem bad_close {l : List UInt8} (h : ∀ n' r, numR l = some (n', r) → 1024 < n') (L : Nat) (x t : Ty) (r : List UInt8) (ht : tClose x (numR l) = some (t, r)) : TyBad L t := by
 cases hn : numR l with
 | none => rw [hn] at ht; cases ht
 | some z =>
  obtain ⟨n, r'⟩ := z
  have h1 := h n r' hn
  rw [hn] at ht
  cases r' with
  | nil => cases ht
  | cons d r' =>
   rw [tClose] at ht
   split at ht
   ·injection ht with ht; injection ht with ht _
    subst ht
    refine bad_kind L ?_
    unfold tyOk
    simp
    omega
   ·cases ht
theorem close_list {x : Ty} {o : Option (Nat × List UInt8)} {t : Ty} {r : List UInt8} (h : tClose x o = some (t, r)) : ∃ n : Nat, t = .mk 4 n [x] 0 := by
 match o, h with
 | some (n, d :: r'), h =>
  rw [tClose] at h
  split at h
  ·injection h with h; injection h with h _; exact ⟨n, h.symm⟩
  ·cases h
theorem tail_list {x : Ty} {l : List UInt8} {t : Ty} {r : List UInt8} (h : tTail x l = some (t, r)) : ∃ n : Nat, t = .mk 4 n [x] 0 := by
 match l, h with
 | c :: l, h =>
  by_cases hc : c = 58
  ·subst hc; rw [tTail_colon] at h; exact close_list h
  ·rw [tTail_no x c l (fun e => hc (UInt8.toNat_inj.1 e))] at h; cases h
def ScIs (f L : Nat) (s : ByteArray) (p : Nat) (t : Ty) (ok : Bool) (q L' : Nat) : Prop :=
 (ok = true → tItem f (s.data.toList.drop p) = some (t, s.data.toList.drop q) ∧ L' + t.count = L ∧ p < q) ∧ (ok = false → ∀ t' r, tItem f (s.data.toList.drop p) = some (t', r) → TyBad L t') ∧ q ≤ s.size
def ScFs (L : Nat) (s : ByteArray) (R : Option (Ty × List UInt8)) (t : Ty) (ok : Bool) (q L' : Nat) : Prop :=
 (ok = true → R = some (t, s.data.toList.drop q) ∧ L' + t.count = L) ∧ (ok = false → ∀ t' r, R = some (t', r) → TyBad L t') ∧ q ≤ s.size
theorem tAt_bad {f : Nat} {s : ByteArray} {R : Option (Ty × List UInt8)} {q L : Nat} {acc : List Ty} {tl : Nat} (h : TAt f s R q acc tl) (hb : ∀ t' r, tItem f (s.data.toList.drop q) = some (t', r) → TyBad L t') : ∀ t' r, R = some (t', r) → TyBad (1 + countT acc + L) t' := by
 intro t' r hR
 obtain ⟨n, h1, _⟩ := h
 cases hi : tItem f (s.data.toList.drop q) with
 | none => rw [hi, hR] at h1; cases h1
 | some z =>
  obtain ⟨y, r'⟩ := z
  rw [hi, hR] at h1
  obtain ⟨more, tl', rfl⟩ := tLoop_acc _ _ _ _ _ _ h1
  exact (hb y r' hi).sub acc more tl'
open Go.RowKit
theorem ret2_num {a : Int} {b c : Nat} (h : a = (b : Int)) (h' : b = c) : Ending.returned (.tuple #[.int .u64 a, .int .i64 0]) = .returned (.tuple #[.int .u64 c, .int .i64 0]) := by
 subst h; subst h'; rfl
theorem le_bits (n b k : Nat) (hb : b < 256) (hk : k < 8) (hn : n < 2 ^ (8 * k)) :
 bits .or .u64 (n : Int) (IntKind.u64.wrap (IntKind.u64.wrap (b : Int) * 2 ^ (8 * k))) = ((n + b * 2 ^ (8 * k) : Nat) : Int) := by
 have hl := le_step n b k hb hn
 have hp := le_pow (k + 1) (by omega)
 have h2 : (b : Int) * 2 ^ (8 * k) = ((b * 2 ^ (8 * k) : Nat) : Int) := by simp
 rw [IntWalk.u64_in (b : Int) (by omega), h2, IntWalk.u64_in _ (by omega), u64_or_nat _ _ (by omega) (by omega), le_or _ _ _ hn]
theorem getLittle_c (s : ByteArray) (w : World) (h0 : 0 < s.size) (h8 : s.size ≤ 8) :
 Calls Tryz.prog 156 #[.string s] w fun e w' => e = .returned (.tuple #[.int .u64 (leL s.data.toList), .int .i64 0]) ∧ w = w' := by
 have hz : ((s.size : Int) == 0) = false := beq_eq_false_iff_ne.2 (by omega)
 go_enter Tryz.func156, Tryz.ntmps156
 go_wp2
 go_loop [5, 15] (fun n i => ∃ k m : Nat, k ≤ s.size ∧ Hid (m = leL (s.data.toList.take k)) ∧ n = .int .u64 m ∧ i = .int .i64 k) (fun _ i => s.size - (intOf i).toNat)
 case atStart => exact ⟨0, 0, by omega, rfl, rfl, rfl⟩
 case round =>
  obtain ⟨k, m, hk, hm, rfl, rfl⟩ := hrel
  by_cases hlt : k < s.size
  ·go_wp2
   have hb := s[k].toNat_lt
   have hn := leL_lt (s.data.toList.take k)
   rw [length_take s k hk, ← hm.out] at hn
   have e := le_bits m s[k].toNat k hb (by omega) hn
   go_round
   case rel =>
    refine ⟨k + 1, _, by omega, Lib.hid rfl, ?_, by go_num⟩
    rw [take_snoc s k hlt, leL_snoc, length_take s k hk, ← hm.out, ← e]
   case measure => simp [intOf]; omega
  ·go_wp2
   go_ret2
   exact ⟨ret2_num rfl (by rw [hm.out, List.take_of_length_le (by simp; omega)]), rfl⟩
theorem getLittle_none (s : ByteArray) (w : World) (h0 : s.size = 0) :
 Calls Tryz.prog 156 #[.string s] w fun e w' => e = .returned (.tuple #[.int .u64 0, .int .i64 1]) ∧ w = w' := by
 go_enter Tryz.func156, Tryz.ntmps156
 go_wp2
 go_ret2
 exact ⟨rfl, rfl⟩
end Go.Proofs.YtnfpgadegpmhkaaGreatDoor
