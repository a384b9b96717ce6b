/- Items as plain data, and what is told of them. No program in sight. -/
import Derived.Test.YtmcdgmepheibkaaDoorBytesP
namespace Go.Proofs.YtmcdgmepheibkaaDoor
set_option linter.unusedVariables false
set_option linter.unusedSimpArgs false

/-- An item: its text, whether it is a list, the items within. -/
inductive It where
  | mk : ByteArray → Bool → List It → It

def It.text : It → ByteArray | .mk t _ _ => t
def It.list : It → Bool | .mk _ l _ => l
def It.sub : It → List It | .mk _ _ s => s
@[simp] theorem It.text_mk (t : ByteArray) (l : Bool) (s : List It) : (It.mk t l s).text = t := rfl
@[simp] theorem It.list_mk (t : ByteArray) (l : Bool) (s : List It) : (It.mk t l s).list = l := rfl
@[simp] theorem It.sub_mk (t : ByteArray) (l : Bool) (s : List It) : (It.mk t l s).sub = s := rfl

mutual
/-- How many items, it itself too. -/
def It.count : It → Nat
  | .mk _ _ s => 1 + countL s
def countL : List It → Nat
  | [] => 0
  | x :: xs => x.count + countL xs
end
mutual
/-- How deep. -/
def It.deep : It → Nat
  | .mk _ _ s => deepL s + 1
def deepL : List It → Nat
  | [] => 0
  | x :: xs => max x.deep (deepL xs)
end
/-- Has a text no items, a list no text? -/
def formed (t : ByteArray) (l : Bool) (n : Nat) : Bool := if l then decide (t.size = 0) else decide (n = 0)
mutual
def It.right : It → Bool
  | .mk t l s => formed t l s.length && rightL s
def rightL : List It → Bool
  | [] => true
  | x :: xs => x.right && rightL xs
end
def It.may (x : It) : Bool := x.right && decide (x.deep ≤ 16) && decide (x.count ≤ 1024)
/-- An induction over items and lists of them. -/
theorem It.ind {P : It → Prop} (h : ∀ t l s, (∀ x ∈ s, P x) → P (.mk t l s)) : ∀ x, P x := by
  intro x
  exact It.rec (motive_1 := P) (motive_2 := fun s => ∀ x ∈ s, P x) (fun t l s ih => h t l s ih) (by simp) (fun x xs hx hxs => by
    intro y hy
    rcases List.mem_cons.1 hy with rfl | hy
    · exact hx
    · exact hxs y hy) x
theorem countL_append (a b : List It) : countL (a ++ b) = countL a + countL b := by
  induction a with
  | nil => simp [countL]
  | cons x xs ih => simp [countL, ih, Nat.add_assoc]
theorem deepL_append (a b : List It) : deepL (a ++ b) = max (deepL a) (deepL b) := by
  induction a with
  | nil => simp [deepL]
  | cons x xs ih => simp only [List.cons_append, deepL, ih]; omega
theorem rightL_append (a b : List It) : rightL (a ++ b) = (rightL a && rightL b) := by
  induction a with
  | nil => simp [rightL]
  | cons x xs ih => simp [rightL, ih, Bool.and_assoc]
theorem count_pos (x : It) : 1 ≤ x.count := by cases x; simp [It.count]
theorem length_le_countL (s : List It) : s.length ≤ countL s := by
  induction s with
  | nil => simp [countL]
  | cons x xs ih => have := count_pos x; simp [countL]; omega
theorem take_succ_it (s : List It) (k : Nat) (h : k < s.length) : s.take (k + 1) = s.take k ++ [s[k]] := List.take_succ_eq_append_getElem h

mutual
/-- Of so many items that may be looked at, how many are left behind an item; 0: none. -/
def It.room : It → Int → Int
  | .mk _ _ s, left => max (roomL s (left - 1)) 0
def roomL : List It → Int → Int
  | [], left => left
  | x :: xs, left => if left ≤ 0 then left else roomL xs (x.room left)
end
mutual
/-- How many bytes the texts have, but 10,000 at most. -/
def It.bulk : It → Nat
  | .mk t _ s => bulkL s (min t.size 10000)
def bulkL : List It → Nat → Nat
  | [], n => n
  | x :: xs, n => bulkL xs (min (n + x.bulk) 10000)
end
theorem roomL_append (a b : List It) (left : Int) : roomL (a ++ b) left = roomL b (roomL a left) := by
  induction a generalizing left with
  | nil => simp [roomL]
  | cons x xs ih =>
    by_cases h : left ≤ 0
    · simp only [List.cons_append, roomL, if_pos h]
      cases b with
      | nil => simp [roomL]
      | cons y ys => simp [roomL, h]
    · simp only [List.cons_append, roomL, if_neg h, ih]
theorem bulkL_append (a b : List It) (n : Nat) : bulkL (a ++ b) n = bulkL b (bulkL a n) := by
  induction a generalizing n with
  | nil => simp [bulkL]
  | cons x xs ih => simp [bulkL, ih]
theorem deepL_le (s : List It) (h : ∀ x ∈ s, x.deep ≤ x.count) : deepL s ≤ countL s := by
  induction s with
  | nil => simp [deepL]
  | cons x xs ih =>
    have h1 := h x (by simp)
    have h2 := ih (fun y hy => h y (by simp [hy]))
    simp only [deepL, countL]; omega
theorem deep_le (x : It) : x.deep ≤ x.count := by
  induction x using It.ind with
  | h t l s ih => simp only [It.deep, It.count]; have := deepL_le s ih; omega
theorem roomL_stop (s : List It) (m : Int) (h : m ≤ 0) : roomL s m = m := by
  cases s with
  | nil => rfl
  | cons x xs => simp [roomL, h]
theorem roomL_take (s : List It) (k : Nat) (h : k < s.length) (left : Int) (hp : 0 < roomL (s.take k) left) : roomL (s.take (k + 1)) left = s[k].room (roomL (s.take k) left) := by
  rw [take_succ_it s k h, roomL_append]; simp [roomL, show ¬ roomL (s.take k) left ≤ 0 from by omega]
theorem roomL_end (s : List It) (k : Nat) (left : Int) (hp : roomL (s.take k) left ≤ 0 ∨ s.length ≤ k) : roomL s left = roomL (s.take k) left := by
  rcases hp with hp | hp
  · have h1 := roomL_append (s.take k) (s.drop k) left
    rw [List.take_append_drop, roomL_stop _ _ hp] at h1
    exact h1
  · rw [List.take_of_length_le hp]
theorem bulkL_take (s : List It) (k : Nat) (h : k < s.length) (n : Nat) : bulkL (s.take (k + 1)) n = min (bulkL (s.take k) n + s[k].bulk) 10000 := by
  rw [take_succ_it s k h, bulkL_append]; simp [bulkL]
theorem bulkL_le (s : List It) (n : Nat) (h : n ≤ 10000) : bulkL s n ≤ 10000 := by
  induction s generalizing n with
  | nil => simpa [bulkL] using h
  | cons x xs ih => simp only [bulkL]; exact ih _ (by omega)
theorem bulk_le (x : It) : x.bulk ≤ 10000 := by
  cases x with
  | mk t l s => simp only [It.bulk]; exact bulkL_le s _ (by omega)
theorem roomL_bd (s : List It) (ih : ∀ x ∈ s, ∀ m : Int, 0 < m → 0 ≤ x.room m ∧ x.room m < m) : ∀ m : Int, 0 ≤ m → 0 ≤ roomL s m ∧ roomL s m ≤ m := by
  induction s with
  | nil => intro m hm; simp only [roomL]; omega
  | cons x xs hxs =>
    intro m hm
    by_cases h : m ≤ 0
    · simp only [roomL, if_pos h]; omega
    · have h1 := ih x (by simp) m (by omega)
      have h2 := hxs (fun y hy => ih y (by simp [hy])) (x.room m) h1.1
      simp only [roomL, if_neg h]; omega
theorem room_bd (x : It) : ∀ m : Int, 0 < m → 0 ≤ x.room m ∧ x.room m < m := by
  induction x using It.ind with
  | h t l s ih =>
    intro m hm
    have := roomL_bd s ih (m - 1) (by omega)
    simp only [It.room]; omega
/-- With some left behind, it has fewer items than there were. -/
theorem roomL_count (s : List It) (ih : ∀ x ∈ s, ∀ m : Int, 0 < x.room m → x.room m = m - x.count) : ∀ m : Int, 0 < roomL s m → roomL s m = m - countL s := by
  induction s with
  | nil => intro m _; simp [roomL, countL]
  | cons x xs hxs =>
    intro m hm
    by_cases h : m ≤ 0
    · simp only [roomL, if_pos h] at hm; omega
    · simp only [roomL, if_neg h] at hm ⊢
      have h2 := hxs (fun y hy => ih y (by simp [hy])) (x.room m) hm
      by_cases h3 : 0 < x.room m
      · have h1 := ih x (by simp) m h3
        simp only [countL]; omega
      · rw [roomL_stop _ _ (by omega)] at hm; omega
theorem room_count (x : It) : ∀ m : Int, 0 < x.room m → x.room m = m - x.count := by
  induction x using It.ind with
  | h t l s ih =>
    intro m hm
    simp only [It.room, It.count] at hm ⊢
    have := roomL_count s ih (m - 1) (by omega)
    omega
/-- More than statements look at? -/
def It.great (x : It) : Bool := decide (x.room 1200 = 0) || decide (6000 < x.bulk)
theorem great_count (x : It) (h : x.great = false) : x.count < 1200 := by
  simp only [It.great, Bool.or_eq_false_iff, decide_eq_false_iff_not] at h
  have h1 := room_bd x 1200 (by omega)
  have h2 := room_count x 1200 (by omega)
  omega
end Go.Proofs.YtmcdgmepheibkaaDoor
