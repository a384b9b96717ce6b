/- Texts and the lists of their bytes: small plain laws. No program in sight. -/
/- Items as plain data, and what is told of them. No program in sight. -/
/- Items in memory: three cells (the text, whether it is a list, the slice of the items within). Own text; no program in sight but the type's number. -/
/- How the program goes through an item: up to the first one that isn't right, or is above the limits. No program in sight. -/
import Derived.Below
import Derived.Laws.Strings
import Derived.Test.YtacikiambpfipaaDoorJWords
namespace Go.Proofs.YtacikiambpfipaaDoor
set_option linter.unusedVariables false
set_option linter.unusedSimpArgs false

theorem bytes_ext {a b : ByteArray} (h : a.data.toList = b.data.toList) : a = b := by
  cases a; cases b; simp at h; simpa using h
theorem bytes_of (s : ByteArray) : (⟨s.data.toList.toArray⟩ : ByteArray) = s := bytes_ext (by simp)
theorem toList_size (s : ByteArray) : s.data.toList.length = s.size := by simp
theorem size_of (l : List UInt8) : (⟨l.toArray⟩ : ByteArray).size = l.length := by simp [ByteArray.size]
theorem toList_app (a b : ByteArray) : (a ++ b).data.toList = a.data.toList ++ b.data.toList := by
  rw [ByteArray.data_append]; simp
theorem toList_cut (s : ByteArray) (i j : Nat) : (s.extract i j).data.toList = (s.data.toList.take j).drop i := by
  rw [ByteArray.data_extract, Array.toList_extract, List.extract_eq_take_drop, List.drop_take]
theorem cut_one (s : ByteArray) (k : Nat) (h : k < s.size) : (s.extract k (k + 1)).data.toList = [s[k]] := by
  rw [toList_cut, List.take_succ_eq_append_getElem (by simpa using h), List.drop_append_of_le_length (by simp; omega), List.drop_eq_nil_of_le (by simp; omega)]; rfl
theorem size_cut (s : ByteArray) (i j : Nat) (hj : j ≤ s.size) : (s.extract i j).size = j - i := by
  rw [ByteArray.size_extract, Nat.min_eq_left hj]
theorem size_app (a b : ByteArray) : (a ++ b).size = a.size + b.size := ByteArray.size_append
theorem take_snoc (s : ByteArray) (k : Nat) (h : k < s.size) : s.data.toList.take (k + 1) = s.data.toList.take k ++ [s[k]] := by
  rw [List.take_succ_eq_append_getElem (by simpa using h)]; rfl
theorem drop_cons (s : ByteArray) (k : Nat) (h : k < s.size) : s.data.toList.drop k = s[k] :: s.data.toList.drop (k + 1) := by
  rw [List.drop_eq_getElem_cons (by simpa using h)]; rfl
theorem length_take (s : ByteArray) (k : Nat) (h : k ≤ s.size) : (s.data.toList.take k).length = k := by
  rw [List.length_take, Nat.min_eq_left (by simpa using h)]
theorem take_all (s : ByteArray) : s.data.toList.take s.size = s.data.toList := List.take_of_length_le (by simp)
theorem byte_at (s : ByteArray) (k : Nat) (h : k < s.size) : s.data.toList[k]? = some s[k] := by
  rw [List.getElem?_eq_getElem (by simpa using h)]; rfl
/-- A text that is the bytes of its whole cut. -/
theorem cut_all (s : ByteArray) : s.extract 0 s.size = s := bytes_ext (by rw [toList_cut, take_all]; simp)
theorem cut_cut (s : ByteArray) (i a b : Nat) (hb : i + b ≤ s.size) : (s.extract i s.size).extract a b = s.extract (i + a) (i + b) := by
  apply bytes_ext
  rw [toList_cut, toList_cut, toList_cut, take_all, List.take_drop, List.drop_drop]
theorem get_cut (s : ByteArray) (i k : Nat) (h : i + k < s.size) (h' : k < (s.extract i s.size).size) : (s.extract i s.size)[k] = s[i + k] := by
  have h1 := byte_at (s.extract i s.size) k h'
  rw [toList_cut, take_all, List.getElem?_drop, byte_at s (i + k) h] at h1
  injection h1 with h1; exact h1.symm
theorem empty_ways (t : ByteArray) : (t.size = 0 ∧ t = ⟨#[]⟩) ∨ (t.size ≠ 0 ∧ t.toList.isEmpty = false ∧ (!t.toList.isEmpty) = true) := by
  by_cases h : t.size = 0
  · exact .inl ⟨h, bytes_ext (List.eq_nil_of_length_eq_zero (by simpa using h))⟩
  · refine .inr ⟨h, ?_, ?_⟩ <;> rw [ByteArray.toList_eq] <;> cases h2 : t.data.toList with
    | nil => exact absurd (by rw [← toList_size, h2]; rfl) h
    | cons a b => rfl
theorem beq0 (e : Int) : (e = 0 ∧ (e == 0) = true ∧ (e != 0) = false) ∨ (e ≠ 0 ∧ (e == 0) = false ∧ (e != 0) = true) := by
  by_cases h : e = 0
  · exact .inl ⟨h, by simp [h], by simp [h]⟩
  · exact .inr ⟨h, by simp [h], by simp [h]⟩
theorem str_ways (a b : ByteArray) : (a = b ∧ (a.toList == b.toList) = true ∧ (a.toList != b.toList) = false) ∨ (a ≠ b ∧ (a.toList == b.toList) = false ∧ (a.toList != b.toList) = true) := by
  by_cases h : a = b
  · subst h; exact .inl ⟨rfl, by simp, by simp⟩
  · have h2 : a.toList ≠ b.toList := by
      intro e
      rw [ByteArray.toList_eq, ByteArray.toList_eq] at e
      exact h (bytes_ext e)
    exact .inr ⟨h, by simp [h2], by simp [h2]⟩
end Go.Proofs.YtacikiambpfipaaDoor
namespace Go.Proofs.YtacikiambpfipaaDoor
set_option linter.unusedVariables false
set_option linter.unusedSimpArgs false

/-- An item: its text, whether it is a list, the items within. -/
inductive It where
  | mk : ByteArray → Bool → List It → It

def It.text : It → ByteArray | .mk t _ _ => t
def It.list : It → Bool | .mk _ l _ => l
def It.sub : It → List It | .mk _ _ s => s
@[simp] theorem It.text_mk (t : ByteArray) (l : Bool) (s : List It) : (It.mk t l s).text = t := rfl
@[simp] theorem It.list_mk (t : ByteArray) (l : Bool) (s : List It) : (It.mk t l s).list = l := rfl
@[simp] theorem It.sub_mk (t : ByteArray) (l : Bool) (s : List It) : (It.mk t l s).sub = s := rfl

mutual
/-- How many items, it itself too. -/
def It.count : It → Nat
  | .mk _ _ s => 1 + countL s
def countL : List It → Nat
  | [] => 0
  | x :: xs => x.count + countL xs
end
mutual
/-- How deep. -/
def It.deep : It → Nat
  | .mk _ _ s => deepL s + 1
def deepL : List It → Nat
  | [] => 0
  | x :: xs => max x.deep (deepL xs)
end
/-- Has a text no items, a list no text? -/
def formed (t : ByteArray) (l : Bool) (n : Nat) : Bool := if l then decide (t.size = 0) else decide (n = 0)
mutual
def It.right : It → Bool
  | .mk t l s => formed t l s.length && rightL s
def rightL : List It → Bool
  | [] => true
  | x :: xs => x.right && rightL xs
end
def It.may (x : It) : Bool := x.right && decide (x.deep ≤ 16) && decide (x.count ≤ 1024)
/-- An induction over items and lists of them. -/
theorem It.ind {P : It → Prop} (h : ∀ t l s, (∀ x ∈ s, P x) → P (.mk t l s)) : ∀ x, P x := by
  intro x
  exact It.rec (motive_1 := P) (motive_2 := fun s => ∀ x ∈ s, P x) (fun t l s ih => h t l s ih) (by simp) (fun x xs hx hxs => by
    intro y hy
    rcases List.mem_cons.1 hy with rfl | hy
    · exact hx
    · exact hxs y hy) x
theorem countL_append (a b : List It) : countL (a ++ b) = countL a + countL b := by
  induction a with
  | nil => simp [countL]
  | cons x xs ih => simp [countL, ih, Nat.add_assoc]
theorem deepL_append (a b : List It) : deepL (a ++ b) = max (deepL a) (deepL b) := by
  induction a with
  | nil => simp [deepL]
  | cons x xs ih => simp only [List.cons_append, deepL, ih]; omega
theorem rightL_append (a b : List It) : rightL (a ++ b) = (rightL a && rightL b) := by
  induction a with
  | nil => simp [rightL]
  | cons x xs ih => simp [rightL, ih, Bool.and_assoc]
theorem count_pos (x : It) : 1 ≤ x.count := by cases x; simp [It.count]
theorem length_le_countL (s : List It) : s.length ≤ countL s := by
  induction s with
  | nil => simp [countL]
  | cons x xs ih => have := count_pos x; simp [countL]; omega
theorem take_succ_it (s : List It) (k : Nat) (h : k < s.length) : s.take (k + 1) = s.take k ++ [s[k]] := List.take_succ_eq_append_getElem h

mutual
/-- Of so many items that may be looked at, how many are left behind an item; 0: none. -/
def It.room : It → Int → Int
  | .mk _ _ s, left => max (roomL s (left - 1)) 0
def roomL : List It → Int → Int
  | [], left => left
  | x :: xs, left => if left ≤ 0 then left else roomL xs (x.room left)
end
mutual
/-- How many bytes the texts have, but 10,000 at most. -/
def It.bulk : It → Nat
  | .mk t _ s => bulkL s (min t.size 10000)
def bulkL : List It → Nat → Nat
  | [], n => n
  | x :: xs, n => bulkL xs (min (n + x.bulk) 10000)
end
theorem roomL_append (a b : List It) (left : Int) : roomL (a ++ b) left = roomL b (roomL a left) := by
  induction a generalizing left with
  | nil => simp [roomL]
  | cons x xs ih =>
    by_cases h : left ≤ 0
    · simp only [List.cons_append, roomL, if_pos h]
      cases b with
      | nil => simp [roomL]
      | cons y ys => simp [roomL, h]
    · simp only [List.cons_append, roomL, if_neg h, ih]
theorem bulkL_append (a b : List It) (n : Nat) : bulkL (a ++ b) n = bulkL b (bulkL a n) := by
  induction a generalizing n with
  | nil => simp [bulkL]
  | cons x xs ih => simp [bulkL, ih]
theorem deepL_le (s : List It) (h : ∀ x ∈ s, x.deep ≤ x.count) : deepL s ≤ countL s := by
  induction s with
  | nil => simp [deepL]
  | cons x xs ih =>
    have h1 := h x (by simp)
    have h2 := ih (fun y hy => h y (by simp [hy]))
    simp only [deepL, countL]; omega
theorem deep_le (x : It) : x.deep ≤ x.count := by
  induction x using It.ind with
  | h t l s ih => simp only [It.deep, It.count]; have := deepL_le s ih; omega
theorem roomL_stop (s : List It) (m : Int) (h : m ≤ 0) : roomL s m = m := by
  cases s with
  | nil => rfl
  | cons x xs => simp [roomL, h]
theorem roomL_take (s : List It) (k : Nat) (h : k < s.length) (left : Int) (hp : 0 < roomL (s.take k) left) : roomL (s.take (k + 1)) left = s[k].room (roomL (s.take k) left) := by
  rw [take_succ_it s k h, roomL_append]; simp [roomL, show ¬ roomL (s.take k) left ≤ 0 from by omega]
theorem roomL_end (s : List It) (k : Nat) (left : Int) (hp : roomL (s.take k) left ≤ 0 ∨ s.length ≤ k) : roomL s left = roomL (s.take k) left := by
  rcases hp with hp | hp
  · have h1 := roomL_append (s.take k) (s.drop k) left
    rw [List.take_append_drop, roomL_stop _ _ hp] at h1
    exact h1
  · rw [List.take_of_length_le hp]
theorem bulkL_take (s : List It) (k : Nat) (h : k < s.length) (n : Nat) : bulkL (s.take (k + 1)) n = min (bulkL (s.take k) n + s[k].bulk) 10000 := by
  rw [take_succ_it s k h, bulkL_append]; simp [bulkL]
theorem bulkL_le (s : List It) (n : Nat) (h : n ≤ 10000) : bulkL s n ≤ 10000 := by
  induction s generalizing n with
  | nil => simpa [bulkL] using h
  | cons x xs ih => simp only [bulkL]; exact ih _ (by omega)
theorem bulk_le (x : It) : x.bulk ≤ 10000 := by
  cases x with
  | mk t l s => simp only [It.bulk]; exact bulkL_le s _ (by omega)
theorem roomL_bd (s : List It) (ih : ∀ x ∈ s, ∀ m : Int, 0 < m → 0 ≤ x.room m ∧ x.room m < m) : ∀ m : Int, 0 ≤ m → 0 ≤ roomL s m ∧ roomL s m ≤ m := by
  induction s with
  | nil => intro m hm; simp only [roomL]; omega
  | cons x xs hxs =>
    intro m hm
    by_cases h : m ≤ 0
    · simp only [roomL, if_pos h]; omega
    · have h1 := ih x (by simp) m (by omega)
      have h2 := hxs (fun y hy => ih y (by simp [hy])) (x.room m) h1.1
      simp only [roomL, if_neg h]; omega
theorem room_bd (x : It) : ∀ m : Int, 0 < m → 0 ≤ x.room m ∧ x.room m < m := by
  induction x using It.ind with
  | h t l s ih =>
    intro m hm
    have := roomL_bd s ih (m - 1) (by omega)
    simp only [It.room]; omega
/-- With some left behind, it has fewer items than there were. -/
theorem roomL_count (s : List It) (ih : ∀ x ∈ s, ∀ m : Int, 0 < x.room m → x.room m = m - x.count) : ∀ m : Int, 0 < roomL s m → roomL s m = m - countL s := by
  induction s with
  | nil => intro m _; simp [roomL, countL]
  | cons x xs hxs =>
    intro m hm
    by_cases h : m ≤ 0
    · simp only [roomL, if_pos h] at hm; omega
    · simp only [roomL, if_neg h] at hm ⊢
      have h2 := hxs (fun y hy => ih y (by simp [hy])) (x.room m) hm
      by_cases h3 : 0 < x.room m
      · have h1 := ih x (by simp) m h3
        simp only [countL]; omega
      · rw [roomL_stop _ _ (by omega)] at hm; omega
theorem room_count (x : It) : ∀ m : Int, 0 < x.room m → x.room m = m - x.count := by
  induction x using It.ind with
  | h t l s ih =>
    intro m hm
    simp only [It.room, It.count] at hm ⊢
    have := roomL_count s ih (m - 1) (by omega)
    omega
/-- More than statements look at? -/
def It.great (x : It) : Bool := decide (x.room 1200 = 0) || decide (6000 < x.bulk)
theorem great_count (x : It) (h : x.great = false) : x.count < 1200 := by
  simp only [It.great, Bool.or_eq_false_iff, decide_eq_false_iff_not] at h
  have h1 := room_bd x 1200 (by omega)
  have h2 := room_count x 1200 (by omega)
  omega
end Go.Proofs.YtacikiambpfipaaDoor
namespace Go.Proofs.YtacikiambpfipaaDoor
set_option linter.unusedVariables false
set_option linter.unusedSimpArgs false
open Go.RowKit

theorem lt_of_cell {w : World} {b o : Nat} {v : Value} (h : w.cell? ⟨b, o, none⟩ = some v) : b < w.heap.size := by
  rcases Nat.lt_or_ge b w.heap.size with h' | h'
  · exact h'
  · simp [World.cell?, Array.getElem?_eq_none h'] at h

mutual
/-- The three cells are the item x, whose lists lie below block B. -/
def ItIn (w : World) (B : Nat) : It → Value → Value → Value → Prop
  | .mk t l s, c0, c1, c2 => c0 = .string t ∧ c1 = .bool l ∧ t.size ≤ 9223372036854775807 ∧ s.length ≤ 9223372036854775807 ∧ ∃ A cap, c2 = .slice A s.length cap ∧ s.length ≤ cap ∧ cap ≤ 9223372036854775807 ∧ ItsIn w B s A 0
/-- From place i on the slice at A holds these items. -/
def ItsIn (w : World) (B : Nat) : List It → Option Addr → Nat → Prop
  | [], _, _ => True
  | x :: xs, A, i => (∃ b o c0 c1 c2, A = some ⟨b, o, none⟩ ∧ b < B ∧ w.cell? ⟨b, o + i * 3, none⟩ = some c0 ∧ w.cell? ⟨b, o + i * 3 + 1, none⟩ = some c1 ∧ w.cell? ⟨b, o + i * 3 + 2, none⟩ = some c2 ∧ ItIn w B x c0 c1 c2) ∧ ItsIn w B xs A (i + 1)
end
theorem ItsIn.at_ {w : World} {B : Nat} {A : Option Addr} : ∀ {s : List It} {i : Nat}, ItsIn w B s A i → ∀ (j : Nat) (h : j < s.length), ∃ b o c0 c1 c2, A = some ⟨b, o, none⟩ ∧ b < B ∧ w.cell? ⟨b, o + (i + j) * 3, none⟩ = some c0 ∧ w.cell? ⟨b, o + (i + j) * 3 + 1, none⟩ = some c1 ∧ w.cell? ⟨b, o + (i + j) * 3 + 2, none⟩ = some c2 ∧ ItIn w B s[j] c0 c1 c2
  | [], _, _, j, h => by simp at h
  | x :: xs, i, hi, 0, _ => by simpa [ItsIn] using hi.1
  | x :: xs, i, hi, j + 1, h => by
    have := ItsIn.at_ hi.2 j (by simpa using h)
    rw [show i + 1 + j = i + (j + 1) from by omega] at this
    simpa using this
theorem ItsIn.mk_ {w : World} {B : Nat} {A : Option Addr} : ∀ {s : List It} {i : Nat}, (∀ (j : Nat) (h : j < s.length), ∃ b o c0 c1 c2, A = some ⟨b, o, none⟩ ∧ b < B ∧ w.cell? ⟨b, o + (i + j) * 3, none⟩ = some c0 ∧ w.cell? ⟨b, o + (i + j) * 3 + 1, none⟩ = some c1 ∧ w.cell? ⟨b, o + (i + j) * 3 + 2, none⟩ = some c2 ∧ ItIn w B s[j] c0 c1 c2) → ItsIn w B s A i
  | [], _, _ => by simp [ItsIn]
  | x :: xs, i, h => by
    refine ⟨h 0 (Nat.zero_lt_succ _), ItsIn.mk_ fun j hj => ?_⟩
    have := h (j + 1) (by simpa using hj)
    rw [show i + (j + 1) = i + 1 + j from by omega] at this
    simpa using this
/-- What the three cells of an item look like, and how to come to the items within. -/
theorem ItIn.open_ {w : World} {B : Nat} {x : It} {c0 c1 c2 : Value} (h : ItIn w B x c0 c1 c2) : ∃ A cap, c0 = .string x.text ∧ c1 = .bool x.list ∧ c2 = .slice A x.sub.length cap ∧ x.text.size ≤ 9223372036854775807 ∧ x.sub.length ≤ cap ∧ cap ≤ 9223372036854775807 ∧ ItsIn w B x.sub A 0 := by
  cases x with
  | mk t l s =>
    obtain ⟨h0, h1, ht, hs, A, cap, h2, hc, hm, h3⟩ := h
    exact ⟨A, cap, h0, h1, h2, ht, hc, hm, h3⟩
theorem ItIn.keep {w w' : World} {B B' : Nat} (hB : B ≤ B') (hk : ∀ p : Addr, p.block < B → w'.cell? p = w.cell? p) : ∀ (x : It) {c0 c1 c2 : Value}, ItIn w B x c0 c1 c2 → ItIn w' B' x c0 c1 c2 := by
  intro x
  induction x using It.ind with
  | h t l s ih =>
    intro c0 c1 c2 h
    obtain ⟨h0, h1, ht, hs, A, cap, h2, hc, hm, h3⟩ := h
    refine ⟨h0, h1, ht, hs, A, cap, h2, hc, hm, ItsIn.mk_ fun j hj => ?_⟩
    obtain ⟨b, o, d0, d1, d2, hA, hb, e0, e1, e2, hi⟩ := h3.at_ j hj
    exact ⟨b, o, d0, d1, d2, hA, by omega, (hk _ hb).trans e0, (hk _ hb).trans e1, (hk _ hb).trans e2, ih _ (List.getElem_mem hj) hi⟩
theorem ItIn.below {w w' : World} {B : Nat} {x : It} {c0 c1 c2 : Value} (h : ItIn w B x c0 c1 c2) (hb : Below B w w') : ItIn w' B x c0 c1 c2 := ItIn.keep (Nat.le_refl _) (fun _ hp => hb.cell hp) x h
theorem ItIn.mono {w : World} {B B' : Nat} {x : It} {c0 c1 c2 : Value} (h : ItIn w B x c0 c1 c2) (hB : B ≤ B') : ItIn w B' x c0 c1 c2 := ItIn.keep hB (fun _ _ => rfl) x h
theorem ItsIn.below {w w' : World} {B i : Nat} {s : List It} {A : Option Addr} (h : ItsIn w B s A i) (hb : Below B w w') : ItsIn w' B s A i := ItsIn.mk_ fun j hj => by
  obtain ⟨b, o, d0, d1, d2, hA, hlt, e0, e1, e2, hi⟩ := h.at_ j hj
  exact ⟨b, o, d0, d1, d2, hA, hlt, (hb.cell hlt).trans e0, (hb.cell hlt).trans e1, (hb.cell hlt).trans e2, hi.below hb⟩
end Go.Proofs.YtacikiambpfipaaDoor
namespace Go.Proofs.YtacikiambpfipaaDoor
set_option linter.unusedVariables false
set_option linter.unusedSimpArgs false

mutual
/-- At a level, so many items so far, so deep so far: whether it comes to the end, how many, how deep. -/
def It.vis : It → Nat → Nat → Nat → Bool × Nat × Nat
  | .mk t l s, lv, c, d => if 16 < lv ∨ c = 1024 ∨ formed t l s.length = false then (false, c, d) else visL s (lv + 1) (c + 1) (max d lv)
def visL : List It → Nat → Nat → Nat → Bool × Nat × Nat
  | [], _, c, d => (true, c, d)
  | x :: xs, lv, c, d => if (x.vis lv c d).1 then visL xs lv (x.vis lv c d).2.1 (x.vis lv c d).2.2 else (false, (x.vis lv c d).2.1, (x.vis lv c d).2.2)
end
theorem visL_append (a b : List It) (lv c d : Nat) : visL (a ++ b) lv c d = if (visL a lv c d).1 then visL b lv (visL a lv c d).2.1 (visL a lv c d).2.2 else (false, (visL a lv c d).2.1, (visL a lv c d).2.2) := by
  induction a generalizing c d with
  | nil => simp [visL]
  | cons x xs ih =>
    by_cases h : (x.vis lv c d).1 = true
    · simp only [List.cons_append, visL, h, if_true, ih]
    · simp [visL, h]
theorem visL_take {s : List It} {k lv c d c1 d1 : Nat} (h : k < s.length) (ht : visL (s.take k) lv c d = (true, c1, d1)) : visL (s.take (k + 1)) lv c d = s[k].vis lv c1 d1 := by
  rw [take_succ_it s k h, visL_append, ht]
  simp only [if_true, visL]
  by_cases h2 : (s[k].vis lv c1 d1).1 = true
  · rw [if_pos h2, ← h2]
  · rw [if_neg h2]
    simp only [Bool.not_eq_true] at h2
    rw [← h2]
theorem visL_stop {s : List It} {k lv c d c1 d1 c2 d2 : Nat} (h : k < s.length) (ht : visL (s.take k) lv c d = (true, c1, d1)) (hf : s[k].vis lv c1 d1 = (false, c2, d2)) : visL s lv c d = (false, c2, d2) := by
  have h1 := visL_append (s.take (k + 1)) (s.drop (k + 1)) lv c d
  rw [List.take_append_drop, visL_take h ht, hf] at h1
  simpa using h1
/-- What it comes to. -/
def IVisIs (x : It) : Prop := ∀ lv c d, 1 ≤ lv → c ≤ 1024 → (((x.vis lv c d).1 = true ↔ x.right = true ∧ lv + x.deep ≤ 17 ∧ c + x.count ≤ 1024) ∧ ((x.vis lv c d).1 = true → (x.vis lv c d).2 = (c + x.count, max d (lv - 1 + x.deep))) ∧ (x.vis lv c d).2.1 ≤ 1024 ∧ (x.vis lv c d).2.2 ≤ max d 16)
theorem visL_is (s : List It) (ih : ∀ x ∈ s, IVisIs x) : ∀ lv c d, 1 ≤ lv → c ≤ 1024 → (((visL s lv c d).1 = true ↔ rightL s = true ∧ (s = [] ∨ lv + deepL s ≤ 17) ∧ c + countL s ≤ 1024) ∧ ((visL s lv c d).1 = true → (visL s lv c d).2 = (c + countL s, if s = [] then d else max d (lv - 1 + deepL s))) ∧ (visL s lv c d).2.1 ≤ 1024 ∧ (visL s lv c d).2.2 ≤ max d 16) := by
  induction s with
  | nil => intro lv c d hl hc; simp [visL, rightL, countL, hc]; omega
  | cons x xs hxs =>
    intro lv c d hl hc
    obtain ⟨h1, h2, h3, h4⟩ := ih x (by simp) lv c d hl hc
    by_cases hv : (x.vis lv c d).1 = true
    · have h5 := h2 hv
      have h6 := h1.1 hv
      obtain ⟨g1, g2, g3, g4⟩ := hxs (fun y hy => ih y (by simp [hy])) lv (c + x.count) (max d (lv - 1 + x.deep)) hl h6.2.2
      simp only [visL, hv, if_true, h5]
      simp only [rightL, countL, deepL, Bool.and_eq_true, h6.1, true_and]
      refine ⟨?_, ?_, g3, by omega⟩
      · rw [g1]
        constructor
        · rintro ⟨a, b, e⟩
          refine ⟨a, .inr ?_, by omega⟩
          rcases b with rfl | b
          · simp [deepL]; omega
          · omega
        · rintro ⟨a, b, e⟩
          refine ⟨a, ?_, by omega⟩
          rcases b with b | b
          · cases b
          · exact .inr (by omega)
      · intro hh
        rw [g2 hh]
        by_cases hn : xs = []
        · subst hn; simp [deepL, countL]
        · simp only [hn, if_false]
          simp; omega
    · simp only [visL, hv]
      refine ⟨?_, by simp, by simpa using h3, by simpa using h4⟩
      simp only [Bool.false_eq_true, if_false, false_iff]
      rintro ⟨a, b, e⟩
      simp only [rightL, countL, deepL, Bool.and_eq_true] at a b e
      exact hv (h1.2 ⟨a.1, by rcases b with b | b; cases b; omega, by omega⟩)
theorem vis_is (x : It) : IVisIs x := by
  induction x using It.ind with
  | h t l s ih =>
    intro lv c d hl hc
    by_cases hbad : 16 < lv ∨ c = 1024 ∨ formed t l s.length = false
    · simp only [It.vis, if_pos hbad, It.right, It.deep, It.count]
      refine ⟨?_, by simp, hc, by omega⟩
      simp only [Bool.false_eq_true, false_iff, Bool.and_eq_true]
      rintro ⟨⟨a, _⟩, b, e⟩
      rcases hbad with h | h | h
      · omega
      · omega
      · rw [h] at a; cases a
    · obtain ⟨n1, n2, n3⟩ : ¬ 16 < lv ∧ ¬ c = 1024 ∧ ¬ formed t l s.length = false := by
        refine ⟨fun h => hbad (.inl h), fun h => hbad (.inr (.inl h)), fun h => hbad (.inr (.inr h))⟩
      obtain ⟨g1, g2, g3, g4⟩ := visL_is s ih (lv + 1) (c + 1) (max d lv) (by omega) (by omega)
      simp only [It.vis, if_neg hbad, It.right, It.deep, It.count]
      simp only [Bool.not_eq_false] at n3
      refine ⟨?_, ?_, g3, by omega⟩
      · rw [g1, n3]
        simp only [Bool.true_and]
        constructor
        · rintro ⟨a, b, e⟩
          refine ⟨a, ?_, by omega⟩
          rcases b with rfl | b
          · simp [deepL]; omega
          · omega
        · rintro ⟨a, b, e⟩
          exact ⟨a, .inr (by omega), by omega⟩
      · intro hh
        rw [g2 hh]
        by_cases hn : s = []
        · subst hn; simp [deepL, countL]; omega
        · simp only [hn, if_false]
          simp; omega
/-- Whether an item may be, as the program asks it. -/
theorem vis_may (x : It) : (x.vis 1 0 0).1 = x.may := by
  have h := (vis_is x 1 0 0 (by omega) (by omega)).1
  rw [Bool.eq_iff_iff, h]
  simp only [It.may, Bool.and_eq_true, decide_eq_true_eq, Nat.zero_add]
  constructor
  · rintro ⟨a, b, c⟩; exact ⟨⟨a, by omega⟩, c⟩
  · rintro ⟨⟨a, b⟩, c⟩; exact ⟨a, by omega, c⟩
/-- Within the caps: the error. -/
def capsE (x : It) (D M : Int) : Int := if x.may = false then 1 else if D < x.deep then 6 else if M < x.count then 4 else 0
end Go.Proofs.YtacikiambpfipaaDoor
