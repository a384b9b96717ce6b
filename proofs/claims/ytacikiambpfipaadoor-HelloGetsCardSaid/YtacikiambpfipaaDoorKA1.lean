/- Texts and the lists of their bytes: small plain laws. No program in sight. -/
/- Items as plain data, and what is told of them. No program in sight. -/
/- Numbers out of bytes: the plain functions and their laws. No program in sight. -/
/- Words for memory: a block that is known whole ('Blk'), a world that has turned at some blocks alone ('Only'), a slice that reads as a list ('Reads'). Own text; no program in sight. -/
/- string([]byte{..}) of a literal of one to five bytes. Own text; no program in sight. -/
/- []byte(s): the world behind it, in my words. Own text; no program in sight. -/
import Derived.Below
import Derived.Laws.Strings
import Derived.WalkKit
import Derived.Maps.AppendAt
import Derived.Deep.AppendLies
import Derived.Deep.Draws
import Derived.Lib.Hide
import Derived.Lib.ConvBytes
import Derived.Lib.AtoiErrMem
namespace Go.Proofs.YtacikiambpfipaaDoor
set_option linter.unusedVariables false
set_option linter.unusedSimpArgs false

theorem bytes_ext {a b : ByteArray} (h : a.data.toList = b.data.toList) : a = b := by
  cases a; cases b; simp at h; simpa using h
theorem bytes_of (s : ByteArray) : (⟨s.data.toList.toArray⟩ : ByteArray) = s := bytes_ext (by simp)
theorem toList_size (s : ByteArray) : s.data.toList.length = s.size := by simp
theorem size_of (l : List UInt8) : (⟨l.toArray⟩ : ByteArray).size = l.length := by simp [ByteArray.size]
theorem toList_app (a b : ByteArray) : (a ++ b).data.toList = a.data.toList ++ b.data.toList := by
  rw [ByteArray.data_append]; simp
theorem toList_cut (s : ByteArray) (i j : Nat) : (s.extract i j).data.toList = (s.data.toList.take j).drop i := by
  rw [ByteArray.data_extract, Array.toList_extract, List.extract_eq_take_drop, List.drop_take]
theorem cut_one (s : ByteArray) (k : Nat) (h : k < s.size) : (s.extract k (k + 1)).data.toList = [s[k]] := by
  rw [toList_cut, List.take_succ_eq_append_getElem (by simpa using h), List.drop_append_of_le_length (by simp; omega), List.drop_eq_nil_of_le (by simp; omega)]; rfl
theorem size_cut (s : ByteArray) (i j : Nat) (hj : j ≤ s.size) : (s.extract i j).size = j - i := by
  rw [ByteArray.size_extract, Nat.min_eq_left hj]
theorem size_app (a b : ByteArray) : (a ++ b).size = a.size + b.size := ByteArray.size_append
theorem take_snoc (s : ByteArray) (k : Nat) (h : k < s.size) : s.data.toList.take (k + 1) = s.data.toList.take k ++ [s[k]] := by
  rw [List.take_succ_eq_append_getElem (by simpa using h)]; rfl
theorem drop_cons (s : ByteArray) (k : Nat) (h : k < s.size) : s.data.toList.drop k = s[k] :: s.data.toList.drop (k + 1) := by
  rw [List.drop_eq_getElem_cons (by simpa using h)]; rfl
theorem length_take (s : ByteArray) (k : Nat) (h : k ≤ s.size) : (s.data.toList.take k).length = k := by
  rw [List.length_take, Nat.min_eq_left (by simpa using h)]
theorem take_all (s : ByteArray) : s.data.toList.take s.size = s.data.toList := List.take_of_length_le (by simp)
theorem byte_at (s : ByteArray) (k : Nat) (h : k < s.size) : s.data.toList[k]? = some s[k] := by
  rw [List.getElem?_eq_getElem (by simpa using h)]; rfl
/-- A text that is the bytes of its whole cut. -/
theorem cut_all (s : ByteArray) : s.extract 0 s.size = s := bytes_ext (by rw [toList_cut, take_all]; simp)
theorem cut_cut (s : ByteArray) (i a b : Nat) (hb : i + b ≤ s.size) : (s.extract i s.size).extract a b = s.extract (i + a) (i + b) := by
  apply bytes_ext
  rw [toList_cut, toList_cut, toList_cut, take_all, List.take_drop, List.drop_drop]
theorem get_cut (s : ByteArray) (i k : Nat) (h : i + k < s.size) (h' : k < (s.extract i s.size).size) : (s.extract i s.size)[k] = s[i + k] := by
  have h1 := byte_at (s.extract i s.size) k h'
  rw [toList_cut, take_all, List.getElem?_drop, byte_at s (i + k) h] at h1
  injection h1 with h1; exact h1.symm
theorem empty_ways (t : ByteArray) : (t.size = 0 ∧ t = ⟨#[]⟩) ∨ (t.size ≠ 0 ∧ t.toList.isEmpty = false ∧ (!t.toList.isEmpty) = true) := by
  by_cases h : t.size = 0
  · exact .inl ⟨h, bytes_ext (List.eq_nil_of_length_eq_zero (by simpa using h))⟩
  · refine .inr ⟨h, ?_, ?_⟩ <;> rw [ByteArray.toList_eq] <;> cases h2 : t.data.toList with
    | nil => exact absurd (by rw [← toList_size, h2]; rfl) h
    | cons a b => rfl
theorem beq0 (e : Int) : (e = 0 ∧ (e == 0) = true ∧ (e != 0) = false) ∨ (e ≠ 0 ∧ (e == 0) = false ∧ (e != 0) = true) := by
  by_cases h : e = 0
  · exact .inl ⟨h, by simp [h], by simp [h]⟩
  · exact .inr ⟨h, by simp [h], by simp [h]⟩
theorem str_ways (a b : ByteArray) : (a = b ∧ (a.toList == b.toList) = true ∧ (a.toList != b.toList) = false) ∨ (a ≠ b ∧ (a.toList == b.toList) = false ∧ (a.toList != b.toList) = true) := by
  by_cases h : a = b
  · subst h; exact .inl ⟨rfl, by simp, by simp⟩
  · have h2 : a.toList ≠ b.toList := by
      intro e
      rw [ByteArray.toList_eq, ByteArray.toList_eq] at e
      exact h (bytes_ext e)
    exact .inr ⟨h, by simp [h2], by simp [h2]⟩
end Go.Proofs.YtacikiambpfipaaDoor
namespace Go.Proofs.YtacikiambpfipaaDoor
set_option linter.unusedVariables false
set_option linter.unusedSimpArgs false

/-- An item: its text, whether it is a list, the items within. -/
inductive It where
  | mk : ByteArray → Bool → List It → It

def It.text : It → ByteArray | .mk t _ _ => t
def It.list : It → Bool | .mk _ l _ => l
def It.sub : It → List It | .mk _ _ s => s
@[simp] theorem It.text_mk (t : ByteArray) (l : Bool) (s : List It) : (It.mk t l s).text = t := rfl
@[simp] theorem It.list_mk (t : ByteArray) (l : Bool) (s : List It) : (It.mk t l s).list = l := rfl
@[simp] theorem It.sub_mk (t : ByteArray) (l : Bool) (s : List It) : (It.mk t l s).sub = s := rfl

mutual
/-- How many items, it itself too. -/
def It.count : It → Nat
  | .mk _ _ s => 1 + countL s
def countL : List It → Nat
  | [] => 0
  | x :: xs => x.count + countL xs
end
mutual
/-- How deep. -/
def It.deep : It → Nat
  | .mk _ _ s => deepL s + 1
def deepL : List It → Nat
  | [] => 0
  | x :: xs => max x.deep (deepL xs)
end
/-- Has a text no items, a list no text? -/
def formed (t : ByteArray) (l : Bool) (n : Nat) : Bool := if l then decide (t.size = 0) else decide (n = 0)
mutual
def It.right : It → Bool
  | .mk t l s => formed t l s.length && rightL s
def rightL : List It → Bool
  | [] => true
  | x :: xs => x.right && rightL xs
end
def It.may (x : It) : Bool := x.right && decide (x.deep ≤ 16) && decide (x.count ≤ 1024)
/-- An induction over items and lists of them. -/
theorem It.ind {P : It → Prop} (h : ∀ t l s, (∀ x ∈ s, P x) → P (.mk t l s)) : ∀ x, P x := by
  intro x
  exact It.rec (motive_1 := P) (motive_2 := fun s => ∀ x ∈ s, P x) (fun t l s ih => h t l s ih) (by simp) (fun x xs hx hxs => by
    intro y hy
    rcases List.mem_cons.1 hy with rfl | hy
    · exact hx
    · exact hxs y hy) x
theorem countL_append (a b : List It) : countL (a ++ b) = countL a + countL b := by
  induction a with
  | nil => simp [countL]
  | cons x xs ih => simp [countL, ih, Nat.add_assoc]
theorem deepL_append (a b : List It) : deepL (a ++ b) = max (deepL a) (deepL b) := by
  induction a with
  | nil => simp [deepL]
  | cons x xs ih => simp only [List.cons_append, deepL, ih]; omega
theorem rightL_append (a b : List It) : rightL (a ++ b) = (rightL a && rightL b) := by
  induction a with
  | nil => simp [rightL]
  | cons x xs ih => simp [rightL, ih, Bool.and_assoc]
theorem count_pos (x : It) : 1 ≤ x.count := by cases x; simp [It.count]
theorem length_le_countL (s : List It) : s.length ≤ countL s := by
  induction s with
  | nil => simp [countL]
  | cons x xs ih => have := count_pos x; simp [countL]; omega
theorem take_succ_it (s : List It) (k : Nat) (h : k < s.length) : s.take (k + 1) = s.take k ++ [s[k]] := List.take_succ_eq_append_getElem h

mutual
/-- Of so many items that may be looked at, how many are left behind an item; 0: none. -/
def It.room : It → Int → Int
  | .mk _ _ s, left => max (roomL s (left - 1)) 0
def roomL : List It → Int → Int
  | [], left => left
  | x :: xs, left => if left ≤ 0 then left else roomL xs (x.room left)
end
mutual
/-- How many bytes the texts have, but 10,000 at most. -/
def It.bulk : It → Nat
  | .mk t _ s => bulkL s (min t.size 10000)
def bulkL : List It → Nat → Nat
  | [], n => n
  | x :: xs, n => bulkL xs (min (n + x.bulk) 10000)
end
theorem roomL_append (a b : List It) (left : Int) : roomL (a ++ b) left = roomL b (roomL a left) := by
  induction a generalizing left with
  | nil => simp [roomL]
  | cons x xs ih =>
    by_cases h : left ≤ 0
    · simp only [List.cons_append, roomL, if_pos h]
      cases b with
      | nil => simp [roomL]
      | cons y ys => simp [roomL, h]
    · simp only [List.cons_append, roomL, if_neg h, ih]
theorem bulkL_append (a b : List It) (n : Nat) : bulkL (a ++ b) n = bulkL b (bulkL a n) := by
  induction a generalizing n with
  | nil => simp [bulkL]
  | cons x xs ih => simp [bulkL, ih]
theorem deepL_le (s : List It) (h : ∀ x ∈ s, x.deep ≤ x.count) : deepL s ≤ countL s := by
  induction s with
  | nil => simp [deepL]
  | cons x xs ih =>
    have h1 := h x (by simp)
    have h2 := ih (fun y hy => h y (by simp [hy]))
    simp only [deepL, countL]; omega
theorem deep_le (x : It) : x.deep ≤ x.count := by
  induction x using It.ind with
  | h t l s ih => simp only [It.deep, It.count]; have := deepL_le s ih; omega
theorem roomL_stop (s : List It) (m : Int) (h : m ≤ 0) : roomL s m = m := by
  cases s with
  | nil => rfl
  | cons x xs => simp [roomL, h]
theorem roomL_take (s : List It) (k : Nat) (h : k < s.length) (left : Int) (hp : 0 < roomL (s.take k) left) : roomL (s.take (k + 1)) left = s[k].room (roomL (s.take k) left) := by
  rw [take_succ_it s k h, roomL_append]; simp [roomL, show ¬ roomL (s.take k) left ≤ 0 from by omega]
theorem roomL_end (s : List It) (k : Nat) (left : Int) (hp : roomL (s.take k) left ≤ 0 ∨ s.length ≤ k) : roomL s left = roomL (s.take k) left := by
  rcases hp with hp | hp
  · have h1 := roomL_append (s.take k) (s.drop k) left
    rw [List.take_append_drop, roomL_stop _ _ hp] at h1
    exact h1
  · rw [List.take_of_length_le hp]
theorem bulkL_take (s : List It) (k : Nat) (h : k < s.length) (n : Nat) : bulkL (s.take (k + 1)) n = min (bulkL (s.take k) n + s[k].bulk) 10000 := by
  rw [take_succ_it s k h, bulkL_append]; simp [bulkL]
theorem bulkL_le (s : List It) (n : Nat) (h : n ≤ 10000) : bulkL s n ≤ 10000 := by
  induction s generalizing n with
  | nil => simpa [bulkL] using h
  | cons x xs ih => simp only [bulkL]; exact ih _ (by omega)
theorem bulk_le (x : It) : x.bulk ≤ 10000 := by
  cases x with
  | mk t l s => simp only [It.bulk]; exact bulkL_le s _ (by omega)
theorem roomL_bd (s : List It) (ih : ∀ x ∈ s, ∀ m : Int, 0 < m → 0 ≤ x.room m ∧ x.room m < m) : ∀ m : Int, 0 ≤ m → 0 ≤ roomL s m ∧ roomL s m ≤ m := by
  induction s with
  | nil => intro m hm; simp only [roomL]; omega
  | cons x xs hxs =>
    intro m hm
    by_cases h : m ≤ 0
    · simp only [roomL, if_pos h]; omega
    · have h1 := ih x (by simp) m (by omega)
      have h2 := hxs (fun y hy => ih y (by simp [hy])) (x.room m) h1.1
      simp only [roomL, if_neg h]; omega
theorem room_bd (x : It) : ∀ m : Int, 0 < m → 0 ≤ x.room m ∧ x.room m < m := by
  induction x using It.ind with
  | h t l s ih =>
    intro m hm
    have := roomL_bd s ih (m - 1) (by omega)
    simp only [It.room]; omega
/-- With some left behind, it has fewer items than there were. -/
theorem roomL_count (s : List It) (ih : ∀ x ∈ s, ∀ m : Int, 0 < x.room m → x.room m = m - x.count) : ∀ m : Int, 0 < roomL s m → roomL s m = m - countL s := by
  induction s with
  | nil => intro m _; simp [roomL, countL]
  | cons x xs hxs =>
    intro m hm
    by_cases h : m ≤ 0
    · simp only [roomL, if_pos h] at hm; omega
    · simp only [roomL, if_neg h] at hm ⊢
      have h2 := hxs (fun y hy => ih y (by simp [hy])) (x.room m) hm
      by_cases h3 : 0 < x.room m
      · have h1 := ih x (by simp) m h3
        simp only [countL]; omega
      · rw [roomL_stop _ _ (by omega)] at hm; omega
theorem room_count (x : It) : ∀ m : Int, 0 < x.room m → x.room m = m - x.count := by
  induction x using It.ind with
  | h t l s ih =>
    intro m hm
    simp only [It.room, It.count] at hm ⊢
    have := roomL_count s ih (m - 1) (by omega)
    omega
/-- More than statements look at? -/
def It.great (x : It) : Bool := decide (x.room 1200 = 0) || decide (6000 < x.bulk)
theorem great_count (x : It) (h : x.great = false) : x.count < 1200 := by
  simp only [It.great, Bool.or_eq_false_iff, decide_eq_false_iff_not] at h
  have h1 := room_bd x 1200 (by omega)
  have h2 := room_count x 1200 (by omega)
  omega
end Go.Proofs.YtacikiambpfipaaDoor
namespace Go.Proofs.YtacikiambpfipaaDoor
set_option linter.unusedVariables false
set_option linter.unusedSimpArgs false

/-- The number whose bytes these are, the lowest first. -/
def leL : List UInt8 → Nat
  | [] => 0
  | b :: t => b.toNat + 256 * leL t
theorem leL_lt (l : List UInt8) : leL l < 2 ^ (8 * l.length) := by
  induction l with
  | nil => simp [leL]
  | cons b t ih =>
    have := b.toNat_lt
    rw [List.length_cons, show 8 * (t.length + 1) = 8 + 8 * t.length from by omega, Nat.pow_add]
    simp only [leL]
    omega
theorem leL_append (l t : List UInt8) : leL (l ++ t) = leL l + 2 ^ (8 * l.length) * leL t := by
  induction l with
  | nil => simp [leL]
  | cons b r ih =>
    rw [List.cons_append, leL, leL, ih, List.length_cons, show 8 * (r.length + 1) = 8 + 8 * r.length from by omega, Nat.pow_add, Nat.mul_add, Nat.mul_assoc]
    omega
theorem leL_snoc (l : List UInt8) (b : UInt8) : leL (l ++ [b]) = leL l + b.toNat * 2 ^ (8 * l.length) := by
  rw [leL_append]; simp [leL, Nat.mul_comm]
/-- The number whose bytes these are, the highest first. -/
def beL (l : List UInt8) : Nat := leL l.reverse
theorem beL_snoc (l : List UInt8) (b : UInt8) : beL (l ++ [b]) = 256 * beL l + b.toNat := by
  simp [beL, leL]; omega
theorem beL_lt (l : List UInt8) : beL l < 2 ^ (8 * l.length) := by
  have := leL_lt l.reverse; simpa [beL] using this

theorem le_or (n b i : Nat) (hn : n < 2 ^ (8 * i)) : n ||| b * 2 ^ (8 * i) = n + b * 2 ^ (8 * i) := by
  rw [Nat.or_comm, Nat.mul_comm, ← Nat.two_pow_add_eq_or_of_lt hn]; omega
theorem le_pow (i : Nat) (hi : i ≤ 8) : 2 ^ (8 * i) ≤ 18446744073709551616 := by
  have : 2 ^ (8 * i) ≤ 2 ^ 64 := Nat.pow_le_pow_right (by omega) (by omega)
  simpa using this
theorem le_step (n b i : Nat) (hb : b < 256) (hn : n < 2 ^ (8 * i)) : n + b * 2 ^ (8 * i) < 2 ^ (8 * (i + 1)) := by
  have h2 : 2 ^ (8 * (i + 1)) = 256 * 2 ^ (8 * i) := by rw [show 8 * (i + 1) = 8 + 8 * i from by omega, Nat.pow_add]
  have h3 : b * 2 ^ (8 * i) ≤ 255 * 2 ^ (8 * i) := Nat.mul_le_mul_right _ (by omega)
  omega
end Go.Proofs.YtacikiambpfipaaDoor
namespace Go.Proofs.YtacikiambpfipaaDoor
set_option linter.unusedVariables false
set_option linter.unusedSimpArgs false
open Go.RowKit

/-- Block g is the cells cs of element type t; none of them is frozen. -/
def Blk (w : World) (g : Nat) (t : TypeId) (cs : Array Value) : Prop := w.heap[g]? = some (.cells cs t (0, 0))

theorem Blk.lt {w : World} {g : Nat} {t : TypeId} {cs : Array Value} (h : Blk w g t cs) : g < w.heap.size := lt_of_block h
theorem Blk.cell {w : World} {g : Nat} {t : TypeId} {cs : Array Value} (h : Blk w g t cs) (i : Nat) : w.cell? ⟨g, i, none⟩ = cs[i]? := by
  unfold Blk at h; simp [World.cell?, h]
theorem Blk.frozen {w : World} {g : Nat} {t : TypeId} {cs : Array Value} (h : Blk w g t cs) (i : Nat) : w.frozen? ⟨g, i, none⟩ = false := by
  unfold Blk at h; simp [World.frozen?, h]
theorem Blk.new (w : World) (t : TypeId) (cs : Array Value) : Blk (w.alloc (.cells cs t)) w.heap.size t cs := heap_alloc_new w _
theorem Blk.drew {w : World} {g : Nat} {t : TypeId} {cs : Array Value} (h : Blk w g t cs) : Blk w.drew g t cs := h
theorem Blk.drewN {w : World} {g : Nat} {t : TypeId} {cs : Array Value} (h : Blk w g t cs) (n : Nat) : Blk (w.drewN n) g t cs := h
theorem Blk.alloc {w : World} {g : Nat} {t : TypeId} {cs : Array Value} (h : Blk w g t cs) (o : Obj) : Blk (w.alloc o) g t cs := (Below.heap_alloc w o g h.lt).trans h
theorem Blk.set {w : World} {g : Nat} {t : TypeId} {cs : Array Value} (h : Blk w g t cs) (i : Nat) (u : Value) : Blk (w.setCell ⟨g, i, none⟩ u) g t (cs.setIfInBounds i u) := by
  unfold Blk at h ⊢; simp [World.setCell, Array.getElem?_modify, h]
theorem Blk.far {w : World} {g : Nat} {t : TypeId} {cs : Array Value} (h : Blk w g t cs) {p : Addr} (hp : g ≠ p.block) (u : Value) : Blk (w.setCell p u) g t cs := (Below.heap_setCell w p u g hp).trans h

theorem Blk.beside {w : World} {g : Nat} {t : TypeId} {cs : Array Value} {p : Addr} (hp : g ≠ p.block) (h : Blk w g t cs) (u : Value) : Blk (w.setCell p u) g t cs := h.far hp u
theorem Blk.store {w : World} {g : Nat} {t : TypeId} {cs cs' : Array Value} {i : Nat} {u : Value} (h : Blk w g t cs) (e : cs.setIfInBounds i u = cs') : Blk (w.setCell ⟨g, i, none⟩ u) g t cs' := e ▸ h.set i u

/-- From w to w' only blocks of the list L, and new ones, have turned. -/
structure Only (L : List Nat) (w w' : World) : Prop where
  os : w'.os = w.os
  tape : w'.tape = w.tape
  output : w'.output = w.output
  size : w.heap.size ≤ w'.heap.size
  block : ∀ k, k < w.heap.size → k ∉ L → w'.heap[k]? = w.heap[k]?

theorem Only.refl (L : List Nat) (w : World) : Only L w w := ⟨rfl, rfl, rfl, Nat.le_refl _, fun _ _ _ => rfl⟩
theorem Only.trans' {L M : List Nat} {a b c : World} (h : Only L a b) (k : Only M b c) (hm : ∀ i, i ∈ M → i ∈ L ∨ a.heap.size ≤ i) : Only L a c :=
  ⟨k.os.trans h.os, k.tape.trans h.tape, k.output.trans h.output, Nat.le_trans h.size k.size, fun i hi hn =>
    (k.block i (Nat.lt_of_lt_of_le hi h.size) (fun hM => by rcases hm i hM with h1 | h1; exact hn h1; omega)).trans (h.block i hi hn)⟩
theorem Only.trans {L : List Nat} {a b c : World} (h : Only L a b) (k : Only L b c) : Only L a c := h.trans' k fun _ hi => .inl hi
theorem Only.mono {L M : List Nat} {w w' : World} (h : Only L w w') (hm : ∀ i, i ∈ L → i ∈ M) : Only M w w' := ⟨h.os, h.tape, h.output, h.size, fun k hk hn => h.block k hk (fun hL => hn (hm k hL))⟩
theorem Only.drew {L : List Nat} {a w : World} (h : Only L a w) : Only L a w.drew := ⟨h.os, h.tape, h.output, h.size, h.block⟩
theorem Only.drewN {L : List Nat} {a w : World} (h : Only L a w) (n : Nat) : Only L a (w.drewN n) := ⟨h.os, h.tape, h.output, h.size, h.block⟩
theorem Only.alloc {L : List Nat} {a w : World} (h : Only L a w) (o : Obj) : Only L a (w.alloc o) :=
  ⟨h.os, h.tape, h.output, Nat.le_trans h.size (by simp), fun k hk hn => (Below.heap_alloc w o k (Nat.lt_of_lt_of_le hk h.size)).trans (h.block k hk hn)⟩
theorem Only.setCell {L : List Nat} {a w : World} (h : Only L a w) {p : Addr} (hp : p.block ∈ L ∨ a.heap.size ≤ p.block) (u : Value) : Only L a (w.setCell p u) :=
  ⟨h.os, h.tape, h.output, by simpa [World.setCell] using h.size, fun k hk hn => (Below.heap_setCell w p u k (by
    rintro rfl
    rcases hp with hp | hp
    · exact hn hp
    · omega)).trans (h.block k hk hn)⟩
theorem Only.put {L : List Nat} {a w : World} {p : Addr} (hp : p.block ∈ L ∨ a.heap.size ≤ p.block) (h : Only L a w) (u : Value) : Only L a (w.setCell p u) := h.setCell hp u
theorem Only.of_grown {w w' : World} {row : Option Nat} (h : w.grownBy w' row) : Only row.toList w w' :=
  ⟨h.os, h.tape, h.output, h.size, fun k hk hn => h.block k hk (fun e => hn (by simp [← e]))⟩
theorem Only.grown {L : List Nat} {a w w' : World} {row : Option Nat} (h : Only L a w) (hg : w.grownBy w' row) (hr : ∀ k, row = some k → k ∈ L ∨ a.heap.size ≤ k) : Only L a w' :=
  h.trans' (Only.of_grown hg) fun i hi => hr i (by simpa using hi)
theorem Only.of_below {B : Nat} {w w' : World} (h : Below B w w') (hB : w.heap.size ≤ B) : Only [] w w' := ⟨h.os, h.tape, h.output, h.size, fun k hk _ => h.block k (by omega)⟩
theorem Only.below {L : List Nat} {w w' : World} (h : Only L w w') {B : Nat} (hB : B ≤ w.heap.size) (hL : ∀ i, i ∈ L → B ≤ i) : Below B w w' :=
  ⟨h.os, h.tape, h.output, h.size, fun k hk => h.block k (by omega) (fun hi => by have := hL k hi; omega)⟩
theorem Only.cell {L : List Nat} {w w' : World} (h : Only L w w') {p : Addr} (hp : p.block < w.heap.size) (hn : p.block ∉ L) : w'.cell? p = w.cell? p := World.cell?_of_block (h.block _ hp hn)
theorem Only.frozen {L : List Nat} {w w' : World} (h : Only L w w') {p : Addr} (hp : p.block < w.heap.size) (hn : p.block ∉ L) : w'.frozen? p = w.frozen? p := World.frozen?_of_block (h.block _ hp hn)
theorem Blk.only {L : List Nat} {w w' : World} {g : Nat} {t : TypeId} {cs : Array Value} (h : Blk w g t cs) (ho : Only L w w') (hn : g ∉ L) : Blk w' g t cs := (ho.block g h.lt hn).trans h
theorem Only.own {L : List Nat} {w w' : World} (h : Only L w w') {base : Nat} {e : TypeId} {size : Nat} {v : Value} {n : Nat} {xs : List Value} (ho : w.ownsRow base e size v n xs)
    (hn : ∀ g, v.ownBlock = some g → g ∉ L) : w'.ownsRow base e size v n xs := by
  obtain ⟨h1, h2⟩ := ho
  refine ⟨h1, ?_⟩
  rcases h2 with h2 | ⟨g, cap, cur, hv, hg, hh, r⟩
  · exact Or.inl h2
  · subst hv
    exact Or.inr ⟨g, cap, cur, rfl, hg, (h.block g (lt_of_block hh) (hn g rfl)).trans hh, r⟩

/-- Bytes as cells. -/
def cb (l : List UInt8) : List Value := l.map fun b => .int .u8 b.toNat
theorem cb_length (l : List UInt8) : (cb l).length = l.length := List.length_map ..
theorem cb_append (l m : List UInt8) : cb (l ++ m) = cb l ++ cb m := List.map_append ..
theorem cb_at (l : List UInt8) (j : Nat) : (cb l)[j]? = (l[j]?).map fun b => .int .u8 b.toNat := List.getElem?_map ..
theorem cb_one (l : List UInt8) : ∀ u ∈ cb l, u.oneCell' = true := by
  intro u hu
  simp only [cb, List.mem_map] at hu
  obtain ⟨b, _, rfl⟩ := hu
  rfl
theorem cb_drop (l : List UInt8) (k : Nat) : cb (l.drop k) = (cb l).drop k := by simp [cb]
theorem cb_take (l : List UInt8) (k : Nat) : cb (l.take k) = (cb l).take k := by simp [cb]
/-- A value that owns a row, and a block of another element type. -/
theorem own_ne {w : World} {base : Nat} {e t : TypeId} {size n cap g h : Nat} {xs : List Value} {cs : Array Value} (ho : w.ownsRow base e size (.slice (some ⟨h, 0, none⟩) n cap) n xs) (hg : Blk w g t cs) (hne : e ≠ t) : h ≠ g := by
  rintro rfl
  rcases ho.2 with ⟨h1, _⟩ | ⟨g', cap', cur, hv, _, hh, _⟩
  · cases h1
  · injection hv with hv
    injection hv with hv
    injection hv with hv
    subst hv
    unfold Blk at hg
    rw [hh] at hg
    injection hg with hg
    injection hg with _ ht
    exact hne ht
theorem own_bd {w : World} {base : Nat} {e : TypeId} {size n cap h : Nat} {xs : List Value} (ho : w.ownsRow base e size (.slice (some ⟨h, 0, none⟩) n cap) n xs) : n ≤ cap ∧ cap ≤ 9223372036854775807 ∧ base ≤ h ∧ h < w.heap.size := by
  rcases ho.2 with ⟨h1, _⟩ | ⟨g', cap', cur, hv, hb, hh, hn, hm, _⟩
  · cases h1
  · injection hv with hv hv2 hv3
    injection hv with hv
    injection hv with hv
    subst hv; subst hv3
    exact ⟨hn, by simpa [maxLen] using hm, hb, lt_of_block hh⟩

theorem own_form {w : World} {base : Nat} {e : TypeId} {size n : Nat} {v : Value} {xs : List Value} (ho : w.ownsRow base e size v n xs) (hv : v ≠ .slice none 0 0) : ∃ h cap, v = .slice (some ⟨h, 0, none⟩) n cap := by
  rcases ho.2 with ⟨h1, _⟩ | ⟨g', cap', cur, hv, _⟩
  · exact absurd h1 hv
  · exact ⟨g', cap', hv⟩

theorem push_bytes (l : List UInt8) (s : ByteArray) : (l.map fun b => (b.toNat : Int)).foldl (fun r n => r.push (UInt8.ofNat n.toNat)) s = ⟨(s.data.toList ++ l).toArray⟩ := by
  induction l generalizing s with
  | nil => cases s; simp
  | cons b t ih =>
    rw [List.map_cons, List.foldl_cons, ih]
    congr 1
    simp [ByteArray.push]
/-- string(b) of bytes that lie at an address. -/
theorem run_str {P : Program} (w : World) (src dst e : TypeId) (hs : P.underlying src = some (.slice e)) (he : P.underlying e = some (.int .u8)) (hd : P.underlying dst = some .string) (a : Addr) (cap : Nat) (l : List UInt8)
    (h : ∀ j u, (cb l)[j]? = some u → w.cell? (a.add j) = some u) : (convert src dst (.slice (some a) l.length cap)).run P w = .ok (.string ⟨l.toArray⟩) w := by
  rw [run_convert_bytes_string w src dst e (some a) l.length cap hs he hd]
  have e1 : cb l = (l.map fun b => (b.toNat : Int)).map (Value.int .u8) := by simp [cb]
  have hl := run_loadCells_list (P := P) (w := w) a (cb l) h
  rw [cb_length, e1] at hl
  rw [run_bytesToString w a l.length cap _ hl, push_bytes]
  simp
theorem run_str_own {P : Program} {w : World} {src dst e : TypeId} (hs : P.underlying src = some (.slice e)) (he : P.underlying e = some (.int .u8)) (hd : P.underlying dst = some .string) {base h cap : Nat} {l : List UInt8}
    (ho : w.ownsRow base e 1 (.slice (some ⟨h, 0, none⟩) l.length cap) l.length (cb l)) : (convert src dst (.slice (some ⟨h, 0, none⟩) l.length cap)).run P w = .ok (.string ⟨l.toArray⟩) w :=
  run_str w src dst e hs he hd _ cap l (ho.cells rfl)

theorem _root_.Go.RowKit.Below.alloc' {B : Nat} {a w : World} (hB : B ≤ w.heap.size) (h : Below B a w) (o : Obj) : Below B a (w.alloc o) := h.alloc hB o
theorem _root_.Go.RowKit.Below.drewN' {B : Nat} {a w : World} (h : Below B a w) (n : Nat) : Below B a (w.drewN n) := ⟨h.os, h.tape, h.output, h.size, h.block⟩
theorem _root_.Go.World.ownsRow.drewN' {w : World} {base : Nat} {e : TypeId} {size : Nat} {v : Value} {n : Nat} {xs : List Value} (h : w.ownsRow base e size v n xs) (k : Nat) : (w.drewN k).ownsRow base e size v n xs := h

theorem cell3 {w : World} {g i : Nat} {v : Value} (hlt : g < w.heap.size) (h : w.cell? ⟨g, i, none⟩ = some v) (o1 o2 o3 : Obj) : (((w.alloc o1).alloc o2).alloc o3).cell? ⟨g, i, none⟩ = some v := by
  rw [World.cell?_alloc_lt _ _ _ (by simp; omega), World.cell?_alloc_lt _ _ _ (by simp; omega), World.cell?_alloc_lt _ _ _ (by simpa using hlt)]; exact h
theorem frozen3 {w : World} {g i : Nat} (hlt : g < w.heap.size) (h : w.frozen? ⟨g, i, none⟩ = false) (o1 o2 o3 : Obj) : (((w.alloc o1).alloc o2).alloc o3).frozen? ⟨g, i, none⟩ = false := by
  rw [(((((Only.refl [] w).alloc o1).alloc o2).alloc o3)).frozen hlt (by simp)]; exact h
theorem ret_str {a b : ByteArray} (h : b = a) : Ending.returned (.string a) = .returned (.string b) := by rw [h]
def strOf : Value → Nat
  | .string y => y.size
  | _ => 0
@[simp] theorem strOf_string (y : ByteArray) : strOf (.string y) = y.size := rfl
theorem ret_bool {a b : Bool} (h : b = a) : Ending.returned (.bool a) = .returned (.bool b) := by rw [h]

end Go.Proofs.YtacikiambpfipaaDoor
namespace Go.Proofs.YtacikiambpfipaaDoor
set_option linter.unusedVariables false
set_option linter.unusedSimpArgs false
open Go.RowKit

/-- A byte out of a number. -/
def ub (n : Int) : UInt8 := UInt8.ofNat n.toNat
theorem ub_toNat (n : Nat) (h : n < 256) : (ub n).toNat = n := by
  simp [ub]; omega
theorem run_str_new {P : Program} {src dst e : TypeId} (hs : P.underlying src = some (.slice e)) (he : P.underlying e = some (.int .u8)) (hd : P.underlying dst = some .string) (w : World) (xs : List Int) (cap : Nat) :
    (convert src dst (.slice (some ⟨w.heap.size, 0, none⟩) xs.length cap)).run P (w.alloc (.cells (xs.map (Value.int .u8)).toArray e)) = .ok (.string ⟨(xs.map ub).toArray⟩) (w.alloc (.cells (xs.map (Value.int .u8)).toArray e)) := by
  rw [run_convert_bytes_string _ src dst e _ xs.length cap hs he hd]
  have hl := run_loadCells_list (P := P) (w := w.alloc (.cells (xs.map (Value.int .u8)).toArray e)) ⟨w.heap.size, 0, none⟩ (xs.map (Value.int .u8)) (by
    intro j v hj
    have := World.news_of_block (heap_alloc_new w (.cells (xs.map (Value.int .u8)).toArray e)) j v (by simpa using hj)
    exact this)
  rw [List.length_map] at hl
  rw [run_bytesToString _ _ _ cap xs hl]
  have h : ∀ (l : List Int) (s : ByteArray), l.foldl (fun r n => r.push (UInt8.ofNat n.toNat)) s = ⟨(s.data.toList ++ l.map ub).toArray⟩ := by
    intro l
    induction l with
    | nil => intro s; cases s; simp
    | cons b t ih =>
      intro s
      rw [List.foldl_cons, ih]
      congr 1
      simp [ByteArray.push, ub]
  rw [h]
  simp
section
variable {P : Program} {src dst e : TypeId} (hs : P.underlying src = some (.slice e)) (he : P.underlying e = some (.int .u8)) (hd : P.underlying dst = some .string)
include hs he hd
theorem run_str1 (w : World) (a : Int) : (convert src dst (.slice (some ⟨w.heap.size, 0, none⟩) 1 1)).run P (w.alloc (.cells #[.int .u8 a] e)) = .ok (.string ⟨#[ub a]⟩) (w.alloc (.cells #[.int .u8 a] e)) := run_str_new hs he hd w [a] 1
theorem run_str2 (w : World) (a b : Int) : (convert src dst (.slice (some ⟨w.heap.size, 0, none⟩) 2 2)).run P (w.alloc (.cells #[.int .u8 a, .int .u8 b] e)) = .ok (.string ⟨#[ub a, ub b]⟩) (w.alloc (.cells #[.int .u8 a, .int .u8 b] e)) := run_str_new hs he hd w [a, b] 2
theorem run_str3 (w : World) (a b c : Int) : (convert src dst (.slice (some ⟨w.heap.size, 0, none⟩) 3 3)).run P (w.alloc (.cells #[.int .u8 a, .int .u8 b, .int .u8 c] e)) = .ok (.string ⟨#[ub a, ub b, ub c]⟩) (w.alloc (.cells #[.int .u8 a, .int .u8 b, .int .u8 c] e)) := run_str_new hs he hd w [a, b, c] 3
theorem run_str1_1 (w : World) (o1 : Obj) (a : Int) : (convert src dst (.slice (some ⟨w.heap.size + 1, 0, none⟩) 1 1)).run P ((w.alloc o1).alloc (.cells #[.int .u8 a] e)) = .ok (.string ⟨#[ub a]⟩) ((w.alloc o1).alloc (.cells #[.int .u8 a] e)) := by
  have := run_str1 hs he hd (w.alloc o1) a
  simp only [World.size_alloc] at this
  exact this
theorem run_str1_2 (w : World) (o1 o2 : Obj) (a : Int) : (convert src dst (.slice (some ⟨w.heap.size + 1 + 1, 0, none⟩) 1 1)).run P (((w.alloc o1).alloc o2).alloc (.cells #[.int .u8 a] e)) = .ok (.string ⟨#[ub a]⟩) (((w.alloc o1).alloc o2).alloc (.cells #[.int .u8 a] e)) := by
  have := run_str1 hs he hd ((w.alloc o1).alloc o2) a
  simp only [World.size_alloc] at this
  exact this
theorem run_str1_3 (w : World) (o1 o2 o3 : Obj) (a : Int) : (convert src dst (.slice (some ⟨w.heap.size + 1 + 1 + 1, 0, none⟩) 1 1)).run P ((((w.alloc o1).alloc o2).alloc o3).alloc (.cells #[.int .u8 a] e)) = .ok (.string ⟨#[ub a]⟩) ((((w.alloc o1).alloc o2).alloc o3).alloc (.cells #[.int .u8 a] e)) := by
  have := run_str1 hs he hd (((w.alloc o1).alloc o2).alloc o3) a
  simp only [World.size_alloc] at this
  exact this
theorem run_str2_1 (w : World) (o1 : Obj) (a b : Int) : (convert src dst (.slice (some ⟨w.heap.size + 1, 0, none⟩) 2 2)).run P ((w.alloc o1).alloc (.cells #[.int .u8 a, .int .u8 b] e)) = .ok (.string ⟨#[ub a, ub b]⟩) ((w.alloc o1).alloc (.cells #[.int .u8 a, .int .u8 b] e)) := by
  have := run_str2 hs he hd (w.alloc o1) a b
  simp only [World.size_alloc] at this
  exact this
theorem run_str2_2 (w : World) (o1 o2 : Obj) (a b : Int) : (convert src dst (.slice (some ⟨w.heap.size + 1 + 1, 0, none⟩) 2 2)).run P (((w.alloc o1).alloc o2).alloc (.cells #[.int .u8 a, .int .u8 b] e)) = .ok (.string ⟨#[ub a, ub b]⟩) (((w.alloc o1).alloc o2).alloc (.cells #[.int .u8 a, .int .u8 b] e)) := by
  have := run_str2 hs he hd ((w.alloc o1).alloc o2) a b
  simp only [World.size_alloc] at this
  exact this
theorem run_str2_3 (w : World) (o1 o2 o3 : Obj) (a b : Int) : (convert src dst (.slice (some ⟨w.heap.size + 1 + 1 + 1, 0, none⟩) 2 2)).run P ((((w.alloc o1).alloc o2).alloc o3).alloc (.cells #[.int .u8 a, .int .u8 b] e)) = .ok (.string ⟨#[ub a, ub b]⟩) ((((w.alloc o1).alloc o2).alloc o3).alloc (.cells #[.int .u8 a, .int .u8 b] e)) := by
  have := run_str2 hs he hd (((w.alloc o1).alloc o2).alloc o3) a b
  simp only [World.size_alloc] at this
  exact this
theorem run_str3_1 (w : World) (o1 : Obj) (a b c : Int) : (convert src dst (.slice (some ⟨w.heap.size + 1, 0, none⟩) 3 3)).run P ((w.alloc o1).alloc (.cells #[.int .u8 a, .int .u8 b, .int .u8 c] e)) = .ok (.string ⟨#[ub a, ub b, ub c]⟩) ((w.alloc o1).alloc (.cells #[.int .u8 a, .int .u8 b, .int .u8 c] e)) := by
  have := run_str3 hs he hd (w.alloc o1) a b c
  simp only [World.size_alloc] at this
  exact this
theorem run_str3_2 (w : World) (o1 o2 : Obj) (a b c : Int) : (convert src dst (.slice (some ⟨w.heap.size + 1 + 1, 0, none⟩) 3 3)).run P (((w.alloc o1).alloc o2).alloc (.cells #[.int .u8 a, .int .u8 b, .int .u8 c] e)) = .ok (.string ⟨#[ub a, ub b, ub c]⟩) (((w.alloc o1).alloc o2).alloc (.cells #[.int .u8 a, .int .u8 b, .int .u8 c] e)) := by
  have := run_str3 hs he hd ((w.alloc o1).alloc o2) a b c
  simp only [World.size_alloc] at this
  exact this
theorem run_str3_3 (w : World) (o1 o2 o3 : Obj) (a b c : Int) : (convert src dst (.slice (some ⟨w.heap.size + 1 + 1 + 1, 0, none⟩) 3 3)).run P ((((w.alloc o1).alloc o2).alloc o3).alloc (.cells #[.int .u8 a, .int .u8 b, .int .u8 c] e)) = .ok (.string ⟨#[ub a, ub b, ub c]⟩) ((((w.alloc o1).alloc o2).alloc o3).alloc (.cells #[.int .u8 a, .int .u8 b, .int .u8 c] e)) := by
  have := run_str3 hs he hd (((w.alloc o1).alloc o2).alloc o3) a b c
  simp only [World.size_alloc] at this
  exact this
end
end Go.Proofs.YtacikiambpfipaaDoor
namespace Go.Proofs.YtacikiambpfipaaDoor
set_option linter.unusedVariables false
set_option linter.unusedSimpArgs false
open Go.RowKit

theorem bw_only (w : World) (e : TypeId) (s : ByteArray) : Only [] w (Lib.bytesWorld w e s) := Only.of_below (Lib.bytesWorld_below w e s) (Nat.le_refl _)
theorem bw_below {B : Nat} {a w : World} (h : Below B a w) (hB : B ≤ w.heap.size) (e : TypeId) (s : ByteArray) : Below B a (Lib.bytesWorld w e s) := h.trans ((Lib.bytesWorld_below w e s).mono hB)
theorem bw_own {w : World} {base : Nat} {t : TypeId} {size : Nat} {v : Value} {n : Nat} {xs : List Value} (h : w.ownsRow base t size v n xs) (e : TypeId) (s : ByteArray) : (Lib.bytesWorld w e s).ownsRow base t size v n xs :=
  (bw_only w e s).own h (by simp)
theorem bw_cells (w : World) (e : TypeId) (s : ByteArray) : ∀ j u, (cb s.data.toList)[j]? = some u → (Lib.bytesWorld w e s).cell? ((⟨w.heap.size, 0, none⟩ : Addr).add j) = some u := by
  intro j u hu
  have hj : j < s.size := by
    have := (List.getElem?_eq_some_iff.1 hu).1
    rw [cb_length] at this; simpa using this
  have e1 : (⟨w.heap.size, 0, none⟩ : Addr).add j = ⟨w.heap.size, j, none⟩ := by
    unfold Addr.add; split <;> simp_all
  rw [e1, Lib.bytesWorld_cell w e s j hj, ← hu, cb_at, List.getElem?_eq_getElem (by simpa using hj)]
  simp [List.getD, List.getElem?_eq_getElem (show j < s.data.toList.length by simpa using hj)]
theorem own_some {w : World} {base : Nat} {e : TypeId} {size n cap : Nat} {A : Option Addr} {xs : List Value} (ho : w.ownsRow base e size (.slice A n cap) n xs) (hn : 0 < n) : ∃ h, A = some ⟨h, 0, none⟩ := by
  obtain ⟨h, c, hv, _⟩ := ho.form hn
  injection hv with hv
  exact ⟨h, hv⟩
theorem own_byte {w : World} {base : Nat} {e : TypeId} {h cap j : Nat} {l : List UInt8} (ho : w.ownsRow base e 1 (.slice (some ⟨h, 0, none⟩) l.length cap) l.length (cb l)) (hj : j < l.length) : w.cell? ⟨h, j, none⟩ = some (.int .u8 (l.getD j 0).toNat) := by
  rw [ho.cellAt j (by omega), cb_at, List.getElem?_eq_getElem hj, List.getD_eq_getElem?_getD, List.getElem?_eq_getElem hj]; rfl
/-- string(b) of bytes that a value owns, nil or not. -/
theorem run_str_any {P : Program} {w : World} {src dst e : TypeId} (hs : P.underlying src = some (.slice e)) (he : P.underlying e = some (.int .u8)) (hd : P.underlying dst = some .string) {base cap : Nat} {A : Option Addr} {l : List UInt8}
    (ho : w.ownsRow base e 1 (.slice A l.length cap) l.length (cb l)) : (convert src dst (.slice A l.length cap)).run P w = .ok (.string ⟨l.toArray⟩) w := by
  rcases ho.2 with ⟨h1, h2⟩ | ⟨g', cap', cur, hv, _⟩
  · injection h1 with h1 h3 h4
    subst h1
    have hl : l = [] := List.eq_nil_of_length_eq_zero h2
    subst hl
    subst h4
    rw [run_convert_bytes_string w src dst e none _ 0 hs he hd]
    rfl
  · injection hv with hv
    subst hv
    exact run_str_own hs he hd ho
end Go.Proofs.YtacikiambpfipaaDoor
