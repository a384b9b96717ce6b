/- Types as plain data, and what is told of them. No program in sight. -/
import Derived.Test.YtacikiambpfipaaDoorKA1
namespace Go.Proofs.YtacikiambpfipaaDoor
set_option linter.unusedVariables false
set_option linter.unusedSimpArgs false

/-- A type: kind, size, the types within, the tail. -/
inductive Ty where
  | mk : Int → Int → List Ty → Int → Ty

def Ty.kind : Ty → Int | .mk k _ _ _ => k
def Ty.size : Ty → Int | .mk _ s _ _ => s
def Ty.sub : Ty → List Ty | .mk _ _ l _ => l
def Ty.tail : Ty → Int | .mk _ _ _ t => t
@[simp] theorem Ty.kind_mk (k s : Int) (l : List Ty) (t : Int) : (Ty.mk k s l t).kind = k := rfl
@[simp] theorem Ty.size_mk (k s : Int) (l : List Ty) (t : Int) : (Ty.mk k s l t).size = s := rfl
@[simp] theorem Ty.sub_mk (k s : Int) (l : List Ty) (t : Int) : (Ty.mk k s l t).sub = l := rfl
@[simp] theorem Ty.tail_mk (k s : Int) (l : List Ty) (t : Int) : (Ty.mk k s l t).tail = t := rfl

mutual
def Ty.count : Ty → Nat
  | .mk _ _ l _ => 1 + countT l
def countT : List Ty → Nat
  | [] => 0
  | x :: xs => x.count + countT xs
end
mutual
def Ty.deep : Ty → Nat
  | .mk _ _ l _ => deepT l + 1
def deepT : List Ty → Nat
  | [] => 0
  | x :: xs => max x.deep (deepT xs)
end
/-- Is one type, those within it apart, right by its kind? -/
def tyOk (k s : Int) (n : Nat) (t : Int) : Bool :=
  if k = 1 then decide ((s = 1 ∨ s = 2 ∨ s = 4 ∨ s = 8) ∧ n = 0 ∧ t = 0)
  else if k = 2 then decide (1 ≤ s ∧ s ≤ 65536 ∧ n = 0 ∧ t = 0)
  else if k = 3 then decide (0 ≤ s ∧ s ≤ 65536 ∧ n = 0 ∧ t = 0)
  else if k = 4 then decide (0 ≤ s ∧ s ≤ 1024 ∧ n = 1 ∧ t = 0)
  else if k = 5 then decide (s = 0 ∧ n ≤ 16 ∧ 0 ≤ t ∧ t ≤ n)
  else false
mutual
def Ty.right : Ty → Bool
  | .mk k s l t => tyOk k s l.length t && rightT l
def rightT : List Ty → Bool
  | [] => true
  | x :: xs => x.right && rightT xs
end
def Ty.may (t : Ty) : Bool := decide (t.count ≤ 64) && decide (t.deep ≤ 8) && t.right
theorem Ty.ind {P : Ty → Prop} (h : ∀ k s l t, (∀ x ∈ l, P x) → P (.mk k s l t)) : ∀ x, P x := by
  intro x
  exact Ty.rec (motive_1 := P) (motive_2 := fun s => ∀ x ∈ s, P x) (fun k s l t ih => h k s l t ih) (by simp) (fun x xs hx hxs => by
    intro y hy
    rcases List.mem_cons.1 hy with rfl | hy
    · exact hx
    · exact hxs y hy) x
theorem take_succ_ty (s : List Ty) (k : Nat) (h : k < s.length) : s.take (k + 1) = s.take k ++ [s[k]] := List.take_succ_eq_append_getElem h
theorem countT_append (a b : List Ty) : countT (a ++ b) = countT a + countT b := by
  induction a with
  | nil => simp [countT]
  | cons x xs ih => simp [countT, ih, Nat.add_assoc]
theorem deepT_append (a b : List Ty) : deepT (a ++ b) = max (deepT a) (deepT b) := by
  induction a with
  | nil => simp [deepT]
  | cons x xs ih => simp only [List.cons_append, deepT, ih]; omega
theorem rightT_append (a b : List Ty) : rightT (a ++ b) = (rightT a && rightT b) := by
  induction a with
  | nil => simp [rightT]
  | cons x xs ih => simp [rightT, ih, Bool.and_assoc]
theorem countT_pos (x : Ty) : 1 ≤ x.count := by cases x; simp [Ty.count]
theorem deepT_pos (x : Ty) : 1 ≤ x.deep := by cases x; simp [Ty.deep]
theorem countT_take (s : List Ty) (k : Nat) (h : k < s.length) : countT (s.take (k + 1)) = countT (s.take k) + s[k].count := by
  rw [take_succ_ty s k h, countT_append]; simp [countT]
theorem countT_take_le (s : List Ty) (k : Nat) : countT (s.take k) ≤ countT s := by
  have := countT_append (s.take k) (s.drop k)
  rw [List.take_append_drop] at this
  omega
theorem deepT_take (s : List Ty) (k : Nat) (h : k < s.length) : deepT (s.take (k + 1)) = max (deepT (s.take k)) s[k].deep := by
  rw [take_succ_ty s k h, deepT_append]; simp [deepT]
theorem deepT_take_le (s : List Ty) (k : Nat) : deepT (s.take k) ≤ deepT s := by
  have := deepT_append (s.take k) (s.drop k)
  rw [List.take_append_drop] at this
  omega
theorem rightT_take (s : List Ty) (k : Nat) (h : k < s.length) : rightT (s.take (k + 1)) = (rightT (s.take k) && s[k].right) := by
  rw [take_succ_ty s k h, rightT_append]; simp [rightT]
theorem rightT_false (s : List Ty) (k : Nat) (h : k < s.length) (hf : s[k].right = false) : rightT s = false := by
  have h1 := rightT_append (s.take (k + 1)) (s.drop (k + 1))
  rw [List.take_append_drop, rightT_take s k h, hf] at h1
  simpa using h1
theorem rightT_at {s : List Ty} (h : rightT s = true) (k : Nat) (hk : k < s.length) : s[k].right = true := by
  cases hr : s[k].right with
  | true => rfl
  | false => rw [rightT_false s k hk hr] at h; cases h
theorem count_at {s : List Ty} (k : Nat) (hk : k < s.length) : s[k].count ≤ countT s := by
  have := countT_take s k hk
  have := countT_take_le s (k + 1)
  omega
theorem deep_at {s : List Ty} (k : Nat) (hk : k < s.length) : s[k].deep ≤ deepT s := by
  have := deepT_take s k hk
  have := deepT_take_le s (k + 1)
  omega
theorem length_le_countT (s : List Ty) : s.length ≤ countT s := by
  induction s with
  | nil => simp [countT]
  | cons x xs ih => have := countT_pos x; simp [countT]; omega
theorem deepT_le (s : List Ty) (h : ∀ x ∈ s, x.deep ≤ x.count) : deepT s ≤ countT s := by
  induction s with
  | nil => simp [deepT]
  | cons x xs ih =>
    have h1 := h x (by simp)
    have h2 := ih (fun y hy => h y (by simp [hy]))
    simp only [deepT, countT]; omega
theorem tyDeep_le (x : Ty) : x.deep ≤ x.count := by
  induction x using Ty.ind with
  | h k s l t ih => simp only [Ty.deep, Ty.count]; have := deepT_le l ih; omega

mutual
/-- Of so many types that may be looked at, how many are left behind one; 0: none. -/
def Ty.room : Ty → Int → Int
  | .mk _ _ l _, left => max (roomT l (left - 1)) 0
def roomT : List Ty → Int → Int
  | [], left => left
  | x :: xs, left => if left ≤ 0 then left else roomT xs (x.room left)
end
theorem roomT_append (a b : List Ty) (left : Int) : roomT (a ++ b) left = roomT b (roomT a left) := by
  induction a generalizing left with
  | nil => simp [roomT]
  | cons x xs ih =>
    by_cases h : left ≤ 0
    · simp only [List.cons_append, roomT, if_pos h]
      cases b with
      | nil => simp [roomT]
      | cons y ys => simp [roomT, h]
    · simp only [List.cons_append, roomT, if_neg h, ih]
theorem roomT_stop (s : List Ty) (m : Int) (h : m ≤ 0) : roomT s m = m := by
  cases s with
  | nil => rfl
  | cons x xs => simp [roomT, h]
theorem roomT_take (s : List Ty) (k : Nat) (h : k < s.length) (left : Int) (hp : 0 < roomT (s.take k) left) : roomT (s.take (k + 1)) left = s[k].room (roomT (s.take k) left) := by
  rw [take_succ_ty s k h, roomT_append]; simp [roomT, show ¬ roomT (s.take k) left ≤ 0 from by omega]
theorem roomT_end (s : List Ty) (k : Nat) (left : Int) (hp : roomT (s.take k) left ≤ 0 ∨ s.length ≤ k) : roomT s left = roomT (s.take k) left := by
  rcases hp with hp | hp
  · have h1 := roomT_append (s.take k) (s.drop k) left
    rw [List.take_append_drop, roomT_stop _ _ hp] at h1
    exact h1
  · rw [List.take_of_length_le hp]
theorem roomT_bd (s : List Ty) (ih : ∀ x ∈ s, ∀ m : Int, 0 < m → 0 ≤ x.room m ∧ x.room m < m) : ∀ m : Int, 0 ≤ m → 0 ≤ roomT s m ∧ roomT s m ≤ m := by
  induction s with
  | nil => intro m hm; simp only [roomT]; omega
  | cons x xs hxs =>
    intro m hm
    by_cases h : m ≤ 0
    · simp only [roomT, if_pos h]; omega
    · have h1 := ih x (by simp) m (by omega)
      have h2 := hxs (fun y hy => ih y (by simp [hy])) (x.room m) h1.1
      simp only [roomT, if_neg h]; omega
theorem roomTy_bd (x : Ty) : ∀ m : Int, 0 < m → 0 ≤ x.room m ∧ x.room m < m := by
  induction x using Ty.ind with
  | h k s l t ih =>
    intro m hm
    have := roomT_bd l ih (m - 1) (by omega)
    simp only [Ty.room]; omega
theorem roomT_count (s : List Ty) (ih : ∀ x ∈ s, ∀ m : Int, 0 < x.room m → x.room m = m - x.count) : ∀ m : Int, 0 < roomT s m → roomT s m = m - countT s := by
  induction s with
  | nil => intro m _; simp [roomT, countT]
  | cons x xs hxs =>
    intro m hm
    by_cases h : m ≤ 0
    · simp only [roomT, if_pos h] at hm; omega
    · simp only [roomT, if_neg h] at hm ⊢
      have h2 := hxs (fun y hy => ih y (by simp [hy])) (x.room m) hm
      by_cases h3 : 0 < x.room m
      · have h1 := ih x (by simp) m h3
        simp only [countT]; omega
      · rw [roomT_stop _ _ (by omega)] at hm; omega
theorem roomTy_count (x : Ty) : ∀ m : Int, 0 < x.room m → x.room m = m - x.count := by
  induction x using Ty.ind with
  | h k s l t ih =>
    intro m hm
    simp only [Ty.room, Ty.count] at hm ⊢
    have := roomT_count l ih (m - 1) (by omega)
    omega
/-- More than statements look at? -/
def Ty.great (x : Ty) : Bool := decide (x.room 100 = 0)
theorem greatTy_count (x : Ty) (h : x.great = false) : x.count < 100 := by
  simp only [Ty.great, decide_eq_false_iff_not] at h
  have h1 := roomTy_bd x 100 (by omega)
  have h2 := roomTy_count x 100 (by omega)
  omega

/-! The program's walk over a type: so deep, with so many left. -/
mutual
def Ty.vis : Ty → Nat → Nat → Bool × Nat
  | .mk k s l t, lv, c => if 8 < lv ∨ c = 0 ∨ tyOk k s l.length t = false then (false, c) else visT l (lv + 1) (c - 1)
def visT : List Ty → Nat → Nat → Bool × Nat
  | [], _, c => (true, c)
  | x :: xs, lv, c => match x.vis lv c with
    | (true, c') => visT xs lv c'
    | (false, c') => (false, c')
end
theorem visT_append (a b : List Ty) (lv c : Nat) : visT (a ++ b) lv c = match visT a lv c with
    | (true, c') => visT b lv c'
    | (false, c') => (false, c') := by
  induction a generalizing c with
  | nil => simp [visT]
  | cons x xs ih =>
    simp only [List.cons_append, visT]
    rcases x.vis lv c with ⟨r, c'⟩
    cases r with
    | true => simp only [ih]
    | false => rfl
theorem visT_take {s : List Ty} {k lv c c' : Nat} (h : k < s.length) (hv : visT (s.take k) lv c = (true, c')) : visT (s.take (k + 1)) lv c = s[k].vis lv c' := by
  rw [take_succ_ty s k h, visT_append, hv]
  simp only [visT]
  rcases s[k].vis lv c' with ⟨r, d⟩
  cases r <;> rfl
theorem visT_stop {s : List Ty} {k lv c c' d : Nat} (h : k < s.length) (hv : visT (s.take k) lv c = (true, c')) (hf : s[k].vis lv c' = (false, d)) : visT s lv c = (false, d) := by
  have h1 := visT_append (s.take (k + 1)) (s.drop (k + 1)) lv c
  rw [List.take_append_drop, visT_take h hv, hf] at h1
  exact h1
/-- What the walk tells: all within is right, not too deep, not too many. -/
def VisIs (r : Bool × Nat) (rt : Bool) (lv d n c : Nat) : Prop := (r.1 = true ↔ rt = true ∧ lv + d ≤ 9 ∧ n ≤ c) ∧ (r.1 = true → r.2 + n = c) ∧ r.2 ≤ c
theorem visT_is (s : List Ty) (ih : ∀ x ∈ s, ∀ lv c, lv ≤ 9 → VisIs (x.vis lv c) x.right lv x.deep x.count c) : ∀ lv c, lv ≤ 9 → VisIs (visT s lv c) (rightT s) lv (deepT s) (countT s) c := by
  induction s with
  | nil => intro lv c h; simp [VisIs, visT, rightT, deepT, countT, h]
  | cons x xs hxs =>
    intro lv c hlv
    have h1 := ih x (by simp) lv c hlv
    rcases hv : x.vis lv c with ⟨r, c'⟩
    rw [hv] at h1
    obtain ⟨h1, h2, h3⟩ := h1
    simp only at h1 h2 h3
    have hp := countT_pos x
    unfold VisIs
    simp only [visT, hv, rightT, deepT, countT, Bool.and_eq_true]
    cases r with
    | true =>
      have h2 := h2 rfl
      obtain ⟨h4, h5, h6⟩ := hxs (fun y hy => ih y (by simp [hy])) lv c' hlv
      have h1 := h1.1 rfl
      refine ⟨?_, fun hh => by have := h5 hh; simp only; omega, by simp only; omega⟩
      simp only [h4]
      constructor
      · rintro ⟨a, b, d⟩; exact ⟨⟨h1.1, a⟩, by omega, by omega⟩
      · rintro ⟨a, b, d⟩; exact ⟨a.2, by omega, by omega⟩
    | false =>
      refine ⟨?_, by simp, h3⟩
      constructor
      · intro h; cases h
      · rintro ⟨a, b, d⟩; exact h1.2 ⟨a.1, by omega, by omega⟩
theorem tyVis_is (x : Ty) : ∀ lv c, lv ≤ 9 → VisIs (x.vis lv c) x.right lv x.deep x.count c := by
  induction x using Ty.ind with
  | h k s l t ih =>
    intro lv c hlv
    unfold VisIs
    simp only [Ty.vis, Ty.right, Ty.deep, Ty.count, Bool.and_eq_true]
    by_cases h1 : 8 < lv ∨ c = 0 ∨ tyOk k s l.length t = false
    · simp only [if_pos h1]
      refine ⟨?_, by simp, Nat.le_refl _⟩
      constructor
      · intro h; cases h
      · rintro ⟨⟨a, _⟩, b, d⟩
        rcases h1 with h1 | h1 | h1
        · omega
        · omega
        · rw [h1] at a; cases a
    · simp only [if_neg h1]
      have h2 : lv ≤ 8 ∧ 0 < c ∧ tyOk k s l.length t = true := by
        refine ⟨by omega, by omega, ?_⟩
        cases h : tyOk k s l.length t with
        | true => rfl
        | false => exact absurd (.inr (.inr h)) h1
      obtain ⟨h3, h4, h5⟩ := visT_is l ih (lv + 1) (c - 1) (by omega)
      refine ⟨?_, fun hh => by have := h4 hh; omega, by omega⟩
      rw [h3]
      constructor
      · rintro ⟨a, b, d⟩; exact ⟨⟨h2.2.2, a⟩, by omega, by omega⟩
      · rintro ⟨a, b, d⟩; exact ⟨a.2, by omega, by omega⟩
theorem tyVis_may (x : Ty) : (x.vis 1 64).1 = x.may := by
  have h := (tyVis_is x 1 64 (by omega)).1
  rw [Bool.eq_iff_iff, h]
  simp only [Ty.may, Bool.and_eq_true, decide_eq_true_eq]
  constructor
  · rintro ⟨a, b, c⟩; exact ⟨⟨by omega, by omega⟩, a⟩
  · rintro ⟨⟨a, b⟩, c⟩; exact ⟨c, by omega, by omega⟩
theorem visT_le (s : List Ty) (lv c : Nat) (h : lv ≤ 9) : (visT s lv c).2 ≤ c := (visT_is s (fun x _ => tyVis_is x) lv c h).2.2
end Go.Proofs.YtacikiambpfipaaDoor
