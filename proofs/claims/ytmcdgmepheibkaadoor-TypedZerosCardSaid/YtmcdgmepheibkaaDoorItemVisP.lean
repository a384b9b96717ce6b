/- How the program goes through an item: up to the first one that isn't right, or is above the limits. No program in sight. -/
import Derived.Test.YtmcdgmepheibkaaDoorItemP
namespace Go.Proofs.YtmcdgmepheibkaaDoor
set_option linter.unusedVariables false
set_option linter.unusedSimpArgs false

mutual
/-- At a level, so many items so far, so deep so far: whether it comes to the end, how many, how deep. -/
def It.vis : It → Nat → Nat → Nat → Bool × Nat × Nat
  | .mk t l s, lv, c, d => if 16 < lv ∨ c = 1024 ∨ formed t l s.length = false then (false, c, d) else visL s (lv + 1) (c + 1) (max d lv)
def visL : List It → Nat → Nat → Nat → Bool × Nat × Nat
  | [], _, c, d => (true, c, d)
  | x :: xs, lv, c, d => if (x.vis lv c d).1 then visL xs lv (x.vis lv c d).2.1 (x.vis lv c d).2.2 else (false, (x.vis lv c d).2.1, (x.vis lv c d).2.2)
end
theorem visL_append (a b : List It) (lv c d : Nat) : visL (a ++ b) lv c d = if (visL a lv c d).1 then visL b lv (visL a lv c d).2.1 (visL a lv c d).2.2 else (false, (visL a lv c d).2.1, (visL a lv c d).2.2) := by
  induction a generalizing c d with
  | nil => simp [visL]
  | cons x xs ih =>
    by_cases h : (x.vis lv c d).1 = true
    · simp only [List.cons_append, visL, h, if_true, ih]
    · simp [visL, h]
theorem visL_take {s : List It} {k lv c d c1 d1 : Nat} (h : k < s.length) (ht : visL (s.take k) lv c d = (true, c1, d1)) : visL (s.take (k + 1)) lv c d = s[k].vis lv c1 d1 := by
  rw [take_succ_it s k h, visL_append, ht]
  simp only [if_true, visL]
  by_cases h2 : (s[k].vis lv c1 d1).1 = true
  · rw [if_pos h2, ← h2]
  · rw [if_neg h2]
    simp only [Bool.not_eq_true] at h2
    rw [← h2]
theorem visL_stop {s : List It} {k lv c d c1 d1 c2 d2 : Nat} (h : k < s.length) (ht : visL (s.take k) lv c d = (true, c1, d1)) (hf : s[k].vis lv c1 d1 = (false, c2, d2)) : visL s lv c d = (false, c2, d2) := by
  have h1 := visL_append (s.take (k + 1)) (s.drop (k + 1)) lv c d
  rw [List.take_append_drop, visL_take h ht, hf] at h1
  simpa using h1
/-- What it comes to. -/
def IVisIs (x : It) : Prop := ∀ lv c d, 1 ≤ lv → c ≤ 1024 → (((x.vis lv c d).1 = true ↔ x.right = true ∧ lv + x.deep ≤ 17 ∧ c + x.count ≤ 1024) ∧ ((x.vis lv c d).1 = true → (x.vis lv c d).2 = (c + x.count, max d (lv - 1 + x.deep))) ∧ (x.vis lv c d).2.1 ≤ 1024 ∧ (x.vis lv c d).2.2 ≤ max d 16)
theorem visL_is (s : List It) (ih : ∀ x ∈ s, IVisIs x) : ∀ lv c d, 1 ≤ lv → c ≤ 1024 → (((visL s lv c d).1 = true ↔ rightL s = true ∧ (s = [] ∨ lv + deepL s ≤ 17) ∧ c + countL s ≤ 1024) ∧ ((visL s lv c d).1 = true → (visL s lv c d).2 = (c + countL s, if s = [] then d else max d (lv - 1 + deepL s))) ∧ (visL s lv c d).2.1 ≤ 1024 ∧ (visL s lv c d).2.2 ≤ max d 16) := by
  induction s with
  | nil => intro lv c d hl hc; simp [visL, rightL, countL, hc]; omega
  | cons x xs hxs =>
    intro lv c d hl hc
    obtain ⟨h1, h2, h3, h4⟩ := ih x (by simp) lv c d hl hc
    by_cases hv : (x.vis lv c d).1 = true
    · have h5 := h2 hv
      have h6 := h1.1 hv
      obtain ⟨g1, g2, g3, g4⟩ := hxs (fun y hy => ih y (by simp [hy])) lv (c + x.count) (max d (lv - 1 + x.deep)) hl h6.2.2
      simp only [visL, hv, if_true, h5]
      simp only [rightL, countL, deepL, Bool.and_eq_true, h6.1, true_and]
      refine ⟨?_, ?_, g3, by omega⟩
      · rw [g1]
        constructor
        · rintro ⟨a, b, e⟩
          refine ⟨a, .inr ?_, by omega⟩
          rcases b with rfl | b
          · simp [deepL]; omega
          · omega
        · rintro ⟨a, b, e⟩
          refine ⟨a, ?_, by omega⟩
          rcases b with b | b
          · cases b
          · exact .inr (by omega)
      · intro hh
        rw [g2 hh]
        by_cases hn : xs = []
        · subst hn; simp [deepL, countL]
        · simp only [hn, if_false]
          simp; omega
    · simp only [visL, hv]
      refine ⟨?_, by simp, by simpa using h3, by simpa using h4⟩
      simp only [Bool.false_eq_true, if_false, false_iff]
      rintro ⟨a, b, e⟩
      simp only [rightL, countL, deepL, Bool.and_eq_true] at a b e
      exact hv (h1.2 ⟨a.1, by rcases b with b | b; cases b; omega, by omega⟩)
theorem vis_is (x : It) : IVisIs x := by
  induction x using It.ind with
  | h t l s ih =>
    intro lv c d hl hc
    by_cases hbad : 16 < lv ∨ c = 1024 ∨ formed t l s.length = false
    · simp only [It.vis, if_pos hbad, It.right, It.deep, It.count]
      refine ⟨?_, by simp, hc, by omega⟩
      simp only [Bool.false_eq_true, false_iff, Bool.and_eq_true]
      rintro ⟨⟨a, _⟩, b, e⟩
      rcases hbad with h | h | h
      · omega
      · omega
      · rw [h] at a; cases a
    · obtain ⟨n1, n2, n3⟩ : ¬ 16 < lv ∧ ¬ c = 1024 ∧ ¬ formed t l s.length = false := by
        refine ⟨fun h => hbad (.inl h), fun h => hbad (.inr (.inl h)), fun h => hbad (.inr (.inr h))⟩
      obtain ⟨g1, g2, g3, g4⟩ := visL_is s ih (lv + 1) (c + 1) (max d lv) (by omega) (by omega)
      simp only [It.vis, if_neg hbad, It.right, It.deep, It.count]
      simp only [Bool.not_eq_false] at n3
      refine ⟨?_, ?_, g3, by omega⟩
      · rw [g1, n3]
        simp only [Bool.true_and]
        constructor
        · rintro ⟨a, b, e⟩
          refine ⟨a, ?_, by omega⟩
          rcases b with rfl | b
          · simp [deepL]; omega
          · omega
        · rintro ⟨a, b, e⟩
          exact ⟨a, .inr (by omega), by omega⟩
      · intro hh
        rw [g2 hh]
        by_cases hn : s = []
        · subst hn; simp [deepL, countL]; omega
        · simp only [hn, if_false]
          simp; omega
/-- Whether an item may be, as the program asks it. -/
theorem vis_may (x : It) : (x.vis 1 0 0).1 = x.may := by
  have h := (vis_is x 1 0 0 (by omega) (by omega)).1
  rw [Bool.eq_iff_iff, h]
  simp only [It.may, Bool.and_eq_true, decide_eq_true_eq, Nat.zero_add]
  constructor
  · rintro ⟨a, b, c⟩; exact ⟨⟨a, by omega⟩, c⟩
  · rintro ⟨⟨a, b⟩, c⟩; exact ⟨a, by omega, c⟩
end Go.Proofs.YtmcdgmepheibkaaDoor
