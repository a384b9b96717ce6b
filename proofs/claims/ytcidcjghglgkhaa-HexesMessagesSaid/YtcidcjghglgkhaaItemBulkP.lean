/- How long a line is. No program in sight. -/
import Derived.Test.YtcidcjghglgkhaaItemShowP
namespace Go.Proofs.Ytcidcjghglgkhaa
set_option linter.unusedVariables false
set_option linter.unusedSimpArgs false

mutual
/-- How many bytes the texts have. -/
def It.total : It → Nat
  | .mk t _ s => t.size + totalL s
def totalL : List It → Nat
  | [] => 0
  | x :: xs => x.total + totalL xs
end
theorem bulkL_total (s : List It) (ih : ∀ x ∈ s, x.bulk = min x.total 10000) : ∀ n, n ≤ 10000 → bulkL s n = min (n + totalL s) 10000 := by
  induction s with
  | nil => intro n hn; simp [bulkL, totalL]; omega
  | cons x xs hxs =>
    intro n hn
    have h1 := ih x (by simp)
    simp only [bulkL, totalL]
    rw [hxs (fun y hy => ih y (by simp [hy])) _ (by omega), h1]
    omega
theorem bulk_total (x : It) : x.bulk = min x.total 10000 := by
  induction x using It.ind with
  | h t l s ih =>
    simp only [It.bulk, It.total]
    rw [bulkL_total s ih _ (by omega)]
    omega
theorem showL_total (s : List It) (ih : ∀ x ∈ s, x.show.length + 1 ≤ 2 * x.total + 3 * x.count) : ∀ f, (showL f s).length ≤ 2 * totalL s + 3 * countL s := by
  induction s with
  | nil => intro f; simp [showL]
  | cons x xs hxs =>
    intro f
    have h1 := ih x (by simp)
    have h2 := hxs (fun y hy => ih y (by simp [hy])) false
    simp only [showL, totalL, countL, List.length_append]
    cases f <;> simp <;> omega
theorem show_total (x : It) : x.show.length + 1 ≤ 2 * x.total + 3 * x.count := by
  induction x using It.ind with
  | h t l s ih =>
    have h1 := showL_total s ih true
    simp only [It.show, It.total, It.count]
    cases l with
    | true => simp; omega
    | false =>
      by_cases h : t.size = 0
      · simp [h]; omega
      · simp [h, hxL_length]; omega
theorem great_show (x : It) (h : x.great = false) : x.show.length ≤ 20000 := by
  have h1 := great_count x h
  have h2 := show_total x
  have h3 := bulk_total x
  simp only [It.great, Bool.or_eq_false_iff, decide_eq_false_iff_not] at h
  omega
end Go.Proofs.Ytcidcjghglgkhaa
