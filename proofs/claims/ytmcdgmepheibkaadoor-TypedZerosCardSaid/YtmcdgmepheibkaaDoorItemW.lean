/- Items in memory: three cells (the text, whether it is a list, the slice of the items within). Own text; no program in sight but the type's number. -/
import Derived.Test.YtmcdgmepheibkaaDoorWords
import Derived.Test.YtmcdgmepheibkaaDoorItemP
namespace Go.Proofs.YtmcdgmepheibkaaDoor
set_option linter.unusedVariables false
set_option linter.unusedSimpArgs false
open Go.RowKit

theorem lt_of_cell {w : World} {b o : Nat} {v : Value} (h : w.cell? ⟨b, o, none⟩ = some v) : b < w.heap.size := by
  rcases Nat.lt_or_ge b w.heap.size with h' | h'
  · exact h'
  · simp [World.cell?, Array.getElem?_eq_none h'] at h

mutual
/-- The three cells are the item x, whose lists lie below block B. -/
def ItIn (w : World) (B : Nat) : It → Value → Value → Value → Prop
  | .mk t l s, c0, c1, c2 => c0 = .string t ∧ c1 = .bool l ∧ t.size ≤ 9223372036854775807 ∧ s.length ≤ 9223372036854775807 ∧ ∃ A cap, c2 = .slice A s.length cap ∧ s.length ≤ cap ∧ cap ≤ 9223372036854775807 ∧ ItsIn w B s A 0
/-- From place i on the slice at A holds these items. -/
def ItsIn (w : World) (B : Nat) : List It → Option Addr → Nat → Prop
  | [], _, _ => True
  | x :: xs, A, i => (∃ b o c0 c1 c2, A = some ⟨b, o, none⟩ ∧ b < B ∧ w.cell? ⟨b, o + i * 3, none⟩ = some c0 ∧ w.cell? ⟨b, o + i * 3 + 1, none⟩ = some c1 ∧ w.cell? ⟨b, o + i * 3 + 2, none⟩ = some c2 ∧ ItIn w B x c0 c1 c2) ∧ ItsIn w B xs A (i + 1)
end
theorem ItsIn.at_ {w : World} {B : Nat} {A : Option Addr} : ∀ {s : List It} {i : Nat}, ItsIn w B s A i → ∀ (j : Nat) (h : j < s.length), ∃ b o c0 c1 c2, A = some ⟨b, o, none⟩ ∧ b < B ∧ w.cell? ⟨b, o + (i + j) * 3, none⟩ = some c0 ∧ w.cell? ⟨b, o + (i + j) * 3 + 1, none⟩ = some c1 ∧ w.cell? ⟨b, o + (i + j) * 3 + 2, none⟩ = some c2 ∧ ItIn w B s[j] c0 c1 c2
  | [], _, _, j, h => by simp at h
  | x :: xs, i, hi, 0, _ => by simpa [ItsIn] using hi.1
  | x :: xs, i, hi, j + 1, h => by
    have := ItsIn.at_ hi.2 j (by simpa using h)
    rw [show i + 1 + j = i + (j + 1) from by omega] at this
    simpa using this
theorem ItsIn.mk_ {w : World} {B : Nat} {A : Option Addr} : ∀ {s : List It} {i : Nat}, (∀ (j : Nat) (h : j < s.length), ∃ b o c0 c1 c2, A = some ⟨b, o, none⟩ ∧ b < B ∧ w.cell? ⟨b, o + (i + j) * 3, none⟩ = some c0 ∧ w.cell? ⟨b, o + (i + j) * 3 + 1, none⟩ = some c1 ∧ w.cell? ⟨b, o + (i + j) * 3 + 2, none⟩ = some c2 ∧ ItIn w B s[j] c0 c1 c2) → ItsIn w B s A i
  | [], _, _ => by simp [ItsIn]
  | x :: xs, i, h => by
    refine ⟨h 0 (Nat.zero_lt_succ _), ItsIn.mk_ fun j hj => ?_⟩
    have := h (j + 1) (by simpa using hj)
    rw [show i + (j + 1) = i + 1 + j from by omega] at this
    simpa using this
/-- What the three cells of an item look like, and how to come to the items within. -/
theorem ItIn.open_ {w : World} {B : Nat} {x : It} {c0 c1 c2 : Value} (h : ItIn w B x c0 c1 c2) : ∃ A cap, c0 = .string x.text ∧ c1 = .bool x.list ∧ c2 = .slice A x.sub.length cap ∧ x.text.size ≤ 9223372036854775807 ∧ x.sub.length ≤ cap ∧ cap ≤ 9223372036854775807 ∧ ItsIn w B x.sub A 0 := by
  cases x with
  | mk t l s =>
    obtain ⟨h0, h1, ht, hs, A, cap, h2, hc, hm, h3⟩ := h
    exact ⟨A, cap, h0, h1, h2, ht, hc, hm, h3⟩
theorem ItIn.keep {w w' : World} {B B' : Nat} (hB : B ≤ B') (hk : ∀ p : Addr, p.block < B → w'.cell? p = w.cell? p) : ∀ (x : It) {c0 c1 c2 : Value}, ItIn w B x c0 c1 c2 → ItIn w' B' x c0 c1 c2 := by
  intro x
  induction x using It.ind with
  | h t l s ih =>
    intro c0 c1 c2 h
    obtain ⟨h0, h1, ht, hs, A, cap, h2, hc, hm, h3⟩ := h
    refine ⟨h0, h1, ht, hs, A, cap, h2, hc, hm, ItsIn.mk_ fun j hj => ?_⟩
    obtain ⟨b, o, d0, d1, d2, hA, hb, e0, e1, e2, hi⟩ := h3.at_ j hj
    exact ⟨b, o, d0, d1, d2, hA, by omega, (hk _ hb).trans e0, (hk _ hb).trans e1, (hk _ hb).trans e2, ih _ (List.getElem_mem hj) hi⟩
theorem ItIn.below {w w' : World} {B : Nat} {x : It} {c0 c1 c2 : Value} (h : ItIn w B x c0 c1 c2) (hb : Below B w w') : ItIn w' B x c0 c1 c2 := ItIn.keep (Nat.le_refl _) (fun _ hp => hb.cell hp) x h
theorem ItIn.mono {w : World} {B B' : Nat} {x : It} {c0 c1 c2 : Value} (h : ItIn w B x c0 c1 c2) (hB : B ≤ B') : ItIn w B' x c0 c1 c2 := ItIn.keep hB (fun _ _ => rfl) x h
theorem ItsIn.below {w w' : World} {B i : Nat} {s : List It} {A : Option Addr} (h : ItsIn w B s A i) (hb : Below B w w') : ItsIn w' B s A i := ItsIn.mk_ fun j hj => by
  obtain ⟨b, o, d0, d1, d2, hA, hlt, e0, e1, e2, hi⟩ := h.at_ j hj
  exact ⟨b, o, d0, d1, d2, hA, hlt, (hb.cell hlt).trans e0, (hb.cell hlt).trans e1, (hb.cell hlt).trans e2, hi.below hb⟩
end Go.Proofs.YtmcdgmepheibkaaDoor
