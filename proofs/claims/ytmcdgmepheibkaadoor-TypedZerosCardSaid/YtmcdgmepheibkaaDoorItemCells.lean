/- The cells of a slice of items. Own text. -/
import Derived.Test.YtmcdgmepheibkaaDoorItemW
namespace Go.Proofs.YtmcdgmepheibkaaDoor
set_option linter.unusedVariables false
set_option linter.unusedSimpArgs false
open Go.RowKit

theorem ItIn.one {w : World} {B : Nat} {x : It} {c0 c1 c2 : Value} (h : ItIn w B x c0 c1 c2) : c0.oneCell' = true ∧ c1.oneCell' = true ∧ c2.oneCell' = true := by
  obtain ⟨A, cap, rfl, rfl, rfl, _⟩ := h.open_
  exact ⟨rfl, rfl, rfl⟩
/-- The cells cs are these items, three a piece. -/
def ItsAre (w : World) (B : Nat) : List It → List Value → Prop
  | [], cs => cs = []
  | x :: xs, cs => ∃ c0 c1 c2 ds, cs = c0 :: c1 :: c2 :: ds ∧ ItIn w B x c0 c1 c2 ∧ ItsAre w B xs ds
theorem ItsAre.length {w : World} {B : Nat} : ∀ {s : List It} {cs : List Value}, ItsAre w B s cs → cs.length = s.length * 3
  | [], cs, h => by simp [ItsAre] at h; simp [h]
  | x :: xs, cs, h => by
    obtain ⟨c0, c1, c2, ds, rfl, _, h2⟩ := h
    have := h2.length
    simp only [List.length_cons, this]; omega
theorem ItsAre.one {w : World} {B : Nat} : ∀ {s : List It} {cs : List Value}, ItsAre w B s cs → ∀ u ∈ cs, u.oneCell' = true
  | [], cs, h => by simp [ItsAre] at h; simp [h]
  | x :: xs, cs, h => by
    obtain ⟨c0, c1, c2, ds, rfl, h1, h2⟩ := h
    have h3 := h1.one
    have h4 := h2.one
    intro u hu
    simp only [List.mem_cons] at hu
    rcases hu with rfl | rfl | rfl | hu
    · exact h3.1
    · exact h3.2.1
    · exact h3.2.2
    · exact h4 u hu
theorem ItsAre.keep {w w' : World} {B B' : Nat} (hB : B ≤ B') (hk : ∀ p : Addr, p.block < B → w'.cell? p = w.cell? p) : ∀ {s : List It} {cs : List Value}, ItsAre w B s cs → ItsAre w' B' s cs
  | [], cs, h => h
  | x :: xs, cs, h => by
    obtain ⟨c0, c1, c2, ds, rfl, h1, h2⟩ := h
    exact ⟨c0, c1, c2, ds, rfl, ItIn.keep hB hk x h1, h2.keep hB hk⟩
/-- Out of a slice: its cells, one by one. -/
theorem ItsIn.cells {w : World} {B : Nat} {b o : Nat} : ∀ {s : List It} {i : Nat}, ItsIn w B s (some ⟨b, o, none⟩) i → ∃ cs, ItsAre w B s cs ∧ ∀ j u, cs[j]? = some u → w.cell? ⟨b, o + i * 3 + j, none⟩ = some u
  | [], i, _ => ⟨[], rfl, by simp⟩
  | x :: xs, i, h => by
    obtain ⟨⟨b', o', c0, c1, c2, hA, _, e0, e1, e2, hi⟩, h2⟩ := h
    injection hA with hA
    injection hA with hb ho
    subst hb; subst ho
    obtain ⟨ds, hd, hc⟩ := h2.cells
    refine ⟨c0 :: c1 :: c2 :: ds, ⟨c0, c1, c2, ds, rfl, hi, hd⟩, fun j u hu => ?_⟩
    match j, hu with
    | 0, hu => simp at hu; subst hu; exact e0
    | 1, hu => simp at hu; subst hu; exact e1
    | 2, hu => simp at hu; subst hu; exact e2
    | j + 3, hu =>
      have := hc j u (by simpa using hu)
      rw [show o + i * 3 + (j + 3) = o + (i + 1) * 3 + j from by omega]; exact this
/-- Back into a slice. -/
theorem ItsIn.of_cells {w : World} {B : Nat} {b o : Nat} (hb : b < B) : ∀ {s : List It} {i : Nat} {cs : List Value}, ItsAre w B s cs → (∀ j u, cs[j]? = some u → w.cell? ⟨b, o + i * 3 + j, none⟩ = some u) → ItsIn w B s (some ⟨b, o, none⟩) i
  | [], _, _, _, _ => trivial
  | x :: xs, i, cs, h, hc => by
    obtain ⟨c0, c1, c2, ds, rfl, h1, h2⟩ := h
    refine ⟨⟨b, o, c0, c1, c2, rfl, hb, by simpa using hc 0 c0 (by simp), hc 1 c1 (by simp), hc 2 c2 (by simp), h1⟩, ItsIn.of_cells hb h2 fun j u hu => ?_⟩
    have := hc (j + 3) u (by simpa using hu)
    rw [show o + (i + 1) * 3 + j = o + i * 3 + (j + 3) from by omega]; exact this
end Go.Proofs.YtmcdgmepheibkaaDoor
