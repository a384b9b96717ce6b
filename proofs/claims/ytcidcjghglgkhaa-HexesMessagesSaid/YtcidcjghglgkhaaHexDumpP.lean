/- Plain: a dump. -/
import Derived.Test.YtcidcjghglgkhaaHexLine
import Derived.Test.YtcidcjghglgkhaaChunk
namespace Go.Proofs.Ytcidcjghglgkhaa
set_option linter.unusedVariables false
set_option linter.unusedSimpArgs false
open Go.RowKit

def piece (l : List UInt8) (m j : Nat) : List UInt8 := (l.drop (j * m)).take m
theorem piece_length (l : List UInt8) (m j : Nat) : (piece l m j).length = lenCh l.length m j := by simp [piece, lenCh]
theorem piece_at {l : List UInt8} {m j i : Nat} (h : i < (piece l m j).length) : j * m + i < l.length ∧ (piece l m j)[i] = l[j * m + i]'(by simp [piece] at h; omega) := by
  refine ⟨by simp [piece] at h; omega, ?_⟩
  simp [piece]
def dmpStep (l : List UInt8) (st : Nat × List UInt8) (j : Nat) : Nat × List UInt8 := (st.1 + (piece l 16 j).length, st.2 ++ lineL st.1 (piece l 16 j))
def dmpF (l : List UInt8) (pre : List Nat) : Nat × List UInt8 := pre.foldl (dmpStep l) (0, [])
theorem dmpF_snoc (l : List UInt8) (pre : List Nat) (j : Nat) : dmpF l (pre ++ [j]) = dmpStep l (dmpF l pre) j := by simp [dmpF]
def dumpL (l : List UInt8) : List UInt8 := (dmpF l (List.range (nCh l.length 16))).2
theorem dmp_bound (l : List UInt8) (pre : List Nat) : ∀ st, (pre.foldl (dmpStep l) st).1 ≤ st.1 + 16 * pre.length ∧ (pre.foldl (dmpStep l) st).2.length ≤ st.2.length + 75 * pre.length := by
  induction pre with
  | nil => simp
  | cons j pre ih =>
    intro st
    have h1 : (piece l 16 j).length ≤ 16 := by simp [piece]; omega
    have h2 := ih (dmpStep l st j)
    simp only [List.foldl_cons, List.length_cons]
    have h3 : (dmpStep l st j).1 = st.1 + (piece l 16 j).length := rfl
    have h4 : (dmpStep l st j).2.length = st.2.length + (11 + 4 * (piece l 16 j).length) := by simp [dmpStep, lineL_length]
    omega
theorem dmpF_bound (l : List UInt8) (pre : List Nat) : (dmpF l pre).1 ≤ 16 * pre.length ∧ (dmpF l pre).2.length ≤ 75 * pre.length := by
  have := dmp_bound l pre (0, [])
  simpa [dmpF] using this
theorem RdAt.piece {w : World} {g : Nat} {l : List UInt8} (h : RdAt w g 0 l) (m j : Nat) : RdAt w g (j * m) (piece l m j) :=
  ⟨h.1, fun i hi => by
    obtain ⟨h1, h2⟩ := piece_at hi
    rw [h2]
    have := h.2 (j * m + i) h1
    simpa using this⟩
end Go.Proofs.Ytcidcjghglgkhaa
