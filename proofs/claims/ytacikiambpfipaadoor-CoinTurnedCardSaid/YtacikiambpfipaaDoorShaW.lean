/- Eight words in a block: read, written. -/
import Derived.Test.YtacikiambpfipaaDoorShaA
namespace Go.Proofs.YtacikiambpfipaaDoor
set_option linter.unusedVariables false
set_option linter.unusedSimpArgs false
open Go.RowKit

theorem Blk.cells8 {W : World} {g : Nat} {u : Sh} (h : Blk W g 46 (shCells u)) :
    W.cell? ⟨g, 0, none⟩ = some (.int .u32 u.a) ∧ W.cell? ⟨g, 1, none⟩ = some (.int .u32 u.b) ∧ W.cell? ⟨g, 2, none⟩ = some (.int .u32 u.c) ∧ W.cell? ⟨g, 3, none⟩ = some (.int .u32 u.d) ∧
    W.cell? ⟨g, 4, none⟩ = some (.int .u32 u.e) ∧ W.cell? ⟨g, 5, none⟩ = some (.int .u32 u.f) ∧ W.cell? ⟨g, 6, none⟩ = some (.int .u32 u.g) ∧ W.cell? ⟨g, 7, none⟩ = some (.int .u32 u.h) :=
  ⟨h.cell 0, h.cell 1, h.cell 2, h.cell 3, h.cell 4, h.cell 5, h.cell 6, h.cell 7⟩
theorem Blk.free8 {W : World} {g : Nat} {u : Sh} (h : Blk W g 46 (shCells u)) :
    W.frozen? ⟨g, 0, none⟩ = false ∧ W.frozen? ⟨g, 1, none⟩ = false ∧ W.frozen? ⟨g, 2, none⟩ = false ∧ W.frozen? ⟨g, 3, none⟩ = false ∧ W.frozen? ⟨g, 4, none⟩ = false ∧ W.frozen? ⟨g, 5, none⟩ = false ∧ W.frozen? ⟨g, 6, none⟩ = false ∧ W.frozen? ⟨g, 7, none⟩ = false :=
  ⟨h.frozen 0, h.frozen 1, h.frozen 2, h.frozen 3, h.frozen 4, h.frozen 5, h.frozen 6, h.frozen 7⟩
theorem putRes_any {W : World} {g : Nat} {v : Sh} (u : Sh) (h : Blk W g 46 (shCells v)) : Blk (putRes W g u) g 46 (shCells u) := by
  have h8 := (((((((h.set 0 (.int .u32 u.a)).set 1 (.int .u32 u.b)).set 2 (.int .u32 u.c)).set 3 (.int .u32 u.d)).set 4 (.int .u32 u.e)).set 5 (.int .u32 u.f)).set 6 (.int .u32 u.g)).set 7 (.int .u32 u.h)
  unfold shCells at h8
  simp only [List.setIfInBounds_toArray, List.set_cons_zero, List.set_cons_succ] at h8
  exact h8
/-- The state, i blocks of the text having been mixed in. -/
structure SumInv (w : World) (B : Nat) (v : Sh) (s : ByteArray) (top : Nat) (at_ : Value) (wr : World) : Prop where
  ex : ∃ i a : Nat, a = 64 * i ∧ at_ = .int .i64 a ∧ a ≤ top ∧ Blk wr B 46 (shCells (shRun v s i)) ∧ Only [] w wr
theorem cells8_at (t : Sh) (k : Nat) (h : k < 8) : (shCells t)[k]? = some (.int .u32 (t.list.getD k 0 : Nat)) := by
  have h8 : k = 0 ∨ k = 1 ∨ k = 2 ∨ k = 3 ∨ k = 4 ∨ k = 5 ∨ k = 6 ∨ k = 7 := by omega
  rcases h8 with rfl | rfl | rfl | rfl | rfl | rfl | rfl | rfl <;> rfl
theorem Sh.ok_at {t : Sh} (h : t.ok) (k : Nat) : t.list.getD k 0 < 4294967296 := by
  obtain ⟨a, b, c, d, e, f, g, i⟩ := h
  have h8 : k = 0 ∨ k = 1 ∨ k = 2 ∨ k = 3 ∨ k = 4 ∨ k = 5 ∨ k = 6 ∨ k = 7 ∨ 8 ≤ k := by omega
  rcases h8 with rfl | rfl | rfl | rfl | rfl | rfl | rfl | rfl | h8
  · exact a
  · exact b
  · exact c
  · exact d
  · exact e
  · exact f
  · exact g
  · exact i
  · rw [List.getD_eq_getElem?_getD, List.getElem?_eq_none (by simp [Sh.list]; omega)]; simp
end Go.Proofs.YtacikiambpfipaaDoor
