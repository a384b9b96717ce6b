/- The document's Mix: what lies in memory. -/
import Derived.Test.YtacikiambpfipaaDoorShaKy
import Derived.Test.YtacikiambpfipaaDoorShaW
import Derived.Test.YtacikiambpfipaaDoorQTail
namespace Go.Proofs.YtacikiambpfipaaDoor
set_option linter.unusedVariables false
set_option linter.unusedSimpArgs false
open Go.RowKit

/-- Words as cells. -/
def nu (l : List Nat) : Array Value := (l.map fun n => Value.int .u32 (n : Nat)).toArray
theorem nu_at (l : List Nat) (i : Nat) (h : i < l.length) : (nu l)[i]? = some (.int .u32 (l.getD i 0 : Nat)) := by
  simp [nu, List.getD_eq_getElem?_getD, List.getElem?_eq_getElem h]
theorem nu_set (l : List Nat) (i v : Nat) : (nu l).setIfInBounds i (.int .u32 (v : Nat)) = nu (l.set i v) := by
  simp [nu]
theorem made_words (n : Nat) : madeCells #[Value.int .u32 0] n = nu (List.replicate n 0) := by
  apply Array.ext'
  apply List.ext_getElem
  · simp [nu, madeCells]
  · intro i h1 h2
    simp [nu, madeCells, show i % 1 = 0 by omega]
theorem info_u32 : (Tryd.prog.info? 36).map (fun i => (i.zero, i.size, i.bytes)) = some (some (.int .u32 0), 1, 4) := by kernel_rfl
/-- The words so far. -/
def wl (blk : ByteArray) (k : Nat) : List Nat := (List.range 64).map fun j => if j < k then wAt blk j else 0
theorem wl_length (blk : ByteArray) (k : Nat) : (wl blk k).length = 64 := by simp [wl]
theorem wl_zero (blk : ByteArray) : wl blk 0 = List.replicate 64 0 := by
  apply List.ext_getElem
  · simp [wl]
  · intro i h1 h2
    rw [List.getElem_replicate]
    simp [wl]
theorem wl_get (blk : ByteArray) (k j : Nat) (hj : j < 64) : (wl blk k).getD j 0 = if j < k then wAt blk j else 0 := by
  rw [List.getD_eq_getElem?_getD, List.getElem?_eq_getElem (by rw [wl_length]; exact hj)]
  simp [wl]
theorem wl_step (blk : ByteArray) (k : Nat) (hk : k < 64) : (wl blk k).set k (wAt blk k) = wl blk (k + 1) := by
  apply List.ext_getElem
  · simp [wl]
  · intro i h1 h2
    have hi : i < 64 := by simpa [wl_length] using h2
    rw [List.getElem_set]
    by_cases e : k = i
    · subst e; simp [wl]
    · rw [if_neg e]
      simp only [wl, List.getElem_map, List.getElem_range]
      by_cases c : i < k
      · rw [if_pos c, if_pos (by omega)]
      · rw [if_neg c, if_neg (by omega)]
theorem Blk.word {w : World} {g : Nat} {t : TypeId} {blk : ByteArray} {k j : Nat} (h : Blk w g t (nu (wl blk k))) (hj : j < 64) (hjk : j < k) : w.cell? ⟨g, j, none⟩ = some (.int .u32 (wAt blk j : Nat)) := by
  have := (h.cell j).trans (nu_at _ j (by rw [wl_length]; exact hj))
  rw [wl_get blk k j hj, if_pos hjk] at this
  exact this
theorem Blk.wordAny {w : World} {g : Nat} {t : TypeId} {blk : ByteArray} {k j : Nat} (h : Blk w g t (nu (wl blk k))) (hj : j < 64) : ∃ v, w.cell? ⟨g, j, none⟩ = some v := ⟨_, (h.cell j).trans (nu_at _ j (by rw [wl_length]; exact hj))⟩
theorem Blk.putWord {w : World} {g : Nat} {t : TypeId} {blk : ByteArray} {k : Nat} (h : Blk w g t (nu (wl blk k))) (hk : k < 64) : Blk (w.setCell ⟨g, k, none⟩ (.int .u32 (wAt blk k : Nat))) g t (nu (wl blk (k + 1))) := by
  have := h.set k (.int .u32 (wAt blk k : Nat))
  rw [nu_set, wl_step blk k hk] at this
  exact this
theorem shMid_set (t s : Sh) (k : Nat) (h : k < 8) : (shCells (shMid k t s)).setIfInBounds k (.int .u32 ((t.list.getD k 0 + s.list.getD k 0) % 4294967296 : Nat)) = shCells (shMid (k + 1) t s) := by
  have h8 : k = 0 ∨ k = 1 ∨ k = 2 ∨ k = 3 ∨ k = 4 ∨ k = 5 ∨ k = 6 ∨ k = 7 := by omega
  rcases h8 with rfl | rfl | rfl | rfl | rfl | rfl | rfl | rfl <;> rfl
theorem shMid_at (t s : Sh) (k : Nat) (h : k < 8) : (shCells (shMid k t s))[k]? = some (.int .u32 (t.list.getD k 0 : Nat)) := by
  have h8 : k = 0 ∨ k = 1 ∨ k = 2 ∨ k = 3 ∨ k = 4 ∨ k = 5 ∨ k = 6 ∨ k = 7 := by omega
  rcases h8 with rfl | rfl | rfl | rfl | rfl | rfl | rfl | rfl <;> rfl
theorem shMid_end (t s : Sh) : shMid 8 t s = shAdd s t := by
  rw [shMid_8]
  unfold shAdd
  simp only [Nat.add_comm]
structure RM1 (W1 : World) (g : Nat) (blk : ByteArray) (i : Value) (wr : World) : Prop where
  ex : ∃ k : Nat, k ≤ 64 ∧ i = .int .i64 k ∧ Blk wr g 36 (nu (wl blk k)) ∧ Only [g] W1 wr
structure RM2 (W2 : World) (g : Nat) (blk : ByteArray) (s : Sh) (i : Value) (wr : World) : Prop where
  ex : ∃ k : Nat, k ≤ 64 ∧ i = .int .i64 k ∧ Blk wr g 46 (shCells (shRounds shK blk k s)) ∧ Only [g] W2 wr
structure RM3 (W3 : World) (g : Nat) (t s : Sh) (i : Value) (wr : World) : Prop where
  ex : ∃ k : Nat, k ≤ 8 ∧ i = .int .i64 k ∧ Blk wr g 46 (shCells (shMid k t s)) ∧ Only [g] W3 wr
end Go.Proofs.YtacikiambpfipaaDoor
