/- wire.Right. -/
import Derived.Test.YtnfpgadegpmhkaaGreatDoorProg
import Derived.Test.YtnfpgadegpmhkaaGreatDoorKA1
import Derived.Test.YtnfpgadegpmhkaaGreatDoorKA8
import Derived.WalkSpells
import Derived.Laws.EntriesVeiled
import Derived.ProofKit
import Derived.OpenShut
set_option linter.unusedVariables false
set_option linter.unusedSimpArgs false
set_option maxRecDepth 100000
set_option maxHeartbeats 1000000
namespace Go.Proofs.YtnfpgadegpmhkaaGreatDoor
open Go.RowKit
theorem wWithin_c (n m : Int) (w : World) : Calls Tryz.prog 44 #[.int .i64 n, .int .i64 m] w fun e w' => e = .returned (.bool (decide (1 ≤ n) && decide (n ≤ m))) ∧ w = w' := by
 by_cases h : 1 ≤ n
 ·go_enter Tryz.func44, Tryz.ntmps44
  go_wp2
  go_ret
  exact ⟨ret_bool (by simp [h]), rfl⟩
 ·have hd : decide (1 ≤ n) = false := decide_eq_false h
  go_enter Tryz.func44, Tryz.ntmps44
  go_wp2
  go_ret
  exact ⟨ret_bool (by simp [h]), rfl⟩
theorem right_c (c : Cfg) (w : World) : Calls Tryz.prog 26 #[c.val] w fun e w' => e = .returned (.bool c.right) ∧ Below w.heap.size w w' := by
 have HW := Lib.hid wWithin_c
 unfold Cfg.val
 go_enter Tryz.func26, Tryz.ntmps26
 go_wp2_with ((go_at_call 44; refine (HW.out _ _ _).mono ?_; rintro e w' ⟨rfl, rfl⟩))
 all_goals
  go_ret
  refine ⟨ret_bool ?_, blw⟩
  rw [Bool.eq_iff_iff]
  simp_all [Cfg.right]
  try (intros; omega)
open Go.ChangeShapes Go.WideShapes Go.ChangeAt Go.RowKit
theorem list_of_all {α : Type} (Q : Nat → α → Prop) : ∀ n, (∀ i, i < n → ∃ y, Q i y) → ∃ l : List α, l.length = n ∧ ∀ i (h : i < l.length), Q i l[i]
 | 0, _ => ⟨[], rfl, by simp⟩
 | n + 1, h => by
  obtain ⟨l, h1, h2⟩ := list_of_all Q n fun i hi => h i (by omega)
  obtain ⟨y, hy⟩ := h n (by omega)
  refine ⟨l ++ [y], by simp [h1], fun i hi => ?_⟩
  by_cases hc : i < l.length
  ·rw [List.getElem_append_left hc]; exact h2 i hc
  ·have : i = n := by simp at hi; omega
   subst this
   rw [List.getElem_append_right (by omega)]
   simpa [h1] using hy
theorem three_cells {w : World} {base : Nat} {a : Addr} {cs : List Value} (h : w.cells? base a 3 = some cs) : ∃ c0 c1 c2, cs = [c0, c1, c2] ∧ w.cell? a = some c0 ∧ w.cell? (a.add 1) = some c1 ∧ w.cell? (a.add 2) = some c2 := by
 unfold World.cells? at h
 split at h
 ·have e : List.range 3 = [0, 1, 2] := rfl
  rw [e] at h
  simp only [List.mapM_cons, List.mapM_nil, Option.bind_eq_bind, Option.pure_def, Option.bind_eq_some_iff] at h
  obtain ⟨c0, h0, r, ⟨c1, h1, r2, ⟨c2, h2, r3, h3, h4⟩, h5⟩, h6⟩ := h
  simp at h3 h4 h5 h6
  subst h3; subst h4; subst h5; subst h6
  exact ⟨c0, c1, c2, rfl, by simpa [Addr.add] using h0, h1, h2⟩
 ·cases h
theorem no_spot {w : World} {a : Addr} {v : Value} (h : w.cell? a = some v) : a.spot = none := by
 unfold World.cell? at h
 split at h
 ·split at h
  ·cases h
  ·rename_i hs; simpa using hs
 ·cases h
theorem cell_lt {w : World} {p : Addr} {v : Value} (h : w.cell? p = some v) : p.block < w.heap.size := by
 rcases Nat.lt_or_ge p.block w.heap.size with h' | h'
 ·exact h'
 ·simp [World.cell?, Array.getElem?_eq_none h'] at h
end Go.Proofs.YtnfpgadegpmhkaaGreatDoor
