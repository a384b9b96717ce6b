/- The table of formats; Right. -/
import Derived.Test.YtebllmpdlapefaaGreatDoorProg
import Derived.Test.YtebllmpdlapefaaGreatDoorKA1
import Derived.WalkSpells
import Derived.Laws.EntriesVeiled
namespace Go.Proofs.YtebllmpdlapefaaGreatDoor
set_option linter.unusedVariables false
set_option linter.unusedSimpArgs false
open Go.RowKit

def fnV (f : Nat) : Value := .func (.func f) #[] #[]
/-- The table of the formats; none stands at 0. -/
def fmV : Value := .agg #[.nilFunc, .nilFunc, .nilFunc, .nilFunc, fnV 63, fnV 64, fnV 66, fnV 68, fnV 62, fnV 69, fnV 71, fnV 73, fnV 62, fnV 74, fnV 76, fnV 73]
def fm1 : Value := .agg #[fnV 63, fnV 64, fnV 66, fnV 68]
def fm2 : Value := .agg #[fnV 62, fnV 69, fnV 71, fnV 73]
def fm3 : Value := .agg #[fnV 62, fnV 74, fnV 76, fnV 73]
set_option maxRecDepth 100000 in
set_option maxHeartbeats 1000000 in
theorem formats_c (w : World) : Calls Tryz.prog 45 #[] w fun e w' => e = .returned fmV ∧ Below w.heap.size w w' := by
  go_enter Tryz.func45, Tryz.ntmps45
  go_wp2_with fail
  refine bodyPost_ret (v := fmV) (by simp [results, Tryz.results45, go_sem, fmV, fnV]) rfl ?_
  exact ⟨rfl, (by repeat (first | exact Below.refl _ _ | assumption | with_reducible refine Below.drewN' ?_ _ | with_reducible refine Below.drew ?_ | ((with_reducible refine Below.alloc' ?_ ?_ _); · (first | omega | (simp <;> omega)))))⟩
theorem fm_at1 (w : World) : (Instr.index 84 fmV (.int .i64 1)).run Tryz.prog w = .ok fm1 w := by kernel_rfl
theorem fm_at2 (w : World) : (Instr.index 84 fmV (.int .i64 2)).run Tryz.prog w = .ok fm2 w := by kernel_rfl
theorem fm_at3 (w : World) : (Instr.index 84 fmV (.int .i64 3)).run Tryz.prog w = .ok fm3 w := by kernel_rfl
theorem fm_fld1_0 (w : World) : (Instr.field 83 fm1 0).run Tryz.prog w = .ok (fnV 63) w := by kernel_rfl
theorem fm_fld1_1 (w : World) : (Instr.field 83 fm1 1).run Tryz.prog w = .ok (fnV 64) w := by kernel_rfl
theorem fm_fld1_2 (w : World) : (Instr.field 83 fm1 2).run Tryz.prog w = .ok (fnV 66) w := by kernel_rfl
theorem fm_fld1_3 (w : World) : (Instr.field 83 fm1 3).run Tryz.prog w = .ok (fnV 68) w := by kernel_rfl
theorem fm_fld2_0 (w : World) : (Instr.field 83 fm2 0).run Tryz.prog w = .ok (fnV 62) w := by kernel_rfl
theorem fm_fld2_1 (w : World) : (Instr.field 83 fm2 1).run Tryz.prog w = .ok (fnV 69) w := by kernel_rfl
theorem fm_fld2_2 (w : World) : (Instr.field 83 fm2 2).run Tryz.prog w = .ok (fnV 71) w := by kernel_rfl
theorem fm_fld2_3 (w : World) : (Instr.field 83 fm2 3).run Tryz.prog w = .ok (fnV 73) w := by kernel_rfl
theorem fm_fld3_0 (w : World) : (Instr.field 83 fm3 0).run Tryz.prog w = .ok (fnV 62) w := by kernel_rfl
theorem fm_fld3_1 (w : World) : (Instr.field 83 fm3 1).run Tryz.prog w = .ok (fnV 74) w := by kernel_rfl
theorem fm_fld3_2 (w : World) : (Instr.field 83 fm3 2).run Tryz.prog w = .ok (fnV 76) w := by kernel_rfl
theorem fm_fld3_3 (w : World) : (Instr.field 83 fm3 3).run Tryz.prog w = .ok (fnV 73) w := by kernel_rfl
theorem within_c (n m : Int) (w : World) : Calls Tryz.prog 51 #[.int .i64 n, .int .i64 m] w fun e w' => e = .returned (.bool (decide (1 ≤ n) && decide (n ≤ m))) ∧ w = w' := by
  by_cases h : 1 ≤ n
  · go_enter Tryz.func51, Tryz.ntmps51
    go_wp2
    go_ret
    exact ⟨ret_bool (by simp [h]), rfl⟩
  · have hd : decide (1 ≤ n) = false := decide_eq_false h
    go_enter Tryz.func51, Tryz.ntmps51
    go_wp2
    go_ret
    exact ⟨ret_bool (by simp [h]), rfl⟩
set_option maxRecDepth 100000 in
set_option maxHeartbeats 1000000 in
theorem right_c (c : Cfg) (w : World) : Calls Tryz.prog 17 #[c.val] w fun e w' => e = .returned (.bool c.right) ∧ Below w.heap.size w w' := by
  have HW := Lib.hid within_c
  unfold Cfg.val
  go_enter Tryz.func17, Tryz.ntmps17
  go_wp2_with ((go_at_call 51; refine (HW.out _ _ _).mono ?_; rintro e w' ⟨rfl, rfl⟩))
  all_goals
    go_ret
    refine ⟨ret_bool ?_, (by repeat (first | exact Below.refl _ _ | assumption | with_reducible refine Below.drewN' ?_ _ | with_reducible refine Below.drew ?_ | ((with_reducible refine Below.alloc' ?_ ?_ _); · (first | omega | (simp <;> omega)))))⟩
    rw [Bool.eq_iff_iff]
    simp_all [Cfg.right]
    try (intros; omega)
end Go.Proofs.YtebllmpdlapefaaGreatDoor
