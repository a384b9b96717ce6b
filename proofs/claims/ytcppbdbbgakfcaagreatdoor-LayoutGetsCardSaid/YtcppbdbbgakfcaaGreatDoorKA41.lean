/- The document's reader: Of, Fail, Left, Take. -/
import Derived.Test.YtcppbdbbgakfcaaGreatDoorProg
import Derived.Test.YtcppbdbbgakfcaaGreatDoorKA1
import Derived.Test.YtcppbdbbgakfcaaGreatDoorKA3
import Derived.Deep.QuietTactic
import Derived.BigQuiet
import Derived.Deep.DeepFit
import Derived.WalkSpells
set_option linter.unusedVariables false
set_option linter.unusedSimpArgs false
set_option maxHeartbeats 400000
namespace Go.Proofs.YtcppbdbbgakfcaaGreatDoor
open Go.RowKit
abbrev Rd1 (w : World) (g : Nat) (s : ByteArray) (k : Nat) (f : Int) : Prop := Blk w g 75 #[.string s, .int .i64 k, .int .i64 f]
theorem of1_c (s : ByteArray) (w : World) :
 Calls Tryz.prog 40 #[.string s] w fun e w' => e = .returned (.pointer (some ⟨w.heap.size, 0, none⟩)) ∧ w' = w.alloc (.cells #[.string s, .int .i64 0, .int .i64 0] 75) := by
 go_enter Tryz.func40, Tryz.ntmps40
 go_wp2
 go_ret
 exact ⟨rfl, rfl⟩
theorem fail1_yes (g : Nat) (s : ByteArray) (k : Nat) (f : Int) (w : World) (h : Rd1 w g s k 0) :
 Calls Tryz.prog 74 #[.pointer (some ⟨g, 0, none⟩), .int .i64 f] w fun e w' => e = .returned (.tuple #[]) ∧ Rd1 w' g s k f ∧ Only [g] w w' := by
 have h2 : w.cell? ⟨g, 2, none⟩ = some (.int .i64 0) := h.cell 2
 have f2 := h.frozen 2
 have hlt := h.lt
 have H := Lib.hid h
 clear h
 go_enter Tryz.func74, Tryz.ntmps74
 go_wp2
 go_end0
 refine ⟨rfl, ?_, (by repeat (first | exact Only.refl _ _ | assumption | with_reducible refine Only.drewN ?_ _ | with_reducible refine Only.drew ?_ | with_reducible refine Only.alloc ?_ _ | ((with_reducible refine Only.put ?_ ?_ _); · (first | omega | (simp <;> omega)))))⟩
 have h := H.out
 unfold Rd1 at h ⊢
 (repeat (first | with_reducible assumption | with_reducible apply Blk.drewN | with_reducible apply Blk.drew | with_reducible apply Blk.alloc | ((with_reducible apply Blk.beside); · (first | omega | (simp <;> omega))) | with_reducible apply Blk.store)); all_goals (first | rfl | simp)
theorem left1_c (g : Nat) (s : ByteArray) (k : Nat) (f : Int) (w : World) (h : Rd1 w g s k f) (hk : k ≤ s.size) (hs : s.size ≤ 9223372036854775807) :
 Calls Tryz.prog 78 #[.pointer (some ⟨g, 0, none⟩)] w fun e w' => e = .returned (.int .i64 ((s.size : Int) - k)) ∧ ∃ n, w.drewN n = w' := by
 have h0 : w.cell? ⟨g, 0, none⟩ = some (.string s) := h.cell 0
 have h1 : w.cell? ⟨g, 1, none⟩ = some (.int .i64 k) := h.cell 1
 clear h
 go_enter Tryz.func78, Tryz.ntmps78
 go_wp2
 go_quiet (fail)
 go_wp2
 go_ret
 exact ⟨rfl, _, rfl⟩
theorem take1_fault (g : Nat) (s : ByteArray) (k : Nat) (f n : Int) (w : World) (h : Rd1 w g s k f) (hf : f ≠ 0) :
 Calls Tryz.prog 76 #[.pointer (some ⟨g, 0, none⟩), .int .i64 n] w fun e w' => e = .returned (.string ⟨#[]⟩) ∧ w = w' := by
 have h2 : w.cell? ⟨g, 2, none⟩ = some (.int .i64 f) := h.cell 2
 have e1 : (f != 0) = true := bne_iff_ne.2 hf
 have e2 : (f == 0) = false := beq_eq_false_iff_ne.2 hf
 clear h
 go_enter Tryz.func76, Tryz.ntmps76
 go_wp2
 go_ret
 exact ⟨rfl, rfl⟩
theorem take1_short (g : Nat) (s : ByteArray) (k n : Nat) (w : World) (h : Rd1 w g s k 0) (hk : k ≤ s.size) (hs : s.size ≤ 9223372036854775807) (hn : s.size < k + n) (hn2 : n ≤ 9223372036854775807) :
 Calls Tryz.prog 76 #[.pointer (some ⟨g, 0, none⟩), .int .i64 n] w fun e w' => e = .returned (.string ⟨#[]⟩) ∧ Rd1 w' g s k 2 ∧ Only [g] w w' := by
 have h2 : w.cell? ⟨g, 2, none⟩ = some (.int .i64 0) := h.cell 2
 have f2 := h.frozen 2
 have hlt := h.lt
 have H := Lib.hid h
 have HL := Lib.hid (left1_c g s k 0 w h hk hs)
 clear h
 go_enter Tryz.func76, Tryz.ntmps76
 go_wp2_with fail
 refine HL.out.mono ?_
 rintro e w' ⟨rfl, nq, rfl⟩
 go_wp2
 go_ret
 refine ⟨rfl, ?_, (by repeat (first | exact Only.refl _ _ | assumption | with_reducible refine Only.drewN ?_ _ | with_reducible refine Only.drew ?_ | with_reducible refine Only.alloc ?_ _ | ((with_reducible refine Only.put ?_ ?_ _); · (first | omega | (simp <;> omega)))))⟩
 have h := H.out
 unfold Rd1 at h ⊢
 (repeat (first | with_reducible assumption | with_reducible apply Blk.drewN | with_reducible apply Blk.drew | with_reducible apply Blk.alloc | ((with_reducible apply Blk.beside); · (first | omega | (simp <;> omega))) | with_reducible apply Blk.store)); all_goals (first | rfl | simp)
theorem take1_yes (g : Nat) (s : ByteArray) (k n : Nat) (w : World) (h : Rd1 w g s k 0) (hs : s.size ≤ 9223372036854775807) (hn : k + n ≤ s.size) :
 Calls Tryz.prog 76 #[.pointer (some ⟨g, 0, none⟩), .int .i64 n] w fun e w' => e = .returned (.string (s.extract k (k + n))) ∧ Rd1 w' g s (k + n) 0 ∧ Only [g] w w' := by
 have h0 : w.cell? ⟨g, 0, none⟩ = some (.string s) := h.cell 0
 have h1 : w.cell? ⟨g, 1, none⟩ = some (.int .i64 k) := h.cell 1
 have h2 : w.cell? ⟨g, 2, none⟩ = some (.int .i64 0) := h.cell 2
 have f1 := h.frozen 1
 have hlt := h.lt
 have H := Lib.hid h
 have HL := Lib.hid (left1_c g s k 0 w h (by omega) hs)
 clear h
 go_enter Tryz.func76, Tryz.ntmps76
 go_wp2_with fail
 refine HL.out.mono ?_
 rintro e w' ⟨rfl, nq, rfl⟩
 go_wp2
 go_quiet (fail)
 go_wp2
 go_ret
 refine ⟨rfl, ?_, (by repeat (first | exact Only.refl _ _ | assumption | with_reducible refine Only.drewN ?_ _ | with_reducible refine Only.drew ?_ | with_reducible refine Only.alloc ?_ _ | ((with_reducible refine Only.put ?_ ?_ _); · (first | omega | (simp <;> omega)))))⟩
 have h := H.out
 unfold Rd1 at h ⊢
 (repeat (first | with_reducible assumption | with_reducible apply Blk.drewN | with_reducible apply Blk.drew | with_reducible apply Blk.alloc | ((with_reducible apply Blk.beside); · (first | omega | (simp <;> omega))) | with_reducible apply Blk.store)); all_goals (first | rfl | simp)
end Go.Proofs.YtcppbdbbgakfcaaGreatDoor
