/- Contracts of package cursor's reader: what each method tells, and what it leaves in the reader's block. -/
import Derived.Test.YtnfpgadegpmhkaaGreatDoorProg
import Derived.Test.YtnfpgadegpmhkaaGreatDoorKA1
import Derived.Deep.QuietTactic
import Derived.BigQuiet
import Derived.Deep.DeepFit
import Derived.WalkSpells
set_option linter.unusedVariables false
set_option linter.unusedSimpArgs false
set_option maxHeartbeats 400000
namespace Go.Proofs.YtnfpgadegpmhkaaGreatDoor
open Go.RowKit
abbrev Rdr (w : World) (g : Nat) (s : ByteArray) (at_ : Nat) (f : Int) : Prop := Blk w g 197 #[.string s, .int .i64 at_, .int .i64 f]
theorem fault_c (g : Nat) (s : ByteArray) (k : Nat) (f : Int) (w : World) (h : Rdr w g s k f) :
 Calls Tryz.prog 114 #[.pointer (some ⟨g, 0, none⟩)] w fun e w' => e = .returned (.int .i64 f) ∧ w = w' := by
 have h2 := h.cell 2
 simp at h2
 clear h
 go_enter Tryz.func114, Tryz.ntmps114
 go_wp2
 go_ret
 exact ⟨rfl, rfl⟩
theorem left_c (g : Nat) (s : ByteArray) (k : Nat) (f : Int) (w : World) (h : Rdr w g s k f) (hk : k ≤ s.size) (hs : s.size ≤ 9223372036854775807) :
 Calls Tryz.prog 115 #[.pointer (some ⟨g, 0, none⟩)] w fun e w' => e = .returned (.int .i64 ((s.size : Int) - k)) ∧ ∃ n, w.drewN n = w' := by
 have h0 := h.cell 0
 have h1 := h.cell 1
 simp at h0 h1
 clear h
 go_enter Tryz.func115, Tryz.ntmps115
 go_wp2
 go_quiet (fail)
 go_wp2
 go_ret
 exact ⟨rfl, _, rfl⟩
theorem fail_yes (g : Nat) (s : ByteArray) (k : Nat) (f : Int) (w : World) (h : Rdr w g s k 0) :
 Calls Tryz.prog 113 #[.pointer (some ⟨g, 0, none⟩), .int .i64 f] w fun e w' => e = .returned (.tuple #[]) ∧ Rdr w' g s (k) (f) ∧ Only [g] w w' := by
 have h0 := h.cell 0
 have h1 := h.cell 1
 have h2 := h.cell 2
 have f1 := h.frozen 1
 have f2 := h.frozen 2
 have hlt := h.lt
 simp at h0 h1 h2
 have H := Lib.hid h
 clear h
 go_enter Tryz.func113, Tryz.ntmps113
 go_wp2
 go_end0
 go_wp2
 go_end0
 refine ⟨rfl, ?_, onl⟩
 have h := H.out
 unfold Rdr at h ⊢
 (repeat (first | with_reducible assumption | with_reducible apply Blk.drewN | with_reducible apply Blk.drew | with_reducible apply Blk.alloc | ((with_reducible apply Blk.beside); · (first | omega | (simp <;> omega))) | with_reducible apply Blk.store)); all_goals (first | rfl | simp)
theorem take_fault (g : Nat) (s : ByteArray) (k : Nat) (f n : Int) (w : World) (h : Rdr w g s k f) (hf : (f == 0) = false) :
 Calls Tryz.prog 112 #[.pointer (some ⟨g, 0, none⟩), .int .i64 n] w fun e w' => e = .returned (.string ByteArray.empty) ∧ Rdr w' g s (k) (f) ∧ Only [g] w w' := by
 have h0 := h.cell 0
 have h1 := h.cell 1
 have h2 := h.cell 2
 have f1 := h.frozen 1
 have f2 := h.frozen 2
 have hlt := h.lt
 simp at h0 h1 h2
 have H := Lib.hid h
 clear h
 have c0 := cell3 hlt h0
 have c1 := cell3 hlt h1
 have c2 := cell3 hlt h2
 have g1 := frozen3 hlt f1
 have g2 := frozen3 hlt f2
 go_enter Tryz.func112, Tryz.ntmps112
 go_wp2
 go_end0
 go_wp2
 go_ret
 refine ⟨rfl, ?_, onl⟩
 have h := H.out
 unfold Rdr at h ⊢
 (repeat (first | with_reducible assumption | with_reducible apply Blk.drewN | with_reducible apply Blk.drew | with_reducible apply Blk.alloc | ((with_reducible apply Blk.beside); · (first | omega | (simp <;> omega))) | with_reducible apply Blk.store)); all_goals (first | rfl | simp)
theorem take_short (g : Nat) (s : ByteArray) (k : Nat) (n : Nat) (w : World) (h : Rdr w g s k 0) (hk : k ≤ s.size) (hs : s.size ≤ 9223372036854775807) (hn : s.size < k + n) (hn2 : n ≤ 9223372036854775807) :
 Calls Tryz.prog 112 #[.pointer (some ⟨g, 0, none⟩), .int .i64 n] w fun e w' => e = .returned (.string ByteArray.empty) ∧ Rdr w' g s (k) (2) ∧ Only [g] w w' := by
 have h0 := h.cell 0
 have h1 := h.cell 1
 have h2 := h.cell 2
 have f1 := h.frozen 1
 have f2 := h.frozen 2
 have hlt := h.lt
 simp at h0 h1 h2
 have H := Lib.hid h
 clear h
 have c0 := cell3 hlt h0
 have c1 := cell3 hlt h1
 have c2 := cell3 hlt h2
 have g1 := frozen3 hlt f1
 have g2 := frozen3 hlt f2
 go_enter Tryz.func112, Tryz.ntmps112
 go_wp2
 go_quiet (fail)
 go_wp2
 go_end0
 go_wp2
 go_ret
 refine ⟨rfl, ?_, onl⟩
 have h := H.out
 unfold Rdr at h ⊢
 (repeat (first | with_reducible assumption | with_reducible apply Blk.drewN | with_reducible apply Blk.drew | with_reducible apply Blk.alloc | ((with_reducible apply Blk.beside); · (first | omega | (simp <;> omega))) | with_reducible apply Blk.store)); all_goals (first | rfl | simp)
theorem take_yes (g : Nat) (s : ByteArray) (k : Nat) (n : Nat) (w : World) (h : Rdr w g s k 0) (hs : s.size ≤ 9223372036854775807) (hn : k + n ≤ s.size) :
 Calls Tryz.prog 112 #[.pointer (some ⟨g, 0, none⟩), .int .i64 n] w fun e w' => e = .returned (.string (s.extract k (k + n))) ∧ Rdr w' g s (k + n) (0) ∧ Only [g] w w' := by
 have h0 := h.cell 0
 have h1 := h.cell 1
 have h2 := h.cell 2
 have f1 := h.frozen 1
 have f2 := h.frozen 2
 have hlt := h.lt
 simp at h0 h1 h2
 have H := Lib.hid h
 clear h
 have c0 := cell3 hlt h0
 have c1 := cell3 hlt h1
 have c2 := cell3 hlt h2
 have g1 := frozen3 hlt f1
 have g2 := frozen3 hlt f2
 go_enter Tryz.func112, Tryz.ntmps112
 go_wp2
 go_quiet (fail)
 go_wp2
 go_region
 all_goals go_wp2
 go_region
 all_goals go_wp2
 go_end0
 go_wp2
 go_ret
 refine ⟨rfl, ?_, onl⟩
 have h := H.out
 unfold Rdr at h ⊢
 (repeat (first | with_reducible assumption | with_reducible apply Blk.drewN | with_reducible apply Blk.drew | with_reducible apply Blk.alloc | ((with_reducible apply Blk.beside); · (first | omega | (simp <;> omega))) | with_reducible apply Blk.store)); all_goals (first | rfl | simp)
theorem read_c (s : ByteArray) (w : World) :
 Calls Tryz.prog 111 #[.string s] w fun e w' => e = .returned (.pointer (some ⟨w.heap.size, 0, none⟩)) ∧ w' = w.alloc (.cells #[.string s, .int .i64 0, .int .i64 0] 197) := by
 go_enter Tryz.func111, Tryz.ntmps111
 go_wp2
 go_ret
 exact ⟨rfl, rfl⟩
end Go.Proofs.YtnfpgadegpmhkaaGreatDoor
