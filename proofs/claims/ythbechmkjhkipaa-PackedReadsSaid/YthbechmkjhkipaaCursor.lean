/- Contracts of package cursor's reader: what each method tells, and what it leaves in the reader's block. -/
import Derived.Test.YthbechmkjhkipaaProg
import Derived.Test.YthbechmkjhkipaaWords
import Derived.Deep.QuietTactic
import Derived.BigQuiet
import Derived.Deep.DeepFit
import Derived.WalkSpells
namespace Go.Proofs.Ythbechmkjhkipaa
set_option linter.unusedVariables false
set_option linter.unusedSimpArgs false
open Go.RowKit

/-- A reader in block g: its text, how many bytes were passed, its fault. -/
abbrev Rdr (w : World) (g : Nat) (s : ByteArray) (at_ : Nat) (f : Int) : Prop := Blk w g 77 #[.string s, .int .i64 at_, .int .i64 f]

set_option maxHeartbeats 400000 in
theorem fault_c (g : Nat) (s : ByteArray) (k : Nat) (f : Int) (w : World) (h : Rdr w g s k f) :
    Calls Try.prog 30 #[.pointer (some ⟨g, 0, none⟩)] w fun e w' => e = .returned (.int .i64 f) ∧ w = w' := by
  have h2 := h.cell 2
  simp at h2
  clear h
  go_enter Try.func30, Try.ntmps30
  go_wp2
  go_ret
  exact ⟨rfl, rfl⟩

set_option maxHeartbeats 400000 in
theorem left_c (g : Nat) (s : ByteArray) (k : Nat) (f : Int) (w : World) (h : Rdr w g s k f) (hk : k ≤ s.size) (hs : s.size ≤ 9223372036854775807) :
    Calls Try.prog 31 #[.pointer (some ⟨g, 0, none⟩)] w fun e w' => e = .returned (.int .i64 ((s.size : Int) - k)) ∧ ∃ n, w.drewN n = w' := by
  have h0 := h.cell 0
  have h1 := h.cell 1
  simp at h0 h1
  clear h
  go_enter Try.func31, Try.ntmps31
  go_wp2
  go_quiet (fail)
  go_wp2
  go_ret
  exact ⟨rfl, _, rfl⟩


set_option maxHeartbeats 400000 in
theorem byte_yes (g : Nat) (s : ByteArray) (k : Nat) (w : World) (h : Rdr w g s k 0) (hk : k < s.size) (hs : s.size ≤ 9223372036854775807) :
    Calls Try.prog 53 #[.pointer (some ⟨g, 0, none⟩)] w fun e w' => e = .returned (.int .u8 s[k].toNat) ∧ Rdr w' g s (k + 1) (0) ∧ Only [g] w w' := by
  have h0 := h.cell 0
  have h1 := h.cell 1
  have h2 := h.cell 2
  have f1 := h.frozen 1
  have f2 := h.frozen 2
  have hlt := h.lt
  simp at h0 h1 h2
  have H := Lib.hid h
  clear h
  go_enter Try.func53, Try.ntmps53
  go_wp2
  go_quiet (fail)
  go_wp2
  go_region
  all_goals go_wp2
  go_end0
  go_wp2
  go_ret
  refine ⟨rfl, ?_, (by repeat (first | exact Only.refl _ _ | assumption | with_reducible refine Only.drewN ?_ _ | with_reducible refine Only.drew ?_ | with_reducible refine Only.alloc ?_ _ | ((with_reducible refine Only.put ?_ ?_ _); · (first | omega | (simp <;> omega)))))⟩
  have h := H.out
  unfold Rdr at h ⊢
  (repeat (first | with_reducible assumption | with_reducible apply Blk.drewN | with_reducible apply Blk.drew | with_reducible apply Blk.alloc | ((with_reducible apply Blk.beside); · (first | omega | (simp <;> omega))) | with_reducible apply Blk.store)); all_goals (first | rfl | simp)

set_option maxHeartbeats 400000 in
theorem byte_short (g : Nat) (s : ByteArray) (k : Nat) (w : World) (h : Rdr w g s k 0) (hk : ¬ k < s.size) :
    Calls Try.prog 53 #[.pointer (some ⟨g, 0, none⟩)] w fun e w' => e = .returned (.int .u8 0) ∧ Rdr w' g s (k) (2) ∧ Only [g] w w' := by
  have h0 := h.cell 0
  have h1 := h.cell 1
  have h2 := h.cell 2
  have f1 := h.frozen 1
  have f2 := h.frozen 2
  have hlt := h.lt
  simp at h0 h1 h2
  have H := Lib.hid h
  clear h
  go_enter Try.func53, Try.ntmps53
  go_wp2
  go_quiet (fail)
  go_wp2
  go_end0
  go_wp2
  go_ret
  refine ⟨rfl, ?_, (by repeat (first | exact Only.refl _ _ | assumption | with_reducible refine Only.drewN ?_ _ | with_reducible refine Only.drew ?_ | with_reducible refine Only.alloc ?_ _ | ((with_reducible refine Only.put ?_ ?_ _); · (first | omega | (simp <;> omega)))))⟩
  have h := H.out
  unfold Rdr at h ⊢
  (repeat (first | with_reducible assumption | with_reducible apply Blk.drewN | with_reducible apply Blk.drew | with_reducible apply Blk.alloc | ((with_reducible apply Blk.beside); · (first | omega | (simp <;> omega))) | with_reducible apply Blk.store)); all_goals (first | rfl | simp)

set_option maxHeartbeats 400000 in
theorem byte_fault (g : Nat) (s : ByteArray) (k : Nat) (f : Int) (w : World) (h : Rdr w g s k f) (hf : (f == 0) = false) :
    Calls Try.prog 53 #[.pointer (some ⟨g, 0, none⟩)] w fun e w' => e = .returned (.int .u8 0) ∧ Rdr w' g s (k) (f) ∧ Only [g] w w' := by
  have h0 := h.cell 0
  have h1 := h.cell 1
  have h2 := h.cell 2
  have f1 := h.frozen 1
  have f2 := h.frozen 2
  have hlt := h.lt
  simp at h0 h1 h2
  have H := Lib.hid h
  clear h
  go_enter Try.func53, Try.ntmps53
  go_wp2
  go_end0
  go_wp2
  go_ret
  refine ⟨rfl, ?_, (by repeat (first | exact Only.refl _ _ | assumption | with_reducible refine Only.drewN ?_ _ | with_reducible refine Only.drew ?_ | with_reducible refine Only.alloc ?_ _ | ((with_reducible refine Only.put ?_ ?_ _); · (first | omega | (simp <;> omega)))))⟩
  have h := H.out
  unfold Rdr at h ⊢
  (repeat (first | with_reducible assumption | with_reducible apply Blk.drewN | with_reducible apply Blk.drew | with_reducible apply Blk.alloc | ((with_reducible apply Blk.beside); · (first | omega | (simp <;> omega))) | with_reducible apply Blk.store)); all_goals (first | rfl | simp)

set_option maxHeartbeats 400000 in
theorem fail_yes (g : Nat) (s : ByteArray) (k : Nat) (f : Int) (w : World) (h : Rdr w g s k 0) :
    Calls Try.prog 33 #[.pointer (some ⟨g, 0, none⟩), .int .i64 f] w fun e w' => e = .returned (.tuple #[]) ∧ Rdr w' g s (k) (f) ∧ Only [g] w w' := by
  have h0 := h.cell 0
  have h1 := h.cell 1
  have h2 := h.cell 2
  have f1 := h.frozen 1
  have f2 := h.frozen 2
  have hlt := h.lt
  simp at h0 h1 h2
  have H := Lib.hid h
  clear h
  go_enter Try.func33, Try.ntmps33
  go_wp2
  go_end0
  go_wp2
  go_end0
  refine ⟨rfl, ?_, (by repeat (first | exact Only.refl _ _ | assumption | with_reducible refine Only.drewN ?_ _ | with_reducible refine Only.drew ?_ | with_reducible refine Only.alloc ?_ _ | ((with_reducible refine Only.put ?_ ?_ _); · (first | omega | (simp <;> omega)))))⟩
  have h := H.out
  unfold Rdr at h ⊢
  (repeat (first | with_reducible assumption | with_reducible apply Blk.drewN | with_reducible apply Blk.drew | with_reducible apply Blk.alloc | ((with_reducible apply Blk.beside); · (first | omega | (simp <;> omega))) | with_reducible apply Blk.store)); all_goals (first | rfl | simp)

set_option maxHeartbeats 400000 in
theorem fail_fault (g : Nat) (s : ByteArray) (k : Nat) (f e : Int) (w : World) (h : Rdr w g s k f) (hf : (f == 0) = false) :
    Calls Try.prog 33 #[.pointer (some ⟨g, 0, none⟩), .int .i64 e] w fun e w' => e = .returned (.tuple #[]) ∧ Rdr w' g s (k) (f) ∧ Only [g] w w' := by
  have h0 := h.cell 0
  have h1 := h.cell 1
  have h2 := h.cell 2
  have f1 := h.frozen 1
  have f2 := h.frozen 2
  have hlt := h.lt
  simp at h0 h1 h2
  have H := Lib.hid h
  clear h
  go_enter Try.func33, Try.ntmps33
  go_wp2
  go_end0
  go_wp2
  go_end0
  refine ⟨rfl, ?_, (by repeat (first | exact Only.refl _ _ | assumption | with_reducible refine Only.drewN ?_ _ | with_reducible refine Only.drew ?_ | with_reducible refine Only.alloc ?_ _ | ((with_reducible refine Only.put ?_ ?_ _); · (first | omega | (simp <;> omega)))))⟩
  have h := H.out
  unfold Rdr at h ⊢
  (repeat (first | with_reducible assumption | with_reducible apply Blk.drewN | with_reducible apply Blk.drew | with_reducible apply Blk.alloc | ((with_reducible apply Blk.beside); · (first | omega | (simp <;> omega))) | with_reducible apply Blk.store)); all_goals (first | rfl | simp)

set_option maxHeartbeats 400000 in
theorem take_fault (g : Nat) (s : ByteArray) (k : Nat) (f n : Int) (w : World) (h : Rdr w g s k f) (hf : (f == 0) = false) :
    Calls Try.prog 52 #[.pointer (some ⟨g, 0, none⟩), .int .i64 n] w fun e w' => e = .returned (.string ByteArray.empty) ∧ Rdr w' g s (k) (f) ∧ Only [g] w w' := by
  have h0 := h.cell 0
  have h1 := h.cell 1
  have h2 := h.cell 2
  have f1 := h.frozen 1
  have f2 := h.frozen 2
  have hlt := h.lt
  simp at h0 h1 h2
  have H := Lib.hid h
  clear h
  have c0 := cell3 hlt h0
  have c1 := cell3 hlt h1
  have c2 := cell3 hlt h2
  have g1 := frozen3 hlt f1
  have g2 := frozen3 hlt f2
  go_enter Try.func52, Try.ntmps52
  go_wp2
  go_end0
  go_wp2
  go_ret
  refine ⟨rfl, ?_, (by repeat (first | exact Only.refl _ _ | assumption | with_reducible refine Only.drewN ?_ _ | with_reducible refine Only.drew ?_ | with_reducible refine Only.alloc ?_ _ | ((with_reducible refine Only.put ?_ ?_ _); · (first | omega | (simp <;> omega)))))⟩
  have h := H.out
  unfold Rdr at h ⊢
  (repeat (first | with_reducible assumption | with_reducible apply Blk.drewN | with_reducible apply Blk.drew | with_reducible apply Blk.alloc | ((with_reducible apply Blk.beside); · (first | omega | (simp <;> omega))) | with_reducible apply Blk.store)); all_goals (first | rfl | simp)

set_option maxHeartbeats 400000 in
theorem take_neg (g : Nat) (s : ByteArray) (k : Nat) (n : Int) (w : World) (h : Rdr w g s k 0) (hn : n < 0) :
    Calls Try.prog 52 #[.pointer (some ⟨g, 0, none⟩), .int .i64 n] w fun e w' => e = .returned (.string ByteArray.empty) ∧ Rdr w' g s (k) (1) ∧ Only [g] w w' := by
  have h0 := h.cell 0
  have h1 := h.cell 1
  have h2 := h.cell 2
  have f1 := h.frozen 1
  have f2 := h.frozen 2
  have hlt := h.lt
  simp at h0 h1 h2
  have H := Lib.hid h
  clear h
  have c0 := cell3 hlt h0
  have c1 := cell3 hlt h1
  have c2 := cell3 hlt h2
  have g1 := frozen3 hlt f1
  have g2 := frozen3 hlt f2
  go_enter Try.func52, Try.ntmps52
  go_wp2
  go_end0
  go_wp2
  go_ret
  refine ⟨rfl, ?_, (by repeat (first | exact Only.refl _ _ | assumption | with_reducible refine Only.drewN ?_ _ | with_reducible refine Only.drew ?_ | with_reducible refine Only.alloc ?_ _ | ((with_reducible refine Only.put ?_ ?_ _); · (first | omega | (simp <;> omega)))))⟩
  have h := H.out
  unfold Rdr at h ⊢
  (repeat (first | with_reducible assumption | with_reducible apply Blk.drewN | with_reducible apply Blk.drew | with_reducible apply Blk.alloc | ((with_reducible apply Blk.beside); · (first | omega | (simp <;> omega))) | with_reducible apply Blk.store)); all_goals (first | rfl | simp)

set_option maxHeartbeats 400000 in
theorem take_short (g : Nat) (s : ByteArray) (k : Nat) (n : Nat) (w : World) (h : Rdr w g s k 0) (hk : k ≤ s.size) (hs : s.size ≤ 9223372036854775807) (hn : s.size < k + n) (hn2 : n ≤ 9223372036854775807) :
    Calls Try.prog 52 #[.pointer (some ⟨g, 0, none⟩), .int .i64 n] w fun e w' => e = .returned (.string ByteArray.empty) ∧ Rdr w' g s (k) (2) ∧ Only [g] w w' := by
  have h0 := h.cell 0
  have h1 := h.cell 1
  have h2 := h.cell 2
  have f1 := h.frozen 1
  have f2 := h.frozen 2
  have hlt := h.lt
  simp at h0 h1 h2
  have H := Lib.hid h
  clear h
  have c0 := cell3 hlt h0
  have c1 := cell3 hlt h1
  have c2 := cell3 hlt h2
  have g1 := frozen3 hlt f1
  have g2 := frozen3 hlt f2
  go_enter Try.func52, Try.ntmps52
  go_wp2
  go_quiet (fail)
  go_wp2
  go_end0
  go_wp2
  go_ret
  refine ⟨rfl, ?_, (by repeat (first | exact Only.refl _ _ | assumption | with_reducible refine Only.drewN ?_ _ | with_reducible refine Only.drew ?_ | with_reducible refine Only.alloc ?_ _ | ((with_reducible refine Only.put ?_ ?_ _); · (first | omega | (simp <;> omega)))))⟩
  have h := H.out
  unfold Rdr at h ⊢
  (repeat (first | with_reducible assumption | with_reducible apply Blk.drewN | with_reducible apply Blk.drew | with_reducible apply Blk.alloc | ((with_reducible apply Blk.beside); · (first | omega | (simp <;> omega))) | with_reducible apply Blk.store)); all_goals (first | rfl | simp)

set_option maxHeartbeats 400000 in
theorem take_yes (g : Nat) (s : ByteArray) (k : Nat) (n : Nat) (w : World) (h : Rdr w g s k 0) (hs : s.size ≤ 9223372036854775807) (hn : k + n ≤ s.size) :
    Calls Try.prog 52 #[.pointer (some ⟨g, 0, none⟩), .int .i64 n] w fun e w' => e = .returned (.string (s.extract k (k + n))) ∧ Rdr w' g s (k + n) (0) ∧ Only [g] w w' := by
  have h0 := h.cell 0
  have h1 := h.cell 1
  have h2 := h.cell 2
  have f1 := h.frozen 1
  have f2 := h.frozen 2
  have hlt := h.lt
  simp at h0 h1 h2
  have H := Lib.hid h
  clear h
  have c0 := cell3 hlt h0
  have c1 := cell3 hlt h1
  have c2 := cell3 hlt h2
  have g1 := frozen3 hlt f1
  have g2 := frozen3 hlt f2
  go_enter Try.func52, Try.ntmps52
  go_wp2
  go_quiet (fail)
  go_wp2
  go_region
  all_goals go_wp2
  go_region
  all_goals go_wp2
  go_end0
  go_wp2
  go_ret
  refine ⟨rfl, ?_, (by repeat (first | exact Only.refl _ _ | assumption | with_reducible refine Only.drewN ?_ _ | with_reducible refine Only.drew ?_ | with_reducible refine Only.alloc ?_ _ | ((with_reducible refine Only.put ?_ ?_ _); · (first | omega | (simp <;> omega)))))⟩
  have h := H.out
  unfold Rdr at h ⊢
  (repeat (first | with_reducible assumption | with_reducible apply Blk.drewN | with_reducible apply Blk.drew | with_reducible apply Blk.alloc | ((with_reducible apply Blk.beside); · (first | omega | (simp <;> omega))) | with_reducible apply Blk.store)); all_goals (first | rfl | simp)

set_option maxHeartbeats 400000 in
theorem read_c (s : ByteArray) (w : World) :
    Calls Try.prog 29 #[.string s] w fun e w' => e = .returned (.pointer (some ⟨w.heap.size, 0, none⟩)) ∧ w' = w.alloc (.cells #[.string s, .int .i64 0, .int .i64 0] 77) := by
  go_enter Try.func29, Try.ntmps29
  go_wp2
  go_ret
  exact ⟨rfl, rfl⟩
end Go.Proofs.Ythbechmkjhkipaa
