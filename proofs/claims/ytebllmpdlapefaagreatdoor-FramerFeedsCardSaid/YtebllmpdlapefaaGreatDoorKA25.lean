/- Contracts of package cursor's reader: what each method tells, and what it leaves in the reader's block. -/
/- Contracts of package meter. -/
import Derived.Test.YtebllmpdlapefaaGreatDoorProg
import Derived.Test.YtebllmpdlapefaaGreatDoorKA1
import Derived.Deep.QuietTactic
import Derived.BigQuiet
import Derived.Deep.DeepFit
import Derived.WalkSpells
namespace Go.Proofs.YtebllmpdlapefaaGreatDoor
set_option linter.unusedVariables false
set_option linter.unusedSimpArgs false
open Go.RowKit

/-- A reader in block g: its text, how many bytes were passed, its fault. -/
abbrev Rdr (w : World) (g : Nat) (s : ByteArray) (at_ : Nat) (f : Int) : Prop := Blk w g 160 #[.string s, .int .i64 at_, .int .i64 f]

set_option maxHeartbeats 400000 in
theorem fault_c (g : Nat) (s : ByteArray) (k : Nat) (f : Int) (w : World) (h : Rdr w g s k f) :
    Calls Tryz.prog 116 #[.pointer (some ⟨g, 0, none⟩)] w fun e w' => e = .returned (.int .i64 f) ∧ w = w' := by
  have h2 := h.cell 2
  simp at h2
  clear h
  go_enter Tryz.func116, Tryz.ntmps116
  go_wp2
  go_ret
  exact ⟨rfl, rfl⟩

set_option maxHeartbeats 400000 in
theorem left_c (g : Nat) (s : ByteArray) (k : Nat) (f : Int) (w : World) (h : Rdr w g s k f) (hk : k ≤ s.size) (hs : s.size ≤ 9223372036854775807) :
    Calls Tryz.prog 142 #[.pointer (some ⟨g, 0, none⟩)] w fun e w' => e = .returned (.int .i64 ((s.size : Int) - k)) ∧ ∃ n, w.drewN n = w' := by
  have h0 := h.cell 0
  have h1 := h.cell 1
  simp at h0 h1
  clear h
  go_enter Tryz.func142, Tryz.ntmps142
  go_wp2
  go_quiet (fail)
  go_wp2
  go_ret
  exact ⟨rfl, _, rfl⟩


set_option maxHeartbeats 400000 in
theorem byte_yes (g : Nat) (s : ByteArray) (k : Nat) (w : World) (h : Rdr w g s k 0) (hk : k < s.size) (hs : s.size ≤ 9223372036854775807) :
    Calls Tryz.prog 157 #[.pointer (some ⟨g, 0, none⟩)] w fun e w' => e = .returned (.int .u8 s[k].toNat) ∧ Rdr w' g s (k + 1) (0) ∧ Only [g] w w' := by
  have h0 := h.cell 0
  have h1 := h.cell 1
  have h2 := h.cell 2
  have f1 := h.frozen 1
  have f2 := h.frozen 2
  have hlt := h.lt
  simp at h0 h1 h2
  have H := Lib.hid h
  clear h
  go_enter Tryz.func157, Tryz.ntmps157
  go_wp2
  go_quiet (fail)
  go_wp2
  go_region
  all_goals go_wp2
  go_end0
  go_wp2
  go_ret
  refine ⟨rfl, ?_, (by repeat (first | exact Only.refl _ _ | assumption | with_reducible refine Only.drewN ?_ _ | with_reducible refine Only.drew ?_ | with_reducible refine Only.alloc ?_ _ | ((with_reducible refine Only.put ?_ ?_ _); · (first | omega | (simp <;> omega)))))⟩
  have h := H.out
  unfold Rdr at h ⊢
  (repeat (first | with_reducible assumption | with_reducible apply Blk.drewN | with_reducible apply Blk.drew | with_reducible apply Blk.alloc | ((with_reducible apply Blk.beside); · (first | omega | (simp <;> omega))) | with_reducible apply Blk.store)); all_goals (first | rfl | simp)

set_option maxHeartbeats 400000 in
theorem byte_short (g : Nat) (s : ByteArray) (k : Nat) (w : World) (h : Rdr w g s k 0) (hk : ¬ k < s.size) :
    Calls Tryz.prog 157 #[.pointer (some ⟨g, 0, none⟩)] w fun e w' => e = .returned (.int .u8 0) ∧ Rdr w' g s (k) (2) ∧ Only [g] w w' := by
  have h0 := h.cell 0
  have h1 := h.cell 1
  have h2 := h.cell 2
  have f1 := h.frozen 1
  have f2 := h.frozen 2
  have hlt := h.lt
  simp at h0 h1 h2
  have H := Lib.hid h
  clear h
  go_enter Tryz.func157, Tryz.ntmps157
  go_wp2
  go_quiet (fail)
  go_wp2
  go_end0
  go_wp2
  go_ret
  refine ⟨rfl, ?_, (by repeat (first | exact Only.refl _ _ | assumption | with_reducible refine Only.drewN ?_ _ | with_reducible refine Only.drew ?_ | with_reducible refine Only.alloc ?_ _ | ((with_reducible refine Only.put ?_ ?_ _); · (first | omega | (simp <;> omega)))))⟩
  have h := H.out
  unfold Rdr at h ⊢
  (repeat (first | with_reducible assumption | with_reducible apply Blk.drewN | with_reducible apply Blk.drew | with_reducible apply Blk.alloc | ((with_reducible apply Blk.beside); · (first | omega | (simp <;> omega))) | with_reducible apply Blk.store)); all_goals (first | rfl | simp)

set_option maxHeartbeats 400000 in
theorem byte_fault (g : Nat) (s : ByteArray) (k : Nat) (f : Int) (w : World) (h : Rdr w g s k f) (hf : (f == 0) = false) :
    Calls Tryz.prog 157 #[.pointer (some ⟨g, 0, none⟩)] w fun e w' => e = .returned (.int .u8 0) ∧ Rdr w' g s (k) (f) ∧ Only [g] w w' := by
  have h0 := h.cell 0
  have h1 := h.cell 1
  have h2 := h.cell 2
  have f1 := h.frozen 1
  have f2 := h.frozen 2
  have hlt := h.lt
  simp at h0 h1 h2
  have H := Lib.hid h
  clear h
  go_enter Tryz.func157, Tryz.ntmps157
  go_wp2
  go_end0
  go_wp2
  go_ret
  refine ⟨rfl, ?_, (by repeat (first | exact Only.refl _ _ | assumption | with_reducible refine Only.drewN ?_ _ | with_reducible refine Only.drew ?_ | with_reducible refine Only.alloc ?_ _ | ((with_reducible refine Only.put ?_ ?_ _); · (first | omega | (simp <;> omega)))))⟩
  have h := H.out
  unfold Rdr at h ⊢
  (repeat (first | with_reducible assumption | with_reducible apply Blk.drewN | with_reducible apply Blk.drew | with_reducible apply Blk.alloc | ((with_reducible apply Blk.beside); · (first | omega | (simp <;> omega))) | with_reducible apply Blk.store)); all_goals (first | rfl | simp)

set_option maxHeartbeats 400000 in
theorem fail_yes (g : Nat) (s : ByteArray) (k : Nat) (f : Int) (w : World) (h : Rdr w g s k 0) :
    Calls Tryz.prog 144 #[.pointer (some ⟨g, 0, none⟩), .int .i64 f] w fun e w' => e = .returned (.tuple #[]) ∧ Rdr w' g s (k) (f) ∧ Only [g] w w' := by
  have h0 := h.cell 0
  have h1 := h.cell 1
  have h2 := h.cell 2
  have f1 := h.frozen 1
  have f2 := h.frozen 2
  have hlt := h.lt
  simp at h0 h1 h2
  have H := Lib.hid h
  clear h
  go_enter Tryz.func144, Tryz.ntmps144
  go_wp2
  go_end0
  go_wp2
  go_end0
  refine ⟨rfl, ?_, (by repeat (first | exact Only.refl _ _ | assumption | with_reducible refine Only.drewN ?_ _ | with_reducible refine Only.drew ?_ | with_reducible refine Only.alloc ?_ _ | ((with_reducible refine Only.put ?_ ?_ _); · (first | omega | (simp <;> omega)))))⟩
  have h := H.out
  unfold Rdr at h ⊢
  (repeat (first | with_reducible assumption | with_reducible apply Blk.drewN | with_reducible apply Blk.drew | with_reducible apply Blk.alloc | ((with_reducible apply Blk.beside); · (first | omega | (simp <;> omega))) | with_reducible apply Blk.store)); all_goals (first | rfl | simp)

set_option maxHeartbeats 400000 in
theorem fail_fault (g : Nat) (s : ByteArray) (k : Nat) (f e : Int) (w : World) (h : Rdr w g s k f) (hf : (f == 0) = false) :
    Calls Tryz.prog 144 #[.pointer (some ⟨g, 0, none⟩), .int .i64 e] w fun e w' => e = .returned (.tuple #[]) ∧ Rdr w' g s (k) (f) ∧ Only [g] w w' := by
  have h0 := h.cell 0
  have h1 := h.cell 1
  have h2 := h.cell 2
  have f1 := h.frozen 1
  have f2 := h.frozen 2
  have hlt := h.lt
  simp at h0 h1 h2
  have H := Lib.hid h
  clear h
  go_enter Tryz.func144, Tryz.ntmps144
  go_wp2
  go_end0
  go_wp2
  go_end0
  refine ⟨rfl, ?_, (by repeat (first | exact Only.refl _ _ | assumption | with_reducible refine Only.drewN ?_ _ | with_reducible refine Only.drew ?_ | with_reducible refine Only.alloc ?_ _ | ((with_reducible refine Only.put ?_ ?_ _); · (first | omega | (simp <;> omega)))))⟩
  have h := H.out
  unfold Rdr at h ⊢
  (repeat (first | with_reducible assumption | with_reducible apply Blk.drewN | with_reducible apply Blk.drew | with_reducible apply Blk.alloc | ((with_reducible apply Blk.beside); · (first | omega | (simp <;> omega))) | with_reducible apply Blk.store)); all_goals (first | rfl | simp)

set_option maxHeartbeats 400000 in
theorem take_fault (g : Nat) (s : ByteArray) (k : Nat) (f n : Int) (w : World) (h : Rdr w g s k f) (hf : (f == 0) = false) :
    Calls Tryz.prog 115 #[.pointer (some ⟨g, 0, none⟩), .int .i64 n] w fun e w' => e = .returned (.string ByteArray.empty) ∧ Rdr w' g s (k) (f) ∧ Only [g] w w' := by
  have h0 := h.cell 0
  have h1 := h.cell 1
  have h2 := h.cell 2
  have f1 := h.frozen 1
  have f2 := h.frozen 2
  have hlt := h.lt
  simp at h0 h1 h2
  have H := Lib.hid h
  clear h
  have c0 := cell3 hlt h0
  have c1 := cell3 hlt h1
  have c2 := cell3 hlt h2
  have g1 := frozen3 hlt f1
  have g2 := frozen3 hlt f2
  go_enter Tryz.func115, Tryz.ntmps115
  go_wp2
  go_end0
  go_wp2
  go_ret
  refine ⟨rfl, ?_, (by repeat (first | exact Only.refl _ _ | assumption | with_reducible refine Only.drewN ?_ _ | with_reducible refine Only.drew ?_ | with_reducible refine Only.alloc ?_ _ | ((with_reducible refine Only.put ?_ ?_ _); · (first | omega | (simp <;> omega)))))⟩
  have h := H.out
  unfold Rdr at h ⊢
  (repeat (first | with_reducible assumption | with_reducible apply Blk.drewN | with_reducible apply Blk.drew | with_reducible apply Blk.alloc | ((with_reducible apply Blk.beside); · (first | omega | (simp <;> omega))) | with_reducible apply Blk.store)); all_goals (first | rfl | simp)

set_option maxHeartbeats 400000 in
theorem take_neg (g : Nat) (s : ByteArray) (k : Nat) (n : Int) (w : World) (h : Rdr w g s k 0) (hn : n < 0) :
    Calls Tryz.prog 115 #[.pointer (some ⟨g, 0, none⟩), .int .i64 n] w fun e w' => e = .returned (.string ByteArray.empty) ∧ Rdr w' g s (k) (1) ∧ Only [g] w w' := by
  have h0 := h.cell 0
  have h1 := h.cell 1
  have h2 := h.cell 2
  have f1 := h.frozen 1
  have f2 := h.frozen 2
  have hlt := h.lt
  simp at h0 h1 h2
  have H := Lib.hid h
  clear h
  have c0 := cell3 hlt h0
  have c1 := cell3 hlt h1
  have c2 := cell3 hlt h2
  have g1 := frozen3 hlt f1
  have g2 := frozen3 hlt f2
  go_enter Tryz.func115, Tryz.ntmps115
  go_wp2
  go_end0
  go_wp2
  go_ret
  refine ⟨rfl, ?_, (by repeat (first | exact Only.refl _ _ | assumption | with_reducible refine Only.drewN ?_ _ | with_reducible refine Only.drew ?_ | with_reducible refine Only.alloc ?_ _ | ((with_reducible refine Only.put ?_ ?_ _); · (first | omega | (simp <;> omega)))))⟩
  have h := H.out
  unfold Rdr at h ⊢
  (repeat (first | with_reducible assumption | with_reducible apply Blk.drewN | with_reducible apply Blk.drew | with_reducible apply Blk.alloc | ((with_reducible apply Blk.beside); · (first | omega | (simp <;> omega))) | with_reducible apply Blk.store)); all_goals (first | rfl | simp)

set_option maxHeartbeats 400000 in
theorem take_short (g : Nat) (s : ByteArray) (k : Nat) (n : Nat) (w : World) (h : Rdr w g s k 0) (hk : k ≤ s.size) (hs : s.size ≤ 9223372036854775807) (hn : s.size < k + n) (hn2 : n ≤ 9223372036854775807) :
    Calls Tryz.prog 115 #[.pointer (some ⟨g, 0, none⟩), .int .i64 n] w fun e w' => e = .returned (.string ByteArray.empty) ∧ Rdr w' g s (k) (2) ∧ Only [g] w w' := by
  have h0 := h.cell 0
  have h1 := h.cell 1
  have h2 := h.cell 2
  have f1 := h.frozen 1
  have f2 := h.frozen 2
  have hlt := h.lt
  simp at h0 h1 h2
  have H := Lib.hid h
  clear h
  have c0 := cell3 hlt h0
  have c1 := cell3 hlt h1
  have c2 := cell3 hlt h2
  have g1 := frozen3 hlt f1
  have g2 := frozen3 hlt f2
  go_enter Tryz.func115, Tryz.ntmps115
  go_wp2
  go_quiet (fail)
  go_wp2
  go_end0
  go_wp2
  go_ret
  refine ⟨rfl, ?_, (by repeat (first | exact Only.refl _ _ | assumption | with_reducible refine Only.drewN ?_ _ | with_reducible refine Only.drew ?_ | with_reducible refine Only.alloc ?_ _ | ((with_reducible refine Only.put ?_ ?_ _); · (first | omega | (simp <;> omega)))))⟩
  have h := H.out
  unfold Rdr at h ⊢
  (repeat (first | with_reducible assumption | with_reducible apply Blk.drewN | with_reducible apply Blk.drew | with_reducible apply Blk.alloc | ((with_reducible apply Blk.beside); · (first | omega | (simp <;> omega))) | with_reducible apply Blk.store)); all_goals (first | rfl | simp)

set_option maxHeartbeats 400000 in
theorem take_yes (g : Nat) (s : ByteArray) (k : Nat) (n : Nat) (w : World) (h : Rdr w g s k 0) (hs : s.size ≤ 9223372036854775807) (hn : k + n ≤ s.size) :
    Calls Tryz.prog 115 #[.pointer (some ⟨g, 0, none⟩), .int .i64 n] w fun e w' => e = .returned (.string (s.extract k (k + n))) ∧ Rdr w' g s (k + n) (0) ∧ Only [g] w w' := by
  have h0 := h.cell 0
  have h1 := h.cell 1
  have h2 := h.cell 2
  have f1 := h.frozen 1
  have f2 := h.frozen 2
  have hlt := h.lt
  simp at h0 h1 h2
  have H := Lib.hid h
  clear h
  have c0 := cell3 hlt h0
  have c1 := cell3 hlt h1
  have c2 := cell3 hlt h2
  have g1 := frozen3 hlt f1
  have g2 := frozen3 hlt f2
  go_enter Tryz.func115, Tryz.ntmps115
  go_wp2
  go_quiet (fail)
  go_wp2
  go_region
  all_goals go_wp2
  go_region
  all_goals go_wp2
  go_end0
  go_wp2
  go_ret
  refine ⟨rfl, ?_, (by repeat (first | exact Only.refl _ _ | assumption | with_reducible refine Only.drewN ?_ _ | with_reducible refine Only.drew ?_ | with_reducible refine Only.alloc ?_ _ | ((with_reducible refine Only.put ?_ ?_ _); · (first | omega | (simp <;> omega)))))⟩
  have h := H.out
  unfold Rdr at h ⊢
  (repeat (first | with_reducible assumption | with_reducible apply Blk.drewN | with_reducible apply Blk.drew | with_reducible apply Blk.alloc | ((with_reducible apply Blk.beside); · (first | omega | (simp <;> omega))) | with_reducible apply Blk.store)); all_goals (first | rfl | simp)

set_option maxHeartbeats 400000 in
theorem read_c (s : ByteArray) (w : World) :
    Calls Tryz.prog 114 #[.string s] w fun e w' => e = .returned (.pointer (some ⟨w.heap.size, 0, none⟩)) ∧ w' = w.alloc (.cells #[.string s, .int .i64 0, .int .i64 0] 160) := by
  go_enter Tryz.func114, Tryz.ntmps114
  go_wp2
  go_ret
  exact ⟨rfl, rfl⟩
end Go.Proofs.YtebllmpdlapefaaGreatDoor
namespace Go.Proofs.YtebllmpdlapefaaGreatDoor
set_option linter.unusedVariables false
set_option linter.unusedSimpArgs false
open Go.RowKit

/-- A meter in block g: its most, what is used, was taken, and was used at once. -/
abbrev Mtr (w : World) (g : Nat) (a u t p : Nat) : Prop := Blk w g 94 #[.int .i64 a, .int .i64 u, .int .i64 t, .int .i64 p]

set_option maxHeartbeats 400000 in
theorem meterNew_c (n : Int) (w : World) :
    Calls Tryz.prog 22 #[.int .i64 n] w fun e w' => e = .returned (.pointer (some ⟨w.heap.size, 0, none⟩)) ∧ w' = w.alloc (.cells #[.int .i64 (n.toNat : Nat), .int .i64 0, .int .i64 0, .int .i64 0] 94) := by
  by_cases h : n < 0
  · have e1 : ((n.toNat : Nat) : Int) = 0 := by omega
    rw [e1]
    clear e1
    go_enter Tryz.func22, Tryz.ntmps22
    go_wp2
    go_ret
    exact ⟨rfl, rfl⟩
  · have e1 : ((n.toNat : Nat) : Int) = n := by omega
    rw [e1]
    clear e1
    go_enter Tryz.func22, Tryz.ntmps22
    go_wp2
    go_ret
    exact ⟨rfl, rfl⟩
set_option maxHeartbeats 400000 in
theorem taken_c (g a u t p : Nat) (w : World) (h : Mtr w g a u t p) :
    Calls Tryz.prog 24 #[.pointer (some ⟨g, 0, none⟩)] w fun e w' => e = .returned (.int .i64 t) ∧ w = w' := by
  have h1 := h.cell 2
  simp at h1
  clear h
  go_enter Tryz.func24, Tryz.ntmps24
  go_wp2
  go_ret
  exact ⟨rfl, rfl⟩

theorem i64_sub_nat (a b : Nat) (ha : a ≤ 9223372036854775807) (hb : b ≤ 9223372036854775807) : IntKind.i64.wrap ((a : Int) - b) = (a : Int) - b := IntWalk.i64_in _ (by omega)
def maxI : Int := 9223372036854775807
set_option maxRecDepth 100000 in
set_option maxHeartbeats 400000 in
theorem take1_over (g b1 b2 a u t n : Nat) (w : World) (c0 : w.cell? ⟨g, 0, none⟩ = some (.int .i64 a)) (c1 : w.cell? ⟨g, 1, none⟩ = some (.int .i64 u)) (e1 : w.cell? ⟨b1, 0, none⟩ = some (.int .i64 n)) (e2 : w.cell? ⟨b2, 0, none⟩ = some (.pointer (some ⟨g, 0, none⟩)))
    (ha : a ≤ 9223372036854775807) (hu : u ≤ a) (ho : (a : Int) - u < n) :
    Calls Tryz.prog 92 #[.pointer (some ⟨b1, 0, none⟩), .pointer (some ⟨b2, 0, none⟩)] w fun e w' => e = .returned (.int .i64 5) ∧ ∃ k, w.drewN k = w' := by
  have hd : decide ((a : Int) - u < n) = true := by simpa using ho
  have hw := i64_sub_nat a u (by omega) (by omega)
  go_enter Tryz.func92, Tryz.ntmps92
  go_wp2
  go_quiet (fail)
  go_wp2
  go_ret
  exact ⟨rfl, _, rfl⟩

set_option maxRecDepth 100000 in
set_option maxHeartbeats 400000 in
theorem take1_ok (g b1 b2 a u t n : Nat) (w : World) (c0 : w.cell? ⟨g, 0, none⟩ = some (.int .i64 a)) (c1 : w.cell? ⟨g, 1, none⟩ = some (.int .i64 u)) (c2 : w.cell? ⟨g, 2, none⟩ = some (.int .i64 t)) (e1 : w.cell? ⟨b1, 0, none⟩ = some (.int .i64 n)) (e2 : w.cell? ⟨b2, 0, none⟩ = some (.pointer (some ⟨g, 0, none⟩)))
    (ha : a ≤ 9223372036854775807) (hu : u ≤ a) (ho : (n : Int) ≤ a - u) (ht : t + n ≤ 9223372036854775807) :
    Calls Tryz.prog 92 #[.pointer (some ⟨b1, 0, none⟩), .pointer (some ⟨b2, 0, none⟩)] w fun e w' => e = .returned (.int .i64 0) ∧ ∃ k, w.drewN k = w' := by
  have hd : decide ((a : Int) - u < n) = false := by simpa using ho
  have hw := i64_sub_nat a u (by omega) (by omega)
  have hw2 : IntKind.i64.wrap (9223372036854775807 - (t : Int)) = 9223372036854775807 - (t : Int) := IntWalk.i64_in _ (by omega)
  have hd2 : decide (9223372036854775807 - (t : Int) < n) = false := by simp; omega
  go_enter Tryz.func92, Tryz.ntmps92
  go_wp2
  go_quiet (fail)
  go_wp2
  go_ret
  exact ⟨rfl, _, rfl⟩

set_option maxRecDepth 100000 in
set_option maxHeartbeats 400000 in
theorem take2_c (g b1 b2 u t n : Nat) (w : World) (c1 : w.cell? ⟨g, 1, none⟩ = some (.int .i64 u)) (c2 : w.cell? ⟨g, 2, none⟩ = some (.int .i64 t)) (f1 : w.frozen? ⟨g, 1, none⟩ = false) (f2 : w.frozen? ⟨g, 2, none⟩ = false) (e1 : w.cell? ⟨b1, 0, none⟩ = some (.int .i64 n)) (e2 : w.cell? ⟨b2, 0, none⟩ = some (.pointer (some ⟨g, 0, none⟩)))
    (n1 : g ≠ b1) (n2 : g ≠ b2) (hu : u + n ≤ 9223372036854775807) (ht : t + n ≤ 9223372036854775807) :
    Calls Tryz.prog 93 #[.pointer (some ⟨b2, 0, none⟩), .pointer (some ⟨b1, 0, none⟩)] w fun e w' => e = .returned (.tuple #[]) ∧ ∃ m, ((w.setCell ⟨g, 1, none⟩ (.int .i64 (u + n : Nat))).setCell ⟨g, 2, none⟩ (.int .i64 (t + n : Nat))).drewN m = w' := by
  have q1 : ((u + n : Nat) : Int) = (u : Int) + n := by omega
  have q2 : ((t + n : Nat) : Int) = (t : Int) + n := by omega
  rw [q1, q2]
  clear q1 q2
  go_enter Tryz.func93, Tryz.ntmps93
  go_wp2
  go_region
  all_goals go_wp2
  go_region
  all_goals go_wp2
  go_end0
  exact ⟨rfl, 2, rfl⟩

set_option maxRecDepth 100000 in
set_option maxHeartbeats 800000 in
theorem move_over (g b1 b2 a u t p n : Nat) (w : World) (h : Mtr w g a u t p) (e1 : w.cell? ⟨b1, 0, none⟩ = some (.int .i64 n)) (e2 : w.cell? ⟨b2, 0, none⟩ = some (.pointer (some ⟨g, 0, none⟩))) (ha : a ≤ 9223372036854775807) (hu : u ≤ a) (ho : a < u + n) :
    Calls Tryz.prog 91 #[.pointer (some ⟨g, 0, none⟩), .int .i64 n, .func (.func 92) #[] #[.pointer (some ⟨b1, 0, none⟩), .pointer (some ⟨b2, 0, none⟩)], .func (.func 93) #[] #[.pointer (some ⟨b2, 0, none⟩), .pointer (some ⟨b1, 0, none⟩)]] w
      fun e w' => e = .returned (.int .i64 5) ∧ ∃ k, w.drewN k = w' := by
  have h0 := h.cell 0
  have h1 := h.cell 1
  simp at h0 h1
  clear h
  go_enter Tryz.func91, Tryz.ntmps91
  go_wp2_with fail
  refine (take1_over g b1 b2 a u t n w h0 h1 e1 e2 ha hu (by omega)).mono ?_
  rintro e w2 ⟨rfl, k, rfl⟩
  go_wp2
  go_ret
  exact ⟨rfl, k, rfl⟩

set_option maxRecDepth 100000 in
set_option maxHeartbeats 800000 in
theorem move_ok (g b1 b2 a u t p n q q2 : Nat) (w : World) (HQ : Hid (u + n = q)) (HQ2 : Hid (t + n = q2)) (h : Mtr w g a u t p) (e1 : w.cell? ⟨b1, 0, none⟩ = some (.int .i64 n)) (e2 : w.cell? ⟨b2, 0, none⟩ = some (.pointer (some ⟨g, 0, none⟩))) (n1 : g ≠ b1) (n2 : g ≠ b2) (ha : a ≤ 9223372036854775807) (ho : q ≤ a) (ht : q2 ≤ 9223372036854775807) :
    Calls Tryz.prog 91 #[.pointer (some ⟨g, 0, none⟩), .int .i64 n, .func (.func 92) #[] #[.pointer (some ⟨b1, 0, none⟩), .pointer (some ⟨b2, 0, none⟩)], .func (.func 93) #[] #[.pointer (some ⟨b2, 0, none⟩), .pointer (some ⟨b1, 0, none⟩)]] w
      fun e w' => e = .returned (.int .i64 0) ∧ Mtr w' g a q q2 (max p q) ∧ Only [g] w w' := by
  have h0 := h.cell 0
  have h1 := h.cell 1
  have h2 := h.cell 2
  have f1 := h.frozen 1
  have f2 := h.frozen 2
  simp at h0 h1 h2
  have H := Lib.hid h
  clear h
  rcases Nat.lt_trichotomy p q with hp | hp | hp
  · rw [Nat.max_eq_right (by omega)]
    go_enter Tryz.func91, Tryz.ntmps91
    go_wp2_with fail
    refine (take1_ok g b1 b2 a u t n w h0 h1 h2 e1 e2 ha (by have := HQ.out; omega) (by have := HQ.out; omega) (by have := HQ2.out; omega)).mono ?_
    rintro e w2 ⟨rfl, k, rfl⟩
    go_wp2_with fail
    refine (take2_c g b1 b2 u t n (w.drewN k) h1 h2 f1 f2 e1 e2 n1 n2 (by have := HQ.out; omega) (by have := HQ2.out; omega)).mono ?_
    rintro e w3 ⟨rfl, m, hw3⟩
    have hm3 : Mtr w3 g a q q2 p := by
      rw [← hw3, HQ.out, HQ2.out]
      have h := H.out
      unfold Mtr at h ⊢
      (repeat (first | with_reducible assumption | with_reducible apply Blk.drewN | with_reducible apply Blk.drew | with_reducible apply Blk.alloc | ((with_reducible apply Blk.beside); · (first | omega | (simp <;> omega))) | with_reducible apply Blk.store)); all_goals (first | rfl | simp)
    have ho3 : Only [g] w w3 := by rw [← hw3]; exact (by repeat (first | exact Only.refl _ _ | assumption | with_reducible refine Only.drewN ?_ _ | with_reducible refine Only.drew ?_ | with_reducible refine Only.alloc ?_ _ | ((with_reducible refine Only.put ?_ ?_ _); · (first | omega | (simp <;> omega)))))
    clear hw3
    have c1 := hm3.cell 1
    have c3 := hm3.cell 3
    have g3 := hm3.frozen 3
    simp at c1 c3
    have HM := Lib.hid hm3
    clear hm3
    go_wp2
    go_region
    all_goals
      go_wp2
      go_ret
      refine ⟨rfl, ?_, (by repeat (first | exact Only.refl _ _ | assumption | with_reducible refine Only.drewN ?_ _ | with_reducible refine Only.drew ?_ | with_reducible refine Only.alloc ?_ _ | ((with_reducible refine Only.put ?_ ?_ _); · (first | omega | (simp <;> omega)))))⟩
      have h := HM.out
      unfold Mtr at h ⊢
      (repeat (first | with_reducible assumption | with_reducible apply Blk.drewN | with_reducible apply Blk.drew | with_reducible apply Blk.alloc | ((with_reducible apply Blk.beside); · (first | omega | (simp <;> omega))) | with_reducible apply Blk.store)); all_goals (first | rfl | simp)
  · obtain rfl : q = p := hp.symm
    rw [Nat.max_self]
    clear hp
    go_enter Tryz.func91, Tryz.ntmps91
    go_wp2_with fail
    refine (take1_ok g b1 b2 a u t n w h0 h1 h2 e1 e2 ha (by have := HQ.out; omega) (by have := HQ.out; omega) (by have := HQ2.out; omega)).mono ?_
    rintro e w2 ⟨rfl, k, rfl⟩
    go_wp2_with fail
    refine (take2_c g b1 b2 u t n (w.drewN k) h1 h2 f1 f2 e1 e2 n1 n2 (by have := HQ.out; omega) (by have := HQ2.out; omega)).mono ?_
    rintro e w3 ⟨rfl, m, hw3⟩
    have hm3 : Mtr w3 g a q q2 q := by
      rw [← hw3, HQ.out, HQ2.out]
      have h := H.out
      unfold Mtr at h ⊢
      (repeat (first | with_reducible assumption | with_reducible apply Blk.drewN | with_reducible apply Blk.drew | with_reducible apply Blk.alloc | ((with_reducible apply Blk.beside); · (first | omega | (simp <;> omega))) | with_reducible apply Blk.store)); all_goals (first | rfl | simp)
    have ho3 : Only [g] w w3 := by rw [← hw3]; exact (by repeat (first | exact Only.refl _ _ | assumption | with_reducible refine Only.drewN ?_ _ | with_reducible refine Only.drew ?_ | with_reducible refine Only.alloc ?_ _ | ((with_reducible refine Only.put ?_ ?_ _); · (first | omega | (simp <;> omega)))))
    clear hw3
    have c1 := hm3.cell 1
    have c3 := hm3.cell 3
    have g3 := hm3.frozen 3
    simp at c1 c3
    have HM := Lib.hid hm3
    clear hm3
    go_wp2
    go_region
    all_goals
      go_wp2
      go_ret
      refine ⟨rfl, ?_, (by repeat (first | exact Only.refl _ _ | assumption | with_reducible refine Only.drewN ?_ _ | with_reducible refine Only.drew ?_ | with_reducible refine Only.alloc ?_ _ | ((with_reducible refine Only.put ?_ ?_ _); · (first | omega | (simp <;> omega)))))⟩
      have h := HM.out
      unfold Mtr at h ⊢
      (repeat (first | with_reducible assumption | with_reducible apply Blk.drewN | with_reducible apply Blk.drew | with_reducible apply Blk.alloc | ((with_reducible apply Blk.beside); · (first | omega | (simp <;> omega))) | with_reducible apply Blk.store)); all_goals (first | rfl | simp)
  · rw [Nat.max_eq_left (by omega)]
    go_enter Tryz.func91, Tryz.ntmps91
    go_wp2_with fail
    refine (take1_ok g b1 b2 a u t n w h0 h1 h2 e1 e2 ha (by have := HQ.out; omega) (by have := HQ.out; omega) (by have := HQ2.out; omega)).mono ?_
    rintro e w2 ⟨rfl, k, rfl⟩
    go_wp2_with fail
    refine (take2_c g b1 b2 u t n (w.drewN k) h1 h2 f1 f2 e1 e2 n1 n2 (by have := HQ.out; omega) (by have := HQ2.out; omega)).mono ?_
    rintro e w3 ⟨rfl, m, hw3⟩
    have hm3 : Mtr w3 g a q q2 p := by
      rw [← hw3, HQ.out, HQ2.out]
      have h := H.out
      unfold Mtr at h ⊢
      (repeat (first | with_reducible assumption | with_reducible apply Blk.drewN | with_reducible apply Blk.drew | with_reducible apply Blk.alloc | ((with_reducible apply Blk.beside); · (first | omega | (simp <;> omega))) | with_reducible apply Blk.store)); all_goals (first | rfl | simp)
    have ho3 : Only [g] w w3 := by rw [← hw3]; exact (by repeat (first | exact Only.refl _ _ | assumption | with_reducible refine Only.drewN ?_ _ | with_reducible refine Only.drew ?_ | with_reducible refine Only.alloc ?_ _ | ((with_reducible refine Only.put ?_ ?_ _); · (first | omega | (simp <;> omega)))))
    clear hw3
    have c1 := hm3.cell 1
    have c3 := hm3.cell 3
    have g3 := hm3.frozen 3
    simp at c1 c3
    have HM := Lib.hid hm3
    clear hm3
    go_wp2
    go_region
    all_goals
      go_wp2
      go_ret
      refine ⟨rfl, ?_, (by repeat (first | exact Only.refl _ _ | assumption | with_reducible refine Only.drewN ?_ _ | with_reducible refine Only.drew ?_ | with_reducible refine Only.alloc ?_ _ | ((with_reducible refine Only.put ?_ ?_ _); · (first | omega | (simp <;> omega)))))⟩
      have h := HM.out
      unfold Mtr at h ⊢
      (repeat (first | with_reducible assumption | with_reducible apply Blk.drewN | with_reducible apply Blk.drew | with_reducible apply Blk.alloc | ((with_reducible apply Blk.beside); · (first | omega | (simp <;> omega))) | with_reducible apply Blk.store)); all_goals (first | rfl | simp)

set_option maxRecDepth 100000 in
set_option maxHeartbeats 800000 in
theorem meterTake_over (g a u t p n : Nat) (w : World) (h : Mtr w g a u t p) (ha : a ≤ 9223372036854775807) (hu : u ≤ a) (ho : a < u + n) :
    Calls Tryz.prog 59 #[.pointer (some ⟨g, 0, none⟩), .int .i64 n] w fun e w' => e = .returned (.int .i64 5) ∧ Only [] w w' := by
  have hlt := h.lt
  have hM := (h.alloc (.cells #[.pointer (some ⟨g, 0, none⟩)] 45)).alloc (.cells #[.int .i64 n] 3)
  have e1 : ((w.alloc (.cells #[.pointer (some ⟨g, 0, none⟩)] 45)).alloc (.cells #[.int .i64 n] 3)).cell? ⟨w.heap.size + 1, 0, none⟩ = some (.int .i64 n) := by
    simp
  have e2 : ((w.alloc (.cells #[.pointer (some ⟨g, 0, none⟩)] 45)).alloc (.cells #[.int .i64 n] 3)).cell? ⟨w.heap.size, 0, none⟩ = some (.pointer (some ⟨g, 0, none⟩)) := by
    simp
  have Hc := Lib.hid (move_over g (w.heap.size + 1) w.heap.size a u t p n _ hM e1 e2 ha hu ho)
  clear hM e1 e2 h
  go_enter Tryz.func59, Tryz.ntmps59
  go_wp2_with fail
  refine Hc.out.mono ?_
  rintro e w2 ⟨rfl, k, rfl⟩
  go_wp2
  go_ret
  exact ⟨rfl, (by repeat (first | exact Only.refl _ _ | assumption | with_reducible refine Only.drewN ?_ _ | with_reducible refine Only.drew ?_ | with_reducible refine Only.alloc ?_ _ | ((with_reducible refine Only.put ?_ ?_ _); · (first | omega | (simp <;> omega)))))⟩

set_option maxRecDepth 100000 in
set_option maxHeartbeats 800000 in
theorem meterTake_ok (g a u t p n : Nat) (w : World) (h : Mtr w g a u t p) (ha : a ≤ 9223372036854775807) (ho : u + n ≤ a) (ht : t + n ≤ 9223372036854775807) :
    Calls Tryz.prog 59 #[.pointer (some ⟨g, 0, none⟩), .int .i64 n] w fun e w' => e = .returned (.int .i64 0) ∧ Mtr w' g a (u + n) (t + n) (max p (u + n)) ∧ Only [g] w w' := by
  have hlt := h.lt
  have hM := (h.alloc (.cells #[.pointer (some ⟨g, 0, none⟩)] 45)).alloc (.cells #[.int .i64 n] 3)
  have e1 : ((w.alloc (.cells #[.pointer (some ⟨g, 0, none⟩)] 45)).alloc (.cells #[.int .i64 n] 3)).cell? ⟨w.heap.size + 1, 0, none⟩ = some (.int .i64 n) := by
    simp
  have e2 : ((w.alloc (.cells #[.pointer (some ⟨g, 0, none⟩)] 45)).alloc (.cells #[.int .i64 n] 3)).cell? ⟨w.heap.size, 0, none⟩ = some (.pointer (some ⟨g, 0, none⟩)) := by
    simp
  have Hc := Lib.hid (move_ok g (w.heap.size + 1) w.heap.size a u t p n _ _ _ (Lib.hid rfl) (Lib.hid rfl) hM e1 e2 (by omega) (by omega) ha ho ht)
  clear hM e1 e2 h
  go_enter Tryz.func59, Tryz.ntmps59
  go_wp2_with fail
  refine Hc.out.mono ?_
  rintro e w2 ⟨rfl, hm, hon⟩
  go_wp2
  go_ret
  exact ⟨rfl, hm, (((Only.refl [g] w).alloc _).alloc _).trans hon⟩
end Go.Proofs.YtebllmpdlapefaaGreatDoor
