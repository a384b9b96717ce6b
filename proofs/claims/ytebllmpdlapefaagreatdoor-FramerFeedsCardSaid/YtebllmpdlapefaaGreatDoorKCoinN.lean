/- coin.Next. -/
import Derived.Test.YtebllmpdlapefaaGreatDoorKA22
import Derived.Laws.EntriesVeiled
namespace Go.Proofs.YtebllmpdlapefaaGreatDoor
set_option linter.unusedVariables false
set_option linter.unusedSimpArgs false
open Go.RowKit

/-- What coin.Next's first k questions have told. -/
structure CnOk (m : Nat) (most : Int) (s nm : ByteArray) (ln k : Nat) : Prop where
  q0 : 1 ≤ k → 4 ≤ s.size
  q1 : 2 ≤ k → s.extract 0 4 = le4 m
  q2 : 3 ≤ k → 16 ≤ s.size
  q3 : 4 ≤ k → nmGet (s.extract 4 16) = (0, nm)
  q4 : 5 ≤ k → 20 ≤ s.size
  q5 : 6 ≤ k → ln = leL (s.extract 16 20).data.toList ∧ (ln : Int) ≤ most
  q6 : 7 ≤ k → 24 ≤ s.size
  q7 : 8 ≤ k → 24 + ln ≤ s.size
  q8 : 9 ≤ k → shChk (s.extract 24 (24 + ln)) = s.extract 20 24
/-- The variables of coin.Next. -/
structure CnS (w : World) (b m : Nat) (most : Int) (s nm : ByteArray) (ln : Nat) : Prop where
  mg : Blk w b 22 #[.int .u32 m]
  mo : Blk w (b + 1) 3 #[.int .i64 most]
  tx : Blk w (b + 1 + 1) 9 #[.string s]
  fr : Blk w (b + 1 + 1 + 1) 27 #[.int .u64 0, .string ⟨#[]⟩, .string ⟨#[]⟩]
  na : Blk w (b + 1 + 1 + 1 + 1) 9 #[.string nm]
  le : Blk w (b + 1 + 1 + 1 + 1 + 1) 3 #[.int .i64 ln]
  nu : Blk w (b + 1 + 1 + 1 + 1 + 1 + 1) 138 #[nuF (b + 1 + 1)]
  k1 : Blk w (b + 1 + 1 + 1 + 1 + 1 + 1 + 1) 3 #[.int .i64 (4 : Nat)]
  k2 : Blk w (b + 1 + 1 + 1 + 1 + 1 + 1 + 1 + 1) 3 #[.int .i64 (16 : Nat)]
  k3 : Blk w (b + 1 + 1 + 1 + 1 + 1 + 1 + 1 + 1 + 1) 3 #[.int .i64 (20 : Nat)]
  k4 : Blk w (b + 1 + 1 + 1 + 1 + 1 + 1 + 1 + 1 + 1 + 1) 3 #[.int .i64 (24 : Nat)]
theorem CnS.moved {w w' : World} {b m : Nat} {most : Int} {s nm : ByteArray} {ln : Nat} (h : CnS w b m most s nm ln) (he : ∀ k, k < w.heap.size → w'.heap[k]? = w.heap[k]?) : CnS w' b m most s nm ln :=
  ⟨(he _ h.mg.lt).trans h.mg, (he _ h.mo.lt).trans h.mo, (he _ h.tx.lt).trans h.tx, (he _ h.fr.lt).trans h.fr, (he _ h.na.lt).trans h.na, (he _ h.le.lt).trans h.le, (he _ h.nu.lt).trans h.nu, (he _ h.k1.lt).trans h.k1, (he _ h.k2.lt).trans h.k2, (he _ h.k3.lt).trans h.k3, (he _ h.k4.lt).trans h.k4⟩
theorem CnS.name {w : World} {b m : Nat} {most : Int} {s nm : ByteArray} {ln : Nat} (h : CnS w b m most s nm ln) (nm' : ByteArray) : CnS (w.setCell ⟨b + 1 + 1 + 1 + 1, 0, none⟩ (.string nm')) b m most s nm' ln :=
  ⟨h.mg.far (by intro e; dsimp only at e; omega) _, h.mo.far (by intro e; dsimp only at e; omega) _, h.tx.far (by intro e; dsimp only at e; omega) _, h.fr.far (by intro e; dsimp only at e; omega) _, one_setCell h.na, h.le.far (by intro e; dsimp only at e; omega) _, h.nu.far (by intro e; dsimp only at e; omega) _, h.k1.far (by intro e; dsimp only at e; omega) _, h.k2.far (by intro e; dsimp only at e; omega) _, h.k3.far (by intro e; dsimp only at e; omega) _, h.k4.far (by intro e; dsimp only at e; omega) _⟩
theorem CnS.len {w : World} {b m : Nat} {most : Int} {s nm : ByteArray} {ln : Nat} (h : CnS w b m most s nm ln) (ln' : Nat) : CnS (w.setCell ⟨b + 1 + 1 + 1 + 1 + 1, 0, none⟩ (.int .i64 ln')) b m most s nm ln' :=
  ⟨h.mg.far (by intro e; dsimp only at e; omega) _, h.mo.far (by intro e; dsimp only at e; omega) _, h.tx.far (by intro e; dsimp only at e; omega) _, h.fr.far (by intro e; dsimp only at e; omega) _, h.na.far (by intro e; dsimp only at e; omega) _, one_setCell h.le, h.nu.far (by intro e; dsimp only at e; omega) _, h.k1.far (by intro e; dsimp only at e; omega) _, h.k2.far (by intro e; dsimp only at e; omega) _, h.k3.far (by intro e; dsimp only at e; omega) _, h.k4.far (by intro e; dsimp only at e; omega) _⟩
theorem CnOk.zero {m : Nat} {most : Int} {s nm : ByteArray} {ln : Nat} : CnOk m most s nm ln 0 := ⟨by omega, by omega, by omega, by omega, by omega, by omega, by omega, by omega, by omega⟩
/-- What the frame is once a question fails. -/
theorem CnOk.no0 {m : Nat} {most : Int} {s : ByteArray} (h : ¬ 4 ≤ s.size) : cnNext m most s = (2, ByteArray.empty, ByteArray.empty, 0) := by rw [cnNext_eq, if_pos (by omega)]
theorem CnOk.no1 {m : Nat} {most : Int} {s nm : ByteArray} {ln : Nat} (k : CnOk m most s nm ln 1) (hm : m < 4294967296) (h : leL (s.extract 0 4).data.toList ≠ m) : cnNext m most s = (9, ByteArray.empty, ByteArray.empty, 0) := by
  have := k.q0 (by omega)
  rw [cnNext_eq, if_neg (by omega), if_pos]
  intro e; exact h ((le4_eq _ _ (size_cut _ _ _ (by omega)) hm).1 e)
theorem CnOk.no2 {m : Nat} {most : Int} {s nm : ByteArray} {ln : Nat} (k : CnOk m most s nm ln 2) (h : ¬ 16 ≤ s.size) : cnNext m most s = (2, ByteArray.empty, ByteArray.empty, 0) := by
  have := k.q0 (by omega)
  rw [cnNext_eq, if_neg (by omega), if_neg (by simpa using k.q1 (by omega)), if_pos (by omega)]
theorem CnOk.no3 {m : Nat} {most : Int} {s nm : ByteArray} {ln : Nat} (k : CnOk m most s nm ln 3) (h : nmGet (s.extract 4 16) = (3, ByteArray.empty)) : cnNext m most s = (3, ByteArray.empty, ByteArray.empty, 0) := by
  have := k.q2 (by omega)
  rw [cnNext_eq, if_neg (by omega), if_neg (by simpa using k.q1 (by omega)), if_neg (by omega), if_pos (by rw [h]; simp)]
theorem CnOk.no4 {m : Nat} {most : Int} {s nm : ByteArray} {ln : Nat} (k : CnOk m most s nm ln 4) (h : ¬ 20 ≤ s.size) : cnNext m most s = (2, ByteArray.empty, ByteArray.empty, 0) := by
  have := k.q2 (by omega)
  rw [cnNext_eq, if_neg (by omega), if_neg (by simpa using k.q1 (by omega)), if_neg (by omega), if_neg (by rw [k.q3 (by omega)]; simp), if_pos (by omega)]
theorem CnOk.no5 {m : Nat} {most : Int} {s nm : ByteArray} {ln : Nat} (k : CnOk m most s nm ln 5) (h : ¬ (leL (s.extract 16 20).data.toList : Int) ≤ most) : cnNext m most s = (5, ByteArray.empty, ByteArray.empty, 0) := by
  have := k.q4 (by omega)
  rw [cnNext_eq, if_neg (by omega), if_neg (by simpa using k.q1 (by omega)), if_neg (by omega), if_neg (by rw [k.q3 (by omega)]; simp), if_neg (by omega), if_pos (by omega)]
theorem CnOk.no7 {m : Nat} {most : Int} {s nm : ByteArray} {ln : Nat} (k : CnOk m most s nm ln 6) (h : ¬ 24 + ln ≤ s.size) : cnNext m most s = (2, ByteArray.empty, ByteArray.empty, 0) := by
  have := k.q4 (by omega)
  obtain ⟨e, h6⟩ := k.q5 (by omega)
  rw [e] at h6 h
  rw [cnNext_eq, if_neg (by omega), if_neg (by simpa using k.q1 (by omega)), if_neg (by omega), if_neg (by rw [k.q3 (by omega)]; simp), if_neg (by omega), if_neg (by omega), if_pos (by omega)]
theorem CnOk.no7' {m : Nat} {most : Int} {s nm : ByteArray} {ln : Nat} (k : CnOk m most s nm ln 7) (h : ¬ 24 + ln ≤ s.size) : cnNext m most s = (2, ByteArray.empty, ByteArray.empty, 0) :=
  CnOk.no7 ⟨k.q0 ∘ fun _ => by omega, k.q1 ∘ fun _ => by omega, k.q2 ∘ fun _ => by omega, k.q3 ∘ fun _ => by omega, k.q4 ∘ fun _ => by omega, k.q5 ∘ fun _ => by omega, by omega, by omega, by omega⟩ h
theorem CnOk.no8 {m : Nat} {most : Int} {s nm : ByteArray} {ln : Nat} (k : CnOk m most s nm ln 8) (h : ¬ shChk (s.extract 24 (24 + ln)) = s.extract 20 24) : cnNext m most s = (10, ByteArray.empty, ByteArray.empty, 0) := by
  have := k.q4 (by omega)
  have h7 := k.q7 (by omega)
  obtain ⟨e, h6⟩ := k.q5 (by omega)
  rw [e] at h6 h h7
  rw [cnNext_eq, if_neg (by omega), if_neg (by simpa using k.q1 (by omega)), if_neg (by omega), if_neg (by rw [k.q3 (by omega)]; simp), if_neg (by omega), if_neg (by omega), if_neg (by omega), if_pos h]
theorem CnOk.yes {m : Nat} {most : Int} {s nm : ByteArray} {ln : Nat} (k : CnOk m most s nm ln 9) : cnNext m most s = (0, nm, s.extract 24 (24 + ln), 24 + ln) := by
  have := k.q4 (by omega)
  have h7 := k.q7 (by omega)
  have h8 := k.q8 (by omega)
  obtain ⟨e, h6⟩ := k.q5 (by omega)
  rw [e] at h6 h7 h8 ⊢
  rw [cnNext_eq, if_neg (by omega), if_neg (by simpa using k.q1 (by omega)), if_neg (by omega), if_neg (by rw [k.q3 (by omega)]; simp), if_neg (by omega), if_neg (by omega), if_neg (by omega), if_neg (by simpa using h8), k.q3 (by omega)]
theorem CnOk.st0 {m : Nat} {most : Int} {s nm : ByteArray} {ln : Nat} (h : CnOk m most s nm ln 0) (hn : 4 ≤ s.size) : CnOk m most s nm ln 1 := ⟨fun _ => hn, by omega, by omega, by omega, by omega, by omega, by omega, by omega, by omega⟩
theorem CnOk.st1 {m : Nat} {most : Int} {s nm : ByteArray} {ln : Nat} (h : CnOk m most s nm ln 1) (hn : s.extract 0 4 = le4 m) : CnOk m most s nm ln 2 := ⟨fun _ => h.q0 (by omega), fun _ => hn, by omega, by omega, by omega, by omega, by omega, by omega, by omega⟩
theorem CnOk.st2 {m : Nat} {most : Int} {s nm : ByteArray} {ln : Nat} (h : CnOk m most s nm ln 2) (hn : 16 ≤ s.size) : CnOk m most s nm ln 3 := ⟨fun _ => h.q0 (by omega), fun _ => h.q1 (by omega), fun _ => hn, by omega, by omega, by omega, by omega, by omega, by omega⟩
theorem CnOk.st3 {m : Nat} {most : Int} {s nm nm' : ByteArray} {ln : Nat} (h : CnOk m most s nm ln 3) (hn : nmGet (s.extract 4 16) = (0, nm')) : CnOk m most s nm' ln 4 := ⟨fun _ => h.q0 (by omega), fun _ => h.q1 (by omega), fun _ => h.q2 (by omega), fun _ => hn, by omega, by omega, by omega, by omega, by omega⟩
theorem CnOk.st4 {m : Nat} {most : Int} {s nm : ByteArray} {ln : Nat} (h : CnOk m most s nm ln 4) (hn : 20 ≤ s.size) : CnOk m most s nm ln 5 := ⟨fun _ => h.q0 (by omega), fun _ => h.q1 (by omega), fun _ => h.q2 (by omega), fun _ => h.q3 (by omega), fun _ => hn, by omega, by omega, by omega, by omega⟩
theorem CnOk.st5 {m : Nat} {most : Int} {s nm : ByteArray} {ln : Nat} (h : CnOk m most s nm ln 5) (hn : (leL (s.extract 16 20).data.toList : Int) ≤ most) : CnOk m most s nm (leL (s.extract 16 20).data.toList) 6 := ⟨fun _ => h.q0 (by omega), fun _ => h.q1 (by omega), fun _ => h.q2 (by omega), fun _ => h.q3 (by omega), fun _ => h.q4 (by omega), fun _ => ⟨rfl, hn⟩, by omega, by omega, by omega⟩
theorem CnOk.st6 {m : Nat} {most : Int} {s nm : ByteArray} {ln : Nat} (h : CnOk m most s nm ln 6) (hn : 24 ≤ s.size) : CnOk m most s nm ln 7 := ⟨fun _ => h.q0 (by omega), fun _ => h.q1 (by omega), fun _ => h.q2 (by omega), fun _ => h.q3 (by omega), fun _ => h.q4 (by omega), fun _ => h.q5 (by omega), fun _ => hn, by omega, by omega⟩
theorem CnOk.st7 {m : Nat} {most : Int} {s nm : ByteArray} {ln : Nat} (h : CnOk m most s nm ln 7) (hn : 24 + ln ≤ s.size) : CnOk m most s nm ln 8 := ⟨fun _ => h.q0 (by omega), fun _ => h.q1 (by omega), fun _ => h.q2 (by omega), fun _ => h.q3 (by omega), fun _ => h.q4 (by omega), fun _ => h.q5 (by omega), fun _ => h.q6 (by omega), fun _ => hn, by omega⟩
theorem CnOk.st8 {m : Nat} {most : Int} {s nm : ByteArray} {ln : Nat} (h : CnOk m most s nm ln 8) (hn : shChk (s.extract 24 (24 + ln)) = s.extract 20 24) : CnOk m most s nm ln 9 := ⟨fun _ => h.q0 (by omega), fun _ => h.q1 (by omega), fun _ => h.q2 (by omega), fun _ => h.q3 (by omega), fun _ => h.q4 (by omega), fun _ => h.q5 (by omega), fun _ => h.q6 (by omega), fun _ => h.q7 (by omega), fun _ => hn⟩
theorem run_index_funcs (c0 c1 c2 c3 c4 c5 c6 c7 c8 : Value) (w : World) (i : Nat) (hi : i < 9) :
    (Instr.index 142 (.agg #[c0, c1, c2, c3, c4, c5, c6, c7, c8]) (.int .i64 i)).run Tryz.prog w = .ok (#[c0, c1, c2, c3, c4, c5, c6, c7, c8].getD i undef) w := by
  have hd := Tryz.underlying142
  have h3 : i = 0 ∨ i = 1 ∨ i = 2 ∨ i = 3 ∨ i = 4 ∨ i = 5 ∨ i = 6 ∨ i = 7 ∨ i = 8 := by omega
  rcases h3 with rfl | rfl | rfl | rfl | rfl | rfl | rfl | rfl | rfl
  all_goals
    simp [Instr.index, asIntOf, run_underlying hd, go_sem]
theorem rif0 (c0 c1 c2 c3 c4 c5 c6 c7 c8 : Value) (w : World) : (Instr.index 142 (.agg #[c0, c1, c2, c3, c4, c5, c6, c7, c8]) (.int .i64 0)).run Tryz.prog w = .ok c0 w := run_index_funcs c0 c1 c2 c3 c4 c5 c6 c7 c8 w 0 (by omega)
theorem rif1 (c0 c1 c2 c3 c4 c5 c6 c7 c8 : Value) (w : World) : (Instr.index 142 (.agg #[c0, c1, c2, c3, c4, c5, c6, c7, c8]) (.int .i64 1)).run Tryz.prog w = .ok c1 w := run_index_funcs c0 c1 c2 c3 c4 c5 c6 c7 c8 w 1 (by omega)
theorem rif2 (c0 c1 c2 c3 c4 c5 c6 c7 c8 : Value) (w : World) : (Instr.index 142 (.agg #[c0, c1, c2, c3, c4, c5, c6, c7, c8]) (.int .i64 2)).run Tryz.prog w = .ok c2 w := run_index_funcs c0 c1 c2 c3 c4 c5 c6 c7 c8 w 2 (by omega)
theorem rif3 (c0 c1 c2 c3 c4 c5 c6 c7 c8 : Value) (w : World) : (Instr.index 142 (.agg #[c0, c1, c2, c3, c4, c5, c6, c7, c8]) (.int .i64 3)).run Tryz.prog w = .ok c3 w := run_index_funcs c0 c1 c2 c3 c4 c5 c6 c7 c8 w 3 (by omega)
theorem rif4 (c0 c1 c2 c3 c4 c5 c6 c7 c8 : Value) (w : World) : (Instr.index 142 (.agg #[c0, c1, c2, c3, c4, c5, c6, c7, c8]) (.int .i64 4)).run Tryz.prog w = .ok c4 w := run_index_funcs c0 c1 c2 c3 c4 c5 c6 c7 c8 w 4 (by omega)
theorem rif5 (c0 c1 c2 c3 c4 c5 c6 c7 c8 : Value) (w : World) : (Instr.index 142 (.agg #[c0, c1, c2, c3, c4, c5, c6, c7, c8]) (.int .i64 5)).run Tryz.prog w = .ok c5 w := run_index_funcs c0 c1 c2 c3 c4 c5 c6 c7 c8 w 5 (by omega)
theorem rif6 (c0 c1 c2 c3 c4 c5 c6 c7 c8 : Value) (w : World) : (Instr.index 142 (.agg #[c0, c1, c2, c3, c4, c5, c6, c7, c8]) (.int .i64 6)).run Tryz.prog w = .ok c6 w := run_index_funcs c0 c1 c2 c3 c4 c5 c6 c7 c8 w 6 (by omega)
theorem rif7 (c0 c1 c2 c3 c4 c5 c6 c7 c8 : Value) (w : World) : (Instr.index 142 (.agg #[c0, c1, c2, c3, c4, c5, c6, c7, c8]) (.int .i64 7)).run Tryz.prog w = .ok c7 w := run_index_funcs c0 c1 c2 c3 c4 c5 c6 c7 c8 w 7 (by omega)
theorem rif8 (c0 c1 c2 c3 c4 c5 c6 c7 c8 : Value) (w : World) : (Instr.index 142 (.agg #[c0, c1, c2, c3, c4, c5, c6, c7, c8]) (.int .i64 8)).run Tryz.prog w = .ok c8 w := run_index_funcs c0 c1 c2 c3 c4 c5 c6 c7 c8 w 8 (by omega)
attribute [local go_sem] rif0 rif1 rif2 rif3 rif4 rif5 rif6 rif7 rif8
theorem blk_a {w : World} {g : Nat} {t : TypeId} {cs : Array Value} (h : Blk w g t cs) (o : Obj) : Blk (w.alloc o) g t cs := h.alloc o
theorem blk_n (w : World) (t : TypeId) (cs : Array Value) (n : Nat) (h : w.heap.size = n) : Blk (w.alloc (.cells cs t)) n t cs := by subst h; exact Blk.new w t cs
theorem CnS.made (w : World) (m : Nat) (most : Int) (s : ByteArray) (o : Obj) : CnS ((((((((((((w.alloc (.cells #[.int .u32 m] 22)).alloc (.cells #[.int .i64 most] 3)).alloc (.cells #[.string s] 9)).alloc (.cells #[.int .u64 0, .string ⟨#[]⟩, .string ⟨#[]⟩] 27)).alloc (.cells #[.string ⟨#[]⟩] 9)).alloc (.cells #[.int .i64 0] 3)).alloc (.cells #[nuF (w.heap.size + 1 + 1)] 138)).alloc (.cells #[.int .i64 (4 : Nat)] 3)).alloc (.cells #[.int .i64 (16 : Nat)] 3)).alloc (.cells #[.int .i64 (20 : Nat)] 3)).alloc (.cells #[.int .i64 (24 : Nat)] 3)).alloc o) w.heap.size m most s ⟨#[]⟩ 0 := by
  constructor
  · exact (blk_a (blk_a (blk_a (blk_a (blk_a (blk_a (blk_a (blk_a (blk_a (blk_a (blk_a (blk_n _ _ _ _ (by simp)) _) _) _) _) _) _) _) _) _) _) _)
  · exact (blk_a (blk_a (blk_a (blk_a (blk_a (blk_a (blk_a (blk_a (blk_a (blk_a (blk_n _ _ _ _ (by simp)) _) _) _) _) _) _) _) _) _) _)
  · exact (blk_a (blk_a (blk_a (blk_a (blk_a (blk_a (blk_a (blk_a (blk_a (blk_n _ _ _ _ (by simp)) _) _) _) _) _) _) _) _) _)
  · exact (blk_a (blk_a (blk_a (blk_a (blk_a (blk_a (blk_a (blk_a (blk_n _ _ _ _ (by simp)) _) _) _) _) _) _) _) _)
  · exact (blk_a (blk_a (blk_a (blk_a (blk_a (blk_a (blk_a (blk_n _ _ _ _ (by simp)) _) _) _) _) _) _) _)
  · exact (blk_a (blk_a (blk_a (blk_a (blk_a (blk_a (blk_n _ _ _ _ (by simp)) _) _) _) _) _) _)
  · exact (blk_a (blk_a (blk_a (blk_a (blk_a (blk_n _ _ _ _ (by simp)) _) _) _) _) _)
  · exact (blk_a (blk_a (blk_a (blk_a (blk_n _ _ _ _ (by simp)) _) _) _) _)
  · exact (blk_a (blk_a (blk_a (blk_n _ _ _ _ (by simp)) _) _) _)
  · exact (blk_a (blk_a (blk_n _ _ _ _ (by simp)) _) _)
  · exact (blk_a (blk_n _ _ _ _ (by simp)) _)
set_option maxRecDepth 100000 in
set_option maxHeartbeats 4000000 in
theorem coinNext_c (m : Nat) (most : Int) (s : ByteArray) (w : World) (hm : m < 4294967296) (hs : s.size ≤ 1099511627776) (hmo : -9223372036854775808 ≤ most ∧ most ≤ 9223372036854775807) (hNN : (s.size : Int) ≤ 90000 ∨ most ≤ 90000) :
    Calls Tryz.prog 67 #[.int .u32 m, .int .i64 most, .string s] w fun e w' => e = .returned (cnRet (cnNext m most s)) ∧ Below w.heap.size w w' := by
  have HR := Lib.hid (fun b k w => reaches_c b k w)
  go_enter Tryz.func67, Tryz.ntmps67
  go_wp2_with fail
  refine (HR.out _ 4 _).mono ?_
  rintro e w1 ⟨rfl, rfl⟩
  go_wp2_with fail
  refine (HR.out _ 16 _).mono ?_
  rintro e w1 ⟨rfl, rfl⟩
  go_wp2_with fail
  refine (HR.out _ 20 _).mono ?_
  rintro e w1 ⟨rfl, rfl⟩
  go_wp2_with fail
  refine (HR.out _ 24 _).mono ?_
  rintro e w1 ⟨rfl, rfl⟩
  go_wp2_with fail
  generalize hW : World.alloc _ (Obj.cells _ 142) = W0
  have HS0 : Hid (CnS W0 w.heap.size m most s ⟨#[]⟩ 0) := Lib.hid (by
    rw [← hW]
    exact CnS.made w m most s _)
  have HB0 : Hid (Below w.heap.size w W0) := Lib.hid (by rw [← hW]; exact (by repeat (first | exact Below.refl _ _ | assumption | with_reducible refine Below.drewN' ?_ _ | with_reducible refine Below.drew ?_ | ((with_reducible refine Below.alloc' ?_ ?_ _); · (first | omega | (simp <;> omega))))))
  clear hW
  go_loopw [34] (fun i wr => ∃ (k : Nat) (nm : ByteArray) (ln : Nat), k ≤ 9 ∧ i = .int .i64 k ∧ CnS wr w.heap.size m most s nm ln ∧ CnOk m most s nm ln k ∧ Below w.heap.size w wr) (fun i _ => 9 - (intOf i).toNat)
  case atStart => exact ⟨0, _, _, by omega, rfl, HS0.out, CnOk.zero, HB0.out⟩
  case round =>
    obtain ⟨k, nm, ln, hk, rfl, hS, hO, hB⟩ := hrel
    have HS := Lib.hid hS
    have HO := Lib.hid hO
    have HB := Lib.hid hB
    clear hS hO hB
    have hk9 : k = 0 ∨ k = 1 ∨ k = 2 ∨ k = 3 ∨ k = 4 ∨ k = 5 ∨ k = 6 ∨ k = 7 ∨ k = 8 ∨ k = 9 := by omega
    rcases hk9 with rfl | rfl | rfl | rfl | rfl | rfl | rfl | rfl | rfl | rfl
    · have HC := Lib.hid (fun (_ : Unit) => reach_c s _ _ 4 wr HS.out.tx HS.out.k1 (by omega) (by omega))
      by_cases h : 4 ≤ s.size
      · simp only [if_pos h] at HC
        go_wp2_with fail
        refine (HC.out ()).mono ?_
        rintro e w1 ⟨rfl, rfl⟩
        go_wp2
        go_roundw
        case rel => exact ⟨1, _, _, by omega, rfl, HS.out, HO.out.st0 h, HB.out⟩
        case measure => simp [intOf]
      · simp only [if_neg h] at HC
        have HX := Lib.hid (CnOk.no0 (m := m) (most := most) h)
        go_wp2_with fail
        refine (HC.out ()).mono ?_
        rintro e w1 ⟨rfl, rfl⟩
        obtain ⟨g0, g1, g2, f0, f1, f2⟩ := blk3 HS.out.fr
        go_wp2
        have HC3 := Lib.hid (cset3 HS.out.fr (.int .u64 0) (.string ⟨#[]⟩) (.string ⟨#[]⟩))
        obtain ⟨c0, c1, c2, _, _, _⟩ := blk3 HC3.out
        refine bodyPost_ret (v := .tuple #[.agg #[.int .u64 0, .string ⟨#[]⟩, .string ⟨#[]⟩], .int .i64 0, .int .i64 2]) (by simp [results, Tryz.results67, go_sem, c0, c1, c2]) rfl ?_
        rw [HX.out]
        exact ⟨rfl, below3 HB.out (by omega) _ _ _⟩
    · have HC := Lib.hid (fun (_ : Unit) => magic_c s _ _ _ m wr HS.out.tx HS.out.nu HS.out.mg hm (by omega) (HO.out.q0 (by omega)))
      by_cases h : leL (s.extract 0 4).data.toList = m
      · simp only [if_pos h] at HC
        have hn : s.extract 0 4 = le4 m := (le4_eq _ _ (size_cut _ _ _ (HO.out.q0 (by omega))) hm).2 h
        have HN := Lib.hid hn
        clear h hn
        go_wp2_with fail
        refine (HC.out ()).mono ?_
        rintro e w1 ⟨rfl, n, rfl⟩
        replace HS := Lib.hid (HS.out.moved (w' := wr.drewN n) (by intro k hk; simp))
        replace HB : Hid (Below w.heap.size w (wr.drewN n)) := Lib.hid (Below.drewN' HB.out n)
        go_wp2
        go_roundw
        case rel => exact ⟨2, _, _, by omega, rfl, HS.out, HO.out.st1 HN.out, HB.out⟩
        case measure => simp [intOf]
      · simp only [if_neg h] at HC
        have HX := Lib.hid (HO.out.no1 hm h)
        clear h
        go_wp2_with fail
        refine (HC.out ()).mono ?_
        rintro e w1 ⟨rfl, n, rfl⟩
        replace HS := Lib.hid (HS.out.moved (w' := wr.drewN n) (by intro k hk; simp))
        replace HB : Hid (Below w.heap.size w (wr.drewN n)) := Lib.hid (Below.drewN' HB.out n)
        obtain ⟨g0, g1, g2, f0, f1, f2⟩ := blk3 HS.out.fr
        go_wp2
        have HC3 := Lib.hid (cset3 HS.out.fr (.int .u64 0) (.string ⟨#[]⟩) (.string ⟨#[]⟩))
        obtain ⟨c0, c1, c2, _, _, _⟩ := blk3 HC3.out
        refine bodyPost_ret (v := .tuple #[.agg #[.int .u64 0, .string ⟨#[]⟩, .string ⟨#[]⟩], .int .i64 0, .int .i64 9]) (by simp [results, Tryz.results67, go_sem, c0, c1, c2]) rfl ?_
        rw [HX.out]
        exact ⟨rfl, below3 HB.out (by omega) _ _ _⟩
    · have HC := Lib.hid (fun (_ : Unit) => reach_c s _ _ 16 wr HS.out.tx HS.out.k2 (by omega) (by omega))
      by_cases h : 16 ≤ s.size
      · simp only [if_pos h] at HC
        go_wp2_with fail
        refine (HC.out ()).mono ?_
        rintro e w1 ⟨rfl, rfl⟩
        go_wp2
        go_roundw
        case rel => exact ⟨3, _, _, by omega, rfl, HS.out, HO.out.st2 h, HB.out⟩
        case measure => simp [intOf]
      · simp only [if_neg h] at HC
        have HX := Lib.hid (HO.out.no2 h)
        go_wp2_with fail
        refine (HC.out ()).mono ?_
        rintro e w1 ⟨rfl, rfl⟩
        obtain ⟨g0, g1, g2, f0, f1, f2⟩ := blk3 HS.out.fr
        go_wp2
        have HC3 := Lib.hid (cset3 HS.out.fr (.int .u64 0) (.string ⟨#[]⟩) (.string ⟨#[]⟩))
        obtain ⟨c0, c1, c2, _, _, _⟩ := blk3 HC3.out
        refine bodyPost_ret (v := .tuple #[.agg #[.int .u64 0, .string ⟨#[]⟩, .string ⟨#[]⟩], .int .i64 0, .int .i64 2]) (by simp [results, Tryz.results67, go_sem, c0, c1, c2]) rfl ?_
        rw [HX.out]
        exact ⟨rfl, below3 HB.out (by omega) _ _ _⟩
    · have HC := Lib.hid (fun (_ : Unit) => cname_c s _ _ _ wr HS.out.tx HS.out.na (by omega) (by omega) (HO.out.q2 (by omega)))
      rcases nmGet_cases (s.extract 4 16) with hg | ⟨t, hg⟩
      · have HX := Lib.hid (HO.out.no3 hg)
        simp only [hg] at HC
        clear hg
        replace HS := Lib.hid (HS.out.name ByteArray.empty)
        replace HB : Hid (Below w.heap.size w (wr.setCell ⟨w.heap.size + 1 + 1 + 1 + 1, 0, none⟩ (.string ByteArray.empty))) := Lib.hid (HB.out.setCell (by show w.heap.size ≤ w.heap.size + 1 + 1 + 1 + 1; omega) _)
        go_wp2_with fail
        refine (HC.out ()).mono ?_
        rintro e w1 ⟨rfl, rfl⟩
        obtain ⟨g0, g1, g2, f0, f1, f2⟩ := blk3 HS.out.fr
        go_wp2
        have HC3 := Lib.hid (cset3 HS.out.fr (.int .u64 0) (.string ⟨#[]⟩) (.string ⟨#[]⟩))
        obtain ⟨c0, c1, c2, _, _, _⟩ := blk3 HC3.out
        refine bodyPost_ret (v := .tuple #[.agg #[.int .u64 0, .string ⟨#[]⟩, .string ⟨#[]⟩], .int .i64 0, .int .i64 3]) (by simp [results, Tryz.results67, go_sem, c0, c1, c2]) rfl ?_
        rw [HX.out]
        exact ⟨rfl, below3 HB.out (by omega) _ _ _⟩
      · have HG := Lib.hid hg
        simp only [hg] at HC
        clear hg
        replace HS := Lib.hid (HS.out.name t)
        replace HB : Hid (Below w.heap.size w (wr.setCell ⟨w.heap.size + 1 + 1 + 1 + 1, 0, none⟩ (.string t))) := Lib.hid (HB.out.setCell (by show w.heap.size ≤ w.heap.size + 1 + 1 + 1 + 1; omega) _)
        go_wp2_with fail
        refine (HC.out ()).mono ?_
        rintro e w1 ⟨rfl, rfl⟩
        go_wp2
        go_roundw
        case rel => exact ⟨4, _, _, by omega, rfl, HS.out, HO.out.st3 HG.out, HB.out⟩
        case measure => simp [intOf]
    · have HC := Lib.hid (fun (_ : Unit) => reach_c s _ _ 20 wr HS.out.tx HS.out.k3 (by omega) (by omega))
      by_cases h : 20 ≤ s.size
      · simp only [if_pos h] at HC
        go_wp2_with fail
        refine (HC.out ()).mono ?_
        rintro e w1 ⟨rfl, rfl⟩
        go_wp2
        go_roundw
        case rel => exact ⟨5, _, _, by omega, rfl, HS.out, HO.out.st4 h, HB.out⟩
        case measure => simp [intOf]
      · simp only [if_neg h] at HC
        have HX := Lib.hid (HO.out.no4 h)
        go_wp2_with fail
        refine (HC.out ()).mono ?_
        rintro e w1 ⟨rfl, rfl⟩
        obtain ⟨g0, g1, g2, f0, f1, f2⟩ := blk3 HS.out.fr
        go_wp2
        have HC3 := Lib.hid (cset3 HS.out.fr (.int .u64 0) (.string ⟨#[]⟩) (.string ⟨#[]⟩))
        obtain ⟨c0, c1, c2, _, _, _⟩ := blk3 HC3.out
        refine bodyPost_ret (v := .tuple #[.agg #[.int .u64 0, .string ⟨#[]⟩, .string ⟨#[]⟩], .int .i64 0, .int .i64 2]) (by simp [results, Tryz.results67, go_sem, c0, c1, c2]) rfl ?_
        rw [HX.out]
        exact ⟨rfl, below3 HB.out (by omega) _ _ _⟩
    · have HC := Lib.hid (fun (_ : Unit) => clen_c s _ _ _ _ _ most wr HS.out.tx HS.out.nu HS.out.le HS.out.mo (by omega) (by omega) (HO.out.q4 (by omega)))
      replace HS := Lib.hid (HS.out.len (leL (s.extract 16 20).data.toList))
      replace HB : Hid (Below w.heap.size w (wr.setCell ⟨w.heap.size + 1 + 1 + 1 + 1 + 1, 0, none⟩ (.int .i64 (leL (s.extract 16 20).data.toList)))) := Lib.hid (HB.out.setCell (by show w.heap.size ≤ w.heap.size + 1 + 1 + 1 + 1 + 1; omega) _)
      by_cases h : (leL (s.extract 16 20).data.toList : Int) ≤ most
      · simp only [if_pos h] at HC
        have HN := Lib.hid (HO.out.st5 h)
        clear h
        generalize leL (s.extract 16 20).data.toList = N at *
        go_wp2_with fail
        refine (HC.out ()).mono ?_
        rintro e w1 ⟨rfl, rfl⟩
        go_wp2
        go_roundw
        case rel => exact ⟨6, _, _, by omega, rfl, HS.out, HN.out, HB.out⟩
        case measure => simp [intOf]
      · simp only [if_neg h] at HC
        have HX := Lib.hid (HO.out.no5 h)
        clear h
        generalize leL (s.extract 16 20).data.toList = N at *
        go_wp2_with fail
        refine (HC.out ()).mono ?_
        rintro e w1 ⟨rfl, rfl⟩
        obtain ⟨g0, g1, g2, f0, f1, f2⟩ := blk3 HS.out.fr
        go_wp2
        have HC3 := Lib.hid (cset3 HS.out.fr (.int .u64 0) (.string ⟨#[]⟩) (.string ⟨#[]⟩))
        obtain ⟨c0, c1, c2, _, _, _⟩ := blk3 HC3.out
        refine bodyPost_ret (v := .tuple #[.agg #[.int .u64 0, .string ⟨#[]⟩, .string ⟨#[]⟩], .int .i64 0, .int .i64 5]) (by simp [results, Tryz.results67, go_sem, c0, c1, c2]) rfl ?_
        rw [HX.out]
        exact ⟨rfl, below3 HB.out (by omega) _ _ _⟩
    · have HC := Lib.hid (fun (_ : Unit) => reach_c s _ _ 24 wr HS.out.tx HS.out.k4 (by omega) (by omega))
      by_cases h : 24 ≤ s.size
      · simp only [if_pos h] at HC
        go_wp2_with fail
        refine (HC.out ()).mono ?_
        rintro e w1 ⟨rfl, rfl⟩
        go_wp2
        go_roundw
        case rel => exact ⟨7, _, _, by omega, rfl, HS.out, HO.out.st6 h, HB.out⟩
        case measure => simp [intOf]
      · simp only [if_neg h] at HC
        have HX := Lib.hid (HO.out.no7 (by omega))
        go_wp2_with fail
        refine (HC.out ()).mono ?_
        rintro e w1 ⟨rfl, rfl⟩
        obtain ⟨g0, g1, g2, f0, f1, f2⟩ := blk3 HS.out.fr
        go_wp2
        have HC3 := Lib.hid (cset3 HS.out.fr (.int .u64 0) (.string ⟨#[]⟩) (.string ⟨#[]⟩))
        obtain ⟨c0, c1, c2, _, _, _⟩ := blk3 HC3.out
        refine bodyPost_ret (v := .tuple #[.agg #[.int .u64 0, .string ⟨#[]⟩, .string ⟨#[]⟩], .int .i64 0, .int .i64 2]) (by simp [results, Tryz.results67, go_sem, c0, c1, c2]) rfl ?_
        rw [HX.out]
        exact ⟨rfl, below3 HB.out (by omega) _ _ _⟩
    · have hl : ln < 4294967296 := by
        rw [(HO.out.q5 (by omega)).1]; exact leL4_lt _ (size_cut _ _ _ (HO.out.q4 (by omega)))
      have HC := Lib.hid (fun (_ : Unit) => crest_c s _ _ ln wr HS.out.tx HS.out.le (by omega) hl)
      clear hl
      by_cases h : 24 + ln ≤ s.size
      · simp only [if_pos h] at HC
        go_wp2_with fail
        refine (HC.out ()).mono ?_
        rintro e w1 ⟨rfl, rfl⟩
        go_wp2
        go_roundw
        case rel => exact ⟨8, _, _, by omega, rfl, HS.out, HO.out.st7 h, HB.out⟩
        case measure => simp [intOf]
      · simp only [if_neg h] at HC
        have HX := Lib.hid (CnOk.no7' HO.out h)
        go_wp2_with fail
        refine (HC.out ()).mono ?_
        rintro e w1 ⟨rfl, rfl⟩
        obtain ⟨g0, g1, g2, f0, f1, f2⟩ := blk3 HS.out.fr
        go_wp2
        have HC3 := Lib.hid (cset3 HS.out.fr (.int .u64 0) (.string ⟨#[]⟩) (.string ⟨#[]⟩))
        obtain ⟨c0, c1, c2, _, _, _⟩ := blk3 HC3.out
        refine bodyPost_ret (v := .tuple #[.agg #[.int .u64 0, .string ⟨#[]⟩, .string ⟨#[]⟩], .int .i64 0, .int .i64 2]) (by simp [results, Tryz.results67, go_sem, c0, c1, c2]) rfl ?_
        rw [HX.out]
        exact ⟨rfl, below3 HB.out (by omega) _ _ _⟩
    · have HC := Lib.hid (fun (_ : Unit) => csum_c s _ _ ln wr HS.out.tx HS.out.le hs (HO.out.q7 (by omega)) (by have := (HO.out.q5 (by omega)).2; have := HO.out.q7 (by omega); omega))
      by_cases h : shChk (s.extract 24 (24 + ln)) = s.extract 20 24
      · simp only [if_pos h] at HC
        have HN := Lib.hid h
        clear h
        go_wp2_with fail
        refine (HC.out ()).mono ?_
        rintro e w1 ⟨rfl, hb1⟩
        replace HS := Lib.hid (HS.out.moved (w' := w1) hb1.block)
        replace HB : Hid (Below w.heap.size w w1) := Lib.hid (HB.out.trans (hb1.mono HB.out.size))
        clear hb1
        go_wp2
        go_roundw
        case rel => exact ⟨9, _, _, by omega, rfl, HS.out, HO.out.st8 HN.out, HB.out⟩
        case measure => simp [intOf]
      · simp only [if_neg h] at HC
        have HX := Lib.hid (HO.out.no8 h)
        clear h
        go_wp2_with fail
        refine (HC.out ()).mono ?_
        rintro e w1 ⟨rfl, hb1⟩
        replace HS := Lib.hid (HS.out.moved (w' := w1) hb1.block)
        replace HB : Hid (Below w.heap.size w w1) := Lib.hid (HB.out.trans (hb1.mono HB.out.size))
        clear hb1
        obtain ⟨g0, g1, g2, f0, f1, f2⟩ := blk3 HS.out.fr
        go_wp2
        have HC3 := Lib.hid (cset3 HS.out.fr (.int .u64 0) (.string ⟨#[]⟩) (.string ⟨#[]⟩))
        obtain ⟨c0, c1, c2, _, _, _⟩ := blk3 HC3.out
        refine bodyPost_ret (v := .tuple #[.agg #[.int .u64 0, .string ⟨#[]⟩, .string ⟨#[]⟩], .int .i64 0, .int .i64 10]) (by simp [results, Tryz.results67, go_sem, c0, c1, c2]) rfl ?_
        rw [HX.out]
        exact ⟨rfl, below3 HB.out (by omega) _ _ _⟩
    · have HX := Lib.hid HO.out.yes
      have h7 := HO.out.q7 (by omega)
      have HNI : (24 : Int) + ln ≤ s.size := by omega
      have p0 : (0 : Int) ≤ 24 + ln := by omega
      have p3 : (24 : Int) ≤ s.size := by omega
      have p4 : IntKind.i64.wrap (24 + (ln : Int)) = 24 + ln := IntWalk.i64_in _ (by omega)
      have p5 : (24 + (ln : Int)).toNat = 24 + ln := by omega
      have n1 : wr.cell? ⟨w.heap.size + 1 + 1 + 1 + 1, 0, none⟩ = some (.string nm) := cell_of_one HS.out.na
      have n2 : wr.cell? ⟨w.heap.size + 1 + 1, 0, none⟩ = some (.string s) := cell_of_one HS.out.tx
      have n3 : wr.cell? ⟨w.heap.size + 1 + 1 + 1 + 1 + 1, 0, none⟩ = some (.int .i64 ln) := cell_of_one HS.out.le
      obtain ⟨g0, g1, g2, f0, f1, f2⟩ := blk3 HS.out.fr
      clear HR
      go_wp2
      go_region
      have HC3 := Lib.hid (cset3 HS.out.fr (.int .u64 0) (.string nm) (.string (s.extract 24 (24 + ln))))
      obtain ⟨c0, c1, c2, _, _, _⟩ := blk3 HC3.out
      clear g0 g1 g2 f0 f1 f2 n1 n2 n3
      go_wp2
      refine bodyPost_ret (v := .tuple #[.agg #[.int .u64 0, .string nm, .string (s.extract 24 (24 + ln))], .int .i64 (24 + ln : Int), .int .i64 0]) (by simp [results, Tryz.results67, go_sem, c0, c1, c2]) rfl ?_
      rw [HX.out]
      exact ⟨rfl, (below3 HB.out (by omega) _ _ _).drew⟩
end Go.Proofs.YtebllmpdlapefaaGreatDoor
