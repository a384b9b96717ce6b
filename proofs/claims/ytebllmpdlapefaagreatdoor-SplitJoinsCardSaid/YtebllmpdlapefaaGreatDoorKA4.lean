/- Eight words in a block: read, written. -/
/- make([]byte, m, n): a Buf of m noughts with room. Own law; no program in sight. -/
/- Appending to a Buf inside a region that draws its order; small words for literals. Own text; no program in sight. -/
import Derived.Test.YtebllmpdlapefaaGreatDoorKA15
import Derived.Test.YtebllmpdlapefaaGreatDoorKA2
import Derived.Deep.OwnRows
import Derived.Deep.RegionLaw
namespace Go.Proofs.YtebllmpdlapefaaGreatDoor
set_option linter.unusedVariables false
set_option linter.unusedSimpArgs false
open Go.RowKit

theorem Blk.cells8 {W : World} {g : Nat} {u : Sh} (h : Blk W g 30 (shCells u)) :
    W.cell? ⟨g, 0, none⟩ = some (.int .u32 u.a) ∧ W.cell? ⟨g, 1, none⟩ = some (.int .u32 u.b) ∧ W.cell? ⟨g, 2, none⟩ = some (.int .u32 u.c) ∧ W.cell? ⟨g, 3, none⟩ = some (.int .u32 u.d) ∧
    W.cell? ⟨g, 4, none⟩ = some (.int .u32 u.e) ∧ W.cell? ⟨g, 5, none⟩ = some (.int .u32 u.f) ∧ W.cell? ⟨g, 6, none⟩ = some (.int .u32 u.g) ∧ W.cell? ⟨g, 7, none⟩ = some (.int .u32 u.h) :=
  ⟨h.cell 0, h.cell 1, h.cell 2, h.cell 3, h.cell 4, h.cell 5, h.cell 6, h.cell 7⟩
theorem Blk.free8 {W : World} {g : Nat} {u : Sh} (h : Blk W g 30 (shCells u)) :
    W.frozen? ⟨g, 0, none⟩ = false ∧ W.frozen? ⟨g, 1, none⟩ = false ∧ W.frozen? ⟨g, 2, none⟩ = false ∧ W.frozen? ⟨g, 3, none⟩ = false ∧ W.frozen? ⟨g, 4, none⟩ = false ∧ W.frozen? ⟨g, 5, none⟩ = false ∧ W.frozen? ⟨g, 6, none⟩ = false ∧ W.frozen? ⟨g, 7, none⟩ = false :=
  ⟨h.frozen 0, h.frozen 1, h.frozen 2, h.frozen 3, h.frozen 4, h.frozen 5, h.frozen 6, h.frozen 7⟩
theorem putRes_any {W : World} {g : Nat} {v : Sh} (u : Sh) (h : Blk W g 30 (shCells v)) : Blk (putRes W g u) g 30 (shCells u) := by
  have h8 := (((((((h.set 0 (.int .u32 u.a)).set 1 (.int .u32 u.b)).set 2 (.int .u32 u.c)).set 3 (.int .u32 u.d)).set 4 (.int .u32 u.e)).set 5 (.int .u32 u.f)).set 6 (.int .u32 u.g)).set 7 (.int .u32 u.h)
  unfold shCells at h8
  simp only [List.setIfInBounds_toArray, List.set_cons_zero, List.set_cons_succ] at h8
  exact h8
/-- The state, i blocks of the text having been mixed in. -/
structure SumInv (w : World) (B : Nat) (v : Sh) (s : ByteArray) (top : Nat) (at_ : Value) (wr : World) : Prop where
  ex : ∃ i a : Nat, a = 64 * i ∧ at_ = .int .i64 a ∧ a ≤ top ∧ Blk wr B 30 (shCells (shRun v s i)) ∧ Only [] w wr
theorem cells8_at (t : Sh) (k : Nat) (h : k < 8) : (shCells t)[k]? = some (.int .u32 (t.list.getD k 0 : Nat)) := by
  have h8 : k = 0 ∨ k = 1 ∨ k = 2 ∨ k = 3 ∨ k = 4 ∨ k = 5 ∨ k = 6 ∨ k = 7 := by omega
  rcases h8 with rfl | rfl | rfl | rfl | rfl | rfl | rfl | rfl <;> rfl
theorem Sh.ok_at {t : Sh} (h : t.ok) (k : Nat) : t.list.getD k 0 < 4294967296 := by
  obtain ⟨a, b, c, d, e, f, g, i⟩ := h
  have h8 : k = 0 ∨ k = 1 ∨ k = 2 ∨ k = 3 ∨ k = 4 ∨ k = 5 ∨ k = 6 ∨ k = 7 ∨ 8 ≤ k := by omega
  rcases h8 with rfl | rfl | rfl | rfl | rfl | rfl | rfl | rfl | h8
  · exact a
  · exact b
  · exact c
  · exact d
  · exact e
  · exact f
  · exact g
  · exact i
  · rw [List.getD_eq_getElem?_getD, List.getElem?_eq_none (by simp [Sh.list]; omega)]; simp
end Go.Proofs.YtebllmpdlapefaaGreatDoor
namespace Go.Proofs.YtebllmpdlapefaaGreatDoor
set_option linter.unusedVariables false
set_option linter.unusedSimpArgs false
open Go.RowKit

theorem made_list (n : Nat) : (madeCells #[Value.int .u8 0] n).toList = cb (List.replicate n 0) := by
  have := made_bytes n
  rw [Nat.mul_one] at this
  exact this
theorem made_size (n : Nat) : (madeCells #[Value.int .u8 0] n).size = n := by
  have := congrArg List.length (made_list n)
  rw [cb_length, List.length_replicate] at this
  simpa using this
theorem wpList_make_buf {P : Program} (w : World) {ops : Array Oper} {rest : List Oper} {o : Oper} {a : Act} {Q : Exit → Act → World → Prop}
    (hg : o.guard = none) (l c : Operand) (t : TypeId) (hop : o.op = Op.makeSlice t l c)
    (base : Nat) (e : TypeId) (i : TypeInfo) (ht : P.underlying t = some (.slice e)) (hi : P.info? e = some i) (hz : i.zero = some (.int .u8 0)) (hsize : i.size = 1) (hby : i.bytes = 1)
    (kl kc : IntKind) (m n : Nat) (hl : a.eval l = .int kl (m : Int)) (hc : a.eval c = .int kc (n : Int)) (hmn : m ≤ n) (hbytes : n ≤ 281474976710656) (hb : base ≤ w.heap.size)
    (hK : ∀ w', Buf w' base e (.slice (some ⟨w.heap.size, 0, none⟩) m n) (List.replicate m 0) → Kept e base w w' → Below w.heap.size w w' → wpList P ops Q rest (a.put o.dst (.slice (some ⟨w.heap.size, 0, none⟩) m n)) w') :
    wpList P ops Q (o :: rest) a w := by
  refine wpList_plain hg fun K hK' => ?_
  have hr := run_make (P := P) w t e i (.int .u8 0) ht hi hz kl kc m n (by omega) (by omega) (by rw [hby]; omega) (by omega)
  simp only [Int.toNat_natCast, hsize, Nat.mul_one] at hr
  have hbuf : Buf (w.alloc (.cells (madeCells #[Value.int .u8 0] n) e)) base e (.slice (some ⟨w.heap.size, 0, none⟩) m n) (List.replicate m 0) := by
    refine ⟨some ⟨w.heap.size, 0, none⟩, n, by rw [List.length_replicate], by rw [List.length_replicate]; exact hmn, by omega, .inr ⟨w.heap.size, madeCells #[Value.int .u8 0] n, (0, 0), rfl, hb, heap_alloc_new w _, made_size n, ?_, .inl rfl⟩⟩
    rw [List.length_replicate, made_list, ← cb_take, List.take_replicate, Nat.min_eq_left hmn]
  have hbl : Below w.heap.size w (w.alloc (.cells (madeCells #[Value.int .u8 0] n) e)) := (Below.refl _ w).alloc (Nat.le_refl _) _
  unfold Oper.wp
  simp [execOp, hop, hl, hc, hr, Result.andThen]
  exact hK' _ _ (hK _ hbuf (Kept.of_below hbl (Nat.le_refl _) hb) hbl)
end Go.Proofs.YtebllmpdlapefaaGreatDoor
namespace Go.Proofs.YtebllmpdlapefaaGreatDoor
set_option linter.unusedVariables false
set_option linter.unusedSimpArgs false
open Go.RowKit

theorem wp_append_buf {P : Program} {w : World} {o : Oper} {a : Act} {K : Act → World → Prop} {Q : Exit → Act → World → Prop} (s x : Operand) (t tx : TypeId)
    (ho : o.op = .call { callee := .builtin .append, args := #[s, x], argTypes := #[t, tx] }) (base : Nat) (E : TypeId) (i : TypeInfo) (ht : P.underlying t = some (.slice E)) (hi : P.info? E = some i) (hz : i.zero = some (.int .u8 0)) (h1 : i.size = 1) (hby : i.bytes = 1)
    {v : Value} {l : List UInt8} (hv : a.eval s = v) (h : Buf w base E v l) (xv : Value) (m : List UInt8) (hx : a.eval x = xv) (hs : Src P 1 tx xv m.length (cb m) w) (hb : base ≤ w.heap.size) (hlen : l.length + m.length ≤ 140737488355328)
    (hK : ∀ (A' : Option Addr) (n' cap' : Nat) w', Buf w' base E (.slice A' n' cap') (l ++ m) → Kept E base w w' → K (a.put o.dst (.slice A' n' cap')) w') : Oper.wp P o a w K Q := by
  obtain ⟨v', w', hrun, r1, r2⟩ := h.append (P := P) t tx o.type i ht hi hz h1 hby xv m hs hb hlen
  obtain ⟨A', cap', hv', _⟩ := r1.form
  unfold Oper.wp
  simp [execOp, ho, resolve, invoke, builtin, hv, hx, hrun, Result.andThen]
  subst hv'
  exact hK _ _ _ w' r1 r2
/-- At a step of a region that draws its order. -/
theorem step_append_buf {P : Program} {w : World} {ops : Array Oper} {o : Oper} {a : Act} {K : Act → World → Prop} {Q : Exit → Act → World → Prop} {E' : Prop} (hgd : o.guard = none) (s x : Operand) (t tx : TypeId)
    (ho : o.op = .call { callee := .builtin .append, args := #[s, x], argTypes := #[t, tx] }) (base : Nat) (E : TypeId) (i : TypeInfo) (ht : P.underlying t = some (.slice E)) (hi : P.info? E = some i) (hz : i.zero = some (.int .u8 0)) (h1 : i.size = 1) (hby : i.bytes = 1)
    {v : Value} {l : List UInt8} (hv : a.eval s = v) (h : Buf w base E v l) (xv : Value) (m : List UInt8) (hx : a.eval x = xv) (hs : Src P 1 tx xv m.length (cb m) w) (hb : base ≤ w.heap.size) (hlen : l.length + m.length ≤ 140737488355328)
    (hK : ∀ (A' : Option Addr) (n' cap' : Nat) w', Buf w' base E (.slice A' n' cap') (l ++ m) → Kept E base w w' → K (a.put o.dst (.slice A' n' cap')) w') :
    if Region.wanted o (yielded ops a.tmps) = true then Oper.wp P o a w K Q else E' := by
  have hw : Region.wanted o (yielded ops a.tmps) = true := by simp [Region.wanted, hgd]
  rw [if_pos hw]
  exact wp_append_buf s x t tx ho base E i ht hi hz h1 hby hv h xv m hx hs hb hlen hK
theorem src_lit {P : Program} {tx e' : TypeId} (hk : P.underlying tx = some (.slice e')) (w : World) (E : TypeId) (cs : Array Value) (m : List UInt8) (c g : Nat) (hg : g = w.heap.size) (hcs : cs.toList = cb m) : Src P 1 tx (.slice (some ⟨g, 0, none⟩) m.length c) m.length (cb m) (w.alloc (.cells cs E)) := by
  subst hg; exact src_new hk w E cs m c hcs
theorem src_litD {P : Program} {tx e' : TypeId} (hk : P.underlying tx = some (.slice e')) (w : World) (E : TypeId) (cs : Array Value) (m : List UInt8) (c g : Nat) (hg : g = w.heap.size) (hcs : cs.toList = cb m) : Src P 1 tx (.slice (some ⟨g, 0, none⟩) m.length c) m.length (cb m) (w.alloc (.cells cs E)).drew := by
  subst hg
  exact Src.ofSlice _ hk _ _ _ _ (by rw [cb_length, Nat.mul_one]) (fun j u hu => show (w.alloc (.cells cs E)).cell? _ = _ from World.news_of_block (heap_alloc_new w (.cells cs E)) j u (by rw [← hcs] at hu; simpa using hu)) (cb_one m)
theorem Buf.form' {w : World} {base : Nat} {E : TypeId} {v : Value} {l : List UInt8} (h : Buf w base E v l) : ∃ A n cap, v = .slice A n cap ∧ Hid (n = l.length) ∧ n ≤ cap ∧ cap ≤ 9223372036854775807 := by
  obtain ⟨A, cap, h1, h2, h3⟩ := h.form
  exact ⟨A, _, cap, h1, Lib.hid rfl, h2, h3⟩
theorem Blk.kept {E : TypeId} {base g : Nat} {w w' : World} {t : TypeId} {cs : Array Value} (h : Blk w g t cs) (hk : Kept E base w w') (hne : t ≠ E) : Blk w' g t cs := hk.other g _ h (by
  intro c f e; injection e with _ e2; exact hne e2)
theorem Blk.keep {w w' : World} {g B : Nat} {t : TypeId} {cs : Array Value} (h : Blk w g t cs) (hb : Below B w w') (hg : g < B) : Blk w' g t cs := (hb.block g hg).trans h
theorem blk3 {w : World} {g : Nat} {t : TypeId} {a b c : Value} (h : Blk w g t #[a, b, c]) : w.cell? ⟨g, 0, none⟩ = some a ∧ w.cell? ⟨g, 1, none⟩ = some b ∧ w.cell? ⟨g, 2, none⟩ = some c ∧ w.frozen? ⟨g, 0, none⟩ = false ∧ w.frozen? ⟨g, 1, none⟩ = false ∧ w.frozen? ⟨g, 2, none⟩ = false :=
  ⟨h.cell 0, h.cell 1, h.cell 2, h.frozen 0, h.frozen 1, h.frozen 2⟩
end Go.Proofs.YtebllmpdlapefaaGreatDoor
