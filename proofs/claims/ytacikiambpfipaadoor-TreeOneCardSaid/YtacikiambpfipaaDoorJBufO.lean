/- An append onto a Buf: which block has turned ('grownBy'), where the new value lies. Own text; no program in sight. -/
import Derived.Test.YtacikiambpfipaaDoorJA4
import Derived.Deep.AppendLies
import Derived.Maps.Range
namespace Go.Proofs.YtacikiambpfipaaDoor
set_option linter.unusedVariables false
set_option linter.unusedSimpArgs false
open Go.RowKit

/-- Only v's own block, and new ones, have turned; v' lies where v does, or in a new one. -/
structure GrB (w w' : World) (v v' : Value) : Prop where
  grown : w.grownBy w' v.ownBlock
  own : v'.ownBlock = v.ownBlock ∨ ∃ g, v'.ownBlock = some g ∧ w.heap.size ≤ g
theorem GrB.refl (w : World) (v : Value) : GrB w w v v := ⟨World.grownBy.refl _ _, .inl rfl⟩
theorem GrB.size {w w' : World} {v v' : Value} (h : GrB w w' v v') : w.heap.size ≤ w'.heap.size := h.grown.size
theorem GrB.trans {a b c : World} {v v' v'' : Value} (h : GrB a b v v') (k : GrB b c v' v'') : GrB a c v v'' := by
  refine ⟨h.grown.andThen k.grown fun j hj => ?_, ?_⟩
  · rcases h.own with e | ⟨g, e, hg⟩
    · exact .inr (by rw [← e, hj])
    · rw [e] at hj; injection hj with hj; exact .inl (by omega)
  · rcases k.own with e | ⟨g, e, hg⟩
    · rcases h.own with e2 | ⟨g2, e2, hg2⟩
      · exact .inl (e.trans e2)
      · exact .inr ⟨g2, e.trans e2, hg2⟩
    · exact .inr ⟨g, e, by have := h.size; omega⟩
theorem grownBy_none {a b : World} (h : Below a.heap.size a b) : a.grownBy b none := ⟨h.os, h.tape, h.output, h.size, fun k hk _ => h.block k hk⟩
theorem grownBy_any {a b : World} (h : a.grownBy b none) (r : Option Nat) : a.grownBy b r := ⟨h.os, h.tape, h.output, h.size, fun k hk _ => h.block k hk (by simp)⟩
/-- What is made ahead, or drawn, turns nothing. -/
theorem GrB.ahead {a b c : World} {v v' : Value} (h : Below a.heap.size a b) (k : GrB b c v v') : GrB a c v v' := (show GrB a b v v from ⟨grownBy_any (grownBy_none h) _, .inl rfl⟩).trans k
theorem GrB.behind {a b c : World} {v v' : Value} (h : GrB a b v v') (k : Below b.heap.size b c) : GrB a c v v' := h.trans (show GrB b c v' v' from ⟨grownBy_any (grownBy_none k) _, .inl rfl⟩)
theorem GrB.below {B : Nat} {a b c : World} {v v' : Value} (h : Below B a b) (k : GrB b c v v') (hB : B ≤ b.heap.size) (hv : ∀ g, v.ownBlock = some g → B ≤ g) : Below B a c := h.grown k.grown hB hv
theorem GrB.block {a b : World} {v v' : Value} (h : GrB a b v v') {k : Nat} (hk : k < a.heap.size) (hne : v.ownBlock ≠ some k) : b.heap[k]? = a.heap[k]? := h.grown.block k hk (fun e => hne e.symm)
theorem Buf.ge {w : World} {base : Nat} {E : TypeId} {v : Value} {l : List UInt8} (h : Buf w base E v l) : ∀ g, v.ownBlock = some g → base ≤ g ∧ g < w.heap.size ∧ ∃ cur fr, w.heap[g]? = some (.cells cur E fr) := by
  obtain ⟨A, cap, rfl, h2, h3, h4⟩ := h
  intro g hg
  rcases h4 with ⟨hA, _⟩ | ⟨g', cur, fr, hA, hb, hh, _⟩
  · subst hA; cases hg
  · subst hA
    have : g' = g := by simpa [Value.ownBlock] using hg
    subst this
    exact ⟨hb, lt_of_block hh, cur, fr, hh⟩
theorem Buf.own_ne {w : World} {base : Nat} {E t : TypeId} {v : Value} {l : List UInt8} {g : Nat} {cs : Array Value} {fr : Nat × Nat} (h : Buf w base E v l) (hh : w.heap[g]? = some (.cells cs t fr)) (hne : t ≠ E) : v.ownBlock ≠ some g := by
  intro e
  obtain ⟨_, _, cur, fr', h'⟩ := h.ge g e
  rw [hh] at h'
  injection h' with h'
  injection h' with _ h'
  exact hne h'
/-- It stands where its own block does. -/
theorem Buf.keep {w w' : World} {base : Nat} {E : TypeId} {v : Value} {l : List UInt8} (h : Buf w base E v l) (hk : ∀ k, k < w.heap.size → v.ownBlock = some k → w'.heap[k]? = w.heap[k]?) : Buf w' base E v l := by
  obtain ⟨A, cap, rfl, h2, h3, h4⟩ := h
  refine ⟨A, cap, rfl, h2, h3, ?_⟩
  rcases h4 with h4 | ⟨g, cur, fr, hA, hg, hh, r⟩
  · exact .inl h4
  · exact .inr ⟨g, cur, fr, hA, hg, (hk g (lt_of_block hh) (by subst hA; rfl)).trans hh, r⟩
theorem Blk.grB {w w' : World} {g : Nat} {t : TypeId} {cs : Array Value} {v v' : Value} (h : Blk w g t cs) (hg : GrB w w' v v') (hn : v.ownBlock ≠ some g) : Blk w' g t cs := (hg.block h.lt hn).trans h
/-- One append, from whatever source. -/
theorem Buf.appendO {P : Program} {w : World} {base : Nat} {E : TypeId} {v : Value} {l : List UInt8} (h : Buf w base E v l) (t tx ty : TypeId) (i : TypeInfo) (ht : P.underlying t = some (.slice E)) (hi : P.info? E = some i) (hz : i.zero = some (.int .u8 0)) (h1 : i.size = 1) (hby : i.bytes = 1)
    (xv : Value) (m : List UInt8) (hs : Src P 1 tx xv m.length (cb m) w) (hb : base ≤ w.heap.size) (hlen : l.length + m.length ≤ 140737488355328) :
    ∃ v' w', (Builtin.append_ #[t, tx] ty #[v, xv]).run P w = .ok v' w' ∧ Buf w' base E v' (l ++ m) ∧ GrB w w' v v' := by
  obtain ⟨A, cap, rfl, hlc, hcm, h4⟩ := h
  have hs' : Src P i.size tx xv m.length (cb m) w := by rw [h1]; exact hs
  by_cases hroom : l.length + m.length ≤ cap
  · rcases h4 with ⟨hA, hc0⟩ | ⟨g, cur, fr, hA, hg, hh, hsz, htk, hfr⟩
    · subst hA; subst hc0
      have hl0 : l = [] := List.eq_nil_of_length_eq_zero (by omega)
      have hm0 : m = [] := List.eq_nil_of_length_eq_zero (by omega)
      subst hl0; subst hm0
      exact ⟨_, w, Go.run_append_nothing w t tx ty E i ht hi none 0 0 (Nat.le_refl _) xv hs', Buf.nil w base E, GrB.refl _ _⟩
    · subst hA
      have hrun := run_append_room_src (P := P) w t tx ty E i ht hi g 0 l.length cap xv m.length (cb m) hs' hroom
        (by
          intro j hj
          rw [cb_length] at hj
          have : 0 + l.length * i.size + j < cur.size := by rw [h1, hsz]; omega
          simp only [World.cell?, hh]
          rw [Array.getElem?_eq_getElem this]; rfl)
        (by
          intro j hj
          rw [cb_length] at hj
          exact frozen_at hh (by rw [h1]; rcases hfr with h | h; exact .inl h; exact .inr (by omega)))
      rw [h1, Nat.mul_one, Nat.zero_add] at hrun
      obtain ⟨cur', c1, c2, c3⟩ := setCells_heap (cb m) l.length w cur hh (by rw [cb_length]; omega)
      refine ⟨_, _, hrun, ⟨_, cap, by rw [List.length_append], by rw [List.length_append]; exact hroom, hcm, .inr ⟨g, cur', fr, rfl, hg, c1, by omega, ?_, hfr⟩⟩, ⟨World.os_setCells _ _ _ _, setCells_tape _ _ _ _, World.output_setCells _ _ _ _, by rw [setCells_size]; exact Nat.le_refl _, fun k hk hne => World.heap_setCells_other w g l.length (cb m) hk (fun e => hne (by subst e; rfl))⟩, .inl rfl⟩
      rw [List.length_append, cb_append]
      rw [cb_length, htk] at c3
      exact c3
  · have hold : (Builtin.firstCells i.size l.length (.slice A l.length cap)).run P w.drew = .ok (cb l).toArray w.drew := by
      rcases h4 with ⟨hA, hc0⟩ | ⟨g, cur, fr, hA, hg, hh, hsz, htk, hfr⟩
      · subst hA; subst hc0
        have hl0 : l = [] := List.eq_nil_of_length_eq_zero (by omega)
        subst hl0
        exact run_firstCells_none w.drew i.size 0 0 0
      · have hc := Buf.cells (w := w) (base := base) (E := E) (A := A) (cap := cap) (l := l) ⟨A, cap, rfl, hlc, hcm, .inr ⟨g, cur, fr, hA, hg, hh, hsz, htk, hfr⟩⟩ ⟨g, 0, none⟩ hA
        subst hA
        exact run_firstCells_some w.drew i.size l.length _ l.length cap (cb l) (by rw [cb_length, h1, Nat.mul_one]) hc
    have hfit : Builtin.nextslicecap (l.length + m.length) cap * i.bytes ≤ 281474976710656 := by
      rw [hby]
      exact growslice_fits (by omega) (by omega)
    have hrun := run_append_grow_src (P := P) w t tx ty E i (.int .u8 0) ht hi hz A l.length cap (cb l) hold xv m.length (cb m) hs' (by omega) (by omega) hfit
    have g1 := grownCap_ge w (l.length + m.length) cap E
    have g2 := grownCap_le_maxLen w (l.length + m.length) cap E (by simp [maxLen]; omega)
    refine ⟨_, _, hrun, ⟨_, _, by rw [List.length_append], by rw [List.length_append]; exact g1, by simpa [maxLen] using g2, .inr ⟨w.heap.size, _, (0, 0), rfl, hb, heap_alloc_new w.drew _, ?_, ?_, .inl rfl⟩⟩, grownBy_any (grownBy_none ((Below.refl w.heap.size w).drew.alloc (by simp) _)) _, .inr ⟨w.heap.size, rfl, Nat.le_refl _⟩⟩
    · simp only [Array.size_append, List.size_toArray, List.length_append, cb_length, size_zeroCells]
      have : (Value.int .u8 0).cells.size = 1 := rfl
      rw [this]; omega
    · rw [Array.toList_append, List.length_append, List.take_append_of_le_length (by simp [cb_length]), cb_append]
      exact List.take_of_length_le (by simp [cb_length])
theorem wp_append_bufO {P : Program} {w : World} {o : Oper} {a : Act} {K : Act → World → Prop} {Q : Exit → Act → World → Prop} (s x : Operand) (t tx : TypeId)
    (ho : o.op = .call { callee := .builtin .append, args := #[s, x], argTypes := #[t, tx] }) (base : Nat) (E : TypeId) (i : TypeInfo) (ht : P.underlying t = some (.slice E)) (hi : P.info? E = some i) (hz : i.zero = some (.int .u8 0)) (h1 : i.size = 1) (hby : i.bytes = 1)
    {v : Value} {l : List UInt8} (hv : a.eval s = v) (h : Buf w base E v l) (xv : Value) (m : List UInt8) (hx : a.eval x = xv) (hs : Src P 1 tx xv m.length (cb m) w) (hb : base ≤ w.heap.size) (hlen : l.length + m.length ≤ 140737488355328)
    (hK : ∀ (A' : Option Addr) (n' cap' : Nat) w', Buf w' base E (.slice A' n' cap') (l ++ m) → GrB w w' v (.slice A' n' cap') → K (a.put o.dst (.slice A' n' cap')) w') : Oper.wp P o a w K Q := by
  obtain ⟨v', w', hrun, r1, r2⟩ := h.appendO (P := P) t tx o.type i ht hi hz h1 hby xv m hs hb hlen
  obtain ⟨A', cap', hv', _⟩ := r1.form
  unfold Oper.wp
  simp [execOp, ho, resolve, invoke, builtin, hv, hx, hrun, Result.andThen]
  subst hv'
  exact hK _ _ _ w' r1 r2
theorem wpList_append_bufO {P : Program} {w : World} {ops : Array Oper} {rest : List Oper} {o : Oper} {a : Act} {Q : Exit → Act → World → Prop} (hgd : o.guard = none) (s x : Operand) (t tx : TypeId)
    (ho : o.op = .call { callee := .builtin .append, args := #[s, x], argTypes := #[t, tx] }) (base : Nat) (E : TypeId) (i : TypeInfo) (ht : P.underlying t = some (.slice E)) (hi : P.info? E = some i) (hz : i.zero = some (.int .u8 0)) (h1 : i.size = 1) (hby : i.bytes = 1)
    {v : Value} {l : List UInt8} (hv : a.eval s = v) (h : Buf w base E v l) (xv : Value) (m : List UInt8) (hx : a.eval x = xv) (hs : Src P 1 tx xv m.length (cb m) w) (hb : base ≤ w.heap.size) (hlen : l.length + m.length ≤ 140737488355328)
    (hK : ∀ (A' : Option Addr) (n' cap' : Nat) w', Buf w' base E (.slice A' n' cap') (l ++ m) → GrB w w' v (.slice A' n' cap') → wpList P ops Q rest (a.put o.dst (.slice A' n' cap')) w') : wpList P ops Q (o :: rest) a w :=
  wpList_plain hgd fun _ hK' => wp_append_bufO s x t tx ho base E i ht hi hz h1 hby hv h xv m hx hs hb hlen fun A' n' cap' w' r1 r2 => hK' _ _ (hK A' n' cap' w' r1 r2)
theorem step_append_bufO {P : Program} {w : World} {ops : Array Oper} {o : Oper} {a : Act} {K : Act → World → Prop} {Q : Exit → Act → World → Prop} {E' : Prop} (hgd : o.guard = none) (s x : Operand) (t tx : TypeId)
    (ho : o.op = .call { callee := .builtin .append, args := #[s, x], argTypes := #[t, tx] }) (base : Nat) (E : TypeId) (i : TypeInfo) (ht : P.underlying t = some (.slice E)) (hi : P.info? E = some i) (hz : i.zero = some (.int .u8 0)) (h1 : i.size = 1) (hby : i.bytes = 1)
    {v : Value} {l : List UInt8} (hv : a.eval s = v) (h : Buf w base E v l) (xv : Value) (m : List UInt8) (hx : a.eval x = xv) (hs : Src P 1 tx xv m.length (cb m) w) (hb : base ≤ w.heap.size) (hlen : l.length + m.length ≤ 140737488355328)
    (hK : ∀ (A' : Option Addr) (n' cap' : Nat) w', Buf w' base E (.slice A' n' cap') (l ++ m) → GrB w w' v (.slice A' n' cap') → K (a.put o.dst (.slice A' n' cap')) w') :
    if Region.wanted o (yielded ops a.tmps) = true then Oper.wp P o a w K Q else E' := by
  have hw : Region.wanted o (yielded ops a.tmps) = true := by simp [Region.wanted, hgd]
  rw [if_pos hw]
  exact wp_append_bufO s x t tx ho base E i ht hi hz h1 hby hv h xv m hx hs hb hlen hK
end Go.Proofs.YtacikiambpfipaaDoor
