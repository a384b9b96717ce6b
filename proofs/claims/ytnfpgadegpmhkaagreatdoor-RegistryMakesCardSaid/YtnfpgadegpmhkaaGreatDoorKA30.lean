/- An append onto a Buf: which block has turned ('grownBy'), where the new value lies. Own text; no program in sight. -/
import Derived.Test.YtnfpgadegpmhkaaGreatDoorKA5
import Derived.Deep.AppendLies
import Derived.Maps.Range
import Derived.Test.YtnfpgadegpmhkaaGreatDoorKA3
import Derived.WalkSmall
import Derived.Test.YtnfpgadegpmhkaaGreatDoorKA6
import Derived.Deep.RegionLaw
set_option linter.unusedVariables false
set_option linter.unusedSimpArgs false
set_option maxRecDepth 100000
set_option maxHeartbeats 2000000
namespace Go.Proofs.YtnfpgadegpmhkaaGreatDoor
open Go.RowKit
structure GrB (w w' : World) (v v' : Value) : Prop where
 grown : w.grownBy w' v.ownBlock
 own : v'.ownBlock = v.ownBlock ∨ ∃ g, v'.ownBlock = some g ∧ w.heap.size ≤ g
theorem GrB.refl (w : World) (v : Value) : GrB w w v v := ⟨World.grownBy.refl _ _, .inl rfl⟩
theorem GrB.size {w w' : World} {v v' : Value} (h : GrB w w' v v') : w.heap.size ≤ w'.heap.size := h.grown.size
theorem GrB.trans {a b c : World} {v v' v'' : Value} (h : GrB a b v v') (k : GrB b c v' v'') : GrB a c v v'' := by
 refine ⟨h.grown.andThen k.grown fun j hj => ?_, ?_⟩
 ·rcases h.own with e | ⟨g, e, hg⟩
  ·exact .inr (by rw [← e, hj])
  ·rw [e] at hj; injection hj with hj; exact .inl (by omega)
 ·rcases k.own with e | ⟨g, e, hg⟩
  ·rcases h.own with e2 | ⟨g2, e2, hg2⟩
   ·exact .inl (e.trans e2)
   ·exact .inr ⟨g2, e.trans e2, hg2⟩
  ·exact .inr ⟨g, e, by have := h.size; omega⟩
theorem grownBy_none {a b : World} (h : Below a.heap.size a b) : a.grownBy b none := ⟨h.os, h.tape, h.output, h.size, fun k hk _ => h.block k hk⟩
theorem grownBy_any {a b : World} (h : a.grownBy b none) (r : Option Nat) : a.grownBy b r := ⟨h.os, h.tape, h.output, h.size, fun k hk _ => h.block k hk (by simp)⟩
theorem GrB.ahead {a b c : World} {v v' : Value} (h : Below a.heap.size a b) (k : GrB b c v v') : GrB a c v v' := (show GrB a b v v from ⟨grownBy_any (grownBy_none h) _, .inl rfl⟩).trans k
theorem GrB.behind {a b c : World} {v v' : Value} (h : GrB a b v v') (k : Below b.heap.size b c) : GrB a c v v' := h.trans (show GrB b c v' v' from ⟨grownBy_any (grownBy_none k) _, .inl rfl⟩)
theorem GrB.below {B : Nat} {a b c : World} {v v' : Value} (h : Below B a b) (k : GrB b c v v') (hB : B ≤ b.heap.size) (hv : ∀ g, v.ownBlock = some g → B ≤ g) : Below B a c := h.grown k.grown hB hv
theorem GrB.block {a b : World} {v v' : Value} (h : GrB a b v v') {k : Nat} (hk : k < a.heap.size) (hne : v.ownBlock ≠ some k) : b.heap[k]? = a.heap[k]? := h.grown.block k hk (fun e => hne e.symm)
theorem Buf.ge {w : World} {base : Nat} {E : TypeId} {v : Value} {l : List UInt8} (h : Buf w base E v l) : ∀ g, v.ownBlock = some g → base ≤ g ∧ g < w.heap.size ∧ ∃ cur fr, w.heap[g]? = some (.cells cur E fr) := by
 obtain ⟨A, cap, rfl, h2, h3, h4⟩ := h
 intro g hg
 rcases h4 with ⟨hA, _⟩ | ⟨g', cur, fr, hA, hb, hh, _⟩
 ·subst hA; cases hg
 ·subst hA
  have : g' = g := by simpa [Value.ownBlock] using hg
  subst this
  exact ⟨hb, lt_of_block hh, cur, fr, hh⟩
theorem Buf.own_ne {w : World} {base : Nat} {E t : TypeId} {v : Value} {l : List UInt8} {g : Nat} {cs : Array Value} {fr : Nat × Nat} (h : Buf w base E v l) (hh : w.heap[g]? = some (.cells cs t fr)) (hne : t ≠ E) : v.ownBlock ≠ some g := by
 intro e
 obtain ⟨_, _, cur, fr', h'⟩ := h.ge g e
 rw [hh] at h'
 injection h' with h'
 injection h' with _ h'
 exact hne h'
theorem Buf.keep {w w' : World} {base : Nat} {E : TypeId} {v : Value} {l : List UInt8} (h : Buf w base E v l) (hk : ∀ k, k < w.heap.size → v.ownBlock = some k → w'.heap[k]? = w.heap[k]?) : Buf w' base E v l := by
 obtain ⟨A, cap, rfl, h2, h3, h4⟩ := h
 refine ⟨A, cap, rfl, h2, h3, ?_⟩
 rcases h4 with h4 | ⟨g, cur, fr, hA, hg, hh, r⟩
 ·exact .inl h4
 ·exact .inr ⟨g, cur, fr, hA, hg, (hk g (lt_of_block hh) (by subst hA; rfl)).trans hh, r⟩
theorem Blk.grB {w w' : World} {g : Nat} {t : TypeId} {cs : Array Value} {v v' : Value} (h : Blk w g t cs) (hg : GrB w w' v v') (hn : v.ownBlock ≠ some g) : Blk w' g t cs := (hg.block h.lt hn).trans h
theorem Buf.appendO {P : Program} {w : World} {base : Nat} {E : TypeId} {v : Value} {l : List UInt8} (h : Buf w base E v l) (t tx ty : TypeId) (i : TypeInfo) (ht : P.underlying t = some (.slice E)) (hi : P.info? E = some i) (hz : i.zero = some (.int .u8 0)) (h1 : i.size = 1) (hby : i.bytes = 1)
 (xv : Value) (m : List UInt8) (hs : Src P 1 tx xv m.length (cb m) w) (hb : base ≤ w.heap.size) (hlen : l.length + m.length ≤ 140737488355328) :
 ∃ v' w', (Builtin.append_ #[t, tx] ty #[v, xv]).run P w = .ok v' w' ∧ Buf w' base E v' (l ++ m) ∧ GrB w w' v v' := by
 obtain ⟨A, cap, rfl, hlc, hcm, h4⟩ := h
 have hs' : Src P i.size tx xv m.length (cb m) w := by rw [h1]; exact hs
 by_cases hroom : l.length + m.length ≤ cap
 ·rcases h4 with ⟨hA, hc0⟩ | ⟨g, cur, fr, hA, hg, hh, hsz, htk, hfr⟩
  ·subst hA; subst hc0
   have hl0 : l = [] := List.eq_nil_of_length_eq_zero (by omega)
   have hm0 : m = [] := List.eq_nil_of_length_eq_zero (by omega)
   subst hl0; subst hm0
   exact ⟨_, w, Go.run_append_nothing w t tx ty E i ht hi none 0 0 (Nat.le_refl _) xv hs', Buf.nil w base E, GrB.refl _ _⟩
  ·subst hA
   have hrun := run_append_room_src (P := P) w t tx ty E i ht hi g 0 l.length cap xv m.length (cb m) hs' hroom
    (by
     intro j hj
     rw [cb_length] at hj
     have : 0 + l.length * i.size + j < cur.size := by rw [h1, hsz]; omega
     simp only [World.cell?, hh]
     rw [Array.getElem?_eq_getElem this]; rfl)
    (by
     intro j hj
     rw [cb_length] at hj
     exact frozen_at hh (by rw [h1]; rcases hfr with h | h; exact .inl h; exact .inr (by omega)))
   rw [h1, Nat.mul_one, Nat.zero_add] at hrun
   obtain ⟨cur', c1, c2, c3⟩ := setCells_heap (cb m) l.length w cur hh (by rw [cb_length]; omega)
   refine ⟨_, _, hrun, ⟨_, cap, by rw [List.length_append], by rw [List.length_append]; exact hroom, hcm, .inr ⟨g, cur', fr, rfl, hg, c1, by omega, ?_, hfr⟩⟩, ⟨World.os_setCells _ _ _ _, setCells_tape _ _ _ _, World.output_setCells _ _ _ _, by rw [setCells_size]; exact Nat.le_refl _, fun k hk hne => World.heap_setCells_other w g l.length (cb m) hk (fun e => hne (by subst e; rfl))⟩, .inl rfl⟩
   rw [List.length_append, cb_append]
   rw [cb_length, htk] at c3
   exact c3
 ·have hold : (Builtin.firstCells i.size l.length (.slice A l.length cap)).run P w.drew = .ok (cb l).toArray w.drew := by
   rcases h4 with ⟨hA, hc0⟩ | ⟨g, cur, fr, hA, hg, hh, hsz, htk, hfr⟩
   ·subst hA; subst hc0
    have hl0 : l = [] := List.eq_nil_of_length_eq_zero (by omega)
    subst hl0
    exact run_firstCells_none w.drew i.size 0 0 0
   ·have hc := Buf.cells (w := w) (base := base) (E := E) (A := A) (cap := cap) (l := l) ⟨A, cap, rfl, hlc, hcm, .inr ⟨g, cur, fr, hA, hg, hh, hsz, htk, hfr⟩⟩ ⟨g, 0, none⟩ hA
    subst hA
    exact run_firstCells_some w.drew i.size l.length _ l.length cap (cb l) (by rw [cb_length, h1, Nat.mul_one]) hc
  have hfit : Builtin.nextslicecap (l.length + m.length) cap * i.bytes ≤ 281474976710656 := by
   rw [hby]
   exact growslice_fits (by omega) (by omega)
  have hrun := run_append_grow_src (P := P) w t tx ty E i (.int .u8 0) ht hi hz A l.length cap (cb l) hold xv m.length (cb m) hs' (by omega) (by omega) hfit
  have g1 := grownCap_ge w (l.length + m.length) cap E
  have g2 := grownCap_le_maxLen w (l.length + m.length) cap E (by simp [maxLen]; omega)
  refine ⟨_, _, hrun, ⟨_, _, by rw [List.length_append], by rw [List.length_append]; exact g1, by simpa [maxLen] using g2, .inr ⟨w.heap.size, _, (0, 0), rfl, hb, heap_alloc_new w.drew _, ?_, ?_, .inl rfl⟩⟩, grownBy_any (grownBy_none ((Below.refl w.heap.size w).drew.alloc (by simp) _)) _, .inr ⟨w.heap.size, rfl, Nat.le_refl _⟩⟩
  ·simp only [Array.size_append, List.size_toArray, List.length_append, cb_length, size_zeroCells]
   have : (Value.int .u8 0).cells.size = 1 := rfl
   rw [this]; omega
  ·rw [Array.toList_append, List.length_append, List.take_append_of_le_length (by simp [cb_length]), cb_append]
   exact List.take_of_length_le (by simp [cb_length])
theorem wp_append_bufO {P : Program} {w : World} {o : Oper} {a : Act} {K : Act → World → Prop} {Q : Exit → Act → World → Prop} (s x : Operand) (t tx : TypeId)
 (ho : o.op = .call { callee := .builtin .append, args := #[s, x], argTypes := #[t, tx] }) (base : Nat) (E : TypeId) (i : TypeInfo) (ht : P.underlying t = some (.slice E)) (hi : P.info? E = some i) (hz : i.zero = some (.int .u8 0)) (h1 : i.size = 1) (hby : i.bytes = 1)
 {v : Value} {l : List UInt8} (hv : a.eval s = v) (h : Buf w base E v l) (xv : Value) (m : List UInt8) (hx : a.eval x = xv) (hs : Src P 1 tx xv m.length (cb m) w) (hb : base ≤ w.heap.size) (hlen : l.length + m.length ≤ 140737488355328)
 (hK : ∀ (A' : Option Addr) (n' cap' : Nat) w', Buf w' base E (.slice A' n' cap') (l ++ m) → GrB w w' v (.slice A' n' cap') → K (a.put o.dst (.slice A' n' cap')) w') : Oper.wp P o a w K Q := by
 obtain ⟨v', w', hrun, r1, r2⟩ := h.appendO (P := P) t tx o.type i ht hi hz h1 hby xv m hs hb hlen
 obtain ⟨A', cap', hv', _⟩ := r1.form
 unfold Oper.wp
 simp [execOp, ho, resolve, invoke, builtin, hv, hx, hrun, Result.andThen]
 subst hv'
 exact hK _ _ _ w' r1 r2
theorem wpList_append_bufO {P : Program} {w : World} {ops : Array Oper} {rest : List Oper} {o : Oper} {a : Act} {Q : Exit → Act → World → Prop} (hgd : o.guard = none) (s x : Operand) (t tx : TypeId)
 (ho : o.op = .call { callee := .builtin .append, args := #[s, x], argTypes := #[t, tx] }) (base : Nat) (E : TypeId) (i : TypeInfo) (ht : P.underlying t = some (.slice E)) (hi : P.info? E = some i) (hz : i.zero = some (.int .u8 0)) (h1 : i.size = 1) (hby : i.bytes = 1)
 {v : Value} {l : List UInt8} (hv : a.eval s = v) (h : Buf w base E v l) (xv : Value) (m : List UInt8) (hx : a.eval x = xv) (hs : Src P 1 tx xv m.length (cb m) w) (hb : base ≤ w.heap.size) (hlen : l.length + m.length ≤ 140737488355328)
 (hK : ∀ (A' : Option Addr) (n' cap' : Nat) w', Buf w' base E (.slice A' n' cap') (l ++ m) → GrB w w' v (.slice A' n' cap') → wpList P ops Q rest (a.put o.dst (.slice A' n' cap')) w') : wpList P ops Q (o :: rest) a w :=
 wpList_plain hgd fun _ hK' => wp_append_bufO s x t tx ho base E i ht hi hz h1 hby hv h xv m hx hs hb hlen fun A' n' cap' w' r1 r2 => hK' _ _ (hK A' n' cap' w' r1 r2)
theorem step_append_bufO {P : Program} {w : World} {ops : Array Oper} {o : Oper} {a : Act} {K : Act → World → Prop} {Q : Exit → Act → World → Prop} {E' : Prop} (hgd : o.guard = none) (s x : Operand) (t tx : TypeId)
 (ho : o.op = .call { callee := .builtin .append, args := #[s, x], argTypes := #[t, tx] }) (base : Nat) (E : TypeId) (i : TypeInfo) (ht : P.underlying t = some (.slice E)) (hi : P.info? E = some i) (hz : i.zero = some (.int .u8 0)) (h1 : i.size = 1) (hby : i.bytes = 1)
 {v : Value} {l : List UInt8} (hv : a.eval s = v) (h : Buf w base E v l) (xv : Value) (m : List UInt8) (hx : a.eval x = xv) (hs : Src P 1 tx xv m.length (cb m) w) (hb : base ≤ w.heap.size) (hlen : l.length + m.length ≤ 140737488355328)
 (hK : ∀ (A' : Option Addr) (n' cap' : Nat) w', Buf w' base E (.slice A' n' cap') (l ++ m) → GrB w w' v (.slice A' n' cap') → K (a.put o.dst (.slice A' n' cap')) w') :
 if Region.wanted o (yielded ops a.tmps) = true then Oper.wp P o a w K Q else E' := by
 have hw : Region.wanted o (yielded ops a.tmps) = true := by simp [Region.wanted, hgd]
 rw [if_pos hw]
 exact wp_append_bufO s x t tx ho base E i ht hi hz h1 hby hv h xv m hx hs hb hlen hK
theorem ItsIn.keep {w w' : World} {B i : Nat} {s : List It} {A : Option Addr} (h : ItsIn w B s A i) (hk : ∀ p : Addr, p.block < B → w'.cell? p = w.cell? p) : ItsIn w' B s A i := ItsIn.mk_ fun j hj => by
 obtain ⟨b, o, d0, d1, d2, hA, hlt, e0, e1, e2, hi⟩ := h.at_ j hj
 exact ⟨b, o, d0, d1, d2, hA, hlt, (hk _ hlt).trans e0, (hk _ hlt).trans e1, (hk _ hlt).trans e2, ItIn.keep (Nat.le_refl _) hk _ hi⟩
theorem ItsIn.tail {w : World} {B b o : Nat} : ∀ {s : List It} {i : Nat}, ItsIn w B s (some ⟨b, o, none⟩) (i + 1) → ItsIn w B s (some ⟨b, o + 3, none⟩) i
 | [], _, _ => trivial
 | x :: xs, i, h => by
  obtain ⟨⟨b', o', c0, c1, c2, hA, hb, e0, e1, e2, hi⟩, h2⟩ := h
  injection hA with hA
  injection hA with hb' ho
  subst hb'; subst ho
  refine ⟨⟨b, o + 3, c0, c1, c2, rfl, hb, ?_, ?_, ?_, hi⟩, ItsIn.tail h2⟩
  ·rw [show o + 3 + i * 3 = o + (i + 1) * 3 from by omega]; exact e0
  ·rw [show o + 3 + i * 3 + 1 = o + (i + 1) * 3 + 1 from by omega]; exact e1
  ·rw [show o + 3 + i * 3 + 2 = o + (i + 1) * 3 + 2 from by omega]; exact e2
def LayF (w : World) (S : Nat) (f : List It × List UInt8) (v : Value × Value) : Prop :=
 (∃ A cap, v.1 = .slice A f.1.length cap ∧ f.1.length ≤ cap ∧ cap ≤ 9223372036854775807 ∧ ItsIn w S f.1 A 0) ∧ Buf w S 5 v.2 f.2
def Lays (w : World) (S : Nat) : List (List It × List UInt8) → List (Value × Value) → Prop
 | [], [] => True
 | f :: fs, v :: vs => LayF w S f v ∧ (∀ u ∈ vs, ∀ g, v.2.ownBlock = some g → u.2.ownBlock ≠ some g) ∧ Lays w S fs vs
 | _, _ => False
def flatV : List (Value × Value) → List Value
 | [] => []
 | v :: vs => flatV vs ++ [v.1, v.2]
theorem flatV_length (vs : List (Value × Value)) : (flatV vs).length = vs.length * 2 := by
 induction vs with
 | nil => rfl
 | cons v vs ih => simp [flatV, ih]; omega
theorem Lays.length {w : World} {S : Nat} : ∀ {fs : List (List It × List UInt8)} {vs : List (Value × Value)}, Lays w S fs vs → vs.length = fs.length
 | [], [], _ => rfl
 | f :: fs, v :: vs, h => by simp [Lays.length h.2.2]
theorem LayF.keep {w w' : World} {S : Nat} {f : List It × List UInt8} {v : Value × Value} (h : LayF w S f v) (hS : S ≤ w.heap.size) (hk : ∀ k, k < w.heap.size → (k < S ∨ v.2.ownBlock = some k) → w'.heap[k]? = w.heap[k]?) : LayF w' S f v := by
 obtain ⟨⟨A, cap, h1, h2, h3, h4⟩, h5⟩ := h
 exact ⟨⟨A, cap, h1, h2, h3, h4.keep fun p hp => World.cell?_of_block (hk _ (by omega) (.inl hp))⟩, h5.keep fun k h1 h2 => hk k h1 (.inr h2)⟩
theorem Lays.keep {w w' : World} {S : Nat} (hS : S ≤ w.heap.size) : ∀ {fs : List (List It × List UInt8)} {vs : List (Value × Value)}, Lays w S fs vs → (∀ k, k < w.heap.size → (k < S ∨ ∃ u ∈ vs, u.2.ownBlock = some k) → w'.heap[k]? = w.heap[k]?) → Lays w' S fs vs
 | [], [], _, _ => trivial
 | f :: fs, v :: vs, h, hk => ⟨h.1.keep hS fun k h1 h2 => hk k h1 (h2.imp id fun h => ⟨v, by simp, h⟩), h.2.1, Lays.keep hS h.2.2 fun k h1 h2 => hk k h1 (h2.imp id fun ⟨u, hu, h⟩ => ⟨u, by simp [hu], h⟩)⟩
theorem Lays.ge {w : World} {S : Nat} : ∀ {fs : List (List It × List UInt8)} {vs : List (Value × Value)}, Lays w S fs vs → ∀ u ∈ vs, ∀ g, u.2.ownBlock = some g → S ≤ g ∧ g < w.heap.size ∧ ∃ cur fr, w.heap[g]? = some (.cells cur 5 fr)
 | [], [], _, u, hu, _, _ => by cases hu
 | f :: fs, v :: vs, h, u, hu, g, hg => by
  rcases List.mem_cons.1 hu with rfl | hu
  ·exact h.1.2.ge g hg
  ·exact Lays.ge h.2.2 u hu g hg
structure Lay (w : World) (S g cap : Nat) (fs : List (List It × List UInt8)) (vs : List (Value × Value)) : Prop where
 row : w.ownsRow S 155 2 (.slice (some ⟨g, 0, none⟩) fs.length cap) fs.length (flatV vs)
 lays : Lays w S fs vs
theorem ownsRow_set {w : World} {base size g cap n k : Nat} {e : TypeId} {xs : List Value} (h : w.ownsRow base e size (.slice (some ⟨g, 0, none⟩) n cap) n xs) (hk : k < xs.length) (u : Value) :
 (w.setCell ⟨g, k, none⟩ u).ownsRow base e size (.slice (some ⟨g, 0, none⟩) n cap) n (xs.set k u) := by
 obtain ⟨h1, h2⟩ := h
 refine ⟨by rw [List.length_set]; exact h1, ?_⟩
 rcases h2 with ⟨h2, _⟩ | ⟨g', cap', cur, hv, hb, hh, hn, hm, hs, ht⟩
 ·cases h2
 ·cases hv
  exact .inr ⟨g, cap, _, rfl, hb, setCell_heap u hh, hn, hm, by simpa using hs, by rw [Array.toList_setIfInBounds, List.take_set, ht]⟩
theorem ownsRow_block {w : World} {base size g cap n : Nat} {e : TypeId} {xs : List Value} (h : w.ownsRow base e size (.slice (some ⟨g, 0, none⟩) n cap) n xs) : base ≤ g ∧ g < w.heap.size ∧ n ≤ cap ∧ cap ≤ 9223372036854775807 ∧ ∃ cur, w.heap[g]? = some (.cells cur e (0, 0)) := by
 obtain ⟨h1, h2⟩ := h
 rcases h2 with ⟨h2, _⟩ | ⟨g', cap', cur, hv, hb, hh, hn, hm, hs, ht⟩
 ·cases h2
 ·cases hv
  exact ⟨hb, lt_of_block hh, hn, by simpa [maxLen] using hm, cur, hh⟩
theorem Lay.block {w : World} {S g cap : Nat} {fs : List (List It × List UInt8)} {vs : List (Value × Value)} (h : Lay w S g cap fs vs) : S ≤ g ∧ g < w.heap.size ∧ fs.length ≤ cap ∧ cap ≤ 9223372036854775807 ∧ ∃ cur, w.heap[g]? = some (.cells cur 155 (0, 0)) := ownsRow_block h.row
theorem Lay.below {w w' : World} {S g cap : Nat} {fs : List (List It × List UInt8)} {vs : List (Value × Value)} (h : Lay w S g cap fs vs) (hS : S ≤ w.heap.size) (hb : Below w.heap.size w w') : Lay w' S g cap fs vs :=
 ⟨h.row.kept (grownBy_none hb) (.inr (by simp [Value.ownBlock])), h.lays.keep hS fun k hk _ => hb.block k hk⟩
theorem Lay.top {w : World} {S g cap : Nat} {f : List It × List UInt8} {fs : List (List It × List UInt8)} {v : Value × Value} {vs : List (Value × Value)} (h : Lay w S g cap (f :: fs) (v :: vs)) :
 w.cell? ⟨g, fs.length * 2, none⟩ = some v.1 ∧ w.cell? ⟨g, fs.length * 2 + 1, none⟩ = some v.2 ∧ w.frozen? ⟨g, fs.length * 2, none⟩ = false ∧ w.frozen? ⟨g, fs.length * 2 + 1, none⟩ = false ∧ (∀ i, v.2.ownBlock ≠ some i ∨ i ≠ g) := by
 have hl := h.lays.2.2.length
 have hfl := flatV_length vs
 have e1 : ∀ j, (⟨g, 0, none⟩ : Addr).add j = ⟨g, j, none⟩ := by intro j; unfold Addr.add; split <;> simp_all
 obtain ⟨hb, hlt, _, _, cur, hh⟩ := h.block
 have h0 := h.row.cells (g := g) rfl (fs.length * 2) v.1 (by
  show (flatV vs ++ [v.1, v.2])[fs.length * 2]? = _
  rw [List.getElem?_append_right (by omega), show fs.length * 2 - (flatV vs).length = 0 from by omega]; rfl)
 have h1 := h.row.cells (g := g) rfl (fs.length * 2 + 1) v.2 (by
  show (flatV vs ++ [v.1, v.2])[fs.length * 2 + 1]? = _
  rw [List.getElem?_append_right (by omega), show fs.length * 2 + 1 - (flatV vs).length = 1 from by omega]; rfl)
 rw [e1] at h0 h1
 refine ⟨h0, h1, frozen_at hh (.inl rfl), frozen_at hh (.inl rfl), fun i => ?_⟩
 by_cases hi : i = g
 ·left; subst hi; exact Buf.own_ne h.lays.1.2 hh (by decide)
 ·exact .inr hi
theorem flatV_set1 (vs : List (Value × Value)) (v : Value × Value) (u : Value) (k : Nat) (hk : k = vs.length * 2) : (flatV (v :: vs)).set (k + 1) u = flatV ((v.1, u) :: vs) := by
 subst hk
 show (flatV vs ++ [v.1, v.2]).set _ u = flatV vs ++ [v.1, u]
 rw [List.set_append_right _ _ (by rw [flatV_length]; omega), flatV_length, show vs.length * 2 + 1 - vs.length * 2 = 1 from by omega]; rfl
theorem flatV_set0 (vs : List (Value × Value)) (v : Value × Value) (u : Value) (k : Nat) (hk : k = vs.length * 2) : (flatV (v :: vs)).set k u = flatV ((u, v.2) :: vs) := by
 subst hk
 show (flatV vs ++ [v.1, v.2]).set _ u = flatV vs ++ [u, v.2]
 rw [List.set_append_right _ _ (by rw [flatV_length]; omega), flatV_length, Nat.sub_self]; rfl
theorem setCell_block {w : World} {p : Addr} {u : Value} {k : Nat} (h : k ≠ p.block) : (w.setCell p u).heap[k]? = w.heap[k]? := by
 simp [World.setCell, Array.getElem?_modify, Ne.symm h]
theorem Lay.bytes {w w1 : World} {S g cap : Nat} {xs : List It} {b b' : List UInt8} {fs : List (List It × List UInt8)} {v0 v1 v1' : Value} {vs : List (Value × Value)} (h : Lay w S g cap ((xs, b) :: fs) ((v0, v1) :: vs)) (hS : S ≤ w.heap.size)
 (hg : GrB w w1 v1 v1') (hb : Buf w1 S 5 v1' b') : Lay (w1.setCell ⟨g, fs.length * 2 + 1, none⟩ v1') S g cap ((xs, b') :: fs) ((v0, v1') :: vs) := by
 have hl := h.lays.2.2.length
 obtain ⟨hgS, hgl, _, _, cur, hh⟩ := h.block
 have hne : v1.ownBlock ≠ some g := by
  rcases h.top.2.2.2.2 g with h | h
  ·exact h
  ·exact absurd rfl h
 have hne' : v1'.ownBlock ≠ some g := by
  rcases hg.own with e | ⟨i, e, hi⟩
  ·rw [e]; exact hne
  ·rw [e]; intro e2; injection e2 with e2; omega
 have hr := ownsRow_set (k := fs.length * 2 + 1) (h.row.kept hg.grown (.inr (by simp only [Value.ownBlock]; exact Ne.symm hne))) (by rw [flatV_length]; simp; omega) v1'
 rw [flatV_set1 vs (v0, v1) v1' _ (by omega)] at hr
 refine ⟨hr, ⟨⟨?_, ?_⟩, ?_, ?_⟩⟩
 ·obtain ⟨⟨A, c, e1, e2, e3, e4⟩, _⟩ := h.lays.1
  refine ⟨A, c, e1, e2, e3, e4.keep fun p hp => World.cell?_of_block ?_⟩
  rw [setCell_block (by simp; omega), hg.block (by omega) (fun e => by have := (h.lays.1.2.ge _ e).1; omega)]
 ·refine hb.keep fun k hk hkv => setCell_block ?_
  intro e
  simp only at e
  subst e; exact hne' hkv
 ·intro u hu i hi hui
  rcases hg.own with e | ⟨j, e, hj⟩
  ·exact h.lays.2.1 u hu i (by rw [← e]; exact hi) hui
  ·have h1 := (h.lays.2.2.ge u hu i hui).2.1
   have hi : v1'.ownBlock = some i := hi
   rw [e] at hi; injection hi with hi; omega
 ·refine h.lays.2.2.keep hS fun k hk hor => ?_
  have hkg : k ≠ g := by
   rcases hor with h1 | ⟨u, hu, h1⟩
   ·omega
   ·rintro rfl
    obtain ⟨_, _, cu, fr, h2⟩ := h.lays.2.2.ge u hu k h1
    rw [hh] at h2
    injection h2 with h2
    injection h2 with _ h2
    exact absurd h2 (by decide)
  rw [setCell_block (by simpa using hkg), hg.block hk (fun e => ?_)]
  rcases hor with h1 | ⟨u, hu, h1⟩
  ·have := (h.lays.1.2.ge _ e).1; omega
  ·exact h.lays.2.1 u hu k e h1
theorem Lay.items {w : World} {S g cap : Nat} {xs xs' : List It} {b : List UInt8} {fs : List (List It × List UInt8)} {v0 v1 : Value} {vs : List (Value × Value)} (h : Lay w S g cap ((xs, b) :: fs) ((v0, v1) :: vs)) (hS : S ≤ w.heap.size)
 {A : Option Addr} {c : Nat} (hc : xs'.length ≤ c) (hc2 : c ≤ 9223372036854775807) (hI : ItsIn w S xs' A 0) : Lay (w.setCell ⟨g, fs.length * 2, none⟩ (.slice A xs'.length c)) S g cap ((xs', b) :: fs) ((.slice A xs'.length c, v1) :: vs) := by
 have hl := h.lays.2.2.length
 obtain ⟨hgS, hgl, _, _, cur, hh⟩ := h.block
 have hr := ownsRow_set (k := fs.length * 2) h.row (by rw [flatV_length]; simp; omega) (.slice A xs'.length c)
 rw [flatV_set0 vs (v0, v1) _ _ (by omega)] at hr
 have hkeep : ∀ k, k < S ∨ (∃ u ∈ (v0, v1) :: vs, u.2.ownBlock = some k) → k ≠ g := by
  intro k hor
  rcases hor with h1 | ⟨u, hu, h1⟩
  ·omega
  ·rintro rfl
   obtain ⟨_, _, cu, fr, h2⟩ := Lays.ge h.lays u hu k h1
   rw [hh] at h2
   injection h2 with h2
   injection h2 with _ h2
   exact absurd h2 (by decide)
 refine ⟨hr, ⟨⟨⟨A, c, rfl, hc, hc2, hI.keep fun p hp => World.cell?_of_block (setCell_block (by simpa using hkeep _ (.inl hp)))⟩, h.lays.1.2.keep fun k _ hkv => setCell_block (by simpa using hkeep _ (.inr ⟨_, by simp, hkv⟩))⟩, h.lays.2.1, h.lays.2.2.keep hS fun k hk hor => setCell_block (by simpa using hkeep _ (hor.imp id fun ⟨u, hu, h⟩ => ⟨u, by simp [hu], h⟩))⟩⟩
theorem Lay.push {w w' : World} {S g cap g' cap' : Nat} {fs : List (List It × List UInt8)} {vs : List (Value × Value)} (h : Lay w S g cap fs vs) (hS : S ≤ w.heap.size) {s : List It} {A : Option Addr} {c : Nat} (hc : s.length ≤ c) (hc2 : c ≤ 9223372036854775807) (hI : ItsIn w S s A 0)
 (hr : w'.ownsRow S 155 2 (.slice (some ⟨g', 0, none⟩) (fs.length + 1) cap') (fs.length + 1) (flatV vs ++ [.slice A s.length c, .slice none 0 0])) (hg : w.grownBy w' (some g)) :
 Lay w' S g' cap' ((s, []) :: fs) ((.slice A s.length c, .slice none 0 0) :: vs) := by
 obtain ⟨hgS, hgl, _, _, cur, hh⟩ := h.block
 refine ⟨hr, ⟨⟨⟨A, c, rfl, hc, hc2, hI.keep fun p hp => World.cell?_of_block (hg.block _ (by omega) (by simp; omega))⟩, Buf.nil _ _ _⟩, (fun u _ i hi => by cases hi), h.lays.keep hS fun k hk hor => hg.block k hk ?_⟩⟩
 intro e
 injection e with e
 rcases hor with h1 | ⟨u, hu, h1⟩
 ·omega
 ·subst e
  obtain ⟨_, _, cu, fr, h2⟩ := h.lays.ge u hu k h1
  rw [hh] at h2
  injection h2 with h2
  injection h2 with _ h2
  exact absurd h2 (by decide)
theorem Lay.pop {w : World} {S g cap : Nat} {f : List It × List UInt8} {fs : List (List It × List UInt8)} {v : Value × Value} {vs : List (Value × Value)} (h : Lay w S g cap (f :: fs) (v :: vs)) : Lay w S g cap fs vs :=
 ⟨ownsRow_pop (by rw [flatV_length, h.lays.2.2.length]) h.row, h.lays.2.2⟩
def NoRd (w : World) (k : Nat) : Prop := ∀ cs fr, w.heap[k]? ≠ some (.cells cs 188 fr)
theorem NoRd.of_eq {w w' : World} {k : Nat} (h : NoRd w k) (e : w'.heap[k]? = w.heap[k]?) : NoRd w' k := by
 intro cs fr; rw [e]; exact h cs fr
theorem NoRd.of_item {w : World} {k : Nat} {cs : Array Value} {t : TypeId} {fr : Nat × Nat} (h : w.heap[k]? = some (.cells cs t fr)) (ht : t ≠ 188) : NoRd w k := by
 intro cs' fr' e
 rw [h] at e
 injection e with e
 injection e with _ e
 exact ht e
def RdF (w : World) (m hi : Nat) (f : List It × Nat) (v : Value × Value) : Prop :=
 v.2 = .int .i64 f.2 ∧ (∀ g, v.1.ownBlock = some g → g < hi) ∧ ∃ cs, w.ownsRow m 28 3 v.1 f.1.length cs ∧ ItsAreS w (fun k => m ≤ k ∧ k < hi ∧ v.1.ownBlock ≠ some k ∧ NoRd w k) f.1 cs
def RdL (w : World) (lo : Nat) : Nat → List (List It × Nat) → List (Value × Value) → Prop
 | _, [], [] => True
 | hi, f :: fs, v :: vs => ∃ m, lo ≤ m ∧ m ≤ hi ∧ RdF w m hi f v ∧ RdL w lo m fs vs
 | _, _, _ => False
theorem RdL.length {w : World} {lo : Nat} : ∀ {fs : List (List It × Nat)} {vs : List (Value × Value)} {hi : Nat}, RdL w lo hi fs vs → vs.length = fs.length
 | [], [], _, _ => rfl
 | f :: fs, v :: vs, hi, h => by
  obtain ⟨m, _, _, _, h⟩ := h
  simp [RdL.length h]
theorem RdF.keep {w w' : World} {m hi hi' : Nat} {f : List It × Nat} {v : Value × Value} (h : RdF w m hi f v) (hh : hi ≤ hi') (hk : ∀ k, m ≤ k → k < hi → k < w.heap.size → NoRd w k → w'.heap[k]? = w.heap[k]?) : RdF w' m hi' f v := by
 obtain ⟨h1, h2, cs, h3, h4⟩ := h
 refine ⟨h1, fun g hg => Nat.lt_of_lt_of_le (h2 g hg) hh, cs, ⟨h3.1, ?_⟩, h4.keep (fun k hk1 hS => ⟨hS.1, by omega, hS.2.2.1, hS.2.2.2.of_eq (hk k hS.1 hS.2.1 hk1 hS.2.2.2)⟩) fun p hp hS => World.cell?_of_block (hk _ hS.1 hS.2.1 hp hS.2.2.2)⟩
 rcases h3.2 with h5 | ⟨g, cap, cur, hv, hg, hh', r⟩
 ·exact .inl h5
 ·exact .inr ⟨g, cap, cur, hv, hg, (hk g hg (h2 g (by rw [hv]; rfl)) (lt_of_block hh') (NoRd.of_item hh' (by decide))).trans hh', r⟩
theorem RdL.keep {w w' : World} {lo : Nat} : ∀ {fs : List (List It × Nat)} {vs : List (Value × Value)} {hi : Nat}, RdL w lo hi fs vs → (∀ k, lo ≤ k → k < hi → k < w.heap.size → NoRd w k → w'.heap[k]? = w.heap[k]?) → RdL w' lo hi fs vs
 | [], [], _, _, _ => trivial
 | f :: fs, v :: vs, hi, h, hk => by
  obtain ⟨m, h1, h2, h3, h4⟩ := h
  exact ⟨m, h1, h2, h3.keep (Nat.le_refl _) fun k a b => hk k (by omega) b, RdL.keep h4 fun k a b => hk k a (by omega)⟩
theorem RdL.up {w : World} {lo hi hi' : Nat} {fs : List (List It × Nat)} {vs : List (Value × Value)} (h : RdL w lo hi fs vs) (hh : hi ≤ hi') : RdL w lo hi' fs vs := by
 match fs, vs, h with
 | [], [], _ => trivial
 | f :: fs, v :: vs, h =>
  obtain ⟨m, h1, h2, h3, h4⟩ := h
  exact ⟨m, h1, by omega, h3.keep hh fun _ _ _ _ _ => rfl, h4⟩
structure RdO (w : World) (lo hi g cap : Nat) (fs : List (List It × Nat)) (vs : List (Value × Value)) : Prop where
 row : w.ownsRow lo 188 2 (.slice (some ⟨g, 0, none⟩) fs.length cap) fs.length (flatV vs)
 rds : RdL w lo hi fs vs
 le : hi ≤ w.heap.size
theorem RdO.block {w : World} {lo hi g cap : Nat} {fs : List (List It × Nat)} {vs : List (Value × Value)} (h : RdO w lo hi g cap fs vs) : lo ≤ g ∧ g < w.heap.size ∧ fs.length ≤ cap ∧ cap ≤ 9223372036854775807 ∧ ∃ cur, w.heap[g]? = some (.cells cur 188 (0, 0)) := ownsRow_block h.row
theorem RdO.below {w w' : World} {lo hi g cap : Nat} {fs : List (List It × Nat)} {vs : List (Value × Value)} (h : RdO w lo hi g cap fs vs) (hb : Below w.heap.size w w') : RdO w' lo hi g cap fs vs :=
 ⟨h.row.kept (grownBy_none hb) (.inr (by simp [Value.ownBlock])), h.rds.keep fun k _ _ hk _ => hb.block k hk, Nat.le_trans h.le hb.size⟩
theorem RdO.only {w w' : World} {lo hi g cap : Nat} {fs : List (List It × Nat)} {vs : List (Value × Value)} (h : RdO w lo hi g cap fs vs) {L : List Nat} (ho : Only L w w') (hL : ∀ k, k ∈ L → k < lo) : RdO w' lo hi g cap fs vs := by
 obtain ⟨hg, hgl, _, _, cur, hh⟩ := h.block
 refine ⟨⟨h.row.1, ?_⟩, h.rds.keep fun k h1 _ h3 _ => ho.block k h3 fun hm => by have := hL k hm; omega, Nat.le_trans h.le ho.size⟩
 rcases h.row.2 with h2 | ⟨g', cap', cur', hv, hb, hh', r⟩
 ·exact .inl h2
 ·injection hv with hv1 hv2 hv3
  injection hv1 with hv1
  injection hv1 with hv1
  subst hv1
  exact .inr ⟨g, cap', cur', by rw [hv3], hb, (ho.block g hgl fun hm => by have := hL g hm; omega).trans hh', r⟩
theorem RdO.top {w : World} {lo hi g cap : Nat} {f : List It × Nat} {fs : List (List It × Nat)} {v : Value × Value} {vs : List (Value × Value)} (h : RdO w lo hi g cap (f :: fs) (v :: vs)) :
 w.cell? ⟨g, fs.length * 2, none⟩ = some v.1 ∧ w.cell? ⟨g, fs.length * 2 + 1, none⟩ = some (.int .i64 f.2) ∧ w.frozen? ⟨g, fs.length * 2, none⟩ = false ∧ w.frozen? ⟨g, fs.length * 2 + 1, none⟩ = false := by
 obtain ⟨m, _, _, hf, hr⟩ := h.rds
 have hl := hr.length
 have hfl := flatV_length vs
 have e1 : ∀ j, (⟨g, 0, none⟩ : Addr).add j = ⟨g, j, none⟩ := by intro j; unfold Addr.add; split <;> simp_all
 obtain ⟨hb, hlt, _, _, cur, hh⟩ := h.block
 have h0 := h.row.cells (g := g) rfl (fs.length * 2) v.1 (by
  show (flatV vs ++ [v.1, v.2])[fs.length * 2]? = _
  rw [List.getElem?_append_right (by omega), show fs.length * 2 - (flatV vs).length = 0 from by omega]; rfl)
 have h1 := h.row.cells (g := g) rfl (fs.length * 2 + 1) v.2 (by
  show (flatV vs ++ [v.1, v.2])[fs.length * 2 + 1]? = _
  rw [List.getElem?_append_right (by omega), show fs.length * 2 + 1 - (flatV vs).length = 1 from by omega]; rfl)
 rw [e1] at h0 h1
 rw [hf.1] at h1
 exact ⟨h0, h1, frozen_at hh (.inl rfl), frozen_at hh (.inl rfl)⟩
theorem RdO.pop {w : World} {lo hi g cap : Nat} {f : List It × Nat} {fs : List (List It × Nat)} {v : Value × Value} {vs : List (Value × Value)} (h : RdO w lo hi g cap (f :: fs) (v :: vs)) :
 ∃ m, lo ≤ m ∧ m ≤ hi ∧ RdF w m hi f v ∧ RdO w lo m g cap fs vs := by
 obtain ⟨m, h1, h2, h3, h4⟩ := h.rds
 exact ⟨m, h1, h2, h3, ⟨ownsRow_pop (by rw [flatV_length, h4.length]) h.row, h4, Nat.le_trans h2 h.le⟩⟩
theorem RdF.list {w : World} {m hi : Nat} {acc : List It} {en : Nat} {v : Value × Value} (h : RdF w m hi (acc, en) v) (hl : acc.length ≤ 9223372036854775807) :
 ∃ A cap, v.1 = .slice A acc.length cap ∧ acc.length ≤ cap ∧ cap ≤ 9223372036854775807 ∧ ∀ c, acc.length ≤ c → c ≤ 9223372036854775807 → ItS w (fun k => m ≤ k ∧ NoRd w k) (listIt acc) (.string ⟨#[]⟩) (.bool true) (.slice A acc.length c) := by
 obtain ⟨_, h2, cs, h3, h4⟩ := h
 rcases h3.2 with ⟨e1, e2⟩ | ⟨g, cap, cur, hv, hg, hh, hn, hm, _⟩
 ·have e2 : acc.length = 0 := e2
  obtain rfl : acc = [] := List.eq_nil_of_length_eq_zero e2
  exact ⟨none, 0, e1, by simp, by simp, fun c _ hc => ⟨rfl, rfl, Nat.zero_le _, hl, none, c, rfl, Nat.zero_le _, hc, trivial⟩⟩
 ·refine ⟨some ⟨g, 0, none⟩, cap, hv, hn, by simpa [maxLen] using hm, fun c hc1 hc2 => ⟨rfl, rfl, Nat.zero_le _, hl, some ⟨g, 0, none⟩, c, rfl, hc1, hc2, ?_⟩⟩
  refine ItsS.of_cells ⟨hg, NoRd.of_item hh (by decide)⟩ (h4.keep (fun k _ h => ⟨h.1, h.2.2.2⟩) (fun _ _ _ => rfl)) fun j u hu => ?_
  have hv' : v.1.ownBlock = some g := by rw [hv]; rfl
  have := h3.cells hv' j u hu
  have e1 : (⟨g, 0, none⟩ : Addr).add j = ⟨g, j, none⟩ := by unfold Addr.add; split <;> simp_all
  rw [e1] at this
  simpa using this
theorem RdO.push {w w' : World} {lo hi g cap g' cap' : Nat} {fs : List (List It × Nat)} {vs : List (Value × Value)} (h : RdO w lo hi g cap fs vs) (en : Nat)
 (hr : w'.ownsRow lo 188 2 (.slice (some ⟨g', 0, none⟩) (fs.length + 1) cap') (fs.length + 1) (flatV vs ++ [.slice none 0 0, .int .i64 en])) (hg : w.grownBy w' (some g)) (hlo : lo ≤ hi) :
 RdO w' lo w'.heap.size g' cap' (([], en) :: fs) ((.slice none 0 0, .int .i64 en) :: vs) := by
 obtain ⟨hgS, hgl, _, _, cur, hh⟩ := h.block
 refine ⟨hr, ⟨hi, hlo, Nat.le_trans h.le hg.size, ⟨rfl, (fun g hg => by cases hg), [], World.ownsRow_nil _ _ _ _, rfl⟩, h.rds.keep fun k _ _ hk hn => hg.block k hk ?_⟩, Nat.le_refl _⟩
 intro e
 injection e with e
 subst e
 exact hn _ _ hh
theorem RdO.first {w : World} {lo g cap : Nat} (en : Nat) (hr : w.ownsRow lo 188 2 (.slice (some ⟨g, 0, none⟩) 1 cap) 1 [.slice none 0 0, .int .i64 en]) (hlo : lo ≤ w.heap.size) : RdO w lo w.heap.size g cap [([], en)] [(.slice none 0 0, .int .i64 en)] :=
 ⟨hr, ⟨lo, Nat.le_refl _, hlo, ⟨rfl, (fun g hg => by cases hg), [], World.ownsRow_nil _ _ _ _, rfl⟩, trivial⟩, Nat.le_refl _⟩
theorem RdO.added {w w1 : World} {lo m hi g cap g' c' : Nat} {acc : List It} {en : Nat} {fs : List (List It × Nat)} {v0 v1 : Value} {vs : List (Value × Value)} {cs : List Value} {z0 z1 z2 c0 c1 c2 : Value} {y : It}
 (hrow : w.ownsRow lo 188 2 (.slice (some ⟨g, 0, none⟩) (fs.length + 1) cap) (fs.length + 1) (flatV ((v0, v1) :: vs))) (hle : hi ≤ w.heap.size) (hm1 : lo ≤ m) (hm2 : m ≤ hi) (hv1 : v1 = .int .i64 en) (hown : ∀ g, v0.ownBlock = some g → g < hi)
 (hr0 : w.ownsRow m 28 3 v0 acc.length cs) (hit : ItsAreS w (fun k => m ≤ k ∧ k < hi ∧ v0.ownBlock ≠ some k ∧ NoRd w k) acc cs) (hlow : RdL w lo m fs vs) (hy : ItS w (fun k => hi ≤ k ∧ NoRd w k) y c0 c1 c2)
 (hg : w.grownBy w1 v0.ownBlock) (hr1 : w1.ownsRow m 28 3 (.slice (some ⟨g', 0, none⟩) (acc.length + 1) c') (acc.length + 1) (cs ++ [z0, z1, z2])) (hat : v0.ownBlock = some g' ∨ w.heap.size ≤ g') :
 RdO ((((w1.setCell ⟨g', acc.length * 3, none⟩ c0).setCell ⟨g', acc.length * 3 + 1, none⟩ c1).setCell ⟨g', acc.length * 3 + 2, none⟩ c2).setCell ⟨g, fs.length * 2, none⟩ (.slice (some ⟨g', 0, none⟩) (acc.length + 1) c')) lo w1.heap.size g cap ((acc ++ [y], en) :: fs) ((.slice (some ⟨g', 0, none⟩) (acc.length + 1) c', v1) :: vs) := by
 have hl := hlow.length
 obtain ⟨hgS, hgl, hgc, hgm, cur, hh⟩ := ownsRow_block hrow
 have hcsl := hr0.1
 have hg0 : v0.ownBlock ≠ some g := by
  intro e
  rcases hr0.2 with ⟨e1, _⟩ | ⟨g2, cap2, cur2, hv2, _, hh2, _⟩
  ·rw [e1] at e; cases e
  ·rw [hv2] at e
   have : g2 = g := by simpa [Value.ownBlock] using e
   subst this
   rw [hh] at hh2
   injection hh2 with hh2
   injection hh2 with _ hh2
   exact absurd hh2 (by decide)
 have hg'g : g' ≠ g := by
  rcases hat with e | e
  ·intro e2; exact hg0 (by rw [e, e2])
  ·omega
 have hr2 := ownsRow_set (ownsRow_set (ownsRow_set hr1 (k := acc.length * 3) (by simp; omega) c0) (k := acc.length * 3 + 1) (by simp; omega) c1) (k := acc.length * 3 + 2) (by simp; omega) c2
 have hcs : (((cs ++ [z0, z1, z2]).set (acc.length * 3) c0).set (acc.length * 3 + 1) c1).set (acc.length * 3 + 2) c2 = cs ++ [c0, c1, c2] := by
  rw [← hcsl, List.set_append_right _ _ (by omega), List.set_append_right _ _ (by omega), List.set_append_right _ _ (by omega)]
  simp
 rw [hcs] at hr2
 have hblk : ∀ k, k < w.heap.size → v0.ownBlock ≠ some k → k ≠ g → ((((w1.setCell ⟨g', acc.length * 3, none⟩ c0).setCell ⟨g', acc.length * 3 + 1, none⟩ c1).setCell ⟨g', acc.length * 3 + 2, none⟩ c2).setCell ⟨g, fs.length * 2, none⟩ (.slice (some ⟨g', 0, none⟩) (acc.length + 1) c')).heap[k]? = w.heap[k]? := by
  intro k hk h1 h2
  have h3 : k ≠ g' := by
   rcases hat with e | e
   ·intro e2; exact h1 (by rw [e, e2])
   ·omega
  rw [setCell_block (by simpa using h2), setCell_block (by simpa using h3), setCell_block (by simpa using h3), setCell_block (by simpa using h3)]
  exact hg.block k hk (fun e => h1 e.symm)
 have hsz : ((((w1.setCell ⟨g', acc.length * 3, none⟩ c0).setCell ⟨g', acc.length * 3 + 1, none⟩ c1).setCell ⟨g', acc.length * 3 + 2, none⟩ c2).setCell ⟨g, fs.length * 2, none⟩ (.slice (some ⟨g', 0, none⟩) (acc.length + 1) c')).heap.size = w1.heap.size := by simp [World.setCell]
 have hwz := hg.size
 have hg1l : g' < w1.heap.size := (ownsRow_block hr1).2.1
 have hR1 : w1.ownsRow lo 188 2 (.slice (some ⟨g, 0, none⟩) (fs.length + 1) cap) (fs.length + 1) (flatV ((v0, v1) :: vs)) := hrow.kept hg (.inr (by simp only [Value.ownBlock]; exact Ne.symm hg0))
 have hR2 := ownsRow_setCell_other (ownsRow_setCell_other (ownsRow_setCell_other hR1 (a := ⟨g', acc.length * 3, none⟩) (by simp [Value.ownBlock]; omega) c0) (a := ⟨g', acc.length * 3 + 1, none⟩) (by simp [Value.ownBlock]; omega) c1) (a := ⟨g', acc.length * 3 + 2, none⟩) (by simp [Value.ownBlock]; omega) c2
 have hR3 := ownsRow_set hR2 (k := fs.length * 2) (by rw [flatV_length]; simp; omega) (.slice (some ⟨g', 0, none⟩) (acc.length + 1) c')
 rw [flatV_set0 vs (v0, v1) _ _ (by omega)] at hR3
 refine ⟨hR3, ⟨m, hm1, by omega, ⟨hv1, ?_, cs ++ [c0, c1, c2], ?_, ?_⟩, ?_⟩, by rw [hsz]; exact Nat.le_refl _⟩
 ·intro g2 hg2
  have : g' = g2 := by simpa [Value.ownBlock] using hg2
  omega
 ·rw [List.length_append]
  exact ownsRow_setCell_other hr2 (a := ⟨g, fs.length * 2, none⟩) (by simp [Value.ownBlock]; exact hg'g) _
 ·have hA : ∀ k, k < w.heap.size → (hi ≤ k ∧ NoRd w k) → (v0.ownBlock ≠ some k ∧ k ≠ g) := fun k hk hS => ⟨fun e => by have := hown _ e; omega, by rintro rfl; exact hS.2 _ _ hh⟩
  have hB : ∀ k, k < w.heap.size → (m ≤ k ∧ k < hi ∧ v0.ownBlock ≠ some k ∧ NoRd w k) → (v0.ownBlock ≠ some k ∧ k ≠ g) := fun k hk hS => ⟨hS.2.2.1, by rintro rfl; exact hS.2.2.2 _ _ hh⟩
  refine ItsAreS.snoc (ItS.keep (w := w) (S := fun k => hi ≤ k ∧ NoRd w k) (fun k hk hS => ?_) (fun p hp hS => ?_) y hy) (hit.keep (fun k hk hS => ?_) fun p hp hS => ?_)
  ·refine ⟨by omega, by omega, ?_, hS.2.of_eq (hblk k hk (hA k hk hS).1 (hA k hk hS).2)⟩
   intro e
   have e : g' = k := by simpa [Value.ownBlock] using e
   rcases hat with e2 | e2
   ·have := hown _ e2; omega
   ·omega
  ·exact World.cell?_of_block (hblk _ hp (hA _ hp hS).1 (hA _ hp hS).2)
  ·refine ⟨hS.1, by omega, ?_, hS.2.2.2.of_eq (hblk k hk (hB k hk hS).1 (hB k hk hS).2)⟩
   intro e
   have e : g' = k := by simpa [Value.ownBlock] using e
   rcases hat with e2 | e2
   ·exact hS.2.2.1 (by rw [e2, e])
   ·omega
  ·exact World.cell?_of_block (hblk _ hp (hB _ hp hS).1 (hB _ hp hS).2)
 ·refine hlow.keep fun k h1 h2 h3 h4 => hblk k h3 (fun e => ?_) (by rintro rfl; exact h4 _ _ hh)
  rcases hr0.2 with ⟨e1, _⟩ | ⟨g2, cap2, cur2, hv2, hb2, _⟩
  ·rw [e1] at e; cases e
  ·rw [hv2] at e
   have : g2 = k := by simpa [Value.ownBlock] using e
   omega
theorem setCell_comm {w : World} {a b : Addr} (h : a.block ≠ b.block) (x y : Value) : (w.setCell a x).setCell b y = (w.setCell b y).setCell a x := by
 unfold World.setCell
 dsimp only
 congr 1
 apply Array.ext
 ·simp
 ·intro i h1 h2
  simp only [Array.getElem_modify]
  by_cases e1 : a.block = i
  ·have e2 : ¬ b.block = i := fun e => h (e1.trans e.symm)
   simp [e1, e2]
  ·simp [e1]
theorem step_append_zero {w : World} {ops : Array Oper} {o : Oper} {a : Act} {K : Act → World → Prop} {Q : Exit → Act → World → Prop} {E' : Prop} (hgd : o.guard = none) (s x : Operand)
 (ho : o.op = .call { callee := .builtin .append, args := #[s, x], argTypes := #[26, 26] }) (m n : Nat) {v : Value} {cs : List Value} (hs : a.eval s = v) (hrow : w.ownsRow m 28 3 v n cs) (B : Nat)
 (hx : a.eval x = .slice (some ⟨B, 0, none⟩) 1 1) (hb : Blk w B 28 #[.string ⟨#[]⟩, .bool false, .slice none 0 0]) (hlen : n ≤ 1000000) (hlo : m ≤ w.heap.size)
 (hK : ∀ g' c' w', Hid (w'.ownsRow m 28 3 (.slice (some ⟨g', 0, none⟩) (n + 1) c') (n + 1) (cs ++ [.string ⟨#[]⟩, .bool false, .slice none 0 0])) → Hid (w.grownBy w' v.ownBlock) → Hid (v.ownBlock = some g' ∨ w.heap.size ≤ g') → n + 1 ≤ c' → c' ≤ 9223372036854775807 →
  w'.cell? ⟨g', n * 3, none⟩ = some (.string ⟨#[]⟩) → w'.cell? ⟨g', n * 3 + 1, none⟩ = some (.bool false) → w'.cell? ⟨g', n * 3 + 2, none⟩ = some (.slice none 0 0) →
  w'.frozen? ⟨g', n * 3, none⟩ = false → w'.frozen? ⟨g', n * 3 + 1, none⟩ = false → w'.frozen? ⟨g', n * 3 + 2, none⟩ = false → K (a.put o.dst (.slice (some ⟨g', 0, none⟩) (n + 1) c')) w') :
 if Region.wanted o (yielded ops a.tmps) = true then Oper.wp Tryz.prog o a w K Q else E' := by
 obtain ⟨i0, hi, hz0, hz1, hz2⟩ := info_parts info_item
 refine step_append_lies w hgd s x 26 ho m 28 i0 _ 3 48 Tryz.underlying26 hi hz0 hz1 hz2 rfl (by decide) v n cs hs hrow ⟨B, 0, none⟩ 1 1 [.string ⟨#[]⟩, .bool false, .slice none 0 0] hx rfl ?_ ?_ (by decide) (by simp only [maxLen]; omega) (by omega) hlo w.heap.size rfl ?_
 ·exact fun j u hu => World.news_of_block hb j u (by simpa using hu)
 ·intro u hu
  simp at hu
  rcases hu with rfl | rfl | rfl <;> rfl
 ·intro g' c' w' ho' hgr hat hlt
  obtain ⟨_, _, hc1, hc2, cur, hh⟩ := ownsRow_block ho'
  have hl := hrow.1
  have e1 : ∀ j, (⟨g', 0, none⟩ : Addr).add j = ⟨g', j, none⟩ := by intro j; unfold Addr.add; split <;> simp_all
  have h0 := ho'.cells (g := g') rfl (n * 3) (.string ⟨#[]⟩) (by rw [List.getElem?_append_right (by omega), hl, Nat.sub_self]; rfl)
  have h1 := ho'.cells (g := g') rfl (n * 3 + 1) (.bool false) (by rw [List.getElem?_append_right (by omega), hl, show n * 3 + 1 - n * 3 = 1 from by omega]; rfl)
  have h2 := ho'.cells (g := g') rfl (n * 3 + 2) (.slice none 0 0) (by rw [List.getElem?_append_right (by omega), hl, show n * 3 + 2 - n * 3 = 2 from by omega]; rfl)
  rw [e1] at h0 h1 h2
  exact hK g' c' w' (Lib.hid ho') (Lib.hid hgr) (Lib.hid (hat.imp id fun h => by omega)) hc1 hc2 h0 h1 h2 (frozen_at hh (.inl rfl)) (frozen_at hh (.inl rfl)) (frozen_at hh (.inl rfl))
theorem add_none (W : World) (b9 b10 : Nat) (A : Option Addr) (cp : Nat) (t : ByteArray) (l : Bool) (A2 : Option Addr) (n2 k2 : Nat) (z0 z1 z2 : Value) (hcp : cp ≤ 9223372036854775807) (h9 : Blk W b9 185 #[.slice A 0 cp]) (h10 : Blk W b10 28 #[z0, z1, z2]) (h9n : b9 ≠ b10) :
 Calls Tryz.prog 145 #[.agg #[.string t, .bool l, .slice A2 n2 k2], .pointer (some ⟨b9, 0, none⟩), .pointer (some ⟨b10, 0, none⟩)] W fun e w' => e = .returned (.tuple #[]) ∧ Blk w' b10 28 #[.string t, .bool l, .slice A2 n2 k2] ∧ Only [b10] W w' := by
 have q9 := h9.cell 0
 have q9 : W.cell? ⟨b9, 0, none⟩ = some (.slice A 0 cp) := h9.cell 0
 have h9l := h9.lt
 have h10l := h10.lt
 obtain ⟨g0, g1, g2, f0, f1, f2⟩ := blk3 h10
 have H10 := Lib.hid h10
 clear h9 h10
 go_enter Tryz.func145, Tryz.ntmps145
 go_wp2
 refine bodyPost_ret (v := .tuple #[]) (results_none rfl _ _ _) rfl ⟨rfl, ((((H10.out.set 0 _).set 1 _).set 2 _).alloc _), ?_⟩
 exact ((((Only.refl [b10] W).setCell (by simp) _).setCell (by simp) _).setCell (by simp) _).alloc _
theorem add_some (W : World) (lo hi g cp b9 b10 : Nat) (acc : List It) (en : Nat) (fs : List (List It × Nat)) (v0 v1 : Value) (vs : List (Value × Value)) (y : It) (c0 c1 c2 : Value)
 (h9 : Blk W b9 185 #[.slice (some ⟨g, 0, none⟩) (fs.length + 1) cp]) (hR : RdO W lo hi g cp ((acc, en) :: fs) ((v0, v1) :: vs)) (hy : ItS W (fun k => hi ≤ k ∧ NoRd W k) y c0 c1 c2) (hlen : acc.length ≤ 1000000) :
 Calls Tryz.prog 145 #[.agg #[c0, c1, c2], .pointer (some ⟨b9, 0, none⟩), .pointer (some ⟨b10, 0, none⟩)] W fun e w' => e = .returned (.tuple #[]) ∧ Below lo W w' ∧ ∃ v0', RdO w' lo w'.heap.size g cp ((acc ++ [y], en) :: fs) ((v0', v1) :: vs) := by
 have HR := Lib.hid hR
 obtain ⟨m, hm1, hm2, ⟨hv1, hown, cs, hrow, hit⟩, hlow⟩ := hR.rds
 obtain ⟨hgS, hgl, hcp, hcpm, cur, hh⟩ := hR.block
 obtain ⟨t0, t1, tf0, tf1⟩ := hR.top
 have hle := hR.le
 simp only [List.length_cons] at hcp
 dsimp only at hv1 hown hrow hit t0
 have HRW := Lib.hid hrow
 have HIT := Lib.hid hit
 have HLW := Lib.hid hlow
 have HOW := Lib.hid hown
 have HY := Lib.hid hy
 have HF : Hid (∃ A n cap, v0 = .slice A n cap ∧ n = acc.length ∧ n ≤ cap ∧ cap ≤ 9223372036854775807) := Lib.hid (by
  rcases hrow.2 with ⟨e1, e2⟩ | ⟨g2, cap2, cur2, hv2, _, _, hn2, hm2, _⟩
  ·exact ⟨none, 0, 0, e1, e2.symm, by simp, by simp⟩
  ·exact ⟨_, _, cap2, hv2, rfl, hn2, by simpa [maxLen] using hm2⟩)
 obtain ⟨A0, n0, cap0, rfl, hn0, hc0, hc0m⟩ := HF.out
 have HN0 := Lib.hid hn0
 obtain ⟨AA, ck, rfl, rfl, rfl, hty, hck, hckm, _⟩ := hy.open_
 have hq9 := h9.cell 0
 have h9l := h9.lt
 obtain ⟨r, hr⟩ : ∃ r, fs.length = r := ⟨_, rfl⟩
 have HRR := Lib.hid hr
 rw [hr] at t0 t1 tf0 tf1 hcp h9 hq9
 have HNO : Hid (∀ k, W.heap.size ≤ k → Value.ownBlock (.slice A0 n0 cap0) ≠ some k) := Lib.hid (fun k hk e => by have := hown k e; omega)
 have HNG : Hid (Value.ownBlock (.slice A0 n0 cap0) ≠ some g) := Lib.hid (by
  intro e
  rcases hrow.2 with ⟨e1, _⟩ | ⟨g2, cap2, cur2, hv2, _, hh2, _⟩
  ·rw [e1] at e; cases e
  ·rw [hv2] at e
   have : g2 = g := by simpa [Value.ownBlock] using e
   subst this
   rw [hh] at hh2
   injection hh2 with hh2
   injection hh2 with _ hh2
   exact absurd hh2 (by decide))
 subst hv1
 clear hit hlow hown hrow hy hR hh hr hn0
 have HLIT : Hid (Blk (((W.alloc (.cells #[.string y.text, .bool y.list, .slice AA y.sub.length ck] 28)).drew).alloc (.cells #[.string ⟨#[]⟩, .bool false, .slice none 0 0] 28)) (W.heap.size + 1) 28 #[.string ⟨#[]⟩, .bool false, .slice none 0 0]) := Lib.hid (by have := Blk.new (W.alloc (.cells #[.string y.text, .bool y.list, .slice AA y.sub.length ck] 28)).drew 28 #[.string ⟨#[]⟩, .bool false, .slice none 0 0]; simpa using this)
 have HBX : Hid (Blk (((W.alloc (.cells #[.string y.text, .bool y.list, .slice AA y.sub.length ck] 28)).drew).alloc (.cells #[.string ⟨#[]⟩, .bool false, .slice none 0 0] 28)) W.heap.size 28 #[.string y.text, .bool y.list, .slice AA y.sub.length ck]) := Lib.hid (((Blk.new W 28 #[.string y.text, .bool y.list, .slice AA y.sub.length ck]).drew).alloc _)
 have HRO : Hid ((((W.alloc (.cells #[.string y.text, .bool y.list, .slice AA y.sub.length ck] 28)).drew).alloc (.cells #[.string ⟨#[]⟩, .bool false, .slice none 0 0] 28)).ownsRow m 28 3 (.slice A0 n0 cap0) acc.length cs) := Lib.hid ((HRW.out.alloc _).drew.alloc _)
 have HBD : Hid (Below W.heap.size W (((W.alloc (.cells #[.string y.text, .bool y.list, .slice AA y.sub.length ck] 28)).drew).alloc (.cells #[.string ⟨#[]⟩, .bool false, .slice none 0 0] 28))) := Lib.hid ((((Below.refl W.heap.size W).alloc (Nat.le_refl _) _).drew).alloc (by simp) _)
 have HGD : Hid (g < (((W.alloc (.cells #[.string y.text, .bool y.list, .slice AA y.sub.length ck] 28)).drew).alloc (.cells #[.string ⟨#[]⟩, .bool false, .slice none 0 0] 28)).heap.size) := Lib.hid (by simp; omega)
 have HT0 : Hid ((((W.alloc (.cells #[.string y.text, .bool y.list, .slice AA y.sub.length ck] 28)).drew).alloc (.cells #[.string ⟨#[]⟩, .bool false, .slice none 0 0] 28)).cell? ⟨g, r * 2, none⟩ = some (.slice A0 n0 cap0) ∧ (((W.alloc (.cells #[.string y.text, .bool y.list, .slice AA y.sub.length ck] 28)).drew).alloc (.cells #[.string ⟨#[]⟩, .bool false, .slice none 0 0] 28)).frozen? ⟨g, r * 2, none⟩ = false) := Lib.hid ⟨(HBD.out.cell hgl).trans t0, (HBD.out.frozen hgl).trans tf0⟩
 have HGG : Hid (∀ g' : Nat, (Value.ownBlock (.slice A0 n0 cap0) = some g' ∨ (((W.alloc (.cells #[.string y.text, .bool y.list, .slice AA y.sub.length ck] 28)).drew).alloc (.cells #[.string ⟨#[]⟩, .bool false, .slice none 0 0] 28)).heap.size ≤ g') → g' ≠ g) := Lib.hid (fun g' h e => by
  subst e
  rcases h with h | h
  ·exact HNG.out h
  ·have := HGD.out; omega)
 have HMD : Hid (m ≤ (((W.alloc (.cells #[.string y.text, .bool y.list, .slice AA y.sub.length ck] 28)).drew).alloc (.cells #[.string ⟨#[]⟩, .bool false, .slice none 0 0] 28)).heap.size) := Lib.hid (by simp; omega)
 rw [← HN0.out] at hlen
 rw [← HN0.out] at HRO
 have hnn : (n0 : Int) < n0 + 1 := by omega
 go_enter Tryz.func145, Tryz.ntmps145
 go_wp2_with fail
 go_region_law (refine step_append_zero (by rfl) (.tmp 17) (.tmp 20) (by rfl) m n0 (by rfl) HRO.out (W.heap.size + 1) (by rfl) HLIT.out hlen HMD.out ?_; intro g' c' w1 HR1 HG1 HA1 hc1 hc2 q0 q1 q2 qf0 qf1 qf2; obtain ⟨x0, x1, x2, _⟩ := blk3 (HBX.out.grown HG1.out (HNO.out _ (Nat.le_refl _))); have e3 : w1.cell? ⟨g, r * 2, none⟩ = some (.slice A0 n0 cap0) := (HG1.out.cell_far ⟨g, r * 2, none⟩ HGD.out (Ne.symm HNG.out)).trans HT0.out.1; have e4 : w1.frozen? ⟨g, r * 2, none⟩ = false := (HG1.out.frozen_far ⟨g, r * 2, none⟩ HGD.out (Ne.symm HNG.out)).trans HT0.out.2; have hgg : g' ≠ g := HGG.out g' HA1.out; have hgg2 : g ≠ g' := Ne.symm hgg)
 all_goals
  have HD : Hid (RdO ((((w1.setCell ⟨g', n0 * 3, none⟩ (.string y.text)).setCell ⟨g', n0 * 3 + 1, none⟩ (.bool y.list)).setCell ⟨g', n0 * 3 + 2, none⟩ (.slice AA y.sub.length ck)).setCell ⟨g, r * 2, none⟩ (.slice (some ⟨g', 0, none⟩) (n0 + 1) c')) lo w1.heap.size g cp ((acc ++ [y], en) :: fs) ((.slice (some ⟨g', 0, none⟩) (n0 + 1) c', .int .i64 en) :: vs)) := Lib.hid (by
   have h1 := HA1.out
   have h2 := HR1.out
   have h3 := HRW.out
   rw [← HRR.out, HN0.out]
   rw [HN0.out] at h2
   exact RdO.added HR.out.row hle hm1 hm2 rfl HOW.out HRW.out HIT.out HLW.out HY.out ((grownBy_any (grownBy_none HBD.out) _).trans HG1.out) h2 (h1.imp id fun h => Nat.le_trans HBD.out.size h))
  have HBB : Hid (Below lo W ((((w1.setCell ⟨g', n0 * 3, none⟩ (.string y.text)).setCell ⟨g', n0 * 3 + 1, none⟩ (.bool y.list)).setCell ⟨g', n0 * 3 + 2, none⟩ (.slice AA y.sub.length ck)).setCell ⟨g, r * 2, none⟩ (.slice (some ⟨g', 0, none⟩) (n0 + 1) c'))) := Lib.hid (by
   have h1 : ∀ k, Value.ownBlock (.slice A0 n0 cap0) = some k → lo ≤ k := fun k hk => Nat.le_trans hm1 (HRW.out.lt k hk).1
   have hg' : lo ≤ g' := by
    rcases HA1.out with e | e
    ·exact h1 _ e
    ·have e2 := e
     simp at e2
     omega
   exact ((((((HBD.out.mono (by omega)).grown HG1.out (by simp; omega) h1).setCell (by simpa using hg') _).setCell (by simpa using hg') _).setCell (by simpa using hg') _).setCell (by simpa using hgS) _))
  have HCM : Hid (∀ (v : World) (x a b c : Value), (((v.setCell ⟨g, r * 2, none⟩ x).setCell ⟨g', n0 * 3, none⟩ a).setCell ⟨g', n0 * 3 + 1, none⟩ b).setCell ⟨g', n0 * 3 + 2, none⟩ c = (((v.setCell ⟨g', n0 * 3, none⟩ a).setCell ⟨g', n0 * 3 + 1, none⟩ b).setCell ⟨g', n0 * 3 + 2, none⟩ c).setCell ⟨g, r * 2, none⟩ x) := Lib.hid (fun v x a b c => by rw [setCell_comm (a := ⟨g, r * 2, none⟩) (b := ⟨g', n0 * 3, none⟩) hgg2, setCell_comm (a := ⟨g, r * 2, none⟩) (b := ⟨g', n0 * 3 + 1, none⟩) hgg2, setCell_comm (a := ⟨g, r * 2, none⟩) (b := ⟨g', n0 * 3 + 2, none⟩) hgg2])
  clear HR1 HG1 HA1 q0 q1 q2 qf0 qf1 qf2 x0 x1 x2 e3 e4
  go_wp2
  go_end0
  try rw [HCM.out]
  refine ⟨rfl, HBB.out, .slice (some ⟨g', 0, none⟩) (n0 + 1) c', ?_⟩
  have h2 := HD.out
  have hz : ((((w1.setCell ⟨g', n0 * 3, none⟩ (.string y.text)).setCell ⟨g', n0 * 3 + 1, none⟩ (.bool y.list)).setCell ⟨g', n0 * 3 + 2, none⟩ (.slice AA y.sub.length ck)).setCell ⟨g, r * 2, none⟩ (.slice (some ⟨g', 0, none⟩) (n0 + 1) c')).heap.size = w1.heap.size := by simp [World.setCell]
  rw [hz]; exact h2
def topE (z : Nat) : List (List It × Nat) → Nat
 | [] => z
 | f :: _ => f.2
def Ends (z : Nat) : List (List It × Nat) → Prop
 | [] => True
 | f :: fs => f.2 ≤ topE z fs ∧ Ends z fs
theorem Ends.top {z : Nat} : ∀ {fs : List (List It × Nat)}, Ends z fs → topE z fs ≤ z
 | [], _ => Nat.le_refl _
 | f :: fs, h => Nat.le_trans h.1 (Ends.top h.2)
def tally : List (List It × Nat) → Nat
 | [] => 0
 | f :: fs => f.1.length + 1 + tally fs
theorem tally_length : ∀ (fs : List (List It × Nat)), fs.length ≤ tally fs
 | [] => Nat.le_refl _
 | f :: fs => by have := tally_length fs; simp [tally]; omega
def PosP (D M : Int) (s : ByteArray) (R : Rd) (b : Bool) : List (List It × Nat) → Nat → Nat → Prop
 | [], at_, count => b = true ∧ at_ = 0 ∧ count = 0 ∧ rdItem D M s 1 0 = R
 | (acc, en) :: fs, at_, count => b = false ∧ at_ < en ∧ fin D M s acc en fs at_ count = R ∧ Ends s.size ((acc, en) :: fs) ∧ tally ((acc, en) :: fs) ≤ count ∧ count ≤ 1024
def MidP (D M : Int) (s : ByteArray) (R : Rd) : List (List It × Nat) → Nat → Nat → Prop
 | [], at_, _ => R.e = 0 ∧ R.size = at_
 | (acc, en) :: fs, at_, count => at_ ≤ en ∧ fin D M s acc en fs at_ count = R ∧ Ends s.size ((acc, en) :: fs) ∧ tally ((acc, en) :: fs) ≤ count ∧ count ≤ 1024
theorem PosP.le {D M : Int} {s : ByteArray} {R : Rd} {b : Bool} {fs : List (List It × Nat)} {at_ count : Nat} (h : PosP D M s R b fs at_ count) : at_ ≤ topE s.size fs ∧ topE s.size fs ≤ s.size ∧ count ≤ 1024 ∧ fs.length ≤ 1024 ∧ (b = true ↔ fs = []) := by
 match fs, h with
 | [], h => obtain ⟨rfl, rfl, rfl, h⟩ := h; simp [topE]
 | (acc, en) :: fs, h =>
  obtain ⟨rfl, h1, h2, h3, h4, h5⟩ := h
  have h6 := tally_length ((acc, en) :: fs)
  have h7 := h3.top
  exact ⟨Nat.le_of_lt h1, h7, h5, by omega, by simp⟩
theorem whole_cut (s : ByteArray) : s.extract 0 s.size = s := by
 apply bytes_ext
 rw [toList_cut, List.drop_zero, List.take_of_length_le (by simp)]
theorem PosP.err {D M : Int} {s : ByteArray} {R : Rd} {b : Bool} {fs : List (List It × Nat)} {at_ count : Nat} (h : PosP D M s R b fs at_ count) {l : Bool} {z n : Nat} {e : Int}
 (hH : hd (s.extract at_ (topE s.size fs)) (tooDeep D (fs.length + 1)) (tooMany M count) = (l, z, n, e)) (he : e ≠ 0) : R = Rd.bad (if b then e else within e) := by
 match fs, h with
 | [], h =>
  obtain ⟨rfl, rfl, rfl, h0⟩ := h
  simp only [topE, whole_cut] at hH
  rw [← h0]
  exact (fin_first D M s _ hH).1 he
 | (acc, en) :: fs, h =>
  obtain ⟨rfl, h1, h2, h3, h4, h5⟩ := h
  rw [← h2]
  exact fin_err D M s acc en fs at_ count h1 h3.top _ hH he
theorem PosP.many {D M : Int} {s : ByteArray} {fs : List (List It × Nat)} {at_ count : Nat} {l : Bool} {z n : Nat} {e : Int}
 (hH : hd (s.extract at_ (topE s.size fs)) (tooDeep D (fs.length + 1)) (tooMany M count) = (l, z, n, e)) (he : e = 0) : count + 1 ≤ 1024 := by
 have h := hd_is (s.extract at_ (topE s.size fs)) (tooDeep D (fs.length + 1)) (tooMany M count)
 rw [hH] at h
 exact (tooMany_no.1 (h he).2.2.1).2
theorem PosP.list {D M : Int} {s : ByteArray} {R : Rd} {b : Bool} {fs : List (List It × Nat)} {at_ count : Nat} (h : PosP D M s R b fs at_ count) {z n : Nat}
 (hH : hd (s.extract at_ (topE s.size fs)) (tooDeep D (fs.length + 1)) (tooMany M count) = (true, z, n, 0)) :
 MidP D M s R (([], at_ + z + n) :: fs) (at_ + z) (count + 1) ∧ at_ + z + n ≤ s.size ∧ 1 ≤ z ∧ count + 1 ≤ 1024 := by
 have hm := PosP.many hH rfl
 match fs, h with
 | [], h =>
  obtain ⟨rfl, rfl, rfl, h0⟩ := h
  simp only [topE, whole_cut] at hH
  have hk := hd_ok s (tooDeep D 1) (tooMany M 0)
  have hf := (fin_first D M s _ hH).2.2 rfl rfl
  rw [show ([] : List (List It × Nat)).length + 1 = 1 from rfl] at hH
  rw [hH] at hk
  have hk := hk rfl
  dsimp only at hk hf
  rw [h0] at hf
  simp only [Nat.zero_add]
  exact ⟨⟨by omega, hf.symm, ⟨by simp [topE]; omega, trivial⟩, by simp [tally], by omega⟩, by omega, hk.2.2.2 rfl, by omega⟩
 | (acc, en) :: fs, h =>
  obtain ⟨rfl, h1, h2, h3, h4, h5⟩ := h
  obtain ⟨h6, h7, h8⟩ := fin_list D M s acc en fs at_ count h1 h3.top _ hH rfl rfl
  dsimp only at h6 h7 h8
  have h9 := h3.top
  simp only [topE] at h9
  exact ⟨⟨by omega, h6.symm.trans h2, ⟨by simp only [topE]; exact h7, h3⟩, by simp only [tally, List.length_nil] at h4 ⊢; omega, hm⟩, by omega, h8, hm⟩
theorem PosP.text {D M : Int} {s : ByteArray} {R : Rd} {b : Bool} {fs : List (List It × Nat)} {at_ count : Nat} (h : PosP D M s R b fs at_ count) {z n : Nat}
 (hH : hd (s.extract at_ (topE s.size fs)) (tooDeep D (fs.length + 1)) (tooMany M count) = (false, z, n, 0)) :
 at_ + z + n ≤ s.size ∧ 1 ≤ z + n ∧ count + 1 ≤ 1024 ∧ (fs = [] → R = ⟨.mk (s.extract (at_ + z) (at_ + z + n)) false [], at_ + z + n, 1, 0⟩) ∧
 (∀ acc en fs', fs = (acc, en) :: fs' → MidP D M s R ((acc ++ [.mk (s.extract (at_ + z) (at_ + z + n)) false []], en) :: fs') (at_ + z + n) (count + 1)) := by
 have hm := PosP.many hH rfl
 have hk := hd_ok (s.extract at_ (topE s.size fs)) (tooDeep D (fs.length + 1)) (tooMany M count)
 rw [hH] at hk
 have hk := hk rfl
 dsimp only at hk
 match fs, h with
 | [], h =>
  obtain ⟨rfl, rfl, rfl, h0⟩ := h
  simp only [topE, whole_cut] at hH hk
  have hf := (fin_first D M s _ hH).2.1 rfl rfl
  dsimp only at hf
  rw [h0] at hf
  simp only [Nat.zero_add]
  exact ⟨by omega, by omega, by omega, (fun _ => hf), (fun _ _ _ e => by cases e)⟩
 | (acc, en) :: fs, h =>
  obtain ⟨rfl, h1, h2, h3, h4, h5⟩ := h
  obtain ⟨h6, h7⟩ := fin_text D M s acc en fs at_ count h1 h3.top _ hH rfl rfl
  dsimp only at h6 h7
  have h9 := h3.top
  simp only [topE] at h9
  refine ⟨by omega, by omega, hm, (fun e => by cases e), fun acc' en' fs' e => ?_⟩
  injection e with e1 e2
  injection e1 with e3 e4
  subst e2; subst e3; subst e4
  exact ⟨h7, h6.symm.trans h2, h3, by simp only [tally, List.length_append, List.length_singleton] at h4 ⊢; omega, hm⟩
theorem MidP.next {D M : Int} {s : ByteArray} {R : Rd} {acc : List It} {en : Nat} {fs : List (List It × Nat)} {at_ count : Nat} (h : MidP D M s R ((acc, en) :: fs) at_ count) (hne : en ≠ at_) : PosP D M s R false ((acc, en) :: fs) at_ count := by
 obtain ⟨h1, h2⟩ := h
 exact ⟨rfl, by omega, h2⟩
theorem MidP.done {D M : Int} {s : ByteArray} {R : Rd} {acc : List It} {en count : Nat} (h : MidP D M s R [(acc, en)] en count) : R = ⟨listIt acc, en, count, 0⟩ := by
 obtain ⟨h1, h2, h3, h4, h5⟩ := h
 rw [← h2]
 exact fin_done D M s acc en count h3.top
theorem MidP.close {D M : Int} {s : ByteArray} {R : Rd} {acc acc' : List It} {en en' count : Nat} {fs : List (List It × Nat)} (h : MidP D M s R ((acc, en) :: (acc', en') :: fs) en count) : MidP D M s R ((acc' ++ [listIt acc], en') :: fs) en count := by
 obtain ⟨h1, h2, h3, h4, h5⟩ := h
 rw [fin_close D M s acc en (acc', en') fs count h3.top] at h2
 exact ⟨h3.1, h2, h3.2, by simp only [tally, List.length_append, List.length_singleton] at h4 ⊢; omega, h5⟩
theorem MidP.len {D M : Int} {s : ByteArray} {R : Rd} {acc : List It} {en at_ count : Nat} {fs : List (List It × Nat)} (h : MidP D M s R ((acc, en) :: fs) at_ count) : acc.length ≤ 1024 ∧ fs.length ≤ 1024 ∧ en ≤ s.size := by
 obtain ⟨h1, h2, h3, h4, h5⟩ := h
 have := tally_length fs
 simp only [tally] at h4
 exact ⟨by omega, by omega, h3.top⟩
structure NxW (w0 w : World) (A : Option Addr) (r cp : Nat) : Prop where
 res : Blk w w0.heap.size 28 #[.string ⟨#[]⟩, .bool false, .slice none 0 0]
 opn : Blk w (w0.heap.size + 1) 185 #[.slice A r cp]
 who : ∃ z0 z1 z2, Blk w (w0.heap.size + 2) 28 #[z0, z1, z2]
 bel : Below w0.heap.size w0 w
 siz : w0.heap.size + 3 ≤ w.heap.size
 le : r ≤ cp
 mx : cp ≤ 9223372036854775807
theorem NxW.below {w0 w w' : World} {A : Option Addr} {r cp : Nat} (h : NxW w0 w A r cp) (hb : Below (w0.heap.size + 3) w w') : NxW w0 w' A r cp := by
 obtain ⟨z0, z1, z2, hz⟩ := h.who
 exact ⟨h.res.keep hb (by omega), h.opn.keep hb (by omega), ⟨z0, z1, z2, hz.keep hb (by omega)⟩, h.bel.trans (hb.mono (by omega)), Nat.le_trans h.siz hb.size, h.le, h.mx⟩
theorem NxW.store {w0 w : World} {A A' : Option Addr} {r cp r' cp' : Nat} (h : NxW w0 w A r cp) (h1 : r' ≤ cp') (h2 : cp' ≤ 9223372036854775807) : NxW w0 (w.setCell ⟨w0.heap.size + 1, 0, none⟩ (.slice A' r' cp')) A' r' cp' := by
 obtain ⟨z0, z1, z2, hz⟩ := h.who
 refine ⟨h.res.far (p := ⟨w0.heap.size + 1, 0, none⟩) (by simp) _, h.opn.set 0 _, ⟨z0, z1, z2, hz.far (p := ⟨w0.heap.size + 1, 0, none⟩) (by simp) _⟩, h.bel.setCell (by simp) _, by have := h.siz; simp [World.setCell]; omega, h1, h2⟩
theorem NxW.only {w0 w w' : World} {A : Option Addr} {r cp : Nat} (h : NxW w0 w A r cp) (ho : Only [w0.heap.size + 2] w w') {z0 z1 z2 : Value} (hz : Blk w' (w0.heap.size + 2) 28 #[z0, z1, z2]) : NxW w0 w' A r cp :=
 ⟨h.res.only ho (by simp), h.opn.only ho (by simp), ⟨z0, z1, z2, hz⟩, h.bel.trans (ho.below h.bel.size (by simp)), Nat.le_trans h.siz ho.size, h.le, h.mx⟩
def StkW (w : World) (lo : Nat) (A : Option Addr) (cp : Nat) (fs : List (List It × Nat)) : Prop := fs = [] ∨ ∃ g vs, A = some ⟨g, 0, none⟩ ∧ RdO w lo w.heap.size g cp fs vs
theorem StkW.below {w w' : World} {lo : Nat} {A : Option Addr} {cp : Nat} {fs : List (List It × Nat)} (h : StkW w lo A cp fs) (hb : Below w.heap.size w w') : StkW w' lo A cp fs := by
 rcases h with h | ⟨g, vs, h1, h2⟩
 ·exact .inl h
 ·have h3 := h2.below hb
  exact .inr ⟨g, vs, h1, ⟨h3.row, h3.rds.up hb.size, Nat.le_refl _⟩⟩
theorem StkW.only {w w' : World} {lo : Nat} {A : Option Addr} {cp : Nat} {fs : List (List It × Nat)} {L : List Nat} (h : StkW w lo A cp fs) (ho : Only L w w') (hL : ∀ k, k ∈ L → k < lo) : StkW w' lo A cp fs := by
 rcases h with h | ⟨g, vs, h1, h2⟩
 ·exact .inl h
 ·have h3 := h2.only ho hL
  exact .inr ⟨g, vs, h1, ⟨h3.row, h3.rds.up ho.size, Nat.le_refl _⟩⟩
def DoneW (w0 w : World) (x : It) : Prop := ∃ c0 c1 c2, Blk w (w0.heap.size + 2) 28 #[c0, c1, c2] ∧ ItS w (w0.heap.size + 3 ≤ ·) x c0 c1 c2
end Go.Proofs.YtnfpgadegpmhkaaGreatDoor
