/- []byte(s): the world behind it, in my words. Own text; no program in sight. -/
import Derived.Test.YtnfpgadegpmhkaaGreatDoorKA1
import Derived.Lib.ConvBytes
import Derived.Lib.AtoiErrMem
import Derived.Test.YtnfpgadegpmhkaaGreatDoorKA2
import Derived.Deep.AppendSrc
import Derived.Deep.Upon
import Derived.Test.YtnfpgadegpmhkaaGreatDoorProg
import Derived.Test.YtnfpgadegpmhkaaGreatDoorKA3
set_option linter.unusedVariables false
set_option linter.unusedSimpArgs false
namespace Go.Proofs.YtnfpgadegpmhkaaGreatDoor
open Go.RowKit
structure Kept (E : TypeId) (base : Nat) (w w' : World) : Prop where
 below : Below base w w'
 other : ∀ (k : Nat) (o : Obj), w.heap[k]? = some o → (∀ cs fr, o ≠ Obj.cells cs E fr) → w'.heap[k]? = some o
theorem Kept.refl (E : TypeId) (base : Nat) (w : World) : Kept E base w w := ⟨Below.refl _ _, fun _ _ h _ => h⟩
theorem Kept.trans {E : TypeId} {base : Nat} {a b c : World} (h : Kept E base a b) (k : Kept E base b c) : Kept E base a c :=
 ⟨h.below.trans k.below, fun i o hi ho => k.other i o (h.other i o hi ho) ho⟩
theorem Kept.of_below {E : TypeId} {base B : Nat} {a b : World} (h : Below B a b) (hB : a.heap.size ≤ B) (hb : base ≤ a.heap.size) : Kept E base a b :=
 ⟨h.mono (by omega), fun i o hi _ => (h.block i (by
  have := (Array.getElem?_eq_some_iff.1 hi).1
  omega)).trans hi⟩
theorem Kept.alloc {E : TypeId} {base : Nat} {a w : World} (h : Kept E base a w) (hb : base ≤ w.heap.size) (o : Obj) : Kept E base a (w.alloc o) :=
 h.trans (Kept.of_below ((Below.refl w.heap.size w).alloc (Nat.le_refl _) o) (Nat.le_refl _) hb)
theorem Kept.drew {E : TypeId} {base : Nat} {a w : World} (h : Kept E base a w) : Kept E base a w.drew := ⟨h.below.drew, h.other⟩
theorem Kept.size {E : TypeId} {base : Nat} {a w : World} (h : Kept E base a w) : a.heap.size ≤ w.heap.size := h.below.size
theorem Kept.mono {E : TypeId} {base base' : Nat} {a w : World} (h : Kept E base a w) (hb : base' ≤ base) : Kept E base' a w := ⟨h.below.mono hb, h.other⟩
def Buf (w : World) (base : Nat) (E : TypeId) (v : Value) (l : List UInt8) : Prop :=
 ∃ A cap, v = .slice A l.length cap ∧ l.length ≤ cap ∧ cap ≤ 9223372036854775807 ∧
  ((A = none ∧ cap = 0) ∨ ∃ g cur fr, A = some ⟨g, 0, none⟩ ∧ base ≤ g ∧ w.heap[g]? = some (.cells cur E fr) ∧ cur.size = cap ∧ cur.toList.take l.length = cb l ∧ (fr.2 = 0 ∨ cap ≤ fr.1))
theorem Buf.nil (w : World) (base : Nat) (E : TypeId) : Buf w base E (.slice none 0 0) [] := ⟨none, 0, rfl, by simp, by simp, .inl ⟨rfl, rfl⟩⟩
theorem Buf.form {w : World} {base : Nat} {E : TypeId} {v : Value} {l : List UInt8} (h : Buf w base E v l) : ∃ A cap, v = .slice A l.length cap ∧ l.length ≤ cap ∧ cap ≤ 9223372036854775807 := by
 obtain ⟨A, cap, h1, h2, h3, _⟩ := h
 exact ⟨A, cap, h1, h2, h3⟩
theorem Buf.of_heap {w w' : World} {base : Nat} {E : TypeId} {v : Value} {l : List UInt8} (h : Buf w base E v l) (hk : ∀ k, base ≤ k → k < w.heap.size → w'.heap[k]? = w.heap[k]?) : Buf w' base E v l := by
 obtain ⟨A, cap, h1, h2, h3, h4⟩ := h
 refine ⟨A, cap, h1, h2, h3, ?_⟩
 rcases h4 with h4 | ⟨g, cur, fr, hA, hg, hh, r⟩
 ·exact .inl h4
 ·exact .inr ⟨g, cur, fr, hA, hg, (hk g hg (Array.getElem?_eq_some_iff.1 hh).1).trans hh, r⟩
theorem Buf.below {w w' : World} {base : Nat} {E : TypeId} {v : Value} {l : List UInt8} (h : Buf w base E v l) (hb : Below w.heap.size w w') : Buf w' base E v l := h.of_heap fun k _ hk => hb.block k hk
theorem Buf.alloc {w : World} {base : Nat} {E : TypeId} {v : Value} {l : List UInt8} (h : Buf w base E v l) (o : Obj) : Buf (w.alloc o) base E v l := h.below ((Below.refl _ _).alloc (Nat.le_refl _) o)
theorem Buf.drew {w : World} {base : Nat} {E : TypeId} {v : Value} {l : List UInt8} (h : Buf w base E v l) : Buf w.drew base E v l := h
theorem Buf.mono {w : World} {base base' : Nat} {E : TypeId} {v : Value} {l : List UInt8} (h : Buf w base E v l) (hb : base' ≤ base) : Buf w base' E v l := by
 obtain ⟨A, cap, h1, h2, h3, h4⟩ := h
 refine ⟨A, cap, h1, h2, h3, ?_⟩
 rcases h4 with h4 | ⟨g, cur, fr, hA, hg, r⟩
 ·exact .inl h4
 ·exact .inr ⟨g, cur, fr, hA, by omega, r⟩
theorem Buf.only {w w' : World} {base : Nat} {E : TypeId} {v : Value} {l : List UInt8} {L : List Nat} (h : Buf w base E v l) (ho : Only L w w') (hL : ∀ g, g ∈ L → g < base ∨ ∃ cs t fr, w.heap[g]? = some (.cells cs t fr) ∧ t ≠ E) : Buf w' base E v l := by
 obtain ⟨A, cap, h1, h2, h3, h4⟩ := h
 refine ⟨A, cap, h1, h2, h3, ?_⟩
 rcases h4 with h4 | ⟨g, cur, fr, hA, hg, hh, r⟩
 ·exact .inl h4
 ·refine .inr ⟨g, cur, fr, hA, hg, (ho.block g (Array.getElem?_eq_some_iff.1 hh).1 fun hgL => ?_).trans hh, r⟩
  rcases hL g hgL with h5 | ⟨cs, t, fr', h5, h6⟩
  ·omega
  ·rw [hh] at h5; injection h5 with h5; injection h5 with _ h7; exact h6 h7.symm
theorem Buf.own {w : World} {base : Nat} {E : TypeId} {v : Value} {l : List UInt8} (h : w.ownsRow base E 1 v l.length (cb l)) : Buf w base E v l := by
 obtain ⟨h1, h2⟩ := h
 rcases h2 with ⟨h2, h3⟩ | ⟨g, cap, cur, hv, hg, hh, hn, hm, hs, ht⟩
 ·refine ⟨none, 0, by rw [h2, h3], by omega, by simp, .inl ⟨rfl, rfl⟩⟩
 ·exact ⟨some ⟨g, 0, none⟩, cap, hv, hn, by simpa [maxLen] using hm, .inr ⟨g, cur, (0, 0), rfl, hg, hh, by simpa using hs, by simpa using ht, .inl rfl⟩⟩
theorem frozen_at {w : World} {g i : Nat} {cur : Array Value} {E : TypeId} {fr : Nat × Nat} (hh : w.heap[g]? = some (.cells cur E fr)) (hfr : fr.2 = 0 ∨ i < fr.1) : w.frozen? ⟨g, i, none⟩ = false := by
 obtain ⟨lo, hi⟩ := fr
 simp [World.frozen?, hh]
 simp at hfr
 omega
theorem Buf.cells {w : World} {base : Nat} {E : TypeId} {A : Option Addr} {cap : Nat} {l : List UInt8} (h : Buf w base E (.slice A l.length cap) l) : ∀ a, A = some a → ∀ j u, (cb l)[j]? = some u → w.cell? (a.add j) = some u := by
 obtain ⟨A', cap', h1, h2, h3, h4⟩ := h
 injection h1 with hA _ hc
 subst hA; subst hc
 intro a ha j u hu
 rcases h4 with ⟨h4, _⟩ | ⟨g, cur, fr, hA, hg, hh, hs, ht, hfr⟩
 ·rw [h4] at ha; cases ha
 ·rw [hA] at ha
  injection ha with ha
  subst ha
  have e1 : (⟨g, 0, none⟩ : Addr).add j = ⟨g, j, none⟩ := by unfold Addr.add; split <;> simp_all
  have hj : j < l.length := by have := (List.getElem?_eq_some_iff.1 hu).1; rwa [cb_length] at this
  rw [e1]
  simp only [World.cell?, hh]
  rw [← ht, List.getElem?_take_of_lt hj] at hu
  simpa using hu
theorem Buf.str {P : Program} {w : World} {src dst e : TypeId} (hs : P.underlying src = some (.slice e)) (he : P.underlying e = some (.int .u8)) (hd : P.underlying dst = some .string) {base cap : Nat} {E : TypeId} {A : Option Addr} {l : List UInt8}
 (h : Buf w base E (.slice A l.length cap) l) : (convert src dst (.slice A l.length cap)).run P w = .ok (.string ⟨l.toArray⟩) w := by
 cases A with
 | none =>
  obtain ⟨A', cap', h1, h2, h3, h4⟩ := h
  injection h1 with hA _ hc
  subst hA; subst hc
  rcases h4 with ⟨_, h4⟩ | ⟨g, cur, fr, hA, _⟩
  ·subst h4
   have hl : l = [] := List.eq_nil_of_length_eq_zero (by omega)
   subst hl
   rw [run_convert_bytes_string w src dst e none _ 0 hs he hd]
   rfl
  ·cases hA
 | some a => exact run_str w src dst e hs he hd a cap l (h.cells a rfl)
theorem Buf.len {w : World} {base : Nat} {E : TypeId} {A : Option Addr} {n cap : Nat} {l : List UInt8} (h : Buf w base E (.slice A n cap) l) : n = l.length ∧ n ≤ cap ∧ cap ≤ 9223372036854775807 := by
 obtain ⟨A', cap', h1, h2, h3, _⟩ := h
 injection h1 with hA hn hc
 subst hc; subst hn
 exact ⟨rfl, h2, h3⟩
theorem Buf.str' {P : Program} {w : World} {src dst e : TypeId} (hs : P.underlying src = some (.slice e)) (he : P.underlying e = some (.int .u8)) (hd : P.underlying dst = some .string) {base n cap : Nat} {E : TypeId} {A : Option Addr} {l : List UInt8}
 (h : Buf w base E (.slice A n cap) l) : (convert src dst (.slice A n cap)).run P w = .ok (.string ⟨l.toArray⟩) w := by
 obtain ⟨hn, _⟩ := h.len
 subst hn
 exact h.str hs he hd
theorem setCell_heap {w : World} {g o : Nat} {cur : Array Value} {E : TypeId} {fr : Nat × Nat} (v : Value) (h : w.heap[g]? = some (.cells cur E fr)) : (w.setCell ⟨g, o, none⟩ v).heap[g]? = some (.cells (cur.setIfInBounds o v) E fr) := by
 simp [World.setCell, Array.getElem?_modify, h]
theorem setCells_heap {g : Nat} {E : TypeId} {fr : Nat × Nat} : ∀ (vs : List Value) (o : Nat) (w : World) (cur : Array Value), w.heap[g]? = some (.cells cur E fr) → o + vs.length ≤ cur.size →
 ∃ cur', (w.setCells g o vs).heap[g]? = some (.cells cur' E fr) ∧ cur'.size = cur.size ∧ cur'.toList.take (o + vs.length) = cur.toList.take o ++ vs
 | [], o, w, cur, h, _ => ⟨cur, h, rfl, by simp⟩
 | v :: vs, o, w, cur, h, hl => by
  simp only [List.length_cons] at hl
  obtain ⟨cur', h1, h2, h3⟩ := setCells_heap vs (o + 1) (w.setCell ⟨g, o, none⟩ v) (cur.setIfInBounds o v) (setCell_heap v h) (by simp; omega)
  refine ⟨cur', h1, by simpa using h2, ?_⟩
  rw [List.length_cons, show o + (vs.length + 1) = o + 1 + vs.length from by omega, h3]
  have e : (cur.setIfInBounds o v).toList.take (o + 1) = cur.toList.take o ++ [v] := by
   rw [Array.toList_setIfInBounds, List.take_succ_eq_append_getElem (by simp; omega), List.getElem_set_self, List.take_set_of_le (Nat.le_refl _)]
  rw [e, List.append_assoc]; rfl
theorem setCells_size (w : World) (g o : Nat) (vs : List Value) : (w.setCells g o vs).heap.size = w.heap.size := by
 induction vs generalizing w o with
 | nil => rfl
 | cons v vs ih => rw [World.setCells, ih]; simp [World.setCell]
theorem setCells_tape (w : World) (g o : Nat) (vs : List Value) : (w.setCells g o vs).tape = w.tape := by
 induction vs generalizing w o with
 | nil => rfl
 | cons v vs ih => rw [World.setCells, ih]; rfl
theorem setCells_kept {w : World} {base g o : Nat} {E : TypeId} {cur : Array Value} {fr : Nat × Nat} (hh : w.heap[g]? = some (.cells cur E fr)) (hg : base ≤ g) (vs : List Value) : Kept E base w (w.setCells g o vs) := by
 have hblk : ∀ k, k ≠ g → (w.setCells g o vs).heap[k]? = w.heap[k]? := by
  intro k hk
  by_cases hlt : k < w.heap.size
  ·exact World.heap_setCells_other w g o vs hlt hk
  ·rw [Array.getElem?_eq_none (by rw [setCells_size]; omega), Array.getElem?_eq_none (by omega)]
 refine ⟨⟨World.os_setCells w g o vs, setCells_tape w g o vs, World.output_setCells w g o vs, by rw [setCells_size]; exact Nat.le_refl _, fun k hk => hblk k (by omega)⟩, fun k ob hk hne => ?_⟩
 rw [hblk k (by rintro rfl; rw [hh] at hk; injection hk with hk; exact hne _ _ hk.symm)]
 exact hk
theorem Buf.at_ {w : World} {base : Nat} {E : TypeId} {g n cap k : Nat} {l : List UInt8} (h : Buf w base E (.slice (some ⟨g, 0, none⟩) n cap) l) (hk : k < l.length) : w.cell? ⟨g, k, none⟩ = some (.int .u8 (l.getD k 0).toNat) ∧ w.frozen? ⟨g, k, none⟩ = false ∧ base ≤ g ∧ g < w.heap.size := by
 obtain ⟨A', cap', h1, h2, h3, h4⟩ := h
 injection h1 with hA hn hc
 subst hA; subst hc; subst hn
 rcases h4 with ⟨h4, _⟩ | ⟨g', cur, fr, hA, hg, hh, hs, ht, hfr⟩
 ·cases h4
 ·injection hA with hA
  injection hA with hA
  subst hA
  refine ⟨?_, frozen_at hh (by rcases hfr with h | h; exact .inl h; exact .inr (by omega)), hg, (Array.getElem?_eq_some_iff.1 hh).1⟩
  have hb : (cb l)[k]? = some (.int .u8 (l.getD k 0).toNat) := by rw [cb_at, List.getElem?_eq_getElem hk, List.getD_eq_getElem?_getD, List.getElem?_eq_getElem hk]; rfl
  rw [← ht, List.getElem?_take_of_lt hk] at hb
  simp only [World.cell?, hh]
  simpa using hb
theorem Buf.set {w : World} {base : Nat} {E : TypeId} {g n cap k : Nat} {l : List UInt8} (h : Buf w base E (.slice (some ⟨g, 0, none⟩) n cap) l) (hk : k < l.length) (b : UInt8) : Buf (w.setCell ⟨g, k, none⟩ (.int .u8 b.toNat)) base E (.slice (some ⟨g, 0, none⟩) n cap) (l.set k b) := by
 obtain ⟨A', cap', h1, h2, h3, h4⟩ := h
 injection h1 with hA hn hc
 subst hA; subst hc; subst hn
 rcases h4 with ⟨h4, _⟩ | ⟨g', cur, fr, hA, hg, hh, hs, ht, hfr⟩
 ·cases h4
 ·injection hA with hA
  injection hA with hA
  subst hA
  refine ⟨_, cap, by rw [List.length_set], by rw [List.length_set]; exact h2, h3, .inr ⟨g, _, fr, rfl, hg, setCell_heap _ hh, by simpa using hs, ?_, hfr⟩⟩
  rw [List.length_set, Array.toList_setIfInBounds, List.take_set, ht]
  simp [cb, List.map_set]
theorem Kept.store {E : TypeId} {base g k : Nat} {a w : World} {cur : Array Value} {fr : Nat × Nat} (h : Kept E base a w) (hh : w.heap[g]? = some (.cells cur E fr)) (hg : base ≤ g) (v : Value) : Kept E base a (w.setCell ⟨g, k, none⟩ v) :=
 h.trans (setCells_kept (o := k) hh hg [v])
theorem Buf.block {w : World} {base : Nat} {E : TypeId} {g n cap : Nat} {l : List UInt8} (h : Buf w base E (.slice (some ⟨g, 0, none⟩) n cap) l) : ∃ cur fr, w.heap[g]? = some (.cells cur E fr) ∧ base ≤ g := by
 obtain ⟨A', cap', h1, h2, h3, h4⟩ := h
 injection h1 with hA _ hc
 subst hA
 rcases h4 with ⟨h4, _⟩ | ⟨g', cur, fr, hA, hg, hh, hs, ht, hfr⟩
 ·cases h4
 ·injection hA with hA
  injection hA with hA
  subst hA
  exact ⟨cur, fr, hh, hg⟩
theorem made_bytes (n : Nat) : (madeCells (Value.int .u8 0).cells (n * 1)).toList = cb (List.replicate n 0) := by
 have h1 : (Value.int .u8 0).cells = #[.int .u8 0] := rfl
 rw [h1, Nat.mul_one]
 apply List.ext_getElem
 ·simp [madeCells, cb]
 ·intro i h2 h3
  simp [madeCells, cb, Nat.mod_one]
theorem Buf.append {P : Program} {w : World} {base : Nat} {E : TypeId} {v : Value} {l : List UInt8} (h : Buf w base E v l) (t tx ty : TypeId) (i : TypeInfo) (ht : P.underlying t = some (.slice E)) (hi : P.info? E = some i) (hz : i.zero = some (.int .u8 0)) (h1 : i.size = 1) (hby : i.bytes = 1)
 (xv : Value) (m : List UInt8) (hs : Src P 1 tx xv m.length (cb m) w) (hb : base ≤ w.heap.size) (hlen : l.length + m.length ≤ 140737488355328) :
 ∃ v' w', (Builtin.append_ #[t, tx] ty #[v, xv]).run P w = .ok v' w' ∧ Buf w' base E v' (l ++ m) ∧ Kept E base w w' := by
 obtain ⟨A, cap, rfl, hlc, hcm, h4⟩ := h
 have hs' : Src P i.size tx xv m.length (cb m) w := by rw [h1]; exact hs
 by_cases hroom : l.length + m.length ≤ cap
 ·rcases h4 with ⟨hA, hc0⟩ | ⟨g, cur, fr, hA, hg, hh, hsz, htk, hfr⟩
  ·subst hA; subst hc0
   have hl0 : l = [] := List.eq_nil_of_length_eq_zero (by omega)
   have hm0 : m = [] := List.eq_nil_of_length_eq_zero (by omega)
   subst hl0; subst hm0
   exact ⟨_, w, Go.run_append_nothing w t tx ty E i ht hi none 0 0 (Nat.le_refl _) xv hs', Buf.nil w base E, Kept.refl E base w⟩
  ·subst hA
   have hrun := run_append_room_src (P := P) w t tx ty E i ht hi g 0 l.length cap xv m.length (cb m) hs' hroom
    (by
     intro j hj
     rw [cb_length] at hj
     have : 0 + l.length * i.size + j < cur.size := by rw [h1, hsz]; omega
     simp only [World.cell?, hh]
     rw [Array.getElem?_eq_getElem this]; rfl)
    (by
     intro j hj
     rw [cb_length] at hj
     exact frozen_at hh (by rw [h1]; rcases hfr with h | h; exact .inl h; exact .inr (by omega)))
   rw [h1, Nat.mul_one, Nat.zero_add] at hrun
   obtain ⟨cur', c1, c2, c3⟩ := setCells_heap (cb m) l.length w cur hh (by rw [cb_length]; omega)
   refine ⟨_, _, hrun, ⟨_, cap, by rw [List.length_append], by rw [List.length_append]; exact hroom, hcm, .inr ⟨g, cur', fr, rfl, hg, c1, by omega, ?_, hfr⟩⟩, setCells_kept hh hg _⟩
   rw [List.length_append, cb_append]
   rw [cb_length, htk] at c3
   exact c3
 ·have hold : (Builtin.firstCells i.size l.length (.slice A l.length cap)).run P w.drew = .ok (cb l).toArray w.drew := by
   rcases h4 with ⟨hA, hc0⟩ | ⟨g, cur, fr, hA, hg, hh, hsz, htk, hfr⟩
   ·subst hA; subst hc0
    have hl0 : l = [] := List.eq_nil_of_length_eq_zero (by omega)
    subst hl0
    exact run_firstCells_none w.drew i.size 0 0 0
   ·have hc := Buf.cells (w := w) (base := base) (E := E) (A := A) (cap := cap) (l := l) ⟨A, cap, rfl, hlc, hcm, .inr ⟨g, cur, fr, hA, hg, hh, hsz, htk, hfr⟩⟩ ⟨g, 0, none⟩ hA
    subst hA
    exact run_firstCells_some w.drew i.size l.length _ l.length cap (cb l) (by rw [cb_length, h1, Nat.mul_one]) hc
  have hfit : Builtin.nextslicecap (l.length + m.length) cap * i.bytes ≤ 281474976710656 := by
   rw [hby]
   exact growslice_fits (by omega) (by omega)
  have hrun := run_append_grow_src (P := P) w t tx ty E i (.int .u8 0) ht hi hz A l.length cap (cb l) hold xv m.length (cb m) hs' (by omega) (by omega) hfit
  have g1 := grownCap_ge w (l.length + m.length) cap E
  have g2 := grownCap_le_maxLen w (l.length + m.length) cap E (by simp [maxLen]; omega)
  refine ⟨_, _, hrun, ⟨_, _, by rw [List.length_append], by rw [List.length_append]; exact g1, by simpa [maxLen] using g2, .inr ⟨w.heap.size, _, (0, 0), rfl, hb, heap_alloc_new w.drew _, ?_, ?_, .inl rfl⟩⟩, ((Kept.refl E base w).drew.alloc (by simpa using hb) _)⟩
  ·simp only [Array.size_append, List.size_toArray, List.length_append, cb_length, size_zeroCells]
   have : (Value.int .u8 0).cells.size = 1 := rfl
   rw [this]; omega
  ·rw [Array.toList_append, List.length_append, List.take_append_of_le_length (by simp [cb_length]), cb_append]
   exact List.take_of_length_le (by simp [cb_length])
theorem Kept.of_none {E : TypeId} {base : Nat} {w w' : World} (h : w.grownBy w' none) (hb : base ≤ w.heap.size) : Kept E base w w' :=
 ⟨⟨h.os, h.tape, h.output, h.size, fun k hk => h.block k (by omega) (by simp)⟩, fun k o hk _ => (h.block k (Array.getElem?_eq_some_iff.1 hk).1 (by simp)).trans hk⟩
theorem wpList_append_buf {P : Program} {w : World} {ops : Array Oper} {rest : List Oper} {o : Oper} {a : Act} {Q : Exit → Act → World → Prop} (hgd : o.guard = none) (s x : Operand) (t tx : TypeId)
 (ho : o.op = .call { callee := .builtin .append, args := #[s, x], argTypes := #[t, tx] }) (base : Nat) (E : TypeId) (i : TypeInfo) (ht : P.underlying t = some (.slice E)) (hi : P.info? E = some i) (hz : i.zero = some (.int .u8 0)) (h1 : i.size = 1) (hby : i.bytes = 1)
 {v : Value} {l : List UInt8} (hv : a.eval s = v) (h : Buf w base E v l) (xv : Value) (m : List UInt8) (hx : a.eval x = xv) (hs : Src P 1 tx xv m.length (cb m) w) (hb : base ≤ w.heap.size) (hlen : l.length + m.length ≤ 140737488355328)
 (hK : ∀ (A' : Option Addr) (n' cap' : Nat) w', Buf w' base E (.slice A' n' cap') (l ++ m) → Kept E base w w' → wpList P ops Q rest (a.put o.dst (.slice A' n' cap')) w') : wpList P ops Q (o :: rest) a w := by
 refine wpList_plain hgd fun K hK' => ?_
 obtain ⟨v', w', hrun, r1, r2⟩ := h.append (P := P) t tx o.type i ht hi hz h1 hby xv m hs hb hlen
 obtain ⟨A', cap', hv', _⟩ := r1.form
 unfold Oper.wp
 simp [execOp, ho, resolve, invoke, builtin, hv, hx, hrun, Result.andThen]
 subst hv'
 exact hK' _ _ (hK _ _ _ w' r1 r2)
theorem src_new {P : Program} {tx e' : TypeId} (hk : P.underlying tx = some (.slice e')) (w : World) (E : TypeId) (cs : Array Value) (m : List UInt8) (c : Nat) (hcs : cs.toList = cb m) : Src P 1 tx (.slice (some ⟨w.heap.size, 0, none⟩) m.length c) m.length (cb m) (w.alloc (.cells cs E)) :=
 Src.ofSlice _ hk _ _ _ _ (by rw [cb_length, Nat.mul_one]) (fun j u hu => World.news_of_block (heap_alloc_new w (.cells cs E)) j u (by rw [← hcs] at hu; simpa using hu)) (cb_one m)
theorem src_str {P : Program} {tx : TypeId} (hk : P.underlying tx = some .string) (w : World) (s : ByteArray) : Src P 1 tx (.string s) s.data.toList.length (cb s.data.toList) w := by
 have := Src.ofString (P := P) w hk s
 rw [toList_size]; exact this
theorem src_buf {P : Program} {tx e' : TypeId} (hk : P.underlying tx = some (.slice e')) {w : World} {base : Nat} {E : TypeId} {v : Value} {m : List UInt8} (h : Buf w base E v m) : Src P 1 tx v m.length (cb m) w := by
 obtain ⟨A, cap, rfl, h2, h3⟩ := h.form
 cases A with
 | none =>
  obtain ⟨A', cap', h1, _, _, h4⟩ := h
  injection h1 with hA _ hc
  subst hA; subst hc
  rcases h4 with ⟨_, h4⟩ | ⟨g, cur, fr, hA, _⟩
  ·subst h4
   have hl : m = [] := List.eq_nil_of_length_eq_zero (by omega)
   subst hl
   exact Src.ofNil w hk 0
  ·cases hA
 | some ad => exact Src.ofSlice w hk ad _ _ _ (by rw [cb_length, Nat.mul_one]) (h.cells ad rfl) (cb_one m)
theorem cb_ub1 {a : Int} {x : Nat} (h : a = x) (hx : x < 256) : (#[Value.int .u8 a] : Array Value).toList = cb [ub x] := by
 subst h; simp [cb, ub_toNat x hx]
def EnR (w : World) (B : Nat) (v : Value) (l : List Ent) : Prop := ∃ A cap, v = .slice A l.length cap ∧ l.length ≤ cap ∧ cap ≤ 9223372036854775807 ∧ ∀ j (h : j < l.length), ∃ g o, A = some ⟨g, o, none⟩ ∧ g < B ∧ w.cell? ⟨g, o + j * 3, none⟩ = some (.int .u64 l[j].id) ∧ w.cell? ⟨g, o + j * 3 + 1, none⟩ = some (.string l[j].name) ∧ w.cell? ⟨g, o + j * 3 + 2, none⟩ = some (.string l[j].ty)
theorem EnR.keep {w w' : World} {B B' : Nat} {v : Value} {l : List Ent} (h : EnR w B v l) (hB : B ≤ B') (hk : ∀ p : Addr, p.block < B → w'.cell? p = w.cell? p) : EnR w' B' v l := by
 obtain ⟨A, cap, h1, h2, h3, h4⟩ := h
 refine ⟨A, cap, h1, h2, h3, fun j hj => ?_⟩
 obtain ⟨g, o, hA, hg, e0, e1, e2⟩ := h4 j hj
 exact ⟨g, o, hA, by omega, (hk _ hg).trans e0, (hk _ hg).trans e1, (hk _ hg).trans e2⟩
theorem EnR.below {w w' : World} {B : Nat} {v : Value} {l : List Ent} (h : EnR w B v l) (hb : Below B w w') : EnR w' B v l := h.keep (Nat.le_refl _) (fun _ hp => hb.cell hp)
theorem EnR.mono {w : World} {B B' : Nat} {v : Value} {l : List Ent} (h : EnR w B v l) (hB : B ≤ B') : EnR w B' v l := h.keep hB (fun _ _ => rfl)
theorem EnR.form' {w : World} {B : Nat} {v : Value} {l : List Ent} (h : EnR w B v l) : ∃ A n cap, v = .slice A n cap ∧ Hid (n = l.length) ∧ n ≤ cap ∧ cap ≤ 9223372036854775807 := by
 obtain ⟨A, cap, h1, h2, h3, _⟩ := h
 exact ⟨A, _, cap, h1, Lib.hid rfl, h2, h3⟩
theorem EnR.at_ {w : World} {B : Nat} {A : Option Addr} {n cap : Nat} {l : List Ent} (h : EnR w B (.slice A n cap) l) {j : Nat} (hj : j < l.length) : ∃ g o, A = some ⟨g, o, none⟩ ∧ g < B ∧ w.cell? ⟨g, o + j * 3, none⟩ = some (.int .u64 l[j].id) ∧ w.cell? ⟨g, o + j * 3 + 1, none⟩ = some (.string l[j].name) ∧ w.cell? ⟨g, o + j * 3 + 2, none⟩ = some (.string l[j].ty) := by
 obtain ⟨A', cap', h1, h2, h3, h4⟩ := h
 injection h1 with hA _ _
 subst hA
 exact h4 j hj
theorem EnR.nil (w : World) (B : Nat) : EnR w B (.slice none 0 0) [] := ⟨none, 0, rfl, by simp, by simp, fun j hj => by simp at hj⟩
end Go.Proofs.YtnfpgadegpmhkaaGreatDoor
