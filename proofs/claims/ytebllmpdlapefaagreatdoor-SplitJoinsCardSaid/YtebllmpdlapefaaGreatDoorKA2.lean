/- A slice of bytes that the call has made, nil or not, from 'make', '[]byte(s)' or append: 'Buf'; appended to from whatever source. Own text; no program in sight. -/
/- A region that draws its order, whose operations only read (or call what only reads) but for a forced tail: one walk of the lexical order, then the tail. Own law; no program in sight. -/
/- A region that draws its order, its operations in any order under an invariant. Own law; no program in sight. -/
import Derived.Test.YtebllmpdlapefaaGreatDoorKA1
import Derived.Deep.AppendSrc
import Derived.Deep.Upon
import Derived.StillTail
import Derived.Deep.Quiet
import Derived.Deep.QuietTactic
import Derived.BigQuiet
import Derived.Tactics
namespace Go.Proofs.YtebllmpdlapefaaGreatDoor
set_option linter.unusedVariables false
set_option linter.unusedSimpArgs false
open Go.RowKit

/-- From w to w' what lies below base stands, and so does every block that is no row of cells of type E. -/
structure Kept (E : TypeId) (base : Nat) (w w' : World) : Prop where
  below : Below base w w'
  other : ∀ (k : Nat) (o : Obj), w.heap[k]? = some o → (∀ cs fr, o ≠ Obj.cells cs E fr) → w'.heap[k]? = some o
theorem Kept.refl (E : TypeId) (base : Nat) (w : World) : Kept E base w w := ⟨Below.refl _ _, fun _ _ h _ => h⟩
theorem Kept.trans {E : TypeId} {base : Nat} {a b c : World} (h : Kept E base a b) (k : Kept E base b c) : Kept E base a c :=
  ⟨h.below.trans k.below, fun i o hi ho => k.other i o (h.other i o hi ho) ho⟩
theorem Kept.of_below {E : TypeId} {base B : Nat} {a b : World} (h : Below B a b) (hB : a.heap.size ≤ B) (hb : base ≤ a.heap.size) : Kept E base a b :=
  ⟨h.mono (by omega), fun i o hi _ => (h.block i (by
    have := (Array.getElem?_eq_some_iff.1 hi).1
    omega)).trans hi⟩
theorem Kept.alloc {E : TypeId} {base : Nat} {a w : World} (h : Kept E base a w) (hb : base ≤ w.heap.size) (o : Obj) : Kept E base a (w.alloc o) :=
  h.trans (Kept.of_below ((Below.refl w.heap.size w).alloc (Nat.le_refl _) o) (Nat.le_refl _) hb)
theorem Kept.drew {E : TypeId} {base : Nat} {a w : World} (h : Kept E base a w) : Kept E base a w.drew := ⟨h.below.drew, h.other⟩
theorem Kept.size {E : TypeId} {base : Nat} {a w : World} (h : Kept E base a w) : a.heap.size ≤ w.heap.size := h.below.size
theorem Kept.mono {E : TypeId} {base base' : Nat} {a w : World} (h : Kept E base a w) (hb : base' ≤ base) : Kept E base' a w := ⟨h.below.mono hb, h.other⟩

/-- The value v is a slice of the bytes l, in a row of the call's own (from block base on), or nil. -/
def Buf (w : World) (base : Nat) (E : TypeId) (v : Value) (l : List UInt8) : Prop :=
  ∃ A cap, v = .slice A l.length cap ∧ l.length ≤ cap ∧ cap ≤ 9223372036854775807 ∧
    ((A = none ∧ cap = 0) ∨ ∃ g cur fr, A = some ⟨g, 0, none⟩ ∧ base ≤ g ∧ w.heap[g]? = some (.cells cur E fr) ∧ cur.size = cap ∧ cur.toList.take l.length = cb l ∧ (fr.2 = 0 ∨ cap ≤ fr.1))
theorem Buf.nil (w : World) (base : Nat) (E : TypeId) : Buf w base E (.slice none 0 0) [] := ⟨none, 0, rfl, by simp, by simp, .inl ⟨rfl, rfl⟩⟩
theorem Buf.form {w : World} {base : Nat} {E : TypeId} {v : Value} {l : List UInt8} (h : Buf w base E v l) : ∃ A cap, v = .slice A l.length cap ∧ l.length ≤ cap ∧ cap ≤ 9223372036854775807 := by
  obtain ⟨A, cap, h1, h2, h3, _⟩ := h
  exact ⟨A, cap, h1, h2, h3⟩
/-- Every block stands but perhaps those of cells below base: a Buf stands where its block does. -/
theorem Buf.of_heap {w w' : World} {base : Nat} {E : TypeId} {v : Value} {l : List UInt8} (h : Buf w base E v l) (hk : ∀ k, base ≤ k → k < w.heap.size → w'.heap[k]? = w.heap[k]?) : Buf w' base E v l := by
  obtain ⟨A, cap, h1, h2, h3, h4⟩ := h
  refine ⟨A, cap, h1, h2, h3, ?_⟩
  rcases h4 with h4 | ⟨g, cur, fr, hA, hg, hh, r⟩
  · exact .inl h4
  · exact .inr ⟨g, cur, fr, hA, hg, (hk g hg (Array.getElem?_eq_some_iff.1 hh).1).trans hh, r⟩
theorem Buf.below {w w' : World} {base : Nat} {E : TypeId} {v : Value} {l : List UInt8} (h : Buf w base E v l) (hb : Below w.heap.size w w') : Buf w' base E v l := h.of_heap fun k _ hk => hb.block k hk
theorem Buf.alloc {w : World} {base : Nat} {E : TypeId} {v : Value} {l : List UInt8} (h : Buf w base E v l) (o : Obj) : Buf (w.alloc o) base E v l := h.below ((Below.refl _ _).alloc (Nat.le_refl _) o)
theorem Buf.drew {w : World} {base : Nat} {E : TypeId} {v : Value} {l : List UInt8} (h : Buf w base E v l) : Buf w.drew base E v l := h
theorem Buf.mono {w : World} {base base' : Nat} {E : TypeId} {v : Value} {l : List UInt8} (h : Buf w base E v l) (hb : base' ≤ base) : Buf w base' E v l := by
  obtain ⟨A, cap, h1, h2, h3, h4⟩ := h
  refine ⟨A, cap, h1, h2, h3, ?_⟩
  rcases h4 with h4 | ⟨g, cur, fr, hA, hg, r⟩
  · exact .inl h4
  · exact .inr ⟨g, cur, fr, hA, by omega, r⟩
/-- Only its own block, and others below base, turned. -/
theorem Buf.only {w w' : World} {base : Nat} {E : TypeId} {v : Value} {l : List UInt8} {L : List Nat} (h : Buf w base E v l) (ho : Only L w w') (hL : ∀ g, g ∈ L → g < base ∨ ∃ cs t fr, w.heap[g]? = some (.cells cs t fr) ∧ t ≠ E) : Buf w' base E v l := by
  obtain ⟨A, cap, h1, h2, h3, h4⟩ := h
  refine ⟨A, cap, h1, h2, h3, ?_⟩
  rcases h4 with h4 | ⟨g, cur, fr, hA, hg, hh, r⟩
  · exact .inl h4
  · refine .inr ⟨g, cur, fr, hA, hg, (ho.block g (Array.getElem?_eq_some_iff.1 hh).1 fun hgL => ?_).trans hh, r⟩
    rcases hL g hgL with h5 | ⟨cs, t, fr', h5, h6⟩
    · omega
    · rw [hh] at h5; injection h5 with h5; injection h5 with _ h7; exact h6 h7.symm
theorem Buf.own {w : World} {base : Nat} {E : TypeId} {v : Value} {l : List UInt8} (h : w.ownsRow base E 1 v l.length (cb l)) : Buf w base E v l := by
  obtain ⟨h1, h2⟩ := h
  rcases h2 with ⟨h2, h3⟩ | ⟨g, cap, cur, hv, hg, hh, hn, hm, hs, ht⟩
  · refine ⟨none, 0, by rw [h2, h3], by omega, by simp, .inl ⟨rfl, rfl⟩⟩
  · exact ⟨some ⟨g, 0, none⟩, cap, hv, hn, by simpa [maxLen] using hm, .inr ⟨g, cur, (0, 0), rfl, hg, hh, by simpa using hs, by simpa using ht, .inl rfl⟩⟩
theorem frozen_at {w : World} {g i : Nat} {cur : Array Value} {E : TypeId} {fr : Nat × Nat} (hh : w.heap[g]? = some (.cells cur E fr)) (hfr : fr.2 = 0 ∨ i < fr.1) : w.frozen? ⟨g, i, none⟩ = false := by
  obtain ⟨lo, hi⟩ := fr
  simp [World.frozen?, hh]
  simp at hfr
  omega
theorem Buf.cells {w : World} {base : Nat} {E : TypeId} {A : Option Addr} {cap : Nat} {l : List UInt8} (h : Buf w base E (.slice A l.length cap) l) : ∀ a, A = some a → ∀ j u, (cb l)[j]? = some u → w.cell? (a.add j) = some u := by
  obtain ⟨A', cap', h1, h2, h3, h4⟩ := h
  injection h1 with hA _ hc
  subst hA; subst hc
  intro a ha j u hu
  rcases h4 with ⟨h4, _⟩ | ⟨g, cur, fr, hA, hg, hh, hs, ht, hfr⟩
  · rw [h4] at ha; cases ha
  · rw [hA] at ha
    injection ha with ha
    subst ha
    have e1 : (⟨g, 0, none⟩ : Addr).add j = ⟨g, j, none⟩ := by unfold Addr.add; split <;> simp_all
    have hj : j < l.length := by have := (List.getElem?_eq_some_iff.1 hu).1; rwa [cb_length] at this
    rw [e1]
    simp only [World.cell?, hh]
    rw [← ht, List.getElem?_take_of_lt hj] at hu
    simpa using hu
/-- string(b). -/
theorem Buf.str {P : Program} {w : World} {src dst e : TypeId} (hs : P.underlying src = some (.slice e)) (he : P.underlying e = some (.int .u8)) (hd : P.underlying dst = some .string) {base cap : Nat} {E : TypeId} {A : Option Addr} {l : List UInt8}
    (h : Buf w base E (.slice A l.length cap) l) : (convert src dst (.slice A l.length cap)).run P w = .ok (.string ⟨l.toArray⟩) w := by
  cases A with
  | none =>
    obtain ⟨A', cap', h1, h2, h3, h4⟩ := h
    injection h1 with hA _ hc
    subst hA; subst hc
    rcases h4 with ⟨_, h4⟩ | ⟨g, cur, fr, hA, _⟩
    · subst h4
      have hl : l = [] := List.eq_nil_of_length_eq_zero (by omega)
      subst hl
      rw [run_convert_bytes_string w src dst e none _ 0 hs he hd]
      rfl
    · cases hA
  | some a => exact run_str w src dst e hs he hd a cap l (h.cells a rfl)
theorem Buf.len {w : World} {base : Nat} {E : TypeId} {A : Option Addr} {n cap : Nat} {l : List UInt8} (h : Buf w base E (.slice A n cap) l) : n = l.length ∧ n ≤ cap ∧ cap ≤ 9223372036854775807 := by
  obtain ⟨A', cap', h1, h2, h3, _⟩ := h
  injection h1 with hA hn hc
  subst hc; subst hn
  exact ⟨rfl, h2, h3⟩
theorem Buf.str' {P : Program} {w : World} {src dst e : TypeId} (hs : P.underlying src = some (.slice e)) (he : P.underlying e = some (.int .u8)) (hd : P.underlying dst = some .string) {base n cap : Nat} {E : TypeId} {A : Option Addr} {l : List UInt8}
    (h : Buf w base E (.slice A n cap) l) : (convert src dst (.slice A n cap)).run P w = .ok (.string ⟨l.toArray⟩) w := by
  obtain ⟨hn, _⟩ := h.len
  subst hn
  exact h.str hs he hd
/-- []byte(s). -/
theorem Buf.conv (w : World) (base : Nat) (E : TypeId) (s : ByteArray) (hb : base ≤ w.heap.size) (hs : s.size ≤ 9223372036854775807) : Buf (Lib.bytesWorld w E s) base E (.slice (some ⟨w.heap.size, 0, none⟩) s.size (grownCap w s.size 0 E)) s.data.toList := by
  have h1 := grownCap_ge w s.size 0 E
  have h2 := grownCap_le_maxLen w s.size 0 E (by simpa [maxLen] using hs)
  have hz : (Lib.bytesCells w E s).size = grownCap w s.size 0 E := by simp [Lib.bytesCells]; omega
  refine ⟨_, _, by rw [toList_size], by rw [toList_size]; exact h1, by simpa [maxLen] using h2, .inr ⟨w.heap.size, Lib.bytesCells w E s, _, rfl, hb, Lib.bytesWorld_at_new w E s, hz, ?_, .inr (by rw [hz]; exact Nat.le_refl _)⟩⟩
  simp [Lib.bytesCells, cb]
theorem setCell_heap {w : World} {g o : Nat} {cur : Array Value} {E : TypeId} {fr : Nat × Nat} (v : Value) (h : w.heap[g]? = some (.cells cur E fr)) : (w.setCell ⟨g, o, none⟩ v).heap[g]? = some (.cells (cur.setIfInBounds o v) E fr) := by
  simp [World.setCell, Array.getElem?_modify, h]
theorem setCells_heap {g : Nat} {E : TypeId} {fr : Nat × Nat} : ∀ (vs : List Value) (o : Nat) (w : World) (cur : Array Value), w.heap[g]? = some (.cells cur E fr) → o + vs.length ≤ cur.size →
    ∃ cur', (w.setCells g o vs).heap[g]? = some (.cells cur' E fr) ∧ cur'.size = cur.size ∧ cur'.toList.take (o + vs.length) = cur.toList.take o ++ vs
  | [], o, w, cur, h, _ => ⟨cur, h, rfl, by simp⟩
  | v :: vs, o, w, cur, h, hl => by
    simp only [List.length_cons] at hl
    obtain ⟨cur', h1, h2, h3⟩ := setCells_heap vs (o + 1) (w.setCell ⟨g, o, none⟩ v) (cur.setIfInBounds o v) (setCell_heap v h) (by simp; omega)
    refine ⟨cur', h1, by simpa using h2, ?_⟩
    rw [List.length_cons, show o + (vs.length + 1) = o + 1 + vs.length from by omega, h3]
    have e : (cur.setIfInBounds o v).toList.take (o + 1) = cur.toList.take o ++ [v] := by
      rw [Array.toList_setIfInBounds, List.take_succ_eq_append_getElem (by simp; omega), List.getElem_set_self, List.take_set_of_le (Nat.le_refl _)]
    rw [e, List.append_assoc]; rfl
theorem setCells_size (w : World) (g o : Nat) (vs : List Value) : (w.setCells g o vs).heap.size = w.heap.size := by
  induction vs generalizing w o with
  | nil => rfl
  | cons v vs ih => rw [World.setCells, ih]; simp [World.setCell]
theorem setCells_tape (w : World) (g o : Nat) (vs : List Value) : (w.setCells g o vs).tape = w.tape := by
  induction vs generalizing w o with
  | nil => rfl
  | cons v vs ih => rw [World.setCells, ih]; rfl
theorem setCells_kept {w : World} {base g o : Nat} {E : TypeId} {cur : Array Value} {fr : Nat × Nat} (hh : w.heap[g]? = some (.cells cur E fr)) (hg : base ≤ g) (vs : List Value) : Kept E base w (w.setCells g o vs) := by
  have hblk : ∀ k, k ≠ g → (w.setCells g o vs).heap[k]? = w.heap[k]? := by
    intro k hk
    by_cases hlt : k < w.heap.size
    · exact World.heap_setCells_other w g o vs hlt hk
    · rw [Array.getElem?_eq_none (by rw [setCells_size]; omega), Array.getElem?_eq_none (by omega)]
  refine ⟨⟨World.os_setCells w g o vs, setCells_tape w g o vs, World.output_setCells w g o vs, by rw [setCells_size]; exact Nat.le_refl _, fun k hk => hblk k (by omega)⟩, fun k ob hk hne => ?_⟩
  rw [hblk k (by rintro rfl; rw [hh] at hk; injection hk with hk; exact hne _ _ hk.symm)]
  exact hk
theorem Buf.at_ {w : World} {base : Nat} {E : TypeId} {g n cap k : Nat} {l : List UInt8} (h : Buf w base E (.slice (some ⟨g, 0, none⟩) n cap) l) (hk : k < l.length) : w.cell? ⟨g, k, none⟩ = some (.int .u8 (l.getD k 0).toNat) ∧ w.frozen? ⟨g, k, none⟩ = false ∧ base ≤ g ∧ g < w.heap.size := by
  obtain ⟨A', cap', h1, h2, h3, h4⟩ := h
  injection h1 with hA hn hc
  subst hA; subst hc; subst hn
  rcases h4 with ⟨h4, _⟩ | ⟨g', cur, fr, hA, hg, hh, hs, ht, hfr⟩
  · cases h4
  · injection hA with hA
    injection hA with hA
    subst hA
    refine ⟨?_, frozen_at hh (by rcases hfr with h | h; exact .inl h; exact .inr (by omega)), hg, (Array.getElem?_eq_some_iff.1 hh).1⟩
    have hb : (cb l)[k]? = some (.int .u8 (l.getD k 0).toNat) := by rw [cb_at, List.getElem?_eq_getElem hk, List.getD_eq_getElem?_getD, List.getElem?_eq_getElem hk]; rfl
    rw [← ht, List.getElem?_take_of_lt hk] at hb
    simp only [World.cell?, hh]
    simpa using hb
theorem Buf.set {w : World} {base : Nat} {E : TypeId} {g n cap k : Nat} {l : List UInt8} (h : Buf w base E (.slice (some ⟨g, 0, none⟩) n cap) l) (hk : k < l.length) (b : UInt8) : Buf (w.setCell ⟨g, k, none⟩ (.int .u8 b.toNat)) base E (.slice (some ⟨g, 0, none⟩) n cap) (l.set k b) := by
  obtain ⟨A', cap', h1, h2, h3, h4⟩ := h
  injection h1 with hA hn hc
  subst hA; subst hc; subst hn
  rcases h4 with ⟨h4, _⟩ | ⟨g', cur, fr, hA, hg, hh, hs, ht, hfr⟩
  · cases h4
  · injection hA with hA
    injection hA with hA
    subst hA
    refine ⟨_, cap, by rw [List.length_set], by rw [List.length_set]; exact h2, h3, .inr ⟨g, _, fr, rfl, hg, setCell_heap _ hh, by simpa using hs, ?_, hfr⟩⟩
    rw [List.length_set, Array.toList_setIfInBounds, List.take_set, ht]
    simp [cb, List.map_set]
theorem Kept.store {E : TypeId} {base g k : Nat} {a w : World} {cur : Array Value} {fr : Nat × Nat} (h : Kept E base a w) (hh : w.heap[g]? = some (.cells cur E fr)) (hg : base ≤ g) (v : Value) : Kept E base a (w.setCell ⟨g, k, none⟩ v) :=
  h.trans (setCells_kept (o := k) hh hg [v])
theorem Buf.block {w : World} {base : Nat} {E : TypeId} {g n cap : Nat} {l : List UInt8} (h : Buf w base E (.slice (some ⟨g, 0, none⟩) n cap) l) : ∃ cur fr, w.heap[g]? = some (.cells cur E fr) ∧ base ≤ g := by
  obtain ⟨A', cap', h1, h2, h3, h4⟩ := h
  injection h1 with hA _ hc
  subst hA
  rcases h4 with ⟨h4, _⟩ | ⟨g', cur, fr, hA, hg, hh, hs, ht, hfr⟩
  · cases h4
  · injection hA with hA
    injection hA with hA
    subst hA
    exact ⟨cur, fr, hh, hg⟩
theorem made_bytes (n : Nat) : (madeCells (Value.int .u8 0).cells (n * 1)).toList = cb (List.replicate n 0) := by
  have h1 : (Value.int .u8 0).cells = #[.int .u8 0] := rfl
  rw [h1, Nat.mul_one]
  apply List.ext_getElem
  · simp [madeCells, cb]
  · intro i h2 h3
    simp [madeCells, cb, Nat.mod_one]
/-- One append, from whatever source. -/
theorem Buf.append {P : Program} {w : World} {base : Nat} {E : TypeId} {v : Value} {l : List UInt8} (h : Buf w base E v l) (t tx ty : TypeId) (i : TypeInfo) (ht : P.underlying t = some (.slice E)) (hi : P.info? E = some i) (hz : i.zero = some (.int .u8 0)) (h1 : i.size = 1) (hby : i.bytes = 1)
    (xv : Value) (m : List UInt8) (hs : Src P 1 tx xv m.length (cb m) w) (hb : base ≤ w.heap.size) (hlen : l.length + m.length ≤ 140737488355328) :
    ∃ v' w', (Builtin.append_ #[t, tx] ty #[v, xv]).run P w = .ok v' w' ∧ Buf w' base E v' (l ++ m) ∧ Kept E base w w' := by
  obtain ⟨A, cap, rfl, hlc, hcm, h4⟩ := h
  have hs' : Src P i.size tx xv m.length (cb m) w := by rw [h1]; exact hs
  by_cases hroom : l.length + m.length ≤ cap
  · rcases h4 with ⟨hA, hc0⟩ | ⟨g, cur, fr, hA, hg, hh, hsz, htk, hfr⟩
    · subst hA; subst hc0
      have hl0 : l = [] := List.eq_nil_of_length_eq_zero (by omega)
      have hm0 : m = [] := List.eq_nil_of_length_eq_zero (by omega)
      subst hl0; subst hm0
      exact ⟨_, w, Go.run_append_nothing w t tx ty E i ht hi none 0 0 (Nat.le_refl _) xv hs', Buf.nil w base E, Kept.refl E base w⟩
    · subst hA
      have hrun := run_append_room_src (P := P) w t tx ty E i ht hi g 0 l.length cap xv m.length (cb m) hs' hroom
        (by
          intro j hj
          rw [cb_length] at hj
          have : 0 + l.length * i.size + j < cur.size := by rw [h1, hsz]; omega
          simp only [World.cell?, hh]
          rw [Array.getElem?_eq_getElem this]; rfl)
        (by
          intro j hj
          rw [cb_length] at hj
          exact frozen_at hh (by rw [h1]; rcases hfr with h | h; exact .inl h; exact .inr (by omega)))
      rw [h1, Nat.mul_one, Nat.zero_add] at hrun
      obtain ⟨cur', c1, c2, c3⟩ := setCells_heap (cb m) l.length w cur hh (by rw [cb_length]; omega)
      refine ⟨_, _, hrun, ⟨_, cap, by rw [List.length_append], by rw [List.length_append]; exact hroom, hcm, .inr ⟨g, cur', fr, rfl, hg, c1, by omega, ?_, hfr⟩⟩, setCells_kept hh hg _⟩
      rw [List.length_append, cb_append]
      rw [cb_length, htk] at c3
      exact c3
  · have hold : (Builtin.firstCells i.size l.length (.slice A l.length cap)).run P w.drew = .ok (cb l).toArray w.drew := by
      rcases h4 with ⟨hA, hc0⟩ | ⟨g, cur, fr, hA, hg, hh, hsz, htk, hfr⟩
      · subst hA; subst hc0
        have hl0 : l = [] := List.eq_nil_of_length_eq_zero (by omega)
        subst hl0
        exact run_firstCells_none w.drew i.size 0 0 0
      · have hc := Buf.cells (w := w) (base := base) (E := E) (A := A) (cap := cap) (l := l) ⟨A, cap, rfl, hlc, hcm, .inr ⟨g, cur, fr, hA, hg, hh, hsz, htk, hfr⟩⟩ ⟨g, 0, none⟩ hA
        subst hA
        exact run_firstCells_some w.drew i.size l.length _ l.length cap (cb l) (by rw [cb_length, h1, Nat.mul_one]) hc
    have hfit : Builtin.nextslicecap (l.length + m.length) cap * i.bytes ≤ 281474976710656 := by
      rw [hby]
      exact growslice_fits (by omega) (by omega)
    have hrun := run_append_grow_src (P := P) w t tx ty E i (.int .u8 0) ht hi hz A l.length cap (cb l) hold xv m.length (cb m) hs' (by omega) (by omega) hfit
    have g1 := grownCap_ge w (l.length + m.length) cap E
    have g2 := grownCap_le_maxLen w (l.length + m.length) cap E (by simp [maxLen]; omega)
    refine ⟨_, _, hrun, ⟨_, _, by rw [List.length_append], by rw [List.length_append]; exact g1, by simpa [maxLen] using g2, .inr ⟨w.heap.size, _, (0, 0), rfl, hb, heap_alloc_new w.drew _, ?_, ?_, .inl rfl⟩⟩, ((Kept.refl E base w).drew.alloc (by simpa using hb) _)⟩
    · simp only [Array.size_append, List.size_toArray, List.length_append, cb_length, size_zeroCells]
      have : (Value.int .u8 0).cells.size = 1 := rfl
      rw [this]; omega
    · rw [Array.toList_append, List.length_append, List.take_append_of_le_length (by simp [cb_length]), cb_append]
      exact List.take_of_length_le (by simp [cb_length])
theorem Kept.of_none {E : TypeId} {base : Nat} {w w' : World} (h : w.grownBy w' none) (hb : base ≤ w.heap.size) : Kept E base w w' :=
  ⟨⟨h.os, h.tape, h.output, h.size, fun k hk => h.block k (by omega) (by simp)⟩, fun k o hk _ => (h.block k (Array.getElem?_eq_some_iff.1 hk).1 (by simp)).trans hk⟩
/-- The law at the operation. -/
theorem wpList_append_buf {P : Program} {w : World} {ops : Array Oper} {rest : List Oper} {o : Oper} {a : Act} {Q : Exit → Act → World → Prop} (hgd : o.guard = none) (s x : Operand) (t tx : TypeId)
    (ho : o.op = .call { callee := .builtin .append, args := #[s, x], argTypes := #[t, tx] }) (base : Nat) (E : TypeId) (i : TypeInfo) (ht : P.underlying t = some (.slice E)) (hi : P.info? E = some i) (hz : i.zero = some (.int .u8 0)) (h1 : i.size = 1) (hby : i.bytes = 1)
    {v : Value} {l : List UInt8} (hv : a.eval s = v) (h : Buf w base E v l) (xv : Value) (m : List UInt8) (hx : a.eval x = xv) (hs : Src P 1 tx xv m.length (cb m) w) (hb : base ≤ w.heap.size) (hlen : l.length + m.length ≤ 140737488355328)
    (hK : ∀ (A' : Option Addr) (n' cap' : Nat) w', Buf w' base E (.slice A' n' cap') (l ++ m) → Kept E base w w' → wpList P ops Q rest (a.put o.dst (.slice A' n' cap')) w') : wpList P ops Q (o :: rest) a w := by
  refine wpList_plain hgd fun K hK' => ?_
  obtain ⟨v', w', hrun, r1, r2⟩ := h.append (P := P) t tx o.type i ht hi hz h1 hby xv m hs hb hlen
  obtain ⟨A', cap', hv', _⟩ := r1.form
  unfold Oper.wp
  simp [execOp, ho, resolve, invoke, builtin, hv, hx, hrun, Result.andThen]
  subst hv'
  exact hK' _ _ (hK _ _ _ w' r1 r2)
/-- A literal's bytes, just laid. -/
theorem src_new {P : Program} {tx e' : TypeId} (hk : P.underlying tx = some (.slice e')) (w : World) (E : TypeId) (cs : Array Value) (m : List UInt8) (c : Nat) (hcs : cs.toList = cb m) : Src P 1 tx (.slice (some ⟨w.heap.size, 0, none⟩) m.length c) m.length (cb m) (w.alloc (.cells cs E)) :=
  Src.ofSlice _ hk _ _ _ _ (by rw [cb_length, Nat.mul_one]) (fun j u hu => World.news_of_block (heap_alloc_new w (.cells cs E)) j u (by rw [← hcs] at hu; simpa using hu)) (cb_one m)
theorem src_str {P : Program} {tx : TypeId} (hk : P.underlying tx = some .string) (w : World) (s : ByteArray) : Src P 1 tx (.string s) s.data.toList.length (cb s.data.toList) w := by
  have := Src.ofString (P := P) w hk s
  rw [toList_size]; exact this
theorem src_buf {P : Program} {tx e' : TypeId} (hk : P.underlying tx = some (.slice e')) {w : World} {base : Nat} {E : TypeId} {v : Value} {m : List UInt8} (h : Buf w base E v m) : Src P 1 tx v m.length (cb m) w := by
  obtain ⟨A, cap, rfl, h2, h3⟩ := h.form
  cases A with
  | none =>
    obtain ⟨A', cap', h1, _, _, h4⟩ := h
    injection h1 with hA _ hc
    subst hA; subst hc
    rcases h4 with ⟨_, h4⟩ | ⟨g, cur, fr, hA, _⟩
    · subst h4
      have hl : m = [] := List.eq_nil_of_length_eq_zero (by omega)
      subst hl
      exact Src.ofNil w hk 0
    · cases hA
  | some ad => exact Src.ofSlice w hk ad _ _ _ (by rw [cb_length, Nat.mul_one]) (h.cells ad rfl) (cb_one m)
theorem cb_ub1 {a : Int} {x : Nat} (h : a = x) (hx : x < 256) : (#[Value.int .u8 a] : Array Value).toList = cb [ub x] := by
  subst h; simp [cb, ub_toNat x hx]
theorem cb_ub2 {a b : Int} {x y : Nat} (h : a = x) (hx : x < 256) (h' : b = y) (hy : y < 256) : (#[Value.int .u8 a, .int .u8 b] : Array Value).toList = cb [ub x, ub y] := by
  subst h; subst h'; simp [cb, ub_toNat x hx, ub_toNat y hy]
end Go.Proofs.YtebllmpdlapefaaGreatDoor
namespace Go.Proofs.YtebllmpdlapefaaGreatDoor
set_option linter.unusedVariables false
set_option linter.unusedSimpArgs false
open Go

section
variable {P : Program} {ops : Array Oper} {md : Region.Mode} {C : World → Prop}

def wpAnyQL (P : Program) (md : Region.Mode) (ops : Array Oper) (C : World → Prop) (n : Nat) (L : Array Bool → Act → Prop) : Nat → Array Bool → Act → Prop
  | 0, listed, a => L listed a
  | f + 1, listed, a =>
    Region.ready md ops listed ≠ [] ∧ ∀ i ∈ Region.ready md ops listed, i < n ∧ qOp P ops C i (wpAnyQL P md ops C n L f (listed.setIfInBounds i true)) a
theorem wpAny_of_qhead {n g : Nat} {L : Array Bool → Act → Prop} {Q' : Exit → Act → World → Prop} (hL : ∀ listed a w, C w → L listed a → wpAny P md ops Q' g listed a w) :
    ∀ (f : Nat) (listed : Array Bool) (a : Act) (w : World), C w → wpAnyQL P md ops C n L f listed a → wpAny P md ops Q' (f + g) listed a w
  | 0, listed, a, w, hw, h => by rw [Nat.zero_add]; exact hL _ _ _ hw h
  | f + 1, listed, a, w, hw, h => by
    rw [show f + 1 + g = (f + g) + 1 by omega]
    exact ⟨fun h0 => absurd h0 h.1, fun i hi => wpOp_of_qOp hw (fun a' w' hw' h' => wpAny_of_qhead hL f _ a' w' hw' h') (h.2 i hi).2⟩
theorem wpAnyQL_first {n i : Nat} {oi : Oper} {v : Value} {L : Array Bool → Act → Prop} (hi : ops[i]? = some oi) (hsel : ∀ (j : Nat) (o : Oper) cs b, ops[j]? = some o → o.op ≠ .select cs b)
    (hs : Region.sinkB md ops n = true) (hc : Region.chainB md ops n = true) (hn : n < ops.size) (hin : i < n)
    (hdone : ∀ listed a, L listed a → ∀ j ∈ Region.ready md ops listed, n ≤ j) :
    ∀ (f : Nat) (listed : Array Bool) (a : Act), HeadInv md ops n listed →
      (∀ j oj, ops[j]? = some oj → j ≠ i → listed.getD j true = false → (∀ e ∈ oj.after, Region.binds md e = true → e.on ≠ i) → oi.apart ops oj = true) →
      i ∈ Region.ready md ops listed → YieldsIn P ops C oi v a →
      wpAnyQL P md ops C n L f (listed.setIfInBounds i true) (a.put oi.dst v) → wpAnyQL P md ops C n L (f + 1) listed a := by
  intro f
  induction f with
  | zero =>
    intro listed a inv _ hr hy H
    have hun := (mem_ready.1 hr).1
    refine ⟨fun h => (by rw [h] at hr; cases hr), fun j hj => ?_⟩
    have hjn : j < n := by
      rcases Nat.lt_or_ge j n with h | h
      · exact h
      · exact absurd hj (tail_waits hs hc hn inv _ i rfl hin hun j h)
    refine ⟨hjn, ?_⟩
    by_cases hji : j = i
    · subst hji; exact hy.qOp hi H
    · have := hdone _ _ H j (ready_mono hj hji)
      omega
  | succ f ih =>
    intro listed a inv hfree hr hy H
    have hun := (mem_ready.1 hr).1
    refine ⟨fun h => (by rw [h] at hr; cases hr), fun j hj => ?_⟩
    have hjn : j < n := by
      rcases Nat.lt_or_ge j n with h | h
      · exact h
      · exact absurd hj (tail_waits hs hc hn inv _ i rfl hin hun j h)
    refine ⟨hjn, ?_⟩
    by_cases hji : j = i
    · subst hji; exact hy.qOp hi H
    · have h1 := (H.2 j (ready_mono hj hji)).2
      obtain ⟨hjun, oj, hoj, hall⟩ := mem_ready.1 hj
      have hnot : ∀ e ∈ oj.after, Region.binds md e = true → e.on ≠ i := fun e he hb heq => by
        have h1 := hall e he hb
        rw [heq, getD_both hun] at h1
        cases h1
      have h2 := qOp_put hoj (hfree j oj hoj hji hjun hnot) (fun cs b => hsel i oi cs b hi) (fun cs b => hsel j oj cs b hoj) hy h1
      have hfree' : ∀ k ok, ops[k]? = some ok → k ≠ i → (listed.setIfInBounds j true).getD k true = false →
          (∀ e ∈ ok.after, Region.binds md e = true → e.on ≠ i) → oi.apart ops ok = true := fun k ok hk hki hun hno => by
        refine hfree k ok hk hki ?_ hno
        by_cases hjk : j = k
        · subst hjk; exact hjun
        · rw [getD_set_ne true hjk] at hun; exact hun
      refine qOp_mono (fun a' h3 => ih (listed.setIfInBounds j true) a' (inv.set hj hjn) hfree' (ready_mono hr (Ne.symm hji)) h3.1 ?_) h2
      rw [Array.setIfInBounds_comm _ _ hji]
      exact h3.2
theorem wpAnyQL_lex {n g : Nat} {Lq : Act → Prop} (hsel : Region.noSelect ops = true) (hs : Region.sinkB md ops n = true) (hc : Region.chainB md ops n = true) (hn : n < ops.size) :
    ∀ (l : List Oper) (k : Nat) (listed : Array Bool) (a : Act), (∀ j, j < l.length → l[j]? = ops[k + j]?) → k + l.length = n → HeadInv md ops n listed →
    Region.lexHead md ops g l.length k listed = true → wpQuiet P ops C Lq l a →
    wpAnyQL P md ops C n (fun listed' a' => Region.seqB md ops g n listed' = true ∧ Lq a') l.length listed a
  | [], k, listed, a, _, hk, _, hB, h => by
    have : k = n := by simpa using hk
    subst this
    exact ⟨by simpa [Region.lexHead] using hB, h⟩
  | o :: l, k, listed, a, hl, hk, inv, hB, h => by
    have h0 : ops[k]? = some o := by simpa using (hl 0 (by simp)).symm
    simp only [List.length_cons, Region.lexHead, Bool.and_eq_true] at hB
    obtain ⟨⟨hr, hf⟩, hB'⟩ := hB
    have hkn : k < n := by simp only [List.length_cons] at hk; omega
    have hr' : k ∈ Region.ready md ops listed := by simpa using hr
    have hst : qOp P ops C k (wpQuiet P ops C Lq l) a := by unfold qOp; simp only [h0]; exact h
    obtain ⟨v, hy, hK⟩ := yieldsIn_of_qOp h0 hst
    exact wpAnyQL_first h0 (Region.noSelect_spec hsel) hs hc hn hkn (fun listed' a' hL => seqB_ready hL.1) l.length listed a inv (Region.free_spec h0 hf) hr' hy
      (wpAnyQL_lex hsel hs hc hn l (k + 1) _ _ (fun j hj => by have := hl (j + 1) (by simp; omega); simpa [Nat.add_assoc, Nat.add_comm 1 j] using this) (by simp only [List.length_cons] at hk; omega) (inv.set hr' hkn) hB' hK)
theorem wp_region_quiet_tail {id : Nat} {Q : Exit → Act → World → Prop} {a : Act} {w : World} {l : List Oper} (n : Nat) (hm : P.follows .mixedOrders = true) (hB : Region.lexTailB .any l.toArray n = true)
    (h : wpQuiet P l.toArray (fun w' => ∃ k, w' = w.drewN k) (fun a' => ∀ k, wpList P l.toArray Q (l.drop n) a' (w.drewN k)) (l.take n) a) : (Code.region id l.toArray true).wp P Q a w := by
  simp only [Region.lexTailB, Bool.and_eq_true, decide_eq_true_eq] at hB
  obtain ⟨⟨⟨⟨hsel, hn⟩, hs⟩, hc⟩, hlex⟩ := hB
  have hn' : n < l.length := by simpa using hn
  have htl : (l.take n).length = n := by simp; omega
  have hdl : (l.drop n).length = l.toArray.size - n := by simp
  have inv0 : HeadInv .any l.toArray n (Array.replicate l.toArray.size false) :=
    ⟨by simp, fun j oj _ hl => (by rw [getD_replicate_false] at hl; cases hl), fun t _ ht => getD_in (by simpa using ht) (getD_replicate_false _ _)⟩
  have H := wpAnyQL_lex (md := .any) (g := l.toArray.size - n) hsel hs hc hn (l.take n) 0 _ a (fun j hj => by
    have hj' : j < n := by rw [htl] at hj; exact hj
    simp [hj']) (by simpa using htl) inv0 (by rw [htl]; exact hlex) h
  refine wp_region_any hm ?_
  have := wpAny_of_qhead (Q' := Q) (g := l.toArray.size - n) (fun listed a' w' hw' hL => by
    obtain ⟨k, rfl⟩ := hw'
    have := wpAny_of_seq (md := .any) (Q' := Q) (l.drop n) n listed a' (w.drewN k) (fun j => by simp [List.getElem?_drop]) (by rw [hdl]; exact hL.1) (hL.2 k)
    rwa [hdl] at this) _ _ _ _ ⟨1, rfl⟩ H
  rw [htl, show n + (l.toArray.size - n) = l.toArray.size by omega] at this
  exact this
end
end Go.Proofs.YtebllmpdlapefaaGreatDoor
namespace Go.Proofs.YtebllmpdlapefaaGreatDoor
set_option linter.unusedVariables false
set_option linter.unusedSimpArgs false
open Go

theorem cnt_less : ∀ (n i : Nat) (p p' : Nat → Bool), i < n → p i = true → p' i = false → (∀ j, j ≠ i → p' j = p j) → (List.range n).countP p = (List.range n).countP p' + 1
  | 0, i, p, p', hi, _, _, _ => by omega
  | n + 1, i, p, p', hi, h1, h2, h3 => by
    rw [List.range_succ, List.countP_append, List.countP_append]
    by_cases e : i = n
    · subst e
      have : (List.range i).countP p = (List.range i).countP p' := List.countP_congr fun x hx => by rw [h3 x (by have := List.mem_range.1 hx; omega)]
      simp [this, h1, h2]
    · rw [cnt_less n i p p' (by omega) h1 h2 h3]
      have : p' n = p n := h3 n (Ne.symm e)
      simp [this]; omega
section
variable {P : Program} {ops : Array Oper} {md : Region.Mode}
def Region.foreB (md : Region.Mode) (ops : Array Oper) : Bool :=
  (List.range ops.size).all fun i => match ops[i]? with
    | some o => o.after.all fun e => !Region.binds md e || decide (e.on < i)
    | none => false
theorem some_ready {listed : Array Bool} (hf : Region.foreB md ops = true) (hsz : listed.size = ops.size) : ∀ (i : Nat), i < ops.size → listed.getD i true = false → ∃ j, j < ops.size ∧ j ∈ Region.ready md ops listed := by
  intro i
  induction i using Nat.strongRecOn with
  | ind i ih =>
    intro hi hun
    by_cases hl : ∃ j, j < i ∧ listed.getD j true = false
    · obtain ⟨j, hj, hju⟩ := hl
      exact ih j hj (by omega) hju
    · refine ⟨i, hi, ?_⟩
      have h1 := List.all_eq_true.1 hf i (List.mem_range.2 hi)
      have hii : ops[i]? = some ops[i] := Array.getElem?_eq_getElem hi
      rw [hii] at h1
      refine mem_ready.2 ⟨hun, ops[i], hii, fun e he hb => ?_⟩
      have h2 := Array.all_eq_true'.1 h1 e he
      rw [hb] at h2
      have h3 : e.on < i := by simpa using h2
      have h4 : listed.getD e.on true = true := by
        rcases Bool.eq_false_or_eq_true (listed.getD e.on true) with h | h
        · exact h
        · exact absurd ⟨e.on, h3, h⟩ hl
      have : e.on < listed.size := by omega
      simp [this] at h4 ⊢; exact h4
theorem wpAny_of_inv {I : Array Bool → Act → World → Prop} {Q' : Exit → Act → World → Prop} (hf : Region.foreB md ops = true)
    (hstep : ∀ listed a w i, i < ops.size → I listed a w → i ∈ Region.ready md ops listed → wpOp P ops Q' i (I (listed.setIfInBounds i true)) a w)
    (hend : ∀ listed a w, (∀ i, i < ops.size → listed.getD i false = true) → I listed a w → Q' .normal a w) :
    ∀ (f : Nat) (listed : Array Bool) (a : Act) (w : World), (List.range ops.size).countP (fun i => !listed.getD i true) = f → listed.size = ops.size → I listed a w → wpAny P md ops Q' f listed a w
  | 0, listed, a, w, hcnt, hsz, hI => by
    have h0 : ∀ i, i < ops.size → listed.getD i true = true := fun i hi => by
      have := List.countP_eq_zero.1 hcnt i (List.mem_range.2 hi)
      simpa using this
    refine ⟨?_, hend _ _ _ (fun i hi => ?_) hI⟩
    · cases hr : Region.ready md ops listed with
      | nil => rfl
      | cons j l =>
        have hj : j ∈ Region.ready md ops listed := by rw [hr]; simp
        obtain ⟨hun, o, ho, _⟩ := mem_ready.1 hj
        rw [h0 j (Array.getElem?_eq_some_iff.1 ho).1] at hun
        cases hun
    · have := h0 i hi
      have hlt : i < listed.size := by omega
      simp [hlt] at this ⊢; exact this
  | f + 1, listed, a, w, hcnt, hsz, hI => by
    have hex : ∃ i, i < ops.size ∧ listed.getD i true = false := by
      have : 0 < (List.range ops.size).countP (fun i => !listed.getD i true) := by omega
      obtain ⟨i, hi, hp⟩ := List.countP_pos_iff.1 this
      exact ⟨i, List.mem_range.1 hi, by simpa using hp⟩
    obtain ⟨i0, hi0, hu0⟩ := hex
    obtain ⟨j0, hj0, hr0⟩ := some_ready hf hsz i0 hi0 hu0
    refine ⟨fun h => (by rw [h] at hr0; cases hr0), fun i hi => ?_⟩
    obtain ⟨hun, o, ho, _⟩ := mem_ready.1 hi
    have hin : i < ops.size := (Array.getElem?_eq_some_iff.1 ho).1
    refine wpOp_mono (fun a' w' hI' => wpAny_of_inv hf hstep hend f _ a' w' ?_ (by simp [hsz]) hI') (hstep listed a w i hin hI hi)
    have := cnt_less ops.size i (fun i => !listed.getD i true) (fun j => !(listed.setIfInBounds i true).getD j true) hin (by simp [hun]) (by
      have : i < listed.size := by omega
      simp [this]) (fun j hj => by simp [Array.getElem?_setIfInBounds_ne (Ne.symm hj)])
    omega
theorem wp_region_inv {id : Nat} {Q : Exit → Act → World → Prop} {a : Act} {w : World} {l : List Oper} (hm : P.follows .mixedOrders = true) (hB : Region.foreB .any l.toArray = true) (I : Array Bool → Act → World → Prop)
    (h0 : I (Array.replicate l.toArray.size false) a w.drew)
    (hstep : ∀ listed a w i, i < l.toArray.size → I listed a w → i ∈ Region.ready .any l.toArray listed → wpOp P l.toArray Q i (I (listed.setIfInBounds i true)) a w)
    (hend : ∀ listed a w, (∀ i, i < l.toArray.size → listed.getD i false = true) → I listed a w → Q .normal a w) : (Code.region id l.toArray true).wp P Q a w := by
  have hcnt : (List.range l.toArray.size).countP (fun i => !(Array.replicate l.toArray.size false).getD i true) = l.toArray.size := by
    have : (List.range l.toArray.size).countP (fun i => !(Array.replicate l.toArray.size false).getD i true) = (List.range l.toArray.size).length := by
      rw [List.countP_eq_length]
      intro i hi
      have := List.mem_range.1 hi
      simp [show i < l.length by simpa using this]
    simpa using this
  exact wp_region_any hm (wpAny_of_inv hB hstep hend _ _ a _ hcnt (by simp) h0)
end
/-- An operation without a guard. -/
theorem wpOp_some {P : Program} {ops : Array Oper} {Q : Exit → Act → World → Prop} {i : Nat} {K : Act → World → Prop} {a : Act} {w : World} {o : Oper} (hi : ops[i]? = some o) (hg : o.guard = none) (h : o.wp P a w K Q) : wpOp P ops Q i K a w := by
  unfold wpOp
  simp only [hi]
  have hw : Region.wanted o (yielded ops a.tmps) = true := by simp [Region.wanted, hg]
  rw [if_pos hw]; exact .inl h
theorem listed_or {listed : Array Bool} {i k : Nat} (h : (listed.setIfInBounds i true).getD k false = true) : k = i ∨ listed.getD k false = true := by
  by_cases e : i = k
  · exact .inl e.symm
  · rw [getD_set_ne false e] at h; exact .inr h
theorem listed_new {listed : Array Bool} {i : Nat} (h : i < listed.size) : (listed.setIfInBounds i true).getD i false = true := by simp [h]
theorem listed_far {listed : Array Bool} {i k : Nat} (h : i ≠ k) : (listed.setIfInBounds i true).getD k false = listed.getD k false := getD_set_ne false h
end Go.Proofs.YtebllmpdlapefaaGreatDoor
