/- The stack of rlp.Put: lists whose bytes are being laid. Own text; no program in sight but the types' numbers. -/
import Derived.Test.YtacikiambpfipaaDoorKA6
import Derived.Test.YtacikiambpfipaaDoorKRlpP
import Derived.Test.YtacikiambpfipaaDoorKA4
import Derived.WalkSmall
namespace Go.Proofs.YtacikiambpfipaaDoor
set_option linter.unusedVariables false
set_option linter.unusedSimpArgs false
open Go.RowKit

theorem ItsIn.keep {w w' : World} {B i : Nat} {s : List It} {A : Option Addr} (h : ItsIn w B s A i) (hk : ∀ p : Addr, p.block < B → w'.cell? p = w.cell? p) : ItsIn w' B s A i := ItsIn.mk_ fun j hj => by
  obtain ⟨b, o, d0, d1, d2, hA, hlt, e0, e1, e2, hi⟩ := h.at_ j hj
  exact ⟨b, o, d0, d1, d2, hA, hlt, (hk _ hlt).trans e0, (hk _ hlt).trans e1, (hk _ hlt).trans e2, ItIn.keep (Nat.le_refl _) hk _ hi⟩
theorem ItsIn.tail {w : World} {B b o : Nat} : ∀ {s : List It} {i : Nat}, ItsIn w B s (some ⟨b, o, none⟩) (i + 1) → ItsIn w B s (some ⟨b, o + 3, none⟩) i
  | [], _, _ => trivial
  | x :: xs, i, h => by
    obtain ⟨⟨b', o', c0, c1, c2, hA, hb, e0, e1, e2, hi⟩, h2⟩ := h
    injection hA with hA
    injection hA with hb' ho
    subst hb'; subst ho
    refine ⟨⟨b, o + 3, c0, c1, c2, rfl, hb, ?_, ?_, ?_, hi⟩, ItsIn.tail h2⟩
    · rw [show o + 3 + i * 3 = o + (i + 1) * 3 from by omega]; exact e0
    · rw [show o + 3 + i * 3 + 1 = o + (i + 1) * 3 + 1 from by omega]; exact e1
    · rw [show o + 3 + i * 3 + 2 = o + (i + 1) * 3 + 2 from by omega]; exact e2
/-- One list that is being laid: the items to come, the bytes so far. -/
def LayF (w : World) (S : Nat) (f : List It × List UInt8) (v : Value × Value) : Prop :=
  (∃ A cap, v.1 = .slice A f.1.length cap ∧ f.1.length ≤ cap ∧ cap ≤ 9223372036854775807 ∧ ItsIn w S f.1 A 0) ∧ Buf w S 5 v.2 f.2
def Lays (w : World) (S : Nat) : List (List It × List UInt8) → List (Value × Value) → Prop
  | [], [] => True
  | f :: fs, v :: vs => LayF w S f v ∧ (∀ u ∈ vs, ∀ g, v.2.ownBlock = some g → u.2.ownBlock ≠ some g) ∧ Lays w S fs vs
  | _, _ => False
/-- The cells, the outermost list first. -/
def flatV : List (Value × Value) → List Value
  | [] => []
  | v :: vs => flatV vs ++ [v.1, v.2]
theorem flatV_length (vs : List (Value × Value)) : (flatV vs).length = vs.length * 2 := by
  induction vs with
  | nil => rfl
  | cons v vs ih => simp [flatV, ih]; omega
theorem Lays.length {w : World} {S : Nat} : ∀ {fs : List (List It × List UInt8)} {vs : List (Value × Value)}, Lays w S fs vs → vs.length = fs.length
  | [], [], _ => rfl
  | f :: fs, v :: vs, h => by simp [Lays.length h.2.2]
theorem LayF.keep {w w' : World} {S : Nat} {f : List It × List UInt8} {v : Value × Value} (h : LayF w S f v) (hS : S ≤ w.heap.size) (hk : ∀ k, k < w.heap.size → (k < S ∨ v.2.ownBlock = some k) → w'.heap[k]? = w.heap[k]?) : LayF w' S f v := by
  obtain ⟨⟨A, cap, h1, h2, h3, h4⟩, h5⟩ := h
  exact ⟨⟨A, cap, h1, h2, h3, h4.keep fun p hp => World.cell?_of_block (hk _ (by omega) (.inl hp))⟩, h5.keep fun k h1 h2 => hk k h1 (.inr h2)⟩
theorem Lays.keep {w w' : World} {S : Nat} (hS : S ≤ w.heap.size) : ∀ {fs : List (List It × List UInt8)} {vs : List (Value × Value)}, Lays w S fs vs → (∀ k, k < w.heap.size → (k < S ∨ ∃ u ∈ vs, u.2.ownBlock = some k) → w'.heap[k]? = w.heap[k]?) → Lays w' S fs vs
  | [], [], _, _ => trivial
  | f :: fs, v :: vs, h, hk => ⟨h.1.keep hS fun k h1 h2 => hk k h1 (h2.imp id fun h => ⟨v, by simp, h⟩), h.2.1, Lays.keep hS h.2.2 fun k h1 h2 => hk k h1 (h2.imp id fun ⟨u, hu, h⟩ => ⟨u, by simp [hu], h⟩)⟩
theorem Lays.ge {w : World} {S : Nat} : ∀ {fs : List (List It × List UInt8)} {vs : List (Value × Value)}, Lays w S fs vs → ∀ u ∈ vs, ∀ g, u.2.ownBlock = some g → S ≤ g ∧ g < w.heap.size ∧ ∃ cur fr, w.heap[g]? = some (.cells cur 5 fr)
  | [], [], _, u, hu, _, _ => by cases hu
  | f :: fs, v :: vs, h, u, hu, g, hg => by
    rcases List.mem_cons.1 hu with rfl | hu
    · exact h.1.2.ge g hg
    · exact Lays.ge h.2.2 u hu g hg
/-- The slice of these lists, in a row of the call's own. -/
structure Lay (w : World) (S g cap : Nat) (fs : List (List It × List UInt8)) (vs : List (Value × Value)) : Prop where
  row : w.ownsRow S 136 2 (.slice (some ⟨g, 0, none⟩) fs.length cap) fs.length (flatV vs)
  lays : Lays w S fs vs
theorem ownsRow_set {w : World} {base size g cap n k : Nat} {e : TypeId} {xs : List Value} (h : w.ownsRow base e size (.slice (some ⟨g, 0, none⟩) n cap) n xs) (hk : k < xs.length) (u : Value) :
    (w.setCell ⟨g, k, none⟩ u).ownsRow base e size (.slice (some ⟨g, 0, none⟩) n cap) n (xs.set k u) := by
  obtain ⟨h1, h2⟩ := h
  refine ⟨by rw [List.length_set]; exact h1, ?_⟩
  rcases h2 with ⟨h2, _⟩ | ⟨g', cap', cur, hv, hb, hh, hn, hm, hs, ht⟩
  · cases h2
  · cases hv
    exact .inr ⟨g, cap, _, rfl, hb, setCell_heap u hh, hn, hm, by simpa using hs, by rw [Array.toList_setIfInBounds, List.take_set, ht]⟩
theorem ownsRow_block {w : World} {base size g cap n : Nat} {e : TypeId} {xs : List Value} (h : w.ownsRow base e size (.slice (some ⟨g, 0, none⟩) n cap) n xs) : base ≤ g ∧ g < w.heap.size ∧ n ≤ cap ∧ cap ≤ 9223372036854775807 ∧ ∃ cur, w.heap[g]? = some (.cells cur e (0, 0)) := by
  obtain ⟨h1, h2⟩ := h
  rcases h2 with ⟨h2, _⟩ | ⟨g', cap', cur, hv, hb, hh, hn, hm, hs, ht⟩
  · cases h2
  · cases hv
    exact ⟨hb, lt_of_block hh, hn, by simpa [maxLen] using hm, cur, hh⟩
theorem Lay.block {w : World} {S g cap : Nat} {fs : List (List It × List UInt8)} {vs : List (Value × Value)} (h : Lay w S g cap fs vs) : S ≤ g ∧ g < w.heap.size ∧ fs.length ≤ cap ∧ cap ≤ 9223372036854775807 ∧ ∃ cur, w.heap[g]? = some (.cells cur 136 (0, 0)) := ownsRow_block h.row
theorem Lay.below {w w' : World} {S g cap : Nat} {fs : List (List It × List UInt8)} {vs : List (Value × Value)} (h : Lay w S g cap fs vs) (hS : S ≤ w.heap.size) (hb : Below w.heap.size w w') : Lay w' S g cap fs vs :=
  ⟨h.row.kept (grownBy_none hb) (.inr (by simp [Value.ownBlock])), h.lays.keep hS fun k hk _ => hb.block k hk⟩
/-- The cells of the top one. -/
theorem Lay.top {w : World} {S g cap : Nat} {f : List It × List UInt8} {fs : List (List It × List UInt8)} {v : Value × Value} {vs : List (Value × Value)} (h : Lay w S g cap (f :: fs) (v :: vs)) :
    w.cell? ⟨g, fs.length * 2, none⟩ = some v.1 ∧ w.cell? ⟨g, fs.length * 2 + 1, none⟩ = some v.2 ∧ w.frozen? ⟨g, fs.length * 2, none⟩ = false ∧ w.frozen? ⟨g, fs.length * 2 + 1, none⟩ = false ∧ (∀ i, v.2.ownBlock ≠ some i ∨ i ≠ g) := by
  have hl := h.lays.2.2.length
  have hfl := flatV_length vs
  have e1 : ∀ j, (⟨g, 0, none⟩ : Addr).add j = ⟨g, j, none⟩ := by intro j; unfold Addr.add; split <;> simp_all
  obtain ⟨hb, hlt, _, _, cur, hh⟩ := h.block
  have h0 := h.row.cells (g := g) rfl (fs.length * 2) v.1 (by
    show (flatV vs ++ [v.1, v.2])[fs.length * 2]? = _
    rw [List.getElem?_append_right (by omega), show fs.length * 2 - (flatV vs).length = 0 from by omega]; rfl)
  have h1 := h.row.cells (g := g) rfl (fs.length * 2 + 1) v.2 (by
    show (flatV vs ++ [v.1, v.2])[fs.length * 2 + 1]? = _
    rw [List.getElem?_append_right (by omega), show fs.length * 2 + 1 - (flatV vs).length = 1 from by omega]; rfl)
  rw [e1] at h0 h1
  refine ⟨h0, h1, frozen_at hh (.inl rfl), frozen_at hh (.inl rfl), fun i => ?_⟩
  by_cases hi : i = g
  · left; subst hi; exact Buf.own_ne h.lays.1.2 hh (by decide)
  · exact .inr hi
theorem flatV_set1 (vs : List (Value × Value)) (v : Value × Value) (u : Value) (k : Nat) (hk : k = vs.length * 2) : (flatV (v :: vs)).set (k + 1) u = flatV ((v.1, u) :: vs) := by
  subst hk
  show (flatV vs ++ [v.1, v.2]).set _ u = flatV vs ++ [v.1, u]
  rw [List.set_append_right _ _ (by rw [flatV_length]; omega), flatV_length, show vs.length * 2 + 1 - vs.length * 2 = 1 from by omega]; rfl
theorem flatV_set0 (vs : List (Value × Value)) (v : Value × Value) (u : Value) (k : Nat) (hk : k = vs.length * 2) : (flatV (v :: vs)).set k u = flatV ((u, v.2) :: vs) := by
  subst hk
  show (flatV vs ++ [v.1, v.2]).set _ u = flatV vs ++ [u, v.2]
  rw [List.set_append_right _ _ (by rw [flatV_length]; omega), flatV_length, Nat.sub_self]; rfl
theorem setCell_block {w : World} {p : Addr} {u : Value} {k : Nat} (h : k ≠ p.block) : (w.setCell p u).heap[k]? = w.heap[k]? := by
  simp [World.setCell, Array.getElem?_modify, Ne.symm h]
/-- The top one's bytes put anew. -/
theorem Lay.bytes {w w1 : World} {S g cap : Nat} {xs : List It} {b b' : List UInt8} {fs : List (List It × List UInt8)} {v0 v1 v1' : Value} {vs : List (Value × Value)} (h : Lay w S g cap ((xs, b) :: fs) ((v0, v1) :: vs)) (hS : S ≤ w.heap.size)
    (hg : GrB w w1 v1 v1') (hb : Buf w1 S 5 v1' b') : Lay (w1.setCell ⟨g, fs.length * 2 + 1, none⟩ v1') S g cap ((xs, b') :: fs) ((v0, v1') :: vs) := by
  have hl := h.lays.2.2.length
  obtain ⟨hgS, hgl, _, _, cur, hh⟩ := h.block
  have hne : v1.ownBlock ≠ some g := by
    rcases h.top.2.2.2.2 g with h | h
    · exact h
    · exact absurd rfl h
  have hne' : v1'.ownBlock ≠ some g := by
    rcases hg.own with e | ⟨i, e, hi⟩
    · rw [e]; exact hne
    · rw [e]; intro e2; injection e2 with e2; omega
  have hr := ownsRow_set (k := fs.length * 2 + 1) (h.row.kept hg.grown (.inr (by simp only [Value.ownBlock]; exact Ne.symm hne))) (by rw [flatV_length]; simp; omega) v1'
  rw [flatV_set1 vs (v0, v1) v1' _ (by omega)] at hr
  refine ⟨hr, ⟨⟨?_, ?_⟩, ?_, ?_⟩⟩
  · obtain ⟨⟨A, c, e1, e2, e3, e4⟩, _⟩ := h.lays.1
    refine ⟨A, c, e1, e2, e3, e4.keep fun p hp => World.cell?_of_block ?_⟩
    rw [setCell_block (by simp; omega), hg.block (by omega) (fun e => by have := (h.lays.1.2.ge _ e).1; omega)]
  · refine hb.keep fun k hk hkv => setCell_block ?_
    intro e
    simp only at e
    subst e; exact hne' hkv
  · intro u hu i hi hui
    rcases hg.own with e | ⟨j, e, hj⟩
    · exact h.lays.2.1 u hu i (by rw [← e]; exact hi) hui
    · have h1 := (h.lays.2.2.ge u hu i hui).2.1
      have hi : v1'.ownBlock = some i := hi
      rw [e] at hi; injection hi with hi; omega
  · refine h.lays.2.2.keep hS fun k hk hor => ?_
    have hkg : k ≠ g := by
      rcases hor with h1 | ⟨u, hu, h1⟩
      · omega
      · rintro rfl
        obtain ⟨_, _, cu, fr, h2⟩ := h.lays.2.2.ge u hu k h1
        rw [hh] at h2
        injection h2 with h2
        injection h2 with _ h2
        exact absurd h2 (by decide)
    rw [setCell_block (by simpa using hkg), hg.block hk (fun e => ?_)]
    rcases hor with h1 | ⟨u, hu, h1⟩
    · have := (h.lays.1.2.ge _ e).1; omega
    · exact h.lays.2.1 u hu k e h1
/-- The top one's items put anew. -/
theorem Lay.items {w : World} {S g cap : Nat} {xs xs' : List It} {b : List UInt8} {fs : List (List It × List UInt8)} {v0 v1 : Value} {vs : List (Value × Value)} (h : Lay w S g cap ((xs, b) :: fs) ((v0, v1) :: vs)) (hS : S ≤ w.heap.size)
    {A : Option Addr} {c : Nat} (hc : xs'.length ≤ c) (hc2 : c ≤ 9223372036854775807) (hI : ItsIn w S xs' A 0) : Lay (w.setCell ⟨g, fs.length * 2, none⟩ (.slice A xs'.length c)) S g cap ((xs', b) :: fs) ((.slice A xs'.length c, v1) :: vs) := by
  have hl := h.lays.2.2.length
  obtain ⟨hgS, hgl, _, _, cur, hh⟩ := h.block
  have hr := ownsRow_set (k := fs.length * 2) h.row (by rw [flatV_length]; simp; omega) (.slice A xs'.length c)
  rw [flatV_set0 vs (v0, v1) _ _ (by omega)] at hr
  have hkeep : ∀ k, k < S ∨ (∃ u ∈ (v0, v1) :: vs, u.2.ownBlock = some k) → k ≠ g := by
    intro k hor
    rcases hor with h1 | ⟨u, hu, h1⟩
    · omega
    · rintro rfl
      obtain ⟨_, _, cu, fr, h2⟩ := Lays.ge h.lays u hu k h1
      rw [hh] at h2
      injection h2 with h2
      injection h2 with _ h2
      exact absurd h2 (by decide)
  refine ⟨hr, ⟨⟨⟨A, c, rfl, hc, hc2, hI.keep fun p hp => World.cell?_of_block (setCell_block (by simpa using hkeep _ (.inl hp)))⟩, h.lays.1.2.keep fun k _ hkv => setCell_block (by simpa using hkeep _ (.inr ⟨_, by simp, hkv⟩))⟩, h.lays.2.1, h.lays.2.2.keep hS fun k hk hor => setCell_block (by simpa using hkeep _ (hor.imp id fun ⟨u, hu, h⟩ => ⟨u, by simp [hu], h⟩))⟩⟩
/-- One more list on top. -/
theorem Lay.push {w w' : World} {S g cap g' cap' : Nat} {fs : List (List It × List UInt8)} {vs : List (Value × Value)} (h : Lay w S g cap fs vs) (hS : S ≤ w.heap.size) {s : List It} {A : Option Addr} {c : Nat} (hc : s.length ≤ c) (hc2 : c ≤ 9223372036854775807) (hI : ItsIn w S s A 0)
    (hr : w'.ownsRow S 136 2 (.slice (some ⟨g', 0, none⟩) (fs.length + 1) cap') (fs.length + 1) (flatV vs ++ [.slice A s.length c, .slice none 0 0])) (hg : w.grownBy w' (some g)) :
    Lay w' S g' cap' ((s, []) :: fs) ((.slice A s.length c, .slice none 0 0) :: vs) := by
  obtain ⟨hgS, hgl, _, _, cur, hh⟩ := h.block
  refine ⟨hr, ⟨⟨⟨A, c, rfl, hc, hc2, hI.keep fun p hp => World.cell?_of_block (hg.block _ (by omega) (by simp; omega))⟩, Buf.nil _ _ _⟩, (fun u _ i hi => by cases hi), h.lays.keep hS fun k hk hor => hg.block k hk ?_⟩⟩
  intro e
  injection e with e
  rcases hor with h1 | ⟨u, hu, h1⟩
  · omega
  · subst e
    obtain ⟨_, _, cu, fr, h2⟩ := h.lays.ge u hu k h1
    rw [hh] at h2
    injection h2 with h2
    injection h2 with _ h2
    exact absurd h2 (by decide)
/-- The top one away. -/
theorem Lay.pop {w : World} {S g cap : Nat} {f : List It × List UInt8} {fs : List (List It × List UInt8)} {v : Value × Value} {vs : List (Value × Value)} (h : Lay w S g cap (f :: fs) (v :: vs)) : Lay w S g cap fs vs :=
  ⟨ownsRow_pop (by rw [flatV_length, h.lays.2.2.length]) h.row, h.lays.2.2⟩
end Go.Proofs.YtacikiambpfipaaDoor
