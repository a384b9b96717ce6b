/- A row of capabilities of the call's own: kept, written, grown. -/
import Derived.Test.YtcidcjghglgkhaaCapBoth
namespace Go.Proofs.Ytcidcjghglgkhaa
set_option linter.unusedVariables false
set_option linter.unusedSimpArgs false
open Go.RowKit Go.Shelf

theorem cc_len (l : List Cp) : (cc l).length = l.length * 2 := by
  induction l with
  | nil => rfl
  | cons c l ih => rw [show c :: l = [c] ++ l from rfl, cc_append, cc_one, List.length_append, ih]; simp; omega
theorem cc_set : ∀ (l : List Cp) (k : Nat) (c : Cp), k < l.length → cc (l.set k c) = ((cc l).set (k * 2) (.string c.1)).set (k * 2 + 1) (.int .i64 c.2)
  | [], k, c, h => by simp at h
  | x :: l, 0, c, _ => by simp [cc]
  | x :: l, k + 1, c, h => by
    have ih := cc_set l k c (by simpa using h)
    have e : ∀ (y : Cp) (m : List Cp), cc (y :: m) = .string y.1 :: .int .i64 y.2 :: cc m := by intro y m; simp [cc]
    rw [List.set_cons_succ, e, e, ih, show (k + 1) * 2 = k * 2 + 1 + 1 from by omega]
    rfl
theorem own_grown {w w' : World} {base : Nat} {E : TypeId} {sz : Nat} {v : Value} {n : Nat} {xs : List Value} {row : Option Nat} (h : w.ownsRow base E sz v n xs) (hg : w.grownBy w' row) (hr : ∀ r, row = some r → ∃ o : Obj, w.heap[r]? = some o ∧ o.isCells = false) : w'.ownsRow base E sz v n xs := by
  refine ⟨h.1, ?_⟩
  rcases h.2 with h2 | ⟨g, cap, cur, hv, hb, hh, r⟩
  · exact .inl h2
  · refine .inr ⟨g, cap, cur, hv, hb, (hg.block g (lt_of_block hh) ?_).trans hh, r⟩
    intro e
    obtain ⟨o, ho, hc⟩ := hr g e.symm
    rw [hh] at ho
    injection ho with ho
    subst ho
    cases hc
theorem own_block {w w' : World} {base : Nat} {E : TypeId} {sz : Nat} {v : Value} {n : Nat} {xs : List Value} (h : w.ownsRow base E sz v n xs) (hk : ∀ k, base ≤ k → k < w.heap.size → w'.heap[k]? = w.heap[k]?) : w'.ownsRow base E sz v n xs := by
  refine ⟨h.1, ?_⟩
  rcases h.2 with h2 | ⟨g, cap, cur, hv, hb, hh, r⟩
  · exact .inl h2
  · exact .inr ⟨g, cap, cur, hv, hb, (hk g hb (lt_of_block hh)).trans hh, r⟩
theorem own_store {w : World} {base : Nat} {E : TypeId} {sz g n cap : Nat} {xs : List Value} (h : w.ownsRow base E sz (.slice (some ⟨g, 0, none⟩) n cap) n xs) (i : Nat) (hi : i < n * sz) (u : Value) : (w.setCell ⟨g, i, none⟩ u).ownsRow base E sz (.slice (some ⟨g, 0, none⟩) n cap) n (xs.set i u) := by
  obtain ⟨h1, h2⟩ := h
  refine ⟨by rw [List.length_set]; exact h1, ?_⟩
  rcases h2 with ⟨h2, _⟩ | ⟨g', cap', cur, hv, hb, hh, hn, hm, hs, ht⟩
  · cases h2
  · injection hv with hA _ hc
    injection hA with hA
    injection hA with hA
    subst hA; subst hc
    refine .inr ⟨g, cap, _, rfl, hb, setCell_heap u hh, hn, hm, by simpa using hs, ?_⟩
    rw [Array.toList_setIfInBounds, List.take_set, ht]
theorem own_cell {w : World} {base : Nat} {E : TypeId} {sz g n cap : Nat} {xs : List Value} (h : w.ownsRow base E sz (.slice (some ⟨g, 0, none⟩) n cap) n xs) : (∀ i u, xs[i]? = some u → w.cell? ⟨g, i, none⟩ = some u) ∧ (∀ i, w.frozen? ⟨g, i, none⟩ = false) ∧ base ≤ g ∧ g < w.heap.size := by
  obtain ⟨h1, h2⟩ := h
  rcases h2 with ⟨h2, _⟩ | ⟨g', cap', cur, hv, hb, hh, hn, hm, hs, ht⟩
  · cases h2
  · injection hv with hA _ hc
    injection hA with hA
    injection hA with hA
    subst hA; subst hc
    refine ⟨fun i u hu => ?_, fun i => Blk.frozen (cs := cur) hh i, hb, lt_of_block hh⟩
    have hlt : i < n * sz := by
      have := (List.getElem?_eq_some_iff.1 hu).1
      rw [h1] at this; exact this
    rw [← ht, List.getElem?_take_of_lt hlt] at hu
    simp only [World.cell?, hh]
    simpa using hu
theorem own_form' {w : World} {base : Nat} {E : TypeId} {sz n : Nat} {v : Value} {xs : List Value} (h : w.ownsRow base E sz v n xs) : ∃ A cap, v = .slice A n cap ∧ n ≤ cap ∧ cap ≤ 9223372036854775807 ∧ (n ≠ 0 → ∃ g, A = some ⟨g, 0, none⟩) := by
  rcases h.2 with ⟨h2, h3⟩ | ⟨g', cap', cur, hv, hb, hh, hn, hm, hs, ht⟩
  · exact ⟨none, 0, by rw [h2, h3], by omega, by simp, fun h => absurd h3 h⟩
  · exact ⟨_, cap', hv, hn, by simpa [maxLen] using hm, fun _ => ⟨g', rfl⟩⟩
theorem own_iscells {w : World} {base : Nat} {E : TypeId} {sz n j : Nat} {v : Value} {xs : List Value} {o : Obj} (h : w.ownsRow base E sz v n xs) (e : v.ownBlock = some j) (ho : w.heap[j]? = some o) : o.isCells = true := by
  rcases h.2 with ⟨h2, h3⟩ | ⟨g', cap', cur, hv, hb, hh, _⟩
  · rw [h2] at e; cases e
  · rw [hv] at e
    have : g' = j := by simpa [Value.ownBlock] using e
    subst this
    rw [hh] at ho
    injection ho with ho
    subst ho
    rfl
theorem info_cap : (Try.prog.info? 74).map (fun i => (i.zero, i.size, i.bytes)) = some (some (.agg #[.string ⟨#[]⟩, .int .i64 0]), 2, 24) := by kernel_rfl
theorem info_rcap : (Try.prog.info? 54).map (fun i => (i.zero, i.size, i.bytes)) = some (some (.agg #[.string ⟨#[]⟩, .int .i64 0]), 2, 24) := by kernel_rfl
end Go.Proofs.Ytcidcjghglgkhaa
