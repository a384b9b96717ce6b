/- A row of capabilities of the call's own: kept, written, grown. -/
/- rlp.Next: how its variables stand: plain, and in the world. -/
import Derived.Test.YtacikiambpfipaaDoorKCapBoth
import Derived.Test.YtacikiambpfipaaDoorKRlpAdd
import Derived.Test.YtacikiambpfipaaDoorKRlpRP
namespace Go.Proofs.YtacikiambpfipaaDoor
set_option linter.unusedVariables false
set_option linter.unusedSimpArgs false
open Go.RowKit Go.Shelf

theorem cc_len (l : List Cp) : (cc l).length = l.length * 2 := by
  induction l with
  | nil => rfl
  | cons c l ih => rw [show c :: l = [c] ++ l from rfl, cc_append, cc_one, List.length_append, ih]; simp; omega
theorem cc_set : ∀ (l : List Cp) (k : Nat) (c : Cp), k < l.length → cc (l.set k c) = ((cc l).set (k * 2) (.string c.1)).set (k * 2 + 1) (.int .i64 c.2)
  | [], k, c, h => by simp at h
  | x :: l, 0, c, _ => by simp [cc]
  | x :: l, k + 1, c, h => by
    have ih := cc_set l k c (by simpa using h)
    have e : ∀ (y : Cp) (m : List Cp), cc (y :: m) = .string y.1 :: .int .i64 y.2 :: cc m := by intro y m; simp [cc]
    rw [List.set_cons_succ, e, e, ih, show (k + 1) * 2 = k * 2 + 1 + 1 from by omega]
    rfl
theorem own_grown {w w' : World} {base : Nat} {E : TypeId} {sz : Nat} {v : Value} {n : Nat} {xs : List Value} {row : Option Nat} (h : w.ownsRow base E sz v n xs) (hg : w.grownBy w' row) (hr : ∀ r, row = some r → ∃ o : Obj, w.heap[r]? = some o ∧ o.isCells = false) : w'.ownsRow base E sz v n xs := by
  refine ⟨h.1, ?_⟩
  rcases h.2 with h2 | ⟨g, cap, cur, hv, hb, hh, r⟩
  · exact .inl h2
  · refine .inr ⟨g, cap, cur, hv, hb, (hg.block g (lt_of_block hh) ?_).trans hh, r⟩
    intro e
    obtain ⟨o, ho, hc⟩ := hr g e.symm
    rw [hh] at ho
    injection ho with ho
    subst ho
    cases hc
theorem own_block {w w' : World} {base : Nat} {E : TypeId} {sz : Nat} {v : Value} {n : Nat} {xs : List Value} (h : w.ownsRow base E sz v n xs) (hk : ∀ k, base ≤ k → k < w.heap.size → w'.heap[k]? = w.heap[k]?) : w'.ownsRow base E sz v n xs := by
  refine ⟨h.1, ?_⟩
  rcases h.2 with h2 | ⟨g, cap, cur, hv, hb, hh, r⟩
  · exact .inl h2
  · exact .inr ⟨g, cap, cur, hv, hb, (hk g hb (lt_of_block hh)).trans hh, r⟩
theorem own_store {w : World} {base : Nat} {E : TypeId} {sz g n cap : Nat} {xs : List Value} (h : w.ownsRow base E sz (.slice (some ⟨g, 0, none⟩) n cap) n xs) (i : Nat) (hi : i < n * sz) (u : Value) : (w.setCell ⟨g, i, none⟩ u).ownsRow base E sz (.slice (some ⟨g, 0, none⟩) n cap) n (xs.set i u) := by
  obtain ⟨h1, h2⟩ := h
  refine ⟨by rw [List.length_set]; exact h1, ?_⟩
  rcases h2 with ⟨h2, _⟩ | ⟨g', cap', cur, hv, hb, hh, hn, hm, hs, ht⟩
  · cases h2
  · injection hv with hA _ hc
    injection hA with hA
    injection hA with hA
    subst hA; subst hc
    refine .inr ⟨g, cap, _, rfl, hb, setCell_heap u hh, hn, hm, by simpa using hs, ?_⟩
    rw [Array.toList_setIfInBounds, List.take_set, ht]
theorem own_cell {w : World} {base : Nat} {E : TypeId} {sz g n cap : Nat} {xs : List Value} (h : w.ownsRow base E sz (.slice (some ⟨g, 0, none⟩) n cap) n xs) : (∀ i u, xs[i]? = some u → w.cell? ⟨g, i, none⟩ = some u) ∧ (∀ i, w.frozen? ⟨g, i, none⟩ = false) ∧ base ≤ g ∧ g < w.heap.size := by
  obtain ⟨h1, h2⟩ := h
  rcases h2 with ⟨h2, _⟩ | ⟨g', cap', cur, hv, hb, hh, hn, hm, hs, ht⟩
  · cases h2
  · injection hv with hA _ hc
    injection hA with hA
    injection hA with hA
    subst hA; subst hc
    refine ⟨fun i u hu => ?_, fun i => Blk.frozen (cs := cur) hh i, hb, lt_of_block hh⟩
    have hlt : i < n * sz := by
      have := (List.getElem?_eq_some_iff.1 hu).1
      rw [h1] at this; exact this
    rw [← ht, List.getElem?_take_of_lt hlt] at hu
    simp only [World.cell?, hh]
    simpa using hu
theorem own_form' {w : World} {base : Nat} {E : TypeId} {sz n : Nat} {v : Value} {xs : List Value} (h : w.ownsRow base E sz v n xs) : ∃ A cap, v = .slice A n cap ∧ n ≤ cap ∧ cap ≤ 9223372036854775807 ∧ (n ≠ 0 → ∃ g, A = some ⟨g, 0, none⟩) := by
  rcases h.2 with ⟨h2, h3⟩ | ⟨g', cap', cur, hv, hb, hh, hn, hm, hs, ht⟩
  · exact ⟨none, 0, by rw [h2, h3], by omega, by simp, fun h => absurd h3 h⟩
  · exact ⟨_, cap', hv, hn, by simpa [maxLen] using hm, fun _ => ⟨g', rfl⟩⟩
theorem own_iscells {w : World} {base : Nat} {E : TypeId} {sz n j : Nat} {v : Value} {xs : List Value} {o : Obj} (h : w.ownsRow base E sz v n xs) (e : v.ownBlock = some j) (ho : w.heap[j]? = some o) : o.isCells = true := by
  rcases h.2 with ⟨h2, h3⟩ | ⟨g', cap', cur, hv, hb, hh, _⟩
  · rw [h2] at e; cases e
  · rw [hv] at e
    have : g' = j := by simpa [Value.ownBlock] using e
    subst this
    rw [hh] at ho
    injection ho with ho
    subst ho
    rfl
theorem info_cap : (Tryd.prog.info? 104).map (fun i => (i.zero, i.size, i.bytes)) = some (some (.agg #[.string ⟨#[]⟩, .int .i64 0]), 2, 24) := by kernel_rfl
theorem info_rcap : (Tryd.prog.info? 111).map (fun i => (i.zero, i.size, i.bytes)) = some (some (.agg #[.string ⟨#[]⟩, .int .i64 0]), 2, 24) := by kernel_rfl
end Go.Proofs.YtacikiambpfipaaDoor
namespace Go.Proofs.YtacikiambpfipaaDoor
set_option linter.unusedVariables false
set_option linter.unusedSimpArgs false
open Go.RowKit

/-- Where the top list ends; the whole, if none is open. -/
def topE (z : Nat) : List (List It × Nat) → Nat
  | [] => z
  | f :: _ => f.2
def Ends (z : Nat) : List (List It × Nat) → Prop
  | [] => True
  | f :: fs => f.2 ≤ topE z fs ∧ Ends z fs
theorem Ends.top {z : Nat} : ∀ {fs : List (List It × Nat)}, Ends z fs → topE z fs ≤ z
  | [], _ => Nat.le_refl _
  | f :: fs, h => Nat.le_trans h.1 (Ends.top h.2)
def tally : List (List It × Nat) → Nat
  | [] => 0
  | f :: fs => f.1.length + 1 + tally fs
theorem tally_length : ∀ (fs : List (List It × Nat)), fs.length ≤ tally fs
  | [] => Nat.le_refl _
  | f :: fs => by have := tally_length fs; simp [tally]; omega
/-- Ahead of a round. -/
def PosP (D M : Int) (s : ByteArray) (R : Rd) (b : Bool) : List (List It × Nat) → Nat → Nat → Prop
  | [], at_, count => b = true ∧ at_ = 0 ∧ count = 0 ∧ rdItem D M s 1 0 = R
  | (acc, en) :: fs, at_, count => b = false ∧ at_ < en ∧ fin D M s acc en fs at_ count = R ∧ Ends s.size ((acc, en) :: fs) ∧ tally ((acc, en) :: fs) ≤ count ∧ count ≤ 1024
/-- Behind an item. -/
def MidP (D M : Int) (s : ByteArray) (R : Rd) : List (List It × Nat) → Nat → Nat → Prop
  | [], at_, _ => R.e = 0 ∧ R.size = at_
  | (acc, en) :: fs, at_, count => at_ ≤ en ∧ fin D M s acc en fs at_ count = R ∧ Ends s.size ((acc, en) :: fs) ∧ tally ((acc, en) :: fs) ≤ count ∧ count ≤ 1024
theorem PosP.le {D M : Int} {s : ByteArray} {R : Rd} {b : Bool} {fs : List (List It × Nat)} {at_ count : Nat} (h : PosP D M s R b fs at_ count) : at_ ≤ topE s.size fs ∧ topE s.size fs ≤ s.size ∧ count ≤ 1024 ∧ fs.length ≤ 1024 ∧ (b = true ↔ fs = []) := by
  match fs, h with
  | [], h => obtain ⟨rfl, rfl, rfl, h⟩ := h; simp [topE]
  | (acc, en) :: fs, h =>
    obtain ⟨rfl, h1, h2, h3, h4, h5⟩ := h
    have h6 := tally_length ((acc, en) :: fs)
    have h7 := h3.top
    exact ⟨Nat.le_of_lt h1, h7, h5, by omega, by simp⟩
theorem whole_cut (s : ByteArray) : s.extract 0 s.size = s := by
  apply bytes_ext
  rw [toList_cut, List.drop_zero, List.take_of_length_le (by simp)]
theorem PosP.err {D M : Int} {s : ByteArray} {R : Rd} {b : Bool} {fs : List (List It × Nat)} {at_ count : Nat} (h : PosP D M s R b fs at_ count) {l : Bool} {z n : Nat} {e : Int}
    (hH : hd (s.extract at_ (topE s.size fs)) (tooDeep D (fs.length + 1)) (tooMany M count) = (l, z, n, e)) (he : e ≠ 0) : R = Rd.bad (if b then e else within e) := by
  match fs, h with
  | [], h =>
    obtain ⟨rfl, rfl, rfl, h0⟩ := h
    simp only [topE, whole_cut] at hH
    rw [← h0]
    exact (fin_first D M s _ hH).1 he
  | (acc, en) :: fs, h =>
    obtain ⟨rfl, h1, h2, h3, h4, h5⟩ := h
    rw [← h2]
    exact fin_err D M s acc en fs at_ count h1 h3.top _ hH he
theorem PosP.many {D M : Int} {s : ByteArray} {fs : List (List It × Nat)} {at_ count : Nat} {l : Bool} {z n : Nat} {e : Int}
    (hH : hd (s.extract at_ (topE s.size fs)) (tooDeep D (fs.length + 1)) (tooMany M count) = (l, z, n, e)) (he : e = 0) : count + 1 ≤ 1024 := by
  have h := hd_is (s.extract at_ (topE s.size fs)) (tooDeep D (fs.length + 1)) (tooMany M count)
  rw [hH] at h
  exact (tooMany_no.1 (h he).2.2.1).2
theorem PosP.list {D M : Int} {s : ByteArray} {R : Rd} {b : Bool} {fs : List (List It × Nat)} {at_ count : Nat} (h : PosP D M s R b fs at_ count) {z n : Nat}
    (hH : hd (s.extract at_ (topE s.size fs)) (tooDeep D (fs.length + 1)) (tooMany M count) = (true, z, n, 0)) :
    MidP D M s R (([], at_ + z + n) :: fs) (at_ + z) (count + 1) ∧ at_ + z + n ≤ s.size ∧ 1 ≤ z ∧ count + 1 ≤ 1024 := by
  have hm := PosP.many hH rfl
  match fs, h with
  | [], h =>
    obtain ⟨rfl, rfl, rfl, h0⟩ := h
    simp only [topE, whole_cut] at hH
    have hk := hd_ok s (tooDeep D 1) (tooMany M 0)
    have hf := (fin_first D M s _ hH).2.2 rfl rfl
    rw [show ([] : List (List It × Nat)).length + 1 = 1 from rfl] at hH
    rw [hH] at hk
    have hk := hk rfl
    dsimp only at hk hf
    rw [h0] at hf
    simp only [Nat.zero_add]
    exact ⟨⟨by omega, hf.symm, ⟨by simp [topE]; omega, trivial⟩, by simp [tally], by omega⟩, by omega, hk.2.2.2 rfl, by omega⟩
  | (acc, en) :: fs, h =>
    obtain ⟨rfl, h1, h2, h3, h4, h5⟩ := h
    obtain ⟨h6, h7, h8⟩ := fin_list D M s acc en fs at_ count h1 h3.top _ hH rfl rfl
    dsimp only at h6 h7 h8
    have h9 := h3.top
    simp only [topE] at h9
    exact ⟨⟨by omega, h6.symm.trans h2, ⟨by simp only [topE]; exact h7, h3⟩, by simp only [tally, List.length_nil] at h4 ⊢; omega, hm⟩, by omega, h8, hm⟩
theorem PosP.text {D M : Int} {s : ByteArray} {R : Rd} {b : Bool} {fs : List (List It × Nat)} {at_ count : Nat} (h : PosP D M s R b fs at_ count) {z n : Nat}
    (hH : hd (s.extract at_ (topE s.size fs)) (tooDeep D (fs.length + 1)) (tooMany M count) = (false, z, n, 0)) :
    at_ + z + n ≤ s.size ∧ 1 ≤ z + n ∧ count + 1 ≤ 1024 ∧ (fs = [] → R = ⟨.mk (s.extract (at_ + z) (at_ + z + n)) false [], at_ + z + n, 1, 0⟩) ∧
    (∀ acc en fs', fs = (acc, en) :: fs' → MidP D M s R ((acc ++ [.mk (s.extract (at_ + z) (at_ + z + n)) false []], en) :: fs') (at_ + z + n) (count + 1)) := by
  have hm := PosP.many hH rfl
  have hk := hd_ok (s.extract at_ (topE s.size fs)) (tooDeep D (fs.length + 1)) (tooMany M count)
  rw [hH] at hk
  have hk := hk rfl
  dsimp only at hk
  match fs, h with
  | [], h =>
    obtain ⟨rfl, rfl, rfl, h0⟩ := h
    simp only [topE, whole_cut] at hH hk
    have hf := (fin_first D M s _ hH).2.1 rfl rfl
    dsimp only at hf
    rw [h0] at hf
    simp only [Nat.zero_add]
    exact ⟨by omega, by omega, by omega, (fun _ => hf), (fun _ _ _ e => by cases e)⟩
  | (acc, en) :: fs, h =>
    obtain ⟨rfl, h1, h2, h3, h4, h5⟩ := h
    obtain ⟨h6, h7⟩ := fin_text D M s acc en fs at_ count h1 h3.top _ hH rfl rfl
    dsimp only at h6 h7
    have h9 := h3.top
    simp only [topE] at h9
    refine ⟨by omega, by omega, hm, (fun e => by cases e), fun acc' en' fs' e => ?_⟩
    injection e with e1 e2
    injection e1 with e3 e4
    subst e2; subst e3; subst e4
    exact ⟨h7, h6.symm.trans h2, h3, by simp only [tally, List.length_append, List.length_singleton] at h4 ⊢; omega, hm⟩
theorem MidP.next {D M : Int} {s : ByteArray} {R : Rd} {acc : List It} {en : Nat} {fs : List (List It × Nat)} {at_ count : Nat} (h : MidP D M s R ((acc, en) :: fs) at_ count) (hne : en ≠ at_) : PosP D M s R false ((acc, en) :: fs) at_ count := by
  obtain ⟨h1, h2⟩ := h
  exact ⟨rfl, by omega, h2⟩
theorem MidP.done {D M : Int} {s : ByteArray} {R : Rd} {acc : List It} {en count : Nat} (h : MidP D M s R [(acc, en)] en count) : R = ⟨listIt acc, en, count, 0⟩ := by
  obtain ⟨h1, h2, h3, h4, h5⟩ := h
  rw [← h2]
  exact fin_done D M s acc en count h3.top
theorem MidP.close {D M : Int} {s : ByteArray} {R : Rd} {acc acc' : List It} {en en' count : Nat} {fs : List (List It × Nat)} (h : MidP D M s R ((acc, en) :: (acc', en') :: fs) en count) : MidP D M s R ((acc' ++ [listIt acc], en') :: fs) en count := by
  obtain ⟨h1, h2, h3, h4, h5⟩ := h
  rw [fin_close D M s acc en (acc', en') fs count h3.top] at h2
  exact ⟨h3.1, h2, h3.2, by simp only [tally, List.length_append, List.length_singleton] at h4 ⊢; omega, h5⟩
theorem MidP.len {D M : Int} {s : ByteArray} {R : Rd} {acc : List It} {en at_ count : Nat} {fs : List (List It × Nat)} (h : MidP D M s R ((acc, en) :: fs) at_ count) : acc.length ≤ 1024 ∧ fs.length ≤ 1024 ∧ en ≤ s.size := by
  obtain ⟨h1, h2, h3, h4, h5⟩ := h
  have := tally_length fs
  simp only [tally] at h4
  exact ⟨by omega, by omega, h3.top⟩

/-- The variables that lie in memory: the result, the open lists, the whole. -/
structure NxW (w0 w : World) (A : Option Addr) (r cp : Nat) : Prop where
  res : Blk w w0.heap.size 27 #[.string ⟨#[]⟩, .bool false, .slice none 0 0]
  opn : Blk w (w0.heap.size + 1) 179 #[.slice A r cp]
  who : ∃ z0 z1 z2, Blk w (w0.heap.size + 2) 27 #[z0, z1, z2]
  bel : Below w0.heap.size w0 w
  siz : w0.heap.size + 3 ≤ w.heap.size
  le : r ≤ cp
  mx : cp ≤ 9223372036854775807
theorem NxW.below {w0 w w' : World} {A : Option Addr} {r cp : Nat} (h : NxW w0 w A r cp) (hb : Below (w0.heap.size + 3) w w') : NxW w0 w' A r cp := by
  obtain ⟨z0, z1, z2, hz⟩ := h.who
  exact ⟨h.res.keep hb (by omega), h.opn.keep hb (by omega), ⟨z0, z1, z2, hz.keep hb (by omega)⟩, h.bel.trans (hb.mono (by omega)), Nat.le_trans h.siz hb.size, h.le, h.mx⟩
/-- A slice is stored into the variable. -/
theorem NxW.store {w0 w : World} {A A' : Option Addr} {r cp r' cp' : Nat} (h : NxW w0 w A r cp) (h1 : r' ≤ cp') (h2 : cp' ≤ 9223372036854775807) : NxW w0 (w.setCell ⟨w0.heap.size + 1, 0, none⟩ (.slice A' r' cp')) A' r' cp' := by
  obtain ⟨z0, z1, z2, hz⟩ := h.who
  refine ⟨h.res.far (p := ⟨w0.heap.size + 1, 0, none⟩) (by simp) _, h.opn.set 0 _, ⟨z0, z1, z2, hz.far (p := ⟨w0.heap.size + 1, 0, none⟩) (by simp) _⟩, h.bel.setCell (by simp) _, by have := h.siz; simp [World.setCell]; omega, h1, h2⟩
theorem NxW.only {w0 w w' : World} {A : Option Addr} {r cp : Nat} (h : NxW w0 w A r cp) (ho : Only [w0.heap.size + 2] w w') {z0 z1 z2 : Value} (hz : Blk w' (w0.heap.size + 2) 27 #[z0, z1, z2]) : NxW w0 w' A r cp :=
  ⟨h.res.only ho (by simp), h.opn.only ho (by simp), ⟨z0, z1, z2, hz⟩, h.bel.trans (ho.below h.bel.size (by simp)), Nat.le_trans h.siz ho.size, h.le, h.mx⟩
def StkW (w : World) (lo : Nat) (A : Option Addr) (cp : Nat) (fs : List (List It × Nat)) : Prop := fs = [] ∨ ∃ g vs, A = some ⟨g, 0, none⟩ ∧ RdO w lo w.heap.size g cp fs vs
theorem StkW.below {w w' : World} {lo : Nat} {A : Option Addr} {cp : Nat} {fs : List (List It × Nat)} (h : StkW w lo A cp fs) (hb : Below w.heap.size w w') : StkW w' lo A cp fs := by
  rcases h with h | ⟨g, vs, h1, h2⟩
  · exact .inl h
  · have h3 := h2.below hb
    exact .inr ⟨g, vs, h1, ⟨h3.row, h3.rds.up hb.size, Nat.le_refl _⟩⟩
theorem StkW.only {w w' : World} {lo : Nat} {A : Option Addr} {cp : Nat} {fs : List (List It × Nat)} {L : List Nat} (h : StkW w lo A cp fs) (ho : Only L w w') (hL : ∀ k, k ∈ L → k < lo) : StkW w' lo A cp fs := by
  rcases h with h | ⟨g, vs, h1, h2⟩
  · exact .inl h
  · have h3 := h2.only ho hL
    exact .inr ⟨g, vs, h1, ⟨h3.row, h3.rds.up ho.size, Nat.le_refl _⟩⟩
/-- The whole is read. -/
def DoneW (w0 w : World) (x : It) : Prop := ∃ c0 c1 c2, Blk w (w0.heap.size + 2) 27 #[c0, c1, c2] ∧ ItS w (w0.heap.size + 3 ≤ ·) x c0 c1 c2
end Go.Proofs.YtacikiambpfipaaDoor
