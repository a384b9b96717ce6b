/- The stack of rlp.Next: lists whose items are being read. Own text; no program in sight but the types' numbers. -/
import Derived.Test.YtacikiambpfipaaDoorKLayW
import Derived.Test.YtacikiambpfipaaDoorKItemS
import Derived.Test.YtacikiambpfipaaDoorKA3
namespace Go.Proofs.YtacikiambpfipaaDoor
set_option linter.unusedVariables false
set_option linter.unusedSimpArgs false
open Go.RowKit

/-- Block k is no row of readings. -/
def NoRd (w : World) (k : Nat) : Prop := ∀ cs fr, w.heap[k]? ≠ some (.cells cs 182 fr)
theorem NoRd.of_eq {w w' : World} {k : Nat} (h : NoRd w k) (e : w'.heap[k]? = w.heap[k]?) : NoRd w' k := by
  intro cs fr; rw [e]; exact h cs fr
theorem NoRd.of_item {w : World} {k : Nat} {cs : Array Value} {t : TypeId} {fr : Nat × Nat} (h : w.heap[k]? = some (.cells cs t fr)) (ht : t ≠ 182) : NoRd w k := by
  intro cs' fr' e
  rw [h] at e
  injection e with e
  injection e with _ e
  exact ht e
/-- One list that is being read: the items so far, its end. Its blocks lie from m on, below hi. -/
def RdF (w : World) (m hi : Nat) (f : List It × Nat) (v : Value × Value) : Prop :=
  v.2 = .int .i64 f.2 ∧ (∀ g, v.1.ownBlock = some g → g < hi) ∧ ∃ cs, w.ownsRow m 27 3 v.1 f.1.length cs ∧ ItsAreS w (fun k => m ≤ k ∧ k < hi ∧ v.1.ownBlock ≠ some k ∧ NoRd w k) f.1 cs
def RdL (w : World) (lo : Nat) : Nat → List (List It × Nat) → List (Value × Value) → Prop
  | _, [], [] => True
  | hi, f :: fs, v :: vs => ∃ m, lo ≤ m ∧ m ≤ hi ∧ RdF w m hi f v ∧ RdL w lo m fs vs
  | _, _, _ => False
theorem RdL.length {w : World} {lo : Nat} : ∀ {fs : List (List It × Nat)} {vs : List (Value × Value)} {hi : Nat}, RdL w lo hi fs vs → vs.length = fs.length
  | [], [], _, _ => rfl
  | f :: fs, v :: vs, hi, h => by
    obtain ⟨m, _, _, _, h⟩ := h
    simp [RdL.length h]
theorem RdF.keep {w w' : World} {m hi hi' : Nat} {f : List It × Nat} {v : Value × Value} (h : RdF w m hi f v) (hh : hi ≤ hi') (hk : ∀ k, m ≤ k → k < hi → k < w.heap.size → NoRd w k → w'.heap[k]? = w.heap[k]?) : RdF w' m hi' f v := by
  obtain ⟨h1, h2, cs, h3, h4⟩ := h
  refine ⟨h1, fun g hg => Nat.lt_of_lt_of_le (h2 g hg) hh, cs, ⟨h3.1, ?_⟩, h4.keep (fun k hk1 hS => ⟨hS.1, by omega, hS.2.2.1, hS.2.2.2.of_eq (hk k hS.1 hS.2.1 hk1 hS.2.2.2)⟩) fun p hp hS => World.cell?_of_block (hk _ hS.1 hS.2.1 hp hS.2.2.2)⟩
  rcases h3.2 with h5 | ⟨g, cap, cur, hv, hg, hh', r⟩
  · exact .inl h5
  · exact .inr ⟨g, cap, cur, hv, hg, (hk g hg (h2 g (by rw [hv]; rfl)) (lt_of_block hh') (NoRd.of_item hh' (by decide))).trans hh', r⟩
theorem RdL.keep {w w' : World} {lo : Nat} : ∀ {fs : List (List It × Nat)} {vs : List (Value × Value)} {hi : Nat}, RdL w lo hi fs vs → (∀ k, lo ≤ k → k < hi → k < w.heap.size → NoRd w k → w'.heap[k]? = w.heap[k]?) → RdL w' lo hi fs vs
  | [], [], _, _, _ => trivial
  | f :: fs, v :: vs, hi, h, hk => by
    obtain ⟨m, h1, h2, h3, h4⟩ := h
    exact ⟨m, h1, h2, h3.keep (Nat.le_refl _) fun k a b => hk k (by omega) b, RdL.keep h4 fun k a b => hk k a (by omega)⟩
theorem RdL.up {w : World} {lo hi hi' : Nat} {fs : List (List It × Nat)} {vs : List (Value × Value)} (h : RdL w lo hi fs vs) (hh : hi ≤ hi') : RdL w lo hi' fs vs := by
  match fs, vs, h with
  | [], [], _ => trivial
  | f :: fs, v :: vs, h =>
    obtain ⟨m, h1, h2, h3, h4⟩ := h
    exact ⟨m, h1, by omega, h3.keep hh fun _ _ _ _ _ => rfl, h4⟩
/-- The slice of the open lists, in a row of the call's own. -/
structure RdO (w : World) (lo hi g cap : Nat) (fs : List (List It × Nat)) (vs : List (Value × Value)) : Prop where
  row : w.ownsRow lo 182 2 (.slice (some ⟨g, 0, none⟩) fs.length cap) fs.length (flatV vs)
  rds : RdL w lo hi fs vs
  le : hi ≤ w.heap.size
theorem RdO.block {w : World} {lo hi g cap : Nat} {fs : List (List It × Nat)} {vs : List (Value × Value)} (h : RdO w lo hi g cap fs vs) : lo ≤ g ∧ g < w.heap.size ∧ fs.length ≤ cap ∧ cap ≤ 9223372036854775807 ∧ ∃ cur, w.heap[g]? = some (.cells cur 182 (0, 0)) := ownsRow_block h.row
theorem RdO.below {w w' : World} {lo hi g cap : Nat} {fs : List (List It × Nat)} {vs : List (Value × Value)} (h : RdO w lo hi g cap fs vs) (hb : Below w.heap.size w w') : RdO w' lo hi g cap fs vs :=
  ⟨h.row.kept (grownBy_none hb) (.inr (by simp [Value.ownBlock])), h.rds.keep fun k _ _ hk _ => hb.block k hk, Nat.le_trans h.le hb.size⟩
/-- Only blocks below lo have turned. -/
theorem RdO.only {w w' : World} {lo hi g cap : Nat} {fs : List (List It × Nat)} {vs : List (Value × Value)} (h : RdO w lo hi g cap fs vs) {L : List Nat} (ho : Only L w w') (hL : ∀ k, k ∈ L → k < lo) : RdO w' lo hi g cap fs vs := by
  obtain ⟨hg, hgl, _, _, cur, hh⟩ := h.block
  refine ⟨⟨h.row.1, ?_⟩, h.rds.keep fun k h1 _ h3 _ => ho.block k h3 fun hm => by have := hL k hm; omega, Nat.le_trans h.le ho.size⟩
  rcases h.row.2 with h2 | ⟨g', cap', cur', hv, hb, hh', r⟩
  · exact .inl h2
  · injection hv with hv1 hv2 hv3
    injection hv1 with hv1
    injection hv1 with hv1
    subst hv1
    exact .inr ⟨g, cap', cur', by rw [hv3], hb, (ho.block g hgl fun hm => by have := hL g hm; omega).trans hh', r⟩
theorem RdO.top {w : World} {lo hi g cap : Nat} {f : List It × Nat} {fs : List (List It × Nat)} {v : Value × Value} {vs : List (Value × Value)} (h : RdO w lo hi g cap (f :: fs) (v :: vs)) :
    w.cell? ⟨g, fs.length * 2, none⟩ = some v.1 ∧ w.cell? ⟨g, fs.length * 2 + 1, none⟩ = some (.int .i64 f.2) ∧ w.frozen? ⟨g, fs.length * 2, none⟩ = false ∧ w.frozen? ⟨g, fs.length * 2 + 1, none⟩ = false := by
  obtain ⟨m, _, _, hf, hr⟩ := h.rds
  have hl := hr.length
  have hfl := flatV_length vs
  have e1 : ∀ j, (⟨g, 0, none⟩ : Addr).add j = ⟨g, j, none⟩ := by intro j; unfold Addr.add; split <;> simp_all
  obtain ⟨hb, hlt, _, _, cur, hh⟩ := h.block
  have h0 := h.row.cells (g := g) rfl (fs.length * 2) v.1 (by
    show (flatV vs ++ [v.1, v.2])[fs.length * 2]? = _
    rw [List.getElem?_append_right (by omega), show fs.length * 2 - (flatV vs).length = 0 from by omega]; rfl)
  have h1 := h.row.cells (g := g) rfl (fs.length * 2 + 1) v.2 (by
    show (flatV vs ++ [v.1, v.2])[fs.length * 2 + 1]? = _
    rw [List.getElem?_append_right (by omega), show fs.length * 2 + 1 - (flatV vs).length = 1 from by omega]; rfl)
  rw [e1] at h0 h1
  rw [hf.1] at h1
  exact ⟨h0, h1, frozen_at hh (.inl rfl), frozen_at hh (.inl rfl)⟩
theorem RdO.pop {w : World} {lo hi g cap : Nat} {f : List It × Nat} {fs : List (List It × Nat)} {v : Value × Value} {vs : List (Value × Value)} (h : RdO w lo hi g cap (f :: fs) (v :: vs)) :
    ∃ m, lo ≤ m ∧ m ≤ hi ∧ RdF w m hi f v ∧ RdO w lo m g cap fs vs := by
  obtain ⟨m, h1, h2, h3, h4⟩ := h.rds
  exact ⟨m, h1, h2, h3, ⟨ownsRow_pop (by rw [flatV_length, h4.length]) h.row, h4, Nat.le_trans h2 h.le⟩⟩
/-- What a list that is closed becomes. -/
theorem RdF.list {w : World} {m hi : Nat} {acc : List It} {en : Nat} {v : Value × Value} (h : RdF w m hi (acc, en) v) (hl : acc.length ≤ 9223372036854775807) :
    ∃ A cap, v.1 = .slice A acc.length cap ∧ acc.length ≤ cap ∧ cap ≤ 9223372036854775807 ∧ ∀ c, acc.length ≤ c → c ≤ 9223372036854775807 → ItS w (fun k => m ≤ k ∧ NoRd w k) (listIt acc) (.string ⟨#[]⟩) (.bool true) (.slice A acc.length c) := by
  obtain ⟨_, h2, cs, h3, h4⟩ := h
  rcases h3.2 with ⟨e1, e2⟩ | ⟨g, cap, cur, hv, hg, hh, hn, hm, _⟩
  · have e2 : acc.length = 0 := e2
    obtain rfl : acc = [] := List.eq_nil_of_length_eq_zero e2
    exact ⟨none, 0, e1, by simp, by simp, fun c _ hc => ⟨rfl, rfl, Nat.zero_le _, hl, none, c, rfl, Nat.zero_le _, hc, trivial⟩⟩
  · refine ⟨some ⟨g, 0, none⟩, cap, hv, hn, by simpa [maxLen] using hm, fun c hc1 hc2 => ⟨rfl, rfl, Nat.zero_le _, hl, some ⟨g, 0, none⟩, c, rfl, hc1, hc2, ?_⟩⟩
    refine ItsS.of_cells ⟨hg, NoRd.of_item hh (by decide)⟩ (h4.keep (fun k _ h => ⟨h.1, h.2.2.2⟩) (fun _ _ _ => rfl)) fun j u hu => ?_
    have hv' : v.1.ownBlock = some g := by rw [hv]; rfl
    have := h3.cells hv' j u hu
    have e1 : (⟨g, 0, none⟩ : Addr).add j = ⟨g, j, none⟩ := by unfold Addr.add; split <;> simp_all
    rw [e1] at this
    simpa using this
/-- One more list on top. -/
theorem RdO.push {w w' : World} {lo hi g cap g' cap' : Nat} {fs : List (List It × Nat)} {vs : List (Value × Value)} (h : RdO w lo hi g cap fs vs) (en : Nat)
    (hr : w'.ownsRow lo 182 2 (.slice (some ⟨g', 0, none⟩) (fs.length + 1) cap') (fs.length + 1) (flatV vs ++ [.slice none 0 0, .int .i64 en])) (hg : w.grownBy w' (some g)) (hlo : lo ≤ hi) :
    RdO w' lo w'.heap.size g' cap' (([], en) :: fs) ((.slice none 0 0, .int .i64 en) :: vs) := by
  obtain ⟨hgS, hgl, _, _, cur, hh⟩ := h.block
  refine ⟨hr, ⟨hi, hlo, Nat.le_trans h.le hg.size, ⟨rfl, (fun g hg => by cases hg), [], World.ownsRow_nil _ _ _ _, rfl⟩, h.rds.keep fun k _ _ hk hn => hg.block k hk ?_⟩, Nat.le_refl _⟩
  intro e
  injection e with e
  subst e
  exact hn _ _ hh
/-- The first one. -/
theorem RdO.first {w : World} {lo g cap : Nat} (en : Nat) (hr : w.ownsRow lo 182 2 (.slice (some ⟨g, 0, none⟩) 1 cap) 1 [.slice none 0 0, .int .i64 en]) (hlo : lo ≤ w.heap.size) : RdO w lo w.heap.size g cap [([], en)] [(.slice none 0 0, .int .i64 en)] :=
  ⟨hr, ⟨lo, Nat.le_refl _, hlo, ⟨rfl, (fun g hg => by cases hg), [], World.ownsRow_nil _ _ _ _, rfl⟩, trivial⟩, Nat.le_refl _⟩
/-- One more item in the top one. -/
theorem RdO.added {w w1 : World} {lo m hi g cap g' c' : Nat} {acc : List It} {en : Nat} {fs : List (List It × Nat)} {v0 v1 : Value} {vs : List (Value × Value)} {cs : List Value} {z0 z1 z2 c0 c1 c2 : Value} {y : It}
    (hrow : w.ownsRow lo 182 2 (.slice (some ⟨g, 0, none⟩) (fs.length + 1) cap) (fs.length + 1) (flatV ((v0, v1) :: vs))) (hle : hi ≤ w.heap.size) (hm1 : lo ≤ m) (hm2 : m ≤ hi) (hv1 : v1 = .int .i64 en) (hown : ∀ g, v0.ownBlock = some g → g < hi)
    (hr0 : w.ownsRow m 27 3 v0 acc.length cs) (hit : ItsAreS w (fun k => m ≤ k ∧ k < hi ∧ v0.ownBlock ≠ some k ∧ NoRd w k) acc cs) (hlow : RdL w lo m fs vs) (hy : ItS w (fun k => hi ≤ k ∧ NoRd w k) y c0 c1 c2)
    (hg : w.grownBy w1 v0.ownBlock) (hr1 : w1.ownsRow m 27 3 (.slice (some ⟨g', 0, none⟩) (acc.length + 1) c') (acc.length + 1) (cs ++ [z0, z1, z2])) (hat : v0.ownBlock = some g' ∨ w.heap.size ≤ g') :
    RdO ((((w1.setCell ⟨g', acc.length * 3, none⟩ c0).setCell ⟨g', acc.length * 3 + 1, none⟩ c1).setCell ⟨g', acc.length * 3 + 2, none⟩ c2).setCell ⟨g, fs.length * 2, none⟩ (.slice (some ⟨g', 0, none⟩) (acc.length + 1) c')) lo w1.heap.size g cap ((acc ++ [y], en) :: fs) ((.slice (some ⟨g', 0, none⟩) (acc.length + 1) c', v1) :: vs) := by
  have hl := hlow.length
  obtain ⟨hgS, hgl, hgc, hgm, cur, hh⟩ := ownsRow_block hrow
  have hcsl := hr0.1
  have hg0 : v0.ownBlock ≠ some g := by
    intro e
    rcases hr0.2 with ⟨e1, _⟩ | ⟨g2, cap2, cur2, hv2, _, hh2, _⟩
    · rw [e1] at e; cases e
    · rw [hv2] at e
      have : g2 = g := by simpa [Value.ownBlock] using e
      subst this
      rw [hh] at hh2
      injection hh2 with hh2
      injection hh2 with _ hh2
      exact absurd hh2 (by decide)
  have hg'g : g' ≠ g := by
    rcases hat with e | e
    · intro e2; exact hg0 (by rw [e, e2])
    · omega
  -- the row of items
  have hr2 := ownsRow_set (ownsRow_set (ownsRow_set hr1 (k := acc.length * 3) (by simp; omega) c0) (k := acc.length * 3 + 1) (by simp; omega) c1) (k := acc.length * 3 + 2) (by simp; omega) c2
  have hcs : (((cs ++ [z0, z1, z2]).set (acc.length * 3) c0).set (acc.length * 3 + 1) c1).set (acc.length * 3 + 2) c2 = cs ++ [c0, c1, c2] := by
    rw [← hcsl, List.set_append_right _ _ (by omega), List.set_append_right _ _ (by omega), List.set_append_right _ _ (by omega)]
    simp
  rw [hcs] at hr2
  -- what has turned
  have hblk : ∀ k, k < w.heap.size → v0.ownBlock ≠ some k → k ≠ g → ((((w1.setCell ⟨g', acc.length * 3, none⟩ c0).setCell ⟨g', acc.length * 3 + 1, none⟩ c1).setCell ⟨g', acc.length * 3 + 2, none⟩ c2).setCell ⟨g, fs.length * 2, none⟩ (.slice (some ⟨g', 0, none⟩) (acc.length + 1) c')).heap[k]? = w.heap[k]? := by
    intro k hk h1 h2
    have h3 : k ≠ g' := by
      rcases hat with e | e
      · intro e2; exact h1 (by rw [e, e2])
      · omega
    rw [setCell_block (by simpa using h2), setCell_block (by simpa using h3), setCell_block (by simpa using h3), setCell_block (by simpa using h3)]
    exact hg.block k hk (fun e => h1 e.symm)
  have hsz : ((((w1.setCell ⟨g', acc.length * 3, none⟩ c0).setCell ⟨g', acc.length * 3 + 1, none⟩ c1).setCell ⟨g', acc.length * 3 + 2, none⟩ c2).setCell ⟨g, fs.length * 2, none⟩ (.slice (some ⟨g', 0, none⟩) (acc.length + 1) c')).heap.size = w1.heap.size := by simp [World.setCell]
  have hwz := hg.size
  have hg1l : g' < w1.heap.size := (ownsRow_block hr1).2.1
  -- the row of readings
  have hR1 : w1.ownsRow lo 182 2 (.slice (some ⟨g, 0, none⟩) (fs.length + 1) cap) (fs.length + 1) (flatV ((v0, v1) :: vs)) := hrow.kept hg (.inr (by simp only [Value.ownBlock]; exact Ne.symm hg0))
  have hR2 := ownsRow_setCell_other (ownsRow_setCell_other (ownsRow_setCell_other hR1 (a := ⟨g', acc.length * 3, none⟩) (by simp [Value.ownBlock]; omega) c0) (a := ⟨g', acc.length * 3 + 1, none⟩) (by simp [Value.ownBlock]; omega) c1) (a := ⟨g', acc.length * 3 + 2, none⟩) (by simp [Value.ownBlock]; omega) c2
  have hR3 := ownsRow_set hR2 (k := fs.length * 2) (by rw [flatV_length]; simp; omega) (.slice (some ⟨g', 0, none⟩) (acc.length + 1) c')
  rw [flatV_set0 vs (v0, v1) _ _ (by omega)] at hR3
  refine ⟨hR3, ⟨m, hm1, by omega, ⟨hv1, ?_, cs ++ [c0, c1, c2], ?_, ?_⟩, ?_⟩, by rw [hsz]; exact Nat.le_refl _⟩
  · intro g2 hg2
    have : g' = g2 := by simpa [Value.ownBlock] using hg2
    omega
  · rw [List.length_append]
    exact ownsRow_setCell_other hr2 (a := ⟨g, fs.length * 2, none⟩) (by simp [Value.ownBlock]; exact hg'g) _
  · have hA : ∀ k, k < w.heap.size → (hi ≤ k ∧ NoRd w k) → (v0.ownBlock ≠ some k ∧ k ≠ g) := fun k hk hS => ⟨fun e => by have := hown _ e; omega, by rintro rfl; exact hS.2 _ _ hh⟩
    have hB : ∀ k, k < w.heap.size → (m ≤ k ∧ k < hi ∧ v0.ownBlock ≠ some k ∧ NoRd w k) → (v0.ownBlock ≠ some k ∧ k ≠ g) := fun k hk hS => ⟨hS.2.2.1, by rintro rfl; exact hS.2.2.2 _ _ hh⟩
    refine ItsAreS.snoc (ItS.keep (w := w) (S := fun k => hi ≤ k ∧ NoRd w k) (fun k hk hS => ?_) (fun p hp hS => ?_) y hy) (hit.keep (fun k hk hS => ?_) fun p hp hS => ?_)
    · refine ⟨by omega, by omega, ?_, hS.2.of_eq (hblk k hk (hA k hk hS).1 (hA k hk hS).2)⟩
      intro e
      have e : g' = k := by simpa [Value.ownBlock] using e
      rcases hat with e2 | e2
      · have := hown _ e2; omega
      · omega
    · exact World.cell?_of_block (hblk _ hp (hA _ hp hS).1 (hA _ hp hS).2)
    · refine ⟨hS.1, by omega, ?_, hS.2.2.2.of_eq (hblk k hk (hB k hk hS).1 (hB k hk hS).2)⟩
      intro e
      have e : g' = k := by simpa [Value.ownBlock] using e
      rcases hat with e2 | e2
      · exact hS.2.2.1 (by rw [e2, e])
      · omega
    · exact World.cell?_of_block (hblk _ hp (hB _ hp hS).1 (hB _ hp hS).2)
  · refine hlow.keep fun k h1 h2 h3 h4 => hblk k h3 (fun e => ?_) (by rintro rfl; exact h4 _ _ hh)
    rcases hr0.2 with ⟨e1, _⟩ | ⟨g2, cap2, cur2, hv2, hb2, _⟩
    · rw [e1] at e; cases e
    · rw [hv2] at e
      have : g2 = k := by simpa [Value.ownBlock] using e
      omega
end Go.Proofs.YtacikiambpfipaaDoor
