/- What bytes are split into, with the sizes: plain laws. No program in sight. -/
/- Slices of frames in memory: read, and grown. -/
/- Rows of frames that grow inside a round of a range over a function. -/
/- A row of frames, and a row of strings, that came in as an argument. -/
import Derived.Test.YtebllmpdlapefaaGreatDoorKA1
import Derived.Test.YtebllmpdlapefaaGreatDoorProg
import Derived.RangeFuncNested
import Derived.OwnWalkIn
import Derived.SliceStrings
namespace Go.Proofs.YtebllmpdlapefaaGreatDoor
set_option linter.unusedVariables false
set_option linter.unusedSimpArgs false

/-- What is told, with its size. -/
def frL {α : Type} (nx : Nx α) : Nat → ByteArray → List (α × Nat)
  | 0, _ => []
  | f + 1, s => if (nx s).1 = 0 then ((nx s).2.1, (nx s).2.2.1) :: frL nx f (s.extract (nx s).2.2.1 s.size) else []
def frs {α : Type} (nx : Nx α) (s : ByteArray) : List (α × Nat) := frL nx (s.size + 1) s
theorem frL_fuel {α : Type} {nx : Nx α} (h : NxOk nx) : ∀ (f g : Nat) (s : ByteArray), s.size < f → s.size < g → frL nx f s = frL nx g s
  | 0, _, _, hf, _ => absurd hf (by omega)
  | _, 0, _, _, hg => absurd hg (by omega)
  | f + 1, g + 1, s, hf, hg => by
    unfold frL
    by_cases h0 : (nx s).1 = 0
    · rw [if_pos h0, if_pos h0]
      obtain ⟨h1, h2⟩ := h.pos s h0
      have := rest_size s _ h1 h2
      rw [frL_fuel h f g _ (by omega) (by omega)]
    · rw [if_neg h0, if_neg h0]
theorem frs_go {α : Type} {nx : Nx α} (h : NxOk nx) {s : ByteArray} (h0 : (nx s).1 = 0) : frs nx s = ((nx s).2.1, (nx s).2.2.1) :: frs nx (s.extract (nx s).2.2.1 s.size) := by
  rw [frs, frL, if_pos h0]
  obtain ⟨h1, h2⟩ := h.pos s h0
  have := rest_size s _ h1 h2
  rw [frs, frL_fuel h s.size _ _ (by omega) (Nat.lt_succ_self _)]
theorem frs_stop {α : Type} {nx : Nx α} {s : ByteArray} (h0 : (nx s).1 ≠ 0) : frs nx s = [] := by rw [frs, frL, if_neg h0]
theorem frs_map {α : Type} {nx : Nx α} (h : NxOk nx) (s : ByteArray) : (frs nx s).map Prod.fst = (split nx s).1 := by
  induction s using split_ind h with
  | stop s h0 => rw [frs_stop h0, split_eq h s, if_neg h0]; rfl
  | go s h0 ih => rw [frs_go h h0, split_go h h0, List.map_cons, ih]; rfl
/-- How many bytes they have together. -/
def atL {α : Type} (l : List (α × Nat)) : Nat := (l.map Prod.snd).sum
theorem atL_snoc {α : Type} (l : List (α × Nat)) (x : α × Nat) : atL (l ++ [x]) = atL l + x.2 := by simp [atL]
theorem atL_cons {α : Type} (l : List (α × Nat)) (x : α × Nat) : atL (x :: l) = x.2 + atL l := by simp [atL]
theorem atL_app {α : Type} (a b : List (α × Nat)) : atL (a ++ b) = atL a + atL b := by simp [atL]
theorem frs_tail {α : Type} {nx : Nx α} (h : NxOk nx) (s : ByteArray) : atL (frs nx s) ≤ s.size ∧ (split nx s).2.1 = s.extract (atL (frs nx s)) s.size ∧ (frs nx s).length ≤ s.size := by
  induction s using split_ind h with
  | stop s h0 =>
    rw [frs_stop h0, split_eq h s, if_neg h0]
    refine ⟨by simp [atL], ?_, by simp⟩
    show s = s.extract 0 s.size
    rw [cut_all]
  | go s h0 ih =>
    obtain ⟨h1, h2⟩ := h.pos s h0
    obtain ⟨k1, k2, k3⟩ := ih
    have hz : (s.extract (nx s).2.2.1 s.size).size = s.size - (nx s).2.2.1 := size_cut _ _ _ (Nat.le_refl _)
    rw [frs_go h h0, atL_cons, split_go h h0]
    refine ⟨by simp only; omega, ?_, by rw [List.length_cons]; omega⟩
    show (split nx (s.extract (nx s).2.2.1 s.size)).2.1 = _
    rw [k2, hz, cut_cut _ _ _ _ (by omega)]
    congr 1
    omega
/-- The error by which they end, as it is told. -/
theorem split_end {α : Type} {nx : Nx α} (h : NxOk nx) (s : ByteArray) : (split nx s).2.2.2 = if (nx (split nx s).2.1).1 = 2 then 0 else (nx (split nx s).2.1).1 := by
  obtain ⟨h1, h2⟩ := split_tail h s
  by_cases h0 : (split nx s).2.2.2 = 0
  · rw [if_pos (h1 h0), h0]
  · obtain ⟨e, e2⟩ := h2 h0
    rw [e, if_neg e2]
end Go.Proofs.YtebllmpdlapefaaGreatDoor
namespace Go.Proofs.YtebllmpdlapefaaGreatDoor
set_option linter.unusedVariables false
set_option linter.unusedSimpArgs false
open Go.RowKit

def fcs (l : List Fr) : List Value := l.flatMap fun f => [.int .u64 f.id, .string f.nm, .string f.body]
theorem fcs_cons (f : Fr) (l : List Fr) : fcs (f :: l) = .int .u64 f.id :: .string f.nm :: .string f.body :: fcs l := by simp [fcs]
theorem fcs_append (a b : List Fr) : fcs (a ++ b) = fcs a ++ fcs b := by simp [fcs]
theorem fcs_one (f : Fr) : fcs [f] = [.int .u64 f.id, .string f.nm, .string f.body] := by simp [fcs]
theorem fcs_at : ∀ (l : List Fr) (j : Nat) (h : j < l.length), (fcs l)[j * 3]? = some (.int .u64 l[j].id) ∧ (fcs l)[j * 3 + 1]? = some (.string l[j].nm) ∧ (fcs l)[j * 3 + 2]? = some (.string l[j].body)
  | [], j, h => by simp at h
  | c :: l, 0, _ => by simp [fcs]
  | c :: l, j + 1, h => by
    have := fcs_at l j (by simpa using h)
    rw [fcs_cons, show (j + 1) * 3 = j * 3 + 3 from by omega]
    simpa using this
/-- The value is a slice that reads as these frames, in a block below B. -/
def FrR (w : World) (B : Nat) (v : Value) (l : List Fr) : Prop := ∃ A cap, v = .slice A l.length cap ∧ l.length ≤ cap ∧ cap ≤ 9223372036854775807 ∧ ∀ j (h : j < l.length), ∃ g o, A = some ⟨g, o, none⟩ ∧ g < B ∧ w.cell? ⟨g, o + j * 3, none⟩ = some (.int .u64 l[j].id) ∧ w.cell? ⟨g, o + j * 3 + 1, none⟩ = some (.string l[j].nm) ∧ w.cell? ⟨g, o + j * 3 + 2, none⟩ = some (.string l[j].body)
theorem FrR.keep {w w' : World} {B B' : Nat} {v : Value} {l : List Fr} (h : FrR w B v l) (hB : B ≤ B') (hk : ∀ p : Addr, p.block < B → w'.cell? p = w.cell? p) : FrR w' B' v l := by
  obtain ⟨A, cap, h1, h2, h3, h4⟩ := h
  refine ⟨A, cap, h1, h2, h3, fun j hj => ?_⟩
  obtain ⟨g, o, hA, hg, e0, e1, e2⟩ := h4 j hj
  exact ⟨g, o, hA, by omega, (hk _ hg).trans e0, (hk _ hg).trans e1, (hk _ hg).trans e2⟩
theorem FrR.below {w w' : World} {B : Nat} {v : Value} {l : List Fr} (h : FrR w B v l) (hb : Below B w w') : FrR w' B v l := h.keep (Nat.le_refl _) (fun _ hp => hb.cell hp)
theorem FrR.mono {w : World} {B B' : Nat} {v : Value} {l : List Fr} (h : FrR w B v l) (hB : B ≤ B') : FrR w B' v l := h.keep hB (fun _ _ => rfl)
theorem FrR.form' {w : World} {B : Nat} {v : Value} {l : List Fr} (h : FrR w B v l) : ∃ A n cap, v = .slice A n cap ∧ Hid (n = l.length) ∧ n ≤ cap ∧ cap ≤ 9223372036854775807 := by
  obtain ⟨A, cap, h1, h2, h3, _⟩ := h
  exact ⟨A, _, cap, h1, Lib.hid rfl, h2, h3⟩
theorem FrR.at_ {w : World} {B : Nat} {A : Option Addr} {n cap : Nat} {l : List Fr} (h : FrR w B (.slice A n cap) l) {j : Nat} (hj : j < l.length) : ∃ g o, A = some ⟨g, o, none⟩ ∧ g < B ∧ w.cell? ⟨g, o + j * 3, none⟩ = some (.int .u64 l[j].id) ∧ w.cell? ⟨g, o + j * 3 + 1, none⟩ = some (.string l[j].nm) ∧ w.cell? ⟨g, o + j * 3 + 2, none⟩ = some (.string l[j].body) := by
  obtain ⟨A', cap', h1, h2, h3, h4⟩ := h
  injection h1 with hA _ _
  subst hA
  exact h4 j hj
theorem FrR.nil (w : World) (B : Nat) : FrR w B (.slice none 0 0) [] := ⟨none, 0, rfl, by simp, by simp, fun j hj => by simp at hj⟩
/-- A part of them. -/
theorem FrR.part {w : World} {B : Nat} {g o n cap c' : Nat} {l : List Fr} (h : FrR w B (.slice (some ⟨g, o, none⟩) n cap) l) (i j : Nat) (hij : i ≤ j) (hj : j ≤ l.length) (hc : j - i ≤ c') (hc' : c' ≤ 9223372036854775807) : FrR w B (.slice (some ⟨g, o + i * 3, none⟩) (j - i) c') ((l.drop i).take (j - i)) := by
  have hl : ((l.drop i).take (j - i)).length = j - i := by rw [List.length_take, List.length_drop]; omega
  refine ⟨some ⟨g, o + i * 3, none⟩, c', by rw [hl], by rw [hl]; exact hc, hc', fun k hk => ?_⟩
  rw [hl] at hk
  obtain ⟨g', o', hA, hg, e0, e1, e2⟩ := h.at_ (j := i + k) (by omega)
  injection hA with hA
  injection hA with hA hA2
  subst hA; subst hA2
  have he : ((l.drop i).take (j - i))[k] = l[i + k] := by rw [List.getElem_take, List.getElem_drop]
  rw [he]
  exact ⟨g, _, rfl, hg, by rw [show o + i * 3 + k * 3 = o + (i + k) * 3 from by omega]; exact ⟨e0, e1, e2⟩⟩
/-- A row of the call's own, from block lo on. -/
abbrev FrO (w : World) (lo : Nat) (v : Value) (l : List Fr) : Prop := w.ownsRow lo 27 3 v l.length (fcs l)
theorem FrO.nil (w : World) (lo : Nat) : FrO w lo (.slice none 0 0) [] := ⟨rfl, .inl ⟨rfl, rfl⟩⟩
theorem FrO.form' {w : World} {lo : Nat} {v : Value} {l : List Fr} (h : FrO w lo v l) : ∃ A n cap, v = .slice A n cap ∧ Hid (n = l.length) ∧ n ≤ cap ∧ cap ≤ 9223372036854775807 := by
  rcases h.2 with ⟨h2, h3⟩ | ⟨g', cap', cur, hv, hb, hh, hn, hm, hs, ht⟩
  · exact ⟨none, 0, 0, h2, Lib.hid h3.symm, by omega, by simp⟩
  · exact ⟨_, _, cap', hv, Lib.hid rfl, hn, by simpa [maxLen] using hm⟩
theorem FrO.read {w : World} {lo : Nat} {v : Value} {l : List Fr} (h : FrO w lo v l) : FrR w w.heap.size v l := by
  obtain ⟨h1, h2⟩ := h
  rcases h2 with ⟨h2, h3⟩ | ⟨g, cap, cur, hv, hg, hh, hn, hm, hs, ht⟩
  · obtain rfl : l = [] := List.eq_nil_of_length_eq_zero h3
    rw [h2]; exact FrR.nil _ _
  · refine ⟨_, cap, hv, hn, by simpa [maxLen] using hm, fun j hj => ?_⟩
    have hc := fcs_at l j hj
    have key : ∀ i u, (fcs l)[i]? = some u → w.cell? ⟨g, i, none⟩ = some u := by
      intro i u hu
      have hlt : i < l.length * 3 := by
        have := (List.getElem?_eq_some_iff.1 hu).1
        rw [h1] at this; exact this
      rw [← ht, List.getElem?_take_of_lt (by omega)] at hu
      simp only [World.cell?, hh]
      simpa using hu
    exact ⟨g, 0, rfl, lt_of_block hh, by rw [Nat.zero_add]; exact ⟨key _ _ hc.1, key _ _ hc.2.1, key _ _ hc.2.2⟩⟩
theorem FrO.keep {w w' : World} {lo : Nat} {v : Value} {l : List Fr} (h : FrO w lo v l) (hk : ∀ k, lo ≤ k → k < w.heap.size → w'.heap[k]? = w.heap[k]?) : FrO w' lo v l := by
  refine ⟨h.1, ?_⟩
  rcases h.2 with h2 | ⟨g, cap, cur, hv, hb, hh, r⟩
  · exact .inl h2
  · exact .inr ⟨g, cap, cur, hv, hb, (hk g hb (lt_of_block hh)).trans hh, r⟩
theorem FrO.below {w w' : World} {lo : Nat} {v : Value} {l : List Fr} (h : FrO w lo v l) (hb : Below w.heap.size w w') : FrO w' lo v l := h.keep fun k _ h2 => hb.block k h2
theorem FrO.only {L : List Nat} {w w' : World} {lo : Nat} {v : Value} {l : List Fr} (h : FrO w lo v l) (ho : Only L w w') (hL : ∀ g, g ∈ L → g < lo) : FrO w' lo v l := h.keep fun k h1 h2 => ho.block k h2 (fun hm => by have := hL k hm; omega)
theorem FrO.ge {w : World} {lo : Nat} {v : Value} {l : List Fr} (h : FrO w lo v l) : ∀ g, v.ownBlock = some g → lo ≤ g ∧ g < w.heap.size := by
  intro g hg
  rcases h.2 with ⟨e1, e2⟩ | ⟨g', cap, cur, hv, hb, hh, _⟩
  · rw [e1] at hg; cases hg
  · rw [hv] at hg
    have : g' = g := by simpa [Value.ownBlock] using hg
    subst this
    exact ⟨hb, lt_of_block hh⟩
theorem info_frame : (Tryz.prog.info? 27).map (fun i => (i.zero, i.size, i.bytes)) = some (some (.agg #[.int .u64 0, .string ⟨#[]⟩, .string ⟨#[]⟩]), 3, 40) := by kernel_rfl
theorem add_at (g j : Nat) : (⟨g, 0, none⟩ : Addr).add j = ⟨g, j, none⟩ := by unfold Addr.add; split <;> simp_all
theorem add_off (g o j : Nat) : (⟨g, o, none⟩ : Addr).add j = ⟨g, o + j, none⟩ := by unfold Addr.add; split <;> simp_all
/-- append(l, f). -/
theorem wpList_append_frame {w : World} {ops : Array Oper} {rest : List Oper} {o : Oper} {a : Act} {Q : Exit → Act → World → Prop} (hgd : o.guard = none) (s x : Operand)
    (ho : o.op = .call { callee := .builtin .append, args := #[s, x], argTypes := #[51, 51] }) (lo : Nat) (acc : List Fr) {v : Value} (hs : a.eval s = v) (hacc : FrO w lo v acc) (y : Fr)
    (g : Nat) (hx : a.eval x = .slice (some ⟨g, 0, none⟩) 1 1) (hg0 : w.cell? ⟨g, 0, none⟩ = some (.int .u64 y.id)) (hg1 : w.cell? ⟨g, 1, none⟩ = some (.string y.nm)) (hg2 : w.cell? ⟨g, 2, none⟩ = some (.string y.body))
    (hlen : acc.length ≤ 1000000) (hlo : lo ≤ w.heap.size)
    (hK : ∀ g' n' cap w', Hid (n' = (acc ++ [y]).length) → FrO w' lo (.slice (some ⟨g', 0, none⟩) n' cap) (acc ++ [y]) → w.grownBy w' v.ownBlock → lo ≤ g' → wpList Tryz.prog ops Q rest (a.put o.dst (.slice (some ⟨g', 0, none⟩) n' cap)) w') : wpList Tryz.prog ops Q (o :: rest) a w := by
  obtain ⟨i0, hi, hz0, hz1, hz2⟩ := info_parts info_frame
  refine wpList_append_lies w hgd s x 51 ho lo 27 i0 _ 3 40 Tryz.underlying51 hi hz0 hz1 hz2 rfl (by decide) v acc.length (fcs acc) hs hacc ⟨g, 0, none⟩ 1 1 (fcs [y]) hx rfl ?_ (by simp [fcs_one, Value.oneCell']) (by decide) (by simp only [maxLen]; omega) (by omega) hlo w.heap.size rfl ?_
  · intro j u hu
    rw [add_at]
    rw [fcs_one] at hu
    match j, hu with
    | 0, hu => simp at hu; subst hu; exact hg0
    | 1, hu => simp at hu; subst hu; exact hg1
    | 2, hu => simp at hu; subst hu; exact hg2
  · intro g' cap w' ho' hgr hat hlt
    have e : (acc ++ [y]).length = acc.length + 1 := by simp
    have hf : FrO w' lo (.slice (some ⟨g', 0, none⟩) (acc.length + 1) cap) (acc ++ [y]) := by rw [FrO, fcs_append, e]; exact ho'
    exact hK g' _ cap w' (Lib.hid e.symm) (by simpa using hf) hgr (hf.ge g' rfl).1
end Go.Proofs.YtebllmpdlapefaaGreatDoor
namespace Go.Proofs.YtebllmpdlapefaaGreatDoor
set_option linter.unusedVariables false
set_option linter.unusedSimpArgs false
open Go.RowKit

theorem FrO.grown {w w' : World} {lo : Nat} {v : Value} {l : List Fr} {row : Option Nat} (h : FrO w lo v l) (hg : w.grownBy w' row) (hr : ∀ r, row = some r → r < lo ∨ ∃ o : Obj, w.heap[r]? = some o ∧ o.isCells = false) : FrO w' lo v l := by
  refine ⟨h.1, ?_⟩
  rcases h.2 with h2 | ⟨g, cap, cur, hv, hb, hh, r⟩
  · exact .inl h2
  · refine .inr ⟨g, cap, cur, hv, hb, (hg.block g (lt_of_block hh) (fun e => ?_)).trans hh, r⟩
    rcases hr g e.symm with h1 | ⟨o, h1, h2⟩
    · omega
    · rw [hh] at h1; injection h1 with h1; subst h1; cases h2
theorem FrO.lower {w : World} {lo lo' : Nat} {v : Value} {l : List Fr} (h : FrO w lo v l) (hl : lo' ≤ lo) : FrO w lo' v l := by
  refine ⟨h.1, ?_⟩
  rcases h.2 with h2 | ⟨g, cap, cur, hv, hb, r⟩
  · exact .inl h2
  · exact .inr ⟨g, cap, cur, hv, by omega, r⟩
theorem FrO.iscells {w : World} {lo j : Nat} {v : Value} {l : List Fr} {o : Obj} (h : FrO w lo v l) (e : v.ownBlock = some j) (ho : w.heap[j]? = some o) : o.isCells = true := by
  rcases h.2 with ⟨h2, h3⟩ | ⟨g', cap', cur, hv, hb, hh, _⟩
  · rw [h2] at e; cases e
  · rw [hv] at e
    have : g' = j := by simpa [Value.ownBlock] using e
    subst this
    rw [hh] at ho
    injection ho with ho
    subst ho
    rfl
theorem blk_grown {w w' : World} {g : Nat} {t : TypeId} {cs : Array Value} {row : Option Nat} (h : Blk w g t cs) (hg : w.grownBy w' row) (hn : row ≠ some g) : Blk w' g t cs := (hg.block g h.lt (fun e => hn e.symm)).trans h
/-- append(l, f) inside a round. -/
theorem wpListIn_append_frame {F : Fence} {n : Nat} {w : World} {ops : Array Oper} {rest : List Oper} {o : Oper} {a : Act} {Q : Exit → Act → World → Prop} (hgd : o.guard = none) (s x : Operand)
    (ho : o.op = .call { callee := .builtin .append, args := #[s, x], argTypes := #[51, 51] }) (lo : Nat) (acc : List Fr) {v : Value} (hs : a.eval s = v) (hacc : FrO w lo v acc) (y : Fr)
    (g : Nat) (hx : a.eval x = .slice (some ⟨g, 0, none⟩) 1 1) (hg0 : w.cell? ⟨g, 0, none⟩ = some (.int .u64 y.id)) (hg1 : w.cell? ⟨g, 1, none⟩ = some (.string y.nm)) (hg2 : w.cell? ⟨g, 2, none⟩ = some (.string y.body))
    (hlen : acc.length ≤ 1000000) (hlo : lo ≤ w.heap.size)
    (hK : ∀ A' n' cap w', Hid (n' = (acc ++ [y]).length) → FrO w' lo (.slice A' n' cap) (acc ++ [y]) → w.grownBy w' v.ownBlock → wpListIn F n Tryz.prog ops Q rest (a.put o.dst (.slice A' n' cap)) w') : wpListIn F n Tryz.prog ops Q (o :: rest) a w := by
  obtain ⟨i0, hi, hz0, hz1, hz2⟩ := info_parts info_frame
  refine wpListIn_append_own w hgd s x 51 ho lo 27 i0 _ 3 40 Tryz.underlying51 hi hz0 hz1 hz2 rfl (by decide) v acc.length (fcs acc) hs hacc ⟨g, 0, none⟩ 1 1 (fcs [y]) hx (by simp [fcs_one]) ?_ (by simp [fcs_one, Value.oneCell']) (by simp only [maxLen]; omega) (by omega) hlo ?_
  · intro j u hu
    rw [add_at]
    rw [fcs_one] at hu
    match j, hu with
    | 0, hu => simp at hu; subst hu; exact hg0
    | 1, hu => simp at hu; subst hu; exact hg1
    | 2, hu => simp at hu; subst hu; exact hg2
  · intro v' w' ho' hgr _
    have e : (acc ++ [y]).length = acc.length + 1 := by simp
    have hf : FrO w' lo v' (acc ++ [y]) := by rw [FrO, fcs_append, e]; exact ho'
    obtain ⟨A, n', cap, rfl, hn, _, _⟩ := hf.form'
    exact hK A n' cap w' hn hf hgr
end Go.Proofs.YtebllmpdlapefaaGreatDoor
namespace Go.Proofs.YtebllmpdlapefaaGreatDoor
set_option linter.unusedVariables false
set_option linter.unusedSimpArgs false
open Go.ChangeShapes Go.WideShapes Go.ChangeAt Go.RowKit

theorem list_of_all {α : Type} (Q : Nat → α → Prop) : ∀ n, (∀ i, i < n → ∃ y, Q i y) → ∃ l : List α, l.length = n ∧ ∀ i (h : i < l.length), Q i l[i]
  | 0, _ => ⟨[], rfl, by simp⟩
  | n + 1, h => by
    obtain ⟨l, h1, h2⟩ := list_of_all Q n fun i hi => h i (by omega)
    obtain ⟨y, hy⟩ := h n (by omega)
    refine ⟨l ++ [y], by simp [h1], fun i hi => ?_⟩
    by_cases hc : i < l.length
    · rw [List.getElem_append_left hc]; exact h2 i hc
    · have : i = n := by simp at hi; omega
      subst this
      rw [List.getElem_append_right (by omega)]
      simpa [h1] using hy
theorem three_cells {w : World} {base : Nat} {a : Addr} {cs : List Value} (h : w.cells? base a 3 = some cs) : ∃ c0 c1 c2, cs = [c0, c1, c2] ∧ w.cell? a = some c0 ∧ w.cell? (a.add 1) = some c1 ∧ w.cell? (a.add 2) = some c2 := by
  unfold World.cells? at h
  split at h
  · have e : List.range 3 = [0, 1, 2] := rfl
    rw [e] at h
    simp only [List.mapM_cons, List.mapM_nil, Option.bind_eq_bind, Option.pure_def, Option.bind_eq_some_iff] at h
    obtain ⟨c0, h0, r, ⟨c1, h1, r2, ⟨c2, h2, r3, h3, h4⟩, h5⟩, h6⟩ := h
    simp at h3 h4 h5 h6
    subst h3; subst h4; subst h5; subst h6
    exact ⟨c0, c1, c2, rfl, by simpa [Addr.add] using h0, h1, h2⟩
  · cases h
theorem no_spot {w : World} {a : Addr} {v : Value} (h : w.cell? a = some v) : a.spot = none := by
  unfold World.cell? at h
  split at h
  · split at h
    · cases h
    · rename_i hs; simpa using hs
  · cases h
theorem cell_lt {w : World} {p : Addr} {v : Value} (h : w.cell? p = some v) : p.block < w.heap.size := by
  rcases Nat.lt_or_ge p.block w.heap.size with h' | h'
  · exact h'
  · simp [World.cell?, Array.getElem?_eq_none h'] at h
theorem cellsOf_frs : Tryz.prog.cellsOf 51 = 1 := by kernel_rfl
set_option maxRecDepth 100000 in
theorem open_frs {H : Type} {enc : TypeId × Value → H} {w : World} {base : Nat} {spare : Nat → Bool} {held : Bool} (fuel : Nat) (cs : List Value) (x : DataW H × List MemPlace) (h : DataW.trod enc Tryz.prog w base spare held fuel 51 cs = some x) :
    ∃ (l : List Fr) (v : Value), cs = [v] ∧ FrR w w.heap.size v l ∧ ∀ f ∈ l, f.ok := by
  rcases DataW.trod_slice Tryz.underlying51 h with ⟨e2, _⟩ | ⟨a, len, cap, elems, rest, m, rfl, e2, _, hb, hlc, hcm, hel, hat, _, _⟩
  · exact ⟨[], _, e2, FrR.nil _ _, by simp⟩
  · have key : ∀ i, i < len → ∃ y : Fr, a.spot = none ∧ w.cell? ⟨a.block, a.off + i * 3, none⟩ = some (.int .u64 y.id) ∧ w.cell? ⟨a.block, a.off + i * 3 + 1, none⟩ = some (.string y.nm) ∧ w.cell? ⟨a.block, a.off + i * 3 + 2, none⟩ = some (.string y.body) ∧ y.ok := by
      have first : ∀ i, i < len → ∃ cs', w.cells? base (a.add (i * 3)) 3 = some cs' ∧ ∃ z, DataW.trod enc Tryz.prog w base spare held m 27 cs' = some z := by
        intro i hi
        have h3 := hat i hi
        rw [cellsOf_frame, List.getElem?_eq_getElem (by omega)] at h3
        rw [Option.bind_eq_some_iff] at h3
        obtain ⟨cs', h4, h5⟩ := h3
        exact ⟨cs', h4, _, h5⟩
      have hsp : 0 < len → a.spot = none := by
        intro h0
        obtain ⟨cs', h4, _⟩ := first 0 h0
        obtain ⟨d0, _, _, _, h5, _⟩ := three_cells h4
        have h5 : w.cell? a = some d0 := by simpa [Addr.add] using h5
        exact no_spot h5
      intro i hi
      obtain ⟨cs', h4, z, h5⟩ := first i hi
      obtain ⟨d0, d1, d2, rfl, g0, g1, g2⟩ := three_cells h4
      obtain ⟨y, hk, hok⟩ := open_fr m _ _ h5
      simp at hk
      obtain ⟨rfl, rfl, rfl⟩ := hk
      have hs := hsp (by omega)
      have e1 : ∀ j, (a.add (i * 3)).add j = ⟨a.block, a.off + i * 3 + j, none⟩ := by
        intro j
        obtain ⟨ab, ao, asp⟩ := a
        simp only at hs
        subst hs
        unfold Addr.add
        split <;> split <;> simp_all
      have e0 := e1 0
      rw [show (a.add (i * 3)).add 0 = a.add (i * 3) from by simp [Addr.add]] at e0
      rw [e0] at g0
      rw [e1] at g1 g2
      exact ⟨y, hs, g0, g1, g2, hok⟩
    obtain ⟨s, hs1, hs2⟩ := list_of_all _ len key
    subst hs1
    refine ⟨s, _, e2, ⟨some a, cap, rfl, hlc, by simpa [maxLen] using hcm, fun j hj => ?_⟩, fun f hf => ?_⟩
    · obtain ⟨hsp, g0, g1, g2, _⟩ := hs2 j hj
      refine ⟨a.block, a.off, ?_, (by have := cell_lt g0; simpa using this), by simpa using g0, by simpa using g1, by simpa using g2⟩
      obtain ⟨ab, ao, asp⟩ := a
      simp only at hsp
      subst hsp
      rfl
    · obtain ⟨j, hj, rfl⟩ := List.mem_iff_getElem.1 hf
      exact (hs2 j hj).2.2.2.2
set_option maxRecDepth 100000 in
theorem open_frs' {H : Type} {enc : TypeId × Value → H} {w : World} {base b0 : Nat} {r : Reach} {spare : Nat → Bool} {held : Bool} {v : Value} {d : DataW H} {ps : List MemPlace} (hval : Value.okWide Tryz.prog w r b0 51 v) (hd : DataW.Trod enc Tryz.prog w base spare held 51 v d ps) :
    ∃ (l : List Fr) (u : Value), v = u ∧ FrR w w.heap.size u l ∧ ∀ f ∈ l, f.ok := by
  obtain ⟨A, n, cap, rfl⟩ := okWide_slice Tryz.underlying51 hval
  obtain ⟨fuel, hf⟩ := hd
  obtain ⟨l, u, hc, hin, hok⟩ := open_frs fuel _ _ hf
  simp [Value.cells] at hc
  subst hc
  exact ⟨l, _, rfl, hin, hok⟩
/-- The value is a slice that reads as these strings, in a block below B. -/
def StR (w : World) (B : Nat) (v : Value) (l : List ByteArray) : Prop := ∃ A cap, v = .slice A l.length cap ∧ l.length ≤ cap ∧ cap ≤ 9223372036854775807 ∧ ∀ j (h : j < l.length), ∃ g o, A = some ⟨g, o, none⟩ ∧ g < B ∧ w.cell? ⟨g, o + j, none⟩ = some (.string l[j])
theorem StR.keep {w w' : World} {B B' : Nat} {v : Value} {l : List ByteArray} (h : StR w B v l) (hB : B ≤ B') (hk : ∀ p : Addr, p.block < B → w'.cell? p = w.cell? p) : StR w' B' v l := by
  obtain ⟨A, cap, h1, h2, h3, h4⟩ := h
  refine ⟨A, cap, h1, h2, h3, fun j hj => ?_⟩
  obtain ⟨g, o, hA, hg, e0⟩ := h4 j hj
  exact ⟨g, o, hA, by omega, (hk _ hg).trans e0⟩
theorem StR.below {w w' : World} {B : Nat} {v : Value} {l : List ByteArray} (h : StR w B v l) (hb : Below B w w') : StR w' B v l := h.keep (Nat.le_refl _) (fun _ hp => hb.cell hp)
theorem StR.form' {w : World} {B : Nat} {v : Value} {l : List ByteArray} (h : StR w B v l) : ∃ A n cap, v = .slice A n cap ∧ Hid (n = l.length) ∧ n ≤ cap ∧ cap ≤ 9223372036854775807 := by
  obtain ⟨A, cap, h1, h2, h3, _⟩ := h
  exact ⟨A, _, cap, h1, Lib.hid rfl, h2, h3⟩
theorem StR.at_ {w : World} {B : Nat} {A : Option Addr} {n cap : Nat} {l : List ByteArray} (h : StR w B (.slice A n cap) l) {j : Nat} (hj : j < l.length) : ∃ g o, A = some ⟨g, o, none⟩ ∧ g < B ∧ w.cell? ⟨g, o + j, none⟩ = some (.string l[j]) := by
  obtain ⟨A', cap', h1, h2, h3, h4⟩ := h
  injection h1 with hA _ _
  subst hA
  exact h4 j hj
set_option maxRecDepth 100000 in
theorem open_strs' {H : Type} {enc : TypeId × Value → H} {w : World} {base b0 : Nat} {r : Reach} {held : Bool} {v : Value} {d : DataW H} {ps : List MemPlace} (hval : Value.okWide Tryz.prog w r b0 64 v) (hd : DataW.Trod enc Tryz.prog w base (fun _ => true) held 64 v d ps) :
    ∃ (l : List ByteArray) (u : Value), v = u ∧ StR w w.heap.size u l ∧ ∀ s ∈ l, s.size ≤ 9223372036854775807 := by
  obtain ⟨A, n, cap, rfl⟩ := okWide_slice Tryz.underlying64 hval
  obtain ⟨fuel, hf⟩ := hd
  rcases open_strings Tryz.underlying64 Tryz.underlying9 cellsOf_cstr hf with ⟨hc, _⟩ | ⟨a, len, cap', ss, hc, hb, hlc, hcm, hsl, _, hat, hall⟩
  · simp [Value.cells] at hc
    obtain ⟨rfl, rfl, rfl⟩ := hc
    exact ⟨[], _, rfl, ⟨none, 0, rfl, by simp, by simp, fun j hj => by simp at hj⟩, by simp⟩
  · simp [Value.cells] at hc
    obtain ⟨rfl, rfl, rfl⟩ := hc
    rw [if_pos rfl] at hsl
    have hl : (ss.take n).length = n := by rw [List.length_take]; omega
    refine ⟨ss.take n, _, rfl, ⟨some a, cap, by rw [hl], by omega, by simpa [maxLen] using hcm, fun j hj => ?_⟩, fun s hs => by simpa [maxLen] using hall s (List.mem_of_mem_take hs)⟩
    rw [hl] at hj
    have h1 := hat j (by omega)
    rw [List.getD_eq_getElem?_getD, List.getElem?_eq_getElem (by omega), Option.getD_some] at h1
    obtain ⟨ab, ao, asp⟩ := a
    have h2 : asp = none := by
      have h0 := hat 0 (by omega)
      rw [show (⟨ab, ao, asp⟩ : Addr).add 0 = ⟨ab, ao, asp⟩ from by simp [Addr.add]] at h0
      exact no_spot h0
    subst h2
    refine ⟨ab, ao, rfl, ?_, ?_⟩
    · have := cell_lt h1
      unfold Addr.add at this
      split at this <;> simpa using this
    · rw [add_off] at h1
      rw [h1, List.getElem_take]
end Go.Proofs.YtebllmpdlapefaaGreatDoor
