/- sha.mix: the boxes between two rounds. -/
import Derived.Test.YtebllmpdlapefaaGreatDoorKA3
import Derived.Test.YtebllmpdlapefaaGreatDoorKA13
namespace Go.Proofs.YtebllmpdlapefaaGreatDoor
set_option linter.unusedVariables false
set_option linter.unusedSimpArgs false
open Go.RowKit Go.Shelf

/-- What lies in memory: the words' boxes, the state, the result, the constants' closure. -/
structure MixAt (w : World) (b : Nat) (p : Nat → Nat) (s t : Sh) (W : World) : Prop where
  box : ∀ j, j < 8 → Blk W (p j) 22 #[u32v (t.list.getD j 0)]
  sta : Blk W b 30 #[.int .u32 s.a, .int .u32 s.b, .int .u32 s.c, .int .u32 s.d, .int .u32 s.e, .int .u32 s.f, .int .u32 s.g, .int .u32 s.h]
  res : Blk W (b + 1) 30 #[.int .u32 0, .int .u32 0, .int .u32 0, .int .u32 0, .int .u32 0, .int .u32 0, .int .u32 0, .int .u32 0]
  fn : Blk W (b + 1 + 1) 192 #[.func (.func 169) #[] #[]]
  only : Only [] w W
theorem MixAt.keep {w : World} {b : Nat} {p : Nat → Nat} {s t : Sh} {W W' : World} {B : Nat} (h : MixAt w b p s t W) (hb : Below B W W') (hp : ∀ j, j < 8 → p j < B) (hB : b + 2 < B) (hw : w.heap.size ≤ B) : MixAt w b p s t W' where
  box := fun j hj => (hb.block _ (hp j hj)).trans (h.box j hj)
  sta := (hb.block _ (by omega)).trans h.sta
  res := (hb.block _ (by omega)).trans h.res
  fn := (hb.block _ (by omega)).trans h.fn
  only := ⟨hb.os.trans h.only.os, hb.tape.trans h.only.tape, hb.output.trans h.only.output, Nat.le_trans h.only.size hb.size, fun k hk hn => (hb.block k (by omega)).trans (h.only.block k hk hn)⟩
def boxes (p : Nat → Nat) : List Nat := [p 0, p 1, p 2, p 3, p 4, p 5, p 6, p 7]
theorem boxes_mem {p : Nat → Nat} {k : Nat} (h : k ∈ boxes p) : ∃ j, j < 8 ∧ k = p j := by
  simp only [boxes, List.mem_cons, List.not_mem_nil, or_false] at h
  rcases h with h | h | h | h | h | h | h | h
  · exact ⟨0, by omega, h⟩
  · exact ⟨1, by omega, h⟩
  · exact ⟨2, by omega, h⟩
  · exact ⟨3, by omega, h⟩
  · exact ⟨4, by omega, h⟩
  · exact ⟨5, by omega, h⟩
  · exact ⟨6, by omega, h⟩
  · exact ⟨7, by omega, h⟩
theorem mem_boxes (p : Nat → Nat) (j : Nat) (h : j < 8) : p j ∈ boxes p := by
  have : j = 0 ∨ j = 1 ∨ j = 2 ∨ j = 3 ∨ j = 4 ∨ j = 5 ∨ j = 6 ∨ j = 7 := by omega
  rcases this with rfl | rfl | rfl | rfl | rfl | rfl | rfl | rfl <;> simp [boxes]
def putAll (W : World) (p : Nat → Nat) (t : Sh) : World :=
  (((((((W.setCell ⟨p 0, 0, none⟩ (u32v t.a)).setCell ⟨p 1, 0, none⟩ (u32v t.b)).setCell ⟨p 2, 0, none⟩ (u32v t.c)).setCell ⟨p 3, 0, none⟩ (u32v t.d)).setCell ⟨p 4, 0, none⟩ (u32v t.e)).setCell ⟨p 5, 0, none⟩ (u32v t.f)).setCell ⟨p 6, 0, none⟩ (u32v t.g)).setCell ⟨p 7, 0, none⟩ (u32v t.h)
theorem putAll_only (W : World) (p : Nat → Nat) (t : Sh) : Only (boxes p) W (putAll W p t) := by
  unfold putAll
  have h := fun j hj => mem_boxes p j hj
  exact ((((((((Only.refl (boxes p) W).setCell (.inl (h 0 (by omega))) _).setCell (.inl (h 1 (by omega))) _).setCell (.inl (h 2 (by omega))) _).setCell (.inl (h 3 (by omega))) _).setCell (.inl (h 4 (by omega))) _).setCell (.inl (h 5 (by omega))) _).setCell (.inl (h 6 (by omega))) _).setCell (.inl (h 7 (by omega))) _
theorem putAll_at {W : World} {p : Nat → Nat} {t u : Sh} (h : ∀ j, j < 8 → Blk W (p j) 22 #[u32v (t.list.getD j 0)]) (hne : ∀ i j, i < 8 → j < 8 → i ≠ j → p i ≠ p j) : ∀ j, j < 8 → Blk (putAll W p u) (p j) 22 #[u32v (u.list.getD j 0)] := by
  intro j hj
  unfold putAll
  have key : ∀ (k : Nat) (v : Value) (X : World) (c : Value), k < 8 → Blk X (p j) 22 #[c] → Blk (X.setCell ⟨p k, 0, none⟩ v) (p j) 22 #[if j = k then v else c] := by
    intro k v X c hk hX
    by_cases e : j = k
    · subst e; rw [if_pos rfl]; exact hX.set 0 v
    · rw [if_neg e]; exact hX.far (hne j k hj hk e) v
  have := key 7 (u32v u.h) _ _ (by omega) (key 6 (u32v u.g) _ _ (by omega) (key 5 (u32v u.f) _ _ (by omega) (key 4 (u32v u.e) _ _ (by omega) (key 3 (u32v u.d) _ _ (by omega) (key 2 (u32v u.c) _ _ (by omega) (key 1 (u32v u.b) _ _ (by omega) (key 0 (u32v u.a) _ _ (by omega) (h j hj))))))))
  have hj8 : j = 0 ∨ j = 1 ∨ j = 2 ∨ j = 3 ∨ j = 4 ∨ j = 5 ∨ j = 6 ∨ j = 7 := by omega
  rcases hj8 with rfl | rfl | rfl | rfl | rfl | rfl | rfl | rfl <;> exact this
theorem MixAt.put {w : World} {b : Nat} {p : Nat → Nat} {s t : Sh} {W : World} (h : MixAt w b p s t W) (u : Sh) (hp : ∀ j, j < 8 → b + 2 < p j) (hw : ∀ j, j < 8 → w.heap.size ≤ p j) (hne : ∀ i j, i < 8 → j < 8 → i ≠ j → p i ≠ p j) : MixAt w b p s u (putAll W p u) := by
  have ho := putAll_only W p u
  have hn : ∀ k, k ≤ b + 2 → k ∉ boxes p := fun k hk hm => by obtain ⟨j, hj, rfl⟩ := boxes_mem hm; have := hp j hj; omega
  exact ⟨putAll_at h.box hne, h.sta.only ho (hn _ (by omega)), h.res.only ho (hn _ (by omega)), h.fn.only ho (hn _ (by omega)), h.only.trans' ho fun i hi => .inr (by obtain ⟨j, hj, rfl⟩ := boxes_mem hi; exact hw j hj)⟩
theorem Calls.quiet_of_same' {P : Program} {f : FuncId} {args : Array Value} {w : World} {n : Nat} {v : Value} (h : Calls P f args (w.drewN n) fun e w' => e = .returned v ∧ w.drewN n = w') : Calls P f args (w.drewN n) fun e w'' => e = .returned v ∧ ∃ m, w'' = w.drewN m :=
  h.mono fun _ _ ⟨he, hw⟩ => ⟨he, n, hw.symm⟩
theorem big6_c (x : Nat) (w : World) (hx : x < 4294967296) : Calls Tryz.prog 172 #[.int .u32 x, .int .i64 6, .int .i64 11, .int .i64 25] w fun e w' => e = .returned (.int .u32 (Sg1 x : Nat)) ∧ w = w' := bigMix_c x 6 11 25 w hx (by omega) (by omega) (by omega)
theorem big2_c (x : Nat) (w : World) (hx : x < 4294967296) : Calls Tryz.prog 172 #[.int .u32 x, .int .i64 2, .int .i64 13, .int .i64 22] w fun e w' => e = .returned (.int .u32 (Sg0 x : Nat)) ∧ w = w' := bigMix_c x 2 13 22 w hx (by omega) (by omega) (by omega)
/-- What the program's choice and vote are. -/
theorem choice_bits (e f g : Nat) (he : e < 4294967296) (hf : f < 4294967296) (hg : g < 4294967296) : bits .xor .u32 (bits .and .u32 (e : Int) (f : Int)) (bits .and .u32 (bits .xor .u32 IntKind.u32.max (e : Int)) (g : Int)) = ((shCh e f g : Nat) : Int) := by
  have h1 := xor_val (show 4294967295 < 4294967296 by omega) he
  have e1 : ((4294967295 : Nat) : Int) = IntKind.u32.max := by decide
  rw [e1] at h1
  rw [and_val he hf, h1, Nat.xor_comm, and_val (xor_lt32 he (by omega)) hg, xor_val (and_lt32 he) (and_lt32 (xor_lt32 he (by omega))), shCh_xor e f g he]
theorem vote_bits (a b c : Nat) (ha : a < 4294967296) (hb : b < 4294967296) (hc : c < 4294967296) : bits .xor .u32 (bits .xor .u32 (bits .and .u32 (a : Int) (b : Int)) (bits .and .u32 (a : Int) (c : Int))) (bits .and .u32 (b : Int) (c : Int)) = ((shMaj a b c : Nat) : Int) := by
  rw [and_val ha hb, and_val ha hc, and_val hb hc, xor_val (and_lt32 ha) (and_lt32 ha), xor_val (xor_lt32 (and_lt32 ha) (and_lt32 ha)) (and_lt32 hb), shMaj_xor]
theorem shWords_at {blk : ByteArray} {pre : List (Nat × Nat)} {x : Nat × Nat} (h : pre ++ [x] <+: shWords blk 64) : pre.length < 64 ∧ x = (pre.length, wAt blk pre.length) := by
  have hl := h.length_le
  have h64 : (shWords blk 64).length = 64 := by simp [shWords]
  rw [List.length_append, List.length_singleton, h64] at hl
  refine ⟨by omega, ?_⟩
  obtain ⟨t, ht⟩ := h
  have h1 : (shWords blk 64)[pre.length]? = some x := by rw [← ht, List.append_assoc, List.getElem?_append_right (Nat.le_refl _), Nat.sub_self]; rfl
  rw [shWords, List.getElem?_map, List.getElem?_range (by omega)] at h1
  injection h1 with h1; exact h1.symm
def shCells (s : Sh) : Array Value := #[.int .u32 s.a, .int .u32 s.b, .int .u32 s.c, .int .u32 s.d, .int .u32 s.e, .int .u32 s.f, .int .u32 s.g, .int .u32 s.h]
/-- The first k words of the state have been added to. -/
def shMid (k : Nat) (s t : Sh) : Sh := ⟨if 0 < k then (s.a + t.a) % 4294967296 else s.a, if 1 < k then (s.b + t.b) % 4294967296 else s.b, if 2 < k then (s.c + t.c) % 4294967296 else s.c, if 3 < k then (s.d + t.d) % 4294967296 else s.d,
  if 4 < k then (s.e + t.e) % 4294967296 else s.e, if 5 < k then (s.f + t.f) % 4294967296 else s.f, if 6 < k then (s.g + t.g) % 4294967296 else s.g, if 7 < k then (s.h + t.h) % 4294967296 else s.h⟩
theorem shMid_8 (s t : Sh) : shMid 8 s t = shAdd s t := rfl
theorem shMix_mid (s : Sh) (blk : ByteArray) : shMix shK s blk = shMid 8 s (shRounds shK blk 64 s) := by rw [shMid_8]; unfold shMix; rfl
structure MixEnd (w : World) (b D : Nat) (s t : Sh) (i : Value) (W : World) : Prop where
  ex : ∃ k : Nat, k ≤ 8 ∧ i = .int .i64 k ∧ Blk W b 30 (shCells (shMid k s t)) ∧ Blk W (b + 1) 30 #[.int .u32 0, .int .u32 0, .int .u32 0, .int .u32 0, .int .u32 0, .int .u32 0, .int .u32 0, .int .u32 0] ∧ Only [] w W ∧ W.heap[D]? = some (.deferred (some []))
theorem index8 (t : Sh) (w : World) (i : Nat) (v : Value) (h : (shCells t)[i]? = some v) : (Instr.index 30 (.agg #[.int .u32 t.a, .int .u32 t.b, .int .u32 t.c, .int .u32 t.d, .int .u32 t.e, .int .u32 t.f, .int .u32 t.g, .int .u32 t.h]) (.int .i64 (i : Int))).run Tryz.prog w = .ok v w := by
  have h8 : i = 0 ∨ i = 1 ∨ i = 2 ∨ i = 3 ∨ i = 4 ∨ i = 5 ∨ i = 6 ∨ i = 7 ∨ 8 ≤ i := by omega
  unfold shCells at h
  rcases h8 with rfl | rfl | rfl | rfl | rfl | rfl | rfl | rfl | h8
  · simp at h; subst h; show _ = _; kernel_rfl
  · simp at h; subst h; show _ = _; kernel_rfl
  · simp at h; subst h; show _ = _; kernel_rfl
  · simp at h; subst h; show _ = _; kernel_rfl
  · simp at h; subst h; show _ = _; kernel_rfl
  · simp at h; subst h; show _ = _; kernel_rfl
  · simp at h; subst h; show _ = _; kernel_rfl
  · simp at h; subst h; show _ = _; kernel_rfl
  · rw [Array.getElem?_eq_none (by simp; omega)] at h; cases h
theorem MixEnd.next {w : World} {b D : Nat} {s t : Sh} {k : Nat} {i : Value} {W : World} {v : Value} (hst : Blk (W.setCell ⟨b, k, none⟩ v) b 30 ((shCells (shMid k s t)).setIfInBounds k v))
    (hre : Blk W (b + 1) 30 #[.int .u32 0, .int .u32 0, .int .u32 0, .int .u32 0, .int .u32 0, .int .u32 0, .int .u32 0, .int .u32 0]) (hon : Only [] w W) (hd : W.heap[D]? = some (.deferred (some []))) (hD : b + 1 < D) (hb : w.heap.size ≤ b) (hk : k < 8)
    (hv : (shCells (shMid k s t)).setIfInBounds k v = shCells (shMid (k + 1) s t)) (hi : i = .int .i64 ((k + 1 : Nat) : Int)) : MixEnd w b D s t i (W.setCell ⟨b, k, none⟩ v) :=
  ⟨k + 1, by omega, hi, hv ▸ hst, hre.far (by simp) _, hon.setCell (.inr hb) _, (Below.heap_setCell _ _ _ _ (by simp; omega)).trans hd⟩
def putRes (W : World) (g : Nat) (u : Sh) : World := (((((((W.setCell ⟨g, 0, none⟩ (.int .u32 u.a)).setCell ⟨g, 1, none⟩ (.int .u32 u.b)).setCell ⟨g, 2, none⟩ (.int .u32 u.c)).setCell ⟨g, 3, none⟩ (.int .u32 u.d)).setCell ⟨g, 4, none⟩ (.int .u32 u.e)).setCell ⟨g, 5, none⟩ (.int .u32 u.f)).setCell ⟨g, 6, none⟩ (.int .u32 u.g)).setCell ⟨g, 7, none⟩ (.int .u32 u.h)
theorem putRes_blk {W : World} {g : Nat} (u : Sh) (h : Blk W g 30 #[.int .u32 0, .int .u32 0, .int .u32 0, .int .u32 0, .int .u32 0, .int .u32 0, .int .u32 0, .int .u32 0]) : Blk (putRes W g u) g 30 (shCells u) := by
  have h8 := (((((((h.set 0 (.int .u32 u.a)).set 1 (.int .u32 u.b)).set 2 (.int .u32 u.c)).set 3 (.int .u32 u.d)).set 4 (.int .u32 u.e)).set 5 (.int .u32 u.f)).set 6 (.int .u32 u.g)).set 7 (.int .u32 u.h)
  simp only [List.setIfInBounds_toArray, List.set_cons_zero, List.set_cons_succ] at h8
  exact h8
theorem putRes_heap (W : World) (g : Nat) (u : Sh) (k : Nat) (h : k ≠ g) : (putRes W g u).heap[k]? = W.heap[k]? := by
  unfold putRes
  have e := fun (X : World) (j : Nat) (v : Value) => Below.heap_setCell X ⟨g, j, none⟩ v k h
  rw [e, e, e, e, e, e, e, e]
theorem putRes_only {L : List Nat} {w W : World} {g : Nat} (u : Sh) (h : Only L w W) (hg : w.heap.size ≤ g) : Only L w (putRes W g u) :=
  (((((((h.setCell (.inr hg) _).setCell (.inr hg) _).setCell (.inr hg) _).setCell (.inr hg) _).setCell (.inr hg) _).setCell (.inr hg) _).setCell (.inr hg) _).setCell (.inr hg) _
theorem mixRet {tmps : Array Value} {V : World} {g : Nat} (u : Sh) (hp : tmps.getD 4 undef = .pointer (some ⟨g, 0, none⟩)) (hB : Blk V g 30 (shCells u)) :
    (results Tryz.f163 tmps).run Tryz.prog V = .ok (shAgg u) V := by
  have r0 : V.cell? ⟨g, 0, none⟩ = some (.int .u32 u.a) := hB.cell 0
  have r1 : V.cell? ⟨g, 1, none⟩ = some (.int .u32 u.b) := hB.cell 1
  have r2 : V.cell? ⟨g, 2, none⟩ = some (.int .u32 u.c) := hB.cell 2
  have r3 : V.cell? ⟨g, 3, none⟩ = some (.int .u32 u.d) := hB.cell 3
  have r4 : V.cell? ⟨g, 4, none⟩ = some (.int .u32 u.e) := hB.cell 4
  have r5 : V.cell? ⟨g, 5, none⟩ = some (.int .u32 u.f) := hB.cell 5
  have r6 : V.cell? ⟨g, 6, none⟩ = some (.int .u32 u.g) := hB.cell 6
  have r7 : V.cell? ⟨g, 7, none⟩ = some (.int .u32 u.h) := hB.cell 7
  simp only [Array.getD_eq_getD_getElem?] at hp
  simp [results, Tryz.results163, go_sem, hp, r0, r1, r2, r3, r4, r5, r6, r7, shAgg]
end Go.Proofs.YtebllmpdlapefaaGreatDoor
