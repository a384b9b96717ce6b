/- split.Split and split.Count. -/
import Derived.Test.YtebllmpdlapefaaGreatDoorKA36
import Derived.Test.YtebllmpdlapefaaGreatDoorKA35
import Derived.Test.YtebllmpdlapefaaGreatDoorKA32
import Derived.RangeFuncLeaves
import Derived.Shelf.Abstract
import Derived.Shelf.RegionOpen
namespace Go.Proofs.YtebllmpdlapefaaGreatDoor
set_option linter.unusedVariables false
set_option linter.unusedSimpArgs false
open Go.RowKit Go.Shelf
attribute [local go_sem] Oper.semAt_some

theorem ended_c (e : Int) (w : World) : Calls Tryz.prog 56 #[.int .i64 e] w fun r w' => r = .returned (.int .i64 (if e = 2 then 0 else e)) ∧ w = w' := by
  by_cases h : e = 2
  · subst h
    go_enter Tryz.func56, Tryz.ntmps56
    go_wp2
    go_ret
    exact ⟨rfl, rfl⟩
  · have h2 : (e == 2) = false := beq_eq_false_iff_ne.2 h
    rw [if_neg h]
    go_enter Tryz.func56, Tryz.ntmps56
    go_wp2
    go_ret
    exact ⟨rfl, rfl⟩
theorem seven_new {w W0 : World} {t1 t2 t3 t4 t5 t6 t7 : TypeId} {a b c d e f g : Array Value} (h : ((((((w.alloc (.cells a t1)).alloc (.cells b t2)).alloc (.cells c t3)).alloc (.cells d t4)).alloc (.cells e t5)).alloc (.cells f t6)).alloc (.cells g t7) = W0) :
    W0.heap.size = w.heap.size + 7 ∧ Below w.heap.size w W0 ∧ Blk W0 w.heap.size t1 a ∧ Blk W0 (w.heap.size + 1) t2 b ∧ Blk W0 (w.heap.size + 1 + 1) t3 c ∧ Blk W0 (w.heap.size + 1 + 1 + 1) t4 d ∧ Blk W0 (w.heap.size + 1 + 1 + 1 + 1) t5 e ∧ Blk W0 (w.heap.size + 1 + 1 + 1 + 1 + 1) t6 f ∧ Blk W0 (w.heap.size + 1 + 1 + 1 + 1 + 1 + 1) t7 g := by
  obtain ⟨h1, h2, h3, h4, h5⟩ := three_new (w := w) (t1 := t1) (t2 := t2) (t3 := t3) (a := a) (b := b) (c := c) rfl
  generalize ((w.alloc (.cells a t1)).alloc (.cells b t2)).alloc (.cells c t3) = V at *
  obtain ⟨k1, k2, k3, k4, k5⟩ := three_new (w := V) (t1 := t4) (t2 := t5) (t3 := t6) (a := d) (b := e) (c := f) rfl
  generalize ((V.alloc (.cells d t4)).alloc (.cells e t5)).alloc (.cells f t6) = U at *
  subst h
  have m := Blk.new U t7 g
  rw [k1, h1] at m
  rw [h1] at k3 k4 k5 k2
  exact ⟨by simp; omega, (h2.trans (k2.mono (by omega))).alloc (by omega) _, (h3.keep k2 (by omega)).alloc _, (h4.keep k2 (by omega)).alloc _, (h5.keep k2 (by omega)).alloc _, k3.alloc _, k4.alloc _, k5.alloc _, m⟩
/-- Between two rounds of Split. -/
structure SplI (w : World) (pre : List (Fr × Nat)) (W : World) : Prop where
  row : ∃ v, Blk W (w.heap.size + 1) 51 #[v] ∧ FrO W (w.heap.size + 7) v (pre.map Prod.fst)
  pos : Blk W (w.heap.size + 1 + 1) 3 #[.int .i64 (atL pre)]
  below : Below w.heap.size w W
  size : w.heap.size + 7 ≤ W.heap.size
theorem low_below {B : Nat} {W W' : World} {row : Option Nat} (hg : W.grownBy W' row) (hB : B ≤ W.heap.size) (hr : ∀ r, row = some r → B ≤ r) : Below B W W' :=
  ⟨hg.os, hg.tape, hg.output, hg.size, fun k hk => hg.block k (by omega) (fun e => by have := hr k e.symm; omega)⟩
theorem SplI.grown {w W W' : World} {pre : List (Fr × Nat)} {row : Option Nat} (h : SplI w pre W) (hg : W.grownBy W' row) (hr : ∀ r, row = some r → w.heap.size + 7 ≤ r ∧ ∃ o : Obj, W.heap[r]? = some o ∧ o.isCells = false) : SplI w pre W' := by
  have hB := low_below hg h.size (fun r e => (hr r e).1)
  obtain ⟨v, h1, h2⟩ := h.row
  exact ⟨⟨v, h1.keep hB (by omega), h2.grown hg (fun r e => .inr (hr r e).2)⟩, h.pos.keep hB (by omega), h.below.trans (hB.mono (by omega)), Nat.le_trans h.size hg.size⟩
/-- The activation in a round of Split. -/
def splAct (c : Cfg) (s : ByteArray) (w : World) (x : Fr × Nat) (b : Nat) : Act :=
  { tmps := #[.agg (cfgCells c), .string s, .pointer (some ⟨w.heap.size, 0, none⟩), undef, .slice none 0 0, .string ⟨#[]⟩, .int .i64 0, .pointer (some ⟨w.heap.size + 1, 0, none⟩), .pointer (some ⟨w.heap.size + 1 + 1, 0, none⟩), .pointer (some ⟨w.heap.size + 1 + 1 + 1, 0, none⟩), .pointer (some ⟨b, 0, none⟩), .int .i64 x.2, .agg (cfgCells c), .string s, .func (.func 89) #[] #[.pointer (some ⟨w.heap.size + 1 + 1 + 1 + 1 + 1, 0, none⟩), .pointer (some ⟨w.heap.size + 1 + 1 + 1 + 1, 0, none⟩), .pointer (some ⟨w.heap.size + 1 + 1 + 1 + 1 + 1 + 1, 0, none⟩)], x.1.val, .int .i64 x.2, undef, undef, undef, undef, undef, undef, undef, undef, undef, undef, undef, undef, undef], defers := [] }
/-- Behind the last round. -/
def SplD (w : World) (p : List (Fr × Nat) × Value) (W : World) : Prop := SplI w p.1 W ∧ Blk W (w.heap.size + 1 + 1 + 1) 34 #[p.2]
def SplA (c : Cfg) (s : ByteArray) (w : World) (p : List (Fr × Nat) × (Fr × Nat) × Act) (W : World) : Prop :=
  SplD w (p.1, .int .i64 0) W ∧ ∃ b, w.heap.size + 7 ≤ b ∧ Blk W b 27 #[.int .u64 p.2.1.1.id, .string p.2.1.1.nm, .string p.2.1.1.body] ∧ p.2.2 = splAct c s w p.2.1 b
theorem SplI.store {w W : World} {pre : List (Fr × Nat)} (h : SplI w pre W) (u : Value) : SplI w pre (W.setCell ⟨w.heap.size + 1 + 1 + 1, 0, none⟩ u) := by
  obtain ⟨v, h1, h2⟩ := h.row
  exact ⟨⟨v, h1.far (by simp) _, h2.keep (fun k hk _ => Below.heap_setCell _ _ _ _ (by simp; omega))⟩, h.pos.far (by simp) _, h.below.setCell (by simp; omega) _, by have := h.size; simp [World.setCell]; omega⟩
theorem SplD.grown {w W W' : World} {p : List (Fr × Nat) × Value} {row : Option Nat} (h : SplD w p W) (hg : W.grownBy W' row) (hr : ∀ r, row = some r → w.heap.size + 7 ≤ r ∧ ∃ o : Obj, W.heap[r]? = some o ∧ o.isCells = false) : SplD w p W' :=
  ⟨h.1.grown hg hr, h.2.keep (low_below hg h.1.size (fun r e => (hr r e).1)) (by omega)⟩
set_option maxRecDepth 100000 in
set_option maxHeartbeats 2000000 in
theorem split_c (c : Cfg) (s : ByteArray) (w : World) (hc : c.ok) (hs : s.size ≤ 100000) :
    Calls Tryz.prog 26 #[c.val, .string s] w fun e w' => (∃ v, e = .returned (.tuple #[v, .string (split (wNext c) s).2.1, .int .i64 (split (wNext c) s).2.2.2]) ∧ FrO w' w.heap.size v (split (wNext c) s).1) ∧ Below w.heap.size w w' := by
  have HOK := Lib.hid (wNext_ok c)
  refine (callsIn_wide (n := 5)).1 ?_
  unfold Cfg.val
  refine callsIn_of_wp_marks Tryz.func26 rfl trivial ?_ rfl
  simp only [Tryz.ntmps26, List.size_toArray, List.length_cons, List.length_nil, Nat.reduceAdd, Nat.reduceSub, Array.replicate_succ, Array.replicate_zero, List.push_toArray, List.append_toArray, List.nil_append, List.cons_append]
  gi_wp2_with fail
  refine ⟨trivial, (callsIn_wide.2 (each_c c s (w.heap.size + 1 + 1 + 1) _)).mono ?_⟩
  rintro e w1 ⟨rfl, hw1⟩
  obtain ⟨hz, hB, k0, k1, k2, k3, k4, k5, k6⟩ := seven_new hw1.symm
  clear hw1
  gi_wp2_with fail
  refine wpIn_rangeFunc_tells rfl (by omega) (gf := 89) (lb := #[.pointer (some ⟨w.heap.size + 1 + 1 + 1 + 1 + 1, 0, none⟩), .pointer (some ⟨w.heap.size + 1 + 1 + 1 + 1, 0, none⟩), .pointer (some ⟨w.heap.size + 1 + 1 + 1 + 1 + 1 + 1, 0, none⟩)]) rfl trivial (enters_of Tryz.func89 (by kernel_rfl) rfl)
    (each_tells _ (w.heap.size + 1 + 1 + 1 + 1) (w.heap.size + 1 + 1 + 1) c s 0 w1 hc (by omega) ⟨k3, k4, k5, k6⟩) (fun h k => h.trans k) ?kb (Below.refl _ _) (fun _ => rfl) (fun pre W => SplD w (pre, .int .i64 0) W) ?hI (SplD w) ?hId ?hst ?h0 (SplA c s w) ?hIa ?assign ?body ?done
  case kb => exact fun W l o o' hl h _ _ => ⟨World.putObj_heap_other (by omega), World.putObj_heap_other (by omega), World.putObj_heap_other (by omega), World.putObj_heap_other (by omega)⟩
  case hI => exact fun pre W W' row hs hg hr => hs.grown hg (fun r e => by have := hr r e; rw [hz] at this; exact this)
  case hId => exact fun p W W' row hs hg hr => hs.grown hg (fun r e => by have := hr r e; rw [hz] at this; exact this)
  case hIa =>
    intro p W W' row ⟨h1, b, h2, h3, h4⟩ hg hr
    have hr' : ∀ r, row = some r → w.heap.size + 7 ≤ r ∧ ∃ o : Obj, W.heap[r]? = some o ∧ o.isCells = false := fun r e => by have := hr r e; rw [hz] at this; exact this
    exact ⟨h1.grown hg hr', b, h2, blk_grown h3 hg (fun e => by
      obtain ⟨o, h5, h6⟩ := (hr' b e).2
      rw [show W.heap[b]? = _ from h3] at h5
      injection h5 with h5; subst h5; cases h6), h4⟩
  case hst =>
    rintro xs u V ⟨rfl, rfl⟩ hI
    exact ⟨hI.1.store _, hI.2.set 0 _⟩
  case h0 => exact ⟨⟨⟨_, k1, FrO.nil _ _⟩, k2, hB, by omega⟩, k3⟩
  case assign =>
    intro l pre x W hI hG
    obtain ⟨⟨y1, y2, y3⟩, k⟩ := x
    simp only [encF, Fr.val]
    gi_wp2
    have hb : Below W.heap.size W (W.alloc (.cells #[.int .u64 y1, .string y2, .string y3] 27)) := (Below.refl _ _).alloc (Nat.le_refl _) _
    have hz2 := hI.1.size
    exact ⟨KeepsOthers.alloc _ _, ⟨hb.block _ (by omega), hb.block _ (by omega), hb.block _ (by omega), hb.block _ (by omega)⟩, hI.grown (World.grownBy_alloc W _ none) (fun r e => by cases e), W.heap.size, hz2, Blk.new _ _ _, rfl⟩
  case body =>
    rintro l pre ⟨⟨y1, y2, y3⟩, k⟩ a₁ W ⟨⟨hI, hF⟩, b, hb, hBF, ha⟩ hG
    simp only at hI hF hBF ha
    subst ha
    obtain ⟨v, h1, h2⟩ := hI.row
    obtain ⟨A, n, cap, rfl, hn, hnc, hcm⟩ := h2.form'
    have hle : atL pre + k ≤ 100000 ∧ pre.length + 1 ≤ 100000 := by
      obtain ⟨t, ht⟩ := hG
      obtain ⟨e1, _, e3⟩ := frs_tail HOK.out s
      rw [← ht, atL_app, atL_snoc] at e1
      rw [← ht] at e3
      simp at e1 e3
      omega
    obtain ⟨hle1, hle2⟩ := hle
    have m1 : W.cell? ⟨w.heap.size + 1, 0, none⟩ = some (.slice A n cap) := h1.cell 0
    have g0 : W.cell? ⟨b, 0, none⟩ = some (.int .u64 y1) := hBF.cell 0
    have g1 : W.cell? ⟨b, 1, none⟩ = some (.string y2) := hBF.cell 1
    have g2 : W.cell? ⟨b, 2, none⟩ = some (.string y3) := hBF.cell 2
    have HI := Lib.hid hI
    have HF := Lib.hid hF
    have H1 := Lib.hid h1
    have H2 := Lib.hid (h2.below ((Below.refl W.heap.size W).alloc (Nat.le_refl _) (.cells #[.int .u64 y1, .string y2, .string y3] 27)))
    clear hI hF h1 h2 hBF hG k0 k1 k2 k3 k4 k5 k6
    unfold splAct
    gi_wp2_with (gi_at_builtin; refine Hid.out ?_)
    refine Lib.hid ?_
    have hz2 := HI.out.size
    refine wpListIn_append_frame (by rfl) (.tmp 17) (.tmp 19) (by rfl) (w.heap.size + 7) (pre.map Prod.fst) (by rfl) H2.out ⟨y1, y2, y3⟩ W.heap.size (by rfl) (by simp) (by simp) (by simp) (by simp; omega) (by simp; omega) ?_
    intro A' n' cap' w2 hn' hf2 hgr
    have hlo : ∀ r, (Value.slice A n cap).ownBlock = some r → w.heap.size + 7 ≤ r := fun r e => (H2.out.ge r e).1
    have hne : ∀ r, r < w.heap.size + 7 → (Value.slice A n cap).ownBlock ≠ some r := fun r hr e => by have := hlo r e; omega
    have hW1 : Below W.heap.size W (W.alloc (.cells #[.int .u64 y1, .string y2, .string y3] 27)) := (Below.refl _ _).alloc (Nat.le_refl _) _
    have hlow : Below (w.heap.size + 7) W w2 := (hW1.mono hz2).trans (low_below hgr (by simp; omega) hlo)
    have hko : KeepsOthers W w2 := (KeepsOthers.alloc _ _).trans (KeepsOthers.of_grownBy hgr (fun j o e ho => H2.out.iscells e ho))
    have hz3 := hgr.size
    simp only [World.size_alloc] at hz3
    have b1 := H1.out.keep hlow (by omega)
    have b2 := HI.out.pos.keep hlow (by omega)
    have b3 := HF.out.keep hlow (by omega)
    have m1 : w2.cell? ⟨w.heap.size + 1, 0, none⟩ = some (.slice A n cap) := b1.cell 0
    have m2 : w2.cell? ⟨w.heap.size + 1 + 1, 0, none⟩ = some (.int .i64 (atL pre)) := b2.cell 0
    have f1 := b1.frozen 0
    have f2 := b2.frozen 0
    have HE : Hid (((atL pre : Nat) : Int) + k = (atL (pre ++ [((⟨y1, y2, y3⟩ : Fr), k)]) : Nat)) := Lib.hid (by rw [atL_snoc]; omega)
    have HFIN : Hid (∀ u, u = Value.int .i64 ((atL pre : Nat) + k : Int) → KeepsOthers W ((w2.setCell ⟨w.heap.size + 1, 0, none⟩ (.slice A' n' cap')).setCell ⟨w.heap.size + 1 + 1, 0, none⟩ u) ∧ KeepF (w.heap.size + 1 + 1 + 1) (w.heap.size + 1 + 1 + 1 + 1) W ((w2.setCell ⟨w.heap.size + 1, 0, none⟩ (.slice A' n' cap')).setCell ⟨w.heap.size + 1 + 1, 0, none⟩ u) ∧ SplD w (pre ++ [((⟨y1, y2, y3⟩ : Fr), k)], .int .i64 0) ((w2.setCell ⟨w.heap.size + 1, 0, none⟩ (.slice A' n' cap')).setCell ⟨w.heap.size + 1 + 1, 0, none⟩ u)) := Lib.hid (by
      rintro u rfl
      rw [HE.out]
      have hk : ∀ j u, j ≠ w.heap.size + 1 → j ≠ w.heap.size + 1 + 1 → ((w2.setCell ⟨w.heap.size + 1, 0, none⟩ (.slice A' n' cap')).setCell ⟨w.heap.size + 1 + 1, 0, none⟩ u).heap[j]? = w2.heap[j]? := fun j u h1 h2 => (Below.heap_setCell _ _ _ _ (by simpa using h2)).trans (Below.heap_setCell _ _ _ _ (by simpa using h1))
      refine ⟨(hko.trans (KeepsOthers.setCell _ _ _)).trans (KeepsOthers.setCell _ _ _), ⟨(hk _ _ (by omega) (by omega)).trans (hlow.block _ (by omega)), (hk _ _ (by omega) (by omega)).trans (hlow.block _ (by omega)), (hk _ _ (by omega) (by omega)).trans (hlow.block _ (by omega)), (hk _ _ (by omega) (by omega)).trans (hlow.block _ (by omega))⟩, ⟨⟨.slice A' n' cap', (b1.set 0 _).far (by simp) _, ?_⟩, (b2.far (by simp) _).set 0 _, ?_, by simp [World.setCell]; omega⟩, (hk _ _ (by omega) (by omega)).trans b3⟩
      · rw [List.map_append, List.map_cons, List.map_nil]
        exact hf2.keep (fun j h1 h2 => hk j _ (by omega) (by omega))
      · exact ((HI.out.below.trans (hlow.mono (by omega))).setCell (p := ⟨w.heap.size + 1, 0, none⟩) (by simp) _).setCell (p := ⟨w.heap.size + 1 + 1, 0, none⟩) (by simp; omega) _)
    clear hf2 hgr hW1 hlow hko b1 b2 b3 H1 H2 HI HF hlo hne hnc hcm
    gi_wp2
    exact HFIN.out _ rfl
  case done =>
    rintro D xs u W hD ⟨rfl, rfl⟩ ⟨hI, hF⟩ hK
    simp only at hI hF
    obtain ⟨v, h1, h2⟩ := hI.row
    obtain ⟨A, n, cap, rfl, hn, hnc, hcm⟩ := h2.form'
    obtain ⟨e1, e2, e3⟩ := frs_tail HOK.out s
    have HTL := Lib.hid e2
    have HEN := Lib.hid (split_end HOK.out s)
    have HMP := Lib.hid (frs_map HOK.out s)
    rw [HMP.out] at h2
    have HPO := hI.pos
    generalize (wNext c (split (wNext c) s).2.1).1 = er at *
    generalize atL (frs (wNext c) s) = at' at *
    have m1 : W.cell? ⟨w.heap.size + 1, 0, none⟩ = some (.slice A n cap) := h1.cell 0
    have m2 : W.cell? ⟨w.heap.size + 1 + 1, 0, none⟩ = some (.int .i64 at') := HPO.cell 0
    have m3 : W.cell? ⟨w.heap.size + 1 + 1 + 1, 0, none⟩ = some (.int .i64 er) := hF.cell 0
    have HI := Lib.hid hI
    have H2 := Lib.hid h2
    clear k0 k1 k2 k3 k4 k5 k6 h1 h2 hI hF HPO e2 e3
    have e4 : (at' : Int) ≤ s.size := by omega
    have hz2 := HI.out.size
    have l1 : w.heap.size + 1 < W.heap.size := by omega
    have l2 : w.heap.size + 1 + 1 < W.heap.size := by omega
    have l3 : w.heap.size + 1 + 1 + 1 < W.heap.size := by omega
    have HEC := Lib.hid (ended_c er)
    generalize (if er = 2 then 0 else er) = E at *
    gi_wp2_with fail
    refine wpIn_wide.2 ?_
    refine wp_region_below (by kernel_rfl) (by kernel_rfl) ?_
    refine wpQuiet_run (.slice A n cap) (by rfl) (fun w' hw' => by have q := (hw'.cell (p := ⟨w.heap.size + 1, 0, none⟩) (by simpa using by assumption)).trans m1; go_simp) ?_
    simp only [Act.put, List.setIfInBounds_toArray, List.set_cons_zero, List.set_cons_succ]
    refine wpQuiet_run (.string s) (by rfl) (fun _ _ => by first | rfl | go_simp) ?_
    simp only [Act.put, List.setIfInBounds_toArray, List.set_cons_zero, List.set_cons_succ]
    refine wpQuiet_run (.int .i64 at') (by rfl) (fun w' hw' => by have q := (hw'.cell (p := ⟨w.heap.size + 1 + 1, 0, none⟩) (by simpa using by assumption)).trans m2; go_simp) ?_
    simp only [Act.put, List.setIfInBounds_toArray, List.set_cons_zero, List.set_cons_succ]
    refine wpQuiet_run (.string (s.extract at' s.size)) (by rfl) (fun _ _ => by first | rfl | go_simp) ?_
    simp only [Act.put, List.setIfInBounds_toArray, List.set_cons_zero, List.set_cons_succ]
    refine wpQuiet_run (.int .i64 er) (by rfl) (fun w' hw' => by have q := (hw'.cell (p := ⟨w.heap.size + 1 + 1 + 1, 0, none⟩) (by simpa using by assumption)).trans m3; go_simp) ?_
    simp only [Act.put, List.setIfInBounds_toArray, List.set_cons_zero, List.set_cons_succ]
    refine wpQuiet_callB 56 _ _ (by rfl) (fun _ => by first | rfl | go_simp) (fun V _ => (HEC.out V).mono fun e V' ⟨h1, h2⟩ => ⟨h1, by rw [← h2]; exact Below.refl _ _⟩) ?_
    simp only [Act.put, List.setIfInBounds_toArray, List.set_cons_zero, List.set_cons_succ]
    refine wpQuiet_run (.slice A n cap) (by rfl) (fun _ _ => by first | rfl | go_simp) ?_
    simp only [Act.put, List.setIfInBounds_toArray, List.set_cons_zero, List.set_cons_succ]
    refine wpQuiet_run (.string (s.extract at' s.size)) (by rfl) (fun _ _ => by first | rfl | go_simp) ?_
    simp only [Act.put, List.setIfInBounds_toArray, List.set_cons_zero, List.set_cons_succ]
    refine wpQuiet_run (.int .i64 E) (by rfl) (fun _ _ => by first | rfl | go_simp) ?_
    simp only [Act.put, List.setIfInBounds_toArray, List.set_cons_zero, List.set_cons_succ]
    refine wpQuiet_nil ?_
    intro V hV
    have hKV : V.heap[D]? = some (.deferred (some [])) := (hV.block D (Array.getElem?_eq_some_iff.1 hK).1).trans hK
    have HBV : Hid (Below w.heap.size w V) := Lib.hid (HI.out.below.trans (hV.mono (by omega)))
    have HFV := Lib.hid (H2.out.below hV)
    have hDV : D < V.heap.size := (Array.getElem?_eq_some_iff.1 hKV).1
    clear hV hK HI H2 m1 m2 m3 l1 l2 l3 HEC
    gi_wp2
    have hb9 := belowK_b (w := w1) (n₀ := w.heap.size + 7) (by omega) V D _ (.deferred none) hD hKV rfl rfl
    refine ⟨by simp, .inl ⟨_, _, rfl, run_takeDeferred hKV, ?_⟩⟩
    refine ⟨.tuple #[.slice A n cap, .string (s.extract at' s.size), .int .i64 E], ?_, ?_⟩
    · simp [results, Tryz.results26, go_sem]
    · exact ⟨⟨_, by rw [HTL.out, HEN.out], (HFV.out.grown (grownBy_putObj' V D _) (fun r e => by cases e; exact .inr ⟨_, hKV, rfl⟩)).lower (by omega)⟩, HBV.out.trans (hb9.mono (by omega))⟩
end Go.Proofs.YtebllmpdlapefaaGreatDoor
