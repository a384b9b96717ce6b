/- split.Count. -/
import Derived.Test.YtebllmpdlapefaaGreatDoorKSplS
namespace Go.Proofs.YtebllmpdlapefaaGreatDoor
set_option linter.unusedVariables false
set_option linter.unusedSimpArgs false
open Go.RowKit Go.Shelf
attribute [local go_sem] Oper.semAt_some

theorem six_new {w W0 : World} {t1 t2 t3 t4 t5 t6 : TypeId} {a b c d e f : Array Value} (h : (((((w.alloc (.cells a t1)).alloc (.cells b t2)).alloc (.cells c t3)).alloc (.cells d t4)).alloc (.cells e t5)).alloc (.cells f t6) = W0) :
    W0.heap.size = w.heap.size + 6 ∧ Below w.heap.size w W0 ∧ Blk W0 w.heap.size t1 a ∧ Blk W0 (w.heap.size + 1) t2 b ∧ Blk W0 (w.heap.size + 1 + 1) t3 c ∧ Blk W0 (w.heap.size + 1 + 1 + 1) t4 d ∧ Blk W0 (w.heap.size + 1 + 1 + 1 + 1) t5 e ∧ Blk W0 (w.heap.size + 1 + 1 + 1 + 1 + 1) t6 f := by
  obtain ⟨h1, h2, h3, h4, h5⟩ := three_new (w := w) (t1 := t1) (t2 := t2) (t3 := t3) (a := a) (b := b) (c := c) rfl
  generalize ((w.alloc (.cells a t1)).alloc (.cells b t2)).alloc (.cells c t3) = V at *
  obtain ⟨k1, k2, k3, k4, k5⟩ := three_new h
  rw [h1] at k3 k4 k5 k2
  exact ⟨by omega, h2.trans (k2.mono (by omega)), h3.keep k2 (by omega), h4.keep k2 (by omega), h5.keep k2 (by omega), k3, k4, k5⟩
structure CntD (w : World) (p : List (Fr × Nat) × Value) (W : World) : Prop where
  num : Blk W (w.heap.size + 1) 3 #[.int .i64 p.1.length]
  flt : Blk W (w.heap.size + 1 + 1) 34 #[p.2]
  below : Below w.heap.size w W
  size : w.heap.size + 6 ≤ W.heap.size
theorem CntD.grown {w W W' : World} {p : List (Fr × Nat) × Value} {row : Option Nat} (h : CntD w p W) (hg : W.grownBy W' row) (hr : ∀ r, row = some r → w.heap.size + 6 ≤ r) : CntD w p W' := by
  have hB := low_below hg h.size hr
  exact ⟨h.num.keep hB (by omega), h.flt.keep hB (by omega), h.below.trans (hB.mono (by omega)), Nat.le_trans h.size hg.size⟩
/-- The activation in a round of Count. -/
def cntAct (c : Cfg) (s : ByteArray) (w : World) (u v : Value) : Act :=
  { tmps := #[.agg (cfgCells c), .string s, .pointer (some ⟨w.heap.size, 0, none⟩), undef, .int .i64 0, .int .i64 0, .pointer (some ⟨w.heap.size + 1, 0, none⟩), .pointer (some ⟨w.heap.size + 1 + 1, 0, none⟩), .agg (cfgCells c), .string s, .func (.func 89) #[] #[.pointer (some ⟨w.heap.size + 1 + 1 + 1 + 1, 0, none⟩), .pointer (some ⟨w.heap.size + 1 + 1 + 1, 0, none⟩), .pointer (some ⟨w.heap.size + 1 + 1 + 1 + 1 + 1, 0, none⟩)], u, v, undef, undef, undef, undef, undef], defers := [] }
set_option maxRecDepth 100000 in
set_option maxHeartbeats 2000000 in
theorem count_c (c : Cfg) (s : ByteArray) (w : World) (hc : c.ok) (hs : s.size ≤ 100000) :
    Calls Tryz.prog 29 #[c.val, .string s] w fun e w' => e = .returned (.tuple #[.int .i64 (split (wNext c) s).1.length, .int .i64 (split (wNext c) s).2.2.2]) ∧ Below w.heap.size w w' := by
  have HOK := Lib.hid (wNext_ok c)
  refine (callsIn_wide (n := 5)).1 ?_
  unfold Cfg.val
  refine callsIn_of_wp_marks Tryz.func29 rfl trivial ?_ rfl
  simp only [Tryz.ntmps29, List.size_toArray, List.length_cons, List.length_nil, Nat.reduceAdd, Nat.reduceSub, Array.replicate_succ, Array.replicate_zero, List.push_toArray, List.append_toArray, List.nil_append, List.cons_append]
  gi_wp2_with fail
  refine ⟨trivial, (callsIn_wide.2 (each_c c s (w.heap.size + 1 + 1) _)).mono ?_⟩
  rintro e w1 ⟨rfl, hw1⟩
  obtain ⟨hz, hB, k0, k1, k2, k3, k4, k5⟩ := six_new hw1.symm
  clear hw1
  gi_wp2_with fail
  refine wpIn_rangeFunc_tells rfl (by omega) (gf := 89) (lb := #[.pointer (some ⟨w.heap.size + 1 + 1 + 1 + 1, 0, none⟩), .pointer (some ⟨w.heap.size + 1 + 1 + 1, 0, none⟩), .pointer (some ⟨w.heap.size + 1 + 1 + 1 + 1 + 1, 0, none⟩)]) rfl trivial (enters_of Tryz.func89 (by kernel_rfl) rfl)
    (each_tells _ (w.heap.size + 1 + 1 + 1) (w.heap.size + 1 + 1) c s 0 w1 hc (by omega) ⟨k2, k3, k4, k5⟩) (fun h k => h.trans k) ?kb (Below.refl _ _) (fun _ => rfl) (fun pre W => CntD w (pre, .int .i64 0) W) ?hI (CntD w) ?hId ?hst ?h0 (fun p W => CntD w (p.1, .int .i64 0) W ∧ ∃ u v, p.2.2 = cntAct c s w u v) ?hIa ?assign ?body ?done
  case kb => exact fun W l o o' hl h _ _ => ⟨World.putObj_heap_other (by omega), World.putObj_heap_other (by omega), World.putObj_heap_other (by omega), World.putObj_heap_other (by omega)⟩
  case hI => exact fun pre W W' row hs hg hr => hs.grown hg (fun r e => by have := (hr r e).1; omega)
  case hId => exact fun p W W' row hs hg hr => hs.grown hg (fun r e => by have := (hr r e).1; omega)
  case hIa => exact fun p W W' row hs hg hr => ⟨hs.1.grown hg (fun r e => by have := (hr r e).1; omega), hs.2⟩
  case hst =>
    rintro xs u V ⟨rfl, rfl⟩ hI
    exact ⟨hI.num.far (by simp) _, hI.flt.set 0 _, hI.below.setCell (by simp; omega) _, by have := hI.size; simp [World.setCell]; omega⟩
  case h0 => exact ⟨k1, k2, hB, by omega⟩
  case assign =>
    intro l pre x W hI hG
    obtain ⟨⟨y1, y2, y3⟩, k⟩ := x
    simp only [encF, Fr.val]
    gi_wp2
    exact ⟨KeepsOthers.refl _, ⟨rfl, rfl, rfl, rfl⟩, hI, .agg #[.int .u64 y1, .string y2, .string y3], .int .i64 k, by simp [cntAct, cfgCells]⟩
  case body =>
    rintro l pre ⟨⟨y1, y2, y3⟩, k⟩ a₁ W ⟨hI, u, v, ha⟩ hG
    simp only at hI ha
    subst ha
    have hle2 : pre.length + 1 ≤ 100000 := by
      obtain ⟨t, ht⟩ := hG
      obtain ⟨e1, _, e3⟩ := frs_tail HOK.out s
      rw [← ht] at e3
      simp at e3
      omega
    have m1 : W.cell? ⟨w.heap.size + 1, 0, none⟩ = some (.int .i64 pre.length) := hI.num.cell 0
    have f1 := hI.num.frozen 0
    have HFIN : Hid (∀ u, u = Value.int .i64 ((pre.length : Nat) + 1 : Int) → KeepsOthers W (W.setCell ⟨w.heap.size + 1, 0, none⟩ u) ∧ KeepF (w.heap.size + 1 + 1) (w.heap.size + 1 + 1 + 1) W (W.setCell ⟨w.heap.size + 1, 0, none⟩ u) ∧ CntD w (pre ++ [((⟨y1, y2, y3⟩ : Fr), k)], .int .i64 0) (W.setCell ⟨w.heap.size + 1, 0, none⟩ u)) := Lib.hid (by
      rintro u rfl
      have hk : ∀ j u, j ≠ w.heap.size + 1 → (W.setCell ⟨w.heap.size + 1, 0, none⟩ u).heap[j]? = W.heap[j]? := fun j u h1 => Below.heap_setCell _ _ _ _ (by simpa using h1)
      refine ⟨KeepsOthers.setCell _ _ _, ⟨hk _ _ (by omega), hk _ _ (by omega), hk _ _ (by omega), hk _ _ (by omega)⟩, ?_, hI.flt.far (by simp) _, hI.below.setCell (by simp) _, by have := hI.size; simp [World.setCell]; omega⟩
      have := hI.num.set 0 (.int .i64 ((pre.length : Nat) + 1 : Int))
      simpa using this)
    clear hI hG k0 k1 k2 k3 k4 k5
    unfold cntAct
    gi_wp2
    exact HFIN.out _ rfl
  case done =>
    rintro D xs u W hD ⟨rfl, rfl⟩ hI hK
    have HEN := Lib.hid (split_end HOK.out s)
    have HMP := Lib.hid (congrArg List.length (frs_map HOK.out s))
    simp only [List.length_map] at HMP
    have hN := hI.num
    simp only at hN
    rw [HMP.out] at hN
    have hF := hI.flt
    simp only at hF
    generalize (wNext c (split (wNext c) s).2.1).1 = er at *
    have m1 : W.cell? ⟨w.heap.size + 1, 0, none⟩ = some (.int .i64 (split (wNext c) s).1.length) := hN.cell 0
    have m3 : W.cell? ⟨w.heap.size + 1 + 1, 0, none⟩ = some (.int .i64 er) := hF.cell 0
    have hz2 := hI.size
    have HI := Lib.hid hI.below
    clear k0 k1 k2 k3 k4 k5 hI hN hF
    obtain ⟨N, hNN⟩ : ∃ N, (split (wNext c) s).1.length = N := ⟨_, rfl⟩
    rw [hNN] at m1
    have HNN := Lib.hid hNN
    clear hNN HMP
    have l1 : w.heap.size + 1 < W.heap.size := by omega
    have l3 : w.heap.size + 1 + 1 < W.heap.size := by omega
    have HEC := Lib.hid (ended_c er)
    generalize (if er = 2 then 0 else er) = E at *
    gi_wp2_with fail
    refine wpIn_wide.2 ?_
    refine wp_region_below (by kernel_rfl) (by kernel_rfl) ?_
    refine wpQuiet_run (.int .i64 N) (by rfl) (fun w' hw' => by have q := (hw'.cell (p := ⟨w.heap.size + 1, 0, none⟩) (by simpa using by assumption)).trans m1; go_simp) ?_
    simp only [Act.put, List.setIfInBounds_toArray, List.set_cons_zero, List.set_cons_succ]
    refine wpQuiet_run (.int .i64 er) (by rfl) (fun w' hw' => by have q := (hw'.cell (p := ⟨w.heap.size + 1 + 1, 0, none⟩) (by simpa using by assumption)).trans m3; go_simp) ?_
    simp only [Act.put, List.setIfInBounds_toArray, List.set_cons_zero, List.set_cons_succ]
    refine wpQuiet_callB 56 _ _ (by rfl) (fun _ => by first | rfl | go_simp) (fun V _ => (HEC.out V).mono fun e V' ⟨h1, h2⟩ => ⟨h1, by rw [← h2]; exact Below.refl _ _⟩) ?_
    simp only [Act.put, List.setIfInBounds_toArray, List.set_cons_zero, List.set_cons_succ]
    refine wpQuiet_run (.int .i64 N) (by rfl) (fun _ _ => by first | rfl | go_simp) ?_
    simp only [Act.put, List.setIfInBounds_toArray, List.set_cons_zero, List.set_cons_succ]
    refine wpQuiet_run (.int .i64 E) (by rfl) (fun _ _ => by first | rfl | go_simp) ?_
    simp only [Act.put, List.setIfInBounds_toArray, List.set_cons_zero, List.set_cons_succ]
    refine wpQuiet_nil ?_
    intro V hV
    have hKV : V.heap[D]? = some (.deferred (some [])) := (hV.block D (Array.getElem?_eq_some_iff.1 hK).1).trans hK
    have HBV : Hid (Below w.heap.size w V) := Lib.hid (HI.out.trans (hV.mono (by omega)))
    clear hV hK HI m1 m3 l1 l3 HEC
    gi_wp2
    have hb9 := belowK_b (w := w1) (n₀ := w.heap.size + 6) (by omega) V D _ (.deferred none) hD hKV rfl rfl
    refine ⟨by simp, .inl ⟨_, _, rfl, run_takeDeferred hKV, ?_⟩⟩
    refine ⟨.tuple #[.int .i64 N, .int .i64 E], ?_, ?_⟩
    · simp [results, Tryz.results29, go_sem]
    · exact ⟨by rw [HEN.out, HNN.out], HBV.out.trans (hb9.mono (by omega))⟩
end Go.Proofs.YtebllmpdlapefaaGreatDoor
