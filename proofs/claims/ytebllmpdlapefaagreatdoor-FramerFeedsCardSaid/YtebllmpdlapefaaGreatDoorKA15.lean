/- sha.spread: the iterator over a block's words. -/
import Derived.Test.YtebllmpdlapefaaGreatDoorKA13
import Derived.Test.YtebllmpdlapefaaGreatDoorKA14
import Derived.StillTailTactics
import Derived.Sort.CutIn
import Derived.Test.YtebllmpdlapefaaGreatDoorKA2
import Derived.Deep.RegionHeld3
namespace Go.Proofs.YtebllmpdlapefaaGreatDoor
set_option linter.unusedVariables false
set_option linter.unusedSimpArgs false
open Go.RowKit Go.Shelf

theorem spread_c (blk : ByteArray) (w : World) :
    Calls Tryz.prog 171 #[.string blk] w fun e w' => e = .returned (.func (.func 176) #[] #[.pointer (some ⟨w.heap.size, 0, none⟩)]) ∧ w' = w.alloc (.cells #[.string blk] 9) := by
  go_enter Tryz.func171, Tryz.ntmps171
  go_wp2
  go_ret
  exact ⟨rfl, rfl⟩
theorem sg0_c (x : Nat) (w : World) (hx : x < 4294967296) : Calls Tryz.prog 177 #[.int .u32 x, .int .i64 7, .int .i64 18, .int .i64 3] w fun e w' => e = .returned (.int .u32 (sg0 x)) ∧ ∃ n, w' = w.drewN n := smallMix_c x 7 18 3 w hx (by omega) (by omega) (by omega)
theorem sg1_c (x : Nat) (w : World) (hx : x < 4294967296) : Calls Tryz.prog 177 #[.int .u32 x, .int .i64 17, .int .i64 19, .int .i64 10] w fun e w' => e = .returned (.int .u32 (sg1 x)) ∧ ∃ n, w' = w.drewN n := smallMix_c x 17 19 10 w hx (by omega) (by omega) (by omega)
theorem addr_ne (g : Nat) {i j : Nat} (h : i ≠ j) : (⟨g, i, none⟩ : Addr) ≠ ⟨g, j, none⟩ := fun e => h (congrArg Addr.off e)
def shWords (blk : ByteArray) (k : Nat) : List (Nat × Nat) := (List.range k).map fun i => (i, wAt blk i)
theorem shWords_succ (blk : ByteArray) (k : Nat) : shWords blk (k + 1) = shWords blk k ++ [(k, wAt blk k)] := by simp [shWords, List.range_succ]
theorem shWords_pre (blk : ByteArray) (k : Nat) (h : k < 64) : shWords blk k ++ [(k, wAt blk k)] <+: shWords blk 64 := by
  rw [← shWords_succ]
  refine ⟨((List.range 64).drop (k + 1)).map fun i => (i, wAt blk i), ?_⟩
  unfold shWords
  rw [← List.map_append]
  congr 1
  have e : List.range (k + 1) = (List.range 64).take (k + 1) := by rw [List.take_range]; congr 1; omega
  rw [e, List.take_append_drop]
def encW (x : Nat × Nat) : Array Value := #[.int .i64 x.1, .int .u32 x.2]
/-- The iterator between two rounds, k words having come. -/
structure SprInv (blk : ByteArray) (J : List (Nat × Nat) → World → Prop) (bb : Nat) (W : World) (i : Value) (wr : World) : Prop where
  ex : ∃ k : Nat, k ≤ 64 ∧ i = .int .i64 k ∧ J (shWords blk k) wr ∧ W.heap.size < wr.heap.size ∧ wr.cell? ⟨bb, 0, none⟩ = some (.string blk) ∧
    (∀ j, j < 16 → wr.cell? ⟨W.heap.size, j, none⟩ = some (.int .u32 (ringAt blk k j)) ∧ wr.frozen? ⟨W.heap.size, j, none⟩ = false)
theorem ring_stored (blk : ByteArray) (k m g : Nat) (wr : World) (hring : ∀ j, j < 16 → wr.cell? ⟨g, j, none⟩ = some (.int .u32 (ringAt blk k j)) ∧ wr.frozen? ⟨g, j, none⟩ = false) :
    ∀ j, j < 16 → ((wr.drewN m).setCell ⟨g, k % 16, none⟩ (.int .u32 (wAt blk k))).cell? ⟨g, j, none⟩ = some (.int .u32 (ringAt blk (k + 1) j)) ∧ ((wr.drewN m).setCell ⟨g, k % 16, none⟩ (.int .u32 (wAt blk k))).frozen? ⟨g, j, none⟩ = false := by
  intro j hj
  have hd : (wr.drewN m).cell? ⟨g, j, none⟩ = some (.int .u32 (ringAt blk k j)) := (hring j hj).1
  refine ⟨?_, by rw [World.frozen?_setCell]; exact (hring j hj).2⟩
  by_cases e : j = k % 16
  · subst e
    rw [ringAt_new]
    exact World.cell?_setCell_same' _ _ _ (by rw [hd]; rfl)
  · rw [ringAt_other blk k j hj e]
    exact (World.cell?_setCell_other _ _ _ _ (by intro h; cases h; exact e rfl)).trans hd
/-- Behind the store of the word k. -/
structure SprMid (blk : ByteArray) (J : List (Nat × Nat) → World → Prop) (bb : Nat) (W : World) (k : Nat) (wr : World) : Prop where
  j : J (shWords blk k) wr
  lt : W.heap.size < wr.heap.size
  box : wr.cell? ⟨bb, 0, none⟩ = some (.string blk)
  ring : ∀ j, j < 16 → wr.cell? ⟨W.heap.size, j, none⟩ = some (.int .u32 (ringAt blk (k + 1) j)) ∧ wr.frozen? ⟨W.heap.size, j, none⟩ = false
theorem SprMid.of (blk : ByteArray) (J : List (Nat × Nat) → World → Prop) (bb : Nat) (W : World) (k m : Nat) (wr : World) (hJ : ∀ s A B, J s A → Below W.heap.size A B → J s B)
    (h1 : J (shWords blk k) wr) (h2 : W.heap.size < wr.heap.size) (h3 : wr.cell? ⟨bb, 0, none⟩ = some (.string blk)) (hbb : bb < W.heap.size)
    (hring : ∀ j, j < 16 → wr.cell? ⟨W.heap.size, j, none⟩ = some (.int .u32 (ringAt blk k j)) ∧ wr.frozen? ⟨W.heap.size, j, none⟩ = false) :
    SprMid blk J bb W k ((wr.drewN m).setCell ⟨W.heap.size, k % 16, none⟩ (.int .u32 (wAt blk k))) where
  j := hJ _ _ _ h1 (((Below.refl _ wr).drewN' m).setCell (p := ⟨W.heap.size, k % 16, none⟩) (Nat.le_refl _) _)
  lt := by simpa [World.setCell] using h2
  box := (World.cell?_setCell_other _ _ _ _ (by intro h; have := congrArg Addr.block h; simp at this; omega)).trans h3
  ring := ring_stored blk k m _ wr hring
theorem SprMid.next {blk : ByteArray} {J : List (Nat × Nat) → World → Prop} {bb : Nat} {W : World} {k : Nat} {wr w' : World} {l : Nat} {L : List Nat} (h : SprMid blk J bb W k wr) (hk : k < 64) (hJ : J (shWords blk k ++ [(k, wAt blk k)]) w') (ho : Only (l :: L) wr w')
    (hl : l < W.heap.size) (hlb : l ≠ bb) (hL : ∀ i, i ∈ L → i < W.heap.size) (hbL : bb ∉ L) (hbb : bb < W.heap.size) : SprInv blk J bb W (.int .i64 ((k + 1 : Nat) : Int)) w' := by
  have hz := ho.size
  have hlt := h.lt
  have hg : W.heap.size ∉ l :: L := by
    intro h; rcases List.mem_cons.1 h with h | h
    · omega
    · have := hL _ h; omega
  refine ⟨k + 1, by omega, rfl, by rw [shWords_succ]; exact hJ, by omega, ?_, fun j hj => ⟨?_, ?_⟩⟩
  · exact (ho.cell (p := ⟨bb, 0, none⟩) (by simp; omega) (by simp; exact ⟨fun e => hlb e.symm, hbL⟩)).trans h.box
  · exact (ho.cell (p := ⟨W.heap.size, j, none⟩) hlt hg).trans (h.ring j hj).1
  · exact (ho.frozen (p := ⟨W.heap.size, j, none⟩) hlt hg).trans (h.ring j hj).2
set_option maxRecDepth 100000 in
set_option maxHeartbeats 4000000 in
theorem spread_seq (n : Nat) (blk : ByteArray) (hb : blk.size = 64) (w : World) (bb : Nat) (L : List Nat) (hbb : w.cell? ⟨bb, 0, none⟩ = some (.string blk)) (hlt : bb < w.heap.size) (hbL : bb ∉ L) (hL : ∀ i, i ∈ L → i < w.heap.size) :
    SeqOnly Fence.wide n Tryz.prog 176 #[.pointer (some ⟨bb, 0, none⟩)] encW (shWords blk 64) L w := by
  intro l J W hW hl1 hl2 hJ hY h0
  have HJ := Lib.hid hJ
  have HY := Lib.hid hY
  clear hJ hY
  have hWz := hW.size
  have hbW : W.cell? ⟨bb, 0, none⟩ = some (.string blk) := (hW.cell (p := ⟨bb, 0, none⟩) hlt (by simp)).trans hbb
  refine callsIn_of_wp Tryz.func176 rfl trivial ?_ rfl
  simp only [Tryz.ntmps176, List.size_toArray, List.length_cons, List.length_nil, Nat.reduceAdd, Nat.reduceSub, Array.replicate_succ, Array.replicate_zero, List.push_toArray, List.append_toArray, List.nil_append, List.cons_append]
  gi_wp2
  gi_loopw [6] (fun i wr => SprInv blk J bb W i wr) (fun i _ => 64 - (intOf i).toNat)
  case atStart =>
    refine ⟨0, by omega, rfl, HJ.out _ _ _ h0 ((Below.refl _ W).alloc (Nat.le_refl _) _), by simp, ((((Below.refl _ W).alloc (Nat.le_refl _) _).cell (p := ⟨bb, 0, none⟩) (by simp; omega)).trans hbW), ?_⟩
    intro j hj
    have hB := Blk.new W 199 #[.int .u32 0, .int .u32 0, .int .u32 0, .int .u32 0, .int .u32 0, .int .u32 0, .int .u32 0, .int .u32 0, .int .u32 0, .int .u32 0, .int .u32 0, .int .u32 0, .int .u32 0, .int .u32 0, .int .u32 0, .int .u32 0]
    refine ⟨(hB.cell j).trans ?_, hB.frozen j⟩
    have h16 : j = 0 ∨ j = 1 ∨ j = 2 ∨ j = 3 ∨ j = 4 ∨ j = 5 ∨ j = 6 ∨ j = 7 ∨ j = 8 ∨ j = 9 ∨ j = 10 ∨ j = 11 ∨ j = 12 ∨ j = 13 ∨ j = 14 ∨ j = 15 := by omega
    rcases h16 with rfl | rfl | rfl | rfl | rfl | rfl | rfl | rfl | rfl | rfl | rfl | rfl | rfl | rfl | rfl | rfl <;> rfl
  case round =>
    obtain ⟨k, hk, rfl, hJk, hgz, hbk, hring⟩ := hrel.ex
    by_cases hk64 : k < 64
    · by_cases hk16 : k < 16
      · have hc := (hring k hk16).1
        have hf := (hring k hk16).2
        have e16 : (k : Int) % 16 = k := by omega
        have HW := Lib.hid (fun w => word_c blk k w (by omega) (by omega))
        gi_wp2_with (refine ⟨trivial, (fun h => by cases h), (callsIn_wide.2 (HW.out _)).mono ?_⟩; rintro e w' ⟨rfl, m, rfl⟩)
        have hm := SprMid.of blk J bb W k m wr HJ.out hJk hgz hbk (by omega) hring
        rw [Nat.mod_eq_of_lt hk16, wAt_first blk k hk16] at hm
        obtain ⟨fn, tmps, assign, body, hy, hR⟩ := HY.out _ (k, wAt blk k) _ hm.j (shWords_pre blk k hk64)
        simp only [encW, wAt_first blk k hk16] at hy
        rw [hy]
        refine ⟨(fun h => by cases h), hR.mono ?_⟩
        rintro e W' ⟨rfl, hJ', hO⟩
        gi_wp2
        go_roundw
        case rel => exact hm.next hk64 hJ' hO hl2 (by omega) (fun i hi => by have := hL i hi; omega) hbL (by omega)
        case measure => simp [intOf]; omega
      · have hk16' : 16 ≤ k := by omega
        obtain ⟨j0, hj0⟩ : ∃ j0, k % 16 = j0 := ⟨_, rfl⟩
        obtain ⟨j1, hj1⟩ : ∃ j1, (k + 1) % 16 = j1 := ⟨_, rfl⟩
        obtain ⟨j2, hj2⟩ : ∃ j2, (k + 9) % 16 = j2 := ⟨_, rfl⟩
        obtain ⟨j3, hj3⟩ : ∃ j3, (k + 14) % 16 = j3 := ⟨_, rfl⟩
        have b0 : j0 < 16 := by omega
        have b1 : j1 < 16 := by omega
        have b2 : j2 < 16 := by omega
        have b3 : j3 < 16 := by omega
        have e0 : (k : Int) % 16 = j0 := by omega
        have e1 : ((k : Int) + 1) % 16 = j1 := by omega
        have e2 : ((k : Int) + 9) % 16 = j2 := by omega
        have e3 : ((k : Int) + 14) % 16 = j3 := by omega
        have r0 : ringAt blk k j0 = wAt blk (k - 16) := by rw [← hj0]; exact ringAt_back blk k 0 hk16' (by omega)
        have r1 : ringAt blk k j1 = wAt blk (k - 15) := by rw [← hj1, ringAt_back blk k 1 hk16' (by omega)]; congr 1; omega
        have r2 : ringAt blk k j2 = wAt blk (k - 7) := by rw [← hj2, ringAt_back blk k 9 hk16' (by omega)]; congr 1; omega
        have r3 : ringAt blk k j3 = wAt blk (k - 2) := by rw [← hj3, ringAt_back blk k 14 hk16' (by omega)]; congr 1; omega
        have c0 := (hring j0 b0).1
        have c1 := (hring j1 b1).1
        have c2 := (hring j2 b2).1
        have c3 := (hring j3 b3).1
        have f0 := (hring j0 b0).2
        rw [r0] at c0
        rw [r1] at c1
        rw [r2] at c2
        rw [r3] at c3
        have HM := Lib.hid (fun m => SprMid.of blk J bb W k m wr HJ.out hJk hgz hbk (by omega) hring)
        rw [hj0] at HM
        have x0 := wAt_lt blk (k - 16)
        have x1 := wAt_lt blk (k - 15)
        have x2 := wAt_lt blk (k - 7)
        have x3 := wAt_lt blk (k - 2)
        have HA := Lib.hid (fun w => sg0_c (wAt blk (k - 15)) w x1)
        have HB := Lib.hid (fun w => sg1_c (wAt blk (k - 2)) w x3)
        have y1 := sg0_lt x1
        have y3 := sg1_lt x3
        have HE := Lib.hid (wAt_rec blk k hk16' hk64)
        have hrn := ringAt_new blk k
        rw [hj0] at hrn
        have HRN := Lib.hid hrn
        clear hrn
        have HP := Lib.hid (shWords_pre blk k hk64)
        have HN : Hid (∀ wq w', SprMid blk J bb W k wq → J (shWords blk k ++ [(k, wAt blk k)]) w' → Only (l :: L) wq w' → SprInv blk J bb W (.int .i64 ((k + 1 : Nat) : Int)) w') := Lib.hid (fun wq w' hm hJ' hO => hm.next hk64 hJ' hO hl2 (by omega) (fun i hi => by have := hL i hi; omega) hbL (by omega))
        generalize wAt blk (k - 16) = v0 at *
        generalize wAt blk (k - 15) = v1 at *
        generalize wAt blk (k - 7) = v2 at *
        generalize wAt blk (k - 2) = v3 at *
        generalize sg0 v1 = s1 at *
        generalize sg1 v3 = s3 at *
        generalize wAt blk k = vk at *
        have HJ0 := Lib.hid (And.intro hj0 (And.intro hj1 (And.intro hj2 hj3)))
        clear hj0 hj1 hj2 hj3 r0 r1 r2 r3
        have ne1 : (⟨W.heap.size, j0, none⟩ : Addr) ≠ ⟨W.heap.size, j1, none⟩ := addr_ne _ (by have := HJ0.out; omega)
        have ne2 : (⟨W.heap.size, j0, none⟩ : Addr) ≠ ⟨W.heap.size, j2, none⟩ := addr_ne _ (by have := HJ0.out; omega)
        have ne3 : (⟨W.heap.size, j0, none⟩ : Addr) ≠ ⟨W.heap.size, j3, none⟩ := addr_ne _ (by have := HJ0.out; omega)
        have i0 : (0 : Int) ≤ (j0 : Int) ∧ (j0 : Int) < 16 := by omega
        have i1 : (0 : Int) ≤ (j1 : Int) ∧ (j1 : Int) < 16 := by omega
        have i2 : (0 : Int) ≤ (j2 : Int) ∧ (j2 : Int) < 16 := by omega
        have i3 : (0 : Int) ≤ (j3 : Int) ∧ (j3 : Int) < 16 := by omega
        obtain ⟨i0, i0'⟩ := i0
        obtain ⟨i1, i1'⟩ := i1
        obtain ⟨i2, i2'⟩ := i2
        obtain ⟨i3, i3'⟩ := i3
        have g1 : IntKind.i64.wrap ((k : Int) + 1) = (k : Int) + 1 := IntWalk.i64_in _ (by omega)
        have g2 : IntKind.i64.wrap ((k : Int) + 9) = (k : Int) + 9 := IntWalk.i64_in _ (by omega)
        have g3 : IntKind.i64.wrap ((k : Int) + 14) = (k : Int) + 14 := IntWalk.i64_in _ (by omega)
        have t1 : ((k : Int) + 1).tmod 16 = j1 := by rw [Int.tmod_eq_emod_of_nonneg (by omega)]; exact e1
        have t2 : ((k : Int) + 9).tmod 16 = j2 := by rw [Int.tmod_eq_emod_of_nonneg (by omega)]; exact e2
        have t3 : ((k : Int) + 14).tmod 16 = j3 := by rw [Int.tmod_eq_emod_of_nonneg (by omega)]; exact e3
        have k0 : (0 : Int) ≤ (k : Int) + 1 := by omega
        have k9 : (0 : Int) ≤ (k : Int) + 9 := by omega
        have k14 : (0 : Int) ≤ (k : Int) + 14 := by omega
        have HV : Hid (((v0 : Int) + ((s1 : Int) + v2 + s3) % 4294967296) % 4294967296 = (vk : Int)) := Lib.hid (by
          have := HE.out
          omega)
        clear hring
        gi_upto_region 7 with (fail)
        refine wpIn_wide.2 ?_
        refine wp_region_quiet_tail 24 (by kernel_rfl) (by kernel_rfl) ?_
        simp only [List.take_succ_cons, List.take_zero, List.drop_succ_cons, List.drop_zero]
        repeat (go_big_quiet_step (first | (go_at_call 177; with_reducible exact Calls.quiet_of (HA.out _)) | (go_at_call 177; with_reducible exact Calls.quiet_of (HB.out _))))
        refine wpQuiet_nil ?_
        intro nq
        rw [HV.out]
        go_wp2
        have hm := HM.out nq
        obtain ⟨wq, hwq⟩ : ∃ wq, (wr.drewN nq).setCell ⟨W.heap.size, j0, none⟩ (.int .u32 vk) = wq := ⟨_, rfl⟩
        rw [hwq] at hm ⊢
        clear hwq
        have hcell := (hm.ring j0 b0).1
        rw [HRN.out] at hcell
        gi_wp2
        obtain ⟨fn, tmps, assign, body, hy, hR⟩ := HY.out _ (k, vk) _ hm.j HP.out
        simp only [encW] at hy
        rw [hy]
        refine ⟨(fun h => by cases h), hR.mono ?_⟩
        rintro e W' ⟨rfl, hJ', hO⟩
        gi_wp2
        go_roundw
        case rel => exact HN.out _ _ hm hJ' hO
        case measure => simp [intOf]; omega
    · obtain rfl : k = 64 := by omega
      gi_wp2
      go_end0
      exact ⟨⟨_, rfl⟩, hJk⟩
end Go.Proofs.YtebllmpdlapefaaGreatDoor
