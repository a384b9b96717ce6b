/- hexes.Dump. -/
import Derived.Test.YtcidcjghglgkhaaHexDumpP
import Derived.Test.YtcidcjghglgkhaaBuilder
namespace Go.Proofs.Ytcidcjghglgkhaa
set_option linter.unusedVariables false
set_option linter.unusedSimpArgs false
open Go.RowKit Go.Shelf
attribute [local go_sem] Oper.semAt_some

theorem KeptB.others {E : TypeId} {base b : Nat} {w w' : World} (h : KeptB E base b w w') (hb : ∃ cs t fr, w.heap[b]? = some (.cells cs t fr)) : KeepsOthers w w' :=
  ⟨h.size, fun k o hk ho => h.other k o hk (by
    rintro rfl
    obtain ⟨cs, t, fr, hc⟩ := hb
    rw [hc] at hk
    injection hk with hk
    subst hk
    cases ho) (by rintro cs fr rfl; cases ho)⟩
theorem Buf.from {w : World} {base : Nat} {E : TypeId} {v : Value} {l : List UInt8} (h : Buf w base E v l) {g o n c : Nat} (hv : v = .slice (some ⟨g, o, none⟩) n c) : base ≤ g := by
  obtain ⟨A, cap, h1, h2, h3, h4⟩ := h
  rw [h1] at hv
  injection hv with hA _ _
  rcases h4 with ⟨h4, _⟩ | ⟨g', cur, fr, hA', hg, _⟩
  · rw [h4] at hA; cases hA
  · rw [hA'] at hA
    injection hA with hA
    injection hA with hA
    omega
theorem Buf.grown {w w' : World} {base : Nat} {E : TypeId} {v : Value} {l : List UInt8} {row : Option Nat} (h : Buf w base E v l) (hg : w.grownBy w' row) (hr : ∀ r, row = some r → ∃ o : Obj, w.heap[r]? = some o ∧ o.isCells = false) : Buf w' base E v l := by
  obtain ⟨A, cap, h1, h2, h3, h4⟩ := h
  refine ⟨A, cap, h1, h2, h3, ?_⟩
  rcases h4 with h4 | ⟨g, cur, fr, hA, hgb, hh, r⟩
  · exact .inl h4
  · refine .inr ⟨g, cur, fr, hA, hgb, (hg.block g (Array.getElem?_eq_some_iff.1 hh).1 ?_).trans hh, r⟩
    intro e
    obtain ⟨o, ho, hc⟩ := hr g e.symm
    rw [hh] at ho
    injection ho with ho
    subst ho
    cases hc
/-- Between two rounds of Dump. -/
structure DmpInv (l : List UInt8) (w : World) (pre : List Nat) (W : World) : Prop where
  at_ : Blk W (w.heap.size + 1) 3 #[.int .i64 (dmpF l pre).1]
  bld : Bld W (w.heap.size + 5) w.heap.size (dmpF l pre).2
  row : RdAt W (w.heap.size + 2) 0 l
  below : Below w.heap.size w W
  size : w.heap.size + 5 ≤ W.heap.size
theorem DmpInv.grown {l : List UInt8} {w W W' : World} {pre : List Nat} {row : Option Nat} (h : DmpInv l w pre W) (hg : W.grownBy W' row) (hr : ∀ r, row = some r → w.heap.size + 5 ≤ r ∧ ∃ o : Obj, W.heap[r]? = some o ∧ o.isCells = false) : DmpInv l w pre W' := by
  have hs := h.size
  have hk : ∀ k, k < w.heap.size + 5 → W'.heap[k]? = W.heap[k]? := fun k hk => hg.block k (by omega) (fun e => by have := (hr k e.symm).1; omega)
  obtain ⟨hb, p, v, hblk, hp, hbuf, hnil⟩ := h.bld
  have hB : Below (w.heap.size + 5) W W' := ⟨hg.os, hg.tape, hg.output, hg.size, fun k hk' => hk k hk'⟩
  exact ⟨(hk _ (by omega)).trans h.at_, ⟨hb, p, v, (hk _ hb).trans hblk, hp, hbuf.grown hg (fun r e => (hr r e).2), hnil⟩, h.row.below hB (by omega), h.below.trans (hB.mono (by omega)), Nat.le_trans hs hg.size⟩
set_option maxRecDepth 100000 in
set_option maxHeartbeats 1000000 in
theorem dump_c (s : ByteArray) (w : World) (hs : s.size ≤ 100000) :
    Calls Try.prog 38 #[.string s] w fun e w' => e = .returned (.string ⟨(dumpL s.data.toList).toArray⟩) ∧ Below w.heap.size w w' := by
  refine (callsIn_wide (n := 5)).1 ?_
  refine callsIn_of_wp_marks Try.func38 rfl trivial ?_ rfl
  simp only [Try.ntmps38, List.size_toArray, List.length_cons, List.length_nil, Nat.reduceAdd, Nat.reduceSub, Array.replicate_succ, Array.replicate_zero, List.push_toArray, List.append_toArray, List.nil_append, List.cons_append]
  have kc := fun (w : World) (s : ByteArray) => Lib.run_convert_string_bytes (P := Try.prog) w 9 80 5 s Try.underlying9 Try.underlying80 Try.underlying5
  gi_wp2_with fail
  obtain ⟨cap, hcap⟩ : ∃ cap, grownCap ((w.alloc (.cells #[.pointer none, .slice none 0 0] 95)).alloc (.cells #[.int .i64 0] 3)) s.size 0 5 = cap := ⟨_, rfl⟩
  have hbuf0 := Buf.conv ((w.alloc (.cells #[.pointer none, .slice none 0 0] 95)).alloc (.cells #[.int .i64 0] 3)) 0 5 s (Nat.zero_le _) (by omega)
  have hz0 : (Lib.bytesWorld ((w.alloc (.cells #[.pointer none, .slice none 0 0] 95)).alloc (.cells #[.int .i64 0] 3)) 5 s).heap.size = w.heap.size + 3 := by rw [Lib.bytesWorld_size]; simp
  have hbw := Lib.bytesWorld_below ((w.alloc (.cells #[.pointer none, .slice none 0 0] 95)).alloc (.cells #[.int .i64 0] 3)) 5 s
  rw [hcap] at hbuf0 ⊢
  generalize Lib.bytesWorld ((w.alloc (.cells #[.pointer none, .slice none 0 0] 95)).alloc (.cells #[.int .i64 0] 3)) 5 s = w1 at *
  refine ⟨trivial, (callsIn_wide.2 (chunk_c _ 16 w1 (by omega) (by omega) _ _ _ rfl)).mono ?_⟩
  rintro e w2 ⟨rfl, rfl⟩
  rw [hz0]
  gi_wp2_with fail
  obtain ⟨W0, hW0⟩ : ∃ W0, (w1.alloc (.cells #[.slice (some ⟨w.heap.size + 1 + 1, 0, none⟩) s.size cap] 80)).alloc (.cells #[.int .i64 16] 3) = W0 := ⟨_, rfl⟩
  have hzW : W0.heap.size = w.heap.size + 5 := by rw [← hW0]; simp [hz0]
  have hB0 : Blk W0 (w.heap.size + 3) 80 #[.slice (some ⟨w.heap.size + 2, 0, none⟩) s.size cap] := by
    rw [← hW0, ← hz0]; exact (Blk.new w1 _ _).alloc _
  have hB1 : Blk W0 (w.heap.size + 3 + 1) 3 #[.int .i64 (16 : Nat)] := by
    rw [← hW0, ← hz0]; have := Blk.new (w1.alloc (.cells #[.slice (some ⟨w.heap.size + 1 + 1, 0, none⟩) s.size cap] 80)) 3 #[.int .i64 16]; simpa using this
  rw [hW0]
  refine wpIn_rangeFunc_ownF rfl (by omega) (gf := 83) (lb := #[.pointer (some ⟨w.heap.size + 3, 0, none⟩), .pointer (some ⟨w.heap.size + 3 + 1, 0, none⟩)]) rfl trivial (enters_of Try.func83 (by kernel_rfl) rfl)
    (chunk_stops _ (w.heap.size + 3) (w.heap.size + 2) s.size cap 16 W0 (by omega) (by omega) (by omega) (by have := hbuf0.len; omega) (by have := hbuf0.len; omega) hB0 hB1) (fun h k => h.trans k) ?kb (Below.refl _ _) (fun _ => rfl) (DmpInv s.data.toList w) (fun _ _ _ => False) ?hI ?hIx ?h0 ?a1 ?assign ?body ?done ?stop
  case kb => exact fun W l o o' hl h _ _ => KeepB.below (belowK_b (n₀ := W0.heap.size) (Nat.le_refl _) W l o o' hl h ‹_› ‹_›) (by omega)
  case hI => exact fun pre W W' row hs hg hr => hs.grown hg (fun r e => by have := hr r e; rw [hzW] at this; exact this)
  case hIx => exact fun _ _ _ _ _ h _ _ => h
  case h0 =>
    have hb1 : Below (w.heap.size + 2) ((w.alloc (.cells #[.pointer none, .slice none 0 0] 95)).alloc (.cells #[.int .i64 0] 3)) W0 := by
      rw [← hW0]; exact (((hbw.mono (by simp)).alloc (by omega) _).alloc (by simp; omega) _)
    have hbl : Below w.heap.size w W0 := ((((Below.refl w.heap.size w).alloc (Nat.le_refl _) _).alloc (by simp) _).trans (hb1.mono (by omega)))
    have hw1 : Below w1.heap.size w1 W0 := by rw [← hW0]; exact (((Below.refl _ w1).alloc (Nat.le_refl _) _).alloc (by simp) _)
    refine ⟨?_, ⟨by omega, .pointer none, .slice none 0 0, ?_, .inl rfl, Buf.nil _ _ _, fun _ => rfl⟩, ⟨by omega, fun j hj => ?_⟩, hbl, by omega⟩
    · refine (hb1.block _ (by omega)).trans ?_
      have := Blk.new (w.alloc (.cells #[.pointer none, .slice none 0 0] 95)) 3 #[.int .i64 0]
      rw [World.size_alloc] at this
      exact this
    · exact (hb1.block _ (by omega)).trans ((Blk.new w 95 #[.pointer none, .slice none 0 0]).alloc _)
    · have := (hbuf0.at_ (k := j) hj).1
      simp only [World.size_alloc] at this
      rw [List.getD_eq_getElem?_getD, List.getElem?_eq_getElem hj] at this
      rw [Nat.zero_add]
      exact (hw1.cell (p := ⟨w.heap.size + 2, j, none⟩) (by simp; omega)).trans this
  case a1 => exact fun x => { tmps := #[.string s, undef, .string ⟨#[]⟩, .pointer (some ⟨w.heap.size, 0, none⟩), .pointer (some ⟨w.heap.size + 1, 0, none⟩), .slice (some ⟨w.heap.size + 2, x * 16, none⟩) (lenCh s.size 16 x) (lenCh s.size 16 x), .string s, .slice (some ⟨w.heap.size + 1 + 1, 0, none⟩) s.size cap, .func (.func 83) #[] #[.pointer (some ⟨w.heap.size + 3, 0, none⟩), .pointer (some ⟨w.heap.size + 3 + 1, 0, none⟩)], .slice (some ⟨w.heap.size + 2, x * 16, none⟩) (lenCh s.size 16 x) (lenCh s.size 16 x), undef, undef, undef, undef, undef, undef, undef, undef, undef], defers := [] }
  case assign =>
    intro l x W K hK
    simp only [encCh]
    gi_wp2
    exact hK
  case stop => exact fun D c pre W _ _ h _ => h.elim
  case body =>
    intro l pre x W hI hlen
    have hbd := dmpF_bound s.data.toList pre
    have hn := nCh_le s.size 16 (by omega)
    have hpl : (piece s.data.toList 16 x).length = lenCh s.size 16 x := by rw [piece_length, toList_size]
    have hl16 : lenCh s.size 16 x ≤ 16 := by unfold lenCh; omega
    have c0 : W.cell? ⟨w.heap.size + 1, 0, none⟩ = some (.int .i64 (dmpF s.data.toList pre).1) := hI.at_.cell 0
    have hL := line_c (dmpF s.data.toList pre).1 (w.heap.size + 2) (x * 16) (lenCh s.size 16 x) (piece s.data.toList 16 x) W (by omega) (hI.row.piece 16 x) (by omega) (by omega) (by omega)
    rw [hpl] at hL
    have HL := Lib.hid hL
    have HI := Lib.hid hI
    clear hL hI
    gi_wp2_with fail
    refine ⟨trivial, (CallsIn.inRound l (callsIn_wide.2 HL.out)).mono ?_⟩
    rintro e W1 ⟨A, n, c, rfl, hb1, hk1⟩
    have hz1 := hk1.size
    have hsz := HI.out.size
    have hB1' : Below W.heap.size W W1 := hk1.below
    have HBL : Hid (Bld W1 (w.heap.size + 5) w.heap.size (dmpF s.data.toList pre).2) := Lib.hid (by
      obtain ⟨hb, p, v, hblk, hp, hbuf, hnil⟩ := HI.out.bld
      exact ⟨hb, p, v, hblk.keep hB1' hblk.lt, hp, hbuf.below hB1', hnil⟩)
    have HW := Lib.hid (write_c w.heap.size (w.heap.size + 5) W1 (dmpF s.data.toList pre).2 (lineL (dmpF s.data.toList pre).1 (piece s.data.toList 16 x)) (.slice A n c) HBL.out (hb1.mono (Nat.zero_le _)) (fun g o n' c' e => by have := hb1.from e; omega) (fun h => by have := congrArg List.length h; rw [lineL_length] at this; simp at this) (by omega) (by rw [lineL_length]; omega))
    have HA1 : Hid (Blk W1 (w.heap.size + 1) 3 #[.int .i64 (dmpF s.data.toList pre).1]) := Lib.hid (HI.out.at_.keep hB1' HI.out.at_.lt)
    have HR1 : Hid (RdAt W1 (w.heap.size + 2) 0 s.data.toList) := Lib.hid (HI.out.row.below hB1' (by omega))
    have HK1 := Lib.hid hk1
    clear hb1 hk1
    gi_wp2_with fail
    refine ⟨trivial, (CallsIn.inRound l (callsIn_wide.2 HW.out)).mono ?_⟩
    rintro e W2 ⟨rfl, hbl2, hk2⟩
    have hz2 := hk2.size
    have hA2 : Blk W2 (w.heap.size + 1) 3 #[.int .i64 (dmpF s.data.toList pre).1] := hk2.blk HA1.out (by omega) (by decide)
    have c2 : W2.cell? ⟨w.heap.size + 1, 0, none⟩ = some (.int .i64 (dmpF s.data.toList pre).1) := hA2.cell 0
    have f2 := hA2.frozen 0
    have HF : Hid (DmpInv s.data.toList w (pre ++ [x]) (W2.setCell ⟨w.heap.size + 1, 0, none⟩ (.int .i64 ((dmpF s.data.toList pre).1 + lenCh s.size 16 x)))) := Lib.hid (by
      obtain ⟨hb, p, v, hblk, hp, hbuf, hnil⟩ := hbl2
      have hkk : Below w.heap.size W1 W2 := hk2.below (by omega) (Nat.le_refl _)
      refine ⟨?_, ?_, ⟨by simp [World.setCell]; omega, fun j hj => ?_⟩, ?_, by simp [World.setCell]; omega⟩
      · rw [dmpF_snoc]; simp only [dmpStep, hpl]; exact hA2.set 0 _
      · rw [dmpF_snoc]; exact ⟨hb, p, v, hblk.far (by simp) _, hp, hbuf.setB (by omega) 0 _, hnil⟩
      · refine (World.cell?_setCell_other _ _ _ _ (by intro h; have := congrArg Addr.block h; simp at this)).trans ?_
        exact (World.cell?_of_block (hk2.block (w.heap.size + 2) (by omega) (by omega))).trans (HR1.out.2 j hj)
      · exact ((HI.out.below.trans (hB1'.mono (by omega))).trans hkk).setCell (p := ⟨w.heap.size + 1, 0, none⟩) (by simp) _)
    have HKO : Hid (KeepsOthers W (W2.setCell ⟨w.heap.size + 1, 0, none⟩ (.int .i64 ((dmpF s.data.toList pre).1 + lenCh s.size 16 x))) ∧ KeepB (w.heap.size + 3) W (W2.setCell ⟨w.heap.size + 1, 0, none⟩ (.int .i64 ((dmpF s.data.toList pre).1 + lenCh s.size 16 x)))) := Lib.hid (by
      obtain ⟨hb, p, v, hblk, hp, hbuf, hnil⟩ := HBL.out
      have k1 : KeepsOthers W W1 := ⟨hz1, fun k o hk ho => (hB1'.block k (Array.getElem?_eq_some_iff.1 hk).1).trans hk⟩
      have k2 : KeepB (w.heap.size + 3) W1 W2 := ⟨hk2.block _ (by omega) (by omega), hk2.block _ (by omega) (by omega)⟩
      exact ⟨(k1.trans (hk2.others ⟨_, _, _, hblk⟩)).trans (KeepsOthers.setCell _ _ _), ((KeepB.below hB1' (by omega)).trans k2).trans ⟨Below.heap_setCell _ _ _ _ (by simp), Below.heap_setCell _ _ _ _ (by simp)⟩⟩)
    clear hbl2 hk2 hA2
    gi_wp2
    exact ⟨HKO.out.1, HKO.out.2, HF.out⟩
  case done =>
    rintro D ys W hD rfl hI hK
    have hb5 := dmpF_bound s.data.toList (List.range (nCh s.size 16))
    have hn5 := nCh_le s.size 16 (by omega)
    rw [List.length_range] at hb5
    have HS := Lib.hid (bldString_c w.heap.size (w.heap.size + 5) W _ hI.bld (by omega) (w.heap.size + 5) (Nat.le_refl _))
    have HI := Lib.hid hI
    clear hI
    gi_wp2_with fail
    refine ⟨trivial, (callsIn_wide.2 HS.out).mono ?_⟩
    rintro e W2 ⟨rfl, hb2, ho2⟩
    have hK2 := ho2 D _ hK rfl
    have hb3 : Below w.heap.size w W2 := HI.out.below.trans (hb2.mono (by omega))
    gi_wp2
    refine ⟨by simp, .inl ⟨_, _, rfl, run_takeDeferred hK2, ?_⟩⟩
    refine ⟨_, results_tmp rfl _ _ _, ?_, ?_⟩
    · show Ending.returned _ = Ending.returned _
      unfold dumpL
      rw [toList_size]
      rfl
    · exact hb3.trans (belowK_b (w := w) (Nat.le_refl _) W2 D _ _ (by omega) hK2 rfl rfl)
end Go.Proofs.Ytcidcjghglgkhaa
