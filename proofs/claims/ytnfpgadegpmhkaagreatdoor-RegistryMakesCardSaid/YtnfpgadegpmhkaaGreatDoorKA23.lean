/- layout.Next, layout.Get. -/
import Derived.Test.YtnfpgadegpmhkaaGreatDoorKA21
import Derived.Test.YtnfpgadegpmhkaaGreatDoorKA22
import Derived.Test.YtnfpgadegpmhkaaGreatDoorKA6
import Derived.Test.YtnfpgadegpmhkaaGreatDoorKA9
set_option linter.unusedVariables false
set_option linter.unusedSimpArgs false
set_option maxRecDepth 100000
set_option maxHeartbeats 4000000
namespace Go.Proofs.YtnfpgadegpmhkaaGreatDoor
open Go.RowKit
theorem at_c (g : Nat) (s : ByteArray) (k : Nat) (f : Int) (w : World) (h : Rdr w g s k f) :
 Calls Tryz.prog 119 #[.pointer (some ⟨g, 0, none⟩)] w fun e w' => e = .returned (.int .i64 k) ∧ w = w' := by
 have h1 := h.cell 1
 simp at h1
 clear h
 go_enter Tryz.func119, Tryz.ntmps119
 go_wp2
 go_ret
 exact ⟨rfl, rfl⟩
def LnEnd (w w' : World) (R : Int × It × Nat) (e : Ending) : Prop :=
 Below w.heap.size w w' ∧ ∃ d0 d1 d2, e = .returned (.tuple #[.agg #[d0, d1, d2], .int .i64 R.2.2, .int .i64 R.1]) ∧ ItS w' (w.heap.size ≤ ·) R.2.1 d0 d1 d2
theorem LyR.fresh {V : World} {s : ByteArray} {m : Int} {g : Nat} (hg : V.heap.size = g) : LyR (((V.alloc (.cells #[.string s, .int .i64 0, .int .i64 0] 197)).alloc (.cells #[.pointer (some ⟨g, 0, none⟩)] 167)).alloc (.cells #[.int .i64 m] 3)) g (g + 1 + 1) (g + 1) s 0 0 m :=
 ⟨(Blk.alloc (Blk.at_ hg) _).alloc _, Blk.at_ (by simp [hg]), Blk.alloc (Blk.at_ (by simp [hg])) _⟩
theorem lyNext_c (ty : Ty) (s : ByteArray) (M : Int) (B : Nat) (w : World) (t0 t1 t2 t3 : Value) (hT : TyIn w B ty t0 t1 t2 t3) (hB : B ≤ w.heap.size) (hL : Laid w) (hLC : LaidC w) (hs : s.size ≤ 1099511627776) :
 Calls Tryz.prog 79 #[.agg #[t0, t1, t2, t3], .string s, .int .i64 M] w fun e w' => LnEnd w w' (lyNext ty s M) e := by
 obtain ⟨W, hW⟩ : ∃ W, (w.alloc (.cells #[t0, t1, t2, t3] 55)).alloc (.cells #[.string ⟨#[]⟩, .bool false, .slice none 0 0] 28) = W := ⟨_, rfl⟩
 obtain ⟨hz, hb, h4, h5⟩ := box2 hW
 have hT2 := hT.below (hb.mono hB)
 have hp := hL.pos
 have hpc := hLC.pos
 have HF := Lib.hid (flat_c ty B W t0 t1 t2 t3 hT2 (by omega) (hL.below hb hp))
 have HT2 := Lib.hid hT2
 have HLC := Lib.hid (hLC.below hb hpc)
 have H4 := Lib.hid h4
 have H5 := Lib.hid h5
 have HB := Lib.hid hb
 have HZ := Lib.hid hz
 have HW := Lib.hid hW
 obtain ⟨q0, q1, q2, q3, _⟩ := blk4 h4
 obtain ⟨A, cap, rfl, rfl, rfl, rfl, _⟩ := hT.open_
 have HN : Hid (lyNext ty s M = if ty.flat = false then (1, noIt, 0) else if (lyRd ty s M).e ≠ 0 then ((lyRd ty s M).e, noIt, 0) else (0, (lyRd ty s M).x, s.size - (lyRd ty s M).q.length)) := Lib.hid rfl
 have HFP := Lib.hid (fun h => flat_parts (t := ty) h)
 generalize lyNext ty s M = R at *
 clear hT hT2 hL hLC h4 h5 hb hz hW
 go_enter Tryz.func79, Tryz.ntmps79
 go_wp2_with fail
 rw [HW.out]
 refine HF.out.mono ?_
 rintro e w1 ⟨rfl, hb1⟩
 have HB1 := Lib.hid hb1
 have h4 := H4.out.keep hb1 (by have := HZ.out; omega)
 have h5 := H5.out.keep hb1 (by have := HZ.out; omega)
 have HLC1 := Lib.hid (HLC.out.below hb1 (by have := HZ.out; omega))
 have HT1 := Lib.hid (HT2.out.below (hb1.mono (by have := HZ.out; omega)))
 have hz1 : w.heap.size + 2 ≤ w1.heap.size := by have := hb1.size; have := HZ.out; omega
 have HBW : Hid (Below w.heap.size w w1) := Lib.hid (HB.out.trans (hb1.mono (by have := HZ.out; omega)))
 have H41 := Lib.hid h4
 have H51 := Lib.hid h5
 clear q0 q1 q2 q3 hb1
 obtain ⟨q0, q1, q2, q3, _⟩ := blk4 h4
 obtain ⟨p0, p1, p2, pf0, pf1, pf2⟩ := blk3 h5
 clear h4 h5
 cases hfl : ty.flat with
 | false =>
  rw [hfl, if_pos rfl] at HN
  obtain ⟨y0, y1, y2⟩ := set3_part H51.out (.string ⟨#[]⟩) (.bool false) (.slice none 0 0)
  go_wp2
  refine bodyPost_ret (v := .tuple #[.agg #[.string ⟨#[]⟩, .bool false, .slice none 0 0], .int .i64 0, .int .i64 1]) (by simp [results, Tryz.results79, go_sem, y0, y1, y2]) rfl ?_
  rw [HN.out]
  exact ⟨(((HBW.out.setCell (by simp) _).setCell (by simp) _).setCell (by simp) _), _, _, _, rfl, noIt_S _ _⟩
 | true =>
  rw [hfl, if_neg (by simp)] at HN
  obtain ⟨_, hr, _, _, _⟩ := HFP.out hfl
  obtain ⟨W4, hW4⟩ : ∃ W4, (((w1.alloc (.cells #[.string s, .int .i64 0, .int .i64 0] 197)).alloc (.cells #[.pointer (some ⟨w1.heap.size, 0, none⟩)] 167)).alloc (.cells #[.int .i64 (min M 1024)] 3)).alloc (.cells (rdgC w1.heap.size (w1.heap.size + 1 + 1) (w1.heap.size + 1)) 174) = W4 := ⟨_, rfl⟩
  have hb4 : Below w1.heap.size w1 W4 := by rw [← hW4]; exact blw
  have hly : LyR W4 w1.heap.size (w1.heap.size + 1 + 1) (w1.heap.size + 1) s 0 0 (min M 1024 - (0 : Nat)) := by
   rw [← hW4, show (min M 1024 - ((0 : Nat) : Int)) = min M 1024 from by simp]
   exact (LyR.fresh (V := w1) rfl).below ((Below.refl _ _).alloc (Nat.le_refl _) _)
  have h44 : W4.heap.size = w1.heap.size + 4 := by rw [← hW4]; simp
  have HV := Lib.hid (value_c ty B W4 _ _ _ _ w1.heap.size (w1.heap.size + 1 + 1) (w1.heap.size + 1) s 0 0 (min M 1024) (HT1.out.below (hb4.mono (by omega))) (by omega) (by omega) (by omega) hr hly (by omega) hs (by omega) (HLC1.out.below hb4 (by omega)) (by omega) (by omega))
  rw [List.drop_zero] at HV
  change Hid (Calls _ _ _ _ fun e w' => ValEnd W4 _ _ _ s (min M 1024) (lyRd ty s M) e w') at HV
  have H44 := Lib.hid h44
  have HB4 := Lib.hid hb4
  have HW4 := Lib.hid hW4
  unfold rdgV at HV
  unfold rdgC at HW4
  have hlw0 : w.heap.size < w1.heap.size := by omega
  have hlw1 : w.heap.size < w1.heap.size + 1 := by omega
  have hlw2 : w.heap.size < w1.heap.size + 1 + 1 := by omega
  have hlw3 : w.heap.size < w1.heap.size + 1 + 1 + 1 := by omega
  clear hly hb4 hW4 h44
  generalize lyRd ty s M = L at *
  go_wp2_with fail
  refine (read_c s w1).mono ?_
  rintro e w' ⟨rfl, rfl⟩
  go_wp2_with fail
  rw [HW4.out]
  refine HV.out.mono ?_
  rintro e w2 ⟨X, c0, c1, c2, k', m', rfl, hX, hly, ho, hk', hcond⟩
  obtain ⟨ax, bx, rfl, rfl, rfl, _⟩ := hX.open_
  have h44 := H44.out
  have hb24 : Below w1.heap.size W4 w2 := ho.below (by omega) (by simp; omega)
  have h5 := (H51.out.keep HB4.out (by omega)).keep hb24 (by omega)
  have HBB : Hid (Below w.heap.size w w2) := Lib.hid (HBW.out.trans ((HB4.out.trans hb24).mono (by omega)))
  have HX := Lib.hid (hX.weak (S' := (w.heap.size + 2 ≤ ·)) (fun _ _ h => by omega))
  have HLY := Lib.hid hly
  have HCD := Lib.hid hcond
  have H5 := Lib.hid h5
  have r0 : w2.cell? ⟨w1.heap.size + 1, 0, none⟩ = some (.pointer (some ⟨w1.heap.size, 0, none⟩)) := hly.box.cell 0
  have hlb := hly.box.lt
  have hlwb : w.heap.size + 1 < w2.heap.size := h5.lt
  clear p0 p1 p2 pf0 pf1 pf2 q0 q1 q2 q3 hX hly ho hcond hb24 h44
  obtain ⟨p0, p1, p2, pf0, pf1, pf2⟩ := blk3 h5
  clear h5
  go_wp2_with fail
  refine (fault_c w1.heap.size s k' L.e _ (HLY.out.rdr.alloc _)).mono ?_
  rintro e w' ⟨rfl, rfl⟩
  by_cases hE : L.e = 0
  ·have hE1 : (L.e != 0) = false := by simp [hE]
   have HXB := Lib.hid (Blk.new w2 28 #[.string X.text, .bool X.list, .slice ax X.sub.length bx])
   have HBX := Lib.hid ((Below.refl w2.heap.size w2).alloc (Nat.le_refl _) (.cells #[.string X.text, .bool X.list, .slice ax X.sub.length bx] 28))
   generalize hW5 : w2.alloc (.cells #[.string X.text, .bool X.list, .slice ax X.sub.length bx] 28) = W5 at *
   have HK : Hid (∀ V : World, W5.heap[w2.heap.size]? = V.heap[w2.heap.size]? ∧ W5.heap[w1.heap.size + 1]? = V.heap[w1.heap.size + 1]? → V.cell? ⟨w2.heap.size, 0, none⟩ = some (.string X.text) ∧ V.cell? ⟨w2.heap.size, 1, none⟩ = some (.bool X.list) ∧ V.cell? ⟨w2.heap.size, 2, none⟩ = some (.slice ax X.sub.length bx) ∧ V.cell? ⟨w1.heap.size + 1, 0, none⟩ = some (.pointer (some ⟨w1.heap.size, 0, none⟩))) := Lib.hid (fun V hV => by
    have h1 : Blk V w2.heap.size 28 #[.string X.text, .bool X.list, .slice ax X.sub.length bx] := hV.1.symm.trans HXB.out
    have h2 : Blk V (w1.heap.size + 1) 167 #[.pointer (some ⟨w1.heap.size, 0, none⟩)] := hV.2.symm.trans ((HBX.out.block _ hlb).trans HLY.out.box)
    exact ⟨h1.cell 0, h1.cell 1, h1.cell 2, h2.cell 0⟩)
   have h51 := H5.out.keep HBX.out hlwb
   have H51 := Lib.hid h51
   have hlw5 : w.heap.size + 1 < W5.heap.size := h51.lt
   clear p0 p1 p2 pf0 pf1 pf2
   obtain ⟨p0, p1, p2, pf0, pf1, pf2⟩ := blk3 h51
   have HAT := Lib.hid (at_c w1.heap.size s k' L.e W5.drew (Blk.drew ((HBX.out.block _ HLY.out.rdr.lt).trans HLY.out.rdr)))
   clear h51
   go_wp2_with fail
   refine wp_region_last 5 (fun V => V.cell? ⟨w2.heap.size, 0, none⟩ = some (.string X.text) ∧ V.cell? ⟨w2.heap.size, 1, none⟩ = some (.bool X.list) ∧ V.cell? ⟨w2.heap.size, 2, none⟩ = some (.slice ax X.sub.length bx) ∧ V.cell? ⟨w1.heap.size + 1, 0, none⟩ = some (.pointer (some ⟨w1.heap.size, 0, none⟩))) (by kernel_rfl) (by kernel_rfl) ?_
   have hHeld := HK.out W5.drew ⟨rfl, rfl⟩
   refine GT.tk1 0 hHeld ?_
   refine GT.tk1 1 hHeld ?_
   refine GT.st1 2 (fun K hK => ?_)
   go_simp
   refine HAT.out.mono ?_
   rintro e w' ⟨rfl, rfl⟩
   go_wp2_with fail
   refine hK.out _ _ (HK.out W5.drew ⟨rfl, rfl⟩) (fun hHeld => ?_)
   clear hK K
   try simp only [Act.put, List.setIfInBounds_toArray, List.set_cons_zero, List.set_cons_succ]
   refine GT.st1 3 (fun K hK => ?_)
   go_simp
   have hk3 : W5.heap[w2.heap.size]? = (((W5.drew.setCell ⟨w.heap.size + 1, 0, none⟩ (.string X.text)).setCell ⟨w.heap.size + 1, 1, none⟩ (.bool X.list)).setCell ⟨w.heap.size + 1, 2, none⟩ (.slice ax X.sub.length bx)).heap[w2.heap.size]? ∧ W5.heap[w1.heap.size + 1]? = (((W5.drew.setCell ⟨w.heap.size + 1, 0, none⟩ (.string X.text)).setCell ⟨w.heap.size + 1, 1, none⟩ (.bool X.list)).setCell ⟨w.heap.size + 1, 2, none⟩ (.slice ax X.sub.length bx)).heap[w1.heap.size + 1]? := by
    rw [Below.heap_setCell _ _ _ _ (by simp; omega), Below.heap_setCell _ _ _ _ (by simp; omega), Below.heap_setCell _ _ _ _ (by simp; omega), Below.heap_setCell _ _ _ _ (by simp; omega), Below.heap_setCell _ _ _ _ (by simp; omega), Below.heap_setCell _ _ _ _ (by simp; omega)]
    exact ⟨rfl, rfl⟩
   refine hK.out _ _ (HK.out _ hk3) (fun hHeld => ?_)
   clear hK K
   try simp only [Act.put, List.setIfInBounds_toArray, List.set_cons_zero, List.set_cons_succ]
   refine GT.tk1 4 hHeld ?_
   refine GT.la1 5 ?_
   go_simp
   obtain ⟨y0, y1, y2⟩ := set3_part H51.out (.string X.text) (.bool X.list) (.slice ax X.sub.length bx)
   rw [if_neg (by simp [hE])] at HN
   obtain ⟨g1, g2, g3⟩ := HCD.out hE
   have HNN : Hid (R = (0, X, k')) := Lib.hid (by rw [HN.out, g1, g2, List.length_drop, toList_size]; congr 2; omega)
   clear hk3
   go_wp2
   refine bodyPost_ret (v := .tuple #[.agg #[.string X.text, .bool X.list, .slice ax X.sub.length bx], .int .i64 k', .int .i64 0]) (by simp [results, Tryz.results79, go_sem, y0, y1, y2]) rfl ?_
   rw [HNN.out]
   have hb5 : Below w.heap.size w W5 := HBB.out.trans (HBX.out.mono HBB.out.size)
   exact ⟨(((hb5.setCell (by simp) _).setCell (by simp) _).setCell (by simp) _).drew, _, _, _, rfl, (HX.out.below HBX.out).only (L := [w.heap.size + 1]) ((((Only.refl _ W5).setCell (by simp) _).setCell (by simp) _).setCell (by simp) _).drew (by simp) (fun _ _ h => by omega)⟩
  ·have hE1 : (L.e != 0) = true := bne_iff_ne.2 hE
   rw [if_pos hE] at HN
   obtain ⟨d0, d1, d2, _⟩ := blk3 ((put3 H5.out (.string ⟨#[]⟩) (.bool false) (.slice none 0 0)).alloc (.cells #[.string X.text, .bool X.list, .slice ax X.sub.length bx] 28))
   go_wp2
   refine bodyPost_ret (v := .tuple #[.agg #[.string ⟨#[]⟩, .bool false, .slice none 0 0], .int .i64 0, .int .i64 L.e]) (by simp [results, Tryz.results79, go_sem, d0, d1, d2]) rfl ?_
   rw [HN.out]
   exact ⟨((((HBB.out.setCell (by simp) _).setCell (by simp) _).setCell (by simp) _).alloc (by simp [World.setCell] <;> omega) _), _, _, _, rfl, noIt_S _ _⟩
theorem lyGet_c (ty : Ty) (s : ByteArray) (M : Int) (B : Nat) (w : World) (t0 t1 t2 t3 : Value) (hT : TyIn w B ty t0 t1 t2 t3) (hB : B ≤ w.heap.size) (hL : Laid w) (hLC : LaidC w) (hs : s.size ≤ 1099511627776) :
 Calls Tryz.prog 48 #[.agg #[t0, t1, t2, t3], .string s, .int .i64 M] w fun e w' => GtEnd w w' (lyGet ty s M).2 (lyGet ty s M).1 e := by
 obtain ⟨W, hW⟩ : ∃ W, (w.alloc (.cells #[t0, t1, t2, t3] 55)).alloc (.cells #[.string ⟨#[]⟩, .bool false, .slice none 0 0] 28) = W := ⟨_, rfl⟩
 obtain ⟨hz, hb, h4, h5⟩ := box2 hW
 have hT2 := hT.below (hb.mono hB)
 have HN := Lib.hid (lyNext_c ty s M B W t0 t1 t2 t3 hT2 (by omega) (hL.below hb hL.pos) (hLC.below hb hLC.pos) hs)
 have H5 := Lib.hid h5
 have HB := Lib.hid hb
 have HZ := Lib.hid hz
 have HW := Lib.hid hW
 obtain ⟨q0, q1, q2, q3, _⟩ := blk4 h4
 obtain ⟨A, cap, rfl, rfl, rfl, rfl, _⟩ := hT.open_
 have HG : Hid (lyGet ty s M = if (lyNext ty s M).1 ≠ 0 then ((lyNext ty s M).1, noIt) else if (lyNext ty s M).2.2 < s.size then (3, noIt) else (0, (lyNext ty s M).2.1)) := Lib.hid rfl
 generalize lyGet ty s M = R at *
 generalize lyNext ty s M = N at *
 obtain ⟨E, X, n⟩ := N
 clear hT hT2 h4 h5 hb hz hW
 simp only at HG
 go_enter Tryz.func48, Tryz.ntmps48
 go_wp2_with fail
 rw [HW.out]
 refine HN.out.mono ?_
 rintro e w1 ⟨hb1, d0, d1, d2, rfl, hX⟩
 simp only at hX ⊢
 obtain ⟨ax, bx, rfl, rfl, rfl, _⟩ := hX.open_
 have h5 := H5.out.keep hb1 (by have := HZ.out; omega)
 have HX := Lib.hid (hX.weak (S' := (w.heap.size + 2 ≤ ·)) (fun _ _ h => by have := HZ.out; omega))
 have HBW : Hid (Below w.heap.size w w1) := Lib.hid (HB.out.trans (hb1.mono (by have := HZ.out; omega)))
 have hlw : w.heap.size + 1 < w1.heap.size := h5.lt
 have H51 := Lib.hid h5
 clear q0 q1 q2 q3 hb1 hX
 obtain ⟨p0, p1, p2, pf0, pf1, pf2⟩ := blk3 h5
 clear h5
 obtain ⟨x0, x1, x2, _⟩ := blk3 ((put3 H51.out (.string ⟨#[]⟩) (.bool false) (.slice none 0 0)).alloc (.cells #[.string X.text, .bool X.list, .slice ax X.sub.length bx] 28))
 obtain ⟨y0, y1, y2, _⟩ := blk3 ((put3 H51.out (.string X.text) (.bool X.list) (.slice ax X.sub.length bx)).alloc (.cells #[.string X.text, .bool X.list, .slice ax X.sub.length bx] 28))
 rcases beq0 E with ⟨he, k1, k2⟩ | ⟨he, k1, k2⟩
 ·subst he
  rw [if_neg (by simp)] at HG
  by_cases hn : n < s.size
  ·rw [if_pos hn] at HG
   go_wp2
   refine bodyPost_ret (v := .tuple #[.agg #[.string ⟨#[]⟩, .bool false, .slice none 0 0], .int .i64 3]) (by simp [results, Tryz.results48, go_sem, x0, x1, x2]) rfl ?_
   rw [HG.out]
   exact ⟨((((HBW.out.setCell (by simp) _).setCell (by simp) _).setCell (by simp) _).alloc (by simp [World.setCell] <;> omega) _), _, _, _, rfl, noIt_S _ _⟩
  ·rw [if_neg hn] at HG
   go_wp2
   refine bodyPost_ret (v := .tuple #[.agg #[.string X.text, .bool X.list, .slice ax X.sub.length bx], .int .i64 0]) (by simp [results, Tryz.results48, go_sem, y0, y1, y2]) rfl ?_
   rw [HG.out]
   exact ⟨((((HBW.out.setCell (by simp) _).setCell (by simp) _).setCell (by simp) _).alloc (by simp [World.setCell] <;> omega) _), _, _, _, rfl, HX.out.only (L := [w.heap.size + 1]) (((((Only.refl _ w1).setCell (by simp) _).setCell (by simp) _).setCell (by simp) _).alloc _) (by simp) (fun _ _ h => by omega)⟩
 ·rw [if_pos he] at HG
  go_wp2
  refine bodyPost_ret (v := .tuple #[.agg #[.string ⟨#[]⟩, .bool false, .slice none 0 0], .int .i64 E]) (by simp [results, Tryz.results48, go_sem, x0, x1, x2]) rfl ?_
  rw [HG.out]
  exact ⟨((((HBW.out.setCell (by simp) _).setCell (by simp) _).setCell (by simp) _).alloc (by simp [World.setCell] <;> omega) _), _, _, _, rfl, noIt_S _ _⟩
end Go.Proofs.YtnfpgadegpmhkaaGreatDoor
