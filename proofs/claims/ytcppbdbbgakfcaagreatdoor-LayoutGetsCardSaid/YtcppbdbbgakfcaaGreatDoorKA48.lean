/- The document's Next and Get of layouts. -/
import Derived.Test.YtcppbdbbgakfcaaGreatDoorKA46
import Derived.Test.YtcppbdbbgakfcaaGreatDoorKA47
import Derived.Test.YtcppbdbbgakfcaaGreatDoorKA37
set_option linter.unusedVariables false
set_option linter.unusedSimpArgs false
set_option maxRecDepth 100000
set_option maxHeartbeats 4000000
namespace Go.Proofs.YtcppbdbbgakfcaaGreatDoor
open Go.RowKit
theorem refLyNext_c (ty : Ty) (s : ByteArray) (M : Int) (B : Nat) (w : World) (t0 t1 t2 t3 : Value) (hT : TyIn w B ty t0 t1 t2 t3) (hB : B ≤ w.heap.size) (hct : ty.count ≤ 4611686018427387904) (hs : s.size ≤ 1099511627776) :
 Calls Tryz.prog 15 #[.agg #[t0, t1, t2, t3], .string s, .int .i64 M] w fun e w' => LnEnd w w' (lyNext ty s M) e := by
 obtain ⟨W, hW⟩ : ∃ W, (w.alloc (.cells #[t0, t1, t2, t3] 24)).alloc (.cells #[.string ⟨#[]⟩, .bool false, .slice none 0 0] 27) = W := ⟨_, rfl⟩
 obtain ⟨hz, hb, h4, h5⟩ := box2 hW
 have hT2 := hT.below (hb.mono hB)
 have HF := Lib.hid (refFlat_c ty B W t0 t1 t2 t3 hT2 (by omega) hct)
 have HT2 := Lib.hid hT2
 have H4 := Lib.hid h4
 have H5 := Lib.hid h5
 have HB := Lib.hid hb
 have HZ := Lib.hid hz
 have HW := Lib.hid hW
 obtain ⟨q0, q1, q2, q3, _⟩ := blk4 h4
 obtain ⟨A, cap, rfl, rfl, rfl, rfl, _⟩ := hT.open_
 have HN : Hid (lyNext ty s M = if ty.flat = false then (1, noIt, 0) else if (lyRd ty s M).e ≠ 0 then ((lyRd ty s M).e, noIt, 0) else (0, (lyRd ty s M).x, s.size - (lyRd ty s M).q.length)) := Lib.hid rfl
 have HFP := Lib.hid (fun h => flat_parts (t := ty) h)
 generalize lyNext ty s M = R at *
 clear hT hT2 h4 h5 hb hz hW
 go_enter Tryz.func15, Tryz.ntmps15
 go_wp2_with fail
 rw [HW.out]
 refine HF.out.mono ?_
 rintro e w1 ⟨rfl, hb1⟩
 have h4 := H4.out.keep hb1 (by have := HZ.out; omega)
 have h5 := H5.out.keep hb1 (by have := HZ.out; omega)
 have HT1 := Lib.hid (HT2.out.below (hb1.mono (by have := HZ.out; omega)))
 have hz1 : w.heap.size + 2 ≤ w1.heap.size := by have := hb1.size; have := HZ.out; omega
 have HBW : Hid (Below w.heap.size w w1) := Lib.hid (HB.out.trans (hb1.mono (by have := HZ.out; omega)))
 have H51 := Lib.hid h5
 have H41 := Lib.hid h4
 clear q0 q1 q2 q3 hb1
 obtain ⟨q0, q1, q2, q3, _⟩ := blk4 h4
 obtain ⟨p0, p1, p2, pf0, pf1, pf2⟩ := blk3 h5
 clear h4 h5
 cases hfl : ty.flat with
 | false =>
  rw [hfl, if_pos rfl] at HN
  obtain ⟨y0, y1, y2⟩ := set3_part H51.out (.string ⟨#[]⟩) (.bool false) (.slice none 0 0)
  go_wp2
  refine bodyPost_ret (v := .tuple #[.agg #[.string ⟨#[]⟩, .bool false, .slice none 0 0], .int .i64 0, .int .i64 1]) (by simp [results, Tryz.results15, go_sem, y0, y1, y2]) rfl ?_
  rw [HN.out]
  exact ⟨(((HBW.out.setCell (by simp) _).setCell (by simp) _).setCell (by simp) _), _, _, _, rfl, noIt_S _ _⟩
 | true =>
  rw [hfl, if_neg (by simp)] at HN
  obtain ⟨_, hr, _, _, _⟩ := HFP.out hfl
  obtain ⟨W4, hW4⟩ : ∃ W4, w1.alloc (.cells #[.string s, .int .i64 0, .int .i64 0] 75) = W4 := ⟨_, rfl⟩
  have hb4 : Below w1.heap.size w1 W4 := by rw [← hW4]; exact (by repeat (first | exact Below.refl _ _ | assumption | with_reducible refine Below.drewN' ?_ _ | with_reducible refine Below.drew ?_ | ((with_reducible refine Below.alloc' ?_ ?_ _); · (first | omega | (simp <;> omega)))))
  have hrd : Rd1 W4 w1.heap.size s 0 0 := by rw [← hW4]; exact Blk.new w1 _ _
  have h44 : W4.heap.size = w1.heap.size + 1 := by rw [← hW4]; simp
  have HV := Lib.hid (red_c ty B W4 _ _ _ _ w1.heap.size s 0 0 M (HT1.out.below (hb4.mono (by omega))) (by omega) (by omega) hr hrd (by omega) hs (by omega))
  rw [List.drop_zero] at HV
  change Hid (Calls _ _ _ _ fun e w' => RedEnd W4 _ s (lyRd ty s M) e w') at HV
  have H44 := Lib.hid h44
  have HB4 := Lib.hid hb4
  have HW4 := Lib.hid hW4
  have hlw0 : w.heap.size < w1.heap.size := by omega
  clear hrd hb4 hW4 h44
  generalize lyRd ty s M = L at *
  go_wp2_with fail
  refine (of1_c s w1).mono ?_
  rintro e w' ⟨rfl, rfl⟩
  rw [HW4.out]
  clear q0 q1 q2 q3
  obtain ⟨q0, q1, q2, q3, _⟩ := blk4 (H41.out.keep HB4.out (by omega))
  go_wp2_with fail
  refine HV.out.mono ?_
  rintro e w2 ⟨X, c0, c1, c2, k', m', rfl, hX, hly, ho, hk', hcond⟩
  obtain ⟨ax, bx, rfl, rfl, rfl, _⟩ := hX.open_
  have h44 := H44.out
  have hb24 : Below w1.heap.size W4 w2 := ho.below (by omega) (by simp)
  have h5 := (H51.out.keep HB4.out (by omega)).keep hb24 (by omega)
  have HBB : Hid (Below w.heap.size w w2) := Lib.hid (HBW.out.trans ((HB4.out.trans hb24).mono (by omega)))
  have HX := Lib.hid (hX.weak (S' := (w.heap.size + 2 ≤ ·)) (fun _ _ h => by omega))
  have HCD := Lib.hid hcond
  have H5 := Lib.hid h5
  have r1 : w2.cell? ⟨w1.heap.size, 1, none⟩ = some (.int .i64 k') := hly.cell 1
  have r2 : w2.cell? ⟨w1.heap.size, 2, none⟩ = some (.int .i64 L.e) := hly.cell 2
  have hlb : w1.heap.size < w2.heap.size := Blk.lt (show Blk w2 w1.heap.size _ _ from hly)
  have hlwb : w.heap.size + 1 < w2.heap.size := h5.lt
  clear p0 p1 p2 pf0 pf1 pf2 q0 q1 q2 q3 hX hly ho hcond hb24 h44
  obtain ⟨p0, p1, p2, pf0, pf1, pf2⟩ := blk3 h5
  clear h5
  by_cases hE : L.e = 0
  ·have hE1 : (L.e != 0) = false := by simp [hE]
   go_wp2_with fail
   go_region
   obtain ⟨y0, y1, y2, _⟩ := blk3 (((put3 H5.out (.string X.text) (.bool X.list) (.slice ax X.sub.length bx)).alloc (.cells #[.string X.text, .bool X.list, .slice ax X.sub.length bx] 27)).drew)
   rw [if_neg (by simp [hE])] at HN
   obtain ⟨g1, g2, g3⟩ := HCD.out hE
   have HNN : Hid (R = (0, X, k')) := Lib.hid (by rw [HN.out, g1, g2, List.length_drop, toList_size]; congr 2; omega)
   go_wp2
   refine bodyPost_ret (v := .tuple #[.agg #[.string X.text, .bool X.list, .slice ax X.sub.length bx], .int .i64 k', .int .i64 0]) (by simp [results, Tryz.results15, go_sem, y0, y1, y2]) rfl ?_
   rw [HNN.out]
   exact ⟨((((HBB.out.setCell (by simp) _).setCell (by simp) _).setCell (by simp) _).alloc (by simp [World.setCell] <;> omega) _).drew, _, _, _, rfl, HX.out.only (L := [w.heap.size + 1]) (((((Only.refl _ w2).setCell (by simp) _).setCell (by simp) _).setCell (by simp) _).alloc _).drew (by simp) (fun _ _ h => by omega)⟩
  ·have hE1 : (L.e != 0) = true := bne_iff_ne.2 hE
   rw [if_pos hE] at HN
   go_wp2_with fail
   go_region
   obtain ⟨y0, y1, y2, _⟩ := blk3 (((put3 H5.out (.string ⟨#[]⟩) (.bool false) (.slice none 0 0)).alloc (.cells #[.string X.text, .bool X.list, .slice ax X.sub.length bx] 27)).drew)
   go_wp2
   refine bodyPost_ret (v := .tuple #[.agg #[.string ⟨#[]⟩, .bool false, .slice none 0 0], .int .i64 0, .int .i64 L.e]) (by simp [results, Tryz.results15, go_sem, y0, y1, y2]) rfl ?_
   rw [HN.out]
   exact ⟨((((HBB.out.setCell (by simp) _).setCell (by simp) _).setCell (by simp) _).alloc (by simp [World.setCell] <;> omega) _).drew, _, _, _, rfl, noIt_S _ _⟩
theorem refLyGet_c (ty : Ty) (s : ByteArray) (M : Int) (B : Nat) (w : World) (t0 t1 t2 t3 : Value) (hT : TyIn w B ty t0 t1 t2 t3) (hB : B ≤ w.heap.size) (hct : ty.count ≤ 4611686018427387904) (hs : s.size ≤ 1099511627776) :
 Calls Tryz.prog 16 #[.agg #[t0, t1, t2, t3], .string s, .int .i64 M] w fun e w' => GtEnd w w' (lyGet ty s M).2 (lyGet ty s M).1 e := by
 obtain ⟨W, hW⟩ : ∃ W, (w.alloc (.cells #[t0, t1, t2, t3] 24)).alloc (.cells #[.string ⟨#[]⟩, .bool false, .slice none 0 0] 27) = W := ⟨_, rfl⟩
 obtain ⟨hz, hb, h4, h5⟩ := box2 hW
 have hT2 := hT.below (hb.mono hB)
 have HN := Lib.hid (refLyNext_c ty s M B W t0 t1 t2 t3 hT2 (by omega) hct hs)
 have H5 := Lib.hid h5
 have HB := Lib.hid hb
 have HZ := Lib.hid hz
 have HW := Lib.hid hW
 obtain ⟨q0, q1, q2, q3, _⟩ := blk4 h4
 obtain ⟨A, cap, rfl, rfl, rfl, rfl, _⟩ := hT.open_
 have HG : Hid (lyGet ty s M = if (lyNext ty s M).1 ≠ 0 then ((lyNext ty s M).1, noIt) else if (lyNext ty s M).2.2 < s.size then (3, noIt) else (0, (lyNext ty s M).2.1)) := Lib.hid rfl
 generalize lyGet ty s M = R at *
 generalize lyNext ty s M = N at *
 obtain ⟨E, X, n⟩ := N
 clear hT hT2 h4 h5 hb hz hW
 simp only at HG
 go_enter Tryz.func16, Tryz.ntmps16
 go_wp2_with fail
 rw [HW.out]
 refine HN.out.mono ?_
 rintro e w1 ⟨hb1, d0, d1, d2, rfl, hX⟩
 simp only at hX ⊢
 obtain ⟨ax, bx, rfl, rfl, rfl, _⟩ := hX.open_
 have h5 := H5.out.keep hb1 (by have := HZ.out; omega)
 have HX := Lib.hid (hX.weak (S' := (w.heap.size + 2 ≤ ·)) (fun _ _ h => by have := HZ.out; omega))
 have HBW : Hid (Below w.heap.size w w1) := Lib.hid (HB.out.trans (hb1.mono (by have := HZ.out; omega)))
 have hlw : w.heap.size + 1 < w1.heap.size := h5.lt
 have H51 := Lib.hid h5
 clear q0 q1 q2 q3 hb1 hX
 obtain ⟨p0, p1, p2, pf0, pf1, pf2⟩ := blk3 h5
 clear h5
 obtain ⟨x0, x1, x2, _⟩ := blk3 ((put3 H51.out (.string ⟨#[]⟩) (.bool false) (.slice none 0 0)).alloc (.cells #[.string X.text, .bool X.list, .slice ax X.sub.length bx] 27))
 obtain ⟨y0, y1, y2, _⟩ := blk3 ((put3 H51.out (.string X.text) (.bool X.list) (.slice ax X.sub.length bx)).alloc (.cells #[.string X.text, .bool X.list, .slice ax X.sub.length bx] 27))
 rcases beq0 E with ⟨he, k1, k2⟩ | ⟨he, k1, k2⟩
 ·subst he
  rw [if_neg (by simp)] at HG
  by_cases hn : n < s.size
  ·rw [if_pos hn] at HG
   go_wp2
   refine bodyPost_ret (v := .tuple #[.agg #[.string ⟨#[]⟩, .bool false, .slice none 0 0], .int .i64 3]) (by simp [results, Tryz.results16, go_sem, x0, x1, x2]) rfl ?_
   rw [HG.out]
   exact ⟨((((HBW.out.setCell (by simp) _).setCell (by simp) _).setCell (by simp) _).alloc (by simp [World.setCell] <;> omega) _), _, _, _, rfl, noIt_S _ _⟩
  ·rw [if_neg hn] at HG
   go_wp2
   refine bodyPost_ret (v := .tuple #[.agg #[.string X.text, .bool X.list, .slice ax X.sub.length bx], .int .i64 0]) (by simp [results, Tryz.results16, go_sem, y0, y1, y2]) rfl ?_
   rw [HG.out]
   exact ⟨((((HBW.out.setCell (by simp) _).setCell (by simp) _).setCell (by simp) _).alloc (by simp [World.setCell] <;> omega) _), _, _, _, rfl, HX.out.only (L := [w.heap.size + 1]) (((((Only.refl _ w1).setCell (by simp) _).setCell (by simp) _).setCell (by simp) _).alloc _) (by simp) (fun _ _ h => by omega)⟩
 ·rw [if_pos he] at HG
  go_wp2
  refine bodyPost_ret (v := .tuple #[.agg #[.string ⟨#[]⟩, .bool false, .slice none 0 0], .int .i64 E]) (by simp [results, Tryz.results16, go_sem, x0, x1, x2]) rfl ?_
  rw [HG.out]
  exact ⟨((((HBW.out.setCell (by simp) _).setCell (by simp) _).setCell (by simp) _).alloc (by simp [World.setCell] <;> omega) _), _, _, _, rfl, noIt_S _ _⟩
end Go.Proofs.YtcppbdbbgakfcaaGreatDoor
