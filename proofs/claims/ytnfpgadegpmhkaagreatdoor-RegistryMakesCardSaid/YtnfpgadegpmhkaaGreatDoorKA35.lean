/- package registry: the ways a value is laid and got (method values over caps). -/
import Derived.Test.YtnfpgadegpmhkaaGreatDoorKA23
import Derived.Test.YtnfpgadegpmhkaaGreatDoorKA28
import Derived.Test.YtnfpgadegpmhkaaGreatDoorKA33
import Derived.Test.YtnfpgadegpmhkaaGreatDoorKA3
set_option linter.unusedVariables false
set_option linter.unusedSimpArgs false
set_option maxRecDepth 100000
set_option maxHeartbeats 1000000
namespace Go.Proofs.YtnfpgadegpmhkaaGreatDoor
open Go.RowKit
theorem box5 {w W : World} {d m t0 t1 t2 t3 c0 c1 c2 : Value} (h : ((w.alloc (.cells #[d, m] 72)).alloc (.cells #[t0, t1, t2, t3] 55)).alloc (.cells #[c0, c1, c2] 28) = W) :
 W.heap.size = w.heap.size + 3 ∧ Below w.heap.size w W ∧ Blk W w.heap.size 72 #[d, m] ∧ Blk W (w.heap.size + 1) 55 #[t0, t1, t2, t3] ∧ Blk W (w.heap.size + 1 + 1) 28 #[c0, c1, c2] := by
 subst h
 exact ⟨by simp, (((Below.refl _ w).alloc (Nat.le_refl _) _).alloc (by simp) _).alloc (by simp; omega) _, ((Blk.new w _ _).alloc _).alloc _, Blk.alloc (Blk.at_ (by simp)) _, Blk.at_ (by simp)⟩
theorem putTree_c (ty : Ty) (x : It) (D M : Int) (B : Nat) (w : World) (t0 t1 t2 t3 c0 c1 c2 : Value) (hT : TyIn w B ty t0 t1 t2 t3) (hI : ItIn w B x c0 c1 c2) (hB : B ≤ w.heap.size) (hL : Laid w) (hl : x.rlp.length ≤ 1099511627776) :
 Calls Tryz.prog 27 #[.agg #[.int .i64 D, .int .i64 M], .agg #[t0, t1, t2, t3], .agg #[c0, c1, c2]] w fun e w' => e = .returned (.tuple #[.string (if tPutE ty x D M = 0 then (⟨x.rlp.toArray⟩ : ByteArray) else (⟨#[]⟩ : ByteArray)), .int .i64 (tPutE ty x D M)]) ∧ Below w.heap.size w w' := by
 obtain ⟨W, hW⟩ : ∃ W, ((w.alloc (.cells #[.int .i64 D, .int .i64 M] 72)).alloc (.cells #[t0, t1, t2, t3] 55)).alloc (.cells #[c0, c1, c2] 28) = W := ⟨_, rfl⟩
 obtain ⟨hz, hb, h2, h4, h3⟩ := box5 hW
 have HC := Lib.hid (treePut_c ty x D M B W t0 t1 t2 t3 c0 c1 c2 (hT.below (hb.mono hB)) (hI.below (hb.mono hB)) (by omega) (hL.below hb hL.pos) hl)
 obtain ⟨A, cap, rfl, rfl, rfl, rfl, _⟩ := hT.open_
 obtain ⟨A', cap', rfl, rfl, rfl, _⟩ := hI.open_
 have q0 := h2.cell 0
 have q1 := h2.cell 1
 simp at q0 q1
 obtain ⟨r0, r1, r2, r3, _⟩ := blk4 h4
 obtain ⟨p0, p1, p2⟩ := blk3' h3
 have HW := Lib.hid hW
 have HB := Lib.hid hb
 have HZ := Lib.hid hz
 generalize (if tPutE ty x D M = 0 then (⟨x.rlp.toArray⟩ : ByteArray) else (⟨#[]⟩ : ByteArray)) = S at *
 generalize (tPutE ty x D M) = E at *
 clear hT hI hW hb hz h2 h3 h4
 go_enter Tryz.func27, Tryz.ntmps27
 go_wp2_with fail
 rw [HW.out]
 refine HC.out.mono ?_
 rintro e w1 ⟨rfl, hb1⟩
 go_wp2
 go_ret2
 exact ⟨rfl, HB.out.trans (hb1.mono (by have := HZ.out; omega))⟩
theorem putLayout_c (ty : Ty) (x : It) (D M : Int) (B : Nat) (w : World) (t0 t1 t2 t3 c0 c1 c2 : Value) (hT : TyIn w B ty t0 t1 t2 t3) (hI : ItIn w B x c0 c1 c2) (hB : B ≤ w.heap.size) (hL : Laid w) (hLC : LaidC w) :
 Calls Tryz.prog 29 #[.agg #[.int .i64 D, .int .i64 M], .agg #[t0, t1, t2, t3], .agg #[c0, c1, c2]] w fun e w' => e = .returned (.tuple #[.string (lyPut ty x M).1, .int .i64 (lyPut ty x M).2]) ∧ Below w.heap.size w w' := by
 obtain ⟨W, hW⟩ : ∃ W, ((w.alloc (.cells #[.int .i64 D, .int .i64 M] 72)).alloc (.cells #[t0, t1, t2, t3] 55)).alloc (.cells #[c0, c1, c2] 28) = W := ⟨_, rfl⟩
 obtain ⟨hz, hb, h2, h4, h3⟩ := box5 hW
 have HC := Lib.hid (layoutPut_c ty x M B W t0 t1 t2 t3 c0 c1 c2 (hT.below (hb.mono hB)) (hI.below (hb.mono hB)) (by omega) (hL.below hb hL.pos) (hLC.below hb hLC.pos))
 obtain ⟨A, cap, rfl, rfl, rfl, rfl, _⟩ := hT.open_
 obtain ⟨A', cap', rfl, rfl, rfl, _⟩ := hI.open_
 have q0 := h2.cell 0
 have q1 := h2.cell 1
 simp at q0 q1
 obtain ⟨r0, r1, r2, r3, _⟩ := blk4 h4
 obtain ⟨p0, p1, p2⟩ := blk3' h3
 have HW := Lib.hid hW
 have HB := Lib.hid hb
 have HZ := Lib.hid hz
 generalize (lyPut ty x M).1 = S at *
 generalize (lyPut ty x M).2 = E at *
 clear hT hI hW hb hz h2 h3 h4
 go_enter Tryz.func29, Tryz.ntmps29
 go_wp2_with fail
 rw [HW.out]
 refine HC.out.mono ?_
 rintro e w1 ⟨rfl, hb1⟩
 go_wp2
 go_ret2
 exact ⟨rfl, HB.out.trans (hb1.mono (by have := HZ.out; omega))⟩
theorem getTree_c (ty : Ty) (s : ByteArray) (D M : Int) (B : Nat) (w : World) (t0 t1 t2 t3 : Value) (hT : TyIn w B ty t0 t1 t2 t3) (hB : B ≤ w.heap.size) (hL : Laid w) (hs : s.size ≤ 4611686018427387904) :
 Calls Tryz.prog 28 #[.agg #[.int .i64 D, .int .i64 M], .agg #[t0, t1, t2, t3], .string s] w fun e w' => GtEnd w w' (tGetX ty s D M) (tGetE ty s D M) e := by
 obtain ⟨W, hW⟩ : ∃ W, ((w.alloc (.cells #[.int .i64 D, .int .i64 M] 72)).alloc (.cells #[t0, t1, t2, t3] 55)).alloc (.cells #[.string ⟨#[]⟩, .bool false, .slice none 0 0] 28) = W := ⟨_, rfl⟩
 obtain ⟨hz, hb, h2, h4, h3⟩ := box5 hW
 have HC := Lib.hid (treeGet_c ty s D M B W t0 t1 t2 t3 (hT.below (hb.mono hB)) (by omega) (hL.below hb hL.pos) hs)
 obtain ⟨A, cap, rfl, rfl, rfl, rfl, _⟩ := hT.open_
 have q0 := h2.cell 0
 have q1 := h2.cell 1
 simp at q0 q1
 obtain ⟨r0, r1, r2, r3, _⟩ := blk4 h4
 have H3 := Lib.hid h3
 have HW := Lib.hid hW
 have HB := Lib.hid hb
 have HZ := Lib.hid hz
 generalize (tGetX ty s D M) = X at *
 generalize (tGetE ty s D M) = E at *
 clear hT hW hb hz h2 h3 h4
 go_enter Tryz.func28, Tryz.ntmps28
 go_wp2_with fail
 rw [HW.out]
 refine HC.out.mono ?_
 rintro e w1 ⟨hb1, d0, d1, d2, rfl, hX⟩
 obtain ⟨ax, bx, rfl, rfl, rfl, _⟩ := hX.open_
 have HX := Lib.hid hX
 have h5 := H3.out.keep hb1 (by have := HZ.out; omega)
 have HB1 : Hid (Below w.heap.size w w1) := Lib.hid (HB.out.trans (hb1.mono (by have := HZ.out; omega)))
 have hz1 : w.heap.size + 3 ≤ w1.heap.size := by have := hb1.size; have := HZ.out; omega
 obtain ⟨p0, p1, p2, pf0, pf1, pf2⟩ := blk3 h5
 obtain ⟨y0, y1, y2⟩ := set3_part h5 (.string X.text) (.bool X.list) (.slice ax X.sub.length bx)
 clear hX hb1 q0 q1 r0 r1 r2 r3
 go_wp2
 refine bodyPost_ret (v := .tuple #[.agg #[.string X.text, .bool X.list, .slice ax X.sub.length bx], .int .i64 E]) (by simp [results, Tryz.results28, go_sem, y0, y1, y2]) rfl ?_
 exact ⟨((HB1.out.setCell (by simp; omega) _).setCell (by simp; omega) _).setCell (by simp; omega) _, _, _, _, rfl, HX.out.only (L := [w.heap.size + 1 + 1]) ((((Only.refl _ w1).setCell (by simp) _).setCell (by simp) _).setCell (by simp) _) (by simp; have := HZ.out; omega) (fun k _ hk => by have hk : W.heap.size ≤ k := hk; show w.heap.size ≤ k; have := HZ.out; omega)⟩
theorem getLayout_c (ty : Ty) (s : ByteArray) (D M : Int) (B : Nat) (w : World) (t0 t1 t2 t3 : Value) (hT : TyIn w B ty t0 t1 t2 t3) (hB : B ≤ w.heap.size) (hL : Laid w) (hLC : LaidC w) (hs : s.size ≤ 1099511627776) :
 Calls Tryz.prog 30 #[.agg #[.int .i64 D, .int .i64 M], .agg #[t0, t1, t2, t3], .string s] w fun e w' => GtEnd w w' (lyGet ty s M).2 (lyGet ty s M).1 e := by
 obtain ⟨W, hW⟩ : ∃ W, ((w.alloc (.cells #[.int .i64 D, .int .i64 M] 72)).alloc (.cells #[t0, t1, t2, t3] 55)).alloc (.cells #[.string ⟨#[]⟩, .bool false, .slice none 0 0] 28) = W := ⟨_, rfl⟩
 obtain ⟨hz, hb, h2, h4, h3⟩ := box5 hW
 have HC := Lib.hid (lyGet_c ty s M B W t0 t1 t2 t3 (hT.below (hb.mono hB)) (by omega) (hL.below hb hL.pos) (hLC.below hb hLC.pos) hs)
 obtain ⟨A, cap, rfl, rfl, rfl, rfl, _⟩ := hT.open_
 have q0 := h2.cell 0
 have q1 := h2.cell 1
 simp at q0 q1
 obtain ⟨r0, r1, r2, r3, _⟩ := blk4 h4
 have H3 := Lib.hid h3
 have HW := Lib.hid hW
 have HB := Lib.hid hb
 have HZ := Lib.hid hz
 generalize (lyGet ty s M).2 = X at *
 generalize (lyGet ty s M).1 = E at *
 clear hT hW hb hz h2 h3 h4
 go_enter Tryz.func30, Tryz.ntmps30
 go_wp2_with fail
 rw [HW.out]
 refine HC.out.mono ?_
 rintro e w1 ⟨hb1, d0, d1, d2, rfl, hX⟩
 obtain ⟨ax, bx, rfl, rfl, rfl, _⟩ := hX.open_
 have HX := Lib.hid hX
 have h5 := H3.out.keep hb1 (by have := HZ.out; omega)
 have HB1 : Hid (Below w.heap.size w w1) := Lib.hid (HB.out.trans (hb1.mono (by have := HZ.out; omega)))
 have hz1 : w.heap.size + 3 ≤ w1.heap.size := by have := hb1.size; have := HZ.out; omega
 obtain ⟨p0, p1, p2, pf0, pf1, pf2⟩ := blk3 h5
 obtain ⟨y0, y1, y2⟩ := set3_part h5 (.string X.text) (.bool X.list) (.slice ax X.sub.length bx)
 clear hX hb1 q0 q1 r0 r1 r2 r3
 go_wp2
 refine bodyPost_ret (v := .tuple #[.agg #[.string X.text, .bool X.list, .slice ax X.sub.length bx], .int .i64 E]) (by simp [results, Tryz.results30, go_sem, y0, y1, y2]) rfl ?_
 exact ⟨((HB1.out.setCell (by simp; omega) _).setCell (by simp; omega) _).setCell (by simp; omega) _, _, _, _, rfl, HX.out.only (L := [w.heap.size + 1 + 1]) ((((Only.refl _ w1).setCell (by simp) _).setCell (by simp) _).setCell (by simp) _) (by simp; have := HZ.out; omega) (fun k _ hk => by have hk : W.heap.size ≤ k := hk; show w.heap.size ≤ k; have := HZ.out; omega)⟩
end Go.Proofs.YtnfpgadegpmhkaaGreatDoor
