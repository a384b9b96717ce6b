/- tree.Check; the document's Put and Get of trees. -/
import Derived.Test.YtnfpgadegpmhkaaGreatDoorKA34
import Derived.Test.YtnfpgadegpmhkaaGreatDoorKA28
import Derived.Test.YtnfpgadegpmhkaaGreatDoorKA18
import Derived.Test.YtnfpgadegpmhkaaGreatDoorKA35
set_option linter.unusedVariables false
set_option linter.unusedSimpArgs false
set_option maxRecDepth 100000
set_option maxHeartbeats 1000000
namespace Go.Proofs.YtnfpgadegpmhkaaGreatDoor
open Go.RowKit
theorem getX_count (D M : Int) (s : ByteArray) : (getX D M s).count ≤ 4611686018427387904 := by
 by_cases h : getE D M s = 0
 ·have h1 := (put_getE D M s h).1
  rw [capsE_zero, may_parts] at h1
  omega
 ·unfold getX
  rw [if_pos h]
  simp [noIt, It.count, countL]
theorem ref22Get_c (ty : Ty) (s : ByteArray) (D M : Int) (B : Nat) (w : World) (t0 t1 t2 t3 : Value) (hT : TyIn w B ty t0 t1 t2 t3) (hB : B ≤ w.heap.size) (hs : s.size ≤ 4611686018427387904) (hct : ty.count ≤ 4611686018427387904) :
 Calls Tryz.prog 39 #[.agg #[t0, t1, t2, t3], .string s, .int .i64 D, .int .i64 M] w fun e w' => GtEnd w w' (tGetX ty s D M) (tGetE ty s D M) e := by
 obtain ⟨W, hW⟩ : ∃ W, (w.alloc (.cells #[t0, t1, t2, t3] 55)).alloc (.cells #[.string ⟨#[]⟩, .bool false, .slice none 0 0] 28) = W := ⟨_, rfl⟩
 obtain ⟨hz, hb, h4, h5⟩ := box2 hW
 have hT2 := hT.below (hb.mono hB)
 have HC1 := Lib.hid (may20_c ty B W t0 t1 t2 t3 hT2 (by omega) hct)
 have HC2 := Lib.hid (fun V => refGet9_c s D M V hs)
 obtain ⟨A, cap, rfl, rfl, rfl, rfl, _⟩ := hT.open_
 have HC3 : Hid (∀ V (A5 : Option Addr) (k5 : Nat), Below W.heap.size W V → ∀ {S : Nat → Prop}, ItS V S (getX D M s) (.string (getX D M s).text) (.bool (getX D M s).list) (.slice A5 (getX D M s).sub.length k5) → Calls Tryz.prog 52 #[.agg #[.int .i64 ty.kind, .int .i64 ty.size, .slice A ty.sub.length cap, .int .i64 ty.tail], .agg #[.string (getX D M s).text, .bool (getX D M s).list, .slice A5 (getX D M s).sub.length k5]] (V.alloc (.cells #[.string (getX D M s).text, .bool (getX D M s).list, .slice A5 (getX D M s).sub.length k5] 28)) fun e w' => e = .returned (.int .i64 (fitE ty (getX D M s))) ∧ Below (V.alloc (.cells #[.string (getX D M s).text, .bool (getX D M s).list, .slice A5 (getX D M s).sub.length k5] 28)).heap.size (V.alloc (.cells #[.string (getX D M s).text, .bool (getX D M s).list, .slice A5 (getX D M s).sub.length k5] 28)) w') := Lib.hid (fun V A5 k5 hV S hi => by
  have hb2 : Below V.heap.size V (V.alloc (.cells #[.string (getX D M s).text, .bool (getX D M s).list, .slice A5 (getX D M s).sub.length k5] 28)) := (Below.refl _ V).alloc (Nat.le_refl _) _
  have hvz := hV.size
  refine refFits_c ty (getX D M s) (V.alloc (.cells #[.string (getX D M s).text, .bool (getX D M s).list, .slice A5 (getX D M s).sub.length k5] 28)).heap.size _ _ _ _ _ _ _ _ (((hT2.below (hV.mono (by omega))).below (hb2.mono (by omega))).mono (by simp; omega)) ((hi.below hb2).toIn) (Nat.le_refl _) hct (getX_count D M s))
 have HK : Hid (∀ V, Below W.heap.size W V → Blk V (w.heap.size + 1) 28 #[.string ⟨#[]⟩, .bool false, .slice none 0 0] ∧ Blk V w.heap.size 55 #[.int .i64 ty.kind, .int .i64 ty.size, .slice A ty.sub.length cap, .int .i64 ty.tail] ∧ Below w.heap.size w V) := Lib.hid (fun V hV => ⟨h5.keep hV (by omega), h4.keep hV (by omega), hb.trans (hV.mono (by omega))⟩)
 obtain ⟨q0, q1, q2, q3, _⟩ := blk4 h4
 obtain ⟨p0, p1, p2, pf0, pf1, pf2⟩ := blk3 h5
 have hE : tGetE ty s D M = if ty.may = false then 1 else if getE D M s ≠ 0 then getE D M s else fitE ty (getX D M s) := rfl
 have hX : tGetX ty s D M = if tGetE ty s D M ≠ 0 then noIt else getX D M s := rfl
 have HW := Lib.hid hW
 have HZ := Lib.hid hz
 generalize tGetE ty s D M = E at *
 generalize tGetX ty s D M = Y at *
 generalize getX D M s = X at *
 generalize getE D M s = E1 at *
 generalize fitE ty X = E2 at *
 generalize ty.may = m at *
 clear h4 h5 hz hb hW hT hT2 hct
 cases m with
 | false =>
  obtain rfl : E = 1 := by simpa using hE
  obtain rfl : Y = noIt := by simpa using hX
  clear hE hX
  go_enter Tryz.func39, Tryz.ntmps39
  go_wp2_with fail
  rw [HW.out]
  refine HC1.out.mono ?_
  rintro e w1 ⟨rfl, hb1⟩
  have HB1 := Lib.hid hb1
  have h8 := (HK.out w1 hb1).1
  obtain ⟨p0, p1, p2, pf0, pf1, pf2⟩ := blk3 h8
  obtain ⟨q0, q1, q2, q3, _⟩ := blk4 (HK.out w1 hb1).2.1
  clear hb1 h8
  go_wp2
  obtain ⟨d0, d1, d2, _⟩ := blk3 (put3 ((HK.out w1 HB1.out).1) (.string ⟨#[]⟩) (.bool false) (.slice none 0 0))
  refine bodyPost_ret (v := .tuple #[.agg #[.string ⟨#[]⟩, .bool false, .slice none 0 0], .int .i64 1]) (by simp [results, Tryz.results39, go_sem, d0, d1, d2]) rfl ?_
  exact ⟨(((HK.out w1 HB1.out).2.2.setCell (by simp) _).setCell (by simp) _).setCell (by simp) _, _, _, _, rfl, noIt_S _ _⟩
 | true =>
  rw [if_neg (by simp)] at hE
  rcases beq0 E1 with ⟨he, k1, k2⟩ | ⟨he, k1, k2⟩
  ·subst he
   rw [if_neg (by simp)] at hE
   subst hE
   rcases beq0 E with ⟨he, k3, k4⟩ | ⟨he, k3, k4⟩
   ·subst he
    obtain rfl : X = Y := by have := hX; simp at this; exact this.symm
    clear hX
    go_enter Tryz.func39, Tryz.ntmps39
    go_wp2_with fail
    rw [HW.out]
    refine HC1.out.mono ?_
    rintro e w1 ⟨rfl, hb1⟩
    have HB1 := Lib.hid hb1
    have h8 := (HK.out w1 hb1).1
    obtain ⟨p0, p1, p2, pf0, pf1, pf2⟩ := blk3 h8
    obtain ⟨q0, q1, q2, q3, _⟩ := blk4 (HK.out w1 hb1).2.1
    clear hb1 h8
    clear p0 p1 p2 pf0 pf1 pf2 q0 q1 q2 q3
    go_wp2_with fail
    refine (HC2.out w1).mono ?_
    rintro e w2 ⟨hb2, d0, d1, d2, rfl, hit⟩
    obtain ⟨A5, k5, rfl, rfl, rfl, _⟩ := hit.open_
    have HB2 := Lib.hid (HB1.out.trans (hb2.mono HB1.out.size))
    have HIT := Lib.hid hit
    have hz2 := HB2.out.size
    have hzw := HZ.out
    obtain ⟨p0, p1, p2, pf0, pf1, pf2⟩ := blk3 (HK.out w2 HB2.out).1
    obtain ⟨q0, q1, q2, q3, _⟩ := blk4 (HK.out w2 HB2.out).2.1
    have hl0 : w.heap.size < w2.heap.size := by omega
    have hl1 : w.heap.size + 1 < w2.heap.size := by omega
    clear hb2 hit
    go_wp2_with fail
    refine (HC3.out w2 A5 k5 HB2.out HIT.out).mono ?_
    rintro e w3 ⟨rfl, hb3⟩
    have HB3 := Lib.hid (HB2.out.trans (((Below.refl _ w2).alloc (Nat.le_refl _) _).trans (hb3.mono (by simp)) |>.mono HB2.out.size))
    have hz3 := hb3.size
    simp only [World.size_alloc] at hz3
    clear p0 p1 p2 pf0 pf1 pf2 q0 q1 q2 q3
    have h8 := (HK.out w3 HB3.out).1
    obtain ⟨p0, p1, p2, pf0, pf1, pf2⟩ := blk3 h8
    have hk10 := (Blk.new w2 28 #[.string X.text, .bool X.list, .slice A5 X.sub.length k5]).keep hb3 (by simp)
    obtain ⟨g0, g1, g2, _⟩ := blk3 hk10
    have HI3 : Hid (ItS w3 (w1.heap.size ≤ ·) X (.string X.text) (.bool X.list) (.slice A5 X.sub.length k5)) := Lib.hid ((HIT.out.below ((Below.refl _ w2).alloc (Nat.le_refl _) _)).below hb3)
    clear hb3 hk10 h8
    go_wp2
    obtain ⟨d0, d1, d2, _⟩ := blk3 (put3 ((HK.out w3 HB3.out).1) (.string X.text) (.bool X.list) (.slice A5 X.sub.length k5))
    refine bodyPost_ret (v := .tuple #[.agg #[.string X.text, .bool X.list, .slice A5 X.sub.length k5], .int .i64 0]) (by simp [results, Tryz.results39, go_sem, d0, d1, d2]) rfl ?_
    refine ⟨(((HK.out w3 HB3.out).2.2.setCell (by simp) _).setCell (by simp) _).setCell (by simp) _, _, _, _, rfl, ?_⟩
    have hz1 := HB1.out.size
    exact HI3.out.only ((((Only.refl [w.heap.size + 1] w3).setCell (by simp) _).setCell (by simp) _).setCell (by simp) _) (by simp <;> omega) (fun k _ h => by omega)
   ·obtain rfl : Y = noIt := by rw [if_pos he] at hX; exact hX
    clear hX
    go_enter Tryz.func39, Tryz.ntmps39
    go_wp2_with fail
    rw [HW.out]
    refine HC1.out.mono ?_
    rintro e w1 ⟨rfl, hb1⟩
    have HB1 := Lib.hid hb1
    have h8 := (HK.out w1 hb1).1
    obtain ⟨p0, p1, p2, pf0, pf1, pf2⟩ := blk3 h8
    obtain ⟨q0, q1, q2, q3, _⟩ := blk4 (HK.out w1 hb1).2.1
    clear hb1 h8
    clear p0 p1 p2 pf0 pf1 pf2 q0 q1 q2 q3
    go_wp2_with fail
    refine (HC2.out w1).mono ?_
    rintro e w2 ⟨hb2, d0, d1, d2, rfl, hit⟩
    obtain ⟨A5, k5, rfl, rfl, rfl, _⟩ := hit.open_
    have HB2 := Lib.hid (HB1.out.trans (hb2.mono HB1.out.size))
    have HIT := Lib.hid hit
    have hz2 := HB2.out.size
    have hzw := HZ.out
    obtain ⟨p0, p1, p2, pf0, pf1, pf2⟩ := blk3 (HK.out w2 HB2.out).1
    obtain ⟨q0, q1, q2, q3, _⟩ := blk4 (HK.out w2 HB2.out).2.1
    have hl0 : w.heap.size < w2.heap.size := by omega
    have hl1 : w.heap.size + 1 < w2.heap.size := by omega
    clear hb2 hit
    go_wp2_with fail
    refine (HC3.out w2 A5 k5 HB2.out HIT.out).mono ?_
    rintro e w3 ⟨rfl, hb3⟩
    have HB3 := Lib.hid (HB2.out.trans (((Below.refl _ w2).alloc (Nat.le_refl _) _).trans (hb3.mono (by simp)) |>.mono HB2.out.size))
    have hz3 := hb3.size
    simp only [World.size_alloc] at hz3
    clear p0 p1 p2 pf0 pf1 pf2 q0 q1 q2 q3
    have h8 := (HK.out w3 HB3.out).1
    obtain ⟨p0, p1, p2, pf0, pf1, pf2⟩ := blk3 h8
    have hk10 := (Blk.new w2 28 #[.string X.text, .bool X.list, .slice A5 X.sub.length k5]).keep hb3 (by simp)
    obtain ⟨g0, g1, g2, _⟩ := blk3 hk10
    have HI3 : Hid (ItS w3 (w1.heap.size ≤ ·) X (.string X.text) (.bool X.list) (.slice A5 X.sub.length k5)) := Lib.hid ((HIT.out.below ((Below.refl _ w2).alloc (Nat.le_refl _) _)).below hb3)
    clear hb3 hk10 h8
    go_wp2
    obtain ⟨d0, d1, d2, _⟩ := blk3 (put3 ((HK.out w3 HB3.out).1) (.string ⟨#[]⟩) (.bool false) (.slice none 0 0))
    refine bodyPost_ret (v := .tuple #[.agg #[.string ⟨#[]⟩, .bool false, .slice none 0 0], .int .i64 E]) (by simp [results, Tryz.results39, go_sem, d0, d1, d2]) rfl ?_
    exact ⟨(((HK.out w3 HB3.out).2.2.setCell (by simp) _).setCell (by simp) _).setCell (by simp) _, _, _, _, rfl, noIt_S _ _⟩
  ·rw [if_pos he] at hE
   subst hE
   obtain rfl : Y = noIt := by rw [if_pos he] at hX; exact hX
   clear hX
   go_enter Tryz.func39, Tryz.ntmps39
   go_wp2_with fail
   rw [HW.out]
   refine HC1.out.mono ?_
   rintro e w1 ⟨rfl, hb1⟩
   have HB1 := Lib.hid hb1
   have h8 := (HK.out w1 hb1).1
   obtain ⟨p0, p1, p2, pf0, pf1, pf2⟩ := blk3 h8
   obtain ⟨q0, q1, q2, q3, _⟩ := blk4 (HK.out w1 hb1).2.1
   clear hb1 h8
   clear p0 p1 p2 pf0 pf1 pf2 q0 q1 q2 q3
   go_wp2_with fail
   refine (HC2.out w1).mono ?_
   rintro e w2 ⟨hb2, d0, d1, d2, rfl, hit⟩
   obtain ⟨A5, k5, rfl, rfl, rfl, _⟩ := hit.open_
   have HB2 := Lib.hid (HB1.out.trans (hb2.mono HB1.out.size))
   have HIT := Lib.hid hit
   have hz2 := HB2.out.size
   have hzw := HZ.out
   obtain ⟨p0, p1, p2, pf0, pf1, pf2⟩ := blk3 (HK.out w2 HB2.out).1
   obtain ⟨q0, q1, q2, q3, _⟩ := blk4 (HK.out w2 HB2.out).2.1
   have hl0 : w.heap.size < w2.heap.size := by omega
   have hl1 : w.heap.size + 1 < w2.heap.size := by omega
   clear hb2 hit
   go_wp2
   obtain ⟨d0, d1, d2, _⟩ := blk3 ((put3 ((HK.out w2 HB2.out).1) (.string ⟨#[]⟩) (.bool false) (.slice none 0 0)).alloc (.cells #[.string X.text, .bool X.list, .slice A5 X.sub.length k5] 28))
   refine bodyPost_ret (v := .tuple #[.agg #[.string ⟨#[]⟩, .bool false, .slice none 0 0], .int .i64 E]) (by simp [results, Tryz.results39, go_sem, d0, d1, d2]) rfl ?_
   exact ⟨((((HK.out w2 HB2.out).2.2.setCell (by simp) _).setCell (by simp) _).setCell (by simp) _).alloc (by simp [World.setCell] <;> omega) _, _, _, _, rfl, noIt_S _ _⟩
end Go.Proofs.YtnfpgadegpmhkaaGreatDoor
