/- hatchwaylaw23.LayoutGets: the value that any bytes begin with, and the value of just them, or the errors, of any type, by any cap, are the document's; what is got is put as it was. -/
import Derived.Test.YtcppbdbbgakfcaaGreatDoorKA26
import Derived.Test.YtcppbdbbgakfcaaGreatDoorKA48
import Derived.Test.YtcppbdbbgakfcaaGreatDoorKA19
import Derived.Test.YtcppbdbbgakfcaaGreatDoorKA16
set_option linter.unusedVariables false
set_option linter.unusedSimpArgs false
set_option maxRecDepth 100000
set_option maxHeartbeats 3200000
namespace Go.Proofs.YtcppbdbbgakfcaaGreatDoor
open Go.RowKit
structure LyV (w V : World) (ty : Ty) (t0 t1 t2 t3 : Value) : Prop where
 ty : TyIn V w.heap.size ty t0 t1 t2 t3
 laid : Laid V
 laidC : LaidC V
 siz : w.heap.size + 1 ≤ V.heap.size
 bel : Below w.heap.size w V
 b4 : Blk V w.heap.size 24 #[t0, t1, t2, t3]
theorem LyV.mk' {w W0 V : World} {ty : Ty} {t0 t1 t2 t3 : Value} (hW : w.alloc (.cells #[t0, t1, t2, t3] 24) = W0) (hT : TyIn w w.heap.size ty t0 t1 t2 t3) (hL : Laid w) (hLC : LaidC w) (hV : Below (w.heap.size + 1) W0 V) : LyV w V ty t0 t1 t2 t3 := by
 have hb : Below w.heap.size w W0 := by rw [← hW]; exact (Below.refl _ w).alloc (Nat.le_refl _) _
 have hz : W0.heap.size = w.heap.size + 1 := by rw [← hW]; simp
 have h4 : Blk W0 w.heap.size 24 #[t0, t1, t2, t3] := by rw [← hW]; exact Blk.new _ _ _
 have hp := hL.pos
 have hpc := hLC.pos
 exact ⟨(hT.below hb).below (hV.mono (by omega)), (hL.below hb hp).below hV (by omega), (hLC.below hb hpc).below hV (by omega), by have := hV.size; omega, hb.trans (hV.mono (by omega)), h4.keep hV (by omega)⟩
theorem layoutGets_w (ty : Ty) (t0 t1 t2 t3 : Value) (s : ByteArray) (M : Int) (w : World) (hT : TyIn w w.heap.size ty t0 t1 t2 t3) (hL : Laid w) (hLC : LaidC w) (hss : s.size ≤ 9223372036854775807) :
 Calls Tryz.prog 5 #[.agg #[t0, t1, t2, t3], .string s, .int .i64 M] w fun e w' => e = .returned (.bool true) ∧ Below w.heap.size w w' := by
 obtain ⟨W0, hW0⟩ : ∃ W0, w.alloc (.cells #[t0, t1, t2, t3] 24) = W0 := ⟨_, rfl⟩
 have hz0 : W0.heap.size = w.heap.size + 1 := by rw [← hW0]; simp
 have hb0 : Below w.heap.size w W0 := by rw [← hW0]; exact (Below.refl _ w).alloc (Nat.le_refl _) _
 have HA := Lib.hid (alive23_c W0 (hL.below hb0 hL.pos) (hLC.below hb0 hLC.pos))
 have HU : Hid (∀ V, Below (w.heap.size + 1) W0 V → LyV w V ty t0 t1 t2 t3) := Lib.hid (fun V hV => LyV.mk' hW0 hT hL hLC hV)
 have HG1 : Hid (∀ V, Below (w.heap.size + 1) W0 V → Calls Tryz.prog 7 #[.agg #[t0, t1, t2, t3]] V fun e w' => e = .returned (.bool ty.great) ∧ Below V.heap.size V w') := Lib.hid (fun V hV => great20_c ty w.heap.size V _ _ _ _ (HU.out V hV).ty (by have := (HU.out V hV).siz; omega))
 have HW0 := Lib.hid hW0
 have HZ0 := Lib.hid hz0
 obtain ⟨gt, hgt⟩ : ∃ gt, ty.great = gt := ⟨_, rfl⟩
 rw [hgt] at HG1
 have HGT := Lib.hid hgt
 obtain ⟨A, cap, rfl, rfl, rfl, rfl, _⟩ := hT.open_
 clear hgt hT hW0 hb0 hL hLC hz0
 by_cases hgs : 2000 < s.size
 ·go_enter Tryz.func5, Tryz.ntmps5
  go_wp2_with fail
  rw [HW0.out]
  refine HA.out.mono ?_
  rintro e w1 ⟨rfl, hb1⟩
  have HB1 : Hid (Below (w.heap.size + 1) W0 w1) := Lib.hid (hb1.mono (by have := HZ0.out; omega))
  clear hb1
  obtain ⟨q0, q1, q2, q3, _⟩ := blk4 (HU.out w1 HB1.out).b4
  have hsz := (HU.out w1 HB1.out).siz
  go_wp2_with fail
  refine (HG1.out w1 HB1.out).mono ?_
  rintro e w2 ⟨rfl, hb2⟩
  have HB2 : Hid (Below (w.heap.size + 1) W0 w2) := Lib.hid (HB1.out.trans (hb2.mono hsz))
  clear hb2
  clear q0 q1 q2 q3 hsz
  cases gt with
  | true =>
   go_wp2
   go_ret
   exact ⟨rfl, (HU.out w2 HB2.out).bel⟩
  | false =>
   go_wp2
   go_ret
   exact ⟨rfl, (HU.out w2 HB2.out).bel⟩
 ·go_enter Tryz.func5, Tryz.ntmps5
  go_wp2_with fail
  rw [HW0.out]
  refine HA.out.mono ?_
  rintro e w1 ⟨rfl, hb1⟩
  have HB1 : Hid (Below (w.heap.size + 1) W0 w1) := Lib.hid (hb1.mono (by have := HZ0.out; omega))
  clear hb1
  obtain ⟨q0, q1, q2, q3, _⟩ := blk4 (HU.out w1 HB1.out).b4
  have hsz := (HU.out w1 HB1.out).siz
  go_wp2_with fail
  refine (HG1.out w1 HB1.out).mono ?_
  rintro e w2 ⟨rfl, hb2⟩
  have HB2 : Hid (Below (w.heap.size + 1) W0 w2) := Lib.hid (HB1.out.trans (hb2.mono hsz))
  clear hb2
  clear q0 q1 q2 q3 hsz
  cases gt with
  | true =>
   go_wp2
   go_ret
   exact ⟨rfl, (HU.out w2 HB2.out).bel⟩
  | false =>
   have hct := greatTy_count ty HGT.out
   have HN1 := Lib.hid (fun V hV => lyNext_c ty s M w.heap.size V _ _ _ _ (HU.out V hV).ty (by have := (HU.out V hV).siz; omega) (HU.out V hV).laid (HU.out V hV).laidC (by omega))
   have HN2 := Lib.hid (fun V hV => refLyNext_c ty s M w.heap.size V _ _ _ _ (HU.out V hV).ty (by have := (HU.out V hV).siz; omega) (by omega) (by omega))
   have HG3 := Lib.hid (fun V hV => lyGet_c ty s M w.heap.size V _ _ _ _ (HU.out V hV).ty (by have := (HU.out V hV).siz; omega) (HU.out V hV).laid (HU.out V hV).laidC (by omega))
   have HG4 := Lib.hid (fun V hV => refLyGet_c ty s M w.heap.size V _ _ _ _ (HU.out V hV).ty (by have := (HU.out V hV).siz; omega) (by omega) (by omega))
   have HBK : Hid ((lyGet ty s M).1 = 0 → lyPut ty (lyGet ty s M).2 M = (s, 0)) := Lib.hid (fun he => by
    obtain ⟨h1, h2⟩ := lyGet_back ty s M he
    unfold lyPut
    rw [if_pos h1, h2])
   have HPT := Lib.hid (fun V hV c0 c1 c2 B (hI : ItIn V B (lyGet ty s M).2 c0 c1 c2) (hB : B ≤ V.heap.size) (hwB : w.heap.size ≤ B) => layoutPut_c ty (lyGet ty s M).2 M B V _ _ _ _ _ _ _ ((HU.out V hV).ty.mono hwB) hI hB (HU.out V hV).laid (HU.out V hV).laidC)
   generalize lyNext ty s M = N at *
   generalize lyGet ty s M = G at *
   obtain ⟨EN, XN, nN⟩ := N
   obtain ⟨E, Y⟩ := G
   simp only at HBK HPT HG3 HG4
   simp only [LnEnd] at HN1 HN2
   have hnn : (((nN : Nat) : Int) != (nN : Int)) = false := by simp
   have hee : (EN != EN) = false := by simp
   have hee2 : (E != E) = false := by simp
   clear hct
   obtain ⟨q0, q1, q2, q3, _⟩ := blk4 (HU.out w2 HB2.out).b4
   have hsz := (HU.out w2 HB2.out).siz
   go_wp2_with fail
   refine (HN1.out w2 HB2.out).mono ?_
   rintro e w3 ⟨hb3, d0, d1, d2, rfl, hy⟩
   have H_w3 : Hid (Below (w.heap.size + 1) W0 w3) := Lib.hid (HB2.out.trans (hb3.mono hsz))
   have K_w3 : Hid (Below w2.heap.size w2 w3) := Lib.hid hb3
   obtain ⟨A_w3, cap_w3, rfl, rfl, rfl, _⟩ := hy.open_
   obtain ⟨W4, hW4⟩ : ∃ W4, w3.alloc (.cells #[.string XN.text, .bool XN.list, .slice A_w3 XN.sub.length cap_w3] 27) = W4 := ⟨_, rfl⟩
   obtain ⟨b4a, b4b, b4c⟩ := box3 hW4.symm
   have H_W4 : Hid (Below (w.heap.size + 1) W0 W4) := Lib.hid (H_w3.out.trans (b4a.mono (HU.out w3 H_w3.out).siz))
   have HY4 := Lib.hid ((hy.below b4a).toIn)
   have HX_W4 : Hid (∀ V, Below W4.heap.size W4 V → Blk V w3.heap.size 27 #[.string XN.text, .bool XN.list, .slice A_w3 XN.sub.length cap_w3] ∧ ItIn V W4.heap.size XN (.string XN.text) (.bool XN.list) (.slice A_w3 XN.sub.length cap_w3)) := Lib.hid (fun V hV => ⟨b4c.keep hV (by omega), HY4.out.below hV⟩)
   have HZ_W4 := Lib.hid b4b
   have HW_W4 := Lib.hid hW4
   clear hb3 hy hW4 b4a b4b b4c
   clear q0 q1 q2 q3 hsz
   obtain ⟨q0, q1, q2, q3, _⟩ := blk4 (HU.out w3 H_w3.out).b4
   have hsz := (HU.out w3 H_w3.out).siz
   have hl0 : w.heap.size < w3.heap.size := by omega
   go_wp2_with fail
   rw [HW_W4.out]
   refine (HN2.out W4 H_W4.out).mono ?_
   rintro e w5 ⟨hb5, d0, d1, d2, rfl, hy⟩
   have H_w5 : Hid (Below (w.heap.size + 1) W0 w5) := Lib.hid (H_W4.out.trans (hb5.mono (HU.out W4 H_W4.out).siz))
   have K_w5 : Hid (Below W4.heap.size W4 w5) := Lib.hid hb5
   obtain ⟨A_w5, cap_w5, rfl, rfl, rfl, _⟩ := hy.open_
   obtain ⟨W6, hW6⟩ : ∃ W6, w5.alloc (.cells #[.string XN.text, .bool XN.list, .slice A_w5 XN.sub.length cap_w5] 27) = W6 := ⟨_, rfl⟩
   obtain ⟨b6a, b6b, b6c⟩ := box3 hW6.symm
   have H_W6 : Hid (Below (w.heap.size + 1) W0 W6) := Lib.hid (H_w5.out.trans (b6a.mono (HU.out w5 H_w5.out).siz))
   have K_W6 : Hid (Below W4.heap.size W4 W6) := Lib.hid (hb5.trans (b6a.mono hb5.size))
   have HSM := Lib.hid (refSame_c XN W6.heap.size W6 _ _ _ ((HX_W4.out W6 K_W6.out).2.mono K_W6.out.size) (Nat.le_refl _) XN _ _ _ ((hy.below b6a).toIn))
   have HW_W6 := Lib.hid hW6
   have h45 := hb5.size
   have hz45 := HZ_W4.out
   clear hb5 hy hW6 b6a b6b b6c
   clear q0 q1 q2 q3 hsz
   clear hl0
   obtain ⟨q0, q1, q2, q3, _⟩ := blk4 (HU.out w5 H_w5.out).b4
   have hsz := (HU.out w5 H_w5.out).siz
   obtain ⟨y0, y1, y2⟩ := blk3' (HX_W4.out w5 K_w5.out).1
   have hl3 : w3.heap.size < w5.heap.size := by omega
   have hl0 : w.heap.size < w5.heap.size := by omega
   go_wp2_with fail
   rw [HW_W6.out]
   refine HSM.out.mono ?_
   rintro e w7 ⟨⟨r, rfl, hr⟩, hb7⟩
   obtain rfl : r = true := hr.2 rfl
   have HB7 : Hid (Below (w.heap.size + 1) W0 w7) := Lib.hid (H_W6.out.trans (hb7.mono (HU.out W6 H_W6.out).siz))
   clear hb7 hr y0 y1 y2 hl3 hl0 h45 hz45
   clear q0 q1 q2 q3 hsz
   obtain ⟨q0, q1, q2, q3, _⟩ := blk4 (HU.out w7 HB7.out).b4
   have hsz := (HU.out w7 HB7.out).siz
   go_wp2_with fail
   refine (HG3.out w7 HB7.out).mono ?_
   rintro e w8 ⟨hb3, d0, d1, d2, rfl, hy⟩
   have H_w8 : Hid (Below (w.heap.size + 1) W0 w8) := Lib.hid (HB7.out.trans (hb3.mono hsz))
   have K_w8 : Hid (Below w7.heap.size w7 w8) := Lib.hid hb3
   obtain ⟨A_w8, cap_w8, rfl, rfl, rfl, _⟩ := hy.open_
   obtain ⟨W9, hW4⟩ : ∃ W9, w8.alloc (.cells #[.string Y.text, .bool Y.list, .slice A_w8 Y.sub.length cap_w8] 27) = W9 := ⟨_, rfl⟩
   obtain ⟨b4a, b4b, b4c⟩ := box3 hW4.symm
   have H_W9 : Hid (Below (w.heap.size + 1) W0 W9) := Lib.hid (H_w8.out.trans (b4a.mono (HU.out w8 H_w8.out).siz))
   have HY4 := Lib.hid ((hy.below b4a).toIn)
   have HX_W9 : Hid (∀ V, Below W9.heap.size W9 V → Blk V w8.heap.size 27 #[.string Y.text, .bool Y.list, .slice A_w8 Y.sub.length cap_w8] ∧ ItIn V W9.heap.size Y (.string Y.text) (.bool Y.list) (.slice A_w8 Y.sub.length cap_w8)) := Lib.hid (fun V hV => ⟨b4c.keep hV (by omega), HY4.out.below hV⟩)
   have HZ_W9 := Lib.hid b4b
   have HW_W9 := Lib.hid hW4
   clear hb3 hy hW4 b4a b4b b4c
   clear q0 q1 q2 q3 hsz
   obtain ⟨q0, q1, q2, q3, _⟩ := blk4 (HU.out w8 H_w8.out).b4
   have hsz := (HU.out w8 H_w8.out).siz
   have hl0 : w.heap.size < w8.heap.size := by omega
   go_wp2_with fail
   rw [HW_W9.out]
   refine (HG4.out W9 H_W9.out).mono ?_
   rintro e w10 ⟨hb5, d0, d1, d2, rfl, hy⟩
   have H_w10 : Hid (Below (w.heap.size + 1) W0 w10) := Lib.hid (H_W9.out.trans (hb5.mono (HU.out W9 H_W9.out).siz))
   have K_w10 : Hid (Below W9.heap.size W9 w10) := Lib.hid hb5
   obtain ⟨A_w10, cap_w10, rfl, rfl, rfl, _⟩ := hy.open_
   obtain ⟨W11, hW6⟩ : ∃ W11, w10.alloc (.cells #[.string Y.text, .bool Y.list, .slice A_w10 Y.sub.length cap_w10] 27) = W11 := ⟨_, rfl⟩
   obtain ⟨b6a, b6b, b6c⟩ := box3 hW6.symm
   have H_W11 : Hid (Below (w.heap.size + 1) W0 W11) := Lib.hid (H_w10.out.trans (b6a.mono (HU.out w10 H_w10.out).siz))
   have K_W11 : Hid (Below W9.heap.size W9 W11) := Lib.hid (hb5.trans (b6a.mono hb5.size))
   have HSM := Lib.hid (refSame_c Y W11.heap.size W11 _ _ _ ((HX_W9.out W11 K_W11.out).2.mono K_W11.out.size) (Nat.le_refl _) Y _ _ _ ((hy.below b6a).toIn))
   have HW_W11 := Lib.hid hW6
   have h45 := hb5.size
   have hz45 := HZ_W9.out
   clear hb5 hy hW6 b6a b6b b6c
   clear q0 q1 q2 q3 hsz
   clear hl0
   obtain ⟨q0, q1, q2, q3, _⟩ := blk4 (HU.out w10 H_w10.out).b4
   have hsz := (HU.out w10 H_w10.out).siz
   obtain ⟨y0, y1, y2⟩ := blk3' (HX_W9.out w10 K_w10.out).1
   have hl3 : w8.heap.size < w10.heap.size := by omega
   have hl0 : w.heap.size < w10.heap.size := by omega
   go_wp2_with fail
   rw [HW_W11.out]
   refine HSM.out.mono ?_
   rintro e w12 ⟨⟨r, rfl, hr⟩, hb12⟩
   obtain rfl : r = true := hr.2 rfl
   have HB12 : Hid (Below (w.heap.size + 1) W0 w12) := Lib.hid (H_W11.out.trans (hb12.mono (HU.out W11 H_W11.out).siz))
   have HV12 : Hid (Below W9.heap.size W9 w12) := Lib.hid (K_W11.out.trans (hb12.mono K_W11.out.size))
   clear hb12 hr y0 y1 y2 hl3 hl0 h45 hz45
   clear q0 q1 q2 q3 hsz
   rcases beq0 E with ⟨he, k1, k2⟩ | ⟨he, k1, k2⟩
   ·subst he
    have HP := Lib.hid (HPT.out w12 HB12.out _ _ _ _ ((HX_W9.out w12 HV12.out).2) HV12.out.size (by have := (HU.out W9 H_W9.out).siz; omega))
    rw [HBK.out rfl] at HP
    obtain ⟨q0, q1, q2, q3, _⟩ := blk4 (HU.out w12 HB12.out).b4
    have hsz := (HU.out w12 HB12.out).siz
    obtain ⟨y0, y1, y2⟩ := blk3' (HX_W9.out w12 HV12.out).1
    go_wp2_with fail
    refine HP.out.mono ?_
    rintro e w13 ⟨rfl, hb13⟩
    have HB13 : Hid (Below (w.heap.size + 1) W0 w13) := Lib.hid (HB12.out.trans (hb13.mono hsz))
    clear hb13
    go_wp2
    go_ret
    exact ⟨rfl, (HU.out w13 HB13.out).bel⟩
   ·go_wp2
    go_ret
    exact ⟨rfl, (HU.out w12 HB12.out).bel⟩
theorem layoutGets_row (ty : Ty) (t0 t1 t2 t3 : Value) (s : ByteArray) (M : Int) (w : World) (hT : TyIn w w.heap.size ty t0 t1 t2 t3) (hs : s.size ≤ maxLen) (_ : (Lit.int .i64 M).wf = true) (hL : Laid w ∧ LaidC w) :
 Calls Tryz.prog 5 #[.agg #[t0, t1, t2, t3], .string s, .int .i64 M] w fun e w' => e = .returned (.bool true) ∧ Below w.heap.size w w' := layoutGets_w ty t0 t1 t2 t3 s M w hT hL.1 hL.2 hs
end Go.Proofs.YtcppbdbbgakfcaaGreatDoor
