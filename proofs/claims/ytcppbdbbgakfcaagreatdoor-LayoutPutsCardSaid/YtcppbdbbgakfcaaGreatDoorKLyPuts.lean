/- hatchwaylaw23.LayoutPuts: the layout of any item, of any type, by any cap, is the document's, or the error; it is got again. -/
import Derived.Test.YtcppbdbbgakfcaaGreatDoorKA26
import Derived.Test.YtcppbdbbgakfcaaGreatDoorKA40
import Derived.Test.YtcppbdbbgakfcaaGreatDoorKA37
import Derived.Test.YtcppbdbbgakfcaaGreatDoorKA41
import Derived.Test.YtcppbdbbgakfcaaGreatDoorKA44
import Derived.Test.YtcppbdbbgakfcaaGreatDoorKA16
set_option linter.unusedVariables false
set_option linter.unusedSimpArgs false
set_option maxRecDepth 100000
set_option maxHeartbeats 3200000
namespace Go.Proofs.YtcppbdbbgakfcaaGreatDoor
open Go.RowKit
theorem layoutPuts_w (ty : Ty) (t0 t1 t2 t3 : Value) (x : It) (c0 c1 c2 : Value) (M : Int) (w : World) (hT : TyIn w w.heap.size ty t0 t1 t2 t3) (hI : ItIn w w.heap.size x c0 c1 c2) (hL : Laid w) (hLC : LaidC w) :
 Calls Tryz.prog 4 #[.agg #[t0, t1, t2, t3], .agg #[c0, c1, c2], .int .i64 M] w fun e w' => e = .returned (.bool true) ∧ Below w.heap.size w w' := by
 obtain ⟨W0, hW0⟩ : ∃ W0, (w.alloc (.cells #[t0, t1, t2, t3] 24)).alloc (.cells #[c0, c1, c2] 27) = W0 := ⟨_, rfl⟩
 obtain ⟨hz0, hb0, _, _⟩ := box2 hW0
 have HA := Lib.hid (alive23_c W0 (hL.below hb0 hL.pos) (hLC.below hb0 hLC.pos))
 have HU : Hid (∀ V, Below (w.heap.size + 2) W0 V → LyU w W0 V ty x t0 t1 t2 t3 c0 c1 c2) := Lib.hid (fun V hV => LyU.mk' hW0 hT hI hL hLC hV)
 have HG1 : Hid (∀ V, Below (w.heap.size + 2) W0 V → Calls Tryz.prog 7 #[.agg #[t0, t1, t2, t3]] V fun e w' => e = .returned (.bool ty.great) ∧ Below V.heap.size V w') := Lib.hid (fun V hV => great20_c ty w.heap.size V _ _ _ _ (HU.out V hV).ty (by have := (HU.out V hV).siz; omega))
 have HG2 : Hid (∀ V, Below (w.heap.size + 2) W0 V → Calls Tryz.prog 8 #[.agg #[c0, c1, c2]] V fun e w' => e = .returned (.bool x.great) ∧ Below V.heap.size V w') := Lib.hid (fun V hV => great_c x w.heap.size V _ _ _ (HU.out V hV).it (by have := (HU.out V hV).siz; omega))
 have HW0 := Lib.hid hW0
 have HZ0 := Lib.hid hz0
 obtain ⟨gt, hgt⟩ : ∃ gt, ty.great = gt := ⟨_, rfl⟩
 obtain ⟨gi, hgi⟩ : ∃ gi, x.great = gi := ⟨_, rfl⟩
 rw [hgt] at HG1
 rw [hgi] at HG2
 have HGT := Lib.hid hgt
 have HGI := Lib.hid hgi
 obtain ⟨A, cap, rfl, rfl, rfl, rfl, _⟩ := hT.open_
 obtain ⟨A', cap', rfl, rfl, rfl, _⟩ := hI.open_
 clear hgt hgi hT hI hW0 hb0 hL hLC hz0
 go_enter Tryz.func4, Tryz.ntmps4
 go_wp2_with fail
 rw [HW0.out]
 refine HA.out.mono ?_
 rintro e w1 ⟨rfl, hb1⟩
 have HB1 : Hid (Below (w.heap.size + 2) W0 w1) := Lib.hid (hb1.mono (by have := HZ0.out; omega))
 clear hb1
 obtain ⟨q0, q1, q2, q3, _⟩ := blk4 (HU.out w1 HB1.out).b4
 obtain ⟨p0, p1, p2⟩ := blk3' (HU.out w1 HB1.out).b5
 have hsz := (HU.out w1 HB1.out).siz
 go_wp2_with fail
 refine (HG1.out w1 HB1.out).mono ?_
 rintro e w2 ⟨rfl, hb2⟩
 have HB2 : Hid (Below (w.heap.size + 2) W0 w2) := Lib.hid (HB1.out.trans (hb2.mono hsz))
 clear hb2
 clear q0 q1 q2 q3 p0 p1 p2 hsz
 cases gt with
 | true =>
  go_wp2
  go_ret
  exact ⟨rfl, (HU.out w2 HB2.out).bel⟩
 | false =>
  obtain ⟨q0, q1, q2, q3, _⟩ := blk4 (HU.out w2 HB2.out).b4
  obtain ⟨p0, p1, p2⟩ := blk3' (HU.out w2 HB2.out).b5
  have hsz := (HU.out w2 HB2.out).siz
  go_wp2_with fail
  refine (HG2.out w2 HB2.out).mono ?_
  rintro e w3 ⟨rfl, hb3⟩
  have HB3 : Hid (Below (w.heap.size + 2) W0 w3) := Lib.hid (HB2.out.trans (hb3.mono hsz))
  clear hb3
  clear q0 q1 q2 q3 p0 p1 p2 hsz
  cases gi with
  | true =>
   go_wp2
   go_ret
   exact ⟨rfl, (HU.out w3 HB3.out).bel⟩
  | false =>
   have hct := greatTy_count ty HGT.out
   have hci := great_count x HGI.out
   have HP1 := Lib.hid (fun V hV => layoutPut_c ty x M w.heap.size V _ _ _ _ _ _ _ (HU.out V hV).ty (HU.out V hV).it (by have := (HU.out V hV).siz; omega) (HU.out V hV).laid (HU.out V hV).laidC)
   have HP2 := Lib.hid (fun V hV => refLyPut_c ty x M w.heap.size V _ _ _ _ _ _ _ (HU.out V hV).ty (HU.out V hV).it (by have := (HU.out V hV).siz; omega) (by omega) (by omega))
   have HLB : Hid ((lyPut ty x M).2 = 0 → ty.right = true ∧ ty.count ≤ 64 ∧ (lyPut ty x M).1.size ≤ 1099511627776 ∧ (tinyAt ty = false → lyGet ty (lyPut ty x M).1 M = (0, x))) := Lib.hid (fun h => by
    have hE : lyPutE ty x M = 0 := by
     unfold lyPut at h
     by_cases h0 : lyPutE ty x M = 0
     ·exact h0
     ·rw [if_neg h0] at h; exact absurd h h0
    have hS : (lyPut ty x M).1 = ⟨(x.lay ty).toArray⟩ := by unfold lyPut; rw [if_pos hE]
    obtain ⟨h1, h2, h3⟩ := put_parts hE
    obtain ⟨_, p2, p3, _, p5⟩ := flat_parts h1
    obtain ⟨_, q2, q3⟩ := fit_parts h2
    obtain ⟨r1, r2, r3⟩ := mayIt_parts q2
    have hll := lay_len x ty p2 q3
    exact ⟨p2, p3, by rw [hS, size_of]; omega, fun ht => lyGet_put ty x M hE ht _ (by rw [hS])⟩)
   have HGE := Lib.hid (fun hz V hV => lyGet_c ty (lyPut ty x M).1 M w.heap.size V _ _ _ _ (HU.out V hV).ty (by have := (HU.out V hV).siz; omega) (HU.out V hV).laid (HU.out V hV).laidC hz)
   obtain ⟨E, hE⟩ : ∃ E, (lyPut ty x M).2 = E := ⟨_, rfl⟩
   obtain ⟨S, hS⟩ : ∃ S, (lyPut ty x M).1 = S := ⟨_, rfl⟩
   simp only [hE, hS] at HP1 HP2 HLB HGE
   have hEE : (E == E) = true := by simp
   clear hE hS hct hci
   obtain ⟨q0, q1, q2, q3, _⟩ := blk4 (HU.out w3 HB3.out).b4
   obtain ⟨p0, p1, p2⟩ := blk3' (HU.out w3 HB3.out).b5
   have hsz := (HU.out w3 HB3.out).siz
   go_wp2_with fail
   refine (HP1.out w3 HB3.out).mono ?_
   rintro e w4 ⟨rfl, hb4⟩
   have HB4 : Hid (Below (w.heap.size + 2) W0 w4) := Lib.hid (HB3.out.trans (hb4.mono hsz))
   clear hb4
   clear q0 q1 q2 q3 p0 p1 p2 hsz
   obtain ⟨q0, q1, q2, q3, _⟩ := blk4 (HU.out w4 HB4.out).b4
   obtain ⟨p0, p1, p2⟩ := blk3' (HU.out w4 HB4.out).b5
   have hsz := (HU.out w4 HB4.out).siz
   go_wp2_with fail
   refine (HP2.out w4 HB4.out).mono ?_
   rintro e w5 ⟨rfl, hb5⟩
   have HB5 : Hid (Below (w.heap.size + 2) W0 w5) := Lib.hid (HB4.out.trans (hb5.mono hsz))
   clear hb5
   clear q0 q1 q2 q3 p0 p1 p2 hsz
   rcases beq0 E with ⟨he, k1, k2⟩ | ⟨he, k1, k2⟩
   ·subst he
    obtain ⟨g1, g2, g3, g4⟩ := HLB.out rfl
    have HTN := Lib.hid (fun V hV => tiny_c ty w.heap.size V _ _ _ _ (HU.out V hV).ty (by have := (HU.out V hV).siz; omega) g1 g2)
    have HGT2 := Lib.hid (fun (ht : tinyAt ty = false) V hV => HGE.out g3 V hV)
    have HG4 := Lib.hid g4
    clear g1 g2 g3 g4
    obtain ⟨q0, q1, q2, q3, _⟩ := blk4 (HU.out w5 HB5.out).b4
    obtain ⟨p0, p1, p2⟩ := blk3' (HU.out w5 HB5.out).b5
    have hsz := (HU.out w5 HB5.out).siz
    go_wp2_with fail
    refine (HTN.out w5 HB5.out).mono ?_
    rintro e w6t ⟨rfl, hb6t⟩
    have HB6t : Hid (Below (w.heap.size + 2) W0 w6t) := Lib.hid (HB5.out.trans (hb6t.mono hsz))
    clear hb6t
    clear q0 q1 q2 q3 p0 p1 p2 hsz
    cases htn : tinyAt ty with
    | true =>
     go_wp2
     go_ret
     exact ⟨rfl, (HU.out w6t HB6t.out).bel⟩
    | false =>
     have g4 := HG4.out htn
     replace HGT2 := Lib.hid (HGT2.out htn)
     rw [g4] at HGT2
     clear g4
     obtain ⟨q0, q1, q2, q3, _⟩ := blk4 (HU.out w6t HB6t.out).b4
     obtain ⟨p0, p1, p2⟩ := blk3' (HU.out w6t HB6t.out).b5
     have hsz := (HU.out w6t HB6t.out).siz
     go_wp2_with fail
     refine (HGT2.out w6t HB6t.out).mono ?_
     rintro e w6 ⟨hb6, d0, d1, d2, rfl, hy⟩
     have HB6 : Hid (Below (w.heap.size + 2) W0 w6) := Lib.hid (HB6t.out.trans (hb6.mono hsz))
     obtain ⟨A6, cap6, rfl, rfl, rfl, _⟩ := hy.open_
     obtain ⟨W7, hW7⟩ : ∃ W7, w6.alloc (.cells #[.string x.text, .bool x.list, .slice A6 x.sub.length cap6] 27) = W7 := ⟨_, rfl⟩
     have hb7 : Below w6.heap.size w6 W7 := by rw [← hW7]; exact (Below.refl _ _).alloc (Nat.le_refl _) _
     have HB7 : Hid (Below (w.heap.size + 2) W0 W7) := Lib.hid (HB6.out.trans (hb7.mono (HU.out w6 HB6.out).siz))
     have HSM := Lib.hid (refSame_c x W7.heap.size W7 _ _ _ ((HU.out W7 HB7.out).it.mono (by have := (HU.out W7 HB7.out).siz; omega)) (Nat.le_refl _) x _ _ _ ((hy.below hb7).toIn))
     have HW7 := Lib.hid hW7
     clear hb6 hb7 hW7 hy
     clear q0 q1 q2 q3 p0 p1 p2 hsz
     obtain ⟨q0, q1, q2, q3, _⟩ := blk4 (HU.out w6 HB6.out).b4
     obtain ⟨p0, p1, p2⟩ := blk3' (HU.out w6 HB6.out).b5
     have hsz := (HU.out w6 HB6.out).siz
     have hl1 : w.heap.size + 1 < w6.heap.size := by omega
     have hl0 : w.heap.size < w6.heap.size := by omega
     go_wp2_with fail
     rw [HW7.out]
     refine HSM.out.mono ?_
     rintro e w8 ⟨⟨r, rfl, hr⟩, hb8⟩
     obtain rfl : r = true := hr.2 rfl
     have HB8 : Hid (Below (w.heap.size + 2) W0 w8) := Lib.hid (HB7.out.trans (hb8.mono (HU.out W7 HB7.out).siz))
     clear hb8 hr
     go_wp2
     go_ret
     exact ⟨rfl, (HU.out w8 HB8.out).bel⟩
   ·go_wp2
    go_ret
    exact ⟨rfl, (HU.out w5 HB5.out).bel⟩
theorem layoutPuts_row (ty : Ty) (t0 t1 t2 t3 : Value) (x : It) (c0 c1 c2 : Value) (M : Int) (w : World) (hT : TyIn w w.heap.size ty t0 t1 t2 t3) (hI : ItIn w w.heap.size x c0 c1 c2) (_ : (Lit.int .i64 M).wf = true) (hL : Laid w ∧ LaidC w) :
 Calls Tryz.prog 4 #[.agg #[t0, t1, t2, t3], .agg #[c0, c1, c2], .int .i64 M] w fun e w' => e = .returned (.bool true) ∧ Below w.heap.size w w' := layoutPuts_w ty t0 t1 t2 t3 x c0 c1 c2 M w hT hI hL.1 hL.2
end Go.Proofs.YtcppbdbbgakfcaaGreatDoor
