/- The document's Fits, whole. -/
import Derived.Test.YtcppbdbbgakfcaaGreatDoorKA15
import Derived.Test.YtcppbdbbgakfcaaGreatDoorKA17
set_option linter.unusedVariables false
set_option linter.unusedSimpArgs false
set_option maxRecDepth 100000
set_option maxHeartbeats 1600000
namespace Go.Proofs.YtcppbdbbgakfcaaGreatDoor
open Go.RowKit
theorem refFits_c (ty : Ty) (x : It) (B : Nat) (w : World) (t0 t1 t2 t3 c0 c1 c2 : Value) (hT : TyIn w B ty t0 t1 t2 t3) (hI : ItIn w B x c0 c1 c2) (hB : B ≤ w.heap.size) (hct : ty.count ≤ 4611686018427387904) (hci : x.count ≤ 4611686018427387904) :
 Calls Tryz.prog 22 #[.agg #[t0, t1, t2, t3], .agg #[c0, c1, c2]] w fun e w' => e = .returned (.int .i64 (fitE ty x)) ∧ Below w.heap.size w w' := by
 obtain ⟨W0, hW0⟩ : ∃ W0, (w.alloc (.cells #[t0, t1, t2, t3] 24)).alloc (.cells #[c0, c1, c2] 27) = W0 := ⟨_, rfl⟩
 have hb0 : Below w.heap.size w W0 := by rw [← hW0]; exact ((Below.refl _ w).alloc (Nat.le_refl _) _).alloc (by simp) _
 have hz0 : W0.heap.size = w.heap.size + 2 := by rw [← hW0]; simp
 have m1 : Blk W0 w.heap.size 24 #[t0, t1, t2, t3] := by rw [← hW0]; exact (Blk.new w _ _).alloc _
 have m2 : Blk W0 (w.heap.size + 1) 27 #[c0, c1, c2] := by rw [← hW0]; have := Blk.new (w.alloc (.cells #[t0, t1, t2, t3] 24)) 27 #[c0, c1, c2]; simpa using this
 have HC1 := Lib.hid (may20_c ty B W0 t0 t1 t2 t3 (hT.below (hb0.mono hB)) (by omega) hct)
 have HC2 : Hid (∀ V, Below (w.heap.size + 2) W0 V → Calls Tryz.prog 45 #[.agg #[c0, c1, c2]] V fun e w' => e = .returned (.bool x.may) ∧ Below V.heap.size V w') := Lib.hid (fun V hV => refMay_c x B V c0 c1 c2 ((hI.below (hb0.mono hB)).below (hV.mono (by omega))) (by have := hV.size; omega) hci)
 have HM1 := Lib.hid m1
 have HM2 := Lib.hid m2
 have HB0 := Lib.hid hb0
 have HT := Lib.hid hT
 have HI := Lib.hid hI
 have HW0 := Lib.hid hW0
 obtain ⟨a, ha⟩ : ∃ a, ty.may = a := ⟨_, rfl⟩
 obtain ⟨b, hb⟩ : ∃ b, x.may = b := ⟨_, rfl⟩
 obtain ⟨c, hc⟩ : ∃ c, x.isOf ty = c := ⟨_, rfl⟩
 have HE : Hid (fitE ty x = if a && b then (if c then 0 else 12) else 1) := Lib.hid (by rw [fitE, ha, hb, hc])
 have HA := Lib.hid ha
 have HBB := Lib.hid hb
 have HCC := Lib.hid hc
 rw [ha] at HC1
 rw [hb] at HC2
 obtain ⟨A, cap, rfl, rfl, rfl, rfl, _⟩ := hT.open_
 obtain ⟨A', cap', rfl, rfl, rfl, _⟩ := hI.open_
 generalize fitE ty x = R at *
 generalize ty.kind = ki at *
 generalize ty.size = si at *
 generalize ty.tail = ta at *
 clear ha hb hc hT hI hW0 m1 m2
 cases a with
 | false =>
  have HX : Hid (R = 1) := Lib.hid (by rw [HE.out]; rfl)
  go_enter Tryz.func22, Tryz.ntmps22
  go_wp2_with fail
  rw [HW0.out]
  refine HC1.out.mono ?_
  rintro e w1 ⟨rfl, hb1⟩
  go_wp2
  go_ret
  exact ⟨by rw [HX.out]; rfl, HB0.out.trans (hb1.mono (by omega))⟩
 | true =>
  cases b with
  | false =>
   have HX : Hid (R = 1) := Lib.hid (by rw [HE.out]; rfl)
   go_enter Tryz.func22, Tryz.ntmps22
   go_wp2_with fail
   rw [HW0.out]
   refine HC1.out.mono ?_
   rintro e w1 ⟨rfl, hb1⟩
   obtain ⟨g0, g1, g2, _, _, _⟩ := blk3 (HM2.out.keep hb1 (by omega))
   have hz1 := hb1.size
   go_wp2_with fail
   refine (HC2.out w1 (hb1.mono (by omega))).mono ?_
   rintro e w2 ⟨rfl, hb2⟩
   go_wp2
   go_ret
   exact ⟨by rw [HX.out]; rfl, HB0.out.trans ((hb1.trans (hb2.mono hz1)).mono (by omega))⟩
  | true =>
   have HX : Hid (R = if c then 0 else 12) := Lib.hid (by rw [HE.out]; rfl)
   go_enter Tryz.func22, Tryz.ntmps22
   go_wp2_with fail
   rw [HW0.out]
   refine HC1.out.mono ?_
   rintro e w1 ⟨rfl, hb1⟩
   obtain ⟨g0, g1, g2, _, _, _⟩ := blk3 (HM2.out.keep hb1 (by omega))
   have hz1 := hb1.size
   go_wp2_with fail
   refine (HC2.out w1 (hb1.mono (by omega))).mono ?_
   rintro e w2 ⟨rfl, hb2⟩
   have hz2 := hb2.size
   have HB2 : Hid (Below (w.heap.size + 2) W0 w2) := Lib.hid ((hb1.trans (hb2.mono hz1)).mono (by omega))
   have hbB : Below B w w2 := (HB0.out.mono hB).trans (HB2.out.mono (by omega))
   obtain ⟨_, _, hrt⟩ := ty_may HA.out
   have hri : x.right = true := by
    have h := HBB.out
    unfold It.may at h
    simp only [Bool.and_eq_true] at h
    exact h.1.1
   have HF := Lib.hid (is_c x B w2 _ _ _ (HI.out.below hbB) (by omega) hri ty _ _ _ _ (HT.out.below hbB) hrt)
   rw [HCC.out] at HF
   obtain ⟨q0, q1, q2, q3, _⟩ := blk4 (HM1.out.keep HB2.out (by omega))
   clear g0 g1 g2
   obtain ⟨g0, g1, g2, _, _, _⟩ := blk3 (HM2.out.keep HB2.out (by omega))
   clear hb1 hb2 hbB hrt hri
   go_wp2_with fail
   refine HF.out.mono ?_
   rintro e w6 ⟨rfl, hb6⟩
   have HB6 : Hid (Below w.heap.size w w6) := Lib.hid (HB0.out.trans ((HB2.out.mono (by omega)).trans (hb6.mono (by omega))))
   clear hb6
   cases c with
   | true =>
    go_wp2
    go_ret
    exact ⟨by rw [HX.out]; rfl, HB6.out⟩
   | false =>
    go_wp2
    go_ret
    exact ⟨by rw [HX.out]; rfl, HB6.out⟩
end Go.Proofs.YtcppbdbbgakfcaaGreatDoor
