/- Package typed: Fits, whole. -/
import Derived.Test.YtmcdgmepheibkaaDoorTypedF
namespace Go.Proofs.YtmcdgmepheibkaaDoor
set_option linter.unusedVariables false
set_option linter.unusedSimpArgs false
open Go.RowKit

def fitE (ty : Ty) (x : It) : Int := if ty.may && x.may then (if x.isOf ty then 0 else 12) else 1
set_option maxRecDepth 100000 in
set_option maxHeartbeats 1600000 in
theorem fits_c (ty : Ty) (x : It) (B : Nat) (w : World) (t0 t1 t2 t3 c0 c1 c2 : Value) (hT : TyIn w B ty t0 t1 t2 t3) (hI : ItIn w B x c0 c1 c2) (hB : B ≤ w.heap.size) (hL : Laid w) :
    Calls Tryd.prog 14 #[.agg #[t0, t1, t2, t3], .agg #[c0, c1, c2]] w fun e w' => e = .returned (.int .i64 (fitE ty x)) ∧ Below w.heap.size w w' := by
  have hpos := hL.pos
  obtain ⟨W0, hW0⟩ : ∃ W0, (w.alloc (.cells #[t0, t1, t2, t3] 24)).alloc (.cells #[c0, c1, c2] 27) = W0 := ⟨_, rfl⟩
  have hb0 : Below w.heap.size w W0 := by rw [← hW0]; exact ((Below.refl _ w).alloc (Nat.le_refl _) _).alloc (by simp) _
  have hz0 : W0.heap.size = w.heap.size + 2 := by rw [← hW0]; simp
  have m1 : Blk W0 w.heap.size 24 #[t0, t1, t2, t3] := by rw [← hW0]; exact (Blk.new w _ _).alloc _
  have m2 : Blk W0 (w.heap.size + 1) 27 #[c0, c1, c2] := by rw [← hW0]; have := Blk.new (w.alloc (.cells #[t0, t1, t2, t3] 24)) 27 #[c0, c1, c2]; simpa using this
  have HC1 := Lib.hid (schemaMay_c ty B W0 t0 t1 t2 t3 (hT.below (hb0.mono hB)) (by omega) (hL.below hb0 hpos))
  have HC2 : Hid (∀ V, Below (w.heap.size + 2) W0 V → Calls Tryd.prog 48 #[.agg #[c0, c1, c2]] V fun e w' => e = .returned (.bool x.may) ∧ Below V.heap.size V w') := Lib.hid (fun V hV => may_c x B V c0 c1 c2 ((hI.below (hb0.mono hB)).below (hV.mono (by omega))) (by have := hV.size; omega))
  have HM1 := Lib.hid m1
  have HM2 := Lib.hid m2
  have HB0 := Lib.hid hb0
  have HT := Lib.hid hT
  have HI := Lib.hid hI
  have HW0 := Lib.hid hW0
  obtain ⟨a, ha⟩ : ∃ a, ty.may = a := ⟨_, rfl⟩
  obtain ⟨b, hb⟩ : ∃ b, x.may = b := ⟨_, rfl⟩
  obtain ⟨c, hc⟩ : ∃ c, x.isOf ty = c := ⟨_, rfl⟩
  have HE : Hid (fitE ty x = if a && b then (if c then 0 else 12) else 1) := Lib.hid (by rw [fitE, ha, hb, hc])
  have HA := Lib.hid ha
  have HBB := Lib.hid hb
  have HCC := Lib.hid hc
  rw [ha] at HC1
  rw [hb] at HC2
  obtain ⟨A, cap, rfl, rfl, rfl, rfl, _⟩ := hT.open_
  obtain ⟨A', cap', rfl, rfl, rfl, _⟩ := hI.open_
  generalize fitE ty x = R at *
  generalize ty.kind = ki at *
  generalize ty.size = si at *
  generalize ty.tail = ta at *
  clear ha hb hc hT hI hW0 m1 m2
  cases a with
  | false =>
    have HX : Hid (R = 1) := Lib.hid (by rw [HE.out]; rfl)
    go_enter Tryd.func14, Tryd.ntmps14
    go_wp2_with fail
    rw [HW0.out]
    refine HC1.out.mono ?_
    rintro e w1 ⟨rfl, hb1⟩
    go_wp2
    go_ret
    exact ⟨by rw [HX.out]; rfl, HB0.out.trans (hb1.mono (by omega))⟩
  | true =>
    cases b with
    | false =>
      have HX : Hid (R = 1) := Lib.hid (by rw [HE.out]; rfl)
      go_enter Tryd.func14, Tryd.ntmps14
      go_wp2_with fail
      rw [HW0.out]
      refine HC1.out.mono ?_
      rintro e w1 ⟨rfl, hb1⟩
      obtain ⟨g0, g1, g2, _, _, _⟩ := blk3 (HM2.out.keep hb1 (by omega))
      have hz1 := hb1.size
      go_wp2_with fail
      refine (HC2.out w1 (hb1.mono (by omega))).mono ?_
      rintro e w2 ⟨rfl, hb2⟩
      go_wp2
      go_ret
      exact ⟨by rw [HX.out]; rfl, HB0.out.trans ((hb1.trans (hb2.mono hz1)).mono (by omega))⟩
    | true =>
      have HX : Hid (R = if c then 0 else 12) := Lib.hid (by rw [HE.out]; rfl)
      go_enter Tryd.func14, Tryd.ntmps14
      go_wp2_with fail
      rw [HW0.out]
      refine HC1.out.mono ?_
      rintro e w1 ⟨rfl, hb1⟩
      obtain ⟨g0, g1, g2, _, _, _⟩ := blk3 (HM2.out.keep hb1 (by omega))
      have hz1 := hb1.size
      go_wp2_with fail
      refine (HC2.out w1 (hb1.mono (by omega))).mono ?_
      rintro e w2 ⟨rfl, hb2⟩
      have hz2 := hb2.size
      have HB2 : Hid (Below (w.heap.size + 2) W0 w2) := Lib.hid ((hb1.trans (hb2.mono hz1)).mono (by omega))
      clear g0 g1 g2 hb1 hb2
      go_wp2_with fail
      refine (kinds_c w2).mono ?_
      rintro e w3 ⟨rfl, rfl⟩
      obtain ⟨W5, hW5⟩ : ∃ W5, ((w2.alloc (.map kEs.toArray 5)).alloc (.cells #[.map (some w2.heap.size)] 76)).alloc (.cells #[.func (.func 50) #[] #[.pointer (some ⟨w2.heap.size + 1, 0, none⟩), .pointer (some ⟨w2.heap.size + 1 + 1, 0, none⟩)]] 33) = W5 := ⟨_, rfl⟩
      have hz5 : W5.heap.size = w2.heap.size + 3 := by rw [← hW5]; simp
      have hb5 : Below w2.heap.size w2 W5 := by rw [← hW5]; exact (((Below.refl _ _).alloc (Nat.le_refl _) _).alloc (by simp) _).alloc (by simp; omega) _
      have HFV : Hid (FV W5 (w2.heap.size + 1) (w2.heap.size + 1 + 1) w2.heap.size) := Lib.hid (by
        rw [← hW5]
        refine ⟨?_, ?_, ?_⟩
        · have := (Blk.new (w2.alloc (.map kEs.toArray 5)) 76 #[.map (some w2.heap.size)])
          rw [World.size_alloc] at this
          exact this.alloc _
        · have := Blk.new ((w2.alloc (.map kEs.toArray 5)).alloc (.cells #[.map (some w2.heap.size)] 76)) 33 #[.func (.func 50) #[] #[.pointer (some ⟨w2.heap.size + 1, 0, none⟩), .pointer (some ⟨w2.heap.size + 1 + 1, 0, none⟩)]]
          rw [World.size_alloc, World.size_alloc] at this
          exact this
        · have h3 : (w2.alloc (.map kEs.toArray 5)).heap[w2.heap.size]? = some (.map kEs.toArray 5) := heap_alloc_new w2 _
          rw [Below.heap_alloc _ _ _ (by simp; omega), Below.heap_alloc _ _ _ (by simp)]
          exact h3)
      have HB5 : Hid (Below (w.heap.size + 2) W0 W5) := Lib.hid (HB2.out.trans (hb5.mono (by omega)))
      have hbB : Below B w W5 := (HB0.out.mono hB).trans (HB5.out.mono (by omega))
      obtain ⟨_, _, hrt⟩ := ty_may HA.out
      have hri : x.right = true := by
        have h := HBB.out
        unfold It.may at h
        simp only [Bool.and_eq_true] at h
        exact h.1.1
      have HF := Lib.hid (fitsC_c x B W5 _ _ _ (HI.out.below hbB) (by omega) hri ty _ _ _ _ (HT.out.below hbB) hrt _ _ _ HFV.out)
      rw [HCC.out] at HF
      have HW5 := Lib.hid hW5
      have n1 := HM1.out.keep HB5.out (by omega)
      have n2 := HM2.out.keep HB5.out (by omega)
      have q0 : W5.cell? ⟨w.heap.size, 0, none⟩ = some (.int .i64 ki) := n1.cell 0
      have q1 : W5.cell? ⟨w.heap.size, 1, none⟩ = some (.int .i64 si) := n1.cell 1
      have q2 : W5.cell? ⟨w.heap.size, 2, none⟩ = some (.slice A ty.sub.length cap) := n1.cell 2
      have q3 : W5.cell? ⟨w.heap.size, 3, none⟩ = some (.int .i64 ta) := n1.cell 3
      have r0 : W5.cell? ⟨w.heap.size + 1, 0, none⟩ = some (.string x.text) := n2.cell 0
      have r1 : W5.cell? ⟨w.heap.size + 1, 1, none⟩ = some (.bool x.list) := n2.cell 1
      have r2 : W5.cell? ⟨w.heap.size + 1, 2, none⟩ = some (.slice A' x.sub.length cap') := n2.cell 2
      have l0 : w.heap.size < w2.heap.size := by omega
      have l1 : w.heap.size + 1 < w2.heap.size := by omega
      rw [← hW5] at q0 q1 q2 q3 r0 r1 r2
      clear hW5 hb5 hbB hrt hri n1 n2
      go_wp2_with fail
      rw [HW5.out]
      refine HF.out.mono ?_
      rintro e w6 ⟨rfl, hb6⟩
      have HB6 : Hid (Below w.heap.size w w6) := Lib.hid (HB0.out.trans ((HB5.out.mono (by omega)).trans (hb6.mono (by omega))))
      clear hb6
      cases c with
      | true =>
        go_wp2
        go_ret
        exact ⟨by rw [HX.out]; rfl, HB6.out⟩
      | false =>
        go_wp2
        go_ret
        exact ⟨by rw [HX.out]; rfl, HB6.out⟩
end Go.Proofs.YtmcdgmepheibkaaDoor
