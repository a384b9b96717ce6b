/- hatchwaylaw21.TypedFits: whether any item is a value of any type, or the error, is the document's. -/
import Derived.Test.YtmcdgmepheibkaaDoorTypedAlive
import Derived.Test.YtmcdgmepheibkaaDoorTypedRF
namespace Go.Proofs.YtmcdgmepheibkaaDoor
set_option linter.unusedVariables false
set_option linter.unusedSimpArgs false
open Go.RowKit

set_option maxRecDepth 100000 in
set_option maxHeartbeats 3200000 in
theorem typedFits_w (ty : Ty) (t0 t1 t2 t3 : Value) (x : It) (c0 c1 c2 : Value) (w : World) (hT : TyIn w w.heap.size ty t0 t1 t2 t3) (hI : ItIn w w.heap.size x c0 c1 c2) (hL : Laid w) :
    Calls Tryd.prog 3 #[.agg #[t0, t1, t2, t3], .agg #[c0, c1, c2]] w fun e w' => e = .returned (.bool true) ∧ Below w.heap.size w w' := by
  have hpos := hL.pos
  obtain ⟨W0, hW0⟩ : ∃ W0, (w.alloc (.cells #[t0, t1, t2, t3] 24)).alloc (.cells #[c0, c1, c2] 27) = W0 := ⟨_, rfl⟩
  have hb0 : Below w.heap.size w W0 := by rw [← hW0]; exact ((Below.refl _ w).alloc (Nat.le_refl _) _).alloc (by simp) _
  have hz0 : W0.heap.size = w.heap.size + 2 := by rw [← hW0]; simp
  have m1 : Blk W0 w.heap.size 24 #[t0, t1, t2, t3] := by rw [← hW0]; exact (Blk.new w _ _).alloc _
  have m2 : Blk W0 (w.heap.size + 1) 27 #[c0, c1, c2] := by rw [← hW0]; have := Blk.new (w.alloc (.cells #[t0, t1, t2, t3] 24)) 27 #[c0, c1, c2]; simpa using this
  have HA := Lib.hid (alive21_c W0 (hL.below hb0 hpos))
  have HU : Hid (∀ V, Below (w.heap.size + 2) W0 V → TyIn V w.heap.size ty t0 t1 t2 t3 ∧ ItIn V w.heap.size x c0 c1 c2 ∧ Laid V ∧ w.heap.size + 2 ≤ V.heap.size ∧ Below w.heap.size w V) := Lib.hid (fun V hV => ⟨(hT.below hb0).below (hV.mono (by omega)), (hI.below hb0).below (hV.mono (by omega)), (hL.below hb0 hpos).below hV (by omega), by have := hV.size; omega, hb0.trans (hV.mono (by omega))⟩)
  have HG1 : Hid (∀ V, Below (w.heap.size + 2) W0 V → Calls Tryd.prog 12 #[.agg #[t0, t1, t2, t3]] V fun e w' => e = .returned (.bool ty.great) ∧ Below V.heap.size V w') := Lib.hid (fun V hV => great20_c ty w.heap.size V _ _ _ _ (HU.out V hV).1 (by have := (HU.out V hV).2.2.2.1; omega))
  have HG2 : Hid (∀ V, Below (w.heap.size + 2) W0 V → Calls Tryd.prog 13 #[.agg #[c0, c1, c2]] V fun e w' => e = .returned (.bool x.great) ∧ Below V.heap.size V w') := Lib.hid (fun V hV => great_c x w.heap.size V _ _ _ (HU.out V hV).2.1 (by have := (HU.out V hV).2.2.2.1; omega))
  have HM1 := Lib.hid m1
  have HM2 := Lib.hid m2
  have HW0 := Lib.hid hW0
  obtain ⟨gt, hgt⟩ : ∃ gt, ty.great = gt := ⟨_, rfl⟩
  obtain ⟨gi, hgi⟩ : ∃ gi, x.great = gi := ⟨_, rfl⟩
  rw [hgt] at HG1
  rw [hgi] at HG2
  have HGT := Lib.hid hgt
  have HGI := Lib.hid hgi
  obtain ⟨A, cap, rfl, rfl, rfl, rfl, _⟩ := hT.open_
  obtain ⟨A', cap', rfl, rfl, rfl, _⟩ := hI.open_
  generalize ty.kind = ki at *
  generalize ty.size = si at *
  generalize ty.tail = ta at *
  generalize ty.sub.length = nt at *
  generalize x.text = tx at *
  generalize x.list = lx at *
  generalize x.sub.length = nx at *
  clear hgt hgi hT hI hW0 m1 m2 hb0 hL
  go_enter Tryd.func3, Tryd.ntmps3
  go_wp2_with fail
  rw [HW0.out]
  refine HA.out.mono ?_
  rintro e w1 ⟨rfl, hb1⟩
  have hz1 := hb1.size
  have HB1 : Hid (Below (w.heap.size + 2) W0 w1) := Lib.hid (hb1.mono (by omega))
  obtain ⟨q0, q1, q2, q3, _⟩ := blk4 (HM1.out.keep HB1.out (by omega))
  clear hb1
  go_wp2_with fail
  refine (HG1.out w1 HB1.out).mono ?_
  rintro e w2 ⟨rfl, hb2⟩
  have hz2 := hb2.size
  have HB2 : Hid (Below (w.heap.size + 2) W0 w2) := Lib.hid (HB1.out.trans (hb2.mono (by omega)))
  clear hb2 q0 q1 q2 q3
  cases gt with
  | true =>
    go_wp2
    go_ret
    exact ⟨rfl, (HU.out w2 HB2.out).2.2.2.2⟩
  | false =>
    obtain ⟨g0, g1, g2, _, _, _⟩ := blk3 (HM2.out.keep HB2.out (by omega))
    go_wp2_with fail
    refine (HG2.out w2 HB2.out).mono ?_
    rintro e w3 ⟨rfl, hb3⟩
    have hz3 := hb3.size
    have HB3 : Hid (Below (w.heap.size + 2) W0 w3) := Lib.hid (HB2.out.trans (hb3.mono (by omega)))
    clear hb3 g0 g1 g2
    cases gi with
    | true =>
      go_wp2
      go_ret
      exact ⟨rfl, (HU.out w3 HB3.out).2.2.2.2⟩
    | false =>
      have hct := greatTy_count ty HGT.out
      have hci := great_count x HGI.out
      obtain ⟨F, hF⟩ : ∃ F, fitE ty x = F := ⟨_, rfl⟩
      have HF1 : Hid (∀ V, Below (w.heap.size + 2) W0 V → Calls Tryd.prog 14 #[.agg #[.int .i64 ki, .int .i64 si, .slice A nt cap, .int .i64 ta], .agg #[.string tx, .bool lx, .slice A' nx cap']] V fun e w' => e = .returned (.int .i64 F) ∧ Below (w.heap.size + 2) W0 w') := Lib.hid (fun V hV => by
        obtain ⟨h1, h2, h3, h4, _⟩ := HU.out V hV
        refine (fits_c ty x w.heap.size V _ _ _ _ _ _ _ h1 h2 (by omega) h3).mono ?_
        rintro e w' ⟨rfl, hx⟩
        exact ⟨by rw [hF], hV.trans (hx.mono h4)⟩)
      have HF2 : Hid (∀ V, Below (w.heap.size + 2) W0 V → Calls Tryd.prog 15 #[.agg #[.int .i64 ki, .int .i64 si, .slice A nt cap, .int .i64 ta], .agg #[.string tx, .bool lx, .slice A' nx cap']] V fun e w' => e = .returned (.int .i64 F) ∧ Below (w.heap.size + 2) W0 w') := Lib.hid (fun V hV => by
        obtain ⟨h1, h2, h3, h4, _⟩ := HU.out V hV
        refine (refFits_c ty x w.heap.size V _ _ _ _ _ _ _ h1 h2 (by omega) (by omega) (by omega)).mono ?_
        rintro e w' ⟨rfl, hx⟩
        exact ⟨by rw [hF], hV.trans (hx.mono h4)⟩)
      have HKP : Hid (∀ V, Below (w.heap.size + 2) W0 V → V.cell? ⟨w.heap.size, 0, none⟩ = some (.int .i64 ki) ∧ V.cell? ⟨w.heap.size, 1, none⟩ = some (.int .i64 si) ∧ V.cell? ⟨w.heap.size, 2, none⟩ = some (.slice A nt cap) ∧ V.cell? ⟨w.heap.size, 3, none⟩ = some (.int .i64 ta) ∧
          V.cell? ⟨w.heap.size + 1, 0, none⟩ = some (.string tx) ∧ V.cell? ⟨w.heap.size + 1, 1, none⟩ = some (.bool lx) ∧ V.cell? ⟨w.heap.size + 1, 2, none⟩ = some (.slice A' nx cap') ∧ Below (w.heap.size + 2) W0 V) := Lib.hid (fun V hV => by
        have n1 := HM1.out.keep hV (by omega)
        have n2 := HM2.out.keep hV (by omega)
        exact ⟨n1.cell 0, n1.cell 1, n1.cell 2, n1.cell 3, n2.cell 0, n2.cell 1, n2.cell 2, hV⟩)
      have hFF : (F == F) = true := by simp
      clear hF hct hci
      go_wp2_with fail
      obtain ⟨x0, x1, x2, x3, x4, x5, x6, x8⟩ := HKP.out w3 HB3.out
      go_region_held3 (fun V => V.cell? ⟨w.heap.size, 0, none⟩ = some (.int .i64 ki) ∧ V.cell? ⟨w.heap.size, 1, none⟩ = some (.int .i64 si) ∧ V.cell? ⟨w.heap.size, 2, none⟩ = some (.slice A nt cap) ∧ V.cell? ⟨w.heap.size, 3, none⟩ = some (.int .i64 ta) ∧
          V.cell? ⟨w.heap.size + 1, 0, none⟩ = some (.string tx) ∧ V.cell? ⟨w.heap.size + 1, 1, none⟩ = some (.bool lx) ∧ V.cell? ⟨w.heap.size + 1, 2, none⟩ = some (.slice A' nx cap') ∧ Below (w.heap.size + 2) W0 V)
        (first | exact HKP.out _ x8 | exact HKP.out _ hv | exact HKP.out _ hv.drew | exact HKP.out _ x8.drew | exact HKP.out _ (by assumption) | exact HKP.out _ (Below.drew (by assumption)))
        (first | (go_at_call 14; ((with_reducible refine (HF1.out _ (by first | assumption | exact Below.drew (by assumption) | exact Below.drewN' (by assumption) _)).mono ?_); rintro e w' ⟨rfl, hv⟩)) | (go_at_call 15; ((with_reducible refine (HF2.out _ (by first | assumption | exact Below.drew (by assumption) | exact Below.drewN' (by assumption) _)).mono ?_); rintro e w' ⟨rfl, hv⟩)))
      all_goals
        go_wp2
        go_ret
        refine ⟨?_, (HU.out _ (by assumption)).2.2.2.2⟩
        first | rfl | (show Ending.returned (.bool (F == F)) = _; rw [hFF])
end Go.Proofs.YtmcdgmepheibkaaDoor
