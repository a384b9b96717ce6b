/- hatchwaylaw22.TreeOne: two values of a type that aren't alike have trees that aren't. -/
import Derived.Test.YtacikiambpfipaaDoorJA8
import Derived.Test.YtacikiambpfipaaDoorJA10
namespace Go.Proofs.YtacikiambpfipaaDoor
set_option linter.unusedVariables false
set_option linter.unusedSimpArgs false
open Go.RowKit

/-- What stands behind the three boxes, whatever comes. -/
structure TrO (w V : World) (ty : Ty) (x y : It) (t0 t1 t2 t3 c0 c1 c2 d0 d1 d2 : Value) : Prop where
  ty : TyIn V w.heap.size ty t0 t1 t2 t3
  it : ItIn V w.heap.size x c0 c1 c2
  jt : ItIn V w.heap.size y d0 d1 d2
  laid : Laid V
  siz : w.heap.size + 3 ≤ V.heap.size
  bel : Below w.heap.size w V
  b3 : Blk V w.heap.size 24 #[t0, t1, t2, t3]
  b4 : Blk V (w.heap.size + 1) 27 #[c0, c1, c2]
  b5 : Blk V (w.heap.size + 1 + 1) 27 #[d0, d1, d2]
theorem TrO.mk' {w W0 V : World} {ty : Ty} {x y : It} {t0 t1 t2 t3 c0 c1 c2 d0 d1 d2 : Value} (hW : ((w.alloc (.cells #[t0, t1, t2, t3] 24)).alloc (.cells #[c0, c1, c2] 27)).alloc (.cells #[d0, d1, d2] 27) = W0)
    (hT : TyIn w w.heap.size ty t0 t1 t2 t3) (hI : ItIn w w.heap.size x c0 c1 c2) (hJ : ItIn w w.heap.size y d0 d1 d2) (hL : Laid w) (hV : Below (w.heap.size + 3) W0 V) : TrO w V ty x y t0 t1 t2 t3 c0 c1 c2 d0 d1 d2 := by
  have hz : W0.heap.size = w.heap.size + 3 := by rw [← hW]; simp
  have hb : Below w.heap.size w W0 := by rw [← hW]; exact (by repeat (first | exact Below.refl _ _ | assumption | with_reducible refine Below.drewN' ?_ _ | with_reducible refine Below.drew ?_ | ((with_reducible refine Below.alloc' ?_ ?_ _); · (first | omega | (simp <;> omega)))))
  have h3 : Blk W0 w.heap.size 24 #[t0, t1, t2, t3] := by rw [← hW]; exact ((Blk.at_ (by simp)).alloc _).alloc _
  have h4 : Blk W0 (w.heap.size + 1) 27 #[c0, c1, c2] := by rw [← hW]; exact (Blk.at_ (by simp)).alloc _
  have h5 : Blk W0 (w.heap.size + 1 + 1) 27 #[d0, d1, d2] := by rw [← hW]; exact Blk.at_ (by simp)
  have hp := hL.pos
  exact ⟨(hT.below hb).below (hV.mono (by omega)), (hI.below hb).below (hV.mono (by omega)), (hJ.below hb).below (hV.mono (by omega)), (hL.below hb hp).below hV (by omega), by have := hV.size; omega, hb.trans (hV.mono (by omega)), h3.keep hV (by omega), h4.keep hV (by omega), h5.keep hV (by omega)⟩
set_option maxRecDepth 100000 in
set_option maxHeartbeats 3200000 in
theorem treeOne_w (ty : Ty) (t0 t1 t2 t3 : Value) (x : It) (c0 c1 c2 : Value) (y : It) (d0 d1 d2 : Value) (w : World) (hT : TyIn w w.heap.size ty t0 t1 t2 t3) (hI : ItIn w w.heap.size x c0 c1 c2) (hJ : ItIn w w.heap.size y d0 d1 d2) (hL : Laid w) :
    Calls Tryd.prog 3 #[.agg #[t0, t1, t2, t3], .agg #[c0, c1, c2], .agg #[d0, d1, d2]] w fun e w' => e = .returned (.bool true) ∧ Below w.heap.size w w' := by
  obtain ⟨W0, hW0⟩ : ∃ W0, ((w.alloc (.cells #[t0, t1, t2, t3] 24)).alloc (.cells #[c0, c1, c2] 27)).alloc (.cells #[d0, d1, d2] 27) = W0 := ⟨_, rfl⟩
  have HU : Hid (∀ V, Below (w.heap.size + 3) W0 V → TrO w V ty x y t0 t1 t2 t3 c0 c1 c2 d0 d1 d2) := Lib.hid (fun V hV => TrO.mk' hW0 hT hI hJ hL hV)
  have hz0 : W0.heap.size = w.heap.size + 3 := by rw [← hW0]; simp
  have HA := Lib.hid (alive22_c W0 (HU.out W0 (Below.refl _ _)).laid)
  have HG1 : Hid (∀ V, Below (w.heap.size + 3) W0 V → Calls Tryd.prog 12 #[.agg #[t0, t1, t2, t3]] V fun e w' => e = .returned (.bool ty.great) ∧ Below V.heap.size V w') := Lib.hid (fun V hV => great20_c ty w.heap.size V _ _ _ _ (HU.out V hV).ty (by have := (HU.out V hV).siz; omega))
  have HG2 : Hid (∀ V, Below (w.heap.size + 3) W0 V → Calls Tryd.prog 13 #[.agg #[c0, c1, c2]] V fun e w' => e = .returned (.bool x.great) ∧ Below V.heap.size V w') := Lib.hid (fun V hV => great_c x w.heap.size V _ _ _ (HU.out V hV).it (by have := (HU.out V hV).siz; omega))
  have HG3 : Hid (∀ V, Below (w.heap.size + 3) W0 V → Calls Tryd.prog 13 #[.agg #[d0, d1, d2]] V fun e w' => e = .returned (.bool y.great) ∧ Below V.heap.size V w') := Lib.hid (fun V hV => great_c y w.heap.size V _ _ _ (HU.out V hV).jt (by have := (HU.out V hV).siz; omega))
  have HW0 := Lib.hid hW0
  have HZ0 := Lib.hid hz0
  obtain ⟨gt, hgt⟩ : ∃ gt, ty.great = gt := ⟨_, rfl⟩
  obtain ⟨gi, hgi⟩ : ∃ gi, x.great = gi := ⟨_, rfl⟩
  obtain ⟨gj, hgj⟩ : ∃ gj, y.great = gj := ⟨_, rfl⟩
  rw [hgt] at HG1
  rw [hgi] at HG2
  rw [hgj] at HG3
  have HGI := Lib.hid hgi
  have HGJ := Lib.hid hgj
  obtain ⟨A, cap, rfl, rfl, rfl, rfl, _⟩ := hT.open_
  obtain ⟨A', cap', rfl, rfl, rfl, _⟩ := hI.open_
  obtain ⟨A5, cap5, rfl, rfl, rfl, _⟩ := hJ.open_
  clear hgt hgi hgj hT hI hJ hW0 hL hz0
  go_enter Tryd.func3, Tryd.ntmps3
  go_wp2_with fail
  rw [HW0.out]
  refine HA.out.mono ?_
  rintro e w1 ⟨rfl, hb1⟩
  have HB1 : Hid (Below (w.heap.size + 3) W0 w1) := Lib.hid (hb1.mono (by have := HZ0.out; omega))
  clear hb1
  obtain ⟨q0, q1, q2, q3, _⟩ := blk4 (HU.out w1 HB1.out).b3
  obtain ⟨p0, p1, p2⟩ := blk3' (HU.out w1 HB1.out).b4
  obtain ⟨r0, r1, r2⟩ := blk3' (HU.out w1 HB1.out).b5
  have hsz := (HU.out w1 HB1.out).siz
  go_wp2_with fail
  refine (HG1.out w1 HB1.out).mono ?_
  rintro e w2 ⟨rfl, hb2⟩
  have HB2 : Hid (Below (w.heap.size + 3) W0 w2) := Lib.hid (HB1.out.trans (hb2.mono hsz))
  clear hb2
  clear q0 q1 q2 q3 p0 p1 p2 r0 r1 r2 hsz
  cases gt with
  | true =>
    go_wp2
    go_ret
    exact ⟨rfl, (HU.out w2 HB2.out).bel⟩
  | false =>
    obtain ⟨q0, q1, q2, q3, _⟩ := blk4 (HU.out w2 HB2.out).b3
    obtain ⟨p0, p1, p2⟩ := blk3' (HU.out w2 HB2.out).b4
    obtain ⟨r0, r1, r2⟩ := blk3' (HU.out w2 HB2.out).b5
    have hsz := (HU.out w2 HB2.out).siz
    go_wp2_with fail
    refine (HG2.out w2 HB2.out).mono ?_
    rintro e w3 ⟨rfl, hb3⟩
    have HB3 : Hid (Below (w.heap.size + 3) W0 w3) := Lib.hid (HB2.out.trans (hb3.mono hsz))
    clear hb3
    clear q0 q1 q2 q3 p0 p1 p2 r0 r1 r2 hsz
    cases gi with
    | true =>
      go_wp2
      go_ret
      exact ⟨rfl, (HU.out w3 HB3.out).bel⟩
    | false =>
      obtain ⟨q0, q1, q2, q3, _⟩ := blk4 (HU.out w3 HB3.out).b3
      obtain ⟨p0, p1, p2⟩ := blk3' (HU.out w3 HB3.out).b4
      obtain ⟨r0, r1, r2⟩ := blk3' (HU.out w3 HB3.out).b5
      have hsz := (HU.out w3 HB3.out).siz
      go_wp2_with fail
      refine (HG3.out w3 HB3.out).mono ?_
      rintro e w4 ⟨rfl, hb4⟩
      have HB4 : Hid (Below (w.heap.size + 3) W0 w4) := Lib.hid (HB3.out.trans (hb4.mono hsz))
      clear hb4
      clear q0 q1 q2 q3 p0 p1 p2 r0 r1 r2 hsz
      cases gj with
      | true =>
        go_wp2
        go_ret
        exact ⟨rfl, (HU.out w4 HB4.out).bel⟩
      | false =>
        have hri := great_rlp x HGI.out
        have hrj := great_rlp y HGJ.out
        obtain ⟨E, hE⟩ : ∃ E, tPutE ty x 16 1024 = E := ⟨_, rfl⟩
        obtain ⟨F, hF⟩ : ∃ F, tPutE ty y 16 1024 = F := ⟨_, rfl⟩
        obtain ⟨S, hS⟩ : ∃ S, (if E = 0 then (⟨x.rlp.toArray⟩ : ByteArray) else ⟨#[]⟩) = S := ⟨_, rfl⟩
        obtain ⟨T, hT⟩ : ∃ T, (if F = 0 then (⟨y.rlp.toArray⟩ : ByteArray) else ⟨#[]⟩) = T := ⟨_, rfl⟩
        have HP1 := Lib.hid (fun V hV => treePut_c ty x 16 1024 w.heap.size V _ _ _ _ _ _ _ (HU.out V hV).ty (HU.out V hV).it (by have := (HU.out V hV).siz; omega) (HU.out V hV).laid (by omega))
        have HP2 := Lib.hid (fun V hV => treePut_c ty y 16 1024 w.heap.size V _ _ _ _ _ _ _ (HU.out V hV).ty (HU.out V hV).jt (by have := (HU.out V hV).siz; omega) (HU.out V hV).laid (by omega))
        rw [hE, hS] at HP1
        rw [hF, hT] at HP2
        have HIN : Hid (E = 0 → F = 0 → (S = T ↔ x = y)) := Lib.hid (fun he hf => by
          rw [if_pos he] at hS
          rw [if_pos hf] at hT
          have h1 := ((capsE_zero _ _ _).1 ((tPutE_zero _ _ _ _).1 (hE.trans he)).2).1
          have h2 := ((capsE_zero _ _ _).1 ((tPutE_zero _ _ _ _).1 (hF.trans hf)).2).1
          constructor
          · intro h
            refine rlp_inj x y h1 h2 (by omega) ?_
            have := congrArg (fun t => t.data.toList) (hS.trans (h.trans hT.symm))
            simpa using this
          · rintro rfl
            rw [← hS, ← hT])
        clear hE hF hS hT hri hrj
        obtain ⟨q0, q1, q2, q3, _⟩ := blk4 (HU.out w4 HB4.out).b3
        obtain ⟨p0, p1, p2⟩ := blk3' (HU.out w4 HB4.out).b4
        obtain ⟨r0, r1, r2⟩ := blk3' (HU.out w4 HB4.out).b5
        have hsz := (HU.out w4 HB4.out).siz
        go_wp2_with fail
        refine (HP1.out w4 HB4.out).mono ?_
        rintro e w5 ⟨rfl, hb5⟩
        have HB5 : Hid (Below (w.heap.size + 3) W0 w5) := Lib.hid (HB4.out.trans (hb5.mono hsz))
        clear hb5
        clear q0 q1 q2 q3 p0 p1 p2 r0 r1 r2 hsz
        obtain ⟨q0, q1, q2, q3, _⟩ := blk4 (HU.out w5 HB5.out).b3
        obtain ⟨p0, p1, p2⟩ := blk3' (HU.out w5 HB5.out).b4
        obtain ⟨r0, r1, r2⟩ := blk3' (HU.out w5 HB5.out).b5
        have hsz := (HU.out w5 HB5.out).siz
        go_wp2_with fail
        refine (HP2.out w5 HB5.out).mono ?_
        rintro e w6 ⟨rfl, hb6⟩
        have HB6 : Hid (Below (w.heap.size + 3) W0 w6) := Lib.hid (HB5.out.trans (hb6.mono hsz))
        clear hb6
        clear q0 q1 q2 q3 p0 p1 p2 r0 r1 r2 hsz
        rcases beq0 E with ⟨he, k1, k2⟩ | ⟨he, k1, k2⟩
        · subst he
          rcases beq0 F with ⟨hf, k3, k4⟩ | ⟨hf, k3, k4⟩
          · subst hf
            have hst := HIN.out rfl rfl
            have HSM := Lib.hid (refSame_c x w.heap.size w6 _ _ _ (HU.out w6 HB6.out).it (by have := (HU.out w6 HB6.out).siz; omega) y _ _ _ (HU.out w6 HB6.out).jt)
            by_cases hxy : x = y
            · obtain rfl := hst.2 hxy
              have HXY := Lib.hid hxy
              clear hst hxy HIN
              obtain ⟨q0, q1, q2, q3, _⟩ := blk4 (HU.out w6 HB6.out).b3
              obtain ⟨p0, p1, p2⟩ := blk3' (HU.out w6 HB6.out).b4
              obtain ⟨r0, r1, r2⟩ := blk3' (HU.out w6 HB6.out).b5
              have hsz := (HU.out w6 HB6.out).siz
              go_wp2_with fail
              refine HSM.out.mono ?_
              rintro e w7 ⟨⟨r, rfl, hr⟩, hb7⟩
              obtain rfl : r = true := by
                have hxy := HXY.out
                cases r with
                | false => first | rfl | exact (hr.2 hxy)
                | true => first | rfl | exact absurd (hr.1 rfl) hxy
              have HB7 : Hid (Below (w.heap.size + 3) W0 w7) := Lib.hid (HB6.out.trans (hb7.mono hsz))
              clear hb7 hr
              clear q0 q1 q2 q3 p0 p1 p2 r0 r1 r2 hsz
              go_wp2
              go_ret
              exact ⟨rfl, (HU.out w7 HB7.out).bel⟩
            · rcases str_ways S T with ⟨h, _, _⟩ | ⟨_, h2, h3⟩
              · exact absurd (hst.1 h) hxy
              · have HXY := Lib.hid hxy
                clear hst hxy HIN
                obtain ⟨q0, q1, q2, q3, _⟩ := blk4 (HU.out w6 HB6.out).b3
                obtain ⟨p0, p1, p2⟩ := blk3' (HU.out w6 HB6.out).b4
                obtain ⟨r0, r1, r2⟩ := blk3' (HU.out w6 HB6.out).b5
                have hsz := (HU.out w6 HB6.out).siz
                go_wp2_with fail
                refine HSM.out.mono ?_
                rintro e w7 ⟨⟨r, rfl, hr⟩, hb7⟩
                obtain rfl : r = false := by
                  have hxy := HXY.out
                  cases r with
                  | false => first | rfl | exact (hr.2 hxy)
                  | true => first | rfl | exact absurd (hr.1 rfl) hxy
                have HB7 : Hid (Below (w.heap.size + 3) W0 w7) := Lib.hid (HB6.out.trans (hb7.mono hsz))
                clear hb7 hr
                clear q0 q1 q2 q3 p0 p1 p2 r0 r1 r2 hsz
                go_wp2
                go_ret
                exact ⟨rfl, (HU.out w7 HB7.out).bel⟩
          · go_wp2
            go_ret
            exact ⟨rfl, (HU.out w6 HB6.out).bel⟩
        · go_wp2
          go_ret
          exact ⟨rfl, (HU.out w6 HB6.out).bel⟩
end Go.Proofs.YtacikiambpfipaaDoor
