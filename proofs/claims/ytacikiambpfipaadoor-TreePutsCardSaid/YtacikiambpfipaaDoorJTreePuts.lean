/- hatchwaylaw22.TreePuts: the tree of any item, of any type, by any caps, is the document's, or the error; it is got again. -/
import Derived.Test.YtacikiambpfipaaDoorJA8
import Derived.Test.YtacikiambpfipaaDoorJA10
namespace Go.Proofs.YtacikiambpfipaaDoor
set_option linter.unusedVariables false
set_option linter.unusedSimpArgs false
open Go.RowKit

/-- What stands behind the two boxes, whatever comes. -/
structure TrU (w W0 V : World) (ty : Ty) (x : It) (t0 t1 t2 t3 c0 c1 c2 : Value) : Prop where
  ty : TyIn V w.heap.size ty t0 t1 t2 t3
  it : ItIn V w.heap.size x c0 c1 c2
  laid : Laid V
  siz : w.heap.size + 2 ≤ V.heap.size
  bel : Below w.heap.size w V
  b4 : Blk V w.heap.size 24 #[t0, t1, t2, t3]
  b5 : Blk V (w.heap.size + 1) 27 #[c0, c1, c2]
theorem TrU.mk' {w W0 V : World} {ty : Ty} {x : It} {t0 t1 t2 t3 c0 c1 c2 : Value} (hW : (w.alloc (.cells #[t0, t1, t2, t3] 24)).alloc (.cells #[c0, c1, c2] 27) = W0) (hT : TyIn w w.heap.size ty t0 t1 t2 t3) (hI : ItIn w w.heap.size x c0 c1 c2) (hL : Laid w) (hV : Below (w.heap.size + 2) W0 V) : TrU w W0 V ty x t0 t1 t2 t3 c0 c1 c2 := by
  obtain ⟨hz, hb, h4, h5⟩ := box2 hW
  have hp := hL.pos
  exact ⟨(hT.below hb).below (hV.mono (by omega)), (hI.below hb).below (hV.mono (by omega)), (hL.below hb hp).below hV (by omega), by have := hV.size; omega, hb.trans (hV.mono (by omega)), h4.keep hV (by omega), h5.keep hV (by omega)⟩
set_option maxRecDepth 100000 in
set_option maxHeartbeats 3200000 in
theorem treePuts_w (ty : Ty) (t0 t1 t2 t3 : Value) (x : It) (c0 c1 c2 : Value) (D M : Int) (w : World) (hT : TyIn w w.heap.size ty t0 t1 t2 t3) (hI : ItIn w w.heap.size x c0 c1 c2) (hL : Laid w) :
    Calls Tryd.prog 7 #[.agg #[t0, t1, t2, t3], .agg #[c0, c1, c2], .int .i64 D, .int .i64 M] w fun e w' => e = .returned (.bool true) ∧ Below w.heap.size w w' := by
  obtain ⟨W0, hW0⟩ : ∃ W0, (w.alloc (.cells #[t0, t1, t2, t3] 24)).alloc (.cells #[c0, c1, c2] 27) = W0 := ⟨_, rfl⟩
  obtain ⟨hz0, hb0, _, _⟩ := box2 hW0
  have HA := Lib.hid (alive22_c W0 (hL.below hb0 hL.pos))
  have HU : Hid (∀ V, Below (w.heap.size + 2) W0 V → TrU w W0 V ty x t0 t1 t2 t3 c0 c1 c2) := Lib.hid (fun V hV => TrU.mk' hW0 hT hI hL hV)
  have HG1 : Hid (∀ V, Below (w.heap.size + 2) W0 V → Calls Tryd.prog 12 #[.agg #[t0, t1, t2, t3]] V fun e w' => e = .returned (.bool ty.great) ∧ Below V.heap.size V w') := Lib.hid (fun V hV => great20_c ty w.heap.size V _ _ _ _ (HU.out V hV).ty (by have := (HU.out V hV).siz; omega))
  have HG2 : Hid (∀ V, Below (w.heap.size + 2) W0 V → Calls Tryd.prog 13 #[.agg #[c0, c1, c2]] V fun e w' => e = .returned (.bool x.great) ∧ Below V.heap.size V w') := Lib.hid (fun V hV => great_c x w.heap.size V _ _ _ (HU.out V hV).it (by have := (HU.out V hV).siz; omega))
  have HW0 := Lib.hid hW0
  have HZ0 := Lib.hid hz0
  obtain ⟨gt, hgt⟩ : ∃ gt, ty.great = gt := ⟨_, rfl⟩
  obtain ⟨gi, hgi⟩ : ∃ gi, x.great = gi := ⟨_, rfl⟩
  rw [hgt] at HG1
  rw [hgi] at HG2
  have HGT := Lib.hid hgt
  have HGI := Lib.hid hgi
  obtain ⟨A, cap, rfl, rfl, rfl, rfl, _⟩ := hT.open_
  obtain ⟨A', cap', rfl, rfl, rfl, _⟩ := hI.open_
  clear hgt hgi hT hI hW0 hb0 hL hz0
  go_enter Tryd.func7, Tryd.ntmps7
  go_wp2_with fail
  rw [HW0.out]
  refine HA.out.mono ?_
  rintro e w1 ⟨rfl, hb1⟩
  have HB1 : Hid (Below (w.heap.size + 2) W0 w1) := Lib.hid (hb1.mono (by have := HZ0.out; omega))
  clear hb1
  obtain ⟨q0, q1, q2, q3, _⟩ := blk4 (HU.out w1 HB1.out).b4
  obtain ⟨p0, p1, p2⟩ := blk3' (HU.out w1 HB1.out).b5
  have hsz := (HU.out w1 HB1.out).siz
  go_wp2_with fail
  refine (HG1.out w1 HB1.out).mono ?_
  rintro e w2 ⟨rfl, hb2⟩
  have HB2 : Hid (Below (w.heap.size + 2) W0 w2) := Lib.hid (HB1.out.trans (hb2.mono hsz))
  clear hb2
  clear q0 q1 q2 q3 p0 p1 p2 hsz
  cases gt with
  | true =>
    go_wp2
    go_ret
    exact ⟨rfl, (HU.out w2 HB2.out).bel⟩
  | false =>
    obtain ⟨q0, q1, q2, q3, _⟩ := blk4 (HU.out w2 HB2.out).b4
    obtain ⟨p0, p1, p2⟩ := blk3' (HU.out w2 HB2.out).b5
    have hsz := (HU.out w2 HB2.out).siz
    go_wp2_with fail
    refine (HG2.out w2 HB2.out).mono ?_
    rintro e w3 ⟨rfl, hb3⟩
    have HB3 : Hid (Below (w.heap.size + 2) W0 w3) := Lib.hid (HB2.out.trans (hb3.mono hsz))
    clear hb3
    clear q0 q1 q2 q3 p0 p1 p2 hsz
    cases gi with
    | true =>
      go_wp2
      go_ret
      exact ⟨rfl, (HU.out w3 HB3.out).bel⟩
    | false =>
      have hct := greatTy_count ty HGT.out
      have hci := great_count x HGI.out
      have hrl := great_rlp x HGI.out
      obtain ⟨E, hE⟩ : ∃ E, tPutE ty x D M = E := ⟨_, rfl⟩
      obtain ⟨S, hS⟩ : ∃ S, (if E = 0 then (⟨x.rlp.toArray⟩ : ByteArray) else ⟨#[]⟩) = S := ⟨_, rfl⟩
      have HP1 := Lib.hid (fun V hV => treePut_c ty x D M w.heap.size V _ _ _ _ _ _ _ (HU.out V hV).ty (HU.out V hV).it (by have := (HU.out V hV).siz; omega) (HU.out V hV).laid (by omega))
      have HP2 := Lib.hid (fun V hV => ref22Put_c ty x D M w.heap.size V _ _ _ _ _ _ _ (HU.out V hV).ty (HU.out V hV).it (by have := (HU.out V hV).siz; omega) (by omega) (by omega) (by omega))
      rw [hE, hS] at HP1 HP2
      have HE := Lib.hid hE
      have HS := Lib.hid hS
      have HRL := Lib.hid hrl
      clear hE hS hct hci hrl
      obtain ⟨q0, q1, q2, q3, _⟩ := blk4 (HU.out w3 HB3.out).b4
      obtain ⟨p0, p1, p2⟩ := blk3' (HU.out w3 HB3.out).b5
      have hsz := (HU.out w3 HB3.out).siz
      go_wp2_with fail
      refine (HP1.out w3 HB3.out).mono ?_
      rintro e w4 ⟨rfl, hb4⟩
      have HB4 : Hid (Below (w.heap.size + 2) W0 w4) := Lib.hid (HB3.out.trans (hb4.mono hsz))
      clear hb4
      clear q0 q1 q2 q3 p0 p1 p2 hsz
      obtain ⟨q0, q1, q2, q3, _⟩ := blk4 (HU.out w4 HB4.out).b4
      obtain ⟨p0, p1, p2⟩ := blk3' (HU.out w4 HB4.out).b5
      have hsz := (HU.out w4 HB4.out).siz
      go_wp2_with fail
      refine (HP2.out w4 HB4.out).mono ?_
      rintro e w5 ⟨rfl, hb5⟩
      have HB5 : Hid (Below (w.heap.size + 2) W0 w5) := Lib.hid (HB4.out.trans (hb5.mono hsz))
      clear hb5
      clear q0 q1 q2 q3 p0 p1 p2 hsz
      rcases beq0 E with ⟨he, k1, k2⟩ | ⟨he, k1, k2⟩
      · subst he
        have hs : S = ⟨x.rlp.toArray⟩ := by have := HS.out; rw [if_pos rfl] at this; exact this.symm
        have hsd : S.data.toList = x.rlp := by rw [hs]
        have hsz2 : S.size ≤ 20000 := by rw [← toList_size, hsd]; exact HRL.out
        obtain ⟨g1, g2⟩ := tree_put_get ty x D M HE.out S hsd (by omega)
        have g3 : tGetX ty S D M = x := by unfold tGetX; rw [if_neg (by simp [g1]), g2]
        have HGE := Lib.hid (fun V hV => treeGet_c ty S D M w.heap.size V _ _ _ _ (HU.out V hV).ty (by have := (HU.out V hV).siz; omega) (HU.out V hV).laid (by omega))
        have HCH := Lib.hid (fun V hV => treeCheck_c ty S D M w.heap.size V _ _ _ _ (HU.out V hV).ty (by have := (HU.out V hV).siz; omega) (HU.out V hV).laid (by omega))
        rw [g1, g3] at HGE
        rw [g1] at HCH
        clear hs hsd hsz2 g1 g2 g3
        obtain ⟨q0, q1, q2, q3, _⟩ := blk4 (HU.out w5 HB5.out).b4
        obtain ⟨p0, p1, p2⟩ := blk3' (HU.out w5 HB5.out).b5
        have hsz := (HU.out w5 HB5.out).siz
        go_wp2_with fail
        refine (HGE.out w5 HB5.out).mono ?_
        rintro e w6 ⟨hb6, d0, d1, d2, rfl, hy⟩
        have HB6 : Hid (Below (w.heap.size + 2) W0 w6) := Lib.hid (HB5.out.trans (hb6.mono hsz))
        obtain ⟨A6, cap6, rfl, rfl, rfl, _⟩ := hy.open_
        obtain ⟨W7, hW7⟩ : ∃ W7, w6.alloc (.cells #[.string x.text, .bool x.list, .slice A6 x.sub.length cap6] 27) = W7 := ⟨_, rfl⟩
        have hb7 : Below w6.heap.size w6 W7 := by rw [← hW7]; exact (Below.refl _ _).alloc (Nat.le_refl _) _
        have HB7 : Hid (Below (w.heap.size + 2) W0 W7) := Lib.hid (HB6.out.trans (hb7.mono (HU.out w6 HB6.out).siz))
        have HSM := Lib.hid (refSame_c x W7.heap.size W7 _ _ _ ((HU.out W7 HB7.out).it.mono (by have := (HU.out W7 HB7.out).siz; omega)) (Nat.le_refl _) x _ _ _ ((hy.below hb7).toIn))
        have HW7 := Lib.hid hW7
        clear hb6 hb7 hW7 hy
        clear q0 q1 q2 q3 p0 p1 p2 hsz
        obtain ⟨q0, q1, q2, q3, _⟩ := blk4 (HU.out w6 HB6.out).b4
        obtain ⟨p0, p1, p2⟩ := blk3' (HU.out w6 HB6.out).b5
        have hsz := (HU.out w6 HB6.out).siz
        have hl1 : w.heap.size + 1 < w6.heap.size := by omega
        have hl0 : w.heap.size < w6.heap.size := by omega
        go_wp2_with fail
        rw [HW7.out]
        refine HSM.out.mono ?_
        rintro e w8 ⟨⟨r, rfl, hr⟩, hb8⟩
        obtain rfl : r = true := hr.2 rfl
        have HB8 : Hid (Below (w.heap.size + 2) W0 w8) := Lib.hid (HB7.out.trans (hb8.mono (HU.out W7 HB7.out).siz))
        clear hb8 hr
        clear q0 q1 q2 q3 p0 p1 p2 hsz
        obtain ⟨q0, q1, q2, q3, _⟩ := blk4 (HU.out w8 HB8.out).b4
        obtain ⟨p0, p1, p2⟩ := blk3' (HU.out w8 HB8.out).b5
        have hsz := (HU.out w8 HB8.out).siz
        go_wp2_with fail
        refine (HCH.out w8 HB8.out).mono ?_
        rintro e w9 ⟨rfl, hb9⟩
        have HB9 : Hid (Below (w.heap.size + 2) W0 w9) := Lib.hid (HB8.out.trans (hb9.mono hsz))
        clear hb9
        go_wp2
        go_ret
        exact ⟨rfl, (HU.out w9 HB9.out).bel⟩
      · go_wp2
        go_ret
        exact ⟨rfl, (HU.out w5 HB5.out).bel⟩
end Go.Proofs.YtacikiambpfipaaDoor
