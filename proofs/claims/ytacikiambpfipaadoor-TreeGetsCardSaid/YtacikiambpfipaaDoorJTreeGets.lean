/- hatchwaylaw22.TreeGets: the value of any bytes, of any type, by any caps, or the error, is the document's; what is got is put as it was. -/
import Derived.Test.YtacikiambpfipaaDoorJA8
import Derived.Test.YtacikiambpfipaaDoorJTreeRG
namespace Go.Proofs.YtacikiambpfipaaDoor
set_option linter.unusedVariables false
set_option linter.unusedSimpArgs false
open Go.RowKit

/-- What stands behind the box, whatever comes. -/
structure TrV (w V : World) (ty : Ty) (t0 t1 t2 t3 : Value) : Prop where
  ty : TyIn V w.heap.size ty t0 t1 t2 t3
  laid : Laid V
  siz : w.heap.size + 1 ≤ V.heap.size
  bel : Below w.heap.size w V
  b4 : Blk V w.heap.size 24 #[t0, t1, t2, t3]
theorem TrV.mk' {w W0 V : World} {ty : Ty} {t0 t1 t2 t3 : Value} (hW : w.alloc (.cells #[t0, t1, t2, t3] 24) = W0) (hT : TyIn w w.heap.size ty t0 t1 t2 t3) (hL : Laid w) (hV : Below (w.heap.size + 1) W0 V) : TrV w V ty t0 t1 t2 t3 := by
  have hb : Below w.heap.size w W0 := by rw [← hW]; exact (Below.refl _ w).alloc (Nat.le_refl _) _
  have hz : W0.heap.size = w.heap.size + 1 := by rw [← hW]; simp
  have h4 : Blk W0 w.heap.size 24 #[t0, t1, t2, t3] := by rw [← hW]; exact Blk.new _ _ _
  have hp := hL.pos
  exact ⟨(hT.below hb).below (hV.mono (by omega)), (hL.below hb hp).below hV (by omega), by have := hV.size; omega, hb.trans (hV.mono (by omega)), h4.keep hV (by omega)⟩
set_option maxRecDepth 100000 in
set_option maxHeartbeats 3200000 in
theorem treeGets_w (ty : Ty) (t0 t1 t2 t3 : Value) (s : ByteArray) (D M : Int) (w : World) (hT : TyIn w w.heap.size ty t0 t1 t2 t3) (hL : Laid w) (hss : s.size ≤ 9223372036854775807) :
    Calls Tryd.prog 8 #[.agg #[t0, t1, t2, t3], .string s, .int .i64 D, .int .i64 M] w fun e w' => e = .returned (.bool true) ∧ Below w.heap.size w w' := by
  obtain ⟨W0, hW0⟩ : ∃ W0, w.alloc (.cells #[t0, t1, t2, t3] 24) = W0 := ⟨_, rfl⟩
  have hz0 : W0.heap.size = w.heap.size + 1 := by rw [← hW0]; simp
  have hb0 : Below w.heap.size w W0 := by rw [← hW0]; exact (Below.refl _ w).alloc (Nat.le_refl _) _
  have HA := Lib.hid (alive22_c W0 (hL.below hb0 hL.pos))
  have HU : Hid (∀ V, Below (w.heap.size + 1) W0 V → TrV w V ty t0 t1 t2 t3) := Lib.hid (fun V hV => TrV.mk' hW0 hT hL hV)
  have HG1 : Hid (∀ V, Below (w.heap.size + 1) W0 V → Calls Tryd.prog 12 #[.agg #[t0, t1, t2, t3]] V fun e w' => e = .returned (.bool ty.great) ∧ Below V.heap.size V w') := Lib.hid (fun V hV => great20_c ty w.heap.size V _ _ _ _ (HU.out V hV).ty (by have := (HU.out V hV).siz; omega))
  have HW0 := Lib.hid hW0
  have HZ0 := Lib.hid hz0
  obtain ⟨gt, hgt⟩ : ∃ gt, ty.great = gt := ⟨_, rfl⟩
  rw [hgt] at HG1
  have HGT := Lib.hid hgt
  obtain ⟨A, cap, rfl, rfl, rfl, rfl, _⟩ := hT.open_
  clear hgt hT hW0 hb0 hL hz0
  by_cases hgs : 2000 < s.size
  · go_enter Tryd.func8, Tryd.ntmps8
    go_wp2_with fail
    rw [HW0.out]
    refine HA.out.mono ?_
    rintro e w1 ⟨rfl, hb1⟩
    have HB1 : Hid (Below (w.heap.size + 1) W0 w1) := Lib.hid (hb1.mono (by have := HZ0.out; omega))
    clear hb1
    obtain ⟨q0, q1, q2, q3, _⟩ := blk4 (HU.out w1 HB1.out).b4
    have hsz := (HU.out w1 HB1.out).siz
    go_wp2_with fail
    refine (HG1.out w1 HB1.out).mono ?_
    rintro e w2 ⟨rfl, hb2⟩
    have HB2 : Hid (Below (w.heap.size + 1) W0 w2) := Lib.hid (HB1.out.trans (hb2.mono hsz))
    clear hb2
    clear q0 q1 q2 q3 hsz
    cases gt with
    | true =>
      go_wp2
      go_ret
      exact ⟨rfl, (HU.out w2 HB2.out).bel⟩
    | false =>
      go_wp2
      go_ret
      exact ⟨rfl, (HU.out w2 HB2.out).bel⟩
  · go_enter Tryd.func8, Tryd.ntmps8
    go_wp2_with fail
    rw [HW0.out]
    refine HA.out.mono ?_
    rintro e w1 ⟨rfl, hb1⟩
    have HB1 : Hid (Below (w.heap.size + 1) W0 w1) := Lib.hid (hb1.mono (by have := HZ0.out; omega))
    clear hb1
    obtain ⟨q0, q1, q2, q3, _⟩ := blk4 (HU.out w1 HB1.out).b4
    have hsz := (HU.out w1 HB1.out).siz
    go_wp2_with fail
    refine (HG1.out w1 HB1.out).mono ?_
    rintro e w2 ⟨rfl, hb2⟩
    have HB2 : Hid (Below (w.heap.size + 1) W0 w2) := Lib.hid (HB1.out.trans (hb2.mono hsz))
    clear hb2
    clear q0 q1 q2 q3 hsz
    cases gt with
    | true =>
      go_wp2
      go_ret
      exact ⟨rfl, (HU.out w2 HB2.out).bel⟩
    | false =>
      have hct := greatTy_count ty HGT.out
      obtain ⟨E, hE⟩ : ∃ E, tGetE ty s D M = E := ⟨_, rfl⟩
      obtain ⟨Y, hY⟩ : ∃ Y, tGetX ty s D M = Y := ⟨_, rfl⟩
      have HP1 := Lib.hid (fun V hV => treeGet_c ty s D M w.heap.size V _ _ _ _ (HU.out V hV).ty (by have := (HU.out V hV).siz; omega) (HU.out V hV).laid (by omega))
      have HP2 := Lib.hid (fun V hV => ref22Get_c ty s D M w.heap.size V _ _ _ _ (HU.out V hV).ty (by have := (HU.out V hV).siz; omega) (by omega) (by omega))
      have HCH := Lib.hid (fun V hV => treeCheck_c ty s D M w.heap.size V _ _ _ _ (HU.out V hV).ty (by have := (HU.out V hV).siz; omega) (HU.out V hV).laid (by omega))
      rw [hE, hY] at HP1 HP2
      rw [hE] at HCH
      have hEE : (E == E) = true := by simp
      have HBK : Hid (E = 0 → tPutE ty Y D M = 0 ∧ (⟨Y.rlp.toArray⟩ : ByteArray) = s ∧ Y.rlp.length ≤ 1099511627776) := Lib.hid (fun he => by
        rw [he] at hE
        have h1 := tree_get_put ty s D M hE
        have h2 : Y = getX D M s := by rw [← hY]; unfold tGetX; rw [if_neg (by simp [hE])]
        rw [← h2] at h1
        exact ⟨h1.1, by rw [h1.2], by rw [h1.2, toList_size]; omega⟩)
      clear hE hY hct
      obtain ⟨q0, q1, q2, q3, _⟩ := blk4 (HU.out w2 HB2.out).b4
      have hsz := (HU.out w2 HB2.out).siz
      go_wp2_with fail
      refine (HP1.out w2 HB2.out).mono ?_
      rintro e w3 ⟨hb3, d0, d1, d2, rfl, hy⟩
      have HB3 : Hid (Below (w.heap.size + 1) W0 w3) := Lib.hid (HB2.out.trans (hb3.mono hsz))
      obtain ⟨A3, cap3, rfl, rfl, rfl, _⟩ := hy.open_
      obtain ⟨W4, hW4⟩ : ∃ W4, w3.alloc (.cells #[.string Y.text, .bool Y.list, .slice A3 Y.sub.length cap3] 27) = W4 := ⟨_, rfl⟩
      obtain ⟨b4a, b4b, b4c⟩ := box3 hW4.symm
      have HB4 : Hid (Below (w.heap.size + 1) W0 W4) := Lib.hid (HB3.out.trans (b4a.mono (HU.out w3 HB3.out).siz))
      have HY4 := Lib.hid ((hy.below b4a).toIn)
      have HX4 : Hid (∀ V, Below W4.heap.size W4 V → Blk V w3.heap.size 27 #[.string Y.text, .bool Y.list, .slice A3 Y.sub.length cap3] ∧ ItIn V W4.heap.size Y (.string Y.text) (.bool Y.list) (.slice A3 Y.sub.length cap3)) := Lib.hid (fun V hV => ⟨b4c.keep hV (by omega), HY4.out.below hV⟩)
      have HZ4 := Lib.hid b4b
      have HW4 := Lib.hid hW4
      clear hb3 hy hW4 b4a b4b b4c
      clear q0 q1 q2 q3 hsz
      obtain ⟨q0, q1, q2, q3, _⟩ := blk4 (HU.out w3 HB3.out).b4
      have hsz := (HU.out w3 HB3.out).siz
      have hl0 : w.heap.size < w3.heap.size := by omega
      go_wp2_with fail
      rw [HW4.out]
      refine (HP2.out W4 HB4.out).mono ?_
      rintro e w5 ⟨hb5, d0, d1, d2, rfl, hy⟩
      have HB5 : Hid (Below (w.heap.size + 1) W0 w5) := Lib.hid (HB4.out.trans (hb5.mono (HU.out W4 HB4.out).siz))
      have HV5 : Hid (Below W4.heap.size W4 w5) := Lib.hid hb5
      obtain ⟨A5, cap5, rfl, rfl, rfl, _⟩ := hy.open_
      obtain ⟨W6, hW6⟩ : ∃ W6, w5.alloc (.cells #[.string Y.text, .bool Y.list, .slice A5 Y.sub.length cap5] 27) = W6 := ⟨_, rfl⟩
      obtain ⟨b6a, b6b, b6c⟩ := box3 hW6.symm
      have HB6 : Hid (Below (w.heap.size + 1) W0 W6) := Lib.hid (HB5.out.trans (b6a.mono (HU.out w5 HB5.out).siz))
      have HV6 : Hid (Below W4.heap.size W4 W6) := Lib.hid (hb5.trans (b6a.mono hb5.size))
      have HSM := Lib.hid (refSame_c Y W6.heap.size W6 _ _ _ ((HX4.out W6 HV6.out).2.mono HV6.out.size) (Nat.le_refl _) Y _ _ _ ((hy.below b6a).toIn))
      have HW6 := Lib.hid hW6
      have h45 := hb5.size
      have hz45 := HZ4.out
      clear hb5 hy hW6 b6a b6b b6c
      clear q0 q1 q2 q3 hsz
      clear hl0
      obtain ⟨q0, q1, q2, q3, _⟩ := blk4 (HU.out w5 HB5.out).b4
      have hsz := (HU.out w5 HB5.out).siz
      obtain ⟨y0, y1, y2⟩ := blk3' (HX4.out w5 HV5.out).1
      have hl3 : w3.heap.size < w5.heap.size := by omega
      have hl0 : w.heap.size < w5.heap.size := by omega
      go_wp2_with fail
      rw [HW6.out]
      refine HSM.out.mono ?_
      rintro e w7 ⟨⟨r, rfl, hr⟩, hb7⟩
      obtain rfl : r = true := hr.2 rfl
      have HB7 : Hid (Below (w.heap.size + 1) W0 w7) := Lib.hid (HB6.out.trans (hb7.mono (HU.out W6 HB6.out).siz))
      have HV7 : Hid (Below W4.heap.size W4 w7) := Lib.hid (HV6.out.trans (hb7.mono HV6.out.size))
      clear hb7 hr y0 y1 y2 hl3 hl0 h45 hz45
      clear q0 q1 q2 q3 hsz
      obtain ⟨q0, q1, q2, q3, _⟩ := blk4 (HU.out w7 HB7.out).b4
      have hsz := (HU.out w7 HB7.out).siz
      go_wp2_with fail
      refine (HCH.out w7 HB7.out).mono ?_
      rintro e w8 ⟨rfl, hb8⟩
      have HB8 : Hid (Below (w.heap.size + 1) W0 w8) := Lib.hid (HB7.out.trans (hb8.mono hsz))
      have HV8 : Hid (Below W4.heap.size W4 w8) := Lib.hid (HV7.out.trans (hb8.mono HV7.out.size))
      clear hb8
      clear q0 q1 q2 q3 hsz
      rcases beq0 E with ⟨he, k1, k2⟩ | ⟨he, k1, k2⟩
      · subst he
        obtain ⟨g1, g2, g3⟩ := HBK.out rfl
        have HPT := Lib.hid (treePut_c ty Y D M w8.heap.size w8 _ _ _ _ _ _ _ ((HU.out w8 HB8.out).ty.mono (by have := (HU.out w8 HB8.out).siz; omega)) ((HX4.out w8 HV8.out).2.mono HV8.out.size) (Nat.le_refl _) (HU.out w8 HB8.out).laid g3)
        rw [g1, if_pos rfl, g2] at HPT
        clear g1 g2 g3
        obtain ⟨q0, q1, q2, q3, _⟩ := blk4 (HU.out w8 HB8.out).b4
        have hsz := (HU.out w8 HB8.out).siz
        obtain ⟨y0, y1, y2⟩ := blk3' (HX4.out w8 HV8.out).1
        go_wp2_with fail
        refine HPT.out.mono ?_
        rintro e w9 ⟨rfl, hb9⟩
        have HB9 : Hid (Below (w.heap.size + 1) W0 w9) := Lib.hid (HB8.out.trans (hb9.mono hsz))
        clear hb9
        go_wp2
        go_ret
        exact ⟨rfl, (HU.out w9 HB9.out).bel⟩
      · go_wp2
        go_ret
        exact ⟨rfl, (HU.out w8 HB8.out).bel⟩
end Go.Proofs.YtacikiambpfipaaDoor
