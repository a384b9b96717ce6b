/- hatchwaylaw21.TypedZeros: the zero value of any type is the document's, or the error; it is one, and has as many items as are told. -/
import Derived.Test.YtmcdgmepheibkaaDoorTypedZ4
import Derived.Test.YtmcdgmepheibkaaDoorTypedZ5
import Derived.Test.YtmcdgmepheibkaaDoorTypedAlive
import Derived.Test.YtmcdgmepheibkaaDoorTypedRF
import Derived.Test.YtmcdgmepheibkaaDoorItemRefS
namespace Go.Proofs.YtmcdgmepheibkaaDoor
set_option linter.unusedVariables false
set_option linter.unusedSimpArgs false
open Go.RowKit

theorem zero_fitE {t : Ty} (h : t.may = true) : fitE t t.zero = 0 := by
  unfold fitE
  rw [h, zero_may h, zero_isOf t (ty_may h).2.2]
  rfl
set_option maxRecDepth 100000 in
set_option maxHeartbeats 3200000 in
theorem typedZeros_w (ty : Ty) (t0 t1 t2 t3 : Value) (w : World) (hT : TyIn w w.heap.size ty t0 t1 t2 t3) (hL : Laid w) :
    Calls Tryd.prog 4 #[.agg #[t0, t1, t2, t3]] w fun e w' => e = .returned (.bool true) ∧ Below w.heap.size w w' := by
  have hpos := hL.pos
  obtain ⟨W0, hW0⟩ : ∃ W0, w.alloc (.cells #[t0, t1, t2, t3] 24) = W0 := ⟨_, rfl⟩
  have hb0 : Below w.heap.size w W0 := by rw [← hW0]; exact (Below.refl _ w).alloc (Nat.le_refl _) _
  have hz0 : W0.heap.size = w.heap.size + 1 := by rw [← hW0]; simp
  have m1 : Blk W0 w.heap.size 24 #[t0, t1, t2, t3] := by rw [← hW0]; exact Blk.new w _ _
  have HA := Lib.hid (alive21_c W0 (hL.below hb0 hpos))
  have HU : Hid (∀ V, Below (w.heap.size + 1) W0 V → TyIn V w.heap.size ty t0 t1 t2 t3 ∧ Laid V ∧ w.heap.size + 1 ≤ V.heap.size ∧ Below w.heap.size w V) := Lib.hid (fun V hV => ⟨(hT.below hb0).below (hV.mono (by omega)), (hL.below hb0 hpos).below hV (by omega), by have := hV.size; omega, hb0.trans (hV.mono (by omega))⟩)
  have HM1 := Lib.hid m1
  have HW0 := Lib.hid hW0
  obtain ⟨gt, hgt⟩ : ∃ gt, ty.great = gt := ⟨_, rfl⟩
  obtain ⟨gw, hgw⟩ : ∃ gw, ty.wide = gw := ⟨_, rfl⟩
  obtain ⟨a, ha⟩ : ∃ a, ty.may = a := ⟨_, rfl⟩
  have HGT := Lib.hid hgt
  have HMA := Lib.hid ha
  have HG1 : Hid (∀ V, Below (w.heap.size + 1) W0 V → Calls Tryd.prog 12 #[.agg #[t0, t1, t2, t3]] V fun e w' => e = .returned (.bool gt) ∧ Below V.heap.size V w') := Lib.hid (fun V hV => by rw [← hgt]; exact great20_c ty w.heap.size V _ _ _ _ (HU.out V hV).1 (by have := (HU.out V hV).2.2.1; omega))
  have HG2 : Hid (∀ V, Below (w.heap.size + 1) W0 V → Calls Tryd.prog 16 #[.agg #[t0, t1, t2, t3]] V fun e w' => e = .returned (.bool gw) ∧ Below V.heap.size V w') := Lib.hid (fun V hV => by rw [← hgw]; exact wide_c ty w.heap.size V _ _ _ _ (HU.out V hV).1 (by have := (HU.out V hV).2.2.1; omega))
  have HZ1 : Hid (∀ V, Below (w.heap.size + 1) W0 V → Calls Tryd.prog 17 #[.agg #[t0, t1, t2, t3]] V fun e w' => TZEnd V ty e w') := Lib.hid (fun V hV => tZero_c ty w.heap.size V _ _ _ _ (HU.out V hV).1 (by have := (HU.out V hV).2.2.1; omega) (HU.out V hV).2.1)
  have HLE : Hid (∀ V, Below (w.heap.size + 1) W0 V → Calls Tryd.prog 18 #[.agg #[t0, t1, t2, t3]] V fun e w' => e = .returned (.tuple #[.int .i64 (if a then (ty.least : Int) else 0), .int .i64 (if a then 0 else 1)]) ∧ Below V.heap.size V w') := Lib.hid (fun V hV => by
    have := tLeast_c ty w.heap.size V t0 t1 t2 t3 (HU.out V hV).1 (by have := (HU.out V hV).2.2.1; omega) (HU.out V hV).2.1
    rw [ha] at this
    exact this)
  obtain ⟨A, cap, rfl, rfl, rfl, rfl, _⟩ := hT.open_
  generalize ty.kind = ki at *
  generalize ty.size = si at *
  generalize ty.tail = ta at *
  generalize ty.sub.length = nt at *
  clear hgt hgw ha hT hW0 m1 hb0 hL
  go_enter Tryd.func4, Tryd.ntmps4
  go_wp2_with fail
  rw [HW0.out]
  refine HA.out.mono ?_
  rintro e w1 ⟨rfl, hb1⟩
  have HB1 : Hid (Below (w.heap.size + 1) W0 w1) := Lib.hid (hb1.mono (by omega))
  obtain ⟨q0, q1, q2, q3, _⟩ := blk4 (HM1.out.keep HB1.out (by omega))
  clear hb1
  go_wp2_with fail
  refine (HG1.out w1 HB1.out).mono ?_
  rintro e w2 ⟨rfl, hb2⟩
  have HB2 : Hid (Below (w.heap.size + 1) W0 w2) := Lib.hid (HB1.out.trans (hb2.mono (HU.out w1 HB1.out).2.2.1))
  clear hb2 q0 q1 q2 q3
  cases gt with
  | true =>
    go_wp2
    go_ret
    exact ⟨rfl, (HU.out w2 HB2.out).2.2.2⟩
  | false =>
    have hct := greatTy_count ty HGT.out
    have HCT := Lib.hid hct
    have HMY : Hid (∀ V, Below (w.heap.size + 1) W0 V → Calls Tryd.prog 19 #[.agg #[.int .i64 ki, .int .i64 si, .slice A nt cap, .int .i64 ta]] V fun e w' => e = .returned (.bool a) ∧ Below V.heap.size V w') := Lib.hid (fun V hV => by
      have h := may20_c ty w.heap.size V _ _ _ _ (HU.out V hV).1 (by have := (HU.out V hV).2.2.1; omega) (by omega)
      rw [HMA.out] at h
      exact h)
    clear hct
    obtain ⟨q0, q1, q2, q3, _⟩ := blk4 (HM1.out.keep HB2.out (by omega))
    go_wp2_with fail
    refine (HG2.out w2 HB2.out).mono ?_
    rintro e w3 ⟨rfl, hb3⟩
    have HB3 : Hid (Below (w.heap.size + 1) W0 w3) := Lib.hid (HB2.out.trans (hb3.mono (HU.out w2 HB2.out).2.2.1))
    clear hb3 q0 q1 q2 q3
    cases gw with
    | true =>
      go_wp2
      go_ret
      exact ⟨rfl, (HU.out w3 HB3.out).2.2.2⟩
    | false =>
      obtain ⟨q0, q1, q2, q3, _⟩ := blk4 (HM1.out.keep HB3.out (by omega))
      go_wp2_with fail
      refine (HZ1.out w3 HB3.out).mono ?_
      rintro e w4 ⟨hend, hb4⟩
      have hz3 := (HU.out w3 HB3.out).2.2.1
      have hz4 := hb4.size
      have HB4 : Hid (Below (w.heap.size + 1) W0 w4) := Lib.hid (HB3.out.trans (hb4.mono hz3))
      rw [HMA.out] at hend
      clear hb4 q0 q1 q2 q3
      cases a with
      | false =>
        obtain rfl := hend
        have HBX := Lib.hid (Blk.new w4 27 #[.string ⟨#[]⟩, .bool false, .slice none 0 0])
        have HB5 : Hid (Below (w.heap.size + 1) W0 (w4.alloc (.cells #[.string ⟨#[]⟩, .bool false, .slice none 0 0] 27))) := Lib.hid (HB4.out.alloc (by omega) _)
        obtain ⟨q0, q1, q2, q3, _⟩ := blk4 (HM1.out.keep HB4.out (by omega))
        have hlw : w.heap.size < w4.heap.size := by omega
        have h5 := HLE.out _ HB5.out
        rw [if_neg (by simp), if_neg (by simp)] at h5
        have HL5 := Lib.hid h5
        clear h5
        go_wp2_with fail
        refine HL5.out.mono ?_
        rintro e w5 ⟨rfl, hb5⟩
        have hz5 := hb5.size
        simp only [World.size_alloc] at hz5
        have HX5 := Lib.hid (HBX.out.keep hb5 (by simp))
        have HB6 : Hid (Below (w.heap.size + 1) W0 w5) := Lib.hid (HB5.out.trans (hb5.mono (by simp; omega)))
        clear hb5 q0 q1 q2 q3
        obtain ⟨q0, q1, q2, q3, _⟩ := blk4 (HM1.out.keep HB6.out (by omega))
        go_wp2_with fail
        refine (HMY.out w5 HB6.out).mono ?_
        rintro e w6 ⟨rfl, hb6⟩
        have hz6 := hb6.size
        obtain ⟨x0, x1, x2, _, _, _⟩ := blk3 (HX5.out.keep hb6 (by omega))
        have HB7 : Hid (Below (w.heap.size + 1) W0 w6) := Lib.hid (HB6.out.trans (hb6.mono (by omega)))
        clear hb6 q0 q1 q2 q3
        have HSM := Lib.hid (refSame_c (.mk ⟨#[]⟩ false []) 0 w6 _ _ _ (leaf_in _ _ _ _ (by simp [ByteArray.size])) (Nat.zero_le _) (.mk ⟨#[]⟩ false []) _ _ _ (leaf_in _ _ _ _ (by simp [ByteArray.size])))
        go_wp2_with fail
        refine HSM.out.mono ?_
        rintro e w7 ⟨⟨r, rfl, hr⟩, hb7⟩
        obtain rfl : r = true := hr.2 rfl
        have HB8 : Hid (Below (w.heap.size + 1) W0 w7) := Lib.hid (HB7.out.trans (hb7.mono (by omega)))
        clear hb7 hr
        go_wp2
        go_ret
        exact ⟨rfl, (HU.out w7 HB8.out).2.2.2⟩
      | true =>
        obtain ⟨c0, c1, c2, rfl, hit⟩ := hend
        have HIT := Lib.hid hit
        obtain ⟨AA, ccap, rfl, rfl, rfl, _⟩ := hit.open_
        have hzc := zero_count ty
        have hzl := least_le ty
        have hct := HCT.out
        have hrt := (ty_may HMA.out).2.2
        have HFE := Lib.hid (zero_fitE HMA.out)
        have HRT := Lib.hid hrt
        obtain ⟨W5, hW5⟩ : ∃ W5, w4.alloc (.cells #[.string ty.zero.text, .bool ty.zero.list, .slice AA ty.zero.sub.length ccap] 27) = W5 := ⟨_, rfl⟩
        have hb5 : Below w4.heap.size w4 W5 := by rw [← hW5]; exact (Below.refl _ _).alloc (Nat.le_refl _) _
        have hz5 : W5.heap.size = w4.heap.size + 1 := by rw [← hW5]; simp
        have HBX : Hid (Blk W5 w4.heap.size 27 #[.string ty.zero.text, .bool ty.zero.list, .slice AA ty.zero.sub.length ccap]) := Lib.hid (by rw [← hW5]; exact Blk.new _ _ _)
        have HB5 : Hid (Below (w.heap.size + 1) W0 W5) := Lib.hid (HB4.out.trans (hb5.mono (by omega)))
        have HXI : Hid (∀ V, Below W5.heap.size W5 V → ItIn V w4.heap.size ty.zero (.string ty.zero.text) (.bool ty.zero.list) (.slice AA ty.zero.sub.length ccap)) := Lib.hid (fun V hV => ((ItS.toIn _ HIT.out).below hb5).below (hV.mono (by omega)))
        obtain ⟨q0, q1, q2, q3, _⟩ := blk4 (HM1.out.keep HB4.out (by omega))
        have hlw : w.heap.size < w4.heap.size := by omega
        have h5 := HLE.out _ HB5.out
        rw [if_pos rfl, if_pos rfl] at h5
        have HL5 := Lib.hid h5
        have HW5 := Lib.hid hW5
        obtain ⟨nl, hnl⟩ : ∃ nl, ty.least = nl := ⟨_, rfl⟩
        rw [hnl] at HL5 hzc hzl
        have HZC := Lib.hid hzc
        clear h5 hW5 hb5 hit hrt hzc hnl
        go_wp2_with fail
        rw [HW5.out]
        refine HL5.out.mono ?_
        rintro e w5 ⟨rfl, hb6⟩
        have hz6 := hb6.size
        have HV6 : Hid (Below W5.heap.size W5 w5) := Lib.hid hb6
        have HB6 : Hid (Below (w.heap.size + 1) W0 w5) := Lib.hid (HB5.out.trans (hb6.mono (by omega)))
        clear hb6 q0 q1 q2 q3
        obtain ⟨q0, q1, q2, q3, _⟩ := blk4 (HM1.out.keep HB6.out (by omega))
        go_wp2_with fail
        refine (HMY.out w5 HB6.out).mono ?_
        rintro e w6 ⟨rfl, hb7⟩
        have hz7 := hb7.size
        have HV7 : Hid (Below W5.heap.size W5 w6) := Lib.hid (HV6.out.trans (hb7.mono (by omega)))
        have HB7 : Hid (Below (w.heap.size + 1) W0 w6) := Lib.hid (HB6.out.trans (hb7.mono (by omega)))
        clear hb7 q0 q1 q2 q3
        obtain ⟨q0, q1, q2, q3, _⟩ := blk4 (HM1.out.keep HB7.out (by omega))
        go_wp2_with fail
        refine (refZero_c ty w.heap.size w6 _ _ _ _ (HU.out w6 HB7.out).1 (by omega) HRT.out).mono ?_
        rintro e w7 ⟨⟨d0, d1, d2, rfl, hzt⟩, hb8⟩
        have hz8 := hb8.size
        have HV8 : Hid (Below W5.heap.size W5 w7) := Lib.hid (HV7.out.trans (hb8.mono (by omega)))
        have HB8 : Hid (Below (w.heap.size + 1) W0 w7) := Lib.hid (HB7.out.trans (hb8.mono (by omega)))
        have HZT := Lib.hid hzt
        obtain ⟨AZ, zcap, rfl, rfl, rfl, _⟩ := hzt.open_
        obtain ⟨W8, hW8⟩ : ∃ W8, w7.alloc (.cells #[.string ty.zero.text, .bool ty.zero.list, .slice AZ ty.zero.sub.length zcap] 27) = W8 := ⟨_, rfl⟩
        have hb9 : Below w7.heap.size w7 W8 := by rw [← hW8]; exact (Below.refl _ _).alloc (Nat.le_refl _) _
        have hz9 : W8.heap.size = w7.heap.size + 1 := by rw [← hW8]; simp
        have hzb : Blk W8 w7.heap.size 27 #[.string ty.zero.text, .bool ty.zero.list, .slice AZ ty.zero.sub.length zcap] := by rw [← hW8]; exact Blk.new _ _ _
        have HK : Hid (∀ V, Below W8.heap.size W8 V → Blk V w.heap.size 24 #[.int .i64 ki, .int .i64 si, .slice A nt cap, .int .i64 ta] ∧ Blk V w4.heap.size 27 #[.string ty.zero.text, .bool ty.zero.list, .slice AA ty.zero.sub.length ccap] ∧ Blk V w7.heap.size 27 #[.string ty.zero.text, .bool ty.zero.list, .slice AZ ty.zero.sub.length zcap] ∧
            TyIn V W8.heap.size ty (.int .i64 ki) (.int .i64 si) (.slice A nt cap) (.int .i64 ta) ∧ ItIn V W8.heap.size ty.zero (.string ty.zero.text) (.bool ty.zero.list) (.slice AA ty.zero.sub.length ccap) ∧ ItIn V W8.heap.size ty.zero (.string ty.zero.text) (.bool ty.zero.list) (.slice AZ ty.zero.sub.length zcap) ∧ Laid V ∧ W8.heap.size ≤ V.heap.size ∧ Below w.heap.size w V) := Lib.hid (fun V hV => by
          have hx : Below w7.heap.size w7 V := hb9.trans (hV.mono (by omega))
          have h0 : Below (w.heap.size + 1) W0 V := HB8.out.trans (hx.mono (by omega))
          have h5 : Below W5.heap.size W5 V := HV8.out.trans (hx.mono (by omega))
          obtain ⟨u1, u2, u3, u4⟩ := HU.out V h0
          exact ⟨HM1.out.keep h0 (by omega), HBX.out.keep h5 (by omega), hzb.keep hV (by omega), u1.mono (by omega), (HXI.out V h5).mono (by omega), ((ItS.toIn _ HZT.out).below hx).mono (by omega), u2, hV.size, u4⟩)
        have HW8 := Lib.hid hW8
        have hlw4 : w4.heap.size < w7.heap.size := by omega
        obtain ⟨x0, x1, x2, _, _, _⟩ := blk3 ((HBX.out.keep HV8.out (by omega)))
        clear hzt hb8 hW8 hb9 hzb q0 q1 q2 q3
        have g8 := HK.out W8 (Below.refl _ _)
        have HSM := Lib.hid (refSame_c ty.zero W8.heap.size W8 _ _ _ g8.2.2.2.2.1 (Nat.le_refl _) ty.zero _ _ _ g8.2.2.2.2.2.1)
        clear g8
        go_wp2_with fail
        rw [HW8.out]
        refine HSM.out.mono ?_
        rintro e w9 ⟨⟨r, rfl, hr⟩, hb9⟩
        obtain rfl : r = true := hr.2 rfl
        have HB9 := Lib.hid hb9
        have g9 := HK.out w9 hb9
        obtain ⟨z0, z1, z2, _, _, _⟩ := blk3 g9.2.2.1
        have HCN := Lib.hid (refCount_c ty.zero W8.heap.size w9 _ _ _ g9.2.2.2.2.2.1 g9.2.2.2.2.2.2.2.1 (by rw [HZC.out]; omega))
        rw [HZC.out] at HCN
        clear hb9 g9 hr x0 x1 x2
        go_wp2_with fail
        refine HCN.out.mono ?_
        rintro e w10 ⟨rfl, hb10⟩
        have HB10 : Hid (Below W8.heap.size W8 w10) := Lib.hid (HB9.out.trans (hb10.mono HB9.out.size))
        clear hb10 z0 z1 z2
        have g10 := HK.out w10 HB10.out
        obtain ⟨z0, z1, z2, _, _, _⟩ := blk3 g10.2.2.1
        obtain ⟨q0, q1, q2, q3, _⟩ := blk4 g10.1
        have HF1 := Lib.hid (refFits_c ty ty.zero W8.heap.size w10 _ _ _ _ _ _ _ g10.2.2.2.1 g10.2.2.2.2.2.1 g10.2.2.2.2.2.2.2.1 (by omega) (by rw [HZC.out]; omega))
        rw [HFE.out] at HF1
        clear g10
        go_wp2_with fail
        refine HF1.out.mono ?_
        rintro e w11 ⟨rfl, hb11⟩
        have HB11 : Hid (Below W8.heap.size W8 w11) := Lib.hid (HB10.out.trans (hb11.mono HB10.out.size))
        clear hb11 z0 z1 z2 q0 q1 q2 q3
        have g11 := HK.out w11 HB11.out
        obtain ⟨x0, x1, x2, _, _, _⟩ := blk3 g11.2.1
        obtain ⟨q0, q1, q2, q3, _⟩ := blk4 g11.1
        have HF2 := Lib.hid (fits_c ty ty.zero W8.heap.size w11 _ _ _ _ _ _ _ g11.2.2.2.1 g11.2.2.2.2.1 g11.2.2.2.2.2.2.2.1 g11.2.2.2.2.2.2.1)
        rw [HFE.out] at HF2
        clear g11
        go_wp2_with fail
        refine HF2.out.mono ?_
        rintro e w12 ⟨rfl, hb12⟩
        have HB12 : Hid (Below W8.heap.size W8 w12) := Lib.hid (HB11.out.trans (hb12.mono HB11.out.size))
        clear hb12
        go_wp2
        go_ret
        exact ⟨rfl, (HK.out w12 HB12.out).2.2.2.2.2.2.2.2⟩
end Go.Proofs.YtmcdgmepheibkaaDoor
