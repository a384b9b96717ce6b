/- hatchwaylaw32.HelloPuts: whether a hello may be, and its bytes, are the document's, or the error; it is got again. -/
import Derived.Test.YtacikiambpfipaaDoorKA11
import Derived.Test.YtacikiambpfipaaDoorKRefHelPut
import Derived.Test.YtacikiambpfipaaDoorKA12
import Derived.Test.YtacikiambpfipaaDoorKCapRMay
namespace Go.Proofs.YtacikiambpfipaaDoor
set_option linter.unusedVariables false
set_option linter.unusedSimpArgs false
open Go.RowKit

theorem gr_no {l : List Cp} (h : grB l = false) : l.length ≤ 40 ∧ NmOk l := by
  simp only [grB, Bool.or_eq_false_iff, decide_eq_false_iff_not, List.any_eq_false, decide_eq_true_eq] at h
  exact ⟨by omega, fun c hc => by have := h.2 c hc; omega⟩
/-- What stands behind the box of the argument, whatever comes. -/
structure HpU (w W0 V : World) (least most : Int) (l : List Cp) (u : Value) : Prop where
  cap : CpR V V.heap.size u l
  laid : Laid V
  siz : w.heap.size + 1 ≤ V.heap.size
  bel : Below w.heap.size w V
  b1 : Blk V w.heap.size 63 #[.int .i64 least, .int .i64 most, u]
set_option maxRecDepth 100000 in
set_option maxHeartbeats 3200000 in
theorem helloPuts_w (least most : Int) (l : List Cp) (u : Value) (w : World) (h : CpR w w.heap.size u l) (hL : Laid w) :
    Calls Tryd.prog 9 #[.agg #[.int .i64 least, .int .i64 most, u]] w fun e w' => e = .returned (.bool true) ∧ Below w.heap.size w w' := by
  obtain ⟨W0, hW0⟩ : ∃ W0, w.alloc (.cells #[.int .i64 least, .int .i64 most, u] 63) = W0 := ⟨_, rfl⟩
  have hb0 : Below w.heap.size w W0 := by rw [← hW0]; exact (Below.refl _ w).alloc (Nat.le_refl _) _
  have hz0 : W0.heap.size = w.heap.size + 1 := by rw [← hW0]; simp
  have hk0 : Blk W0 w.heap.size 63 #[.int .i64 least, .int .i64 most, u] := by rw [← hW0]; exact Blk.new _ _ _
  have HU : Hid (∀ V, Below (w.heap.size + 1) W0 V → HpU w W0 V least most l u) := Lib.hid (fun V hV => by
    have hp := hL.pos
    exact ⟨((h.below hb0).below (hV.mono (by omega))).mono (by have := hV.size; omega), (hL.below hb0 hp).below hV (by omega), by have := hV.size; omega, hb0.trans (hV.mono (by omega)), hk0.keep hV (by omega)⟩)
  have HA := Lib.hid (alive32_c W0)
  have HW0 := Lib.hid hW0
  have HZ0 := Lib.hid hz0
  have HG : Hid (∀ V, Below (w.heap.size + 1) W0 V → Calls Tryd.prog 28 #[.agg #[.int .i64 least, .int .i64 most, u]] V fun e w' => e = .returned (.bool (grB l)) ∧ Below V.heap.size V w') := Lib.hid (fun V hV => great32_c least most l u V.heap.size V (HU.out V hV).cap (Nat.le_refl _))
  obtain ⟨gt, hgt⟩ : ∃ gt, grB l = gt := ⟨_, rfl⟩
  rw [hgt] at HG
  have HGT := Lib.hid hgt
  obtain ⟨A, n, cap, rfl, hn, hnc, hcm⟩ := h.form'
  clear h hL hb0 hz0 hk0 hW0 hgt
  go_enter Tryd.func9, Tryd.ntmps9
  go_wp2_with fail
  rw [HW0.out]
  refine HA.out.mono ?_
  rintro e w1 ⟨rfl, hb1⟩
  have HB1 : Hid (Below (w.heap.size + 1) W0 w1) := Lib.hid (hb1.mono (by have := HZ0.out; omega))
  clear hb1
  obtain ⟨q0, q1, q2, _⟩ := blk3 (HU.out w1 HB1.out).b1
  go_wp2_with fail
  refine (HG.out w1 HB1.out).mono ?_
  rintro e w2 ⟨rfl, hb2⟩
  have HB2 : Hid (Below (w.heap.size + 1) W0 w2) := Lib.hid (HB1.out.trans (hb2.mono (HU.out w1 HB1.out).siz))
  clear hb2 q0 q1 q2
  cases gt with
  | true =>
    go_wp2
    go_ret
    exact ⟨rfl, (HU.out w2 HB2.out).bel⟩
  | false =>
    obtain ⟨hl40, hnm⟩ := gr_no HGT.out
    have HN := Lib.hid hnm
    have HL := Lib.hid hl40
    clear hl40 hnm
    have HOF : Hid (∀ V, Below (w.heap.size + 1) W0 V → Calls Tryd.prog 30 #[.agg #[.int .i64 least, .int .i64 most, .slice A n cap]] V fun e w' => ∃ v, e = .returned (.agg #[.int .i64 least, .int .i64 most, v]) ∧ Hid (Below (w.heap.size + 1) W0 w') ∧ Hid (CpR w' w'.heap.size v l)) := Lib.hid (fun V hV => (hof_c least most l _ _ V (HU.out V hV).cap (Nat.le_refl _) (by have := HL.out; omega)).mono fun e w' ⟨h1, v, h2, h3⟩ => ⟨v, h2, Lib.hid (hV.trans (h1.mono (HU.out V hV).siz)), Lib.hid h3⟩)
    obtain ⟨hb, hhb⟩ : ∃ hb, helB least most l = hb := ⟨_, rfl⟩
    have HMY : Hid (∀ V v, Below (w.heap.size + 1) W0 V → CpR V V.heap.size v l → Calls Tryd.prog 31 #[.agg #[.int .i64 least, .int .i64 most, v]] V fun e w' => e = .returned (.bool hb) ∧ Below (w.heap.size + 1) W0 w') := Lib.hid (fun V v hV hv => by
      have := helMay_c least most l v _ V hv (Nat.le_refl _) HN.out (by have := HL.out; omega)
      rw [hhb] at this
      exact this.mono fun e w' ⟨h1, h2⟩ => ⟨h1, hV.trans (h2.mono (HU.out V hV).siz)⟩)
    have HRM : Hid (∀ V, Below (w.heap.size + 1) W0 V → Calls Tryd.prog 32 #[.agg #[.int .i64 least, .int .i64 most, .slice A n cap]] V fun e w' => e = .returned (.bool hb) ∧ Below (w.heap.size + 1) W0 w') := Lib.hid (fun V hV => by
      have := refMay32_c least most l _ _ V (HU.out V hV).cap (Nat.le_refl _) HN.out (by have := HL.out; omega)
      rw [hhb] at this
      exact this.mono fun e w' ⟨h1, h2⟩ => ⟨h1, hV.trans (h2.mono (HU.out V hV).siz)⟩)
    have HPT : Hid (∀ V v, Below (w.heap.size + 1) W0 V → CpR V V.heap.size v l → Calls Tryd.prog 29 #[.agg #[.int .i64 least, .int .i64 most, v]] V fun e w' => e = .returned (.tuple #[.string (hPutS least most l), .int .i64 (hPutE least most l)]) ∧ Below (w.heap.size + 1) W0 w') := Lib.hid (fun V v hV hv => (helPut_c least most l v _ V hv (Nat.le_refl _) HN.out (by have := HL.out; omega)).mono fun e w' ⟨h1, h2⟩ => ⟨h1, hV.trans (h2.mono (HU.out V hV).siz)⟩)
    have HHB := Lib.hid hhb
    have HKV : Hid (∀ V, Below (w.heap.size + 1) W0 V → V.cell? ⟨w.heap.size, 0, none⟩ = some (.int .i64 least) ∧ V.cell? ⟨w.heap.size, 1, none⟩ = some (.int .i64 most) ∧ V.cell? ⟨w.heap.size, 2, none⟩ = some (.slice A n cap)) := Lib.hid (fun V hV => by
      obtain ⟨p0, p1, p2, _⟩ := blk3 (HU.out V hV).b1
      exact ⟨p0, p1, p2⟩)
    obtain ⟨q0, q1, q2⟩ := HKV.out w2 HB2.out
    go_wp2_with fail
    refine (HOF.out w2 HB2.out).mono ?_
    rintro e w3 ⟨v3, rfl, HB3, HC3⟩
    go_wp2_with fail
    refine (HPT.out w3 v3 HB3.out HC3.out).mono ?_
    rintro e w4 ⟨rfl, hb4⟩
    have HB4 := Lib.hid hb4
    clear hb4 q0 q1 q2
    have HST : Hid (∀ S E, hPutS least most l = S → hPutE least most l = E → (hb = true → S = ⟨(helIt least most l).rlp.toArray⟩ ∧ E = 0) ∧ (hb = false → S = ⟨#[]⟩ ∧ E = 1)) := Lib.hid (fun S E h1 h2 => by
      rw [← h1, ← h2]
      unfold hPutS hPutE
      rw [hhb]
      constructor
      · rintro rfl; exact ⟨rfl, rfl⟩
      · rintro rfl; exact ⟨rfl, rfl⟩)
    obtain ⟨S, hS⟩ : ∃ S, hPutS least most l = S := ⟨_, rfl⟩
    obtain ⟨E, hE⟩ : ∃ E, hPutE least most l = E := ⟨_, rfl⟩
    obtain ⟨hSE1, hSE0⟩ := HST.out S E hS hE
    rw [hS, hE]
    have HS1 := Lib.hid hSE1
    have HS0 := Lib.hid hSE0
    clear hS hE hSE1 hSE0 hhb HST HPT
    go_wp2_with fail
    obtain ⟨q0, q1, q2⟩ := HKV.out w4 HB4.out
    go_region_held3 (fun V => V.cell? ⟨w.heap.size, 0, none⟩ = some (.int .i64 least) ∧ V.cell? ⟨w.heap.size, 1, none⟩ = some (.int .i64 most) ∧ V.cell? ⟨w.heap.size, 2, none⟩ = some (.slice A n cap))
      (first | exact HKV.out _ HB4.out.drew | exact HKV.out _ hv7 | exact HKV.out _ hv6 | exact HKV.out _ HB5.out)
      (first
        | (go_at_call 30; ((with_reducible refine (HOF.out _ HB4.out.drew).mono ?_); rintro e w5 ⟨v5, rfl, HB5, HC5⟩))
        | (go_at_call 31; ((with_reducible refine (HMY.out w5 _ HB5.out HC5.out).mono ?_); rintro e w6 ⟨rfl, hv6⟩))
        | (go_at_call 32; ((with_reducible refine (HRM.out w6 hv6).mono ?_); rintro e w7 ⟨rfl, hv7⟩)))
    all_goals
      have HB7 := Lib.hid hv7
      clear hv7 hv6 q0 q1 q2
      obtain ⟨q0, q1, q2⟩ := HKV.out w7 HB7.out
      go_wp2_with fail
      refine (HRM.out w7 HB7.out).mono ?_
      rintro e w8 ⟨rfl, hv8⟩
      have HB8 := Lib.hid hv8
      clear hv8 q0 q1 q2
      cases hb with
      | false =>
        obtain ⟨rfl, rfl⟩ := HS0.out rfl
        go_wp2
        go_ret
        exact ⟨rfl, (HU.out w8 HB8.out).bel⟩
      | true =>
        obtain ⟨hs, rfl⟩ := HS1.out rfl
        obtain ⟨hsz, g1, g2, g3, g4⟩ := hel_put_get HHB.out S hs
        have HGE := Lib.hid (fun V (hV : Below (w.heap.size + 1) W0 V) => helGet_c S V (by omega) (HU.out V hV).laid)
        rw [g1, g2, g3, g4] at HGE
        have HSS := Lib.hid hs
        clear hs hsz g1 g2 g3 g4 HS1
        go_wp2_with fail
        refine (HGE.out w8 HB8.out).mono ?_
        rintro e w9 ⟨hb9, v9', rfl, hc9, _, _⟩
        obtain ⟨A9, n9, cap9, rfl, _⟩ := hc9.form'
        obtain ⟨W10, hW10⟩ : ∃ W10, w9.alloc (.cells #[.int .i64 least, .int .i64 most, (.slice A9 n9 cap9)] 68) = W10 := ⟨_, rfl⟩
        have hz8 := (HU.out w8 HB8.out).siz
        have HB9 : Hid (Below (w.heap.size + 1) W0 w9) := Lib.hid (HB8.out.trans (hb9.mono hz8))
        have hz9 := (HU.out w9 HB9.out).siz
        have hb10 : Below w9.heap.size w9 W10 := by rw [← hW10]; exact (Below.refl _ _).alloc (Nat.le_refl _) _
        have hz10 : W10.heap.size = w9.heap.size + 1 := by rw [← hW10]; simp
        have hk10 : Blk W10 w9.heap.size 68 #[.int .i64 least, .int .i64 most, (.slice A9 n9 cap9)] := by rw [← hW10]; exact Blk.new _ _ _
        have HB10 : Hid (Below (w.heap.size + 1) W0 W10) := Lib.hid (HB9.out.trans (hb10.mono hz9))
        have HX : Hid (∀ V, Below W10.heap.size W10 V → CpR V V.heap.size (.slice A9 n9 cap9) l ∧ CpR V V.heap.size (.slice A n cap) l ∧ Below (w.heap.size + 1) W0 V ∧ Blk V w9.heap.size 68 #[.int .i64 least, .int .i64 most, (.slice A9 n9 cap9)]) := Lib.hid (fun V hV => by
          have hz := (HU.out W10 HB10.out).siz
          have hV' := HB10.out.trans (hV.mono hz)
          exact ⟨((hc9.below hb10).below (hV.mono (by omega))).mono (by have := hV.size; omega), (HU.out V hV').cap, hV', hk10.keep hV (by omega)⟩)
        have HRP2 : Hid (∀ V, Below W10.heap.size W10 V → Calls Tryd.prog 34 #[.agg #[.int .i64 least, .int .i64 most, .slice A n cap]] V fun e w' => e = .returned (.string S) ∧ Below W10.heap.size W10 w') := Lib.hid (fun V hV => by
          obtain ⟨h1, h2, h3, _⟩ := HX.out V hV
          have := refHelPut_c least most l _ _ V h2 (Nat.le_refl _) HN.out HHB.out
          rw [← HSS.out] at this
          exact this.mono fun e w' ⟨h1, h2⟩ => ⟨h1, hV.trans (h2.mono hV.size)⟩)
        have HW10 := Lib.hid hW10
        clear hb9 hc9 hW10 hb10 hk10 hz8 hz9 hz10
        obtain ⟨q0, q1, q2⟩ := HKV.out w9 HB9.out
        have hl0 : w.heap.size < w9.heap.size := by have := (HU.out w9 HB9.out).siz; omega
        go_upto_region 11 with fail
        rw [HW10.out]
        clear q0 q1 q2
        obtain ⟨q0, q1, q2⟩ := HKV.out W10 HB10.out
        go_wp2_with fail
        refine (HRP2.out W10 (Below.refl _ _)).mono ?_
        rintro e w11 ⟨rfl, hb11⟩
        obtain ⟨k1, k2, k3, k4⟩ := HX.out w11 hb11
        have HB11 := Lib.hid k3
        have HSM := Lib.hid (same32_c least most l (.slice A9 n9 cap9) (.slice A n cap) w11 k1 k2 (by have := HL.out; omega))
        obtain ⟨r0, r1, r2, _⟩ := blk3 k4
        clear q0 q1 q2 k1 k2 k3 k4 hb11
        obtain ⟨q0, q1, q2⟩ := HKV.out w11 HB11.out
        go_wp2_with fail
        refine HSM.out.mono ?_
        rintro e w12 ⟨rfl, hb12⟩
        have HB12 : Hid (Below (w.heap.size + 1) W0 w12) := Lib.hid (HB11.out.trans (hb12.mono (HU.out w11 HB11.out).siz))
        clear hb12
        go_wp2
        go_ret
        exact ⟨rfl, (HU.out w12 HB12.out).bel⟩
end Go.Proofs.YtacikiambpfipaaDoor
