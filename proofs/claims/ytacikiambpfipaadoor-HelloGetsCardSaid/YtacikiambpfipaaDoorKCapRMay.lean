/- hatchwayref32.May. -/
import Derived.Test.YtacikiambpfipaaDoorKA8
import Derived.Deep.QuietTactic
import Derived.BigQuiet
import Derived.Laws.Cover1
namespace Go.Proofs.YtacikiambpfipaaDoor
set_option linter.unusedVariables false
set_option linter.unusedSimpArgs false
open Go.RowKit

set_option maxRecDepth 100000 in
set_option maxHeartbeats 3200000 in
theorem refMay32_c (least most : Int) (l : List Cp) (v : Value) (B : Nat) (w : World) (h : CpR w B v l) (hB : B ≤ w.heap.size) (hnm : NmOk l) (hl : l.length ≤ 1100) :
    Calls Tryd.prog 32 #[.agg #[.int .i64 least, .int .i64 most, v]] w fun e w' => e = .returned (.bool (helB least most l)) ∧ Below w.heap.size w w' := by
  obtain ⟨A, n, cap, rfl, hn, hnc, hcm⟩ := h.form'
  obtain ⟨W0, hW0⟩ : ∃ W0, w.alloc (.cells #[.int .i64 least, .int .i64 most, .slice A n cap] 63) = W0 := ⟨_, rfl⟩
  have HW0 : Hid (Below w.heap.size w W0) := Lib.hid (by rw [← hW0]; exact (Below.refl _ w).alloc (Nat.le_refl _) _)
  have HZ0 : Hid (W0.heap.size = w.heap.size + 1) := Lib.hid (by rw [← hW0]; simp)
  have HK0 : Hid (Blk W0 w.heap.size 63 #[.int .i64 least, .int .i64 most, .slice A n cap]) := Lib.hid (by rw [← hW0]; exact Blk.new w _ _)
  have HR0 : Hid (CpR W0 B (.slice A n cap) l) := Lib.hid (h.below (HW0.out.mono hB))
  have FX : Hid (∀ V, Below (w.heap.size + 1) W0 V → V.cell? ⟨w.heap.size, 0, none⟩ = some (.int .i64 least) ∧ V.cell? ⟨w.heap.size, 1, none⟩ = some (.int .i64 most) ∧ V.cell? ⟨w.heap.size, 2, none⟩ = some (.slice A n cap) ∧ Hid (CpR V B (.slice A n cap) l ∧ w.heap.size + 1 ≤ V.heap.size)) := Lib.hid (fun V hV => by
    obtain ⟨a0, a1, a2, _⟩ := blk3 (HK0.out.keep hV (by omega))
    exact ⟨a0, a1, a2, Lib.hid ⟨HR0.out.below (hV.mono (by omega)), by have := hV.size; have := HZ0.out; omega⟩⟩)
  have HWW := Lib.hid hW0
  clear hW0 h
  obtain ⟨m0, m1, m2, HI0⟩ := FX.out W0 (Below.refl _ _)
  have hn1000 : n ≤ 1100 := by rw [hn.out]; exact hl
  by_cases hok : 1 ≤ least ∧ least ≤ most ∧ most ≤ 65535 ∧ n ≤ 16
  · obtain ⟨h1, h2, h3, h4⟩ := hok
    have HE : Hid (helB least most l = capsB l) := Lib.hid (by
      unfold helB
      rw [decide_eq_true h1, decide_eq_true h2, decide_eq_true h3, decide_eq_true (by rw [← hn.out]; exact h4)]; rfl)
    obtain ⟨D, HD⟩ : ∃ D, Hid (capsB l = D) := ⟨_, Lib.hid rfl⟩
    rw [HE.out, HD.out]
    have d1 : decide (least < 1) = false := decide_eq_false (by omega)
    have d2 : decide (most < least) = false := decide_eq_false (by omega)
    have d3 : decide (65535 < most) = false := decide_eq_false (by omega)
    have d4 : decide (16 < (n : Int)) = false := decide_eq_false (by omega)
    go_enter Tryd.func32, Tryd.ntmps32
    go_wp2_with fail
    rw [HWW.out]
    go_wp2_with fail
    clear m0 m1 m2 HI0
    go_loopw [3] (fun i wr => ∃ k : Nat, k ≤ n ∧ i = .int .i64 k ∧ Hid ((List.range k).all (okAt l) = true) ∧ Below (w.heap.size + 1) W0 wr) (fun i _ => n - (intOf i).toNat)
    case atStart => exact ⟨0, by omega, rfl, Lib.hid (by simp), Below.refl _ _⟩
    case round =>
      obtain ⟨k, hk, rfl, Hk, hb⟩ := hrel
      obtain ⟨m0, m1, m2, HI⟩ := FX.out wr hb
      have hlw : w.heap.size < wr.heap.size := by have := HI.out.2; omega
      by_cases hlt : k < n
      · have hkl : k < l.length := by rw [← hn.out]; exact hlt
        obtain ⟨g, o, rfl, hg, e0, e1⟩ := HI.out.1.at_ hkl
        have hgw : g < wr.heap.size := by have := HI.out.2; omega
        have HOK := Lib.hid (okAt_at hkl)
        have HNO := Lib.hid (fun h => caps_no (l := l) hkl h)
        have hns := hnm _ (List.getElem_mem hkl)
        obtain ⟨c, hc⟩ : ∃ c, l[k] = c := ⟨_, rfl⟩
        obtain ⟨c1, c2⟩ := c
        rw [hc] at e0 e1 HOK hns
        simp only at e0 e1 HOK hns
        have HM := Lib.hid (fun w => refMayN_c c1 w hns)
        have HBE : Hid (Below (w.heap.size + 1) W0 (wr.alloc (.cells #[.string c1, .int .i64 c2] 111))) := Lib.hid (hb.alloc (by have := HI.out.2; omega) _)
        have HBL : Hid (Below w.heap.size w wr) := Lib.hid (HW0.out.trans (hb.mono (by omega)))
        have HFIN : Hid (Below w.heap.size w (wr.alloc (.cells #[.string c1, .int .i64 c2] 111))) := Lib.hid (HBL.out.alloc (by omega) _)
        cases hm : nmMay c1 with
        | false =>
          rw [hm] at HM
          have HDN : Hid (D = false) := Lib.hid (by rw [← HD.out]; exact HNO.out (by rw [HOK.out, hm]; rfl))
          clear hm
          go_wp2_with fail
          refine (HM.out _).mono ?_
          rintro e w' ⟨rfl, rfl⟩
          go_wp2
          go_ret
          exact ⟨by rw [HDN.out]; rfl, HFIN.out⟩
        | true =>
          rw [hm] at HM
          by_cases hv : 1 ≤ c2 ∧ c2 ≤ 255
          · obtain ⟨hv1, hv2⟩ := hv
            have HOK2 : Hid (okAt l k = (decide (k = 0) || cpLt (l.getD (k - 1) (⟨#[]⟩, 0)) (c1, c2))) := Lib.hid (by rw [HOK.out, hm, decide_eq_true hv1, decide_eq_true hv2]; rfl)
            clear hm HOK
            obtain ⟨W1, hW1⟩ : ∃ W1, wr.alloc (.cells #[.string c1, .int .i64 c2] 111) = W1 := ⟨_, rfl⟩
            have HW1 := Lib.hid hW1
            have HKC : Hid (Blk W1 wr.heap.size 111 #[.string c1, .int .i64 c2]) := Lib.hid (by rw [← hW1]; exact Blk.new wr _ _)
            have HZ1 : Hid (W1.heap.size = wr.heap.size + 1) := Lib.hid (by rw [← hW1]; simp)
            have HBW : Hid (Below wr.heap.size wr W1) := Lib.hid (by rw [← hW1]; exact (Below.refl _ wr).alloc (Nat.le_refl _) _)
            rw [hW1] at HBE HFIN
            clear hW1
            have e3 : decide (c2 < 1) = false := decide_eq_false (by omega)
            have e4 : decide (255 < c2) = false := decide_eq_false (by omega)
            by_cases hk0 : k = 0
            · subst hk0
              simp only [Nat.zero_mul, Nat.add_zero] at e0 e1
              have HGO : Hid ((List.range (0 + 1)).all (okAt l) = true) := Lib.hid (caps_go Hk.out (by rw [HOK2.out]; rfl))
              go_wp2_with fail
              rw [HW1.out]
              refine (HM.out _).mono ?_
              rintro e w' ⟨rfl, rfl⟩
              obtain ⟨b0, b1⟩ : W1.cell? ⟨wr.heap.size, 0, none⟩ = some (.string c1) ∧ W1.cell? ⟨wr.heap.size, 1, none⟩ = some (.int .i64 c2) := ⟨HKC.out.cell 0, HKC.out.cell 1⟩
              go_wp2_with fail
              go_quiet (fail)
              go_wp2
              go_roundw
              case rel => exact ⟨0 + 1, by omega, by go_num, HGO, HBE.out.drewN' _⟩
              case measure => simp [intOf]; omega
            · have hkp : k - 1 < l.length := by omega
              obtain ⟨g', o', hgo, hg', p0, p1⟩ := HI.out.1.at_ hkp
              injection hgo with hgo
              injection hgo with hgo1 hgo2
              subst hgo1; subst hgo2
              obtain ⟨q, hq⟩ : ∃ q, l[k - 1] = q := ⟨_, rfl⟩
              have hgq : l.getD (k - 1) (⟨#[]⟩, 0) = q := by rw [List.getD_eq_getElem?_getD, List.getElem?_eq_getElem hkp, hq]; rfl
              rw [hgq] at HOK2
              obtain ⟨q1, q2⟩ := q
              rw [hq] at p0 p1
              simp only at p0 p1
              have hki : ((k : Int) - 1).toNat = k - 1 := by omega
              obtain ⟨b0, b1⟩ : W1.cell? ⟨wr.heap.size, 0, none⟩ = some (.string c1) ∧ W1.cell? ⟨wr.heap.size, 1, none⟩ = some (.int .i64 c2) := ⟨HKC.out.cell 0, HKC.out.cell 1⟩
              have x2 := (HBW.out.cell (p := ⟨w.heap.size, 2, none⟩) hlw).trans m2
              have y0 := (HBW.out.cell (p := ⟨g, o + (k - 1) * 2, none⟩) hgw).trans p0
              have y1 := (HBW.out.cell (p := ⟨g, o + (k - 1) * 2 + 1, none⟩) hgw).trans p1
              have kw : IntKind.i64.wrap ((k : Int) - 1) = (k : Int) - 1 := IntWalk.i64_in _ (by omega)
              have k1 : (0 : Int) ≤ (k : Int) - 1 := by omega
              have k2 : (k : Int) - 1 < n := by omega
              have k3 : (1 : Int) ≤ k := by omega
              have k4 : decide ((0 : Int) < (k : Int)) = true := decide_eq_true (by omega)
              have k5 : 0 < k := by omega
              have HNOK := Lib.hid (fun h : cpLt (q1, q2) (c1, c2) = false => (show D = false by
                rw [← HD.out]
                refine HNO.out ?_
                rw [HOK2.out, h, decide_eq_false hk0]; rfl))
              have HGOK := Lib.hid (fun h : cpLt (q1, q2) (c1, c2) = true => caps_go Hk.out (by rw [HOK2.out, h]; simp))
              cases hless : sLess q1 c1 with
              | true =>
                have r1 : Op.bytesLess q1.toList c1.toList = true := hless
                have HGO := Lib.hid (HGOK.out (by simp [cpLt, hless]))
                clear hless
                go_wp2_with fail
                rw [HW1.out]
                refine (HM.out _).mono ?_
                rintro e w' ⟨rfl, rfl⟩
                go_wp2_with fail
                go_quiet (fail)
                clear kw k1 k2 k4 hki
                go_wp2
                go_roundw
                case rel => exact ⟨k + 1, by omega, by go_num, HGO, HBE.out.drewN' _⟩
                case measure => simp [intOf]; omega
              | false =>
                have r1 : Op.bytesLess q1.toList c1.toList = false := hless
                rcases str_ways q1 c1 with ⟨he, r2, r3⟩ | ⟨he, r2, r3⟩
                · by_cases hv : q2 < c2
                  · have r4 : decide (q2 < c2) = true := decide_eq_true hv
                    have HGO := Lib.hid (HGOK.out (by simp [cpLt, he, hv]))
                    clear hless he
                    go_wp2_with fail
                    rw [HW1.out]
                    refine (HM.out _).mono ?_
                    rintro e w' ⟨rfl, rfl⟩
                    go_wp2_with fail
                    go_quiet (fail)
                    clear kw k1 k2 k4 hki
                    go_wp2
                    go_roundw
                    case rel => exact ⟨k + 1, by omega, by go_num, HGO, HBE.out.drewN' _⟩
                    case measure => simp [intOf]; omega
                  · have r4 : decide (q2 < c2) = false := decide_eq_false hv
                    have HDN := Lib.hid (HNOK.out (by simp [cpLt, hless, hv]))
                    clear hless he
                    go_wp2_with fail
                    rw [HW1.out]
                    refine (HM.out _).mono ?_
                    rintro e w' ⟨rfl, rfl⟩
                    go_wp2_with fail
                    go_quiet (fail)
                    clear kw k1 k2 k4 hki
                    go_wp2
                    go_ret
                    exact ⟨by rw [HDN.out]; rfl, HFIN.out.drewN' _⟩
                · have HDN := Lib.hid (HNOK.out (by simp [cpLt, hless, he]))
                  clear hless he
                  go_wp2_with fail
                  rw [HW1.out]
                  refine (HM.out _).mono ?_
                  rintro e w' ⟨rfl, rfl⟩
                  go_wp2_with fail
                  go_quiet (fail)
                  clear kw k1 k2 k4 hki
                  go_wp2
                  go_ret
                  exact ⟨by rw [HDN.out]; rfl, HFIN.out.drewN' _⟩
          · have HDN : Hid (D = false) := Lib.hid (by
              rw [← HD.out]
              refine HNO.out ?_
              rw [HOK.out]
              simp only [Bool.and_eq_false_iff, decide_eq_false_iff_not]
              omega)
            clear hm HOK
            by_cases hv1 : 1 ≤ c2
            all_goals
              go_wp2_with fail
              refine (HM.out _).mono ?_
              rintro e w' ⟨rfl, rfl⟩
              go_wp2
              go_ret
              exact ⟨by rw [HDN.out]; rfl, HFIN.out⟩
      · have HT : Hid (D = true) := Lib.hid (by
          rw [← HD.out, capsB, ← hn.out, show n = k by omega]; exact Hk.out)
        go_wp2
        go_ret
        exact ⟨by rw [HT.out]; rfl, HW0.out.trans (hb.mono (by omega))⟩
  · have HE : Hid (helB least most l = false) := Lib.hid (by
      unfold helB
      rw [← hn.out]
      simp only [Bool.and_eq_false_iff, decide_eq_false_iff_not]
      omega)
    rw [HE.out]
    clear HE
    by_cases h1 : 1 ≤ least
    · by_cases h2 : least ≤ most
      · by_cases h3 : most ≤ 65535
        · have h4 : 16 < n := by omega
          clear hok
          go_enter Tryd.func32, Tryd.ntmps32
          go_wp2_with fail
          rw [HWW.out]
          go_wp2
          go_ret
          exact ⟨rfl, HW0.out⟩
        · clear hok
          go_enter Tryd.func32, Tryd.ntmps32
          go_wp2_with fail
          rw [HWW.out]
          go_wp2
          go_ret
          exact ⟨rfl, HW0.out⟩
      · clear hok
        go_enter Tryd.func32, Tryd.ntmps32
        go_wp2_with fail
        rw [HWW.out]
        go_wp2
        go_ret
        exact ⟨rfl, HW0.out⟩
    · clear hok
      go_enter Tryd.func32, Tryd.ntmps32
      go_wp2_with fail
      rw [HWW.out]
      go_wp2
      go_ret
      exact ⟨rfl, HW0.out⟩
end Go.Proofs.YtacikiambpfipaaDoor
