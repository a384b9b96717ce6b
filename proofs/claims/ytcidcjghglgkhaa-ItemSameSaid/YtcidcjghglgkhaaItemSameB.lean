/- ItemSame, the case hmx : x.may = true, hmy : y.may = false. -/
import Derived.Test.YtcidcjghglgkhaaItemSameZ
namespace Go.Proofs.Ytcidcjghglgkhaa
set_option linter.unusedVariables false
set_option linter.unusedSimpArgs false
open Go.RowKit

set_option maxRecDepth 100000 in
set_option maxHeartbeats 12800000 in
theorem itemSame_wB (x : It) (c0 c1 c2 : Value) (y : It) (d0 d1 d2 : Value) (w : World) (h : ItIn w w.heap.size x c0 c1 c2) (h' : ItIn w w.heap.size y d0 d1 d2) (hmx : x.may = true) (hmy : y.may = false) :
    Calls Try.prog 4 #[.agg #[c0, c1, c2], .agg #[d0, d1, d2]] w fun e w' => e = .returned (.bool true) ∧ Below w.heap.size w w' := by
  have HI := Lib.hid h
  have HI' := Lib.hid h'
  obtain ⟨A, cap, rfl, rfl, rfl, hsx, _⟩ := h.open_
  obtain ⟨A', cap', rfl, rfl, rfl, hsy, _⟩ := h'.open_
  obtain ⟨W0, hW0⟩ : ∃ W0, W0 = ((w.alloc (.cells #[.string x.text, .bool x.list, .slice A x.sub.length cap] 24)).alloc (.cells #[.string y.text, .bool y.list, .slice A' y.sub.length cap'] 24)) := ⟨_, rfl⟩
  have hb0 : Below w.heap.size w W0 := by rw [hW0]; exact (by repeat (first | exact Below.refl _ _ | assumption | with_reducible refine Below.drewN' ?_ _ | with_reducible refine Below.drew ?_ | ((with_reducible refine Below.alloc' ?_ ?_ _); · (first | omega | (simp <;> omega)))))
  have hz0 : W0.heap.size = w.heap.size + 2 := by rw [hW0]; simp
  have hka : Blk W0 w.heap.size 24 #[.string x.text, .bool x.list, .slice A x.sub.length cap] := by rw [hW0]; exact (Blk.new w _ _).alloc _
  have hkb : Blk W0 (w.heap.size + 1) 24 #[.string y.text, .bool y.list, .slice A' y.sub.length cap'] := by
    rw [hW0]
    have := Blk.new (w.alloc (.cells #[.string x.text, .bool x.list, .slice A x.sub.length cap] 24)) 24 #[.string y.text, .bool y.list, .slice A' y.sub.length cap']
    simpa using this
  have HW0 := Lib.hid hW0
  have HB0 := Lib.hid hb0
  have HZ0 := Lib.hid hz0
  have HKA := Lib.hid hka
  have HKB := Lib.hid hkb
  clear h h' hW0 hb0 hz0 hka hkb
  have HIX : Hid (∀ w', Below (w.heap.size + 2) W0 w' → ItIn w' w.heap.size x (.string x.text) (.bool x.list) (.slice A x.sub.length cap) ∧ ItIn w' w.heap.size y (.string y.text) (.bool y.list) (.slice A' y.sub.length cap') ∧ w.heap.size ≤ w'.heap.size ∧ Below w.heap.size w w') := Lib.hid (fun w' hb => by
    have hb2 := HB0.out.trans (hb.mono (by omega))
    exact ⟨HI.out.below hb2, HI'.out.below hb2, hb2.size, hb2⟩)
  have HA := Lib.hid (itemAlive W0)
  rw [HW0.out] at HA
  go_enter Try.func4, Try.ntmps4
  go_wp2_with fail
  refine HA.out.mono ?_
  rw [← HW0.out]
  rintro e w1 ⟨rfl, hb1⟩
  have HB : Hid (Below (w.heap.size + 2) W0 w1) := Lib.hid (by rw [← HZ0.out]; exact hb1)
  clear hb1 HA
  obtain ⟨g0, g1, g2, _, _, _⟩ := blk3 (HKA.out.keep HB.out (by omega))
  obtain ⟨r0, r1, r2, _, _, _⟩ := blk3 (HKB.out.keep HB.out (by omega))
  have hz1 : w.heap.size + 2 ≤ w1.heap.size := by have := HB.out.size; rw [HZ0.out] at this; omega
  have HG := Lib.hid (great_c x w.heap.size w1 _ _ _ (HIX.out _ HB.out).1 (by omega))
  cases hg : x.great with
  | true =>
    rw [hg] at HG
    go_wp2_with fail
    refine HG.out.mono ?_
    rintro e w2 ⟨rfl, hb2⟩
    have HB2 := Lib.hid (HB.out.trans (hb2.mono hz1))
    clear hb2
    go_wp2
    go_ret
    exact ⟨rfl, (HIX.out _ HB2.out).2.2.2⟩
  | false =>
    rw [hg] at HG
    have hcx := great_count x hg
    clear hg
    go_wp2_with fail
    refine HG.out.mono ?_
    rintro e w2 ⟨rfl, hb2⟩
    have HB2 : Hid (Below (w.heap.size + 2) W0 w2) := Lib.hid (HB.out.trans (hb2.mono hz1))
    have hz2 : w.heap.size + 2 ≤ w2.heap.size := by have := hb2.size; omega
    clear hb2 HB HG g0 g1 g2 r0 r1 r2
    obtain ⟨g0, g1, g2, _, _, _⟩ := blk3 (HKA.out.keep HB2.out (by omega))
    obtain ⟨r0, r1, r2, _, _, _⟩ := blk3 (HKB.out.keep HB2.out (by omega))
    have HG := Lib.hid (great_c y w.heap.size w2 _ _ _ (HIX.out _ HB2.out).2.1 (by omega))
    cases hg : y.great with
    | true =>
      rw [hg] at HG
      go_wp2_with fail
      refine HG.out.mono ?_
      rintro e w3 ⟨rfl, hb3⟩
      have HB3 := Lib.hid (HB2.out.trans (hb3.mono hz2))
      clear hb3
      go_wp2
      go_ret
      exact ⟨rfl, (HIX.out _ HB3.out).2.2.2⟩
    | false =>
      rw [hg] at HG
      have hcy := great_count y hg
      clear hg
      go_wp2_with fail
      refine HG.out.mono ?_
      rintro e w3 ⟨rfl, hb3⟩
      have HB3 : Hid (Below (w.heap.size + 2) W0 w3) := Lib.hid (HB2.out.trans (hb3.mono hz2))
      have hz3 : w.heap.size + 2 ≤ w3.heap.size := by have := hb3.size; omega
      clear hb3 HB2 HG g0 g1 g2 r0 r1 r2
      obtain ⟨g0, g1, g2, _, _, _⟩ := blk3 (HKA.out.keep HB3.out (by omega))
      obtain ⟨r0, r1, r2, _, _, _⟩ := blk3 (HKB.out.keep HB3.out (by omega))
      have hb4 : Below (w.heap.size + 2) W0 (w3.alloc (.cells #[.string x.text, .bool x.list, .slice A x.sub.length cap, .string y.text, .bool y.list, .slice A' y.sub.length cap'] 24)) := HB3.out.alloc (by omega) _
      have hits : ItsIn (w3.alloc (.cells #[.string x.text, .bool x.list, .slice A x.sub.length cap, .string y.text, .bool y.list, .slice A' y.sub.length cap'] 24)) (w3.heap.size + 1) [x, y] (some ⟨w3.heap.size, 0, none⟩) 0 :=
        ⟨⟨_, _, _, _, _, rfl, by omega, by simp, by simp, by simp, (HIX.out _ hb4).1.mono (by omega)⟩, ⟨_, _, _, _, _, rfl, by omega, by simp, by simp, by simp, (HIX.out _ hb4).2.1.mono (by omega)⟩, trivial⟩
      have HL := Lib.hid (list_c [x, y] _ _ 2 _ hits (by simp) (by simp))
      clear hits hb4
      go_wp2_with fail
      refine HL.out.mono ?_
      rintro e w4 ⟨⟨l2, rfl, hli⟩, hb4⟩
      have hz4 : w3.heap.size + 1 ≤ w4.heap.size := by have := hb4.size; simpa using this
      obtain ⟨_, _, _, _, AL, lcap, rfl, hlc1, hlc2, hlits⟩ := hli
      obtain ⟨⟨lb, lo, p0, p1, p2, rfl, hlb, q0, q1, q2, hpx⟩, ⟨lb', lo', p3, p4, p5, hAL, _, q3, q4, q5, hpy⟩, _⟩ := hlits
      injection hAL with hAL
      injection hAL with hAL1 hAL2
      subst hAL1; subst hAL2
      have HB4 : Hid (Below (w.heap.size + 2) W0 w4) := Lib.hid ((HB3.out.alloc (by omega) _).trans (hb4.mono (by simp; omega)))
      clear hb4 HL g0 g1 g2 r0 r1 r2 HB3
      obtain ⟨W5, HW5⟩ : ∃ W5, Hid (w4.alloc (.cells #[.string ⟨#[]⟩, .bool true, .slice (some ⟨lb, lo, none⟩) 2 lcap] 24) = W5) := ⟨_, Lib.hid rfl⟩
      have hz5 : W5.heap.size = w4.heap.size + 1 := by rw [← HW5.out]; simp
      have HB5 : Hid (Below (w.heap.size + 2) W0 W5) := Lib.hid (by rw [← HW5.out]; exact HB4.out.alloc (by omega) _)
      have hb45 : Below w4.heap.size w4 W5 := by rw [← HW5.out]; exact (Below.refl _ _).alloc (Nat.le_refl _) _
      obtain ⟨AX, ccx, rfl, rfl, rfl, _⟩ := hpx.open_
      obtain ⟨AY, ccy, rfl, rfl, rfl, _⟩ := hpy.open_
      have hl5 : Blk W5 w4.heap.size 24 #[.string ⟨#[]⟩, .bool true, .slice (some ⟨lb, lo, none⟩) 2 lcap] := by rw [← HW5.out]; exact Blk.new _ _ _
      -- what stands in every world to come
      have FX : Hid (∀ V, Below (w4.heap.size + 1) W5 V → (V.cell? ⟨w.heap.size, 0, none⟩ = some (.string x.text) ∧ V.cell? ⟨w.heap.size, 1, none⟩ = some (.bool x.list) ∧ V.cell? ⟨w.heap.size, 2, none⟩ = some (.slice A x.sub.length cap)) ∧ (V.cell? ⟨w.heap.size + 1, 0, none⟩ = some (.string y.text) ∧ V.cell? ⟨w.heap.size + 1, 1, none⟩ = some (.bool y.list) ∧ V.cell? ⟨w.heap.size + 1, 2, none⟩ = some (.slice A' y.sub.length cap')) ∧ (V.cell? ⟨w4.heap.size, 0, none⟩ = some (.string ⟨#[]⟩) ∧ V.cell? ⟨w4.heap.size, 1, none⟩ = some (.bool true) ∧ V.cell? ⟨w4.heap.size, 2, none⟩ = some (.slice (some ⟨lb, lo, none⟩) 2 lcap)) ∧ (V.cell? ⟨lb, lo, none⟩ = some (.string x.text) ∧ V.cell? ⟨lb, lo + 1, none⟩ = some (.bool x.list) ∧ V.cell? ⟨lb, lo + 2, none⟩ = some (.slice AX x.sub.length ccx)) ∧ (V.cell? ⟨lb, lo + 3, none⟩ = some (.string y.text) ∧ V.cell? ⟨lb, lo + 3 + 1, none⟩ = some (.bool y.list) ∧ V.cell? ⟨lb, lo + 3 + 2, none⟩ = some (.slice AY y.sub.length ccy)) ∧ w4.heap.size + 1 ≤ V.heap.size) := Lib.hid (by
        intro V hV
        have hV2 : Below (w.heap.size + 2) W0 V := HB5.out.trans (hV.mono (by omega))
        obtain ⟨a0, a1, a2, _⟩ := blk3 (HKA.out.keep hV2 (by omega))
        obtain ⟨b0, b1, b2, _⟩ := blk3 (HKB.out.keep hV2 (by omega))
        obtain ⟨l0, l1, l2, _⟩ := blk3 (hl5.keep hV (by omega))
        have hc : ∀ (o : Nat) (v : Value), w4.cell? ⟨lb, o, none⟩ = some v → V.cell? ⟨lb, o, none⟩ = some v := fun o v hv => (hV.cell (p := ⟨lb, o, none⟩) (by simp; omega)).trans ((hb45.cell (p := ⟨lb, o, none⟩) (by simpa using hlb)).trans hv)
        refine ⟨⟨a0, a1, a2⟩, ⟨b0, b1, b2⟩, ⟨l0, l1, l2⟩, ⟨hc _ _ (by simpa using q0), hc _ _ (by simpa using q1), hc _ _ (by simpa using q2)⟩, ⟨hc _ _ (by simpa using q3), hc _ _ (by simpa using q4), hc _ _ (by simpa using q5)⟩, ?_⟩
        have := hV.size
        omega)
      have HSX : Hid (∀ V, Below (w4.heap.size + 1) W5 V → Calls Try.prog 18 #[.agg #[.string x.text, .bool x.list, .slice AX x.sub.length ccx], .agg #[.string x.text, .bool x.list, .slice A x.sub.length cap]] V fun e w' => e = .returned (.bool true) ∧ Below (w4.heap.size + 1) W5 w') := Lib.hid (by
        intro V hV
        have hz := hV.size
        refine (refSame_yes x V.heap.size V _ _ _ _ _ _ (((hpx.below hb45).below (hV.mono (by omega))).mono (by omega)) (Nat.le_refl _) ((HIX.out V (HB5.out.trans (hV.mono (by omega)))).1.mono (by omega))).mono fun e w' ⟨he, hb⟩ => ⟨he, hV.trans (hb.mono (by omega))⟩)
      have HSY : Hid (∀ V, Below (w4.heap.size + 1) W5 V → Calls Try.prog 18 #[.agg #[.string y.text, .bool y.list, .slice AY y.sub.length ccy], .agg #[.string y.text, .bool y.list, .slice A' y.sub.length cap']] V fun e w' => e = .returned (.bool true) ∧ Below (w4.heap.size + 1) W5 w') := Lib.hid (by
        intro V hV
        have hz := hV.size
        refine (refSame_yes y V.heap.size V _ _ _ _ _ _ (((hpy.below hb45).below (hV.mono (by omega))).mono (by omega)) (Nat.le_refl _) ((HIX.out V (HB5.out.trans (hV.mono (by omega)))).2.1.mono (by omega))).mono fun e w' ⟨he, hb⟩ => ⟨he, hV.trans (hb.mono (by omega))⟩)
      have HTX : Hid (∀ V, Below (w4.heap.size + 1) W5 V → Calls Try.prog 19 #[.string x.text] V fun e w' => e = .returned (.agg #[.string x.text, .bool false, .slice none 0 0]) ∧ Below (w4.heap.size + 1) W5 w') := Lib.hid (by
        intro V hV
        have hz := hV.size
        refine (text_c x.text V).mono fun e w' ⟨he, hb⟩ => ⟨he, hV.trans (hb.mono (by omega))⟩)
      have HST : Hid (∀ V, Below (w4.heap.size + 1) W5 V → Calls Try.prog 18 #[.agg #[.string x.text, .bool false, .slice none 0 0], .agg #[.string x.text, .bool false, .slice none 0 0]] V fun e w' => e = .returned (.bool true) ∧ Below (w4.heap.size + 1) W5 w') := Lib.hid (by
        intro V hV
        have hz := hV.size
        have hin : ItIn V 0 (.mk x.text false []) (.string x.text) (.bool false) (.slice none 0 0) := ⟨rfl, rfl, hsx, by simp, none, 0, rfl, by simp, by simp, trivial⟩
        refine (refSame_yes (.mk x.text false []) 0 V _ _ _ _ _ _ hin (Nat.zero_le _) hin).mono fun e w' ⟨he, hb⟩ => ⟨he, hV.trans (hb.mono (by omega))⟩)
      clear hpx hpy hb45 hl5 q0 q1 q2 q3 q4 q5
      have hV5 : Below (w4.heap.size + 1) W5 W5 := Below.refl _ _
      obtain ⟨⟨a0, a1, a2⟩, ⟨b0, b1, b2⟩, ⟨l0, l1, l2⟩, ⟨m0, m1, m2⟩, ⟨n0, n1, n2⟩, hzv⟩ := FX.out W5 hV5
      go_wp2_with fail
      rw [HW5.out]
      have KP : Hid (∀ V, Below (w4.heap.size + 1) W5 V → V.cell? ⟨w.heap.size, 0, none⟩ = some (.string x.text) ∧ V.cell? ⟨w.heap.size, 1, none⟩ = some (.bool x.list) ∧ V.cell? ⟨w.heap.size, 2, none⟩ = some (.slice A x.sub.length cap) ∧ V.cell? ⟨w.heap.size + 1, 0, none⟩ = some (.string y.text) ∧ V.cell? ⟨w.heap.size + 1, 1, none⟩ = some (.bool y.list) ∧ V.cell? ⟨w.heap.size + 1, 2, none⟩ = some (.slice A' y.sub.length cap') ∧ V.cell? ⟨w4.heap.size, 0, none⟩ = some (.string ⟨#[]⟩) ∧ V.cell? ⟨w4.heap.size, 1, none⟩ = some (.bool true) ∧ V.cell? ⟨w4.heap.size, 2, none⟩ = some (.slice (some ⟨lb, lo, none⟩) 2 lcap) ∧ V.cell? ⟨lb, lo, none⟩ = some (.string x.text) ∧ V.cell? ⟨lb, lo + 1, none⟩ = some (.bool x.list) ∧ V.cell? ⟨lb, lo + 2, none⟩ = some (.slice AX x.sub.length ccx) ∧ V.cell? ⟨lb, lo + 3, none⟩ = some (.string y.text) ∧ V.cell? ⟨lb, lo + 3 + 1, none⟩ = some (.bool y.list) ∧ V.cell? ⟨lb, lo + 3 + 2, none⟩ = some (.slice AY y.sub.length ccy) ∧ Below (w4.heap.size + 1) W5 V) := Lib.hid (fun V hV => by
        obtain ⟨⟨a0, a1, a2⟩, ⟨b0, b1, b2⟩, ⟨l0, l1, l2⟩, ⟨m0, m1, m2⟩, ⟨n0, n1, n2⟩, _⟩ := FX.out V hV
        exact ⟨a0, a1, a2, b0, b1, b2, l0, l1, l2, m0, m1, m2, n0, n1, n2, hV⟩)
      go_cut [2, 3, 4, 6] from 7 (fun s2 s3 s4 s6 V => s2 = .pointer (some ⟨w.heap.size, 0, none⟩) ∧ s3 = .pointer (some ⟨w.heap.size + 1, 0, none⟩) ∧ s4 = .bool false ∧ s6 = .bool true ∧ Below (w4.heap.size + 1) W5 V)
      case first =>
        go_region_held3 (fun V => V.cell? ⟨w.heap.size, 0, none⟩ = some (.string x.text) ∧ V.cell? ⟨w.heap.size, 1, none⟩ = some (.bool x.list) ∧ V.cell? ⟨w.heap.size, 2, none⟩ = some (.slice A x.sub.length cap) ∧ V.cell? ⟨w.heap.size + 1, 0, none⟩ = some (.string y.text) ∧ V.cell? ⟨w.heap.size + 1, 1, none⟩ = some (.bool y.list) ∧ V.cell? ⟨w.heap.size + 1, 2, none⟩ = some (.slice A' y.sub.length cap') ∧ V.cell? ⟨w4.heap.size, 0, none⟩ = some (.string ⟨#[]⟩) ∧ V.cell? ⟨w4.heap.size, 1, none⟩ = some (.bool true) ∧ V.cell? ⟨w4.heap.size, 2, none⟩ = some (.slice (some ⟨lb, lo, none⟩) 2 lcap) ∧ V.cell? ⟨lb, lo, none⟩ = some (.string x.text) ∧ V.cell? ⟨lb, lo + 1, none⟩ = some (.bool x.list) ∧ V.cell? ⟨lb, lo + 2, none⟩ = some (.slice AX x.sub.length ccx) ∧ V.cell? ⟨lb, lo + 3, none⟩ = some (.string y.text) ∧ V.cell? ⟨lb, lo + 3 + 1, none⟩ = some (.bool y.list) ∧ V.cell? ⟨lb, lo + 3 + 2, none⟩ = some (.slice AY y.sub.length ccy) ∧ Below (w4.heap.size + 1) W5 V)
          (first | exact KP.out _ hV5 | exact KP.out _ hv | exact KP.out _ hv.drew | exact KP.out _ hV5.drew | exact KP.out _ (by assumption) | exact KP.out _ (Below.drew (by assumption)))
          (first
            | (go_at_call 18; ((with_reducible refine (HSX.out _ (by first | assumption | exact Below.drew (by assumption) | exact Below.drewN' (by assumption) _)).mono ?_); rintro e w' ⟨rfl, hv⟩))
            | (go_at_call 18; ((with_reducible refine (HSY.out _ (by first | assumption | exact Below.drew (by assumption) | exact Below.drewN' (by assumption) _)).mono ?_); rintro e w' ⟨rfl, hv⟩))
            | (go_at_call 18; ((with_reducible refine (HST.out _ (by first | assumption | exact Below.drew (by assumption) | exact Below.drewN' (by assumption) _)).mono ?_); rintro e w' ⟨rfl, hv⟩))
            | (go_at_call 19; ((with_reducible refine (HTX.out _ (by first | assumption | exact Below.drew (by assumption) | exact Below.drewN' (by assumption) _)).mono ?_); rintro e w' ⟨rfl, hv⟩)))
        go_wp2
        go_meet
        case rel => exact ⟨rfl, rfl, rfl, rfl, hv⟩
      obtain ⟨rfl, rfl, rfl, rfl, hv⟩ := hcut
      clear HSX HSY HST HTX KP hV5 a0 a1 a2 b0 b1 b2 l0 l1 l2 m0 m1 m2 n0 n1 n2 hzv
      have HV6 := Lib.hid hv
      clear hv
      have K7 : Hid (∀ V, Below (w4.heap.size + 1) W5 V → V.cell? ⟨w.heap.size, 0, none⟩ = some (.string x.text) ∧ V.cell? ⟨w.heap.size, 1, none⟩ = some (.bool x.list) ∧ V.cell? ⟨w.heap.size, 2, none⟩ = some (.slice A x.sub.length cap) ∧ V.cell? ⟨w.heap.size + 1, 0, none⟩ = some (.string y.text) ∧ V.cell? ⟨w.heap.size + 1, 1, none⟩ = some (.bool y.list) ∧ V.cell? ⟨w.heap.size + 1, 2, none⟩ = some (.slice A' y.sub.length cap') ∧ Below (w4.heap.size + 1) W5 V) := Lib.hid (fun V hV => by
        obtain ⟨⟨a0, a1, a2⟩, ⟨b0, b1, b2⟩, _⟩ := FX.out V hV
        exact ⟨a0, a1, a2, b0, b1, b2, hV⟩)
      have HAL : Hid (∀ V, Below (w4.heap.size + 1) W5 V → ItIn V w.heap.size x (.string x.text) (.bool x.list) (.slice A x.sub.length cap) ∧ ItIn V w.heap.size y (.string y.text) (.bool y.list) (.slice A' y.sub.length cap') ∧ w.heap.size ≤ V.heap.size ∧ w4.heap.size + 1 ≤ V.heap.size) := Lib.hid (fun V hV => by
        obtain ⟨h1, h2, h3, _⟩ := HIX.out V (HB5.out.trans (hV.mono (by omega)))
        have := hV.size
        exact ⟨h1, h2, h3, by omega⟩)
      have HMX : Hid (∀ V, Below (w4.heap.size + 1) W5 V → Calls Try.prog 14 #[.agg #[.string x.text, .bool x.list, .slice A x.sub.length cap]] V fun e w' => e = .returned (.bool x.may) ∧ Below (w4.heap.size + 1) W5 w') := Lib.hid (fun V hV => by
        obtain ⟨h1, h2, h3, h4⟩ := HAL.out V hV
        exact (refMay_c x w.heap.size V _ _ _ h1 h3 (by omega)).mono fun e w' ⟨he, hb⟩ => ⟨he, hV.trans (hb.mono h4)⟩)
      have HMY : Hid (∀ V, Below (w4.heap.size + 1) W5 V → Calls Try.prog 14 #[.agg #[.string y.text, .bool y.list, .slice A' y.sub.length cap']] V fun e w' => e = .returned (.bool y.may) ∧ Below (w4.heap.size + 1) W5 w') := Lib.hid (fun V hV => by
        obtain ⟨h1, h2, h3, h4⟩ := HAL.out V hV
        exact (refMay_c y w.heap.size V _ _ _ h2 h3 (by omega)).mono fun e w' ⟨he, hb⟩ => ⟨he, hV.trans (hb.mono h4)⟩)
      obtain ⟨R2, hR2⟩ : ∃ R2 : Bool, R2 = true ↔ x = y := by
        by_cases hxy : x = y
        · exact ⟨true, by simp [hxy]⟩
        · exact ⟨false, by simp [hxy]⟩
      have HSR : Hid (∀ V, Below (w4.heap.size + 1) W5 V → Calls Try.prog 18 #[.agg #[.string x.text, .bool x.list, .slice A x.sub.length cap], .agg #[.string y.text, .bool y.list, .slice A' y.sub.length cap']] V fun e w' => e = .returned (.bool R2) ∧ Below (w4.heap.size + 1) W5 w') := Lib.hid (fun V hV => by
        obtain ⟨h1, h2, h3, h4⟩ := HAL.out V hV
        exact (refSame_is x y R2 hR2 w.heap.size V _ _ _ _ _ _ h1 h3 h2).mono fun e w' ⟨he, hb⟩ => ⟨he, hV.trans (hb.mono h4)⟩)
      obtain ⟨R1, hR1⟩ : ∃ R1 : Bool, R1 = (x.may && y.may && R2) := ⟨_, rfl⟩
      have HSI : Hid (∀ V, Below (w4.heap.size + 1) W5 V → Calls Try.prog 20 #[.agg #[.string x.text, .bool x.list, .slice A x.sub.length cap], .agg #[.string y.text, .bool y.list, .slice A' y.sub.length cap']] V fun e w' => e = .returned (.bool R1) ∧ Below (w4.heap.size + 1) W5 w') := Lib.hid (fun V hV => by
        obtain ⟨h1, h2, h3, h4⟩ := HAL.out V hV
        exact (itemSame_is x y R1 (by rw [hR1, Bool.and_eq_true, Bool.and_eq_true, hR2, and_assoc]) w.heap.size V _ _ _ _ _ _ h1 h3 h2).mono fun e w' ⟨he, hb⟩ => ⟨he, hV.trans (hb.mono h4)⟩)
      have HFIN : Hid (∀ V, Below (w4.heap.size + 1) W5 V → Below w.heap.size w V) := Lib.hid (fun V hV => (HIX.out V (HB5.out.trans (hV.mono (by omega)))).2.2.2)
      have hV6 := HV6.out
      obtain ⟨a0, a1, a2, b0, b1, b2, _⟩ := K7.out _ hV6
      clear hR2 FX HAL HIX HB5 HB4 HV6 HKA HKB HZ0 HB0 HW0 HI HI' HW5 hsx hsy hcx hcy hz1 hz2 hz3 hz4 hz5 hlc1 hlc2 hlb
      rw [hmx] at HMX
      rw [hmy] at HMY
      obtain rfl : R1 = false := by rw [hR1, hmx, hmy]; rfl
      clear hR1 hmx hmy
      go_wp2_with fail
      go_region_with (first
          | (go_at_call 20; ((with_reducible refine (HSI.out _ (by first | assumption | exact Below.drew (by assumption) | exact Below.drewN' (by assumption) _)).mono ?_); rintro e w' ⟨rfl, hv⟩; obtain ⟨a0, a1, a2, b0, b1, b2, _⟩ := K7.out _ hv))
          | (go_at_call 14; ((with_reducible refine (HMX.out _ (by first | assumption | exact Below.drew (by assumption) | exact Below.drewN' (by assumption) _)).mono ?_); rintro e w' ⟨rfl, hv⟩; obtain ⟨a0, a1, a2, b0, b1, b2, _⟩ := K7.out _ hv))
          | (go_at_call 14; ((with_reducible refine (HMY.out _ (by first | assumption | exact Below.drew (by assumption) | exact Below.drewN' (by assumption) _)).mono ?_); rintro e w' ⟨rfl, hv⟩; obtain ⟨a0, a1, a2, b0, b1, b2, _⟩ := K7.out _ hv)))
      all_goals
        have HVF := Lib.hid (HFIN.out _ hv)
        go_wp2
        go_ret
        exact ⟨rfl, HVF.out⟩
end Go.Proofs.Ytcidcjghglgkhaa
