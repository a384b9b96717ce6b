/- hatchwaylaw21.TypedNumbers: the text of any number, and the number of any item, or the error, are the document's. -/
import Derived.Test.YtmcdgmepheibkaaDoorTypedAlive
import Derived.Test.YtmcdgmepheibkaaDoorTypedN
import Derived.Deep.RegionHeld3
namespace Go.Proofs.YtmcdgmepheibkaaDoor
set_option linter.unusedVariables false
set_option linter.unusedSimpArgs false
open Go.RowKit

theorem minL_be (n : Nat) : beL (minL n) = n := by
  induction n using Nat.strongRecOn with
  | ind n ih =>
    by_cases h : n = 0
    · subst h; rw [minL_zero]; rfl
    · rw [minL_pos h, beL_snoc, ih (n / 256) (by omega)]
      have : (ub ((n % 256 : Nat) : Int)).toNat = n % 256 := by simp [ub]; try omega
      rw [this]; omega
theorem minL_lead (n : Nat) : lead0 (minL n) = false := by
  induction n using Nat.strongRecOn with
  | ind n ih =>
    by_cases h : n = 0
    · subst h; rw [minL_zero]; rfl
    · rw [minL_pos h]
      by_cases h2 : n / 256 = 0
      · rw [h2, minL_zero, List.nil_append]
        have h4 : (ub ((n % 256 : Nat) : Int)).toNat = n % 256 := by simp [ub]; try omega
        simp only [lead0, beq_eq_false_iff_ne]
        intro e
        rw [e] at h4
        simp at h4
        omega
      · have := ih (n / 256) (by omega)
        cases hl : minL (n / 256) with
        | nil =>
          rw [minL_pos h2] at hl
          simp at hl
        | cons a b =>
          rw [hl] at this
          simpa [lead0] using this
theorem minL_gl (n : Nat) (h : n < 18446744073709551616) : glE ⟨(minL n).toArray⟩ = 0 ∧ glN ⟨(minL n).toArray⟩ = n := by
  have h1 := minL_length 8 n (by simpa using h)
  have h2 : glE ⟨(minL n).toArray⟩ = 0 := by
    unfold glE
    rw [size_of]
    split
    · rfl
    · rw [if_neg (by omega), if_neg (by rw [show (⟨(minL n).toArray⟩ : ByteArray).data.toList = minL n by simp, minL_lead]; simp)]
  refine ⟨h2, ?_⟩
  unfold glN
  rw [if_pos h2, show (⟨(minL n).toArray⟩ : ByteArray).data.toList = minL n by simp, minL_be]
set_option maxRecDepth 100000 in
set_option maxHeartbeats 3200000 in
theorem typedNumbers_w (n : Int) (x : It) (c0 c1 c2 : Value) (w : World) (hn : (Lit.int .u64 n).wf = true) (hI : ItIn w w.heap.size x c0 c1 c2) (hL : Laid w) :
    Calls Tryd.prog 5 #[.int .u64 n, .agg #[c0, c1, c2]] w fun e w' => e = .returned (.bool true) ∧ Below w.heap.size w w' := by
  obtain ⟨n, rfl⟩ : ∃ m : Nat, n = (m : Int) := ⟨n.toNat, by simp [Lit.wf, IntKind.min, IntKind.max, IntKind.signed, IntKind.bits] at hn; omega⟩
  have hn2 : n < 18446744073709551616 := by simp [Lit.wf, IntKind.min, IntKind.max, IntKind.signed, IntKind.bits] at hn; omega
  have hpos := hL.pos
  obtain ⟨A', cap', rfl, rfl, rfl, htx, _⟩ := hI.open_
  obtain ⟨W0, hW0⟩ : ∃ W0, w.alloc (.cells #[.string x.text, .bool x.list, .slice A' x.sub.length cap'] 27) = W0 := ⟨_, rfl⟩
  have hb0 : Below w.heap.size w W0 := by rw [← hW0]; exact (Below.refl _ w).alloc (Nat.le_refl _) _
  have hz0 : W0.heap.size = w.heap.size + 1 := by rw [← hW0]; simp
  have m2 : Blk W0 w.heap.size 27 #[.string x.text, .bool x.list, .slice A' x.sub.length cap'] := by rw [← hW0]; exact Blk.new w _ _
  have HA := Lib.hid (alive21_c W0 (hL.below hb0 hpos))
  have HM2 := Lib.hid m2
  have HB0 := Lib.hid hb0
  have HW0 := Lib.hid hW0
  generalize x.text = tx at *
  generalize x.list = lx at *
  generalize x.sub.length = nx at *
  clear hI hW0 m2 hb0 hL hn
  obtain ⟨hg1, hg2⟩ := minL_gl n hn2
  obtain ⟨T, hT⟩ : ∃ T, (⟨(minL n).toArray⟩ : ByteArray) = T := ⟨_, rfl⟩
  have hTs : T.size ≤ 8 := by rw [← hT, size_of]; exact minL_length 8 n (by simpa using hn2)
  have HN := Lib.hid (fun w => number_c n w hn2)
  have HO := Lib.hid (fun w => of_c T false (.slice none 0 0) w (by omega))
  have HR := Lib.hid (fun w => refLeast_c n w hn2)
  rw [hT] at HN HR hg1 hg2
  rw [show ofN T false = n from hg2, show ofE T false = 0 from hg1] at HO
  have HX := Lib.hid (fun w => of_c tx lx (.slice A' nx cap') w htx)
  clear hg1 hg2 hT
  have hnn : ((n : Int) != (n : Int)) = false := by simp
  have hnn2 : (n != n) = false := by simp
  have HNN := Lib.hid hn2
  clear hn2
  go_enter Tryd.func5, Tryd.ntmps5
  go_wp2_with fail
  rw [HW0.out]
  refine HA.out.mono ?_
  rintro e w1 ⟨rfl, hb1⟩
  have hz1 := hb1.size
  have HB1 : Hid (Below (w.heap.size + 1) W0 w1) := Lib.hid (hb1.mono (by omega))
  obtain ⟨q0, q1, q2, _, _, _⟩ := blk3 (HM2.out.keep HB1.out (by omega))
  clear hb1
  by_cases h300 : 300 < tx.size
  · go_wp2
    go_ret
    exact ⟨rfl, HB0.out.trans (HB1.out.mono (by omega))⟩
  · go_wp2_with fail
    refine (HN.out w1).mono ?_
    rintro e w2 ⟨rfl, hb2⟩
    have hz2 := hb2.size
    have HB2 : Hid (Below (w.heap.size + 1) W0 w2) := Lib.hid (HB1.out.trans (hb2.mono (by omega)))
    clear hb2
    go_wp2_with fail
    refine (HO.out _).mono ?_
    rintro e w3 ⟨rfl, hb3⟩
    have hz3 := hb3.size
    simp only [World.size_alloc] at hz3
    have HY3 := Lib.hid ((Blk.new w2 27 #[.string T, .bool false, .slice none 0 0]).keep hb3 (by simp))
    have HB3 : Hid (Below (w.heap.size + 1) W0 w3) := Lib.hid ((HB2.out.alloc (by omega) _).trans (hb3.mono (by simp; omega)))
    clear hb3 q0 q1 q2
    obtain ⟨y0, y1, y2, _, _, _⟩ := blk3 HY3.out
    have HKP : Hid (∀ V, Below w3.heap.size w3 V → V.cell? ⟨w2.heap.size, 0, none⟩ = some (.string T) ∧ V.cell? ⟨w2.heap.size, 1, none⟩ = some (.bool false) ∧ V.cell? ⟨w2.heap.size, 2, none⟩ = some (.slice none 0 0) ∧ Below w3.heap.size w3 V) := Lib.hid (fun V hV => by
      have n1 := HY3.out.keep hV (by omega)
      exact ⟨n1.cell 0, n1.cell 1, n1.cell 2, hV⟩)
    have HR3 : Hid (∀ V, Below w3.heap.size w3 V → Calls Tryd.prog 25 #[.int .u64 n] V fun e w' => e = .returned (.string T) ∧ Below w3.heap.size w3 w') := Lib.hid (fun V hV => by
      refine (HR.out V).mono ?_
      rintro e w' ⟨rfl, hx⟩
      exact ⟨rfl, hV.trans (hx.mono hV.size)⟩)
    go_wp2_with fail
    have x8 : Below w3.heap.size w3 w3 := Below.refl _ _
    go_region_held3 (fun V => V.cell? ⟨w2.heap.size, 0, none⟩ = some (.string T) ∧ V.cell? ⟨w2.heap.size, 1, none⟩ = some (.bool false) ∧ V.cell? ⟨w2.heap.size, 2, none⟩ = some (.slice none 0 0) ∧ Below w3.heap.size w3 V)
      (first | exact HKP.out _ x8 | exact HKP.out _ hv | exact HKP.out _ hv.drew | exact HKP.out _ x8.drew | exact HKP.out _ (by assumption) | exact HKP.out _ (Below.drew (by assumption)))
      (first | (go_at_call 25; ((with_reducible refine (HR3.out _ (by first | assumption | exact Below.drew (by assumption) | exact Below.drewN' (by assumption) _)).mono ?_); rintro e w' ⟨rfl, hv⟩)))
    all_goals
      have HB4 : Hid (Below (w.heap.size + 1) W0 w') := Lib.hid (HB3.out.trans (hv.mono (by omega)))
      clear hv y0 y1 y2 x8
      obtain ⟨q0, q1, q2, _, _, _⟩ := blk3 (HM2.out.keep HB4.out (by omega))
      cases lx with
      | true =>
        rw [show ofN tx true = 0 from rfl, show ofE tx true = 12 from rfl] at HX
        go_wp2_with fail
        refine (HX.out _).mono ?_
        rintro e w5 ⟨rfl, hb5⟩
        have hz4 := HB4.out.size
        have hz5 := hb5.size
        have HB5 : Hid (Below (w.heap.size + 1) W0 w5) := Lib.hid (HB4.out.trans (hb5.mono (by omega)))
        clear hb5 q0 q1 q2
        obtain ⟨q0, q1, q2, _, _, _⟩ := blk3 (HM2.out.keep HB5.out (by omega))
        go_wp2
        go_ret
        exact ⟨rfl, HB0.out.trans (HB5.out.mono (by omega))⟩
      | false =>
        rw [show ofN tx false = glN tx from rfl, show ofE tx false = glE tx from rfl] at HX
        by_cases h8 : 8 < tx.size
        · have h1 : glE tx = 5 := by unfold glE; rw [if_neg (by omega), if_pos h8]
          have h2 : glN tx = 0 := by unfold glN; rw [h1]; rfl
          rw [h1, h2] at HX
          clear h1 h2
          go_wp2_with fail
          refine (HX.out _).mono ?_
          rintro e w5 ⟨rfl, hb5⟩
          have hz4 := HB4.out.size
          have hz5 := hb5.size
          have HB5 : Hid (Below (w.heap.size + 1) W0 w5) := Lib.hid (HB4.out.trans (hb5.mono (by omega)))
          clear hb5 q0 q1 q2
          obtain ⟨q0, q1, q2, _, _, _⟩ := blk3 (HM2.out.keep HB5.out (by omega))
          go_wp2
          go_ret
          exact ⟨rfl, HB0.out.trans (HB5.out.mono (by omega))⟩
        · rcases empty_ways tx with ⟨hz, rfl⟩ | ⟨hz, hz1, hz2⟩
          · have h1 : glE ⟨#[]⟩ = 0 := by simp [glE, ByteArray.size]
            have h2 : glN ⟨#[]⟩ = 0 := by simp [glN, glE, ByteArray.size, beL, leL]
            have HF := Lib.hid (fun w => refNumber_c ⟨#[]⟩ w (by simp [ByteArray.size]))
            rw [h1, h2] at HX
            rw [show beL (⟨#[]⟩ : ByteArray).data.toList = 0 from rfl] at HF
            clear h1 h2 hz
            go_wp2_with fail
            refine (HX.out _).mono ?_
            rintro e w5 ⟨rfl, hb5⟩
            have hz4 := HB4.out.size
            have hz5 := hb5.size
            have HB5 : Hid (Below (w.heap.size + 1) W0 w5) := Lib.hid (HB4.out.trans (hb5.mono (by omega)))
            clear hb5 q0 q1 q2
            obtain ⟨q0, q1, q2, _, _, _⟩ := blk3 (HM2.out.keep HB5.out (by omega))
            go_wp2_with fail
            refine (HF.out _).mono ?_
            rintro e w6 ⟨rfl, rfl⟩
            go_wp2
            go_ret
            exact ⟨by first | rfl | simp, HB0.out.trans (HB5.out.mono (by omega))⟩
          · have hp : 0 < tx.size := by omega
            by_cases h0 : tx[0].toNat = 0
            · have e1 : ((tx[0].toNat : Int) == 0) = true := by simp [h0]
              have h1 : glE tx = 3 := by unfold glE; rw [if_neg (by omega), if_neg h8, lead0_at tx hp, h0]; rfl
              have h2 : glN tx = 0 := by unfold glN; rw [h1]; rfl
              rw [h1, h2] at HX
              clear h1 h2 hz h0
              go_wp2_with fail
              refine (HX.out _).mono ?_
              rintro e w5 ⟨rfl, hb5⟩
              have hz4 := HB4.out.size
              have hz5 := hb5.size
              have HB5 : Hid (Below (w.heap.size + 1) W0 w5) := Lib.hid (HB4.out.trans (hb5.mono (by omega)))
              clear hb5 q0 q1 q2
              obtain ⟨q0, q1, q2, _, _, _⟩ := blk3 (HM2.out.keep HB5.out (by omega))
              go_wp2
              go_ret
              exact ⟨rfl, HB0.out.trans (HB5.out.mono (by omega))⟩
            · have e1 : ((tx[0].toNat : Int) == 0) = false := beq_eq_false_iff_ne.2 (by omega)
              have h1 : glE tx = 0 := by unfold glE; rw [if_neg (by omega), if_neg h8, lead0_at tx hp, decide_eq_false h0]; rfl
              have h2 : glN tx = beL tx.data.toList := by unfold glN; rw [if_pos h1]
              have HF := Lib.hid (fun w => refNumber_c tx w (by omega))
              rw [h1, h2] at HX
              generalize beL tx.data.toList = bb at *
              clear h1 h2 hz h0
              go_wp2_with fail
              refine (HX.out _).mono ?_
              rintro e w5 ⟨rfl, hb5⟩
              have hz4 := HB4.out.size
              have hz5 := hb5.size
              have HB5 : Hid (Below (w.heap.size + 1) W0 w5) := Lib.hid (HB4.out.trans (hb5.mono (by omega)))
              clear hb5 q0 q1 q2
              obtain ⟨q0, q1, q2, _, _, _⟩ := blk3 (HM2.out.keep HB5.out (by omega))
              go_wp2_with fail
              refine (HF.out _).mono ?_
              rintro e w6 ⟨rfl, rfl⟩
              go_wp2
              go_ret
              exact ⟨by first | rfl | simp, HB0.out.trans (HB5.out.mono (by omega))⟩
end Go.Proofs.YtmcdgmepheibkaaDoor
