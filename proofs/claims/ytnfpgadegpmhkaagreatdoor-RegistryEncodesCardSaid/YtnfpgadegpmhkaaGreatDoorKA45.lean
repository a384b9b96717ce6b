/- tree.Check; the document's Put and Get of trees. -/
import Derived.Test.YtnfpgadegpmhkaaGreatDoorKA34
import Derived.Test.YtnfpgadegpmhkaaGreatDoorKA28
import Derived.Test.YtnfpgadegpmhkaaGreatDoorKA18
import Derived.Test.YtnfpgadegpmhkaaGreatDoorKA35
set_option linter.unusedVariables false
set_option linter.unusedSimpArgs false
set_option maxRecDepth 100000
set_option maxHeartbeats 1000000
namespace Go.Proofs.YtnfpgadegpmhkaaGreatDoor
open Go.RowKit
theorem ref22Put_c (ty : Ty) (x : It) (D M : Int) (B : Nat) (w : World) (t0 t1 t2 t3 c0 c1 c2 : Value) (hT : TyIn w B ty t0 t1 t2 t3) (hI : ItIn w B x c0 c1 c2) (hB : B ≤ w.heap.size) (hl : x.rlp.length ≤ 1099511627776) (hct : ty.count ≤ 4611686018427387904) (hci : x.count ≤ 4611686018427387904) :
 Calls Tryz.prog 36 #[.agg #[t0, t1, t2, t3], .agg #[c0, c1, c2], .int .i64 D, .int .i64 M] w fun e w' => e = .returned (.tuple #[.string (if tPutE ty x D M = 0 then ⟨x.rlp.toArray⟩ else ⟨#[]⟩), .int .i64 (tPutE ty x D M)]) ∧ Below w.heap.size w w' := by
 obtain ⟨W, hW⟩ : ∃ W, (w.alloc (.cells #[t0, t1, t2, t3] 55)).alloc (.cells #[c0, c1, c2] 28) = W := ⟨_, rfl⟩
 obtain ⟨hz, hb, h4, h5⟩ := box2 hW
 have hT2 := hT.below (hb.mono hB)
 have hI2 := hI.below (hb.mono hB)
 have HC1 := Lib.hid (refFits_c ty x B W t0 t1 t2 t3 c0 c1 c2 hT2 hI2 (by omega) hct hci)
 have HC2 : Hid (∀ V, Below W.heap.size W V → Calls Tryz.prog 55 #[.agg #[c0, c1, c2], .int .i64 D, .int .i64 M] V fun e w' => e = .returned (.int .i64 (capsE x D M)) ∧ Below V.heap.size V w') := Lib.hid (fun V hV => refCaps_c x D M B V c0 c1 c2 (hI2.below (hV.mono (by omega))) (by have := hV.size; omega) hci)
 have HC3 : Hid (∀ V, Below W.heap.size W V → Calls Tryz.prog 56 #[.agg #[c0, c1, c2]] V fun e w' => e = .returned (.string ⟨x.rlp.toArray⟩) ∧ Below V.heap.size V w') := Lib.hid (fun V hV => ref09Put_c x B V c0 c1 c2 (hI2.below (hV.mono (by omega))) (by have := hV.size; omega) hl)
 have HK : Hid (∀ V, Below W.heap.size W V → Blk V (w.heap.size + 1) 28 #[c0, c1, c2] ∧ Below w.heap.size w V) := Lib.hid (fun V hV => ⟨h5.keep hV (by omega), hb.trans (hV.mono (by omega))⟩)
 obtain ⟨q0, q1, q2, q3, _⟩ := blk4 h4
 obtain ⟨p0, p1, p2⟩ := blk3' h5
 have hPE : tPutE ty x D M = if fitE ty x ≠ 0 then fitE ty x else capsE x D M := rfl
 obtain ⟨T, hTT⟩ : ∃ T, (if tPutE ty x D M = 0 then (⟨x.rlp.toArray⟩ : ByteArray) else ⟨#[]⟩) = T := ⟨_, rfl⟩
 rw [hTT]
 have HW := Lib.hid hW
 obtain ⟨A, cap, rfl, rfl, rfl, rfl, _⟩ := hT.open_
 obtain ⟨A', cap', rfl, rfl, rfl, _⟩ := hI.open_
 generalize tPutE ty x D M = E at *
 generalize (⟨x.rlp.toArray⟩ : ByteArray) = S at *
 generalize fitE ty x = E0 at *
 generalize capsE x D M = E1 at *
 clear h4 h5 hz hb hW hT hI hT2 hI2 hl hct hci
 rcases beq0 E0 with ⟨he, k1, k2⟩ | ⟨he, k1, k2⟩
 ·subst he
  rw [if_neg (by simp)] at hPE
  subst hPE
  rcases beq0 E with ⟨he, k3, k4⟩ | ⟨he, k3, k4⟩
  ·subst he
   obtain rfl : S = T := by simpa using hTT
   clear hTT
   go_enter Tryz.func36, Tryz.ntmps36
   go_wp2_with fail
   rw [HW.out]
   refine HC1.out.mono ?_
   rintro e w1 ⟨rfl, hb1⟩
   obtain ⟨p0, p1, p2⟩ := blk3' (HK.out w1 hb1).1
   have HB1 := Lib.hid hb1
   clear hb1
   go_wp2_with fail
   refine (HC2.out _ HB1.out).mono ?_
   rintro e w2 ⟨rfl, hb2⟩
   have HB2 := Lib.hid (HB1.out.trans (hb2.mono HB1.out.size))
   obtain ⟨r0, r1, r2⟩ := blk3' (HK.out w2 HB2.out).1
   clear hb2
   go_wp2_with fail
   refine (HC3.out _ HB2.out).mono ?_
   rintro e w3 ⟨rfl, hb3⟩
   have HB3 := Lib.hid ((HK.out w2 HB2.out).2.trans (hb3.mono (HK.out w2 HB2.out).2.size))
   clear hb3
   go_wp2
   go_ret2
   exact ⟨rfl, HB3.out⟩
  ·obtain rfl : T = ⟨#[]⟩ := by rw [if_neg he] at hTT; exact hTT.symm
   clear hTT
   go_enter Tryz.func36, Tryz.ntmps36
   go_wp2_with fail
   rw [HW.out]
   refine HC1.out.mono ?_
   rintro e w1 ⟨rfl, hb1⟩
   obtain ⟨p0, p1, p2⟩ := blk3' (HK.out w1 hb1).1
   have HB1 := Lib.hid hb1
   clear hb1
   go_wp2_with fail
   refine (HC2.out _ HB1.out).mono ?_
   rintro e w2 ⟨rfl, hb2⟩
   have HB2 := Lib.hid (HB1.out.trans (hb2.mono HB1.out.size))
   obtain ⟨r0, r1, r2⟩ := blk3' (HK.out w2 HB2.out).1
   clear hb2
   go_wp2_with fail
   go_ret2
   exact ⟨rfl, (HK.out _ HB2.out).2⟩
 ·rw [if_pos he] at hPE
  subst hPE
  obtain rfl : T = ⟨#[]⟩ := by rw [if_neg he] at hTT; exact hTT.symm
  clear hTT
  go_enter Tryz.func36, Tryz.ntmps36
  go_wp2_with fail
  rw [HW.out]
  refine HC1.out.mono ?_
  rintro e w1 ⟨rfl, hb1⟩
  obtain ⟨p0, p1, p2⟩ := blk3' (HK.out w1 hb1).1
  have HB1 := Lib.hid hb1
  clear hb1
  go_wp2
  go_ret2
  exact ⟨rfl, (HK.out _ HB1.out).2⟩
end Go.Proofs.YtnfpgadegpmhkaaGreatDoor
