/- hatchwaylaw23.LayoutCuts: a layout of a type without a tail, cut anywhere, is short. -/
import Derived.Test.YtcppbdbbgakfcaaGreatDoorKA26
import Derived.Test.YtcppbdbbgakfcaaGreatDoorKA40
import Derived.Test.YtcppbdbbgakfcaaGreatDoorKA37
import Derived.Test.YtcppbdbbgakfcaaGreatDoorKA43
import Derived.Test.YtcppbdbbgakfcaaGreatDoorKA16
import Derived.Test.YtcppbdbbgakfcaaGreatDoorKA30
set_option linter.unusedVariables false
set_option linter.unusedSimpArgs false
set_option maxRecDepth 100000
set_option maxHeartbeats 3200000
namespace Go.Proofs.YtcppbdbbgakfcaaGreatDoor
open Go.RowKit
theorem layoutCuts_w (ty : Ty) (t0 t1 t2 t3 : Value) (x : It) (c0 c1 c2 : Value) (cut : Nat) (w : World) (hT : TyIn w w.heap.size ty t0 t1 t2 t3) (hI : ItIn w w.heap.size x c0 c1 c2) (hcut : cut ≤ 65535) (hL : Laid w) (hLC : LaidC w) :
 Calls Tryz.prog 3 #[.agg #[t0, t1, t2, t3], .agg #[c0, c1, c2], .int .u16 cut] w fun e w' => e = .returned (.bool true) ∧ Below w.heap.size w w' := by
 obtain ⟨W0, hW0⟩ : ∃ W0, (w.alloc (.cells #[t0, t1, t2, t3] 24)).alloc (.cells #[c0, c1, c2] 27) = W0 := ⟨_, rfl⟩
 obtain ⟨hz0, hb0, _, _⟩ := box2 hW0
 have HA := Lib.hid (alive23_c W0 (hL.below hb0 hL.pos) (hLC.below hb0 hLC.pos))
 have HU : Hid (∀ V, Below (w.heap.size + 2) W0 V → LyU w W0 V ty x t0 t1 t2 t3 c0 c1 c2) := Lib.hid (fun V hV => LyU.mk' hW0 hT hI hL hLC hV)
 have HG1 : Hid (∀ V, Below (w.heap.size + 2) W0 V → Calls Tryz.prog 7 #[.agg #[t0, t1, t2, t3]] V fun e w' => e = .returned (.bool ty.great) ∧ Below V.heap.size V w') := Lib.hid (fun V hV => great20_c ty w.heap.size V _ _ _ _ (HU.out V hV).ty (by have := (HU.out V hV).siz; omega))
 have HG2 : Hid (∀ V, Below (w.heap.size + 2) W0 V → Calls Tryz.prog 8 #[.agg #[c0, c1, c2]] V fun e w' => e = .returned (.bool x.great) ∧ Below V.heap.size V w') := Lib.hid (fun V hV => great_c x w.heap.size V _ _ _ (HU.out V hV).it (by have := (HU.out V hV).siz; omega))
 have HW0 := Lib.hid hW0
 have HZ0 := Lib.hid hz0
 obtain ⟨gt, hgt⟩ : ∃ gt, ty.great = gt := ⟨_, rfl⟩
 obtain ⟨gi, hgi⟩ : ∃ gi, x.great = gi := ⟨_, rfl⟩
 rw [hgt] at HG1
 rw [hgi] at HG2
 have HGT := Lib.hid hgt
 have HGI := Lib.hid hgi
 obtain ⟨A, cap, rfl, rfl, rfl, rfl, _⟩ := hT.open_
 obtain ⟨A', cap', rfl, rfl, rfl, _⟩ := hI.open_
 clear hgt hgi hT hI hW0 hb0 hL hLC hz0
 generalize htt : ty.tail = tta at *
 have HTT := Lib.hid htt
 clear htt
 go_enter Tryz.func3, Tryz.ntmps3
 go_wp2_with fail
 rw [HW0.out]
 refine HA.out.mono ?_
 rintro e w1 ⟨rfl, hb1⟩
 have HB1 : Hid (Below (w.heap.size + 2) W0 w1) := Lib.hid (hb1.mono (by have := HZ0.out; omega))
 clear hb1
 obtain ⟨q0, q1, q2, q3, _⟩ := blk4 (HU.out w1 HB1.out).b4
 obtain ⟨p0, p1, p2⟩ := blk3' (HU.out w1 HB1.out).b5
 have hsz := (HU.out w1 HB1.out).siz
 go_wp2_with fail
 refine (HG1.out w1 HB1.out).mono ?_
 rintro e w2 ⟨rfl, hb2⟩
 have HB2 : Hid (Below (w.heap.size + 2) W0 w2) := Lib.hid (HB1.out.trans (hb2.mono hsz))
 clear hb2
 clear q0 q1 q2 q3 p0 p1 p2 hsz
 cases gt with
 | true =>
  go_wp2
  go_ret
  exact ⟨rfl, (HU.out w2 HB2.out).bel⟩
 | false =>
  obtain ⟨q0, q1, q2, q3, _⟩ := blk4 (HU.out w2 HB2.out).b4
  obtain ⟨p0, p1, p2⟩ := blk3' (HU.out w2 HB2.out).b5
  have hsz := (HU.out w2 HB2.out).siz
  go_wp2_with fail
  refine (HG2.out w2 HB2.out).mono ?_
  rintro e w3 ⟨rfl, hb3⟩
  have HB3 : Hid (Below (w.heap.size + 2) W0 w3) := Lib.hid (HB2.out.trans (hb3.mono hsz))
  clear hb3
  clear q0 q1 q2 q3 p0 p1 p2 hsz
  cases gi with
  | true =>
   go_wp2
   go_ret
   exact ⟨rfl, (HU.out w3 HB3.out).bel⟩
  | false =>
   rcases beq0 tta with ⟨hta, k1, k2⟩ | ⟨hta, k1, k2⟩
   ·subst hta
    have hct := greatTy_count ty HGT.out
    have hci := great_count x HGI.out
    have HP2 := Lib.hid (fun V hV => refLyPut_c ty x 1024 w.heap.size V _ _ _ _ _ _ _ (HU.out V hV).ty (HU.out V hV).it (by have := (HU.out V hV).siz; omega) (by omega) (by omega))
    have HLB : Hid ((lyPut ty x 1024).2 = 0 → (lyPut ty x 1024).1.size ≤ 1099511627776 ∧ ∀ c, c < (lyPut ty x 1024).1.size → lyNext ty ((lyPut ty x 1024).1.extract 0 c) 1024 = (2, noIt, 0)) := Lib.hid (fun h => by
     have hE : lyPutE ty x 1024 = 0 := by
      unfold lyPut at h
      by_cases h0 : lyPutE ty x 1024 = 0
      ·exact h0
      ·rw [if_neg h0] at h; exact absurd h h0
     have hS : (lyPut ty x 1024).1 = ⟨(x.lay ty).toArray⟩ := by unfold lyPut; rw [if_pos hE]
     obtain ⟨h1, h2, h3⟩ := put_parts hE
     obtain ⟨_, p2, p3, _, p5⟩ := flat_parts h1
     obtain ⟨_, q2, q3⟩ := fit_parts h2
     obtain ⟨r1, r2, r3⟩ := mayIt_parts q2
     have hll := lay_len x ty p2 q3
     refine ⟨by rw [hS, size_of]; omega, fun c hc => lyNext_cut ty x hE HTT.out _ c (by rw [hS, size_of] at hc; exact hc) ?_⟩
     rw [toList_cut, hS]
     simp)
    have HNX := Lib.hid (fun s hz V hV => lyNext_c ty s 1024 w.heap.size V _ _ _ _ (HU.out V hV).ty (by have := (HU.out V hV).siz; omega) (HU.out V hV).laid (HU.out V hV).laidC hz)
    obtain ⟨E, hE⟩ : ∃ E, (lyPut ty x 1024).2 = E := ⟨_, rfl⟩
    obtain ⟨S, hS⟩ : ∃ S, (lyPut ty x 1024).1 = S := ⟨_, rfl⟩
    simp only [hE, hS] at HP2 HLB
    clear hE hS hct hci
    obtain ⟨q0, q1, q2, q3, _⟩ := blk4 (HU.out w3 HB3.out).b4
    obtain ⟨p0, p1, p2⟩ := blk3' (HU.out w3 HB3.out).b5
    have hsz := (HU.out w3 HB3.out).siz
    go_wp2_with fail
    refine (HP2.out w3 HB3.out).mono ?_
    rintro e w4 ⟨rfl, hb4⟩
    have HB4 : Hid (Below (w.heap.size + 2) W0 w4) := Lib.hid (HB3.out.trans (hb4.mono hsz))
    clear hb4
    clear q0 q1 q2 q3 p0 p1 p2 hsz
    rcases beq0 E with ⟨he, j1, j2⟩ | ⟨he, j1, j2⟩
    ·subst he
     obtain ⟨g1, g2⟩ := HLB.out rfl
     rcases empty_ways S with ⟨hs0, m1, m2⟩ | ⟨hs0, m1, m2⟩
     ·go_wp2
      go_ret
      exact ⟨rfl, (HU.out w4 HB4.out).bel⟩
     ·have hz1 : ¬ ((S.size : Int) = 0) := by omega
      have hz2 : ((S.size : Int) == 0) = false := beq_eq_false_iff_ne.2 hz1
      obtain ⟨kc, hkc⟩ : ∃ kc, cut % S.size = kc := ⟨_, rfl⟩
      have hkl : kc < S.size := by rw [← hkc]; exact Nat.mod_lt _ (by omega)
      have hkle : kc ≤ S.size := by omega
      have em : (cut : Int).tmod (S.size : Int) = kc := by rw [← hkc, Int.tmod_eq_emod_of_nonneg (by omega)]; rfl
      have ewc : IntKind.i64.wrap (cut : Int) = cut := IntWalk.i64_in _ (by omega)
      have ewk : IntKind.i64.wrap (kc : Int) = kc := IntWalk.i64_in _ (by omega)
      have hNX := fun V hV => HNX.out (S.extract 0 kc) (by rw [size_cut S 0 kc (by omega)]; omega) V hV
      rw [g2 kc hkl] at hNX
      obtain ⟨X, hX⟩ : ∃ X, noIt = X := ⟨_, rfl⟩
      rw [hX] at hNX
      have HNY := Lib.hid hNX
      have HXX := Lib.hid hX
      clear hX
      clear hNX hkc
      have HSS : Hid (∀ V, Below (w.heap.size + 2) W0 V → V.cell? ⟨w.heap.size, 0, none⟩ = some (.int .i64 ty.kind) ∧ V.cell? ⟨w.heap.size, 1, none⟩ = some (.int .i64 ty.size) ∧ V.cell? ⟨w.heap.size, 2, none⟩ = some (.slice A ty.sub.length cap) ∧ V.cell? ⟨w.heap.size, 3, none⟩ = some (.int .i64 0)) := Lib.hid (fun V hV => ⟨(HU.out V hV).b4.cell 0, (HU.out V hV).b4.cell 1, (HU.out V hV).b4.cell 2, (HU.out V hV).b4.cell 3⟩)
      go_wp2_with fail
      refine wp_region_last 16 (fun V => Below (w.heap.size + 2) W0 V) (by kernel_rfl) (by kernel_rfl) ?_
      have hHeld : (fun V => Below (w.heap.size + 2) W0 V) w4.drew := HB4.out.drew
      refine GT.take (i := 0) (v := ?_) (by simp only [List.getElem?_toArray, List.getElem?_cons_zero, List.getElem?_cons_succ]; rfl) (by kernel_rfl) (by kernel_rfl) (by kernel_rfl) (by kernel_rfl) (by intro _ _ _ h; exact h) (Or.inl ⟨by rfl, ?_⟩) hHeld ?_
      rotate_left
      ·intro V hV
       obtain ⟨z0, z1, z2, z3⟩ := HSS.out V hV
       (first | (go_simp; done) | (go_simp; with_reducible rfl))
      try simp only [Act.put, List.setIfInBounds_toArray, List.set_cons_zero, List.set_cons_succ]
      refine GT.take (i := 1) (v := ?_) (by simp only [List.getElem?_toArray, List.getElem?_cons_zero, List.getElem?_cons_succ]; rfl) (by kernel_rfl) (by kernel_rfl) (by kernel_rfl) (by kernel_rfl) (by intro _ _ _ h; exact h) (Or.inl ⟨by rfl, ?_⟩) hHeld ?_
      rotate_left
      ·intro V hV
       (try dsimp only at hV)
       (first | (go_simp; done) | (go_simp; with_reducible rfl))
      try simp only [Act.put, List.setIfInBounds_toArray, List.set_cons_zero, List.set_cons_succ]
      refine GT.take (i := 2) (v := ?_) (by simp only [List.getElem?_toArray, List.getElem?_cons_zero, List.getElem?_cons_succ]; rfl) (by kernel_rfl) (by kernel_rfl) (by kernel_rfl) (by kernel_rfl) (by intro _ _ _ h; exact h) (Or.inl ⟨by rfl, ?_⟩) hHeld ?_
      rotate_left
      ·intro V hV
       (try dsimp only at hV)
       (first | (go_simp; done) | (go_simp; with_reducible rfl))
      try simp only [Act.put, List.setIfInBounds_toArray, List.set_cons_zero, List.set_cons_succ]
      refine GT.take (i := 3) (v := ?_) (by simp only [List.getElem?_toArray, List.getElem?_cons_zero, List.getElem?_cons_succ]; rfl) (by kernel_rfl) (by kernel_rfl) (by kernel_rfl) (by kernel_rfl) (by intro _ _ _ h; exact h) (Or.inl ⟨by rfl, ?_⟩) hHeld ?_
      rotate_left
      ·intro V hV
       (try dsimp only at hV)
       (first | (go_simp; done) | (go_simp; with_reducible rfl))
      try simp only [Act.put, List.setIfInBounds_toArray, List.set_cons_zero, List.set_cons_succ]
      refine GT.take (i := 4) (v := ?_) (by simp only [List.getElem?_toArray, List.getElem?_cons_zero, List.getElem?_cons_succ]; rfl) (by kernel_rfl) (by kernel_rfl) (by kernel_rfl) (by kernel_rfl) (by intro _ _ _ h; exact h) (Or.inl ⟨by rfl, ?_⟩) hHeld ?_
      rotate_left
      ·intro V hV
       (try dsimp only at hV)
       (first | (go_simp; done) | (go_simp; with_reducible rfl))
      try simp only [Act.put, List.setIfInBounds_toArray, List.set_cons_zero, List.set_cons_succ]
      refine GT.take (i := 5) (v := ?_) (by simp only [List.getElem?_toArray, List.getElem?_cons_zero, List.getElem?_cons_succ]; rfl) (by kernel_rfl) (by kernel_rfl) (by kernel_rfl) (by kernel_rfl) (by intro _ _ _ h; exact h) (Or.inl ⟨by rfl, ?_⟩) hHeld ?_
      rotate_left
      ·intro V hV
       (try dsimp only at hV)
       (first | (go_simp; done) | (go_simp; with_reducible rfl))
      try simp only [Act.put, List.setIfInBounds_toArray, List.set_cons_zero, List.set_cons_succ]
      refine GT.take (i := 6) (v := ?_) (by simp only [List.getElem?_toArray, List.getElem?_cons_zero, List.getElem?_cons_succ]; rfl) (by kernel_rfl) (by kernel_rfl) (by kernel_rfl) (by kernel_rfl) (by intro _ _ _ h; exact h) (Or.inl ⟨by rfl, ?_⟩) hHeld ?_
      rotate_left
      ·intro V hV
       (try dsimp only at hV)
       (first | (go_simp; done) | (go_simp; with_reducible rfl))
      try simp only [Act.put, List.setIfInBounds_toArray, List.set_cons_zero, List.set_cons_succ]
      refine GT.take (i := 7) (v := ?_) (by simp only [List.getElem?_toArray, List.getElem?_cons_zero, List.getElem?_cons_succ]; rfl) (by kernel_rfl) (by kernel_rfl) (by kernel_rfl) (by kernel_rfl) (by intro _ _ _ h; exact h) (Or.inl ⟨by rfl, ?_⟩) hHeld ?_
      rotate_left
      ·intro V hV
       (try dsimp only at hV)
       (first | (go_simp; done) | (go_simp; with_reducible rfl))
      try simp only [Act.put, List.setIfInBounds_toArray, List.set_cons_zero, List.set_cons_succ]
      refine GT.two (i := 8) (j := 13) (by simp only [List.getElem?_toArray, List.getElem?_cons_zero, List.getElem?_cons_succ]; rfl) (by simp only [List.getElem?_toArray, List.getElem?_cons_zero, List.getElem?_cons_succ]; rfl) (by kernel_rfl) (by kernel_rfl) (by kernel_rfl) (fun K hK => ?_) (fun K hK => ?_)
      ·go_simp
       go_at_call 10
       refine (HNY.out _ hHeld).mono ?_
       rintro e w5 ⟨hb5, d0, d1, d2, rfl, hy⟩
       simp only at hy ⊢
       have HB5 : Hid (Below (w.heap.size + 2) W0 w5) := Lib.hid (hHeld.trans (hb5.mono (HU.out _ hHeld).siz))
       obtain ⟨ax, bx, rfl, rfl, rfl, _⟩ := hy.open_
       obtain ⟨W6, hW6⟩ : ∃ W6, w5.alloc (.cells #[.string X.text, .bool X.list, .slice ax X.sub.length bx] 27) = W6 := ⟨_, rfl⟩
       obtain ⟨b6a, b6b, b6c⟩ := box3 hW6.symm
       have HB6 : Hid (Below (w.heap.size + 2) W0 W6) := Lib.hid (HB5.out.trans (b6a.mono (HU.out w5 HB5.out).siz))
       have HSM := Lib.hid (refSame_c X W6.heap.size W6 _ _ _ ((hy.below b6a).toIn) (Nat.le_refl _) noIt _ _ _ ((noIt_S W6 (fun _ => True)).toIn))
       have HW6 := Lib.hid hW6
       have hb6' : Below (w.heap.size + 2) W0 (w5.alloc (.cells #[.string ⟨#[]⟩, .bool false, .slice none 0 0] 27)) := HB5.out.alloc (HU.out w5 HB5.out).siz _
       clear hb5 hy hW6 b6a b6b
       go_wp2_with fail
       refine hK.out _ _ HB5.out (fun hHeld => ?_)
       clear hK K
       try simp only [Act.put, List.setIfInBounds_toArray, List.set_cons_zero, List.set_cons_succ]
       refine GT.take (i := 9) (v := ?_) (by simp only [List.getElem?_toArray, List.getElem?_cons_zero, List.getElem?_cons_succ]; rfl) (by kernel_rfl) (by kernel_rfl) (by kernel_rfl) (by kernel_rfl) (by intro _ _ _ h; exact h) (Or.inl ⟨by rfl, ?_⟩) hHeld ?_
       rotate_left
       ·intro V hV
        (try dsimp only at hV)
        (first | (go_simp; done) | (go_simp; with_reducible rfl))
       try simp only [Act.put, List.setIfInBounds_toArray, List.set_cons_zero, List.set_cons_succ]
       refine GT.take (i := 10) (v := ?_) (by simp only [List.getElem?_toArray, List.getElem?_cons_zero, List.getElem?_cons_succ]; rfl) (by kernel_rfl) (by kernel_rfl) (by kernel_rfl) (by kernel_rfl) (by intro _ _ _ h; exact h) (Or.inl ⟨by rfl, ?_⟩) hHeld ?_
       rotate_left
       ·intro V hV
        (try dsimp only at hV)
        (first | (go_simp; done) | (go_simp; with_reducible rfl))
       try simp only [Act.put, List.setIfInBounds_toArray, List.set_cons_zero, List.set_cons_succ]
       refine GT.take (i := 11) (v := ?_) (by simp only [List.getElem?_toArray, List.getElem?_cons_zero, List.getElem?_cons_succ]; rfl) (by kernel_rfl) (by kernel_rfl) (by kernel_rfl) (by kernel_rfl) (by intro _ _ _ h; exact h) (Or.inl ⟨by rfl, ?_⟩) hHeld ?_
       rotate_left
       ·intro V hV
        (try dsimp only at hV)
        (first | (go_simp; done) | (go_simp; with_reducible rfl))
       try simp only [Act.put, List.setIfInBounds_toArray, List.set_cons_zero, List.set_cons_succ]
       refine GT.take (i := 12) (v := ?_) (by simp only [List.getElem?_toArray, List.getElem?_cons_zero, List.getElem?_cons_succ]; rfl) (by kernel_rfl) (by kernel_rfl) (by kernel_rfl) (by kernel_rfl) (by intro _ _ _ h; exact h) (Or.inl ⟨by rfl, ?_⟩) hHeld ?_
       rotate_left
       ·intro V hV
        (try dsimp only at hV)
        (first | (go_simp; done) | (go_simp; with_reducible rfl))
       try simp only [Act.put, List.setIfInBounds_toArray, List.set_cons_zero, List.set_cons_succ]
       refine GT.step (i := 13) (by simp only [List.getElem?_toArray, List.getElem?_cons_zero, List.getElem?_cons_succ]; rfl) (by kernel_rfl) (by kernel_rfl) (fun K hK => ?_)
       go_simp
       refine hK.out _ _ hb6' (fun hHeld => ?_)
       clear hK K
       try simp only [Act.put, List.setIfInBounds_toArray, List.set_cons_zero, List.set_cons_succ]
       refine GT.step (i := 14) (by simp only [List.getElem?_toArray, List.getElem?_cons_zero, List.getElem?_cons_succ]; rfl) (by kernel_rfl) (by kernel_rfl) (fun K hK => ?_)
       go_simp
       rw [HW6.out]
       refine hK.out _ _ HB6.out (fun hHeld => ?_)
       clear hK K
       try simp only [Act.put, List.setIfInBounds_toArray, List.set_cons_zero, List.set_cons_succ]
       refine GT.take (i := 15) (v := ?_) (by simp only [List.getElem?_toArray, List.getElem?_cons_zero, List.getElem?_cons_succ]; rfl) (by kernel_rfl) (by kernel_rfl) (by kernel_rfl) (by kernel_rfl) (by intro _ _ _ h; exact h) (Or.inl ⟨by rfl, ?_⟩) hHeld ?_
       rotate_left
       ·intro V hV
        (try dsimp only at hV)
        (first | (go_simp; done) | (go_simp; with_reducible rfl))
       try simp only [Act.put, List.setIfInBounds_toArray, List.set_cons_zero, List.set_cons_succ]
       refine GT.last (i := 16) (by simp only [List.getElem?_toArray, List.getElem?_cons_zero, List.getElem?_cons_succ]; rfl) (by kernel_rfl) (by kernel_rfl) (by kernel_rfl) ?_
       go_simp
       obtain ⟨y0, y1, y2, _⟩ := blk3 b6c
       go_wp2_with fail
       refine HSM.out.mono ?_
       rintro e w7 ⟨⟨r, rfl, hr⟩, hb7⟩
       obtain rfl : r = true := hr.2 HXX.out.symm
       have HB7 : Hid (Below (w.heap.size + 2) W0 w7) := Lib.hid (HB6.out.trans (hb7.mono (HU.out W6 HB6.out).siz))
       clear hb7
       go_wp2
       go_ret
       exact ⟨rfl, (HU.out w7 HB7.out).bel⟩
      ·go_simp
       have hsw4 := (HU.out _ hHeld).siz
       have hb5 : Below (w.heap.size + 2) W0 (w4.drew.alloc (.cells #[.string ⟨#[]⟩, .bool false, .slice none 0 0] 27)) := hHeld.alloc hsw4 _
       have hn5 : Blk (w4.drew.alloc (.cells #[.string ⟨#[]⟩, .bool false, .slice none 0 0] 27)) w4.heap.size 27 #[.string ⟨#[]⟩, .bool false, .slice none 0 0] := Blk.new w4.drew _ _
       refine hK.out _ _ hb5 (fun hHeld => ?_)
       clear hK K
       try simp only [Act.put, List.setIfInBounds_toArray, List.set_cons_zero, List.set_cons_succ]
       refine GT.step (i := 8) (by simp only [List.getElem?_toArray, List.getElem?_cons_zero, List.getElem?_cons_succ]; rfl) (by kernel_rfl) (by kernel_rfl) (fun K hK => ?_)
       go_simp
       go_at_call 10
       refine (HNY.out _ hb5).mono ?_
       rintro e w6 ⟨hb6, d0, d1, d2, rfl, hy⟩
       simp only at hy ⊢
       have HB6 : Hid (Below (w.heap.size + 2) W0 w6) := Lib.hid (hb5.trans (hb6.mono (HU.out _ hb5).siz))
       obtain ⟨ax, bx, rfl, rfl, rfl, _⟩ := hy.open_
       have h6 := hn5.keep hb6 (by simp)
       have hlt6 : w4.heap.size < w6.heap.size := h6.lt
       obtain ⟨n0, n1, n2, m0, m1, m2⟩ := blk3 h6
       have h7 := put3 h6 (.string X.text) (.bool X.list) (.slice ax X.sub.length bx)
       have hb7 : Below (w.heap.size + 2) W0 (((w6.setCell ⟨w4.heap.size, 0, none⟩ (.string X.text)).setCell ⟨w4.heap.size, 1, none⟩ (.bool X.list)).setCell ⟨w4.heap.size, 2, none⟩ (.slice ax X.sub.length bx)) := (((HB6.out.setCell hsw4 _).setCell hsw4 _).setCell hsw4 _)
       have hy7 := hy.only (L := [w4.heap.size]) (S' := fun _ => True) ((((Only.refl _ w6).setCell (p := ⟨w4.heap.size, 0, none⟩) (by simp) (.string X.text)).setCell (p := ⟨w4.heap.size, 1, none⟩) (by simp) (.bool X.list)).setCell (p := ⟨w4.heap.size, 2, none⟩) (by simp) (.slice ax X.sub.length bx)) (by simp) (fun _ _ _ => trivial)
       have HSM := Lib.hid (refSame_c X _ _ _ _ _ hy7.toIn (Nat.le_refl _) noIt _ _ _ ((noIt_S _ (fun _ => True)).toIn))
       have HB7 := Lib.hid hb7
       clear hy hb6 hy7
       go_wp2_with fail
       refine hK.out _ _ HB6.out (fun hHeld => ?_)
       clear hK K
       try simp only [Act.put, List.setIfInBounds_toArray, List.set_cons_zero, List.set_cons_succ]
       refine GT.take (i := 9) (v := ?_) (by simp only [List.getElem?_toArray, List.getElem?_cons_zero, List.getElem?_cons_succ]; rfl) (by kernel_rfl) (by kernel_rfl) (by kernel_rfl) (by kernel_rfl) (by intro _ _ _ h; exact h) (Or.inl ⟨by rfl, ?_⟩) hHeld ?_
       rotate_left
       ·intro V hV
        (try dsimp only at hV)
        (first | (go_simp; done) | (go_simp; with_reducible rfl))
       try simp only [Act.put, List.setIfInBounds_toArray, List.set_cons_zero, List.set_cons_succ]
       refine GT.take (i := 10) (v := ?_) (by simp only [List.getElem?_toArray, List.getElem?_cons_zero, List.getElem?_cons_succ]; rfl) (by kernel_rfl) (by kernel_rfl) (by kernel_rfl) (by kernel_rfl) (by intro _ _ _ h; exact h) (Or.inl ⟨by rfl, ?_⟩) hHeld ?_
       rotate_left
       ·intro V hV
        (try dsimp only at hV)
        (first | (go_simp; done) | (go_simp; with_reducible rfl))
       try simp only [Act.put, List.setIfInBounds_toArray, List.set_cons_zero, List.set_cons_succ]
       refine GT.take (i := 11) (v := ?_) (by simp only [List.getElem?_toArray, List.getElem?_cons_zero, List.getElem?_cons_succ]; rfl) (by kernel_rfl) (by kernel_rfl) (by kernel_rfl) (by kernel_rfl) (by intro _ _ _ h; exact h) (Or.inl ⟨by rfl, ?_⟩) hHeld ?_
       rotate_left
       ·intro V hV
        (try dsimp only at hV)
        (first | (go_simp; done) | (go_simp; with_reducible rfl))
       try simp only [Act.put, List.setIfInBounds_toArray, List.set_cons_zero, List.set_cons_succ]
       refine GT.take (i := 12) (v := ?_) (by simp only [List.getElem?_toArray, List.getElem?_cons_zero, List.getElem?_cons_succ]; rfl) (by kernel_rfl) (by kernel_rfl) (by kernel_rfl) (by kernel_rfl) (by intro _ _ _ h; exact h) (Or.inl ⟨by rfl, ?_⟩) hHeld ?_
       rotate_left
       ·intro V hV
        (try dsimp only at hV)
        (first | (go_simp; done) | (go_simp; with_reducible rfl))
       try simp only [Act.put, List.setIfInBounds_toArray, List.set_cons_zero, List.set_cons_succ]
       refine GT.step (i := 14) (by simp only [List.getElem?_toArray, List.getElem?_cons_zero, List.getElem?_cons_succ]; rfl) (by kernel_rfl) (by kernel_rfl) (fun K hK => ?_)
       go_simp
       refine hK.out _ _ HB7.out (fun hHeld => ?_)
       clear hK K
       try simp only [Act.put, List.setIfInBounds_toArray, List.set_cons_zero, List.set_cons_succ]
       refine GT.take (i := 15) (v := ?_) (by simp only [List.getElem?_toArray, List.getElem?_cons_zero, List.getElem?_cons_succ]; rfl) (by kernel_rfl) (by kernel_rfl) (by kernel_rfl) (by kernel_rfl) (by intro _ _ _ h; exact h) (Or.inl ⟨by rfl, ?_⟩) hHeld ?_
       rotate_left
       ·intro V hV
        (try dsimp only at hV)
        (first | (go_simp; done) | (go_simp; with_reducible rfl))
       try simp only [Act.put, List.setIfInBounds_toArray, List.set_cons_zero, List.set_cons_succ]
       refine GT.last (i := 16) (by simp only [List.getElem?_toArray, List.getElem?_cons_zero, List.getElem?_cons_succ]; rfl) (by kernel_rfl) (by kernel_rfl) (by kernel_rfl) ?_
       go_simp
       generalize hW7 : ((w6.setCell ⟨w4.heap.size, 0, none⟩ (.string X.text)).setCell ⟨w4.heap.size, 1, none⟩ (.bool X.list)).setCell ⟨w4.heap.size, 2, none⟩ (.slice ax X.sub.length bx) = W7 at *
       obtain ⟨y0, y1, y2, _⟩ := blk3 h7
       clear hW7 h7 h6 hn5 n0 n1 n2 m0 m1 m2
       go_wp2_with fail
       refine HSM.out.mono ?_
       rintro e w8 ⟨⟨r, rfl, hr⟩, hb8⟩
       obtain rfl : r = true := hr.2 HXX.out.symm
       have HB8 : Hid (Below (w.heap.size + 2) W0 w8) := Lib.hid (HB7.out.trans (hb8.mono (HU.out W7 HB7.out).siz))
       clear hb8
       go_wp2
       go_ret
       exact ⟨rfl, (HU.out w8 HB8.out).bel⟩
    ·go_wp2
     go_ret
     exact ⟨rfl, (HU.out w4 HB4.out).bel⟩
   ·obtain ⟨q0, q1, q2, q3, _⟩ := blk4 (HU.out w3 HB3.out).b4
    obtain ⟨p0, p1, p2⟩ := blk3' (HU.out w3 HB3.out).b5
    have hsz := (HU.out w3 HB3.out).siz
    go_wp2
    go_ret
    exact ⟨rfl, (HU.out w3 HB3.out).bel⟩
theorem layoutCuts_row (ty : Ty) (t0 t1 t2 t3 : Value) (x : It) (c0 c1 c2 : Value) (cut : Int) (w : World) (hT : TyIn w w.heap.size ty t0 t1 t2 t3) (hI : ItIn w w.heap.size x c0 c1 c2) (h3 : (Lit.int .u16 cut).wf = true) (hL : Laid w ∧ LaidC w) :
 Calls Tryz.prog 3 #[.agg #[t0, t1, t2, t3], .agg #[c0, c1, c2], .int .u16 cut] w fun e w' => e = .returned (.bool true) ∧ Below w.heap.size w w' := by
 have h4 : 0 ≤ cut ∧ cut ≤ 65535 := by simpa [Lit.wf, IntKind.min, IntKind.max, IntKind.signed, IntKind.bits] using h3
 obtain ⟨c, rfl⟩ : ∃ c : Nat, cut = c := ⟨cut.toNat, by omega⟩
 exact layoutCuts_w ty t0 t1 t2 t3 x c0 c1 c2 c w hT hI (by omega) hL.1 hL.2
end Go.Proofs.YtcppbdbbgakfcaaGreatDoor
