/- The document's Fits. -/
import Derived.Test.YtnfpgadegpmhkaaGreatDoorKA27
import Derived.Test.YtnfpgadegpmhkaaGreatDoorKA9
import Derived.Test.YtnfpgadegpmhkaaGreatDoorKA10
set_option linter.unusedVariables false
set_option linter.unusedSimpArgs false
set_option maxRecDepth 100000
set_option maxHeartbeats 3200000
namespace Go.Proofs.YtnfpgadegpmhkaaGreatDoor
open Go.RowKit
theorem is_c : ∀ (x : It) (B : Nat) (w : World) (c0 c1 c2 : Value), ItIn w B x c0 c1 c2 → B ≤ w.heap.size → x.right = true → ∀ (ty : Ty) (t0 t1 t2 t3 : Value), TyIn w B ty t0 t1 t2 t3 → ty.right = true →
 Calls Tryz.prog 82 #[.agg #[t0, t1, t2, t3], .agg #[c0, c1, c2]] w fun e w' => e = .returned (.bool (x.isOf ty)) ∧ Below w.heap.size w w' := by
 intro x
 induction x using It.ind with
 | h t l s ih =>
  intro B w c0 c1 c2 h hB hr ty t0 t1 t2 t3 hT htr
  obtain ⟨rfl, rfl, ht, hs, A, cap, rfl, hcap, hcm, hsub⟩ := h
  have IH := Lib.hid ih
  have HS := Lib.hid hsub
  clear ih hsub
  obtain ⟨k, z, tl, ta⟩ := ty
  obtain ⟨rfl, rfl, rfl, hk, hz, hta, htl, A', cap', rfl, htc, htm, htys⟩ := hT
  obtain ⟨hok, hrt⟩ := right_ok htr
  have HRT := Lib.hid hr
  have HTS := Lib.hid htys
  have HTR := Lib.hid hrt
  have HR : Hid ((It.mk t l s).isOf (Ty.mk k z tl ta) = (is1 (Ty.mk k z tl ta) t l s.length && isOfL s (Ty.mk k z tl ta) 0)) := Lib.hid (by simp only [It.isOf])
  generalize (It.mk t l s).isOf (Ty.mk k z tl ta) = R at *
  unfold okI at hk hz hta
  clear hr htys hrt htr
  have hleaf : ∀ k : Int, (k = 1 ∨ k = 2 ∨ k = 3) → (is1 (Ty.mk k z tl ta) t l s.length && isOfL s (Ty.mk k z tl ta) 0) = is1 (Ty.mk k z tl ta) t l s.length := fun k hk => by
   cases hb : is1 (Ty.mk k z tl ta) t l s.length with
   | false => rfl
   | true => rw [text_nil hb HRT.out hk]; rfl
  rcases ok_ways hok with ⟨rfl, h3, hn, rfl⟩ | ⟨rfl, h3, h4, hn, rfl⟩ | ⟨rfl, h3, h4, hn, rfl⟩ | ⟨rfl, h3, h4, hn, rfl⟩ | ⟨rfl, rfl, h4, h5, h6⟩
  ·rw [hleaf 1 (.inl rfl)] at HR
   have HX : Hid (R = (!l && decide ((t.size : Int) ≤ z) && !lead0 t.data.toList)) := HR
   clear hok IH HS HR hleaf HTS hn
   rcases empty_ways t with ⟨hz0, rfl⟩ | ⟨hz0, hz1, hz2⟩
   ·have HX2 : Hid (R = !l) := Lib.hid (by rw [HX.out]; cases l <;> simp [lead0, ByteArray.size]; omega)
    clear HX hz0
    cases l
    all_goals
     go_enter Tryz.func82, Tryz.ntmps82
     go_wp2
     all_goals
      go_ret
      exact ⟨by rw [HX2.out]; rfl, blw⟩
   ·have hp : 0 < t.size := by omega
    have HX2 : Hid (R = (!l && decide ((t.size : Int) ≤ z) && !decide (t[0].toNat = 0))) := Lib.hid (by rw [HX.out, lead0_at t hp])
    clear HX hz0
    by_cases hle : (t.size : Int) ≤ z
    ·by_cases h0 : t[0].toNat = 0
     ·have e1 : ((t[0].toNat : Int) != 0) = false := by simp [h0]
      have HX3 : Hid (R = false) := Lib.hid (by rw [HX2.out]; simp [h0])
      clear HX2 h0
      cases l
      all_goals
       go_enter Tryz.func82, Tryz.ntmps82
       go_wp2
       go_ret
       exact ⟨by rw [HX3.out]; rfl, blw⟩
     ·have e1 : ((t[0].toNat : Int) != 0) = true := by simp [h0]
      have HX3 : Hid (R = !l) := Lib.hid (by rw [HX2.out]; simp [h0, hle])
      clear HX2 h0
      cases l
      all_goals
       go_enter Tryz.func82, Tryz.ntmps82
       go_wp2
       go_ret
       exact ⟨by rw [HX3.out]; rfl, blw⟩
    ·have HX3 : Hid (R = false) := Lib.hid (by rw [HX2.out]; simp [hle])
     clear HX2
     cases l
     all_goals
      go_enter Tryz.func82, Tryz.ntmps82
      go_wp2
      go_ret
      exact ⟨by rw [HX3.out]; rfl, blw⟩
  ·rw [hleaf 2 (.inr (.inl rfl))] at HR
   have HX : Hid (R = (!l && decide ((t.size : Int) = z))) := HR
   clear hok IH HS HR hleaf HTS hn
   cases l
   all_goals
    go_enter Tryz.func82, Tryz.ntmps82
    go_wp2
    all_goals
     go_ret
     refine ⟨ret_bool ?_, blw⟩
     rw [HX.out]
     first | rfl | (rw [Bool.eq_iff_iff]; simp)
  ·rw [hleaf 3 (.inr (.inr rfl))] at HR
   have HX : Hid (R = (!l && decide ((t.size : Int) ≤ z))) := HR
   clear hok IH HS HR hleaf HTS hn
   cases l
   all_goals
    go_enter Tryz.func82, Tryz.ntmps82
    go_wp2
    all_goals
     go_ret
     refine ⟨ret_bool ?_, blw⟩
     rw [HX.out]
     first | rfl | (rw [Bool.eq_iff_iff]; simp)
  ·clear hok hleaf
   have HNL := Lib.hid hn
   clear hn
   cases l with
   | false =>
    have HX : Hid (R = false) := Lib.hid (by rw [HR.out]; simp [is1])
    go_enter Tryz.func82, Tryz.ntmps82
    go_wp2
    all_goals
     go_ret
     exact ⟨by rw [HX.out]; rfl, blw⟩
   | true =>
    by_cases hmz : (s.length : Int) ≤ z
    ·have HX : Hid (R = isOfL s (Ty.mk 4 z tl 0) 0) := Lib.hid (by rw [HR.out]; simp [is1, hmz])
     clear HR
     go_enter Tryz.func82, Tryz.ntmps82
     go_wp2_with fail
     go_loopw [5] (fun i wr => ∃ kk : Nat, kk ≤ s.length ∧ i = .int .i64 kk ∧ Hid (isOfL (s.take kk) (Ty.mk 4 z tl 0) 0 = true) ∧ Blk wr w.heap.size 55 #[.int .i64 4, .int .i64 z, .slice A' tl.length cap', .int .i64 0] ∧ Blk wr (w.heap.size + 1) 28 #[.string t, .bool true, .slice A s.length cap] ∧ Below w.heap.size w wr) (fun i _ => s.length - (intOf i).toNat)
     case atStart => exact ⟨0, by omega, rfl, Lib.hid (by simp [isOfL]), (Blk.new w _ _).alloc _, by have := Blk.new (w.alloc (.cells #[.int .i64 4, .int .i64 z, .slice A' tl.length cap', .int .i64 0] 55)) 28 #[.string t, .bool true, .slice A s.length cap]; simpa using this, blw⟩
     case round =>
      obtain ⟨kk, hkk, rfl, hm, hb1, hb2, hbw⟩ := hrel
      have q1 : wr.cell? ⟨w.heap.size, 2, none⟩ = some (.slice A' tl.length cap') := hb1.cell 2
      have q2 : wr.cell? ⟨w.heap.size + 1, 2, none⟩ = some (.slice A s.length cap) := hb2.cell 2
      have hl1 := hb2.lt
      have K1 := Lib.hid hb1
      have K2 := Lib.hid hb2
      have HBW := Lib.hid hbw
      clear hb1 hb2 hbw
      by_cases hlt : kk < s.length
      ·have hbB : Below B w wr := HBW.out.mono hB
       have hbz := hbB.size
       obtain ⟨b, o, d0, d1, d2, rfl, hbl, e0, e1, e2, hi⟩ := HS.out.at_ kk hlt
       simp only [Nat.zero_add] at e0 e1 e2
       replace e0 := (hbB.cell (p := ⟨b, o + kk * 3, none⟩) hbl).trans e0
       replace e1 := (hbB.cell (p := ⟨b, o + kk * 3 + 1, none⟩) hbl).trans e1
       replace e2 := (hbB.cell (p := ⟨b, o + kk * 3 + 2, none⟩) hbl).trans e2
       have hjl : 0 < tl.length := (by have := HNL.out; omega)
       obtain ⟨b', o', f0, f1, f2, f3, rfl, hbl', k0, k1, k2, k3, hti⟩ := HTS.out.at_ (0) hjl
       simp only [Nat.zero_add, Nat.zero_mul, Nat.add_zero] at k0 k1 k2 k3
       replace k0 := (hbB.cell (p := ⟨b', _, none⟩) hbl').trans k0
       replace k1 := (hbB.cell (p := ⟨b', _, none⟩) hbl').trans k1
       replace k2 := (hbB.cell (p := ⟨b', _, none⟩) hbl').trans k2
       replace k3 := (hbB.cell (p := ⟨b', _, none⟩) hbl').trans k3
       have HAT : Hid ((Ty.mk 4 z tl 0).at kk = tl[0]) := Lib.hid (by show (tl[atI 4 kk]?).getD (.mk 0 0 [] 0) = tl[0]; rw [show atI 4 kk = 0 from rfl, List.getElem?_eq_getElem hjl]; rfl)
       have HC := Lib.hid (IH.out _ (List.getElem_mem hlt) B wr.drew d0 d1 d2 ((hi.below hbB).below (Below.refl _ _).drew) (by simp; omega) (itright_at HRT.out kk hlt) tl[0] f0 f1 f2 f3 ((hti.below hbB).below (Below.refl _ _).drew) (rightT_at HTR.out (0) hjl))
       obtain ⟨r, hr⟩ : ∃ r, s[kk].isOf tl[0] = r := ⟨_, rfl⟩
       rw [hr] at HC
       have HR1 : Hid (s[kk].isOf ((Ty.mk 4 z tl 0).at kk) = r) := Lib.hid (by rw [HAT.out, hr])
       have HJL := Lib.hid hjl
       clear hi hti hr hbB
       go_wp2_with fail
       go_still_tail 9, (by kernel_rfl)
       change wpList _ _ _ _ _ wr.drew
       go_wp2_with fail
       refine HC.out.mono ?_
       rintro e w2 ⟨rfl, hx⟩
       have HB2 := Lib.hid hx
       clear hx
       cases r with
       | true =>
        have HN : Hid (isOfL (s.take (kk + 1)) (Ty.mk 4 z tl 0) 0 = true) := Lib.hid (by rw [isOfL_take hlt, hm.out, HR1.out]; rfl)
        go_wp2
        go_roundw
        case rel =>
         have key : ∃ k2 : Nat, k2 ≤ s.length ∧ Value.int .i64 ((kk : Int) + 1) = .int .i64 k2 ∧ Hid (isOfL (s.take k2) (Ty.mk 4 z tl 0) 0 = true) ∧ Blk w2 w.heap.size 55 #[.int .i64 4, .int .i64 z, .slice (some ⟨b', o', none⟩) tl.length cap', .int .i64 0] ∧ Blk w2 (w.heap.size + 1) 28 #[.string t, .bool true, .slice (some ⟨b, o, none⟩) s.length cap] ∧ Below w.heap.size w w2 :=
          ⟨kk + 1, by omega, by go_num, HN, K1.out.drew.keep HB2.out (by simp; omega), K2.out.drew.keep HB2.out (by simpa using hl1), HBW.out.drew.trans (HB2.out.mono (by simpa using HBW.out.size))⟩
         first | exact key | ((repeat apply Exists.intro); exact ⟨key, rfl⟩)
        case measure => simp [intOf]; omega
       | false =>
        have HN : Hid (isOfL s (Ty.mk 4 z tl 0) 0 = false) := Lib.hid (isOfL_false hlt HR1.out)
        go_wp2
        go_ret
        exact ⟨by rw [HX.out, HN.out]; rfl, HBW.out.drew.trans (HB2.out.mono (by simpa using HBW.out.size))⟩
      ·have hm1 := hm.out
       rw [List.take_of_length_le (by omega)] at hm1
       have HM := Lib.hid hm1
       clear hm1
       go_wp2
       go_ret
       exact ⟨by rw [HX.out, HM.out]; rfl, HBW.out⟩
    ·have HX : Hid (R = false) := Lib.hid (by rw [HR.out]; simp [is1, hmz])
     go_enter Tryz.func82, Tryz.ntmps82
     go_wp2
     all_goals
      go_ret
      exact ⟨by rw [HX.out]; rfl, blw⟩
  ·clear hok hleaf
   cases l with
   | false =>
    have HX : Hid (R = false) := Lib.hid (by rw [HR.out]; simp [is1])
    go_enter Tryz.func82, Tryz.ntmps82
    go_wp2
    all_goals
     go_ret
     exact ⟨by rw [HX.out]; rfl, blw⟩
   | true =>
    by_cases hm1 : s.length ≤ tl.length
    ·by_cases hm2 : (tl.length : Int) - ta ≤ s.length
     ·have HX : Hid (R = isOfL s (Ty.mk 5 0 tl ta) 0) := Lib.hid (by rw [HR.out, ← is1_5, decide_eq_true hm1, decide_eq_true hm2]; rfl)
      clear HR
      have dd1 : decide (tl.length < s.length) = false := decide_eq_false (by omega)
      have dd2 : decide ((s.length : Int) < (tl.length : Int) - ta) = false := decide_eq_false (by omega)
      go_enter Tryz.func82, Tryz.ntmps82
      go_wp2_with fail
      go_loopw [6] (fun i wr => ∃ kk : Nat, kk ≤ s.length ∧ i = .int .i64 kk ∧ Hid (isOfL (s.take kk) (Ty.mk 5 0 tl ta) 0 = true) ∧ Blk wr w.heap.size 55 #[.int .i64 5, .int .i64 0, .slice A' tl.length cap', .int .i64 ta] ∧ Blk wr (w.heap.size + 1) 28 #[.string t, .bool true, .slice A s.length cap] ∧ Below w.heap.size w wr) (fun i _ => s.length - (intOf i).toNat)
      case atStart => exact ⟨0, by omega, rfl, Lib.hid (by simp [isOfL]), (Blk.new w _ _).alloc _, by have := Blk.new (w.alloc (.cells #[.int .i64 5, .int .i64 0, .slice A' tl.length cap', .int .i64 ta] 55)) 28 #[.string t, .bool true, .slice A s.length cap]; simpa using this, blw⟩
      case round =>
       obtain ⟨kk, hkk, rfl, hm, hb1, hb2, hbw⟩ := hrel
       have q1 : wr.cell? ⟨w.heap.size, 2, none⟩ = some (.slice A' tl.length cap') := hb1.cell 2
       have q2 : wr.cell? ⟨w.heap.size + 1, 2, none⟩ = some (.slice A s.length cap) := hb2.cell 2
       have hl1 := hb2.lt
       have K1 := Lib.hid hb1
       have K2 := Lib.hid hb2
       have HBW := Lib.hid hbw
       clear hb1 hb2 hbw
       by_cases hlt : kk < s.length
       ·have hbB : Below B w wr := HBW.out.mono hB
        have hbz := hbB.size
        obtain ⟨b, o, d0, d1, d2, rfl, hbl, e0, e1, e2, hi⟩ := HS.out.at_ kk hlt
        simp only [Nat.zero_add] at e0 e1 e2
        replace e0 := (hbB.cell (p := ⟨b, o + kk * 3, none⟩) hbl).trans e0
        replace e1 := (hbB.cell (p := ⟨b, o + kk * 3 + 1, none⟩) hbl).trans e1
        replace e2 := (hbB.cell (p := ⟨b, o + kk * 3 + 2, none⟩) hbl).trans e2
        have hjl : kk < tl.length := (by omega)
        obtain ⟨b', o', f0, f1, f2, f3, rfl, hbl', k0, k1, k2, k3, hti⟩ := HTS.out.at_ (kk) hjl
        simp only [Nat.zero_add, Nat.zero_mul, Nat.add_zero] at k0 k1 k2 k3
        replace k0 := (hbB.cell (p := ⟨b', _, none⟩) hbl').trans k0
        replace k1 := (hbB.cell (p := ⟨b', _, none⟩) hbl').trans k1
        replace k2 := (hbB.cell (p := ⟨b', _, none⟩) hbl').trans k2
        replace k3 := (hbB.cell (p := ⟨b', _, none⟩) hbl').trans k3
        have HAT : Hid ((Ty.mk 5 0 tl ta).at kk = tl[kk]) := Lib.hid (by show (tl[atI 5 kk]?).getD (.mk 0 0 [] 0) = tl[kk]; rw [show atI 5 kk = kk from rfl, List.getElem?_eq_getElem hjl]; rfl)
        have HC := Lib.hid (IH.out _ (List.getElem_mem hlt) B wr.drew d0 d1 d2 ((hi.below hbB).below (Below.refl _ _).drew) (by simp; omega) (itright_at HRT.out kk hlt) tl[kk] f0 f1 f2 f3 ((hti.below hbB).below (Below.refl _ _).drew) (rightT_at HTR.out (kk) hjl))
        obtain ⟨r, hr⟩ : ∃ r, s[kk].isOf tl[kk] = r := ⟨_, rfl⟩
        rw [hr] at HC
        have HR1 : Hid (s[kk].isOf ((Ty.mk 5 0 tl ta).at kk) = r) := Lib.hid (by rw [HAT.out, hr])
        have HJL := Lib.hid hjl
        clear hi hti hr hbB
        go_wp2_with fail
        go_still_tail 10, (by kernel_rfl)
        change wpList _ _ _ _ _ wr.drew
        go_wp2_with fail
        refine HC.out.mono ?_
        rintro e w2 ⟨rfl, hx⟩
        have HB2 := Lib.hid hx
        clear hx
        cases r with
        | true =>
         have HN : Hid (isOfL (s.take (kk + 1)) (Ty.mk 5 0 tl ta) 0 = true) := Lib.hid (by rw [isOfL_take hlt, hm.out, HR1.out]; rfl)
         go_wp2
         go_roundw
         case rel =>
          have key : ∃ k2 : Nat, k2 ≤ s.length ∧ Value.int .i64 ((kk : Int) + 1) = .int .i64 k2 ∧ Hid (isOfL (s.take k2) (Ty.mk 5 0 tl ta) 0 = true) ∧ Blk w2 w.heap.size 55 #[.int .i64 5, .int .i64 0, .slice (some ⟨b', o', none⟩) tl.length cap', .int .i64 ta] ∧ Blk w2 (w.heap.size + 1) 28 #[.string t, .bool true, .slice (some ⟨b, o, none⟩) s.length cap] ∧ Below w.heap.size w w2 :=
           ⟨kk + 1, by omega, by go_num, HN, K1.out.drew.keep HB2.out (by simp; omega), K2.out.drew.keep HB2.out (by simpa using hl1), HBW.out.drew.trans (HB2.out.mono (by simpa using HBW.out.size))⟩
          first | exact key | ((repeat apply Exists.intro); exact ⟨key, rfl⟩)
         case measure => simp [intOf]; omega
        | false =>
         have HN : Hid (isOfL s (Ty.mk 5 0 tl ta) 0 = false) := Lib.hid (isOfL_false hlt HR1.out)
         go_wp2
         go_ret
         exact ⟨by rw [HX.out, HN.out]; rfl, HBW.out.drew.trans (HB2.out.mono (by simpa using HBW.out.size))⟩
       ·have hm1 := hm.out
        rw [List.take_of_length_le (by omega)] at hm1
        have HM := Lib.hid hm1
        clear hm1
        go_wp2
        go_ret
        exact ⟨by rw [HX.out, HM.out]; rfl, HBW.out⟩
     ·have HX : Hid (R = false) := Lib.hid (by rw [HR.out, ← is1_5, decide_eq_false hm2, Bool.and_false]; rfl)
      go_enter Tryz.func82, Tryz.ntmps82
      go_wp2
      all_goals
       go_ret
       exact ⟨by rw [HX.out]; rfl, blw⟩
    ·have HX : Hid (R = false) := Lib.hid (by rw [HR.out, ← is1_5, decide_eq_false hm1]; rfl)
     go_enter Tryz.func82, Tryz.ntmps82
     go_wp2
     all_goals
      go_ret
      exact ⟨by rw [HX.out]; rfl, blw⟩
theorem refFits_c (ty : Ty) (x : It) (B : Nat) (w : World) (t0 t1 t2 t3 c0 c1 c2 : Value) (hT : TyIn w B ty t0 t1 t2 t3) (hI : ItIn w B x c0 c1 c2) (hB : B ≤ w.heap.size) (hct : ty.count ≤ 4611686018427387904) (hci : x.count ≤ 4611686018427387904) :
 Calls Tryz.prog 52 #[.agg #[t0, t1, t2, t3], .agg #[c0, c1, c2]] w fun e w' => e = .returned (.int .i64 (fitE ty x)) ∧ Below w.heap.size w w' := by
 obtain ⟨W0, hW0⟩ : ∃ W0, (w.alloc (.cells #[t0, t1, t2, t3] 55)).alloc (.cells #[c0, c1, c2] 28) = W0 := ⟨_, rfl⟩
 have hb0 : Below w.heap.size w W0 := by rw [← hW0]; exact ((Below.refl _ w).alloc (Nat.le_refl _) _).alloc (by simp) _
 have hz0 : W0.heap.size = w.heap.size + 2 := by rw [← hW0]; simp
 have m1 : Blk W0 w.heap.size 55 #[t0, t1, t2, t3] := by rw [← hW0]; exact (Blk.new w _ _).alloc _
 have m2 : Blk W0 (w.heap.size + 1) 28 #[c0, c1, c2] := by rw [← hW0]; have := Blk.new (w.alloc (.cells #[t0, t1, t2, t3] 55)) 28 #[c0, c1, c2]; simpa using this
 have HC1 := Lib.hid (may20_c ty B W0 t0 t1 t2 t3 (hT.below (hb0.mono hB)) (by omega) hct)
 have HC2 : Hid (∀ V, Below (w.heap.size + 2) W0 V → Calls Tryz.prog 81 #[.agg #[c0, c1, c2]] V fun e w' => e = .returned (.bool x.may) ∧ Below V.heap.size V w') := Lib.hid (fun V hV => refMay_c x B V c0 c1 c2 ((hI.below (hb0.mono hB)).below (hV.mono (by omega))) (by have := hV.size; omega) hci)
 have HM1 := Lib.hid m1
 have HM2 := Lib.hid m2
 have HB0 := Lib.hid hb0
 have HT := Lib.hid hT
 have HI := Lib.hid hI
 have HW0 := Lib.hid hW0
 obtain ⟨a, ha⟩ : ∃ a, ty.may = a := ⟨_, rfl⟩
 obtain ⟨b, hb⟩ : ∃ b, x.may = b := ⟨_, rfl⟩
 obtain ⟨c, hc⟩ : ∃ c, x.isOf ty = c := ⟨_, rfl⟩
 have HE : Hid (fitE ty x = if a && b then (if c then 0 else 12) else 1) := Lib.hid (by rw [fitE, ha, hb, hc])
 have HA := Lib.hid ha
 have HBB := Lib.hid hb
 have HCC := Lib.hid hc
 rw [ha] at HC1
 rw [hb] at HC2
 obtain ⟨A, cap, rfl, rfl, rfl, rfl, _⟩ := hT.open_
 obtain ⟨A', cap', rfl, rfl, rfl, _⟩ := hI.open_
 generalize fitE ty x = R at *
 generalize ty.kind = ki at *
 generalize ty.size = si at *
 generalize ty.tail = ta at *
 clear ha hb hc hT hI hW0 m1 m2
 cases a with
 | false =>
  have HX : Hid (R = 1) := Lib.hid (by rw [HE.out]; rfl)
  go_enter Tryz.func52, Tryz.ntmps52
  go_wp2_with fail
  rw [HW0.out]
  refine HC1.out.mono ?_
  rintro e w1 ⟨rfl, hb1⟩
  go_wp2
  go_ret
  exact ⟨by rw [HX.out]; rfl, HB0.out.trans (hb1.mono (by omega))⟩
 | true =>
  cases b with
  | false =>
   have HX : Hid (R = 1) := Lib.hid (by rw [HE.out]; rfl)
   go_enter Tryz.func52, Tryz.ntmps52
   go_wp2_with fail
   rw [HW0.out]
   refine HC1.out.mono ?_
   rintro e w1 ⟨rfl, hb1⟩
   obtain ⟨g0, g1, g2, _, _, _⟩ := blk3 (HM2.out.keep hb1 (by omega))
   have hz1 := hb1.size
   go_wp2_with fail
   refine (HC2.out w1 (hb1.mono (by omega))).mono ?_
   rintro e w2 ⟨rfl, hb2⟩
   go_wp2
   go_ret
   exact ⟨by rw [HX.out]; rfl, HB0.out.trans ((hb1.trans (hb2.mono hz1)).mono (by omega))⟩
  | true =>
   have HX : Hid (R = if c then 0 else 12) := Lib.hid (by rw [HE.out]; rfl)
   go_enter Tryz.func52, Tryz.ntmps52
   go_wp2_with fail
   rw [HW0.out]
   refine HC1.out.mono ?_
   rintro e w1 ⟨rfl, hb1⟩
   obtain ⟨g0, g1, g2, _, _, _⟩ := blk3 (HM2.out.keep hb1 (by omega))
   have hz1 := hb1.size
   go_wp2_with fail
   refine (HC2.out w1 (hb1.mono (by omega))).mono ?_
   rintro e w2 ⟨rfl, hb2⟩
   have hz2 := hb2.size
   have HB2 : Hid (Below (w.heap.size + 2) W0 w2) := Lib.hid ((hb1.trans (hb2.mono hz1)).mono (by omega))
   have hbB : Below B w w2 := (HB0.out.mono hB).trans (HB2.out.mono (by omega))
   obtain ⟨_, _, hrt⟩ := ty_may HA.out
   have hri : x.right = true := by
    have h := HBB.out
    unfold It.may at h
    simp only [Bool.and_eq_true] at h
    exact h.1.1
   have HF := Lib.hid (is_c x B w2 _ _ _ (HI.out.below hbB) (by omega) hri ty _ _ _ _ (HT.out.below hbB) hrt)
   rw [HCC.out] at HF
   obtain ⟨q0, q1, q2, q3, _⟩ := blk4 (HM1.out.keep HB2.out (by omega))
   clear g0 g1 g2
   obtain ⟨g0, g1, g2, _, _, _⟩ := blk3 (HM2.out.keep HB2.out (by omega))
   clear hb1 hb2 hbB hrt hri
   go_wp2_with fail
   refine HF.out.mono ?_
   rintro e w6 ⟨rfl, hb6⟩
   have HB6 : Hid (Below w.heap.size w w6) := Lib.hid (HB0.out.trans ((HB2.out.mono (by omega)).trans (hb6.mono (by omega))))
   clear hb6
   cases c with
   | true =>
    go_wp2
    go_ret
    exact ⟨by rw [HX.out]; rfl, HB6.out⟩
   | false =>
    go_wp2
    go_ret
    exact ⟨by rw [HX.out]; rfl, HB6.out⟩
end Go.Proofs.YtnfpgadegpmhkaaGreatDoor
