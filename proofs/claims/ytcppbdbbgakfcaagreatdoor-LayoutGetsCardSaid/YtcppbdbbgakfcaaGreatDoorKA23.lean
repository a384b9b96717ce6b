/- The document's parse of types: numbers, and no type. -/
import Derived.Test.YtcppbdbbgakfcaaGreatDoorKA24
import Derived.Test.YtcppbdbbgakfcaaGreatDoorKTyParse3
import Derived.Test.YtcppbdbbgakfcaaGreatDoorKA12
set_option linter.unusedVariables false
set_option linter.unusedSimpArgs false
set_option maxRecDepth 100000
set_option maxHeartbeats 3200000
namespace Go.Proofs.YtcppbdbbgakfcaaGreatDoor
open Go.RowKit
theorem tyParse_num (f deep : Nat) (hd8 : deep ≤ 8) (IH : Hid (∀ (s : ByteArray) (at_ : Nat) (w : World), at_ ≤ s.size → s.size ≤ 100000 →
 Calls Tryz.prog 42 #[.string s, .int .i64 at_, .int .i64 ((deep + 1 : Nat) : Int)] w fun e w' => TyEnd s w (tItem f (s.data.toList.drop at_)) e w')) (s : ByteArray) (at_ : Nat) (w : World) (hat : at_ ≤ s.size) (hs : s.size ≤ 100000)
 (R : Option (Ty × List UInt8)) (HR : Hid (tItem (f + 1) (s.data.toList.drop at_) = R)) (hlt : at_ < s.size) (hl : s[at_].toNat ≠ 91) (ht : s[at_].toNat ≠ 123) :
 Calls Tryz.prog 42 #[.string s, .int .i64 at_, .int .i64 deep] w fun e w' => TyEnd s w R e w' := by
 have d1 : decide (s.size ≤ at_) = false := by simp; omega
 have d2 : decide ((8 : Int) < (deep : Int)) = false := by simp; omega
 have hb256 := s[at_].toNat_lt
 have HC : Hid (tItem (f + 1) (s[at_] :: s.data.toList.drop (at_ + 1)) = R) := Lib.hid (by rw [← drop_cons s at_ hlt]; exact HR.out)
 have HD := Lib.hid (fun w => digits20_c s (at_ + 1) w (by omega) hs)
 have E8 : Hid (((at_ + 1 : Nat) : Int) = (at_ : Int) + 1) := Lib.hid (by omega)
 obtain ⟨N, HN⟩ : ∃ N, Hid (numR (s.data.toList.drop (at_ + 1)) = N) := ⟨_, Lib.hid rfl⟩
 rw [HN.out, E8.out] at HD
 clear HR
 by_cases hu : s[at_].toNat = 117
 ·have e1 : ((s[at_].toNat : Int) == 117) = true := by simp [hu]
  have HE0 : Hid (numU N = R) := Lib.hid (by rw [← HC.out, show s[at_] = 117 from UInt8.toNat_inj.1 hu, tItem_u, HN.out])
  clear hu HC
  cases N with
  | none =>
   have HE : Hid (R = none) := Lib.hid HE0.out.symm
   clear HE0
   go_enter Tryz.func42, Tryz.ntmps42
   go_wp2_with fail
   refine (HD.out _).mono ?_
   rintro e w' ⟨rfl, rfl⟩
   simp only [numEnd]
   go_wp2
   refine bodyPost_ret (v := badTy 1 0) (by simp [badTy, results, Tryz.results42, go_sem]) rfl ?_
   rw [HE.out]
   exact ⟨(by repeat (first | exact Below.refl _ _ | assumption | with_reducible refine Below.drewN' ?_ _ | with_reducible refine Below.drew ?_ | ((with_reducible refine Below.alloc' ?_ ?_ _); · (first | omega | (simp <;> omega))))), 1, 0, rfl⟩
  | some z =>
   obtain ⟨n, r⟩ := z
   obtain ⟨hp1, hp2, hp3, hp4⟩ := numR_pos (by omega) HN.out
   by_cases h8 : n % 8 = 0
   ·have HE : Hid (R = some (Ty.mk 1 ((n / 8 : Nat) : Int) [] 0, r)) := Lib.hid (by rw [← HE0.out]; simp [numU, h8])
    have hm8 : ((n : Int) % 8 != 0) = false := by simp; omega
    have E6 : Hid (((n / 8 : Nat) : Int) = (n : Int) / 8) := Lib.hid (by omega)
    have HR9 : Hid (s.size - r.length = s.size - r.length) := Lib.hid rfl
    clear HE0 h8 hp1
    obtain ⟨q, hq⟩ : ∃ q, s.size - r.length = q := ⟨_, rfl⟩
    have HQ := Lib.hid hq
    rw [hq] at hp2 hp3
    go_enter Tryz.func42, Tryz.ntmps42
    go_wp2_with fail
    refine (HD.out _).mono ?_
    rintro e w' ⟨rfl, rfl⟩
    simp only [numEnd, hq]
    clear hq
    go_wp2
    refine bodyPost_ret (v := .tuple #[.agg #[.int .i64 1, .int .i64 ((n : Int) / 8), .slice none 0 0, .int .i64 0], .int .i64 (q : Int)]) (by simp [results, Tryz.results42, go_sem]) rfl ?_
    rw [HE.out]
    refine ⟨(by repeat (first | exact Below.refl _ _ | assumption | with_reducible refine Below.drewN' ?_ _ | with_reducible refine Below.drew ?_ | ((with_reducible refine Below.alloc' ?_ ?_ _); · (first | omega | (simp <;> omega))))), _, _, _, _, by rw [HQ.out], ?_⟩
    have hzz := E6.out
    first | exact TyS.leaf (okI_small (by omega) (by omega)) (okI_small (by omega) (by omega)) (okI_small (by omega) (by omega)) | (rw [E6.out]; exact TyS.leaf (okI_small (by omega) (by omega)) (okI_small (by omega) (by omega)) (okI_small (by omega) (by omega)))
   ·have HE : Hid (R = none) := Lib.hid (by rw [← HE0.out]; simp [numU, h8])
    have hm8 : ((n : Int) % 8 != 0) = true := by simp; omega
    clear HE0 h8 hp1
    go_enter Tryz.func42, Tryz.ntmps42
    go_wp2_with fail
    refine (HD.out _).mono ?_
    rintro e w' ⟨rfl, rfl⟩
    simp only [numEnd]
    go_wp2
    refine bodyPost_ret (v := badTy 0 0) (by simp [badTy, results, Tryz.results42, go_sem,]) rfl ?_
    rw [HE.out]
    exact ⟨(by repeat (first | exact Below.refl _ _ | assumption | with_reducible refine Below.drewN' ?_ _ | with_reducible refine Below.drew ?_ | ((with_reducible refine Below.alloc' ?_ ?_ _); · (first | omega | (simp <;> omega))))), 0, 0, rfl⟩
 ·have e1 : ((s[at_].toNat : Int) == 117) = false := beq_eq_false_iff_ne.2 (by omega)
  have hm8 : True := trivial
  by_cases hbb : s[at_].toNat = 98
  ·have e2 : ((s[at_].toNat : Int) == 98) = true := by simp [hbb]
   have HE0 : Hid (numK 2 N = R) := Lib.hid (by rw [← HC.out, show s[at_] = 98 from UInt8.toNat_inj.1 hbb, tItem_b, HN.out])
   clear hu hbb HC
   cases N with
   | none =>
    have HE : Hid (R = none) := Lib.hid HE0.out.symm
    clear HE0
    go_enter Tryz.func42, Tryz.ntmps42
    go_wp2_with fail
    refine (HD.out _).mono ?_
    rintro e w' ⟨rfl, rfl⟩
    simp only [numEnd]
    go_wp2
    refine bodyPost_ret (v := badTy 2 0) (by simp [badTy, results, Tryz.results42, go_sem]) rfl ?_
    rw [HE.out]
    exact ⟨(by repeat (first | exact Below.refl _ _ | assumption | with_reducible refine Below.drewN' ?_ _ | with_reducible refine Below.drew ?_ | ((with_reducible refine Below.alloc' ?_ ?_ _); · (first | omega | (simp <;> omega))))), 2, 0, rfl⟩
   | some z =>
    obtain ⟨n, r⟩ := z
    obtain ⟨hp1, hp2, hp3, hp4⟩ := numR_pos (by omega) HN.out
    have HE : Hid (R = some (Ty.mk 2 (n : Int) [] 0, r)) := Lib.hid HE0.out.symm
    have h8 : True := trivial
    have E6 : Hid (((n / 8 : Nat) : Int) = (n : Int) / 8) := Lib.hid (by omega)
    have HR9 : Hid (s.size - r.length = s.size - r.length) := Lib.hid rfl
    clear HE0 h8 hp1
    obtain ⟨q, hq⟩ : ∃ q, s.size - r.length = q := ⟨_, rfl⟩
    have HQ := Lib.hid hq
    rw [hq] at hp2 hp3
    go_enter Tryz.func42, Tryz.ntmps42
    go_wp2_with fail
    refine (HD.out _).mono ?_
    rintro e w' ⟨rfl, rfl⟩
    simp only [numEnd, hq]
    clear hq
    go_wp2
    refine bodyPost_ret (v := .tuple #[.agg #[.int .i64 2, .int .i64 (n : Int), .slice none 0 0, .int .i64 0], .int .i64 (q : Int)]) (by simp [results, Tryz.results42, go_sem]) rfl ?_
    rw [HE.out]
    refine ⟨(by repeat (first | exact Below.refl _ _ | assumption | with_reducible refine Below.drewN' ?_ _ | with_reducible refine Below.drew ?_ | ((with_reducible refine Below.alloc' ?_ ?_ _); · (first | omega | (simp <;> omega))))), _, _, _, _, by rw [HQ.out], ?_⟩
    have hzz := E6.out
    first | exact TyS.leaf (okI_small (by omega) (by omega)) (okI_small (by omega) (by omega)) (okI_small (by omega) (by omega)) | (rw [E6.out]; exact TyS.leaf (okI_small (by omega) (by omega)) (okI_small (by omega) (by omega)) (okI_small (by omega) (by omega)))
  ·have e2 : ((s[at_].toNat : Int) == 98) = false := beq_eq_false_iff_ne.2 (by omega)
   by_cases hss : s[at_].toNat = 115
   ·have e3 : ((s[at_].toNat : Int) == 115) = true := by simp [hss]
    have HE0 : Hid (numK 3 N = R) := Lib.hid (by rw [← HC.out, show s[at_] = 115 from UInt8.toNat_inj.1 hss, tItem_s, HN.out])
    clear hu hbb hss HC
    cases N with
    | none =>
     have HE : Hid (R = none) := Lib.hid HE0.out.symm
     clear HE0
     go_enter Tryz.func42, Tryz.ntmps42
     go_wp2_with fail
     refine (HD.out _).mono ?_
     rintro e w' ⟨rfl, rfl⟩
     simp only [numEnd]
     go_wp2
     refine bodyPost_ret (v := badTy 3 0) (by simp [badTy, results, Tryz.results42, go_sem]) rfl ?_
     rw [HE.out]
     exact ⟨(by repeat (first | exact Below.refl _ _ | assumption | with_reducible refine Below.drewN' ?_ _ | with_reducible refine Below.drew ?_ | ((with_reducible refine Below.alloc' ?_ ?_ _); · (first | omega | (simp <;> omega))))), 3, 0, rfl⟩
    | some z =>
     obtain ⟨n, r⟩ := z
     obtain ⟨hp1, hp2, hp3, hp4⟩ := numR_pos (by omega) HN.out
     have HE : Hid (R = some (Ty.mk 3 (n : Int) [] 0, r)) := Lib.hid HE0.out.symm
     have h8 : True := trivial
     have E6 : Hid (((n / 8 : Nat) : Int) = (n : Int) / 8) := Lib.hid (by omega)
     have HR9 : Hid (s.size - r.length = s.size - r.length) := Lib.hid rfl
     clear HE0 h8 hp1
     obtain ⟨q, hq⟩ : ∃ q, s.size - r.length = q := ⟨_, rfl⟩
     have HQ := Lib.hid hq
     rw [hq] at hp2 hp3
     go_enter Tryz.func42, Tryz.ntmps42
     go_wp2_with fail
     refine (HD.out _).mono ?_
     rintro e w' ⟨rfl, rfl⟩
     simp only [numEnd, hq]
     clear hq
     go_wp2
     refine bodyPost_ret (v := .tuple #[.agg #[.int .i64 3, .int .i64 (n : Int), .slice none 0 0, .int .i64 0], .int .i64 (q : Int)]) (by simp [results, Tryz.results42, go_sem]) rfl ?_
     rw [HE.out]
     refine ⟨(by repeat (first | exact Below.refl _ _ | assumption | with_reducible refine Below.drewN' ?_ _ | with_reducible refine Below.drew ?_ | ((with_reducible refine Below.alloc' ?_ ?_ _); · (first | omega | (simp <;> omega))))), _, _, _, _, by rw [HQ.out], ?_⟩
     have hzz := E6.out
     first | exact TyS.leaf (okI_small (by omega) (by omega)) (okI_small (by omega) (by omega)) (okI_small (by omega) (by omega)) | (rw [E6.out]; exact TyS.leaf (okI_small (by omega) (by omega)) (okI_small (by omega) (by omega)) (okI_small (by omega) (by omega)))
   ·have e3 : ((s[at_].toNat : Int) == 115) = false := beq_eq_false_iff_ne.2 (by omega)
    have e4 : ((s[at_].toNat : Int) == 91) = false := beq_eq_false_iff_ne.2 (by omega)
    have e5 : ((s[at_].toNat : Int) != 123) = true := by simp; omega
    have HE : Hid (R = none) := Lib.hid (by rw [← HC.out, tItem_no _ _ _ hu hbb hss hl ht])
    clear hu hbb hss hl ht HC
    go_enter Tryz.func42, Tryz.ntmps42
    go_wp2
    refine bodyPost_ret (v := badTy 0 0) (by simp [badTy, results, Tryz.results42, go_sem,]) rfl ?_
    rw [HE.out]
    exact ⟨(by repeat (first | exact Below.refl _ _ | assumption | with_reducible refine Below.drewN' ?_ _ | with_reducible refine Below.drew ?_ | ((with_reducible refine Below.alloc' ?_ ?_ _); · (first | omega | (simp <;> omega))))), 0, 0, rfl⟩
theorem tyParse_list (f deep : Nat) (hd8 : deep ≤ 8) (IH : Hid (∀ (s : ByteArray) (at_ : Nat) (w : World), at_ ≤ s.size → s.size ≤ 100000 →
 Calls Tryz.prog 42 #[.string s, .int .i64 at_, .int .i64 ((deep + 1 : Nat) : Int)] w fun e w' => TyEnd s w (tItem f (s.data.toList.drop at_)) e w')) (s : ByteArray) (at_ : Nat) (w : World) (hat : at_ ≤ s.size) (hs : s.size ≤ 100000)
 (R : Option (Ty × List UInt8)) (HR : Hid (tItem (f + 1) (s.data.toList.drop at_) = R)) (hlt : at_ < s.size) (hll : s[at_].toNat = 91) :
 Calls Tryz.prog 42 #[.string s, .int .i64 at_, .int .i64 deep] w fun e w' => TyEnd s w R e w' := by
 have d1 : decide (s.size ≤ at_) = false := by simp; omega
 have d2 : decide ((8 : Int) < (deep : Int)) = false := by simp; omega
 have hb256 := s[at_].toNat_lt
 have HC : Hid (tItem (f + 1) (s[at_] :: s.data.toList.drop (at_ + 1)) = R) := Lib.hid (by rw [← drop_cons s at_ hlt]; exact HR.out)
 have HD := Lib.hid (fun w => digits20_c s (at_ + 1) w (by omega) hs)
 have E8 : Hid (((at_ + 1 : Nat) : Int) = (at_ : Int) + 1) := Lib.hid (by omega)
 obtain ⟨N, HN⟩ : ∃ N, Hid (numR (s.data.toList.drop (at_ + 1)) = N) := ⟨_, Lib.hid rfl⟩
 rw [HN.out, E8.out] at HD
 clear HR
 have e1 : ((s[at_].toNat : Int) == 117) = false := beq_eq_false_iff_ne.2 (by omega)
 have e2 : ((s[at_].toNat : Int) == 98) = false := beq_eq_false_iff_ne.2 (by omega)
 have e3 : ((s[at_].toNat : Int) == 115) = false := beq_eq_false_iff_ne.2 (by omega)
 have e4 : ((s[at_].toNat : Int) == 91) = true := by simp [hll]
 have HE0 : Hid (tList (tItem f (s.data.toList.drop (at_ + 1))) = R) := Lib.hid (by rw [← HC.out, show s[at_] = 91 from UInt8.toNat_inj.1 hll, tItem_l])
 have HI := Lib.hid (IH.out s (at_ + 1) (w.alloc (.cells #[.int .i64 0, .int .i64 0, .slice none 0 0, .int .i64 0] 24)) (by omega) hs)
 have E9 : Hid ((deep : Int) + 1 = ((deep + 1 : Nat) : Int)) := Lib.hid (by omega)
 obtain ⟨T, HT⟩ : ∃ T, Hid (tItem f (s.data.toList.drop (at_ + 1)) = T) := ⟨_, Lib.hid rfl⟩
 rw [HT.out] at HE0 HI
 rw [E8.out] at HI
 clear hll HC HD HN
 cases T with
 | none =>
  have HE : Hid (R = none) := Lib.hid HE0.out.symm
  clear HE0
  go_enter Tryz.func42, Tryz.ntmps42
  go_wp2_with fail
  rw [E9.out]
  refine HI.out.mono ?_
  rintro e w4 ⟨hb, v0, v1, rfl⟩
  have hbk := (Blk.new w 24 #[.int .i64 0, .int .i64 0, .slice none 0 0, .int .i64 0]).keep hb (by simp)
  obtain ⟨r0, r1, r2', r3, rf0, rf1, rf2, rf3⟩ := blk4 hbk
  have hz := hb.size
  simp only [World.size_alloc] at hz
  have hlw : w.heap.size < w4.heap.size := by omega
  have hlw1 : w.heap.size < w4.heap.size + 1 := by omega
  have HB4 : Hid (Below w.heap.size w w4) := Lib.hid (((Below.refl w.heap.size w).alloc (Nat.le_refl _) _).trans (hb.mono (by simp)))
  clear hb hbk
  go_wp2
  refine bodyPost_ret (v := badTy 0 0) (by simp [badTy, results, Tryz.results42, go_sem, r0, r1, r2', r3, World.cell?_alloc_lt, hlw]) rfl ?_
  rw [HE.out]
  refine ⟨?_, 0, 0, rfl⟩
  exact (((((HB4.out.setCell (by simp) _).setCell (by simp) _).setCell (by simp) _).setCell (by simp) _).alloc (by simp [World.setCell]; omega) _)
 | some z =>
  obtain ⟨x, r⟩ := z
  obtain ⟨k1, k2⟩ := tItem_sfx _ _ _ _ HT.out
  obtain ⟨k3, k4⟩ := sfx_drop (by omega) k1
  have k5 : s.size - r.length ≤ s.size := by omega
  have HK3 := Lib.hid k3
  obtain ⟨q, hq⟩ : ∃ q, s.size - r.length = q := ⟨_, rfl⟩
  rw [hq] at k4 k5 HK3
  have HQ := Lib.hid hq
  have HE1 : Hid (tTail x (s.data.toList.drop q) = R) := Lib.hid (by rw [HK3.out]; exact HE0.out)
  clear HE0 k1 k2 k3
  by_cases hqs : q < s.size
  ·by_cases h58 : s[q].toNat = 58
   ·have f1 : ((s[q].toNat : Int) != 58) = false := by simp [h58]
    obtain ⟨N, HN⟩ : ∃ N, Hid (numR (s.data.toList.drop (q + 1)) = N) := ⟨_, Lib.hid rfl⟩
    have HE2 : Hid (tClose x N = R) := Lib.hid (by rw [← HN.out, ← tTail_colon, ← HE1.out, drop_cons s q hqs, show s[q] = 58 from UInt8.toNat_inj.1 h58])
    have HD := Lib.hid (fun w => digits20_c s (q + 1) w (by omega) hs)
    have E7 : Hid (((q + 1 : Nat) : Int) = (q : Int) + 1) := Lib.hid (by omega)
    rw [HN.out, E7.out] at HD
    clear HE1 h58
    cases N with
    | none =>
     have HE : Hid (R = none) := Lib.hid HE2.out.symm
     clear HE2
     go_enter Tryz.func42, Tryz.ntmps42
     go_wp2_with fail
     rw [E9.out]
     refine HI.out.mono ?_
     rintro e w4 ⟨hb, c0, c1, c2, c3, rfl, hy⟩
     rw [HQ.out]
     have hbk := (Blk.new w 24 #[.int .i64 0, .int .i64 0, .slice none 0 0, .int .i64 0]).keep hb (by simp)
     obtain ⟨r0, r1, r2', r3, rf0, rf1, rf2, rf3⟩ := blk4 hbk
     have hz := hb.size
     simp only [World.size_alloc] at hz
     have hlw : w.heap.size < w4.heap.size := by omega
     have hlw1 : w.heap.size < w4.heap.size + 1 := by omega
     have HB4 : Hid (Below w.heap.size w w4) := Lib.hid (((Below.refl w.heap.size w).alloc (Nat.le_refl _) _).trans (hb.mono (by simp)))
     have HY := Lib.hid hy
     simp only [World.size_alloc] at HY
     obtain ⟨AA, ccap, rfl, rfl, rfl, rfl, hko, hzo, hto, _⟩ := hy.open_
     have HOK := Lib.hid (And.intro hko (And.intro hzo hto))
     clear hb hbk hy hko hzo hto
     go_wp2_with fail
     refine (HD.out _).mono ?_
     rintro e w' ⟨rfl, rfl⟩
     simp only [numEnd]
     go_wp2
     refine bodyPost_ret (v := badTy 0 0) (by simp [badTy, results, Tryz.results42, go_sem, r0, r1, r2', r3, World.cell?_alloc_lt, hlw]) rfl ?_
     rw [HE.out]
     refine ⟨?_, 0, 0, rfl⟩
     exact (((((HB4.out.setCell (by simp) _).setCell (by simp) _).setCell (by simp) _).setCell (by simp) _).alloc (by simp [World.setCell]; omega) _)
    | some z2 =>
     obtain ⟨n, r2⟩ := z2
     obtain ⟨hp1, hp2, hp3, hp4⟩ := numR_pos (by omega) HN.out
     obtain ⟨q2, hq2⟩ : ∃ q2, s.size - r2.length = q2 := ⟨_, rfl⟩
     rw [hq2] at hp1 hp2 hp3
     have HQ2 := Lib.hid hq2
     have HP1 := Lib.hid hp1
     clear hp1
     by_cases hq2s : q2 < s.size
     ·have HR2 : Hid (r2 = s[q2] :: s.data.toList.drop (q2 + 1)) := Lib.hid (by rw [← HP1.out, drop_cons s q2 hq2s])
      by_cases h93 : s[q2].toNat = 93
      ·have f2 : ((s[q2].toNat : Int) != 93) = false := by simp [h93]
       have HE : Hid (R = some (.mk 4 n [x] 0, s.data.toList.drop (q2 + 1))) := Lib.hid (by rw [← HE2.out, HR2.out]; simp [tClose, h93])
       have HDQ := Lib.hid (dropT s (q2 + 1) (by omega))
       clear HE2 h93
       go_enter Tryz.func42, Tryz.ntmps42
       go_wp2_with fail
       rw [E9.out]
       refine HI.out.mono ?_
       rintro e w4 ⟨hb, c0, c1, c2, c3, rfl, hy⟩
       rw [HQ.out]
       have hbk := (Blk.new w 24 #[.int .i64 0, .int .i64 0, .slice none 0 0, .int .i64 0]).keep hb (by simp)
       obtain ⟨r0, r1, r2', r3, rf0, rf1, rf2, rf3⟩ := blk4 hbk
       have hz := hb.size
       simp only [World.size_alloc] at hz
       have hlw : w.heap.size < w4.heap.size := by omega
       have hlw1 : w.heap.size < w4.heap.size + 1 := by omega
       have HB4 : Hid (Below w.heap.size w w4) := Lib.hid (((Below.refl w.heap.size w).alloc (Nat.le_refl _) _).trans (hb.mono (by simp)))
       have HY := Lib.hid hy
       simp only [World.size_alloc] at HY
       obtain ⟨AA, ccap, rfl, rfl, rfl, rfl, hko, hzo, hto, _⟩ := hy.open_
       have HOK := Lib.hid (And.intro hko (And.intro hzo hto))
       clear hb hbk hy hko hzo hto
       go_wp2_with fail
       refine (HD.out _).mono ?_
       rintro e w' ⟨rfl, rfl⟩
       simp only [numEnd, HQ2.out]
       go_wp2
       refine bodyPost_ret (v := .tuple #[.agg #[.int .i64 4, .int .i64 n, .slice (some ⟨w4.heap.size + 1, 0, none⟩) 1 1, .int .i64 0], .int .i64 ((q2 : Int) + 1)]) (by simp [results, Tryz.results42, go_sem, r0, r1, r2', r3, World.cell?_alloc_lt, hlw, hlw1]) rfl ?_
       rw [HE.out]
       refine ⟨((((((HB4.out.setCell (by simp) _).setCell (by simp) _).setCell (by simp) _).setCell (by simp) _).alloc (by simp [World.setCell]; omega) _).alloc (by simp [World.setCell]; omega) _), _, _, _, _, by rw [HDQ.out]; go_num, ?_⟩
       have hon : Only [w.heap.size] w4 ((((((w4.setCell ⟨w.heap.size, 0, none⟩ (.int .i64 4)).setCell ⟨w.heap.size, 1, none⟩ (.int .i64 n)).setCell ⟨w.heap.size, 2, none⟩ (.slice (some ⟨w4.heap.size + 1, 0, none⟩) 1 1)).setCell ⟨w.heap.size, 3, none⟩ (.int .i64 0)).alloc (.cells #[.int .i64 x.kind, .int .i64 x.size, .slice AA x.sub.length ccap, .int .i64 x.tail] 24)).alloc (.cells #[.int .i64 x.kind, .int .i64 x.size, .slice AA x.sub.length ccap, .int .i64 x.tail] 24)) := (by repeat (first | exact Only.refl _ _ | assumption | with_reducible refine Only.drewN ?_ _ | with_reducible refine Only.drew ?_ | with_reducible refine Only.alloc ?_ _ | ((with_reducible refine Only.put ?_ ?_ _); · (first | omega | (simp <;> omega)))))
       refine ⟨rfl, rfl, rfl, okI_small (by omega) (by omega), okI_small (by omega) (by omega), okI_small (by omega) (by omega), by simp, _, 1, rfl, by simp, by simp, ⟨⟨w4.heap.size + 1, 0, .int .i64 x.kind, .int .i64 x.size, .slice AA x.sub.length ccap, .int .i64 x.tail, rfl, ?_, ?_, ?_, ?_, ?_, ?_⟩, trivial⟩⟩
       ·show w.heap.size ≤ w4.heap.size + 1
        omega
       ·exact (new_at _ _ _ (w4.heap.size + 1) (by simp [World.setCell])).cell 0
       ·exact (new_at _ _ _ (w4.heap.size + 1) (by simp [World.setCell])).cell 1
       ·exact (new_at _ _ _ (w4.heap.size + 1) (by simp [World.setCell])).cell 2
       ·exact (new_at _ _ _ (w4.heap.size + 1) (by simp [World.setCell])).cell 3
       ·refine HY.out.only (L := [w.heap.size]) hon ?_ ?_
        ·intro k hk hs
         have hk : k = w.heap.size := by simpa using hk
         have hs : w.heap.size + 1 ≤ k := hs
         omega
        ·intro k _ hs
         have hs : w.heap.size + 1 ≤ k := hs
         show w.heap.size ≤ k
         omega
      ·have f2 : ((s[q2].toNat : Int) != 93) = true := by simp; omega
       have HE : Hid (R = none) := Lib.hid (by rw [← HE2.out, HR2.out]; simp [tClose, h93])
       clear HE2 h93
       go_enter Tryz.func42, Tryz.ntmps42
       go_wp2_with fail
       rw [E9.out]
       refine HI.out.mono ?_
       rintro e w4 ⟨hb, c0, c1, c2, c3, rfl, hy⟩
       rw [HQ.out]
       have hbk := (Blk.new w 24 #[.int .i64 0, .int .i64 0, .slice none 0 0, .int .i64 0]).keep hb (by simp)
       obtain ⟨r0, r1, r2', r3, rf0, rf1, rf2, rf3⟩ := blk4 hbk
       have hz := hb.size
       simp only [World.size_alloc] at hz
       have hlw : w.heap.size < w4.heap.size := by omega
       have hlw1 : w.heap.size < w4.heap.size + 1 := by omega
       have HB4 : Hid (Below w.heap.size w w4) := Lib.hid (((Below.refl w.heap.size w).alloc (Nat.le_refl _) _).trans (hb.mono (by simp)))
       have HY := Lib.hid hy
       simp only [World.size_alloc] at HY
       obtain ⟨AA, ccap, rfl, rfl, rfl, rfl, hko, hzo, hto, _⟩ := hy.open_
       have HOK := Lib.hid (And.intro hko (And.intro hzo hto))
       clear hb hbk hy hko hzo hto
       go_wp2_with fail
       refine (HD.out _).mono ?_
       rintro e w' ⟨rfl, rfl⟩
       simp only [numEnd, HQ2.out]
       go_wp2
       refine bodyPost_ret (v := badTy 0 0) (by simp [badTy, results, Tryz.results42, go_sem, r0, r1, r2', r3, World.cell?_alloc_lt, hlw]) rfl ?_
       rw [HE.out]
       refine ⟨?_, 0, 0, rfl⟩
       exact (((((HB4.out.setCell (by simp) _).setCell (by simp) _).setCell (by simp) _).setCell (by simp) _).alloc (by simp [World.setCell]; omega) _)
     ·have HE : Hid (R = none) := Lib.hid (by rw [← HE2.out, ← HP1.out, List.drop_eq_nil_of_le (by simp; omega)]; rfl)
      clear HE2
      go_enter Tryz.func42, Tryz.ntmps42
      go_wp2_with fail
      rw [E9.out]
      refine HI.out.mono ?_
      rintro e w4 ⟨hb, c0, c1, c2, c3, rfl, hy⟩
      rw [HQ.out]
      have hbk := (Blk.new w 24 #[.int .i64 0, .int .i64 0, .slice none 0 0, .int .i64 0]).keep hb (by simp)
      obtain ⟨r0, r1, r2', r3, rf0, rf1, rf2, rf3⟩ := blk4 hbk
      have hz := hb.size
      simp only [World.size_alloc] at hz
      have hlw : w.heap.size < w4.heap.size := by omega
      have hlw1 : w.heap.size < w4.heap.size + 1 := by omega
      have HB4 : Hid (Below w.heap.size w w4) := Lib.hid (((Below.refl w.heap.size w).alloc (Nat.le_refl _) _).trans (hb.mono (by simp)))
      have HY := Lib.hid hy
      simp only [World.size_alloc] at HY
      obtain ⟨AA, ccap, rfl, rfl, rfl, rfl, hko, hzo, hto, _⟩ := hy.open_
      have HOK := Lib.hid (And.intro hko (And.intro hzo hto))
      clear hb hbk hy hko hzo hto
      go_wp2_with fail
      refine (HD.out _).mono ?_
      rintro e w' ⟨rfl, rfl⟩
      simp only [numEnd, HQ2.out]
      go_wp2
      refine bodyPost_ret (v := badTy 0 0) (by simp [badTy, results, Tryz.results42, go_sem, r0, r1, r2', r3, World.cell?_alloc_lt, hlw]) rfl ?_
      rw [HE.out]
      refine ⟨?_, 0, 0, rfl⟩
      exact (((((HB4.out.setCell (by simp) _).setCell (by simp) _).setCell (by simp) _).setCell (by simp) _).alloc (by simp [World.setCell]; omega) _)
   ·have f1 : ((s[q].toNat : Int) != 58) = true := by simp; omega
    have HE : Hid (R = none) := Lib.hid (by rw [← HE1.out, drop_cons s q hqs, tTail_no _ _ _ h58])
    clear HE1 h58
    go_enter Tryz.func42, Tryz.ntmps42
    go_wp2_with fail
    rw [E9.out]
    refine HI.out.mono ?_
    rintro e w4 ⟨hb, c0, c1, c2, c3, rfl, hy⟩
    rw [HQ.out]
    have hbk := (Blk.new w 24 #[.int .i64 0, .int .i64 0, .slice none 0 0, .int .i64 0]).keep hb (by simp)
    obtain ⟨r0, r1, r2', r3, rf0, rf1, rf2, rf3⟩ := blk4 hbk
    have hz := hb.size
    simp only [World.size_alloc] at hz
    have hlw : w.heap.size < w4.heap.size := by omega
    have hlw1 : w.heap.size < w4.heap.size + 1 := by omega
    have HB4 : Hid (Below w.heap.size w w4) := Lib.hid (((Below.refl w.heap.size w).alloc (Nat.le_refl _) _).trans (hb.mono (by simp)))
    have HY := Lib.hid hy
    simp only [World.size_alloc] at HY
    obtain ⟨AA, ccap, rfl, rfl, rfl, rfl, hko, hzo, hto, _⟩ := hy.open_
    have HOK := Lib.hid (And.intro hko (And.intro hzo hto))
    clear hb hbk hy hko hzo hto
    go_wp2
    refine bodyPost_ret (v := badTy 0 0) (by simp [badTy, results, Tryz.results42, go_sem, r0, r1, r2', r3, World.cell?_alloc_lt, hlw]) rfl ?_
    rw [HE.out]
    refine ⟨?_, 0, 0, rfl⟩
    exact (((((HB4.out.setCell (by simp) _).setCell (by simp) _).setCell (by simp) _).setCell (by simp) _).alloc (by simp [World.setCell]; omega) _)
  ·have HE : Hid (R = none) := Lib.hid (by rw [← HE1.out, List.drop_eq_nil_of_le (by simp; omega)]; rfl)
   clear HE1
   go_enter Tryz.func42, Tryz.ntmps42
   go_wp2_with fail
   rw [E9.out]
   refine HI.out.mono ?_
   rintro e w4 ⟨hb, c0, c1, c2, c3, rfl, hy⟩
   rw [HQ.out]
   have hbk := (Blk.new w 24 #[.int .i64 0, .int .i64 0, .slice none 0 0, .int .i64 0]).keep hb (by simp)
   obtain ⟨r0, r1, r2', r3, rf0, rf1, rf2, rf3⟩ := blk4 hbk
   have hz := hb.size
   simp only [World.size_alloc] at hz
   have hlw : w.heap.size < w4.heap.size := by omega
   have hlw1 : w.heap.size < w4.heap.size + 1 := by omega
   have HB4 : Hid (Below w.heap.size w w4) := Lib.hid (((Below.refl w.heap.size w).alloc (Nat.le_refl _) _).trans (hb.mono (by simp)))
   have HY := Lib.hid hy
   simp only [World.size_alloc] at HY
   obtain ⟨AA, ccap, rfl, rfl, rfl, rfl, hko, hzo, hto, _⟩ := hy.open_
   have HOK := Lib.hid (And.intro hko (And.intro hzo hto))
   clear hb hbk hy hko hzo hto
   go_wp2
   refine bodyPost_ret (v := badTy 0 0) (by simp [badTy, results, Tryz.results42, go_sem, r0, r1, r2', r3, World.cell?_alloc_lt, hlw]) rfl ?_
   rw [HE.out]
   refine ⟨?_, 0, 0, rfl⟩
   exact (((((HB4.out.setCell (by simp) _).setCell (by simp) _).setCell (by simp) _).setCell (by simp) _).alloc (by simp [World.setCell]; omega) _)
theorem tyParse_c : ∀ (f deep : Nat), deep + f = 9 → ∀ (s : ByteArray) (at_ : Nat) (w : World), at_ ≤ s.size → s.size ≤ 100000 →
 Calls Tryz.prog 42 #[.string s, .int .i64 at_, .int .i64 deep] w fun e w' => TyEnd s w (tItem f (s.data.toList.drop at_)) e w' := by
 intro f
 induction f with
 | zero =>
  intro deep hdp s at_ w hat hs
  have HE : Hid (tItem 0 (s.data.toList.drop at_) = none) := Lib.hid rfl
  generalize tItem 0 (s.data.toList.drop at_) = R at *
  have hd8 : 8 < deep := by omega
  clear hdp
  by_cases hlt : at_ < s.size
  ·go_enter Tryz.func42, Tryz.ntmps42
   go_wp2
   refine bodyPost_ret (v := badTy 0 0) (by simp [badTy, results, Tryz.results42, go_sem, HE]) rfl ?_
   rw [HE.out]
   exact ⟨(by repeat (first | exact Below.refl _ _ | assumption | with_reducible refine Below.drewN' ?_ _ | with_reducible refine Below.drew ?_ | ((with_reducible refine Below.alloc' ?_ ?_ _); · (first | omega | (simp <;> omega))))), 0, 0, rfl⟩
  ·go_enter Tryz.func42, Tryz.ntmps42
   go_wp2
   refine bodyPost_ret (v := badTy 0 0) (by simp [badTy, results, Tryz.results42, go_sem, HE]) rfl ?_
   rw [HE.out]
   exact ⟨(by repeat (first | exact Below.refl _ _ | assumption | with_reducible refine Below.drewN' ?_ _ | with_reducible refine Below.drew ?_ | ((with_reducible refine Below.alloc' ?_ ?_ _); · (first | omega | (simp <;> omega))))), 0, 0, rfl⟩
 | succ f ih =>
  intro deep hdp s at_ w hat hs
  have IH := Lib.hid (fun s at_ w => ih (deep + 1) (by omega) s at_ w)
  have hd8 : deep ≤ 8 := by omega
  clear ih hdp
  obtain ⟨R, HR⟩ : ∃ R, Hid (tItem (f + 1) (s.data.toList.drop at_) = R) := ⟨_, Lib.hid rfl⟩
  rw [HR.out]
  by_cases hlt : at_ < s.size
  ·by_cases hl : s[at_].toNat = 91
   ·exact tyParse_list f deep hd8 IH s at_ w hat hs R HR hlt hl
   ·by_cases ht : s[at_].toNat = 123
    ·exact tyParse_struct f deep hd8 IH s at_ w hat hs R HR hlt ht
    ·exact tyParse_num f deep hd8 IH s at_ w hat hs R HR hlt hl ht
  ·have HE : Hid (R = none) := Lib.hid (by rw [← HR.out, List.drop_eq_nil_of_le (by simp; omega), tItem_nil])
   clear HR
   go_enter Tryz.func42, Tryz.ntmps42
   go_wp2
   refine bodyPost_ret (v := badTy 0 0) (by simp [badTy, results, Tryz.results42, go_sem, HE]) rfl ?_
   rw [HE.out]
   exact ⟨(by repeat (first | exact Below.refl _ _ | assumption | with_reducible refine Below.drewN' ?_ _ | with_reducible refine Below.drew ?_ | ((with_reducible refine Below.alloc' ?_ ?_ _); · (first | omega | (simp <;> omega))))), 0, 0, rfl⟩
theorem tLoop_count {p : List UInt8 → Option (Ty × List UInt8)} (hp : ∀ l y r, p l = some (y, r) → y.count + r.length ≤ l.length) : ∀ n l acc tl y r, tLoop p n l acc tl = some (y, r) → y.count + r.length ≤ countT acc + l.length
 | 0, _, _, _, _, _, h => by simp [tLoop] at h
 | n + 1, [], _, _, _, _, h => by simp [tLoop] at h
 | n + 1, c :: l, acc, tl, y, r, h => by
  unfold tLoop at h
  split at h
  ·injection h with h; injection h with h1 h2
   rw [← h1, ← h2]; simp [Ty.count]; omega
  ·split at h
   ·cases h
   ·rename_i l1 h1
    split at h
    ·cases h
    ·rename_i l2 tl' h2
     split at h
     ·cases h
     ·rename_i y' r' h3
      have k1 := (tSep_some h1).length_le
      have k2 := (tQ_some h2).length_le
      have k3 := hp _ _ _ h3
      have k4 := tLoop_count hp n _ _ _ _ _ h
      rw [countT_append] at k4
      simp only [countT] at k4
      omega
theorem tItem_count : ∀ (f : Nat) (l : List UInt8) (y : Ty) (r : List UInt8), tItem f l = some (y, r) → y.count + r.length ≤ l.length
 | 0, _, _, _, h => by simp [tItem] at h
 | f + 1, [], _, _, h => by simp [tItem] at h
 | f + 1, c :: l, y, r, h => by
  have hl := (tItem_sfx _ _ _ _ h).2
  have hs := tItem_sfx _ _ _ _ h
  unfold tItem at h
  split at h
  ·split at h
   ·cases h
   ·split at h
    ·injection h with h; injection h with h1 h2; subst h1; simp [Ty.count, countT] at hl ⊢; omega
    ·cases h
  ·split at h
   ·split at h
    ·cases h
    ·injection h with h; injection h with h1 h2; subst h1; simp [Ty.count, countT] at hl ⊢; omega
   ·split at h
    ·split at h
     ·cases h
     ·injection h with h; injection h with h1 h2; subst h1; simp [Ty.count, countT] at hl ⊢; omega
    ·split at h
     ·split at h
      ·cases h
      ·rename_i x r' h1
       have k1 := tItem_count f _ _ _ h1
       have k2 := tTail_sfx h
       have k3 : y.count = 1 + x.count := by
        unfold tTail at h
        match r', h with
        | d :: r', h =>
         simp only at h
         split at h
         ·split at h
          ·cases h
          ·cases h
          ·split at h
           ·injection h with h; injection h with h3 h4; rw [← h3]; simp [Ty.count, countT]
           ·cases h
         ·cases h
       have := k2.2
       simp; omega
     ·split at h
      ·have k := tLoop_count (tItem_count f) _ _ _ _ _ _ h
       simp [countT] at k ⊢; omega
      ·cases h
def readT : Option (Ty × List UInt8) → Option Ty
 | none => none
 | some (x, []) => if x.may then some x else none
 | some (_, _ :: _) => none
theorem readTy_eq (l : List UInt8) : readTy l = readT (tItem 8 l) := by
 unfold readTy
 rcases tItem 8 l with _ | ⟨x, r⟩
 ·rfl
 ·cases r <;> rfl
def GetEnd20 (w : World) (R : Option Ty) (e : Ending) (w' : World) : Prop :=
 Below w.heap.size w w' ∧ match R with
  | none => e = .returned (.tuple #[.agg #[.int .i64 0, .int .i64 0, .slice none 0 0, .int .i64 0], .int .i64 3])
  | some x => ∃ c0 c1 c2 c3, e = .returned (.tuple #[.agg #[c0, c1, c2, c3], .int .i64 0]) ∧ TyS w' (w.heap.size ≤ ·) x c0 c1 c2 c3
theorem refGet20_c (s : ByteArray) (w : World) (hs : s.size ≤ 100000) :
 Calls Tryz.prog 17 #[.string s] w fun e w' => GetEnd20 w (readTy s.data.toList) e w' := by
 have HC := Lib.hid (tyParse_c 8 1 rfl s 0 (w.alloc (.cells #[.int .i64 0, .int .i64 0, .slice none 0 0, .int .i64 0] 24)) (Nat.zero_le _) hs)
 obtain ⟨T, HT⟩ : ∃ T, Hid (tItem 8 s.data.toList = T) := ⟨_, Lib.hid rfl⟩
 rw [List.drop_zero, HT.out] at HC
 obtain ⟨R, HR⟩ : ∃ R, Hid (readTy s.data.toList = R) := ⟨_, Lib.hid rfl⟩
 rw [HR.out]
 have HRD : Hid (readT T = R) := Lib.hid (by rw [← HR.out, readTy_eq, HT.out])
 clear HR
 cases T with
 | none =>
  have HE : Hid (R = none) := Lib.hid HRD.out.symm
  go_enter Tryz.func17, Tryz.ntmps17
  go_wp2_with fail
  refine HC.out.mono ?_
  rintro e w4 ⟨hb, v0, v1, rfl⟩
  have hbk := (Blk.new w 24 #[.int .i64 0, .int .i64 0, .slice none 0 0, .int .i64 0]).keep hb (by simp)
  have HBK := Lib.hid hbk
  obtain ⟨r0, r1, r2, r3, rf0, rf1, rf2, rf3⟩ := blk4 hbk
  have hz := hb.size
  simp only [World.size_alloc] at hz
  have hlw : w.heap.size < w4.heap.size := by omega
  have HB4 : Hid (Below w.heap.size w w4) := Lib.hid (((Below.refl w.heap.size w).alloc (Nat.le_refl _) _).trans (hb.mono (by simp)))
  clear hb hbk
  have n1 : ((-1 : Int) != (s.size : Int)) = true := by simp
  go_wp2
  refine bodyPost_ret (v := .tuple #[.agg #[.int .i64 0, .int .i64 0, .slice none 0 0, .int .i64 0], .int .i64 3]) (by simp [results, Tryz.results17, go_sem, r0, r1, r2, r3, World.cell?_alloc_lt, hlw]) rfl ?_
  rw [HE.out]
  exact ⟨(((((HB4.out.setCell (by simp) _).setCell (by simp) _).setCell (by simp) _).setCell (by simp) _).alloc (by simp [World.setCell]; omega) _), rfl⟩
 | some z =>
  obtain ⟨x, r⟩ := z
  have hcnt := tItem_count _ _ _ _ HT.out
  have hlen := (tItem_sfx _ _ _ _ HT.out).2
  rw [toList_size] at hcnt hlen
  cases r with
  | cons c r =>
   have HE : Hid (R = none) := Lib.hid HRD.out.symm
   have n1 : (((s.size - (c :: r).length : Nat) : Int) != (s.size : Int)) = true := by simp at hlen ⊢; omega
   have n2 : ((s.size - (c :: r).length) != s.size) = true := by simp at hlen ⊢; omega
   generalize s.size - (c :: r).length = q at *
   go_enter Tryz.func17, Tryz.ntmps17
   go_wp2_with fail
   refine HC.out.mono ?_
   rintro e w4 ⟨hb, c0, c1, c2, c3, rfl, hy⟩
   obtain ⟨AA, ccap, rfl, rfl, rfl, rfl, _⟩ := hy.open_
   have hbk := (Blk.new w 24 #[.int .i64 0, .int .i64 0, .slice none 0 0, .int .i64 0]).keep hb (by simp)
   have HBK := Lib.hid hbk
   obtain ⟨r0, r1, r2, r3, rf0, rf1, rf2, rf3⟩ := blk4 hbk
   have hz := hb.size
   simp only [World.size_alloc] at hz
   have hlw : w.heap.size < w4.heap.size := by omega
   have HB4 : Hid (Below w.heap.size w w4) := Lib.hid (((Below.refl w.heap.size w).alloc (Nat.le_refl _) _).trans (hb.mono (by simp)))
   clear hb hbk
   go_wp2
   refine bodyPost_ret (v := .tuple #[.agg #[.int .i64 0, .int .i64 0, .slice none 0 0, .int .i64 0], .int .i64 3]) (by simp [results, Tryz.results17, go_sem, r0, r1, r2, r3, World.cell?_alloc_lt, hlw]) rfl ?_
   rw [HE.out]
   exact ⟨(((((HB4.out.setCell (by simp) _).setCell (by simp) _).setCell (by simp) _).setCell (by simp) _).alloc (by simp [World.setCell]; omega) _), rfl⟩
  | nil =>
   have n1 : ((s.size : Int) != (s.size : Int)) = false := by simp
   have n2 : (s.size != s.size) = false := by simp
   have HCN := Lib.hid hcnt
   obtain ⟨m, hm⟩ : ∃ m, x.may = m := ⟨_, rfl⟩
   have HE : Hid (R = if m then some x else none) := Lib.hid (by rw [← hm]; exact HRD.out.symm)
   clear hcnt hlen
   go_enter Tryz.func17, Tryz.ntmps17
   go_wp2_with fail
   refine HC.out.mono ?_
   rintro e w4 ⟨hb, c0, c1, c2, c3, rfl, hy⟩
   have HY := Lib.hid hy
   obtain ⟨AA, ccap, rfl, rfl, rfl, rfl, _⟩ := hy.open_
   have hbk := (Blk.new w 24 #[.int .i64 0, .int .i64 0, .slice none 0 0, .int .i64 0]).keep hb (by simp)
   have HBK := Lib.hid hbk
   obtain ⟨r0, r1, r2, r3, rf0, rf1, rf2, rf3⟩ := blk4 hbk
   have hz := hb.size
   simp only [World.size_alloc] at hz
   have hlw : w.heap.size < w4.heap.size := by omega
   have HB4 : Hid (Below w.heap.size w w4) := Lib.hid (((Below.refl w.heap.size w).alloc (Nat.le_refl _) _).trans (hb.mono (by simp)))
   clear hb hbk
   have hin := TyS.toIn x (HY.out.below ((Below.refl _ _).alloc (Nat.le_refl _) (.cells #[.int .i64 x.kind, .int .i64 x.size, .slice AA x.sub.length ccap, .int .i64 x.tail] 24)))
   have HM := Lib.hid (may20_c x _ (w4.alloc (.cells #[.int .i64 x.kind, .int .i64 x.size, .slice AA x.sub.length ccap, .int .i64 x.tail] 24)) _ _ _ _ hin (Nat.le_refl _) (by have := HCN.out; omega))
   rw [hm] at HM
   have HXO := Lib.hid hm
   clear hin hm hy
   have HS0 : Hid (s.size - ([] : List UInt8).length = s.size) := Lib.hid rfl
   go_wp2_with fail
   refine HM.out.mono ?_
   rintro e w5 ⟨rfl, hb5⟩
   have hz5 := hb5.size
   simp only [World.size_alloc] at hz5
   clear r0 r1 r2 r3 rf0 rf1 rf2 rf3
   obtain ⟨r0, r1, r2, r3, rf0, rf1, rf2, rf3⟩ := blk4 ((HBK.out.alloc _).keep hb5 (by simp; omega))
   obtain ⟨b0, b1, b2, b3, bf0, bf1, bf2, bf3⟩ := blk4 ((Blk.new w4 24 #[.int .i64 x.kind, .int .i64 x.size, .slice AA x.sub.length ccap, .int .i64 x.tail]).keep hb5 (by simp))
   have HB5 : Hid (Below w.heap.size w w5) := Lib.hid ((HB4.out.alloc (by omega) _).trans (hb5.mono (by simp; omega)))
   have HY5 := Lib.hid ((HY.out.below ((Below.refl _ _).alloc (Nat.le_refl _) (.cells #[.int .i64 x.kind, .int .i64 x.size, .slice AA x.sub.length ccap, .int .i64 x.tail] 24))).below hb5)
   clear hb5
   cases m with
   | true =>
    go_wp2
    refine bodyPost_ret (v := .tuple #[.agg #[.int .i64 x.kind, .int .i64 x.size, .slice AA x.sub.length ccap, .int .i64 x.tail], .int .i64 0]) (by simp [results, Tryz.results17, go_sem, r0, r1, r2, r3]) rfl ?_
    rw [HE.out]
    refine ⟨(((HB5.out.setCell (by simp) _).setCell (by simp) _).setCell (by simp) _).setCell (by simp) _, _, _, _, _, rfl, ?_⟩
    refine HY5.out.only (L := [w.heap.size]) (by repeat (first | exact Only.refl _ _ | assumption | with_reducible refine Only.drewN ?_ _ | with_reducible refine Only.drew ?_ | with_reducible refine Only.alloc ?_ _ | ((with_reducible refine Only.put ?_ ?_ _); · (first | omega | (simp <;> omega))))) ?_ ?_
    ·intro k hk hs
     have hk : k = w.heap.size := by simpa using hk
     have hs : (w.alloc (.cells #[.int .i64 0, .int .i64 0, .slice none 0 0, .int .i64 0] 24)).heap.size ≤ k := hs
     simp at hs
     omega
    ·intro k _ hs
     have hs : (w.alloc (.cells #[.int .i64 0, .int .i64 0, .slice none 0 0, .int .i64 0] 24)).heap.size ≤ k := hs
     simp at hs
     show w.heap.size ≤ k
     omega
   | false =>
    go_wp2
    refine bodyPost_ret (v := .tuple #[.agg #[.int .i64 0, .int .i64 0, .slice none 0 0, .int .i64 0], .int .i64 3]) (by simp [results, Tryz.results17, go_sem, r0, r1, r2, r3, World.cell?_alloc_lt, hlw]) rfl ?_
    rw [HE.out]
    exact ⟨(((HB5.out.setCell (by simp) _).setCell (by simp) _).setCell (by simp) _).setCell (by simp) _, rfl⟩
end Go.Proofs.YtcppbdbbgakfcaaGreatDoor
