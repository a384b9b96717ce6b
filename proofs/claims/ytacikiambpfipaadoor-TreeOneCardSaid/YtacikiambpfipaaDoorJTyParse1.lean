/- The document's parse of types: numbers, and no type. -/
import Derived.Test.YtacikiambpfipaaDoorJA6
namespace Go.Proofs.YtacikiambpfipaaDoor
set_option linter.unusedVariables false
set_option linter.unusedSimpArgs false
open Go.RowKit

set_option maxRecDepth 100000 in
set_option maxHeartbeats 3200000 in
theorem tyParse_num (f deep : Nat) (hd8 : deep ≤ 8) (IH : Hid (∀ (s : ByteArray) (at_ : Nat) (w : World), at_ ≤ s.size → s.size ≤ 100000 →
    Calls Tryd.prog 96 #[.string s, .int .i64 at_, .int .i64 ((deep + 1 : Nat) : Int)] w fun e w' => TyEnd s w (tItem f (s.data.toList.drop at_)) e w')) (s : ByteArray) (at_ : Nat) (w : World) (hat : at_ ≤ s.size) (hs : s.size ≤ 100000)
    (R : Option (Ty × List UInt8)) (HR : Hid (tItem (f + 1) (s.data.toList.drop at_) = R)) (hlt : at_ < s.size) (hl : s[at_].toNat ≠ 91) (ht : s[at_].toNat ≠ 123) :
    Calls Tryd.prog 96 #[.string s, .int .i64 at_, .int .i64 deep] w fun e w' => TyEnd s w R e w' := by
  have d1 : decide (s.size ≤ at_) = false := by simp; omega
  have d2 : decide ((8 : Int) < (deep : Int)) = false := by simp; omega
  have hb256 := s[at_].toNat_lt
  have HC : Hid (tItem (f + 1) (s[at_] :: s.data.toList.drop (at_ + 1)) = R) := Lib.hid (by rw [← drop_cons s at_ hlt]; exact HR.out)
  have HD := Lib.hid (fun w => digits20_c s (at_ + 1) w (by omega) hs)
  have E8 : Hid (((at_ + 1 : Nat) : Int) = (at_ : Int) + 1) := Lib.hid (by omega)
  obtain ⟨N, HN⟩ : ∃ N, Hid (numR (s.data.toList.drop (at_ + 1)) = N) := ⟨_, Lib.hid rfl⟩
  rw [HN.out, E8.out] at HD
  clear HR
  by_cases hu : s[at_].toNat = 117
  · have e1 : ((s[at_].toNat : Int) == 117) = true := by simp [hu]
    have HE0 : Hid (numU N = R) := Lib.hid (by rw [← HC.out, show s[at_] = 117 from UInt8.toNat_inj.1 hu, tItem_u, HN.out])
    clear hu HC
    cases N with
    | none =>
      have HE : Hid (R = none) := Lib.hid HE0.out.symm
      clear HE0
      go_enter Tryd.func96, Tryd.ntmps96
      go_wp2_with fail
      refine (HD.out _).mono ?_
      rintro e w' ⟨rfl, rfl⟩
      simp only [numEnd]
      go_wp2
      refine bodyPost_ret (v := badTy 1 0) (by simp [badTy, results, Tryd.results96, go_sem]) rfl ?_
      rw [HE.out]
      exact ⟨(by repeat (first | exact Below.refl _ _ | assumption | with_reducible refine Below.drewN' ?_ _ | with_reducible refine Below.drew ?_ | ((with_reducible refine Below.alloc' ?_ ?_ _); · (first | omega | (simp <;> omega))))), 1, 0, rfl⟩
    | some z =>
      obtain ⟨n, r⟩ := z
      obtain ⟨hp1, hp2, hp3, hp4⟩ := numR_pos (by omega) HN.out
      by_cases h8 : n % 8 = 0
      · have HE : Hid (R = some (Ty.mk 1 ((n / 8 : Nat) : Int) [] 0, r)) := Lib.hid (by rw [← HE0.out]; simp [numU, h8])
        have hm8 : ((n : Int) % 8 != 0) = false := by simp; omega
        have E6 : Hid (((n / 8 : Nat) : Int) = (n : Int) / 8) := Lib.hid (by omega)
        have HR9 : Hid (s.size - r.length = s.size - r.length) := Lib.hid rfl
        clear HE0 h8 hp1
        obtain ⟨q, hq⟩ : ∃ q, s.size - r.length = q := ⟨_, rfl⟩
        have HQ := Lib.hid hq
        rw [hq] at hp2 hp3
        go_enter Tryd.func96, Tryd.ntmps96
        go_wp2_with fail
        refine (HD.out _).mono ?_
        rintro e w' ⟨rfl, rfl⟩
        simp only [numEnd, hq]
        clear hq
        go_wp2
        refine bodyPost_ret (v := .tuple #[.agg #[.int .i64 1, .int .i64 ((n : Int) / 8), .slice none 0 0, .int .i64 0], .int .i64 (q : Int)]) (by simp [results, Tryd.results96, go_sem]) rfl ?_
        rw [HE.out]
        refine ⟨(by repeat (first | exact Below.refl _ _ | assumption | with_reducible refine Below.drewN' ?_ _ | with_reducible refine Below.drew ?_ | ((with_reducible refine Below.alloc' ?_ ?_ _); · (first | omega | (simp <;> omega))))), _, _, _, _, by rw [HQ.out], ?_⟩
        have hzz := E6.out
        first | exact TyS.leaf (okI_small (by omega) (by omega)) (okI_small (by omega) (by omega)) (okI_small (by omega) (by omega)) | (rw [E6.out]; exact TyS.leaf (okI_small (by omega) (by omega)) (okI_small (by omega) (by omega)) (okI_small (by omega) (by omega)))
      · have HE : Hid (R = none) := Lib.hid (by rw [← HE0.out]; simp [numU, h8])
        have hm8 : ((n : Int) % 8 != 0) = true := by simp; omega
        clear HE0 h8 hp1
        go_enter Tryd.func96, Tryd.ntmps96
        go_wp2_with fail
        refine (HD.out _).mono ?_
        rintro e w' ⟨rfl, rfl⟩
        simp only [numEnd]
        go_wp2
        refine bodyPost_ret (v := badTy 0 0) (by simp [badTy, results, Tryd.results96, go_sem,]) rfl ?_
        rw [HE.out]
        exact ⟨(by repeat (first | exact Below.refl _ _ | assumption | with_reducible refine Below.drewN' ?_ _ | with_reducible refine Below.drew ?_ | ((with_reducible refine Below.alloc' ?_ ?_ _); · (first | omega | (simp <;> omega))))), 0, 0, rfl⟩
  · have e1 : ((s[at_].toNat : Int) == 117) = false := beq_eq_false_iff_ne.2 (by omega)
    have hm8 : True := trivial
    by_cases hbb : s[at_].toNat = 98
    · have e2 : ((s[at_].toNat : Int) == 98) = true := by simp [hbb]
      have HE0 : Hid (numK 2 N = R) := Lib.hid (by rw [← HC.out, show s[at_] = 98 from UInt8.toNat_inj.1 hbb, tItem_b, HN.out])
      clear hu hbb HC
      cases N with
      | none =>
        have HE : Hid (R = none) := Lib.hid HE0.out.symm
        clear HE0
        go_enter Tryd.func96, Tryd.ntmps96
        go_wp2_with fail
        refine (HD.out _).mono ?_
        rintro e w' ⟨rfl, rfl⟩
        simp only [numEnd]
        go_wp2
        refine bodyPost_ret (v := badTy 2 0) (by simp [badTy, results, Tryd.results96, go_sem]) rfl ?_
        rw [HE.out]
        exact ⟨(by repeat (first | exact Below.refl _ _ | assumption | with_reducible refine Below.drewN' ?_ _ | with_reducible refine Below.drew ?_ | ((with_reducible refine Below.alloc' ?_ ?_ _); · (first | omega | (simp <;> omega))))), 2, 0, rfl⟩
      | some z =>
        obtain ⟨n, r⟩ := z
        obtain ⟨hp1, hp2, hp3, hp4⟩ := numR_pos (by omega) HN.out
        have HE : Hid (R = some (Ty.mk 2 (n : Int) [] 0, r)) := Lib.hid HE0.out.symm
        have h8 : True := trivial
        have E6 : Hid (((n / 8 : Nat) : Int) = (n : Int) / 8) := Lib.hid (by omega)
        have HR9 : Hid (s.size - r.length = s.size - r.length) := Lib.hid rfl
        clear HE0 h8 hp1
        obtain ⟨q, hq⟩ : ∃ q, s.size - r.length = q := ⟨_, rfl⟩
        have HQ := Lib.hid hq
        rw [hq] at hp2 hp3
        go_enter Tryd.func96, Tryd.ntmps96
        go_wp2_with fail
        refine (HD.out _).mono ?_
        rintro e w' ⟨rfl, rfl⟩
        simp only [numEnd, hq]
        clear hq
        go_wp2
        refine bodyPost_ret (v := .tuple #[.agg #[.int .i64 2, .int .i64 (n : Int), .slice none 0 0, .int .i64 0], .int .i64 (q : Int)]) (by simp [results, Tryd.results96, go_sem]) rfl ?_
        rw [HE.out]
        refine ⟨(by repeat (first | exact Below.refl _ _ | assumption | with_reducible refine Below.drewN' ?_ _ | with_reducible refine Below.drew ?_ | ((with_reducible refine Below.alloc' ?_ ?_ _); · (first | omega | (simp <;> omega))))), _, _, _, _, by rw [HQ.out], ?_⟩
        have hzz := E6.out
        first | exact TyS.leaf (okI_small (by omega) (by omega)) (okI_small (by omega) (by omega)) (okI_small (by omega) (by omega)) | (rw [E6.out]; exact TyS.leaf (okI_small (by omega) (by omega)) (okI_small (by omega) (by omega)) (okI_small (by omega) (by omega)))
    · have e2 : ((s[at_].toNat : Int) == 98) = false := beq_eq_false_iff_ne.2 (by omega)
      by_cases hss : s[at_].toNat = 115
      · have e3 : ((s[at_].toNat : Int) == 115) = true := by simp [hss]
        have HE0 : Hid (numK 3 N = R) := Lib.hid (by rw [← HC.out, show s[at_] = 115 from UInt8.toNat_inj.1 hss, tItem_s, HN.out])
        clear hu hbb hss HC
        cases N with
        | none =>
          have HE : Hid (R = none) := Lib.hid HE0.out.symm
          clear HE0
          go_enter Tryd.func96, Tryd.ntmps96
          go_wp2_with fail
          refine (HD.out _).mono ?_
          rintro e w' ⟨rfl, rfl⟩
          simp only [numEnd]
          go_wp2
          refine bodyPost_ret (v := badTy 3 0) (by simp [badTy, results, Tryd.results96, go_sem]) rfl ?_
          rw [HE.out]
          exact ⟨(by repeat (first | exact Below.refl _ _ | assumption | with_reducible refine Below.drewN' ?_ _ | with_reducible refine Below.drew ?_ | ((with_reducible refine Below.alloc' ?_ ?_ _); · (first | omega | (simp <;> omega))))), 3, 0, rfl⟩
        | some z =>
          obtain ⟨n, r⟩ := z
          obtain ⟨hp1, hp2, hp3, hp4⟩ := numR_pos (by omega) HN.out
          have HE : Hid (R = some (Ty.mk 3 (n : Int) [] 0, r)) := Lib.hid HE0.out.symm
          have h8 : True := trivial
          have E6 : Hid (((n / 8 : Nat) : Int) = (n : Int) / 8) := Lib.hid (by omega)
          have HR9 : Hid (s.size - r.length = s.size - r.length) := Lib.hid rfl
          clear HE0 h8 hp1
          obtain ⟨q, hq⟩ : ∃ q, s.size - r.length = q := ⟨_, rfl⟩
          have HQ := Lib.hid hq
          rw [hq] at hp2 hp3
          go_enter Tryd.func96, Tryd.ntmps96
          go_wp2_with fail
          refine (HD.out _).mono ?_
          rintro e w' ⟨rfl, rfl⟩
          simp only [numEnd, hq]
          clear hq
          go_wp2
          refine bodyPost_ret (v := .tuple #[.agg #[.int .i64 3, .int .i64 (n : Int), .slice none 0 0, .int .i64 0], .int .i64 (q : Int)]) (by simp [results, Tryd.results96, go_sem]) rfl ?_
          rw [HE.out]
          refine ⟨(by repeat (first | exact Below.refl _ _ | assumption | with_reducible refine Below.drewN' ?_ _ | with_reducible refine Below.drew ?_ | ((with_reducible refine Below.alloc' ?_ ?_ _); · (first | omega | (simp <;> omega))))), _, _, _, _, by rw [HQ.out], ?_⟩
          have hzz := E6.out
          first | exact TyS.leaf (okI_small (by omega) (by omega)) (okI_small (by omega) (by omega)) (okI_small (by omega) (by omega)) | (rw [E6.out]; exact TyS.leaf (okI_small (by omega) (by omega)) (okI_small (by omega) (by omega)) (okI_small (by omega) (by omega)))
      · have e3 : ((s[at_].toNat : Int) == 115) = false := beq_eq_false_iff_ne.2 (by omega)
        have e4 : ((s[at_].toNat : Int) == 91) = false := beq_eq_false_iff_ne.2 (by omega)
        have e5 : ((s[at_].toNat : Int) != 123) = true := by simp; omega
        have HE : Hid (R = none) := Lib.hid (by rw [← HC.out, tItem_no _ _ _ hu hbb hss hl ht])
        clear hu hbb hss hl ht HC
        go_enter Tryd.func96, Tryd.ntmps96
        go_wp2
        refine bodyPost_ret (v := badTy 0 0) (by simp [badTy, results, Tryd.results96, go_sem,]) rfl ?_
        rw [HE.out]
        exact ⟨(by repeat (first | exact Below.refl _ _ | assumption | with_reducible refine Below.drewN' ?_ _ | with_reducible refine Below.drew ?_ | ((with_reducible refine Below.alloc' ?_ ?_ _); · (first | omega | (simp <;> omega))))), 0, 0, rfl⟩
end Go.Proofs.YtacikiambpfipaaDoor
