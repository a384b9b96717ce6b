/- hatchwaylaw14.CoinTurned. -/
import Derived.Test.YtacikiambpfipaaDoorCoinPuts
namespace Go.Proofs.YtacikiambpfipaaDoor
set_option linter.unusedVariables false
set_option linter.unusedSimpArgs false
open Go.RowKit

/-- What the walk leaves of 'b[k] + 1 + by%255', as a byte. -/
def turnB (b by_ : Nat) : UInt8 := ub ((b + 1) % 256 + by_ % 255 : Nat)
theorem turnB_val (b by_ : Nat) (hb : b < 256) : ((b : Int) + 1 + (by_ : Int) % 255) % 256 = ((turnB b by_).toNat : Int) := by
  simp [turnB, ub]
  omega
theorem turnB_ne (b : UInt8) (by_ : Nat) : turnB b.toNat by_ ≠ b := by
  intro e
  have h := congrArg UInt8.toNat e
  have hb := b.toNat_lt
  simp only [turnB, ub, Int.toNat_natCast] at h
  simp at h
  omega
set_option maxRecDepth 100000 in
set_option maxHeartbeats 4000000 in
theorem coinTurned_w (m : Nat) (nm body : ByteArray) (a b : Nat) (w : World) (hm : m < 4294967296) (hn1 : nm.size ≤ 9223372036854775807) (hb1 : body.size ≤ 9223372036854775807) (ha : a < 256) (hb : b < 256) :
    Calls Tryd.prog 6 #[.int .u32 m, .string nm, .string body, .int .u8 a, .int .u8 b] w fun e w' => e = .returned (.bool true) ∧ Below w.heap.size w w' := by
  have HA := Lib.hid coinAlive
  have HM := Lib.hid (fun w => refMayN_c nm w hn1)
  cases hm2 : nmMay nm with
  | false =>
    rw [hm2] at HM
    clear hm2
    go_enter Tryd.func6, Tryd.ntmps6
    go_wp2_with fail
    refine (HA.out _).mono ?_
    rintro e w1 ⟨rfl, hb⟩
    have hz1 := hb.size
    go_wp2_with fail
    refine (HM.out _).mono ?_
    rintro e w' ⟨rfl, rfl⟩
    go_wp2
    go_ret
    exact ⟨rfl, hb⟩
  | true =>
    rw [hm2] at HM
    by_cases h1 : 300 < body.size
    · clear hm2
      go_enter Tryd.func6, Tryd.ntmps6
      go_wp2_with fail
      refine (HA.out _).mono ?_
      rintro e w1 ⟨rfl, hb⟩
      have hz1 := hb.size
      go_wp2_with fail
      refine (HM.out _).mono ?_
      rintro e w' ⟨rfl, rfl⟩
      go_wp2
      go_ret
      exact ⟨rfl, hb⟩
    have HR := Lib.hid (fun w => ref14Put_c m nm body w hm hm2 (by omega))
    have hz := cnPut_size m nm body (nmMay_size hm2).2
    have HK := Lib.hid makeKey_c
    unfold keyV at HK HR
    generalize kC 64 = KL at *
    obtain ⟨ht1, ht2⟩ : (∀ k : Nat, k < 4 → ∀ w, Calls Tryd.prog 19 #[.int .u32 m, .int .i64 65536, .string (setB (cnPut m nm body) k (turnB ((cnPut m nm body).data.toList.getD k 0).toNat b))] w fun e w' => e = .returned (cnRet (9, ByteArray.empty, ByteArray.empty, 0)) ∧ Below w.heap.size w w') ∧
        (∀ k : Nat, 20 ≤ k → k < 24 → ∀ w, Calls Tryd.prog 19 #[.int .u32 m, .int .i64 65536, .string (setB (cnPut m nm body) k (turnB ((cnPut m nm body).data.toList.getD k 0).toNat b))] w fun e w' => e = .returned (cnRet (10, ByteArray.empty, ByteArray.empty, 0)) ∧ Below w.heap.size w w') := by
      have hd : ∀ k (h : k < (cnPut m nm body).size), (cnPut m nm body).data.toList.getD k 0 = (cnPut m nm body)[k] := fun k h => by rw [List.getD_eq_getElem?_getD, byte_at _ k h]; rfl
      have hcn : ∀ k x, ∀ w, Calls Tryd.prog 19 #[.int .u32 m, .int .i64 65536, .string (setB (cnPut m nm body) k x)] w fun e w' => e = .returned (cnRet (cnNext m 65536 (setB (cnPut m nm body) k x))) ∧ Below w.heap.size w w' :=
        fun k x w => coinNext_c m 65536 (setB (cnPut m nm body) k x) w hm (by rw [setB_size]; omega) ⟨by omega, by omega⟩
      refine ⟨fun k hk w => ?_, fun k hk hk' w => ?_⟩
      · have h := hcn k (turnB ((cnPut m nm body).data.toList.getD k 0).toNat b) w
        have hkz : k < (cnPut m nm body).size := by omega
        rw [hd k hkz] at h ⊢
        rw [(cnNext_turned m 65536 nm body k (turnB (cnPut m nm body)[k].toNat b) hm2 (by omega) (by omega) hkz (turnB_ne _ _)).1 hk] at h
        exact h
      · have h := hcn k (turnB ((cnPut m nm body).data.toList.getD k 0).toNat b) w
        have hkz : k < (cnPut m nm body).size := by omega
        rw [hd k hkz] at h ⊢
        rw [(cnNext_turned m 65536 nm body k (turnB (cnPut m nm body)[k].toNat b) hm2 (by omega) (by omega) hkz (turnB_ne _ _)).2 hk hk'] at h
        exact h
    have hz24 : 24 ≤ (cnPut m nm body).size := by omega
    have hzm : (cnPut m nm body).size ≤ 1000 := by omega
    clear hz hm2
    generalize cnPut m nm body = S at *
    unfold cnRet at ht1 ht2
    dsimp only at ht1 ht2
    obtain ⟨k0, hk0⟩ : ∃ k0 : Nat, a % 8 = k0 := ⟨_, rfl⟩
    have hk8 : k0 < 8 := by omega
    have ek : ((a : Nat) : Int) % 8 = (k0 : Int) := by omega
    clear hk0
    have kc := fun (w : World) (s : ByteArray) => Lib.run_convert_string_bytes (P := Tryd.prog) w 9 54 5 s Tryd.underlying9 Tryd.underlying54 Tryd.underlying5
    by_cases hk : k0 < 4
    · have HN := Lib.hid (ht1 k0 hk)
      have hkz : k0 < S.size := by omega
      have hc256 := (S.data.toList.getD k0 0).toNat_lt
      have ev := turnB_val (S.data.toList.getD k0 0).toNat b hc256
      have HB0 := Lib.hid (fun w : World => Buf.conv w w.heap.size 5 S (Nat.le_refl _) (by omega))
      have HB1 := Lib.hid (fun w : World => (HB0.out w).set (k := k0) (by rw [toList_size]; exact hkz) (turnB (S.data.toList.getD k0 0).toNat b))
      have HB2 := Lib.hid (fun w : World => (HB1.out w).str' (P := Tryd.prog) Tryd.underlying54 Tryd.underlying5 Tryd.underlying9)
      have HE := Lib.hid (show (⟨(S.data.toList.set k0 (turnB (S.data.toList.getD k0 0).toNat b)).toArray⟩ : ByteArray) = setB S k0 (turnB (S.data.toList.getD k0 0).toNat b) from rfl)
      have HA0 := Lib.hid (fun w : World => (HB0.out w).at_ (k := k0) (by rw [toList_size]; exact hkz))
      clear ht1 ht2 HB1
      simp only [HE.out] at HB2
      clear HE
      generalize setB S k0 (turnB (S.data.toList.getD k0 0).toNat b) = q at *
      generalize turnB (S.data.toList.getD k0 0).toNat b = d at *
      generalize (S.data.toList.getD k0 0).toNat = cn at *
      go_enter Tryd.func6, Tryd.ntmps6
      go_wp2_with fail
      refine (HA.out _).mono ?_
      rintro e w1 ⟨rfl, hb⟩
      have hz1 := hb.size
      go_wp2_with fail
      refine (HM.out _).mono ?_
      rintro e w' ⟨rfl, rfl⟩
      go_wp2_with fail
      refine (HK.out _).mono ?_
      rintro e w2 ⟨rfl, hb2⟩
      have hW2 := hb.trans (hb2.mono hz1)
      clear hb2
      go_wp2_with fail
      refine (HR.out _).mono ?_
      rintro e w3 ⟨rfl, hb3⟩
      have hz2 := hW2.size
      have hW3 := hW2.trans (hb3.mono hz2)
      have hz3 := hW3.size
      clear hW2 hb3
      have c1 := (HA0.out w3).1
      have f1 := (HA0.out w3).2.1
      have k1 := HB2.out w3
      have hcap := grownCap_ge w3 S.size 0 5
      have hW4 := (bw_below hW3 hz3 5 S).setCell (p := ⟨w3.heap.size, k0, none⟩) hz3 (.int .u8 d.toNat)
      go_wp2_with fail
      refine (HN.out _).mono ?_
      rintro e w5 ⟨rfl, hb5⟩
      have hW5 := hW4.trans (hb5.mono hW4.size)
      have hz5 := hW5.size
      clear hW4 hb5
      go_wp2
      go_ret
      exact ⟨rfl, hW5.alloc hz5 _⟩
    · have HN := Lib.hid (ht2 (k0 + 16) (by omega) (by omega))
      have hkz : k0 + 16 < S.size := by omega
      have hc256 := (S.data.toList.getD (k0 + 16) 0).toNat_lt
      have ev := turnB_val (S.data.toList.getD (k0 + 16) 0).toNat b hc256
      have HB0 := Lib.hid (fun w : World => Buf.conv w w.heap.size 5 S (Nat.le_refl _) (by omega))
      have HB1 := Lib.hid (fun w : World => (HB0.out w).set (k := (k0 + 16)) (by rw [toList_size]; exact hkz) (turnB (S.data.toList.getD (k0 + 16) 0).toNat b))
      have HB2 := Lib.hid (fun w : World => (HB1.out w).str' (P := Tryd.prog) Tryd.underlying54 Tryd.underlying5 Tryd.underlying9)
      have HE := Lib.hid (show (⟨(S.data.toList.set (k0 + 16) (turnB (S.data.toList.getD (k0 + 16) 0).toNat b)).toArray⟩ : ByteArray) = setB S (k0 + 16) (turnB (S.data.toList.getD (k0 + 16) 0).toNat b) from rfl)
      have HA0 := Lib.hid (fun w : World => (HB0.out w).at_ (k := (k0 + 16)) (by rw [toList_size]; exact hkz))
      clear ht1 ht2 HB1
      simp only [HE.out] at HB2
      clear HE
      generalize setB S (k0 + 16) (turnB (S.data.toList.getD (k0 + 16) 0).toNat b) = q at *
      generalize turnB (S.data.toList.getD (k0 + 16) 0).toNat b = d at *
      generalize (S.data.toList.getD (k0 + 16) 0).toNat = cn at *
      go_enter Tryd.func6, Tryd.ntmps6
      go_wp2_with fail
      refine (HA.out _).mono ?_
      rintro e w1 ⟨rfl, hb⟩
      have hz1 := hb.size
      go_wp2_with fail
      refine (HM.out _).mono ?_
      rintro e w' ⟨rfl, rfl⟩
      go_wp2_with fail
      refine (HK.out _).mono ?_
      rintro e w2 ⟨rfl, hb2⟩
      have hW2 := hb.trans (hb2.mono hz1)
      clear hb2
      go_wp2_with fail
      refine (HR.out _).mono ?_
      rintro e w3 ⟨rfl, hb3⟩
      have hz2 := hW2.size
      have hW3 := hW2.trans (hb3.mono hz2)
      have hz3 := hW3.size
      clear hW2 hb3
      have c1 := (HA0.out w3).1
      have f1 := (HA0.out w3).2.1
      have k1 := HB2.out w3
      have hcap := grownCap_ge w3 S.size 0 5
      have hW4 := (bw_below hW3 hz3 5 S).setCell (p := ⟨w3.heap.size, (k0 + 16), none⟩) hz3 (.int .u8 d.toNat)
      go_wp2_with fail
      refine (HN.out _).mono ?_
      rintro e w5 ⟨rfl, hb5⟩
      have hW5 := hW4.trans (hb5.mono hW4.size)
      have hz5 := hW5.size
      clear hW4 hb5
      go_wp2
      go_ret
      exact ⟨rfl, hW5.alloc hz5 _⟩
theorem coinTurned_row (m : Int) (nm body : ByteArray) (a b : Int) (w : World) (hm : (Lit.int .u32 m).wf = true) (h1 : nm.size ≤ maxLen) (h2 : body.size ≤ maxLen) (h3 : (Lit.int .u8 a).wf = true) (h4 : (Lit.int .u8 b).wf = true) :
    Calls Tryd.prog 6 #[.int .u32 m, .string nm, .string body, .int .u8 a, .int .u8 b] w fun e w' => e = .returned (.bool true) ∧ Below w.heap.size w w' := by
  have h0 : 0 ≤ m ∧ m ≤ 4294967295 := by simpa [Lit.wf, IntKind.min, IntKind.max, IntKind.signed, IntKind.bits] using hm
  have h5 := bounds_u8 h3
  have h6 := bounds_u8 h4
  obtain ⟨z, rfl⟩ : ∃ z : Nat, m = (z : Int) := ⟨m.toNat, by omega⟩
  obtain ⟨x, rfl⟩ : ∃ x : Nat, a = (x : Int) := ⟨a.toNat, by omega⟩
  obtain ⟨y, rfl⟩ : ∃ y : Nat, b = (y : Int) := ⟨b.toNat, by omega⟩
  exact coinTurned_w z nm body x y w (by omega) (by simpa [maxLen] using h1) (by simpa [maxLen] using h2) (by omega) (by omega)
end Go.Proofs.YtacikiambpfipaaDoor
