/- The document's digit, Hex, value, Bytes of layer 27. -/
import Derived.Test.YtcidcjghglgkhaaHexB
namespace Go.Proofs.Ytcidcjghglgkhaa
set_option linter.unusedVariables false
set_option linter.unusedSimpArgs false
open Go.RowKit

set_option maxRecDepth 100000 in
theorem digit27_c (v : Nat) (w : World) (hv : v < 16) : Calls Try.prog 62 #[.int .i64 v] w fun e w' => e = .returned (.string ⟨#[hxd v]⟩) ∧ w = w' := by
  have c1 := cut_dig v hv
  have t1 : ((v : Int) + 1).toNat = v + 1 := by omega
  go_enter Try.func62, Try.ntmps62
  go_wp2
  go_ret
  exact ⟨rfl, rfl⟩
set_option maxRecDepth 100000 in
set_option maxHeartbeats 400000 in
theorem value27_c (b : UInt8) (w : World) : Calls Try.prog 61 #[.int .u8 b.toNat] w fun e w' => e = .returned (.int .i64 (dv b)) ∧ w = w' := by
  obtain ⟨D, HD⟩ : ∃ D, Hid (dv b = D) := ⟨_, Lib.hid rfl⟩
  rw [HD.out]
  go_enter Try.func61, Try.ntmps61
  go_wp2_with fail
  go_loop [3] (fun i => ∃ k : Nat, k ≤ 16 ∧ i = .int .i64 k ∧ Hid (∀ j, j < k → hxd j ≠ b)) (fun i => 16 - (intOf i).toNat)
  case atStart => exact ⟨0, by omega, rfl, Lib.hid (by omega)⟩
  case round =>
    obtain ⟨k, hk, rfl, hn⟩ := hrel
    by_cases hlt : k < 16
    · have hd := Lib.hid (fun w => digit27_c k w hlt)
      have hg : ∀ hp, (⟨#[hxd k]⟩ : ByteArray)[0]'hp = hxd k := fun _ => rfl
      have hsz : (⟨#[hxd k]⟩ : ByteArray).size = 1 := rfl
      have hb := (hxd k).toNat_lt
      by_cases he : hxd k = b
      · have HE : Hid (D = k) := Lib.hid (by
          have := hxv_hxd ⟨k, hlt⟩
          rw [← HD.out, ← he]; exact dv_some this)
        have e1 : (((hxd k).toNat : Int) == (b.toNat : Int)) = true := by simp [he]
        have e2 : ((hxd k).toNat == b.toNat) = true := by simp [he]
        have HK := Lib.hid he
        clear he
        go_wp2_with fail
        refine (hd.out _).mono ?_
        rintro e w' ⟨rfl, rfl⟩
        go_wp2
        go_ret
        exact ⟨by rw [HE.out]; rfl, rfl⟩
      · have hne : (hxd k).toNat ≠ b.toNat := fun e => he (UInt8.toNat_inj.1 e)
        have e1 : (((hxd k).toNat : Int) == (b.toNat : Int)) = false := beq_eq_false_iff_ne.2 (by omega)
        have e2 : ((hxd k).toNat == b.toNat) = false := beq_eq_false_iff_ne.2 hne
        have HN : Hid (∀ j, j < k + 1 → hxd j ≠ b) := Lib.hid (fun j hj => by
          by_cases h : j = k
          · rw [h]; exact he
          · exact hn.out j (by omega))
        clear he hne
        go_wp2_with fail
        refine (hd.out _).mono ?_
        rintro e w' ⟨rfl, rfl⟩
        go_wp2
        go_round
        case rel => exact ⟨k + 1, by omega, by go_num, HN⟩
        case measure => simp [intOf]; omega
    · have HE : Hid (D = -1) := Lib.hid (by
        rw [← HD.out]
        apply dv_none
        cases hv : hxv b with
        | none => rfl
        | some n =>
          obtain ⟨h1, h2⟩ := hxv_some hv
          exact absurd h2 (hn.out n (by omega)))
      go_wp2
      go_ret
      exact ⟨by rw [HE.out]; rfl, rfl⟩
theorem Buf.drewN' {w : World} {base : Nat} {E : TypeId} {v : Value} {l : List UInt8} (h : Buf w base E v l) (n : Nat) : Buf (w.drewN n) base E v l := h
theorem Kept.drewN' {E : TypeId} {base : Nat} {a w : World} (h : Kept E base a w) (n : Nat) : Kept E base a (w.drewN n) := ⟨h.below.drewN' n, h.other⟩
theorem digitI_c (i : Int) (n : Nat) (X : ByteArray) (hi : i = n) (hn : n < 16) (hX : (⟨#[hxd n]⟩ : ByteArray) = X) (w : World) : Calls Try.prog 62 #[.int .i64 i] w fun e w' => e = .returned (.string X) ∧ w = w' := by
  subst hi; subst hX
  exact digit27_c n w hn
set_option maxRecDepth 100000 in
set_option maxHeartbeats 1600000 in
theorem refHex_c (s : ByteArray) (w : World) (hs : s.size ≤ 1099511627776) :
    Calls Try.prog 34 #[.string s] w fun e w' => e = .returned (.string ⟨(hxL s.data.toList).toArray⟩) ∧ Below w.heap.size w w' := by
  go_enter Try.func34, Try.ntmps34
  go_wp2_with fail
  go_loopw [3, 4] (fun y i wr => ∃ k : Nat, k ≤ s.size ∧ i = .int .i64 k ∧ ∃ z : ByteArray, y = .string z ∧ Hid (z.data.toList = hxL (s.data.toList.take k)) ∧ Below w.heap.size w wr) (fun _ i _ => s.size - (intOf i).toNat)
  case atStart => exact ⟨0, by omega, rfl, _, rfl, Lib.hid (by simp [hxL]), Below.refl _ _⟩
  case round =>
    obtain ⟨k, hk, rfl, z, rfl, Hz, hb⟩ := hrel
    have hzs : z.size = 2 * k := by rw [← toList_size, Hz.out, hxL_length, length_take s k hk]
    have hzl : z.size ≤ 2199023255552 := by omega
    clear hzs
    by_cases hlt : k < s.size
    · have hbt : s[k].toNat < 256 := s[k].toNat_lt
      have HT : Hid ((z ++ ⟨#[hxd (s[k].toNat / 16)]⟩ ++ ⟨#[hxd (s[k].toNat % 16)]⟩).data.toList = hxL (s.data.toList.take (k + 1))) := Lib.hid (by
        rw [toList_app, toList_app, Hz.out, take_snoc s k hlt, hxL_append, hxL_one]; simp [hx])
      have z1 : (⟨#[hxd (s[k].toNat / 16)]⟩ : ByteArray).size = 1 := rfl
      have z2 : (⟨#[hxd (s[k].toNat % 16)]⟩ : ByteArray).size = 1 := rfl
      obtain ⟨X1, HX1⟩ : ∃ X, Hid ((⟨#[hxd (s[k].toNat / 16)]⟩ : ByteArray) = X) := ⟨_, Lib.hid rfl⟩
      obtain ⟨X2, HX2⟩ : ∃ X, Hid ((⟨#[hxd (s[k].toNat % 16)]⟩ : ByteArray) = X) := ⟨_, Lib.hid rfl⟩
      have D1 := Lib.hid (fun w => digitI_c ((s[k].toNat : Int) / 16) _ _ (by omega) (by omega) HX1.out w)
      have D2 := Lib.hid (fun w => digitI_c ((s[k].toNat : Int) % 16) _ _ (by omega) (by omega) HX2.out w)
      rw [HX1.out, HX2.out] at HT
      rw [HX1.out] at z1
      rw [HX2.out] at z2
      clear HX1 HX2
      go_wp2_with fail
      go_quiet ((go_at_call 62; first | (with_reducible exact q1 (D1.out _)) | (with_reducible exact q1 (D2.out _))))
      go_wp2
      go_roundw
      case rel => exact ⟨k + 1, by omega, by go_num, _, rfl, HT, hb.drewN' _⟩
      case measure => simp [intOf]; omega
    · have HT : Hid ((⟨(hxL s.data.toList).toArray⟩ : ByteArray) = z) := Lib.hid (bytes_ext (by rw [Hz.out, List.take_of_length_le (by simp; omega)]))
      go_wp2
      go_ret
      exact ⟨by rw [HT.out]; rfl, hb⟩
set_option maxRecDepth 100000 in
set_option maxHeartbeats 1600000 in
theorem refBytes_c (s : ByteArray) (w : World) (hs : s.size ≤ 1099511627776) :
    Calls Try.prog 33 #[.string s] w fun e w' => e = bytEnd (bytesL s.data.toList) ∧ Below w.heap.size w w' := by
  obtain ⟨i0, hi, hz0, hz1, hz2⟩ := info_parts info_byte
  obtain ⟨S, HS⟩ : ∃ S, Hid (S = s.data.toList) := ⟨_, Lib.hid rfl⟩
  rw [← HS.out]
  have HL : Hid (S.length = s.size) := Lib.hid (by rw [HS.out, toList_size])
  by_cases hodd : s.size % 2 = 0
  · have HO := Lib.hid hodd
    have o1 : ((s.size : Int) % 2 != 0) = false := by rw [show (s.size : Int) % 2 = 0 from by omega]; rfl
    clear hodd
    go_enter Try.func33, Try.ntmps33
    go_wp2_with fail
    clear o1
    go_loopw [4, 5] (fun b i wr => ∃ q : Nat, q ≤ s.size ∧ Hid (q % 2 = 0) ∧ i = .int .i64 q ∧ ∃ l, Hid (bytesL S = (bytesL (S.drop q)).map (l ++ ·)) ∧ l.length ≤ q ∧ ShInv w.heap.size w wr b l) (fun _ i _ => s.size - (intOf i).toNat)
    case atStart => exact ⟨0, by omega, Lib.hid rfl, rfl, [], Lib.hid (by simp), by simp, Buf.nil _ _ _, Kept.refl _ _ _⟩
    case round =>
      obtain ⟨q, hq, Hq, rfl, l, Hl, hll, hbuf, hkept⟩ := hrel
      have hwz := hkept.size
      have HK := Lib.hid hkept
      clear hkept
      obtain ⟨A2, n2, cap2, rfl, hn2, hc3, hc4⟩ := hbuf.form'
      by_cases hlt : q < s.size
      · have hlt2 : q + 1 < s.size := by have := HO.out; have := Hq.out; omega
        have HC1 := Lib.hid (fun w => value27_c s[q] w)
        have HC2 := Lib.hid (fun w => value27_c s[q + 1] w)
        have HAT := Lib.hid (byt_at S q s HS.out hlt2)
        obtain ⟨c1, hc1⟩ : ∃ c, s[q] = c := ⟨_, rfl⟩
        obtain ⟨c2, hc2⟩ : ∃ c, s[q + 1] = c := ⟨_, rfl⟩
        rw [hc1] at HC1 HAT
        rw [hc2] at HC2 HAT
        have e0 : IntKind.i64.wrap ((q : Int) + 1) = (q : Int) + 1 := IntWalk.i64_in _ (by omega)
        have e00 : ((q : Int) + 1).toNat = q + 1 := by omega
        have e01 : (0 : Int) ≤ (q : Int) + 1 := by omega
        have e02 : (q : Int) + 1 < s.size := by omega
        go_wp2_with fail
        rcases dv_ways c1 with ⟨n1, hx1, hv1, hn1⟩ | ⟨hx1, hv1⟩
        · rcases dv_ways c2 with ⟨n2', hx2, hv2, hn2'⟩ | ⟨hx2, hv2⟩
          · rw [hv1] at HC1
            rw [hv2] at HC2
            have HST : Hid (bytesL S = (bytesL (S.drop (q + 2))).map ((l ++ [UInt8.ofNat (16 * n1 + n2')]) ++ ·)) := Lib.hid (byt_step (by rw [Hl.out, HAT.out]) hx1 hx2)
            have HCL := Lib.hid (cells16 n1 n2' hn1 hn2')
            clear hx1 hv1 hx2 hv2
            go_quiet ((go_at_call 61; first | (with_reducible exact q1 (HC1.out _)) | (with_reducible exact q1 (HC2.out _))))
            clear e0 e00 e01 e02
            obtain ⟨wq, HWQ⟩ : ∃ wq, Hid (wr.drewN nq = wq) := ⟨_, Lib.hid rfl⟩
            rw [HWQ.out]
            have hbuf : Buf wq w.heap.size 5 (.slice A2 n2 cap2) l := by rw [← HWQ.out]; exact hbuf
            have HK : Hid (Kept 5 w.heap.size w wq) := Lib.hid (by rw [← HWQ.out]; exact HK.out.drewN' nq)
            have hwz := HK.out.size
            have e1 : IntKind.u8.wrap (16 * (n1 : Int) + (n2' : Int)) = ((16 * n1 + n2' : Nat) : Int) := by simp [IntKind.wrap, IntKind.signed, IntKind.bits]; omega
            have hb16 : 16 * n1 + n2' < 256 := by omega
            generalize hB : 16 * n1 + n2' = B at *
            clear hB
            have d1 : decide ((n1 : Int) < 0) = false := decide_eq_false (by omega)
            have d2 : decide ((n2' : Int) < 0) = false := decide_eq_false (by omega)
            go_wp2_with (at_builtin; refine wpList_append_buf (by rfl) (.tmp 33) (.tmp 39) 80 80 (by rfl) w.heap.size 5 i0 Try.underlying80 hi hz0 hz1 hz2 (by rfl) (hbuf.alloc _) _ [UInt8.ofNat B] (by rfl) (src_lit Try.underlying80 _ 5 _ [UInt8.ofNat B] 1 _ (by rfl) HCL.out) (by simp only [World.size_alloc]; omega) (by simp; omega) ?_; intro A3 n3 cap3 w3 hb3 hk3; have HB4 := Lib.hid hb3; have HK4 := Lib.hid ((HK.out.alloc (by omega) _).trans hk3); clear hb3 hk3 hbuf)
            go_roundw
            case rel => exact ⟨q + 2, by omega, Lib.hid (by have := Hq.out; omega), by go_num, _, HST, by simp; omega, HB4.out, HK4.out⟩
            case measure => simp [intOf]; omega
          · rw [hv1] at HC1
            rw [hv2] at HC2
            have HN : Hid (bytesL S = none) := Lib.hid (by rw [Hl.out, HAT.out, bytesL_none _ (.inr hx2)]; rfl)
            have d1 : decide ((n1 : Int) < 0) = false := decide_eq_false (by omega)
            clear hx1 hv1 hx2 hv2 HAT
            go_quiet ((go_at_call 61; first | (with_reducible exact q1 (HC1.out _)) | (with_reducible exact q1 (HC2.out _))))
            clear e0 e00 e01 e02
            obtain ⟨wq, HWQ⟩ : ∃ wq, Hid (wr.drewN nq = wq) := ⟨_, Lib.hid rfl⟩
            rw [HWQ.out]
            have hbuf : Buf wq w.heap.size 5 (.slice A2 n2 cap2) l := by rw [← HWQ.out]; exact hbuf
            have HK : Hid (Kept 5 w.heap.size w wq) := Lib.hid (by rw [← HWQ.out]; exact HK.out.drewN' nq)
            have hwz := HK.out.size
            go_wp2
            go_ret2
            exact ⟨by rw [HN.out]; rfl, HK.out.below⟩
        · rw [hv1] at HC1
          have HN : Hid (bytesL S = none) := Lib.hid (by rw [Hl.out, HAT.out, bytesL_none _ (.inl hx1)]; rfl)
          clear hx1 hv1 HAT
          go_quiet ((go_at_call 61; first | (with_reducible exact q1 (HC1.out _)) | (with_reducible exact q1 (HC2.out _))))
          clear e0 e00 e01 e02
          obtain ⟨wq, HWQ⟩ : ∃ wq, Hid (wr.drewN nq = wq) := ⟨_, Lib.hid rfl⟩
          rw [HWQ.out]
          have hbuf : Buf wq w.heap.size 5 (.slice A2 n2 cap2) l := by rw [← HWQ.out]; exact hbuf
          have HK : Hid (Kept 5 w.heap.size w wq) := Lib.hid (by rw [← HWQ.out]; exact HK.out.drewN' nq)
          have hwz := HK.out.size
          go_wp2
          go_ret2
          exact ⟨by rw [HN.out]; rfl, HK.out.below⟩
      · have HT : Hid (bytesL S = some l) := Lib.hid (by rw [Hl.out, List.drop_eq_nil_of_le (by rw [HL.out]; omega)]; simp [bytesL])
        have hst := hbuf.str' (P := Try.prog) Try.underlying80 Try.underlying5 Try.underlying9
        obtain ⟨X, HX⟩ : ∃ X, Hid ((⟨l.toArray⟩ : ByteArray) = X) := ⟨_, Lib.hid rfl⟩
        rw [HX.out] at hst
        clear hbuf
        go_wp2
        go_ret2
        exact ⟨by rw [HT.out, bytEnd, HX.out]; rfl, HK.out.below⟩
  · have o1 : ((s.size : Int) % 2 != 0) = true := by rw [show (s.size : Int) % 2 = 1 from by omega]; rfl
    have HN : Hid (bytesL S = none) := Lib.hid (bytesL_odd S (by rw [HL.out]; exact hodd))
    clear hodd
    go_enter Try.func33, Try.ntmps33
    go_wp2
    go_ret2
    exact ⟨by rw [HN.out]; rfl, Below.refl _ _⟩
end Go.Proofs.Ytcidcjghglgkhaa
