/- The document's Read of layer 27. -/
import Derived.Test.YtcidcjghglgkhaaHexRD
namespace Go.Proofs.Ytcidcjghglgkhaa
set_option linter.unusedVariables false
set_option linter.unusedSimpArgs false
open Go.RowKit

theorem takeHex_go {m : Nat} {a b : UInt8} {h l : Nat} {r : List UInt8} (ha : hxv a = some h) (hb : hxv b = some l) : takeHex (m + 1) (32 :: a :: b :: r) = UInt8.ofNat (16 * h + l) :: takeHex m r := by simp only [takeHex, if_true, ha, hb]
theorem takeHex_stop {m : Nat} {c a b : UInt8} {r : List UInt8} (h : c ≠ 32 ∨ hxv a = none ∨ hxv b = none) : takeHex m (c :: a :: b :: r) = [] := by
  cases m with
  | zero => simp [takeHex]
  | succ m =>
    unfold takeHex
    split
    · rename_i hc
      rcases h with h | h | h
      · exact absurd hc h
      · rw [h]
      · rw [h]; split <;> simp_all
    · rfl
theorem takeHex_short (m : Nat) (l : List UInt8) (h : l.length < 3) : takeHex m l = [] := by
  match m, l, h with
  | 0, _, _ => simp [takeHex]
  | _ + 1, [], _ => simp [takeHex]
  | _ + 1, [_], _ => simp [takeHex]
  | _ + 1, [_, _], _ => simp [takeHex]
  | _ + 1, _ :: _ :: _ :: _, h => simp at h; omega
theorem takeHex_zero (l : List UInt8) : takeHex 0 l = [] := by simp [takeHex]
theorem drop3s (s : ByteArray) (k : Nat) (h : k + 2 < s.size) : s.data.toList.drop k = s[k] :: s[k + 1] :: s[k + 2] :: s.data.toList.drop (k + 3) := by
  rw [drop_cons s k (by omega), drop_cons s (k + 1) (by omega), drop_cons s (k + 2) (by omega)]
/-- What is scanned so far: the place of the line, the place within it, its bytes, all bytes. -/
theorem scan_line {S : List UInt8} {at_ n : Nat} {o l : List UInt8} (h1 : scanL S = o ++ scanL (S.drop at_)) (h0 : at_ < S.length) (hl : takeHex 16 ((S.drop at_).drop 8) = l) (hn : l.length = n) : scanL S = (o ++ l) ++ scanL (S.drop (at_ + 8 + 3 * n + 2 + n + 1)) := by
  have hne : S.drop at_ ≠ [] := fun e => by have := congrArg List.length e; rw [List.length_drop, List.length_nil] at this; omega
  rw [h1, scanL_cons hne, hl, hn, List.drop_drop, List.append_assoc, show at_ + (11 + 4 * n) = at_ + 8 + 3 * n + 2 + n + 1 from by omega]
set_option maxRecDepth 100000 in
set_option maxHeartbeats 3200000 in
theorem refRead27_c (s : ByteArray) (w : World) (hs : s.size ≤ 50000) :
    Calls Try.prog 41 #[.string s] w fun e w' => e = bytEnd (rdD s.data.toList) ∧ Below w.heap.size w w' := by
  obtain ⟨i0, hi, hz0, hz1, hz2⟩ := info_parts info_byte
  obtain ⟨S, HS⟩ : ∃ S, Hid (S = s.data.toList) := ⟨_, Lib.hid rfl⟩
  rw [← HS.out]
  have HL : Hid (S.length = s.size) := Lib.hid (by rw [HS.out, toList_size])
  go_enter Try.func41, Try.ntmps41
  go_wp2_with fail
  go_loopw [4, 5] (fun b i wr => ∃ at_ : Nat, at_ ≤ s.size + 75 ∧ i = .int .i64 at_ ∧ ∃ o, Hid (scanL S = o ++ scanL (S.drop at_)) ∧ o.length ≤ at_ ∧ ShInv w.heap.size w wr b o) (fun _ i _ => s.size + 76 - (intOf i).toNat)
  case atStart => exact ⟨0, by omega, rfl, [], Lib.hid (by simp), by simp, Buf.nil _ _ _, Kept.refl _ _ _⟩
  case round =>
    obtain ⟨at_, ha, rfl, o, Hs, hol, hbuf, hkept⟩ := hrel
    have hwz := hkept.size
    obtain ⟨A1, n1, cap1, rfl, hn1, hc1, hc2⟩ := hbuf.form'
    by_cases hlt : at_ < s.size
    · go_wp2_with fail
      go_loopw [4, 6, 7] (fun b k i wr => ∃ n q : Nat, n ≤ 16 ∧ i = .int .i64 n ∧ Hid (q = at_ + 8 + 3 * n) ∧ q ≤ at_ + 56 ∧ k = .int .i64 q ∧ ∃ l, Hid (takeHex 16 ((S.drop at_).drop 8) = l ++ takeHex (16 - n) (S.drop q)) ∧ Hid (l.length = n) ∧ ShInv w.heap.size w wr b (o ++ l)) (fun _ _ i _ => 16 - (intOf i).toNat)
      case atStart => exact ⟨0, at_ + 8, by omega, rfl, Lib.hid (by omega), by omega, by go_num, [], Lib.hid (by rw [List.drop_drop]; simp), Lib.hid rfl, by rw [List.append_nil]; exact ⟨hbuf, hkept⟩⟩
      case round =>
        obtain ⟨n, q, hn16, rfl, Hq, hq, rfl, l, Ht, Hln, hbuf, hkept⟩ := hrel
        have hwz := hkept.size
        obtain ⟨A2, n2, cap2, rfl, hn2, hc3, hc4⟩ := hbuf.form'
        have hll : (o ++ l).length ≤ 60000 := by rw [List.length_append, Hln.out]; omega
        have HBF := Lib.hid hbuf
        have HKE := Lib.hid hkept
        clear hbuf hkept
        by_cases h2 : q + 2 < s.size
        · by_cases h16 : n < 16
          · have HD3 := Lib.hid (drop3s s q h2)
            rw [← HS.out] at HD3
            have HV1 := Lib.hid (fun w => value27_c s[q + 1] w)
            have HV2 := Lib.hid (fun w => value27_c s[q + 2] w)
            by_cases h32 : s[q].toNat = 32
            · have HC32 : Hid (s[q] = 32) := Lib.hid (UInt8.toNat_inj.1 h32)
              have e32 : ((s[q].toNat : Int) == 32) = true := by rw [h32]; rfl
              rw [HC32.out] at HD3
              clear HC32
              obtain ⟨c1, hc1⟩ : ∃ c, s[q + 1] = c := ⟨_, rfl⟩
              obtain ⟨c2, hc2⟩ : ∃ c, s[q + 2] = c := ⟨_, rfl⟩
              rw [hc1] at HV1 HD3
              rw [hc2] at HV2 HD3
              rcases dv_ways c1 with ⟨m1, hx1, hv1, hm1⟩ | ⟨hx1, hv1⟩
              · rcases dv_ways c2 with ⟨m2, hx2, hv2, hm2⟩ | ⟨hx2, hv2⟩
                · rw [hv1] at HV1
                  rw [hv2] at HV2
                  have HTN : Hid (takeHex 16 ((S.drop at_).drop 8) = (l ++ [UInt8.ofNat (16 * m1 + m2)]) ++ takeHex (16 - (n + 1)) (S.drop (q + 3))) := Lib.hid (by
                    obtain ⟨d, hd⟩ : ∃ d, 16 - n = d + 1 := ⟨16 - n - 1, by omega⟩
                    rw [Ht.out, HD3.out, hd, takeHex_go hx1 hx2, show 16 - (n + 1) = d from by omega]; simp)
                  have HCL := Lib.hid (cells16 m1 m2 hm1 hm2)
                  have hB : 16 * m1 + m2 < 256 := by omega
                  clear hx1 hv1 hx2 hv2 HD3
                  go_wp2_with fail
                  refine (HV1.out _).mono ?_
                  rintro e w' ⟨rfl, rfl⟩
                  go_wp2_with fail
                  refine (HV2.out _).mono ?_
                  rintro e w' ⟨rfl, rfl⟩
                  go_wp2_with fail
                  have u1 : IntKind.u8.wrap (16 * (m1 : Int) + (m2 : Int)) = ((16 * m1 + m2 : Nat) : Int) := by simp [IntKind.wrap, IntKind.signed, IntKind.bits]; omega
                  have u2 : IntKind.i64.wrap (16 * (m1 : Int)) = 16 * (m1 : Int) := IntWalk.i64_in _ (by omega)
                  have u3 : IntKind.i64.wrap (16 * (m1 : Int) + (m2 : Int)) = 16 * (m1 : Int) + (m2 : Int) := IntWalk.i64_in _ (by omega)
                  have u4 : IntKind.i64.wrap ((q : Int) + 1) = (q : Int) + 1 := IntWalk.i64_in _ (by omega)
                  have u5 : IntKind.i64.wrap ((q : Int) + 2) = (q : Int) + 2 := IntWalk.i64_in _ (by omega)
                  have u6 : ((q : Int) + 1).toNat = q + 1 := by omega
                  have u7 : ((q : Int) + 2).toNat = q + 2 := by omega
                  have u8 : (0 : Int) ≤ (q : Int) + 1 := by omega
                  have u9 : (0 : Int) ≤ (q : Int) + 2 := by omega
                  have u10 : (q : Int) + 1 < s.size := by omega
                  have u11 : (q : Int) + 2 < s.size := by omega
                  generalize 16 * m1 + m2 = B at *
                  go_region_law (first
                    | (go_simp; go_at_call 61; (first | (with_reducible refine (HV1.out _).mono ?_) | (with_reducible refine (HV2.out _).mono ?_)); rintro e w' ⟨rfl, rfl⟩)
                    | (refine step_append_buf (by rfl) (.tmp 45) (.tmp 59) 80 80 (by rfl) w.heap.size 5 i0 Try.underlying80 hi hz0 hz1 hz2 (by rfl) (by first | exact (HBF.out.alloc _).drew | exact (HBF.out.drew).alloc _ | exact HBF.out.alloc _) _ [UInt8.ofNat B] (by rfl) (by first | exact src_litD Try.underlying80 _ 5 _ [UInt8.ofNat B] 1 _ (by simp) HCL.out | exact src_lit Try.underlying80 _ 5 _ [UInt8.ofNat B] 1 _ (by simp) HCL.out) (by simp; omega) (by simp at hll ⊢; omega) ?_; intro A4 n4 cap4 w4 hb4 hk4))
                  all_goals
                    have HB4 : Hid (Buf w4 w.heap.size 5 (.slice A4 n4 cap4) (o ++ (l ++ [UInt8.ofNat B]))) := Lib.hid (by rw [← List.append_assoc]; exact hb4)
                    have HK4 : Hid (Kept 5 w.heap.size w w4) := Lib.hid (by
                      first
                        | exact ((HKE.out.alloc hwz _).drew).trans hk4
                        | exact ((HKE.out.drew).alloc hwz _).trans hk4
                        | exact (HKE.out.alloc hwz _).trans hk4)
                    clear hb4 hk4
                    go_wp2
                    go_roundw
                    case rel => exact ⟨n + 1, q + 3, by omega, by go_num, Lib.hid (by have := Hq.out; omega), by have := Hq.out; omega, by go_num, l ++ [UInt8.ofNat B], HTN, Lib.hid (by rw [List.length_append, Hln.out]; rfl), HB4.out, HK4.out⟩
                    case measure => simp [intOf]; omega
                · rw [hv1] at HV1
                  rw [hv2] at HV2
                  have HTX : Hid (takeHex (16 - n) (S.drop q) = []) := Lib.hid (by rw [HD3.out]; exact takeHex_stop (.inr (.inr hx2)))
                  clear hx1 hv1 hx2 hv2
                  have HSC : Hid (scanL S = o ++ l ++ scanL (S.drop (q + 2 + n + 1))) := Lib.hid (by rw [Hq.out]; exact scan_line Hs.out (by rw [HL.out]; exact hlt) (by rw [Ht.out, HTX.out, List.append_nil]) Hln.out)
                  have hq3 : q + 2 + n + 1 = at_ + 11 + 4 * n := by have := Hq.out; omega
                  have HQ3 := Lib.hid hq3
                  clear hq3
                  go_wp2_with fail
                  refine (HV1.out _).mono ?_
                  rintro e w' ⟨rfl, rfl⟩
                  go_wp2_with fail
                  refine (HV2.out _).mono ?_
                  rintro e w' ⟨rfl, rfl⟩
                  go_wp2
                  go_roundw
                  case rel => exact ⟨q + 2 + n + 1, by have := HQ3.out; omega, by go_num, o ++ l, HSC, by rw [List.length_append, Hln.out]; have := HQ3.out; omega, HBF.out, HKE.out⟩
                  case measure => have := HQ3.out; simp [intOf]; omega
              · rw [hv1] at HV1
                have HTX : Hid (takeHex (16 - n) (S.drop q) = []) := Lib.hid (by rw [HD3.out]; exact takeHex_stop (.inr (.inl hx1)))
                clear hx1 hv1
                have HSC : Hid (scanL S = o ++ l ++ scanL (S.drop (q + 2 + n + 1))) := Lib.hid (by rw [Hq.out]; exact scan_line Hs.out (by rw [HL.out]; exact hlt) (by rw [Ht.out, HTX.out, List.append_nil]) Hln.out)
                have hq3 : q + 2 + n + 1 = at_ + 11 + 4 * n := by have := Hq.out; omega
                have HQ3 := Lib.hid hq3
                clear hq3
                go_wp2_with fail
                refine (HV1.out _).mono ?_
                rintro e w' ⟨rfl, rfl⟩
                go_wp2
                go_roundw
                case rel => exact ⟨q + 2 + n + 1, by have := HQ3.out; omega, by go_num, o ++ l, HSC, by rw [List.length_append, Hln.out]; have := HQ3.out; omega, HBF.out, HKE.out⟩
                case measure => have := HQ3.out; simp [intOf]; omega
            · have HTX : Hid (takeHex (16 - n) (S.drop q) = []) := Lib.hid (by rw [HD3.out]; exact takeHex_stop (.inl (fun e => h32 (by rw [e]; rfl))))
              have e32 : ((s[q].toNat : Int) == 32) = false := beq_eq_false_iff_ne.2 (by omega)
              have HSC : Hid (scanL S = o ++ l ++ scanL (S.drop (q + 2 + n + 1))) := Lib.hid (by rw [Hq.out]; exact scan_line Hs.out (by rw [HL.out]; exact hlt) (by rw [Ht.out, HTX.out, List.append_nil]) Hln.out)
              have hq3 : q + 2 + n + 1 = at_ + 11 + 4 * n := by have := Hq.out; omega
              have HQ3 := Lib.hid hq3
              clear hq3
              go_wp2
              go_roundw
              case rel => exact ⟨q + 2 + n + 1, by have := HQ3.out; omega, by go_num, o ++ l, HSC, by rw [List.length_append, Hln.out]; have := HQ3.out; omega, HBF.out, HKE.out⟩
              case measure => have := HQ3.out; simp [intOf]; omega
          · have HTX : Hid (takeHex (16 - n) (S.drop q) = []) := Lib.hid (by rw [show 16 - n = 0 from by omega]; exact takeHex_zero _)
            have HSC : Hid (scanL S = o ++ l ++ scanL (S.drop (q + 2 + n + 1))) := Lib.hid (by rw [Hq.out]; exact scan_line Hs.out (by rw [HL.out]; exact hlt) (by rw [Ht.out, HTX.out, List.append_nil]) Hln.out)
            have hq3 : q + 2 + n + 1 = at_ + 11 + 4 * n := by have := Hq.out; omega
            have HQ3 := Lib.hid hq3
            clear hq3
            go_wp2
            go_roundw
            case rel => exact ⟨q + 2 + n + 1, by have := HQ3.out; omega, by go_num, o ++ l, HSC, by rw [List.length_append, Hln.out]; have := HQ3.out; omega, HBF.out, HKE.out⟩
            case measure => have := HQ3.out; simp [intOf]; omega
        · have HTX : Hid (takeHex (16 - n) (S.drop q) = []) := Lib.hid (takeHex_short _ _ (by rw [List.length_drop, HL.out]; omega))
          have HSC : Hid (scanL S = o ++ l ++ scanL (S.drop (q + 2 + n + 1))) := Lib.hid (by rw [Hq.out]; exact scan_line Hs.out (by rw [HL.out]; exact hlt) (by rw [Ht.out, HTX.out, List.append_nil]) Hln.out)
          have hq3 : q + 2 + n + 1 = at_ + 11 + 4 * n := by have := Hq.out; omega
          have HQ3 := Lib.hid hq3
          clear hq3
          go_wp2
          go_roundw
          case rel => exact ⟨q + 2 + n + 1, by have := HQ3.out; omega, by go_num, o ++ l, HSC, by rw [List.length_append, Hln.out]; have := HQ3.out; omega, HBF.out, HKE.out⟩
          case measure => have := HQ3.out; simp [intOf]; omega
    · have HSC : Hid (scanL S = o) := Lib.hid (by rw [Hs.out, List.drop_eq_nil_of_le (by rw [HL.out]; omega), scanL_nil, List.append_nil])
      have hst := hbuf.str' (P := Try.prog) Try.underlying80 Try.underlying5 Try.underlying9
      have HDC := Lib.hid (fun w => refDump_c ⟨o.toArray⟩ w (by rw [size_of]; omega))
      rw [show (⟨o.toArray⟩ : ByteArray).data.toList = o by simp] at HDC
      obtain ⟨X, HX⟩ : ∃ X, Hid ((⟨o.toArray⟩ : ByteArray) = X) := ⟨_, Lib.hid rfl⟩
      rw [HX.out] at hst HDC
      obtain ⟨Y, HY⟩ : ∃ Y, Hid ((⟨(dumpL o).toArray⟩ : ByteArray) = Y) := ⟨_, Lib.hid rfl⟩
      rw [HY.out] at HDC
      have hYs : Y.size ≤ 4500000 := by
        have := dumpL_length o
        rw [← HY.out, size_of]; omega
      have HBF := Lib.hid hbuf
      have HKE := Lib.hid hkept
      clear hbuf hkept
      go_wp2_with fail
      refine (HDC.out _).mono ?_
      rintro e w3 ⟨rfl, hb3⟩
      have HK3 : Hid (Below w.heap.size w w3) := Lib.hid (HKE.out.below.trans (hb3.mono hwz))
      have hst3 := (HBF.out.below hb3).str' (P := Try.prog) Try.underlying80 Try.underlying5 Try.underlying9
      rw [HX.out] at hst3
      clear hb3 hst
      rcases str_ways Y s with ⟨hys, q1, q2⟩ | ⟨hys, q1, q2⟩
      · have HN : Hid (rdD S = some o) := Lib.hid (by
          unfold rdD
          rw [HSC.out, if_pos (by rw [HS.out, ← hys, ← HY.out])])
        clear hys
        go_wp2
        go_ret2
        exact ⟨by rw [HN.out, bytEnd, HX.out]; rfl, HK3.out⟩
      · have HN : Hid (rdD S = none) := Lib.hid (by
          unfold rdD
          rw [HSC.out, if_neg (fun e => hys (by rw [← HY.out, e, HS.out, bytes_of]))])
        clear hys
        go_wp2
        go_ret2
        exact ⟨by rw [HN.out]; rfl, HK3.out⟩
end Go.Proofs.Ytcidcjghglgkhaa
