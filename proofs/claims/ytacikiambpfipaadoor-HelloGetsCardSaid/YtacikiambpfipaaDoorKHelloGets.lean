/- hatchwaylaw32.HelloGets: the hello of any bytes is the document's, or the error; what is got is put as it was. -/
import Derived.Test.YtacikiambpfipaaDoorKA11
import Derived.Test.YtacikiambpfipaaDoorKRefHelGet
import Derived.Test.YtacikiambpfipaaDoorKA12
namespace Go.Proofs.YtacikiambpfipaaDoor
set_option linter.unusedVariables false
set_option linter.unusedSimpArgs false
open Go.RowKit

set_option maxRecDepth 100000 in
set_option maxHeartbeats 3200000 in
theorem helloGets_w (s : ByteArray) (w : World) (hs : s.size ≤ 9223372036854775807) (hL : Laid w) :
    Calls Tryd.prog 10 #[.string s] w fun e w' => e = .returned (.bool true) ∧ Below w.heap.size w w' := by
  have HA := Lib.hid (alive32_c w)
  have HLD := Lib.hid hL
  clear hL
  by_cases hgt : 1000 < s.size
  · have hg1 : (1000 : Int) < (s.size : Int) := by omega
    go_enter Tryd.func10, Tryd.ntmps10
    go_wp2_with fail
    refine HA.out.mono ?_
    rintro e w1 ⟨rfl, hb1⟩
    have HB1 := Lib.hid hb1
    clear hb1
    go_wp2
    go_ret
    exact ⟨rfl, HB1.out⟩
  · have hg1 : ¬ (1000 : Int) < (s.size : Int) := by omega
    have HSZ : Hid (s.size ≤ 1000) := Lib.hid (by omega)
    have HP : Hid (hGetE s = 0 → helB (hGetL s) (hGetM s) (hGetC s) = true ∧ (⟨(helIt (hGetL s) (hGetM s) (hGetC s)).rlp.toArray⟩ : ByteArray) = s) := Lib.hid hel_get_put
    have HG := Lib.hid (fun V hV => helGet_c s V (by have := HSZ.out; omega) hV)
    have HR := Lib.hid (fun V => refHelGet_c s V (by have := HSZ.out; omega))
    obtain ⟨E, hE⟩ : ∃ E, hGetE s = E := ⟨_, rfl⟩
    obtain ⟨lo, hlo⟩ : ∃ E, hGetL s = E := ⟨_, rfl⟩
    obtain ⟨hi, hhi⟩ : ∃ E, hGetM s = E := ⟨_, rfl⟩
    obtain ⟨C, hC⟩ : ∃ E, hGetC s = E := ⟨_, rfl⟩
    rw [hE, hlo, hhi, hC] at HP HG HR
    clear hE hlo hhi hC
    go_enter Tryd.func10, Tryd.ntmps10
    go_wp2_with fail
    refine HA.out.mono ?_
    rintro e w1 ⟨rfl, hb1⟩
    have HB1 := Lib.hid hb1
    clear hb1
    go_wp2_with fail
    refine (HG.out w1 (HLD.out.below HB1.out HLD.out.pos)).mono ?_
    rintro e w2 ⟨hb2, v2, rfl, hc2, hnm, hlen⟩
    obtain ⟨A2, n2, cap2, rfl, _⟩ := hc2.form'
    obtain ⟨W3, hW3⟩ : ∃ W3, w2.alloc (.cells #[.int .i64 lo, .int .i64 hi, .slice A2 n2 cap2] 68) = W3 := ⟨_, rfl⟩
    have hb3 : Below w2.heap.size w2 W3 := by rw [← hW3]; exact (Below.refl _ _).alloc (Nat.le_refl _) _
    have hz3 : W3.heap.size = w2.heap.size + 1 := by rw [← hW3]; simp
    have hk3 : Blk W3 w2.heap.size 68 #[.int .i64 lo, .int .i64 hi, .slice A2 n2 cap2] := by rw [← hW3]; exact Blk.new _ _ _
    have HB3 : Hid (Below w.heap.size w W3) := Lib.hid ((HB1.out.trans (hb2.mono HB1.out.size)).trans (hb3.mono (by have := HB1.out.size; have := hb2.size; omega)))
    have HK3 := Lib.hid hk3
    have HC3 := Lib.hid ((hc2.below hb3).mono (by omega : w2.heap.size ≤ W3.heap.size))
    have HNM := Lib.hid hnm
    have HLN := Lib.hid hlen
    have HW3 := Lib.hid hW3
    have HZ3 := Lib.hid hz3
    clear hb2 hc2 hnm hlen hb3 hz3 hk3 hW3
    go_upto_region 6 with fail
    rw [HW3.out]
    go_wp2_with fail
    refine (HR.out W3).mono ?_
    rintro e w4 ⟨hb4, v4, rfl, hc4, _, _⟩
    obtain ⟨A4, n4, cap4, rfl, _⟩ := hc4.form'
    obtain ⟨W5, hW5⟩ : ∃ W5, w4.alloc (.cells #[.int .i64 lo, .int .i64 hi, .slice A4 n4 cap4] 63) = W5 := ⟨_, rfl⟩
    have hb5 : Below w4.heap.size w4 W5 := by rw [← hW5]; exact (Below.refl _ _).alloc (Nat.le_refl _) _
    have hz5 : W5.heap.size = w4.heap.size + 1 := by rw [← hW5]; simp
    have hk5 : Blk W5 w4.heap.size 63 #[.int .i64 lo, .int .i64 hi, .slice A4 n4 cap4] := by rw [← hW5]; exact Blk.new _ _ _
    have h35 : Below W3.heap.size W3 W5 := hb4.trans (hb5.mono hb4.size)
    have HB5 : Hid (Below w.heap.size w W5) := Lib.hid (HB3.out.trans (h35.mono HB3.out.size))
    have HK35 := Lib.hid (HK3.out.keep h35 (by have := HZ3.out; omega))
    have HC35 := Lib.hid ((HC3.out.below h35).mono h35.size)
    have HC5 := Lib.hid ((hc4.below hb5).mono (by omega : w4.heap.size ≤ W5.heap.size))
    have HSM := Lib.hid (same32_c lo hi C _ _ W5 HC35.out HC5.out HLN.out)
    have HW5 := Lib.hid hW5
    obtain ⟨r0, r1, r2, _⟩ := blk3 HK35.out
    obtain ⟨q0, q1, q2, _⟩ := blk3 hk5
    clear hb4 hc4 hb5 hz5 hk5 h35 hW5
    go_upto_region 7 with fail
    rw [HW5.out]
    go_wp2_with fail
    refine HSM.out.mono ?_
    rintro e w6 ⟨rfl, hb6⟩
    have HB6 : Hid (Below w.heap.size w w6) := Lib.hid (HB5.out.trans (hb6.mono HB5.out.size))
    rcases beq0 E with ⟨he, k1, k2⟩ | ⟨he, k1, k2⟩
    · subst he
      obtain ⟨p1, p2⟩ := HP.out rfl
      have HPT := Lib.hid (helPut_c lo hi C _ _ w6 ((HC35.out.below hb6).mono hb6.size) (Nat.le_refl _) HNM.out HLN.out)
      have e1 : hPutS lo hi C = s := by unfold hPutS; rw [if_pos p1]; exact p2
      have e2 : hPutE lo hi C = 0 := by unfold hPutE; rw [if_pos p1]
      rw [e1, e2] at HPT
      obtain ⟨z0, z1, z2, _⟩ := blk3 (HK35.out.keep hb6 HK35.out.lt)
      clear p1 p2 e1 e2 hb6 r0 r1 r2 q0 q1 q2
      go_wp2_with fail
      refine HPT.out.mono ?_
      rintro e w7 ⟨rfl, hb7⟩
      have HB7 : Hid (Below w.heap.size w w7) := Lib.hid (HB6.out.trans (hb7.mono HB6.out.size))
      clear hb7
      go_wp2
      go_ret
      exact ⟨rfl, HB7.out⟩
    · clear hb6
      go_wp2
      go_ret
      exact ⟨rfl, HB6.out⟩
end Go.Proofs.YtacikiambpfipaaDoor
