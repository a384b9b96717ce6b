/- hatchwaylaw12.SqueezePacks: the packing of any bytes is the document's; it is unpacked again, and isn't longer than the bound. -/
import Derived.Test.YthbechmkjhkipaaSqueezePack
import Derived.Test.YthbechmkjhkipaaSnapU
import Derived.Test.YthbechmkjhkipaaSnapRef
import Derived.OpenShut
namespace Go.Proofs.Ythbechmkjhkipaa
set_option linter.unusedVariables false
set_option linter.unusedSimpArgs false
open Go.RowKit

theorem alive_pack : pack [97, 98, 97, 98, 97, 98, 97, 98] = [8, 4, 97, 98, 9, 2] := by
  unfold pack
  rw [show [97, 98, 97, 98, 97, 98, 97, (98 : UInt8)].length = 8 from rfl, lebL_small (by omega)]
  decide +kernel
theorem squeezeAlive (w : World) : Calls Try.prog 9 #[] w fun e w' => e = .returned (.bool true) ∧ Below w.heap.size w w' := by
  have H := pack_c ⟨#[97, 98, 97, 98, 97, 98, 97, 98]⟩ w (by decide)
  rw [show (⟨#[97, 98, 97, 98, 97, 98, 97, 98]⟩ : ByteArray).data.toList = [97, 98, 97, 98, 97, 98, 97, 98] from rfl, alive_pack] at H
  have HP := Lib.hid H
  clear H
  go_enter Try.func9, Try.ntmps9
  go_wp2_with fail
  refine HP.out.mono ?_
  rintro e w' ⟨rfl, hb⟩
  go_wp2
  go_ret
  exact ⟨rfl, hb⟩
/-- What is known of a packing. -/
theorem packed_of (s : ByteArray) (hs : s.size ≤ 65536) (w : World) : ∃ T : ByteArray, (⟨(pack s.data.toList).toArray⟩ : ByteArray) = T ∧ T.size ≤ s.size + s.size / 32 + 8 ∧ sUnpack T s.size = (0, s.data.toList) := by
  refine ⟨_, rfl, ?_, ?_⟩
  · have := pack_length s.data.toList (by simpa using hs)
    rw [size_of]; rw [toList_size] at this; exact this
  · exact unpack_pack _ s.data.toList (by simpa using hs) rfl s.size (by rw [toList_size]; exact Int.le_refl _)

set_option maxRecDepth 100000 in
set_option maxHeartbeats 1000000 in
theorem squeezePacks_w (s : ByteArray) (w : World) (hs : s.size ≤ 9223372036854775807) :
    Calls Try.prog 4 #[.string s] w fun e w' => e = .returned (.bool true) ∧ Below w.heap.size w w' := by
  by_cases h1 : 65536 < s.size
  · have d1 : decide ((s.size : Int) ≤ 65536) = false := decide_eq_false (by omega)
    have HP := Lib.hid (fun w => pack_over s w h1 hs)
    go_enter Try.func4, Try.ntmps4
    go_wp2_with fail
    refine (squeezeAlive w).mono ?_
    rintro e w1 ⟨rfl, hb⟩
    go_wp2_with fail
    refine (HP.out _).mono ?_
    rintro e w' ⟨rfl, rfl⟩
    go_wp2
    go_ret
    exact ⟨rfl, hb⟩
  · have d1 : decide ((s.size : Int) ≤ 65536) = true := decide_eq_true (by omega)
    by_cases h2 : 500 < s.size
    · go_enter Try.func4, Try.ntmps4
      go_wp2_with fail
      refine (squeezeAlive w).mono ?_
      rintro e w1 ⟨rfl, hb⟩
      go_wp2
      go_ret
      exact ⟨rfl, hb⟩
    · obtain ⟨T, hT, hTz, hTu⟩ := packed_of s (by omega) w
      have HP := Lib.hid (fun w => pack_c s w (by omega))
      have HR := Lib.hid (fun w => refPack_c s w (by omega))
      have HU := Lib.hid (fun w => unpack_nil T s.size w (by omega))
      have HV := Lib.hid (fun w => refUnpack_c T s.size w (by omega))
      rw [hTu] at HU HV
      rw [hT] at HP HR
      simp only [bytes_of] at HU HV
      have n1 := str_ways T T
      have n2 := str_ways s s
      simp only [ne_eq, not_true_eq_false, false_and, or_false, true_and] at n1 n2
      obtain ⟨n1, n3⟩ := n1
      obtain ⟨n2, n4⟩ := n2
      have d3 : decide ((T.size : Int) ≤ s.size + s.size / 32 + 8) = true := decide_eq_true (by omega)
      have hTz' : (T.size : Int) ≤ s.size + s.size / 32 + 8 := by omega
      clear hT hTu
      go_enter Try.func4, Try.ntmps4
      go_wp2_with fail
      refine (squeezeAlive w).mono ?_
      rintro e w1 ⟨rfl, hb⟩
      have hz1 := hb.size
      go_wp2_with fail
      refine (HP.out _).mono ?_
      rintro e w2 ⟨rfl, hb2⟩
      have hz2 := hb2.size
      go_wp2_with fail
      refine (HU.out _).mono ?_
      rintro e w3 ⟨rfl, hb3⟩
      have hz3 := hb3.size
      go_wp2_with fail
      refine (HV.out _).mono ?_
      rintro e w4 ⟨rfl, hb4⟩
      have hz4 := hb4.size
      go_wp2_with fail
      refine (HR.out _).mono ?_
      rintro e w5 ⟨rfl, hb5⟩
      have HB := Lib.hid (hb.trans ((hb2.mono (by omega)).trans ((hb3.mono (by omega)).trans ((hb4.mono (by omega)).trans (hb5.mono (by omega))))))
      go_wp2
      go_ret
      exact ⟨rfl, HB.out⟩
theorem squeezePacks_row (s : ByteArray) (w : World) (hs : s.size ≤ maxLen) :
    Calls Try.prog 4 #[.string s] w fun e w' => e = .returned (.bool true) ∧ Below w.heap.size w w' :=
  squeezePacks_w s w (by simpa [maxLen] using hs)

def WideInv (s : ByteArray) (n : Nat) (w : World) (g : Nat) (i : Value) (wr : World) : Prop :=
  ∃ (k : Nat) (l : List UInt8), k ≤ n ∧ i = .int .i64 k ∧ l.length = n ∧ Buf wr w.heap.size 5 (.slice (some ⟨g, 0, none⟩) n n) l ∧ Kept 5 w.heap.size w wr
set_option maxRecDepth 100000 in
set_option maxHeartbeats 1000000 in
theorem squeezeWide_w (s : ByteArray) (n : Nat) (w : World) (hs : s.size ≤ 9223372036854775807) (hn : n ≤ 65535) :
    Calls Try.prog 5 #[.string s, .int .u16 n] w fun e w' => e = .returned (.bool true) ∧ Below w.heap.size w w' := by
  obtain ⟨i0, hi, hz0, hz1, hz2⟩ := info_parts info_byte
  by_cases h0 : s.size = 0
  · have e0 : ((s.size : Int) == 0) = true := by simp [h0]
    clear h0
    go_enter Try.func5, Try.ntmps5
    go_wp2_with fail
    refine (squeezeAlive w).mono ?_
    rintro e w1 ⟨rfl, hb⟩
    go_wp2
    go_ret
    exact ⟨rfl, hb⟩
  · have e0 : ((s.size : Int) == 0) = false := beq_eq_false_iff_ne.2 (by omega)
    by_cases h1 : 300 < s.size
    · go_enter Try.func5, Try.ntmps5
      go_wp2_with fail
      refine (squeezeAlive w).mono ?_
      rintro e w1 ⟨rfl, hb⟩
      go_wp2
      go_ret
      exact ⟨rfl, hb⟩
    · have hpos : 1 ≤ s.size := by omega
      clear h0
      go_enter Try.func5, Try.ntmps5
      go_wp2_with fail
      refine (squeezeAlive w).mono ?_
      rintro e w1 ⟨rfl, hb⟩
      have hzb := hb.size
      go_wp2_with (at_make; refine wpList_make_full _ rfl _ _ 24 rfl w1.heap.size 5 i0 (.int .u8 0) 1 Try.underlying24 hi hz0 hz1 .i64 .i64 _ _ n rfl rfl (by omega) (by omega) (by rw [hz2]; omega) (by simp only [maxLen]; omega) (by omega) ?_; intro w2 hown1 hgrow1)
      have hb1 : Buf w2 w1.heap.size 5 (.slice (some ⟨w1.heap.size, 0, none⟩) n n) (List.replicate n 0) := by
        rw [made_bytes] at hown1
        have := Buf.own (l := List.replicate n 0) (by simpa using hown1)
        simpa using this
      have hk1 : Kept 5 w1.heap.size w1 w2 := Kept.of_none hgrow1 (Nat.le_refl _)
      clear hown1 hgrow1
      go_loopw [6] (fun i wr => WideInv s n w1 w1.heap.size i wr) (fun i _ => n - (intOf i).toNat)
      case atStart => exact ⟨0, _, by omega, rfl, by simp, hb1, hk1⟩
      case round =>
        obtain ⟨k, l, hk, rfl, hl, hbuf, hkept⟩ := hrel
        have hsz' := hkept.size
        clear hb1 hk1
        by_cases hlt : k < n
        · obtain ⟨c1, f1, g1, g2⟩ := hbuf.at_ (k := k) (by omega)
          obtain ⟨cur, fr, hcur, _⟩ := hbuf.block
          have hmod : (k : Int) % s.size < s.size := Int.emod_lt_of_pos _ (by omega)
          have hmod0 : 0 ≤ (k : Int) % s.size := Int.emod_nonneg _ (by omega)
          obtain ⟨m, hm⟩ : ∃ m : Nat, k % s.size = m := ⟨_, rfl⟩
          have hms : m < s.size := by rw [← hm]; exact Nat.mod_lt _ (by omega)
          have em : (k : Int) % s.size = (m : Int) := by rw [← hm]; simp
          have HS := Lib.hid (hbuf.set (k := k) (by omega) s[m])
          have HK := Lib.hid (fun v => hkept.store (k := k) hcur (Nat.le_refl _) v)
          have HLL := Lib.hid hl
          clear hbuf hkept hcur hmod hmod0 hm hl
          go_wp2
          go_roundw
          case rel => exact ⟨k + 1, _, by omega, by go_num, by rw [List.length_set]; exact HLL.out, HS.out, HK.out _⟩
          case measure => simp [intOf]; omega
        · obtain ⟨T0, hT0⟩ : ∃ T0 : ByteArray, (⟨l.toArray⟩ : ByteArray) = T0 := ⟨_, rfl⟩
          have hstr := hbuf.str' (P := Try.prog) Try.underlying24 Try.underlying5 Try.underlying9
          rw [hT0] at hstr
          have hT0z : T0.size = n := by rw [← hT0, size_of, hl]
          obtain ⟨T, hT, hTz, hTu⟩ := packed_of T0 (by omega) w
          have HP := Lib.hid (fun w => pack_c T0 w (by omega))
          have HU := Lib.hid (fun w => unpack_nil T T0.size w (by omega))
          rw [hTu] at HU
          rw [hT] at HP
          simp only [bytes_of] at HU
          rw [hT0z] at HU hTz
          have n2 := str_ways T0 T0
          simp only [ne_eq, not_true_eq_false, false_and, or_false, true_and] at n2
          obtain ⟨n2, n4⟩ := n2
          have hTz' : (T.size : Int) ≤ n + n / 32 + 8 := by omega
          have d3 : decide ((T.size : Int) ≤ n + n / 32 + 8) = true := decide_eq_true (by omega)
          have HK := Lib.hid hkept.below
          have HBF := Lib.hid hbuf
          have HT0 := Lib.hid hT0
          clear hT hTu hbuf hT0 hl hT0z
          go_wp2_with fail
          refine (HP.out _).mono ?_
          rintro e w3 ⟨rfl, hb3⟩
          have hz3 := hb3.size
          go_wp2_with fail
          refine (HU.out _).mono ?_
          rintro e w4 ⟨rfl, hb4⟩
          have hstr4 := (((HBF.out.below hb3).below hb4)).str' (P := Try.prog) Try.underlying24 Try.underlying5 Try.underlying9
          rw [HT0.out] at hstr4
          have HB := Lib.hid ((hb.trans (HK.out.mono hzb)).trans ((hb3.mono (by omega)).trans (hb4.mono (by omega))))
          go_wp2
          go_ret
          exact ⟨rfl, HB.out⟩
theorem squeezeWide_row (s : ByteArray) (n : Int) (w : World) (hs : s.size ≤ maxLen) (hn : (Lit.int .u16 n).wf = true) :
    Calls Try.prog 5 #[.string s, .int .u16 n] w fun e w' => e = .returned (.bool true) ∧ Below w.heap.size w w' := by
  have h1 : 0 ≤ n ∧ n ≤ 65535 := by simpa [Lit.wf, IntKind.min, IntKind.max, IntKind.signed, IntKind.bits] using hn
  obtain ⟨x, rfl⟩ : ∃ x : Nat, n = (x : Int) := ⟨n.toNat, by omega⟩
  exact squeezeWide_w s x w (by simpa [maxLen] using hs) (by omega)
end Go.Proofs.Ythbechmkjhkipaa
