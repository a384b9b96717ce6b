/- hexes.Hex; the document's digit, Hex, value. -/
import Derived.Test.YtcidcjghglgkhaaItemShow
import Derived.Test.YtcidcjghglgkhaaItemParse
namespace Go.Proofs.Ytcidcjghglgkhaa
set_option linter.unusedVariables false
set_option linter.unusedSimpArgs false
open Go.RowKit

set_option maxRecDepth 100000 in
set_option maxHeartbeats 1600000 in
theorem hex_c (s : ByteArray) (w : World) (hs : s.size ≤ 1099511627776) :
    Calls Try.prog 31 #[.string s] w fun e w' => e = .returned (.string ⟨(hxL s.data.toList).toArray⟩) ∧ Below w.heap.size w w' := by
  obtain ⟨i0, hi, hz0, hz1, hz2⟩ := info_parts info_byte
  go_enter Try.func31, Try.ntmps31
  go_wp2_with (at_make; refine wpList_make_own _ rfl _ _ 80 rfl w.heap.size 5 i0 (.int .u8 0) 1 Try.underlying80 hi hz0 hz1 .i64 .i64 _ (2 * s.size) rfl rfl (by omega) (by rw [hz2]; omega) (by simp only [maxLen]; omega) (by omega) ?_; intro w1 hown1 hgrow1)
  have HB1 : Hid (Buf w1 w.heap.size 5 (.slice (some ⟨w.heap.size, 0, none⟩) 0 (2 * s.size)) []) := Lib.hid (Buf.own hown1)
  have HK1 : Hid (Kept 5 w.heap.size w w1) := Lib.hid (Kept.of_none hgrow1 (Nat.le_refl _))
  clear hown1 hgrow1
  go_loopw [3, 11] (fun b i wr => ∃ k : Nat, k ≤ s.size ∧ i = .int .i64 k ∧ ∃ l, Hid (l = hxL (s.data.toList.take k)) ∧ ShInv w.heap.size w wr b l) (fun _ i _ => s.size - (intOf i).toNat)
  case atStart => exact ⟨0, by omega, rfl, [], Lib.hid (by simp [hxL]), HB1.out, HK1.out⟩
  case round =>
    obtain ⟨k, hk, rfl, l, Hl, hbuf, hkept⟩ := hrel
    have hwz := hkept.size
    have hll : l.length = 2 * k := by rw [Hl.out, hxL_length, length_take s k hk]
    have HK := Lib.hid hkept
    clear hkept
    obtain ⟨A2, n2, cap2, rfl, hn2, hc3, hc4⟩ := hbuf.form'
    by_cases hlt : k < s.size
    · have hbt := s[k].toNat_lt
      have HT : Hid (l ++ hx s[k] = hxL (s.data.toList.take (k + 1))) := Lib.hid (by rw [Hl.out, take_snoc s k hlt, hxL_append, hxL_one])
      go_wp2_with fail
      have j0 : (k : Int) < (s.size : Int) := by omega
      have k1 : (0 : Int) ≤ (s[k].toNat : Int) / 16 := by omega
      have k2 : (s[k].toNat : Int) / 16 < 16 := by omega
      have k3 := and15 s[k].toNat hbt
      have k4 : (0 : Int) ≤ (s[k].toNat : Int) % 16 := by omega
      have k5 : (s[k].toNat : Int) % 16 < 16 := by omega
      go_region_law (refine step_append_buf (by rfl) (.tmp 14) (.tmp 25) 80 80 (by rfl) w.heap.size 5 i0 Try.underlying80 hi hz0 hz1 hz2 (by rfl) (hbuf.alloc _).drew _ (hx s[k]) (by rfl) (src_litD Try.underlying80 _ 5 _ (hx s[k]) 2 _ (by simp) (hx_cells s[k] _ rfl _ _)) (by simp; omega) (by simp [hx]; omega) ?_; intro A1 n1 cap1 w1 hb1 hk1)
      all_goals
        have HB1 := Lib.hid hb1
        have HK1 : Hid (Kept 5 w.heap.size w w1) := Lib.hid (((HK.out.alloc (by omega) _).drew).trans hk1)
        clear hb1 hk1 hbuf
        go_wp2
        go_roundw
        case rel => exact ⟨k + 1, by omega, by go_num, _, HT, HB1.out, HK1.out⟩
        case measure => simp [intOf]; omega
    · have HT : Hid (l = hxL s.data.toList) := Lib.hid (by rw [Hl.out, List.take_of_length_le (by simp; omega)])
      have hst := hbuf.str' (P := Try.prog) Try.underlying80 Try.underlying5 Try.underlying9
      rw [HT.out] at hst
      obtain ⟨X, HX⟩ : ∃ X, Hid ((⟨(hxL s.data.toList).toArray⟩ : ByteArray) = X) := ⟨_, Lib.hid rfl⟩
      rw [HX.out] at hst
      clear hbuf hll
      go_wp2
      go_ret
      exact ⟨by rw [HX.out]; rfl, HK.out.below⟩
end Go.Proofs.Ytcidcjghglgkhaa
