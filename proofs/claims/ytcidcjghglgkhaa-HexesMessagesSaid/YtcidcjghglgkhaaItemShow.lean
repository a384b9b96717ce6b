/- item.shown and Show: the line of an item. -/
import Derived.Test.YtcidcjghglgkhaaItemMake
import Derived.Test.YtcidcjghglgkhaaItemMay
import Derived.Test.YtcidcjghglgkhaaItemShowP
import Derived.Test.YtcidcjghglgkhaaBufR
import Derived.Deep.RegionWith
import Derived.LoopTactic
import Derived.StillTailTactics
namespace Go.Proofs.Ytcidcjghglgkhaa
set_option linter.unusedVariables false
set_option linter.unusedSimpArgs false
open Go.RowKit

theorem info_byte : (Try.prog.info? 5).map (fun i => (i.zero, i.size, i.bytes)) = some (some (.int .u8 0), 1, 1) := by kernel_rfl
set_option maxRecDepth 100000 in
theorem dig_at : ∀ n : Fin 16, (#[48, 49, 50, 51, 52, 53, 54, 55, 56, 57, 97, 98, 99, 100, 101, 102] : Array UInt8)[n.val]? = some (hxd n.val) := by decide +kernel
theorem dig_get (i : Int) (n : Nat) (h : i = n) (hn : n < 16) (hp : i.toNat < (⟨#[48, 49, 50, 51, 52, 53, 54, 55, 56, 57, 97, 98, 99, 100, 101, 102]⟩ : ByteArray).size) : (⟨#[48, 49, 50, 51, 52, 53, 54, 55, 56, 57, 97, 98, 99, 100, 101, 102]⟩ : ByteArray)[i.toNat]'hp = hxd n := by
  have h1 := dig_at ⟨n, hn⟩
  simp only at h1
  have h2 : i.toNat = n := by omega
  have h3 := Array.getElem?_eq_some_iff.1 h1
  obtain ⟨h4, h5⟩ := h3
  rw [← h5]
  show (#[48, 49, 50, 51, 52, 53, 54, 55, 56, 57, 97, 98, 99, 100, 101, 102] : Array UInt8)[i.toNat]'hp = _
  congr 1
theorem hx_cells (c : UInt8) (b : Nat) (hq : c.toNat = b) (hp hp') : (#[Value.int .u8 ((⟨#[48, 49, 50, 51, 52, 53, 54, 55, 56, 57, 97, 98, 99, 100, 101, 102]⟩ : ByteArray)[((b : Int) / 16).toNat]'hp).toNat, Value.int .u8 ((⟨#[48, 49, 50, 51, 52, 53, 54, 55, 56, 57, 97, 98, 99, 100, 101, 102]⟩ : ByteArray)[((b : Int) % 16).toNat]'hp').toNat] : Array Value).toList = cb (hx c) := by
  have hb := c.toNat_lt
  rw [dig_get ((b : Int) / 16) (b / 16) (by omega) (by omega), dig_get ((b : Int) % 16) (b % 16) (by omega) (by omega)]
  simp [cb, hx, hq]
set_option maxRecDepth 100000 in
theorem and15F : ∀ x : Fin 256, x.val &&& 15 = x.val % 16 := by decide +kernel
theorem and15 (b : Nat) (h : b < 256) : bits .and .u8 (b : Int) 15 = (b : Int) % 16 := by
  have h1 := u8_and_nat b 15 h (by omega)
  have h2 := and15F ⟨b, h⟩
  simp only at h2
  rw [h2] at h1
  exact h1
/-- From w0 to wr only new memory, and rows of bytes from base on, have turned; b is the line so far. -/
def ShInv (base : Nat) (w0 wr : World) (b : Value) (l : List UInt8) : Prop := Buf wr base 5 b l ∧ Kept 5 base w0 wr
theorem hx_at (b : Nat) (h : b < 256) : hx (UInt8.ofNat b) = [hxd (b / 16), hxd (b % 16)] := by
  unfold hx; rw [show (UInt8.ofNat b).toNat = b from by simp; omega]
set_option maxRecDepth 100000 in
set_option maxHeartbeats 1600000 in
theorem shown_c : ∀ (x : It) (B : Nat) (w : World) (c0 c1 c2 : Value), ItIn w B x c0 c1 c2 → B ≤ w.heap.size → ∀ (base : Nat) (v : Value) (l : List UInt8), Buf w base 5 v l → B ≤ base → base ≤ w.heap.size → l.length + x.show.length ≤ 1099511627776 →
    Calls Try.prog 63 #[v, .agg #[c0, c1, c2]] w fun e w' => ∃ v', e = .returned v' ∧ ShInv base w w' v' (l ++ x.show) := by
  intro x
  induction x using It.ind with
  | h t l s ih =>
    intro B w c0 c1 c2 h hB base v L hbuf hBb hbw hlen
    obtain ⟨rfl, rfl, ht, hs, A, cap, rfl, hcap, hcm, hsub⟩ := h
    have IH := Lib.hid ih
    have HS := Lib.hid hsub
    clear ih hsub
    obtain ⟨i0, hi, hz0, hz1, hz2⟩ := info_parts info_byte
    obtain ⟨A0, cap0, rfl, hc1, hc2⟩ := hbuf.form
    have HB := Lib.hid hbuf
    clear hbuf
    cases l with
    | true =>
      have HX : Hid ((It.mk t true s).show = 40 :: (showL true s ++ [41])) := Lib.hid (by simp [It.show])
      have hlen2 : L.length + (showL true s).length + 2 ≤ 1099511627776 := by rw [HX.out] at hlen; simp at hlen; omega
      generalize (It.mk t true s).show = X at *
      clear hlen
      go_enter Try.func63, Try.ntmps63
      go_wp2_with
        (at_builtin; refine wpList_append_buf (by rfl) (.tmp 11) (.tmp 12) 80 80 (by rfl) base 5 i0 Try.underlying80 hi hz0 hz1 hz2 (by rfl) ((HB.out.alloc _).alloc _) _ [40] (by rfl) (src_lit Try.underlying80 _ 5 _ [40] 1 _ (by simp only [World.size_alloc]) (by simp [cb])) (by simp only [World.size_alloc]; omega) (by simp only [List.length_cons, List.length_nil, List.length_append]; omega) ?_)
      intro A1 n1 cap1 w1 hb1 hk1
      obtain ⟨g0, g1, g2, _⟩ := blk3 (((Blk.new w 24 #[.string t, .bool true, .slice A s.length cap]).alloc _).kept hk1 (by decide))
      have HI : Hid (ShInv base w w1 (.slice A1 n1 cap1) (L ++ [40])) := Lib.hid ⟨hb1, (((Kept.refl _ base w).alloc hbw _).alloc (by simp; omega) _).trans hk1⟩
      clear hb1 hk1
      go_wp2_with fail
      go_loopw [0, 17] (fun b i wr => ∃ k : Nat, k ≤ s.length ∧ i = .int .i64 k ∧ ∃ l, Hid (l = L ++ 40 :: showL true (s.take k)) ∧ ShInv base w wr b l) (fun _ i _ => s.length - (intOf i).toNat)
      case atStart => exact ⟨0, by omega, rfl, _, Lib.hid (by simp [showL]), HI.out⟩
      case round =>
        obtain ⟨k, hk, rfl, l, Hl, hbuf, hkept⟩ := hrel
        have hwz := hkept.size
        have hll : l.length = L.length + 1 + (showL true (s.take k)).length := by rw [Hl.out]; simp; omega
        have htk := showL_take_le s k
        have HK := Lib.hid hkept
        clear HI hkept
        obtain ⟨A2, n2, cap2, rfl, hn2, hc3, hc4⟩ := hbuf.form'
        by_cases hlt : k < s.length
        · obtain ⟨b, o, d0, d1, d2, rfl, hbB, e0, e1, e2, hi2⟩ := HS.out.at_ k hlt
          simp only [Nat.zero_add] at e0 e1 e2
          have hbel : Below B w wr := HK.out.below.mono hBb
          replace e0 := (hbel.cell (p := ⟨b, o + k * 3, none⟩) (by simpa using hbB)).trans e0
          replace e1 := (hbel.cell (p := ⟨b, o + k * 3 + 1, none⟩) (by simpa using hbB)).trans e1
          replace e2 := (hbel.cell (p := ⟨b, o + k * 3 + 2, none⟩) (by simpa using hbB)).trans e2
          have hmem := List.getElem_mem hlt
          have HIW := Lib.hid (hi2.below hbel)
          have hst := showL_take s k hlt
          have htk1 := showL_take_le s (k + 1)
          obtain ⟨D2, dcap, rfl, rfl, rfl, _⟩ := hi2.open_
          by_cases hk0 : 0 < k
          · have HT : Hid ((l ++ [32]) ++ s[k].show = L ++ 40 :: showL true (s.take (k + 1))) := Lib.hid (by rw [Hl.out, hst, if_neg (by omega)]; simp)
            have hln : (l ++ [32]).length + s[k].show.length ≤ 1099511627776 := by
              rw [hst, if_neg (by omega)] at htk1; simp at htk1 ⊢; omega
            have hl3 : l.length + 1 ≤ 1099511627776 := by simp at hln; omega
            have HLN := Lib.hid hln
            have HBF := Lib.hid hbuf
            clear hst htk1 hi2 hbuf hln hll
            go_wp2_with
              (at_builtin; refine wpList_append_buf (by rfl) (.tmp 24) (.tmp 25) 80 80 (by rfl) base 5 i0 Try.underlying80 hi hz0 hz1 hz2 (by rfl) ((HBF.out.alloc _).alloc _) _ [32] (by rfl) (src_lit Try.underlying80 _ 5 _ [32] 1 _ (by simp only [World.size_alloc]) (by simp [cb])) (by simp only [World.size_alloc]; omega) (by simp only [List.length_cons, List.length_nil, List.length_append]; omega) ?_)
            intro A3 n3 cap3 w3 hb3 hk3
            have hkp : Kept 5 base wr w3 := (((Kept.refl _ base wr).alloc (by omega) _).alloc (by simp; omega) _).trans hk3
            have hz3 := hkp.size
            obtain ⟨g0, g1, g2, _⟩ := blk3 (((Blk.new wr 24 #[.string s[k].text, .bool s[k].list, .slice D2 s[k].sub.length dcap]).alloc _).kept hk3 (by decide))
            have HC := Lib.hid (IH.out _ hmem B w3 _ _ _ (HIW.out.below (hkp.below.mono hBb)) (by omega) base _ _ hb3 hBb (by omega) HLN.out)
            have HKP := Lib.hid hkp
            clear hb3 hk3 hkp
            go_wp2_with fail
            refine HC.out.mono ?_
            rintro e w4 ⟨v', rfl, hb4, hk4⟩
            obtain ⟨A5, n5, cap5, rfl, _, _, _⟩ := hb4.form'
            have HB4 := Lib.hid hb4
            have HK4 := Lib.hid hk4
            clear hb4 hk4 HC
            go_wp2
            go_roundw
            case rel => exact ⟨k + 1, by omega, by go_num, _, HT, HB4.out, HK.out.trans (HKP.out.trans HK4.out)⟩
            case measure => simp [intOf]; omega
          · have HT : Hid (l ++ s[k].show = L ++ 40 :: showL true (s.take (k + 1))) := Lib.hid (by rw [Hl.out, hst, if_pos (by omega)]; simp)
            have HLN : Hid (l.length + s[k].show.length ≤ 1099511627776) := Lib.hid (by
              rw [hst, if_pos (by omega)] at htk1; simp at htk1; omega)
            have HBF := Lib.hid hbuf
            have hkp : Kept 5 base wr (wr.alloc (.cells #[.string s[k].text, .bool s[k].list, .slice D2 s[k].sub.length dcap] 24)) := (Kept.refl _ base wr).alloc (by omega) _
            have HC := Lib.hid (IH.out _ hmem B (wr.alloc (.cells #[.string s[k].text, .bool s[k].list, .slice D2 s[k].sub.length dcap] 24)) _ _ _ (HIW.out.below (hkp.below.mono hBb)) (by simp; omega) base _ _ (hbuf.alloc _) hBb (by simp; omega) HLN.out)
            have HKP := Lib.hid hkp
            clear hst htk1 hi2 hbuf hll hkp
            go_wp2_with fail
            refine HC.out.mono ?_
            rintro e w4 ⟨v', rfl, hb4, hk4⟩
            obtain ⟨A5, n5, cap5, rfl, _, _, _⟩ := hb4.form'
            have HB4 := Lib.hid hb4
            have HK4 := Lib.hid hk4
            clear hb4 hk4 HC
            go_wp2
            go_roundw
            case rel => exact ⟨k + 1, by omega, by go_num, _, HT, HB4.out, HK.out.trans (HKP.out.trans HK4.out)⟩
            case measure => simp [intOf]; omega
        · have HT : Hid (l ++ [41] = L ++ X) := Lib.hid (by rw [Hl.out, HX.out, List.take_of_length_le (by omega)]; simp)
          have HBF := Lib.hid hbuf
          have hll2 : l.length + 1 ≤ 1099511627776 := by omega
          clear hll hbuf
          go_wp2_with
            (at_builtin; refine wpList_append_buf (by rfl) (.tmp 31) (.tmp 32) 80 80 (by rfl) base 5 i0 Try.underlying80 hi hz0 hz1 hz2 (by rfl) (HBF.out.alloc _) _ [41] (by rfl) (src_lit Try.underlying80 _ 5 _ [41] 1 _ (by simp only [World.size_alloc]) (by simp [cb])) (by simp only [World.size_alloc]; omega) (by simp only [List.length_cons, List.length_nil, List.length_append]; omega) ?_)
          intro A3 n3 cap3 w3 hb3 hk3
          rw [HT.out] at hb3
          have HB3 := Lib.hid hb3
          have HK3 := Lib.hid hk3
          clear hb3 hk3
          go_wp2
          go_ret
          exact ⟨_, rfl, HB3.out, (HK.out.alloc (by omega) _).trans HK3.out⟩
    | false =>
      rcases empty_ways t with ⟨hz, rfl⟩ | ⟨hz, hz1', hz2'⟩
      · have HX : Hid ((It.mk ⟨#[]⟩ false s).show = [45]) := Lib.hid (by simp [It.show, ByteArray.size])
        have hlen2 : L.length + 1 ≤ 1099511627776 := by rw [HX.out] at hlen; simpa using hlen
        generalize (It.mk ⟨#[]⟩ false s).show = X at *
        clear hlen hz
        go_enter Try.func63, Try.ntmps63
        go_wp2_with
          (at_builtin; refine wpList_append_buf (by rfl) (.tmp 37) (.tmp 38) 80 80 (by rfl) base 5 i0 Try.underlying80 hi hz0 hz1 hz2 (by rfl) ((HB.out.alloc _).alloc _) _ [45] (by rfl) (src_lit Try.underlying80 _ 5 _ [45] 1 _ (by simp only [World.size_alloc]) (by simp [cb])) (by simp only [World.size_alloc]; omega) (by simp only [List.length_cons, List.length_nil, List.length_append]; omega) ?_)
        intro A3 n3 cap3 w3 hb3 hk3
        have hk4 : Kept 5 base w w3 := ((Kept.refl _ base w).alloc hbw _).alloc (by simp; omega) _ |>.trans hk3
        have HB3 := Lib.hid hb3
        have HK3 := Lib.hid hk4
        clear hb3 hk3 hk4
        go_wp2
        go_ret
        exact ⟨_, rfl, by rw [HX.out]; exact HB3.out, HK3.out⟩
      · have HX : Hid ((It.mk t false s).show = hxL t.data.toList) := Lib.hid (by simp [It.show, hz])
        have hlen2 : L.length + 2 * t.size ≤ 1099511627776 := by rw [HX.out, hxL_length] at hlen; simpa using hlen
        generalize (It.mk t false s).show = X at *
        clear hlen hz
        go_enter Try.func63, Try.ntmps63
        go_wp2_with fail
        go_loopw [0, 43] (fun b i wr => ∃ k : Nat, k ≤ t.size ∧ i = .int .i64 k ∧ Blk wr w.heap.size 24 #[.string t, .bool false, .slice A s.length cap] ∧ ∃ l, Hid (l = L ++ hxL (t.data.toList.take k)) ∧ ShInv base w wr b l) (fun _ i _ => t.size - (intOf i).toNat)
        case atStart => exact ⟨0, by omega, rfl, Blk.new _ _ _, _, Lib.hid (by simp [hxL]), HB.out.alloc _, (Kept.refl _ base w).alloc hbw _⟩
        case round =>
          obtain ⟨k, hk, rfl, hblk, l, Hl, hbuf, hkept⟩ := hrel
          have HBK := Lib.hid hblk
          have hcl : wr.cell? ⟨w.heap.size, 0, none⟩ = some (.string t) := hblk.cell 0
          have hwz := hkept.size
          have hll : l.length = L.length + 2 * k := by rw [Hl.out, List.length_append, hxL_length, length_take t k hk]
          have HK := Lib.hid hkept
          clear hkept hblk
          obtain ⟨A2, n2, cap2, rfl, hn2, hc3, hc4⟩ := hbuf.form'
          by_cases hlt : k < t.size
          · have hct := lt_of_cell hcl
            have hbt := t[k].toNat_lt
            have HT : Hid (l ++ hx t[k] = L ++ hxL (t.data.toList.take (k + 1))) := Lib.hid (by rw [Hl.out, take_snoc t k hlt, hxL_append, hxL_one]; simp)
            go_wp2_with fail
            generalize hq : t[k].toNat = b at *
            have k1 : (0 : Int) ≤ (b : Int) / 16 := by omega
            have k2 : (b : Int) / 16 < 16 := by omega
            have k3 := and15 b hbt
            have k4 : (0 : Int) ≤ (b : Int) % 16 := by omega
            have k5 : (b : Int) % 16 < 16 := by omega
            go_region_law (refine step_append_buf (by rfl) (.tmp 50) (.tmp 57) 80 80 (by rfl) base 5 i0 Try.underlying80 hi hz0 hz1 hz2 (by rfl) (hbuf.alloc _).drew _ (hx t[k]) (by rfl) (src_litD Try.underlying80 _ 5 _ (hx t[k]) 2 _ (by simp) (hx_cells t[k] b hq _ _)) (by simp; omega) (by simp [hx]; omega) ?_; intro A1 n1 cap1 w1 hb1 hk1)
            all_goals
              have HB2 := Lib.hid (((HBK.out.alloc _).drew).kept hk1 (by decide))
              have HB1 := Lib.hid hb1
              have HK1 : Hid (Kept 5 base w w1) := Lib.hid (((HK.out.alloc (by omega) _).drew).trans hk1)
              clear hb1 hk1 hcl hbuf
              go_wp2
              go_roundw
              case rel => exact ⟨k + 1, by omega, by go_num, HB2.out, _, HT, HB1.out, HK1.out⟩
              case measure => simp [intOf]; omega
          · have HT : Hid (l = L ++ X) := Lib.hid (by rw [Hl.out, HX.out, List.take_of_length_le (by simp; omega)])
            have HB1 := Lib.hid hbuf
            clear hbuf
            go_wp2
            go_ret
            exact ⟨_, rfl, by rw [← HT.out]; exact HB1.out, HK.out⟩
set_option maxHeartbeats 400000 in
theorem show_yes (x : It) (B : Nat) (w : World) (c0 c1 c2 : Value) (h : ItIn w B x c0 c1 c2) (hB : B ≤ w.heap.size) (hm : x.may = true) (hl : x.show.length ≤ 1099511627776) :
    Calls Try.prog 35 #[.agg #[c0, c1, c2]] w fun e w' => e = .returned (.tuple #[.string ⟨x.show.toArray⟩, .int .i64 0]) ∧ Below w.heap.size w w' := by
  have HC := Lib.hid (may_c x B (w.alloc (.cells #[c0, c1, c2] 24)) c0 c1 c2 (h.below (by repeat (first | exact Below.refl _ _ | assumption | with_reducible refine Below.drewN' ?_ _ | with_reducible refine Below.drew ?_ | ((with_reducible refine Below.alloc' ?_ ?_ _); · (first | omega | (simp <;> omega)))))) (by simp; omega))
  rw [hm] at HC
  have HI := Lib.hid h
  obtain ⟨A, cap, rfl, rfl, rfl, _⟩ := h.open_
  clear h hm
  go_enter Try.func35, Try.ntmps35
  go_wp2_with fail
  refine HC.out.mono ?_
  rintro e w1 ⟨rfl, hb⟩
  have hz := hb.size
  simp only [World.size_alloc] at hz
  have hb1 : Below w.heap.size w w1 := ((Below.refl w.heap.size w).alloc (Nat.le_refl _) _).trans (hb.mono (by simp))
  obtain ⟨g0, g1, g2, _⟩ := blk3 ((Blk.new w 24 #[.string x.text, .bool x.list, .slice A x.sub.length cap]).keep hb (by simp))
  have HS := Lib.hid (shown_c x B w1 _ _ _ (HI.out.below (hb1.mono hB)) (by omega) w1.heap.size (.slice none 0 0) [] (Buf.nil _ _ _) (by omega) (Nat.le_refl _) (by simpa using hl))
  have HB1 := Lib.hid hb1
  clear hb1 hb HC
  go_wp2_with fail
  refine HS.out.mono ?_
  rintro e w2 ⟨v', rfl, hbuf, hk⟩
  obtain ⟨A', n', cap', rfl, _, _, _⟩ := hbuf.form'
  have hs := hbuf.str' (P := Try.prog) Try.underlying80 Try.underlying5 Try.underlying9
  rw [List.nil_append] at hs
  have HK := Lib.hid hk
  clear hbuf hk HS
  generalize hX : (⟨x.show.toArray⟩ : ByteArray) = X at *
  have HX := Lib.hid hX
  clear hX
  go_wp2
  go_ret2
  exact ⟨by rw [HX.out]; rfl, HB1.out.trans (HK.out.below.mono (by omega))⟩
set_option maxHeartbeats 400000 in
theorem show_no (x : It) (B : Nat) (w : World) (c0 c1 c2 : Value) (h : ItIn w B x c0 c1 c2) (hB : B ≤ w.heap.size) (hm : x.may = false) :
    Calls Try.prog 35 #[.agg #[c0, c1, c2]] w fun e w' => e = .returned (.tuple #[.string ⟨#[]⟩, .int .i64 1]) ∧ Below w.heap.size w w' := by
  have HC := Lib.hid (may_c x B (w.alloc (.cells #[c0, c1, c2] 24)) c0 c1 c2 (h.below (by repeat (first | exact Below.refl _ _ | assumption | with_reducible refine Below.drewN' ?_ _ | with_reducible refine Below.drew ?_ | ((with_reducible refine Below.alloc' ?_ ?_ _); · (first | omega | (simp <;> omega)))))) (by simp; omega))
  rw [hm] at HC
  obtain ⟨A, cap, rfl, rfl, rfl, _⟩ := h.open_
  clear h hm
  go_enter Try.func35, Try.ntmps35
  go_wp2_with fail
  refine HC.out.mono ?_
  rintro e w1 ⟨rfl, hb⟩
  have HB := Lib.hid (((Below.refl w.heap.size w).alloc (Nat.le_refl _) (.cells #[.string x.text, .bool x.list, .slice A x.sub.length cap] 24)).trans (hb.mono (by simp)))
  clear hb HC
  go_wp2
  go_ret2
  exact ⟨rfl, HB.out⟩
end Go.Proofs.Ytcidcjghglgkhaa
