/- hatchwaylaw08.ItemReads: the item of any bytes, or the error, is the document's; what is read is shown as it was. -/
import Derived.Test.YtcidcjghglgkhaaItemAlive
namespace Go.Proofs.Ytcidcjghglgkhaa
set_option linter.unusedVariables false
set_option linter.unusedSimpArgs false
open Go.RowKit

theorem zero_in (w : World) (B : Nat) : ItIn w B (.mk ⟨#[]⟩ false []) (.string ⟨#[]⟩) (.bool false) (.slice none 0 0) := ⟨rfl, rfl, by simp [ByteArray.size], by simp, none, 0, rfl, by simp, by simp, trivial⟩
set_option maxRecDepth 100000 in
set_option maxHeartbeats 800000 in
theorem itemReads_w (s : ByteArray) (w : World) (hs : s.size ≤ maxLen) :
    Calls Try.prog 8 #[.string s] w fun e w' => e = .returned (.bool true) ∧ Below w.heap.size w w' := by
  unfold maxLen at hs
  by_cases h0 : 4000 < s.size
  · go_enter Try.func8, Try.ntmps8
    go_wp2_with fail
    refine (itemAlive w).mono ?_
    rintro e w1 ⟨rfl, hb⟩
    go_wp2
    go_ret
    exact ⟨rfl, hb⟩
  · have H1 := Lib.hid (fun w => read_c s w (by omega))
    have H2 := Lib.hid (fun w => refRead_c s w (by omega))
    have H3 := Lib.hid (readIt_show s.data.toList)
    generalize readIt s.data.toList = R at *
    go_enter Try.func8, Try.ntmps8
    go_wp2_with fail
    refine (itemAlive w).mono ?_
    rintro e w1 ⟨rfl, hb1⟩
    have HB1 := Lib.hid hb1
    clear hb1
    go_wp2_with fail
    refine (H1.out w1).mono ?_
    rintro e w2 ⟨hb2, hend⟩
    have HB2 : Hid (Below w.heap.size w w2) := Lib.hid (HB1.out.trans (hb2.mono HB1.out.size))
    clear hb2
    cases R with
    | none =>
      have hend : e = _ := hend
      subst hend
      go_wp2_with fail
      refine (H2.out _).mono ?_
      rintro e w3 ⟨hb3, hend⟩
      have hend : e = _ := hend
      subst hend
      have hz := hb3.size
      simp only [World.size_alloc] at hz
      have HB3 : Hid (Below w.heap.size w w3) := Lib.hid ((HB2.out.alloc HB2.out.size _).trans (hb3.mono (by have := HB2.out.size; simp; omega)))
      have HS := Lib.hid (refSame_c _ 0 (w3.alloc (.cells #[.string ⟨#[]⟩, .bool false, .slice none 0 0] 24)) _ _ _ (zero_in _ _) (Nat.zero_le _) _ _ _ _ (zero_in _ _))
      obtain ⟨b0, b1, b2, bf0, bf1, bf2⟩ := blk3 ((Blk.new w2 24 #[.string ⟨#[]⟩, .bool false, .slice none 0 0]).keep hb3 (by simp))
      have hlw : w2.heap.size < w3.heap.size := by omega
      clear hb3
      go_wp2_with fail
      refine HS.out.mono ?_
      rintro e w4 ⟨⟨r, rfl, hr⟩, hb4⟩
      obtain rfl : r = true := hr.2 rfl
      have HB4 : Hid (Below w.heap.size w w4) := Lib.hid ((HB3.out.alloc HB3.out.size _).trans (hb4.mono (by have := HB3.out.size; simp; omega)))
      clear hr hb4
      go_wp2
      go_ret
      exact ⟨rfl, HB4.out⟩
    | some x =>
      obtain ⟨c0, c1, c2, rfl, hx⟩ := hend
      obtain ⟨hsx, hmx⟩ := H3.out x rfl
      have HSX := Lib.hid hsx
      have HMX := Lib.hid hmx
      have HX := Lib.hid hx
      obtain ⟨A, cap, rfl, rfl, rfl, _⟩ := hx.open_
      clear hsx hmx hx
      go_wp2_with fail
      refine (H2.out _).mono ?_
      rintro e w3 ⟨hb3, d0, d1, d2, rfl, hy⟩
      have HY := Lib.hid hy
      obtain ⟨A', cap', rfl, rfl, rfl, _⟩ := hy.open_
      have hz := hb3.size
      simp only [World.size_alloc] at hz
      have HB3 : Hid (Below w.heap.size w w3) := Lib.hid ((HB2.out.alloc HB2.out.size _).trans (hb3.mono (by have := HB2.out.size; simp; omega)))
      obtain ⟨b0, b1, b2, bf0, bf1, bf2⟩ := blk3 ((Blk.new w2 24 #[.string x.text, .bool x.list, .slice A x.sub.length cap]).keep hb3 (by simp))
      have hlw : w2.heap.size < w3.heap.size := by omega
      have hx3 := ((HX.out.below ((Below.refl _ _).alloc (Nat.le_refl _) _)).below hb3).below ((Below.refl _ _).alloc (Nat.le_refl _) (.cells #[.string x.text, .bool x.list, .slice A' x.sub.length cap'] 24))
      have hy3 := HY.out.below ((Below.refl _ _).alloc (Nat.le_refl _) (.cells #[.string x.text, .bool x.list, .slice A' x.sub.length cap'] 24))
      have HS := Lib.hid (refSame_c x _ (w3.alloc (.cells #[.string x.text, .bool x.list, .slice A' x.sub.length cap'] 24)) _ _ _ hx3.toIn (Nat.le_refl _) x _ _ _ hy3.toIn)
      have HX3 := Lib.hid hx3
      have HBX : Hid (Blk w3 w2.heap.size 24 #[.string x.text, .bool x.list, .slice A x.sub.length cap]) := Lib.hid ((Blk.new w2 24 #[.string x.text, .bool x.list, .slice A x.sub.length cap]).keep hb3 (by simp))
      clear hb3 hy hx3 hy3
      go_wp2_with fail
      refine HS.out.mono ?_
      rintro e w4 ⟨⟨r, rfl, hr⟩, hb4⟩
      obtain rfl : r = true := hr.2 rfl
      have HB4 : Hid (Below w.heap.size w w4) := Lib.hid ((HB3.out.alloc HB3.out.size _).trans (hb4.mono (by have := HB3.out.size; simp; omega)))
      have hz4 := hb4.size
      simp only [World.size_alloc] at hz4
      have HC := Lib.hid (show_yes x _ w4 _ _ _ (HX3.out.below hb4).toIn (Nat.le_refl _) HMX.out (by rw [← HSX.out, toList_size]; omega))
      rw [← HSX.out, bytes_of] at HC
      clear b0 b1 b2 bf0 bf1 bf2
      obtain ⟨b0, b1, b2, bf0, bf1, bf2⟩ := blk3 ((HBX.out.alloc _).keep hb4 (by simp; omega))
      clear hr hb4
      go_wp2_with fail
      refine HC.out.mono ?_
      rintro e w5 ⟨rfl, hb5⟩
      have HB5 : Hid (Below w.heap.size w w5) := Lib.hid (HB4.out.trans (hb5.mono HB4.out.size))
      have q1 : (s.toList == s.toList) = true := by simp
      clear hb5
      go_wp2
      go_ret
      exact ⟨rfl, HB5.out⟩
end Go.Proofs.Ytcidcjghglgkhaa
