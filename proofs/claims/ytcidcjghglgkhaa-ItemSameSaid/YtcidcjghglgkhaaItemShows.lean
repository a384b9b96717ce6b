/- hatchwaylaw08.ItemShows: the line of any item is the document's, or the error; it is read again. -/
import Derived.Test.YtcidcjghglgkhaaItemReads
import Derived.Test.YtcidcjghglgkhaaItemBulkP
namespace Go.Proofs.Ytcidcjghglgkhaa
set_option linter.unusedVariables false
set_option linter.unusedSimpArgs false
open Go.RowKit

set_option maxRecDepth 100000 in
set_option maxHeartbeats 800000 in
theorem itemShows_w (x : It) (c0 c1 c2 : Value) (w : World) (h : ItIn w w.heap.size x c0 c1 c2) :
    Calls Try.prog 7 #[.agg #[c0, c1, c2]] w fun e w' => e = .returned (.bool true) ∧ Below w.heap.size w w' := by
  have HI := Lib.hid h
  obtain ⟨A, cap, rfl, rfl, rfl, _⟩ := h.open_
  have HA := Lib.hid (itemAlive (w.alloc (.cells #[.string x.text, .bool x.list, .slice A x.sub.length cap] 24)))
  clear h
  go_enter Try.func7, Try.ntmps7
  go_wp2_with fail
  refine HA.out.mono ?_
  rintro e w1 ⟨rfl, hb1⟩
  have HBN := Lib.hid ((((Below.refl w.heap.size w).alloc (Nat.le_refl _) _)).trans (hb1.mono (by first | exact (((Below.refl w.heap.size w).alloc (Nat.le_refl _) _)).size | (simp only [World.size_alloc]; omega))))
  have HKN := Lib.hid (((Blk.new w _ _)).keep hb1 (by first | exact ((Blk.new w _ _)).lt | simp))
  have HB : Hid (Below w.heap.size w w1) := HBN
  have HK : Hid (Blk w1 w.heap.size 24 #[.string x.text, .bool x.list, .slice A x.sub.length cap]) := HKN
  clear HBN HKN hb1
  obtain ⟨g0, g1, g2, _, _, _⟩ := blk3 HK.out
  have HG := Lib.hid (great_c x w.heap.size w1 _ _ _ (HI.out.below HB.out) HB.out.size)
  cases hg : x.great with
  | true =>
    rw [hg] at HG
    go_wp2_with fail
    refine HG.out.mono ?_
    rintro e w2 ⟨rfl, hb2⟩
    have HB2 := Lib.hid (HB.out.trans (hb2.mono HB.out.size))
    clear hb2
    go_wp2
    go_ret
    exact ⟨rfl, HB2.out⟩
  | false =>
    rw [hg] at HG
    have hcnt := great_count x hg
    have hlen := great_show x hg
    go_wp2_with fail
    refine HG.out.mono ?_
    rintro e w2 ⟨rfl, hb2⟩
    have HBN := Lib.hid ((HB.out).trans (hb2.mono (by first | exact (HB.out).size | (simp only [World.size_alloc]; omega))))
    have HKN := Lib.hid ((HK.out).keep hb2 (by first | exact (HK.out).lt | simp))
    have HB : Hid (Below w.heap.size w w2) := HBN
    have HK : Hid (Blk w2 w.heap.size 24 #[.string x.text, .bool x.list, .slice A x.sub.length cap]) := HKN
    clear HBN HKN hb2
    obtain ⟨g0, g1, g2, _, _, _⟩ := blk3 HK.out
    cases hm : x.may with
    | false =>
      have HS := Lib.hid (show_no x w.heap.size w2 _ _ _ (HI.out.below HB.out) HB.out.size hm)
      go_wp2_with fail
      refine HS.out.mono ?_
      rintro e w3 ⟨rfl, hb3⟩
      have HBN := Lib.hid ((HB.out).trans (hb3.mono (by first | exact (HB.out).size | (simp only [World.size_alloc]; omega))))
      have HKN := Lib.hid ((HK.out).keep hb3 (by first | exact (HK.out).lt | simp))
      have HB : Hid (Below w.heap.size w w3) := HBN
      have HK : Hid (Blk w3 w.heap.size 24 #[.string x.text, .bool x.list, .slice A x.sub.length cap]) := HKN
      clear HBN HKN hb3
      obtain ⟨g0, g1, g2, _, _, _⟩ := blk3 HK.out
      have HM := Lib.hid (refMay_c x w.heap.size w3 _ _ _ (HI.out.below HB.out) HB.out.size (by omega))
      rw [hm] at HM
      go_wp2_with fail
      refine HM.out.mono ?_
      rintro e w4 ⟨rfl, hb4⟩
      have HBN := Lib.hid ((HB.out).trans (hb4.mono (by first | exact (HB.out).size | (simp only [World.size_alloc]; omega))))
      have HKN := Lib.hid ((HK.out).keep hb4 (by first | exact (HK.out).lt | simp))
      have HB : Hid (Below w.heap.size w w4) := HBN
      have HK : Hid (Blk w4 w.heap.size 24 #[.string x.text, .bool x.list, .slice A x.sub.length cap]) := HKN
      clear HBN HKN hb4
      obtain ⟨g0, g1, g2, _, _, _⟩ := blk3 HK.out
      go_wp2
      go_ret
      exact ⟨rfl, HB.out⟩
    | true =>
      have HS := Lib.hid (show_yes x w.heap.size w2 _ _ _ (HI.out.below HB.out) HB.out.size hm (by omega))
      have hX : (⟨x.show.toArray⟩ : ByteArray).size ≤ 20000 := by rw [size_of]; exact hlen
      have HR : Hid (readIt (⟨x.show.toArray⟩ : ByteArray).data.toList = some x) := Lib.hid (by simpa using readIt_back x hm)
      obtain ⟨X, HX⟩ : ∃ X, Hid ((⟨x.show.toArray⟩ : ByteArray) = X) := ⟨_, Lib.hid rfl⟩
      rw [HX.out] at HS hX HR
      go_wp2_with fail
      refine HS.out.mono ?_
      rintro e w3 ⟨rfl, hb3⟩
      have HBN := Lib.hid ((HB.out).trans (hb3.mono (by first | exact (HB.out).size | (simp only [World.size_alloc]; omega))))
      have HKN := Lib.hid ((HK.out).keep hb3 (by first | exact (HK.out).lt | simp))
      have HB : Hid (Below w.heap.size w w3) := HBN
      have HK : Hid (Blk w3 w.heap.size 24 #[.string x.text, .bool x.list, .slice A x.sub.length cap]) := HKN
      clear HBN HKN hb3
      obtain ⟨g0, g1, g2, _, _, _⟩ := blk3 HK.out
      have HM := Lib.hid (refMay_c x w.heap.size w3 _ _ _ (HI.out.below HB.out) HB.out.size (by omega))
      rw [hm] at HM
      go_wp2_with fail
      refine HM.out.mono ?_
      rintro e w4 ⟨rfl, hb4⟩
      have HBN := Lib.hid ((HB.out).trans (hb4.mono (by first | exact (HB.out).size | (simp only [World.size_alloc]; omega))))
      have HKN := Lib.hid ((HK.out).keep hb4 (by first | exact (HK.out).lt | simp))
      have HB : Hid (Below w.heap.size w w4) := HBN
      have HK : Hid (Blk w4 w.heap.size 24 #[.string x.text, .bool x.list, .slice A x.sub.length cap]) := HKN
      clear HBN HKN hb4
      obtain ⟨g0, g1, g2, _, _, _⟩ := blk3 HK.out
      have HC := Lib.hid (read_c X w4 (by omega))
      rw [HR.out] at HC
      go_wp2_with fail
      refine HC.out.mono ?_
      rintro e w5 ⟨hb5, d0, d1, d2, rfl, hy⟩
      have HY := Lib.hid hy
      obtain ⟨A', cap', rfl, rfl, rfl, _⟩ := hy.open_
      have HBN := Lib.hid ((HB.out).trans (hb5.mono (by first | exact (HB.out).size | (simp only [World.size_alloc]; omega))))
      have HKN := Lib.hid ((HK.out).keep hb5 (by first | exact (HK.out).lt | simp))
      have HB : Hid (Below w.heap.size w w5) := HBN
      have HK : Hid (Blk w5 w.heap.size 24 #[.string x.text, .bool x.list, .slice A x.sub.length cap]) := HKN
      clear HBN HKN hb5
      obtain ⟨g0, g1, g2, _, _, _⟩ := blk3 HK.out
      have hlw : w.heap.size < w5.heap.size := HK.out.lt
      have HW := Lib.hid (refShow_c x w.heap.size (w5.alloc (.cells #[.string x.text, .bool x.list, .slice A' x.sub.length cap'] 24)) _ _ _ (HI.out.below (HB.out.alloc HB.out.size _)) (by have := HB.out.size; simp; omega) (by omega))
      rw [HX.out] at HW
      have q1 : (X.toList == X.toList) = true := by simp
      clear hy
      go_wp2_with fail
      refine HW.out.mono ?_
      rintro e w6 ⟨rfl, hb6⟩
      have hz6 := hb6.size
      simp only [World.size_alloc] at hz6
      have HBB := Lib.hid ((HB.out.alloc HB.out.size _).trans (hb6.mono (by have := HB.out.size; simp; omega)))
      have HYY := Lib.hid ((HY.out.below ((Below.refl _ _).alloc (Nat.le_refl _) (.cells #[.string x.text, .bool x.list, .slice A' x.sub.length cap'] 24))).below hb6)
      obtain ⟨r0, r1, r2, _, _, _⟩ := blk3 ((Blk.new w5 24 #[.string x.text, .bool x.list, .slice A' x.sub.length cap']).keep hb6 (by simp))
      clear g0 g1 g2
      obtain ⟨g0, g1, g2, _, _, _⟩ := blk3 ((HK.out.alloc _).keep hb6 (by simp; omega))
      have HE := Lib.hid (refSame_c x w6.heap.size w6 _ _ _ ((HI.out.below HBB.out).mono HBB.out.size) (Nat.le_refl _) x _ _ _ HYY.out.toIn)
      clear hb6
      go_wp2_with fail
      refine HE.out.mono ?_
      rintro e w7 ⟨⟨r, rfl, hr⟩, hb7⟩
      obtain rfl : r = true := hr.2 rfl
      have HB7 := Lib.hid (HBB.out.trans (hb7.mono HBB.out.size))
      clear hr hb7
      go_wp2
      go_ret
      exact ⟨rfl, HB7.out⟩
end Go.Proofs.Ytcidcjghglgkhaa
