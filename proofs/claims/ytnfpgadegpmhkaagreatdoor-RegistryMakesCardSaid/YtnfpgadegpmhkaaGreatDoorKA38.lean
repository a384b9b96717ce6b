/- schema.Get: the type of any text, or the error, is the document's. -/
import Derived.Test.YtnfpgadegpmhkaaGreatDoorKA37
import Derived.Test.YtnfpgadegpmhkaaGreatDoorKA22
import Derived.Test.YtnfpgadegpmhkaaGreatDoorKA6
set_option linter.unusedVariables false
set_option linter.unusedSimpArgs false
set_option maxRecDepth 100000
set_option maxHeartbeats 1600000
namespace Go.Proofs.YtnfpgadegpmhkaaGreatDoor
open Go.RowKit
theorem readTy_bad {l : List UInt8} (h : ∀ t' r, tItem 8 l = some (t', r) → TyBad 64 t') : readTy l = none := by
 unfold readTy
 split
 ·rename_i x hx
  rw [(h x [] hx).may]; rfl
 ·rfl
theorem readTy_rest {l r : List UInt8} {t : Ty} (h : tItem 8 l = some (t, r)) (hr : r ≠ []) : readTy l = none := by
 unfold readTy
 rw [h]
 cases r with
 | nil => exact absurd rfl hr
 | cons c r => rfl
theorem readTy_all {l : List UInt8} {t : Ty} (h : tItem 8 l = some (t, [])) : readTy l = if t.may = true then some t else none := by
 unfold readTy
 rw [h]
theorem scGet_c (s : ByteArray) (w : World) (hs : s.size ≤ 100000) (hL : Laid w) :
 Calls Tryz.prog 41 #[.string s] w fun e w' => GetEnd20 w (readTy s.data.toList) e w' := by
 have HC := Lib.hid (scRead_c 8 1 rfl (w.heap.size + 1) s 0 64 ((w.alloc (.cells #[.int .i64 0, .int .i64 0, .slice none 0 0, .int .i64 0] 55)).alloc (.cells #[.string s, .int .i64 0, .int .i64 64] 107)) (Blk.at_ (by simp)) (Nat.zero_le _) hs (Nat.le_refl _))
 have hbz := (Blk.new w 55 #[.int .i64 0, .int .i64 0, .slice none 0 0, .int .i64 0]).alloc (.cells #[.string s, .int .i64 0, .int .i64 64] 107)
 have hbl := ((Below.refl w.heap.size w).alloc (Nat.le_refl _) (.cells #[.int .i64 0, .int .i64 0, .slice none 0 0, .int .i64 0] 55)).alloc (by simp) (.cells #[.string s, .int .i64 0, .int .i64 64] 107)
 have hsz : ((w.alloc (.cells #[.int .i64 0, .int .i64 0, .slice none 0 0, .int .i64 0] 55)).alloc (.cells #[.string s, .int .i64 0, .int .i64 64] 107)).heap.size = w.heap.size + 2 := by simp
 generalize hW : ((w.alloc (.cells #[.int .i64 0, .int .i64 0, .slice none 0 0, .int .i64 0] 55)).alloc (.cells #[.string s, .int .i64 0, .int .i64 64] 107)) = W0 at *
 have HW := Lib.hid hW
 have HBZ := Lib.hid hbz
 have HBL := Lib.hid hbl
 have hpos := hL.pos
 obtain ⟨R, HR⟩ : ∃ R, Hid (readTy s.data.toList = R) := ⟨_, Lib.hid rfl⟩
 rw [HR.out]
 clear hW hbz hbl
 go_enter Tryz.func41, Tryz.ntmps41
 go_wp2_with fail
 rw [HW.out]
 refine HC.out.mono ?_
 rintro e w1 ⟨t, ok, q, L1, k, z, ta, A, n, cap, rfl, hr, ho, hle, hn, hty⟩
 have HBK := Lib.hid (HBZ.out.only ho (by simp))
 have HB1 : Hid (Below w.heap.size w w1) := Lib.hid (HBL.out.trans (ho.below (by omega) (by simp)))
 obtain ⟨r0, r1, r2, r3, rf0, rf1, rf2, rf3⟩ := blk4 HBK.out
 have g1 := hr.cells.2.1
 have hlw1 : w.heap.size + 1 < w1.heap.size := hr.cells.2.2.2.2.2.2
 have hlw : w.heap.size < w1.heap.size := by omega
 clear HC ho hr
 cases ok with
 | false =>
  have HE : Hid (R = none) := Lib.hid (by rw [← HR.out]; exact readTy_bad (fun t' r h => hn.2.1 rfl t' r (by rw [List.drop_zero]; exact h)))
  clear hn hty
  go_wp2
  refine bodyPost_ret (v := .tuple #[.agg #[.int .i64 0, .int .i64 0, .slice none 0 0, .int .i64 0], .int .i64 3]) (by simp [results, Tryz.results41, go_sem, r0, r1, r2, r3, World.cell?_alloc_lt, hlw]) rfl ?_
  rw [HE.out]
  exact ⟨(((((HB1.out.setCell (by simp) _).setCell (by simp) _).setCell (by simp) _).setCell (by simp) _).alloc (by simp [World.setCell]; omega) _), rfl⟩
 | true =>
  obtain ⟨h1, _, _⟩ := hn.1 rfl
  have hqz := hn.2.2
  rw [List.drop_zero] at h1
  by_cases hqs : q = s.size
  ·subst hqs
   have n1 : ((s.size : Int) != (s.size : Int)) = false := by simp
   rw [List.drop_eq_nil_of_le (by rw [toList_size]; exact Nat.le_refl _)] at h1
   have h2 := readTy_all h1
   have HX := Lib.hid (hty rfl)
   have HM := Lib.hid (schemaMay_c t _ (w1.alloc (.cells #[.int .i64 k, .int .i64 z, .slice A n cap, .int .i64 ta] 55)) _ _ _ _ ((HX.out.below ((Below.refl _ _).alloc (Nat.le_refl _) _)).toIn) (Nat.le_refl _) (hL.below (HB1.out.alloc (by omega) _) hpos))
   rw [HR.out] at h2
   generalize t.may = m at *
   have HE := Lib.hid h2
   clear h1 h2 hn hty HR
   go_wp2_with fail
   refine HM.out.mono ?_
   rintro e w5 ⟨rfl, hb5⟩
   have hz5 := hb5.size
   simp only [World.size_alloc] at hz5
   clear r0 r1 r2 r3 rf0 rf1 rf2 rf3
   obtain ⟨r0, r1, r2, r3, rf0, rf1, rf2, rf3⟩ := blk4 ((HBK.out.alloc _).keep hb5 (by simp; omega))
   obtain ⟨b0, b1, b2, b3, bf0, bf1, bf2, bf3⟩ := blk4 ((Blk.new w1 55 #[.int .i64 k, .int .i64 z, .slice A n cap, .int .i64 ta]).keep hb5 (by simp))
   have HB5 : Hid (Below w.heap.size w w5) := Lib.hid ((HB1.out.alloc (by omega) _).trans (hb5.mono (by simp; omega)))
   have HX5 := Lib.hid ((HX.out.below ((Below.refl _ _).alloc (Nat.le_refl _) (.cells #[.int .i64 k, .int .i64 z, .slice A n cap, .int .i64 ta] 55))).below hb5)
   have hlw5 : w.heap.size < w5.heap.size := by omega
   clear hb5
   cases m with
   | true =>
    go_wp2
    refine bodyPost_ret (v := .tuple #[.agg #[.int .i64 k, .int .i64 z, .slice A n cap, .int .i64 ta], .int .i64 0]) (by simp [results, Tryz.results41, go_sem, r0, r1, r2, r3]) rfl ?_
    rw [HE.out, if_pos (by first | rfl | trivial)]
    exact ⟨(((HB5.out.setCell (by simp) _).setCell (by simp) _).setCell (by simp) _).setCell (by simp) _, _, _, _, _, rfl, HX5.out.only (L := [w.heap.size]) (((((Only.refl _ w5).setCell (by simp) _).setCell (by simp) _).setCell (by simp) _).setCell (by simp) _) (by simp; omega) (fun k _ hk => by have hk : W0.heap.size ≤ k := hk; show w.heap.size ≤ k; omega)⟩
   | false =>
    go_wp2
    refine bodyPost_ret (v := .tuple #[.agg #[.int .i64 0, .int .i64 0, .slice none 0 0, .int .i64 0], .int .i64 3]) (by simp [results, Tryz.results41, go_sem, r0, r1, r2, r3]) rfl ?_
    rw [HE.out, if_neg (by simp)]
    exact ⟨(((HB5.out.setCell (by simp) _).setCell (by simp) _).setCell (by simp) _).setCell (by simp) _, rfl⟩
  ·have n1 : ((q : Int) != (s.size : Int)) = true := bne_iff_ne.2 (by omega)
   have HE : Hid (R = none) := Lib.hid (by
    rw [← HR.out]
    refine readTy_rest h1 (fun h0 => ?_)
    have := congrArg List.length h0
    simp only [List.length_drop, toList_size, List.length_nil] at this
    omega)
   clear hn hty h1 hqs
   go_wp2
   refine bodyPost_ret (v := .tuple #[.agg #[.int .i64 0, .int .i64 0, .slice none 0 0, .int .i64 0], .int .i64 3]) (by simp [results, Tryz.results41, go_sem, r0, r1, r2, r3, World.cell?_alloc_lt, hlw]) rfl ?_
   rw [HE.out]
   exact ⟨(((((HB1.out.setCell (by simp) _).setCell (by simp) _).setCell (by simp) _).setCell (by simp) _).alloc (by simp [World.setCell]; omega) _), rfl⟩
end Go.Proofs.YtnfpgadegpmhkaaGreatDoor
