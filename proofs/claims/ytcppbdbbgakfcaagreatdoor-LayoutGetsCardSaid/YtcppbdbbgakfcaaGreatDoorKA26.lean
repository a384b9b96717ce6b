/- hatchwaylaw23.alive. -/
import Derived.Test.YtcppbdbbgakfcaaGreatDoorKA19
import Derived.Test.YtcppbdbbgakfcaaGreatDoorKA25
import Derived.Test.YtcppbdbbgakfcaaGreatDoorKA21
set_option linter.unusedVariables false
set_option linter.unusedSimpArgs false
set_option maxRecDepth 100000
set_option maxHeartbeats 1600000
namespace Go.Proofs.YtcppbdbbgakfcaaGreatDoor
open Go.RowKit
theorem exLy_put : lyPut exTy2 exIt22 3 = (⟨#[44, 1, 2, 97, 98]⟩, 0) := by
 have h1 : lyPutE exTy2 exIt22 3 = 0 := by
  unfold lyPutE
  rw [if_neg (by simp only [Ty.flat, exTy2_may]; simp [exTy2, fullL, Ty.full]), exIt22_fits]
  simp [exIt22, It.count, countL]
 unfold lyPut
 rw [if_pos h1]
 simp [exIt22, exTy2, It.lay, layL, Ty.at, beL, leL, leD, cpPut, ub, ByteArray.size]
theorem alive23_c (w : World) (hL : Laid w) (hLC : LaidC w) : Calls Tryz.prog 6 #[] w fun e w' => e = .returned (.bool true) ∧ Below w.heap.size w w' := by
 have HG := Lib.hid (refGet20_c ⟨#[123, 117, 49, 54, 44, 115, 53, 125]⟩ w (by simp [ByteArray.size]))
 have HL := Lib.hid hL
 have hpos := hL.pos
 have hposc := hLC.pos
 have HLC := Lib.hid hLC
 clear hL hLC
 go_enter Tryz.func6, Tryz.ntmps6
 go_wp2_with fail
 refine HG.out.mono ?_
 rintro e w1 hend
 rw [exTy2_get] at hend
 obtain ⟨hb, c0, c1, c2, c3, rfl, hy⟩ := hend
 have hz := hb.size
 obtain ⟨AA, ccap, rfl, rfl, rfl, rfl, _⟩ := hy.open_
 obtain ⟨W1, hW1⟩ : ∃ W1, w1.alloc (.cells #[.int .i64 exTy2.kind, .int .i64 exTy2.size, .slice AA exTy2.sub.length ccap, .int .i64 exTy2.tail] 24) = W1 := ⟨_, rfl⟩
 obtain ⟨W2, hW2⟩ : ∃ W2, W1.alloc (.cells #[.string ⟨#[1, 44]⟩, .bool false, .slice none 0 0, .string ⟨#[97, 98]⟩, .bool false, .slice none 0 0] 27) = W2 := ⟨_, rfl⟩
 have hz1 : W1.heap.size = w1.heap.size + 1 := by rw [← hW1]; simp
 have hz2 : W2.heap.size = w1.heap.size + 2 := by rw [← hW2]; simp [hz1]
 have hb1 : Below w1.heap.size w1 W1 := by rw [← hW1]; exact (Below.refl _ _).alloc (Nat.le_refl _) _
 have hb2 : Below W1.heap.size W1 W2 := by rw [← hW2]; exact (Below.refl _ _).alloc (Nat.le_refl _) _
 have hbi : Blk W2 W1.heap.size 27 #[.string ⟨#[1, 44]⟩, .bool false, .slice none 0 0, .string ⟨#[97, 98]⟩, .bool false, .slice none 0 0] := by rw [← hW2]; exact Blk.new _ _ _
 have hty2 : TyIn W2 w1.heap.size exTy2 (.int .i64 exTy2.kind) (.int .i64 exTy2.size) (.slice AA exTy2.sub.length ccap) (.int .i64 exTy2.tail) := ((TyS.toIn exTy2 hy).below hb1).below (hb2.mono (by omega))
 have hit2 : ItIn W2 W2.heap.size exIt22 (.string ⟨#[]⟩) (.bool true) (.slice (some ⟨W1.heap.size, 0, none⟩) 2 2) := ⟨rfl, rfl, by simp [ByteArray.size], by simp, _, 2, rfl, by simp, by simp, ⟨_, _, _, _, _, rfl, by omega, hbi.cell 0, hbi.cell 1, hbi.cell 2, leaf_in' _ _ _ _ (by simp [ByteArray.size])⟩, ⟨_, _, _, _, _, rfl, by omega, hbi.cell 3, hbi.cell 4, hbi.cell 5, leaf_in' _ _ _ _ (by simp [ByteArray.size])⟩, trivial⟩
 have hl2 : Laid W2 := ((HL.out.below hb hpos).below hb1 (by omega)).below hb2 (by omega)
 have hc2 : LaidC W2 := ((HLC.out.below hb hposc).below hb1 (by omega)).below hb2 (by omega)
 have HF1 := Lib.hid (layoutPut_c exTy2 exIt22 3 W2.heap.size W2 _ _ _ _ _ _ _ (hty2.mono (by omega)) hit2 (Nat.le_refl _) hl2 hc2)
 rw [exLy_put] at HF1
 have HB2 : Hid (Below w.heap.size w W2) := Lib.hid (hb.trans ((hb1.mono hz).trans (hb2.mono (by omega))))
 have HZ := Lib.hid (And.intro hz (And.intro hz1 hz2))
 have HW1 := Lib.hid hW1
 have HW2 := Lib.hid hW2
 rw [hz1] at HF1
 clear hb hy hW1 hW2 hb1 hb2 hbi hty2 hit2 hl2 hc2 hz1 hz2
 generalize exTy2.kind = k0 at *
 generalize exTy2.size = k1 at *
 generalize exTy2.sub.length = k2 at *
 generalize exTy2.tail = k3 at *
 go_wp2_with fail
 rw [HW1.out]
 first | rw [HW2.out] | skip
 refine HF1.out.mono ?_
 rintro e w3 ⟨rfl, hb3⟩
 have HB3 : Hid (Below w.heap.size w w3) := Lib.hid (HB2.out.trans (hb3.mono (by have := HZ.out; omega)))
 clear hb3
 go_wp2
 go_ret
 exact ⟨rfl, HB3.out⟩
end Go.Proofs.YtcppbdbbgakfcaaGreatDoor
