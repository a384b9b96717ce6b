/- hatchwaylaw21.alive; items that a call lays itself, in a row. -/
import Derived.Test.YtmcdgmepheibkaaDoorTypedG
import Derived.Test.YtmcdgmepheibkaaDoorTyGet
namespace Go.Proofs.YtmcdgmepheibkaaDoor
set_option linter.unusedVariables false
set_option linter.unusedSimpArgs false
open Go.RowKit

theorem exTy_may : exTy.may = true := by
  simp [exTy, Ty.may, Ty.count, Ty.deep, Ty.right, countT, deepT, rightT, tyOk]
theorem exTy_get : readTy [123, 117, 49, 54, 44, 63, 115, 53, 125] = some exTy := by rw [readTy_eq, exTy_read]; simp [readT, exTy_may]
def exIt1 : It := .mk ⟨#[]⟩ true [.mk ⟨#[1, 44]⟩ false []]
def exIt2 : It := .mk ⟨#[]⟩ true [.mk ⟨#[]⟩ false [], .mk ⟨#[]⟩ false [], .mk ⟨#[]⟩ false []]
theorem exIt1_fits : fitE exTy exIt1 = 0 := by
  unfold fitE
  rw [exTy_may]
  simp [exTy, exIt1, It.may, It.right, It.deep, It.count, rightL, deepL, countL, formed, It.isOf, isOfL, is1, Ty.at, lead0, ByteArray.size]
theorem exIt2_fits : fitE exTy exIt2 = 12 := by
  unfold fitE
  rw [exTy_may]
  simp [exTy, exIt2, It.may, It.right, It.deep, It.count, rightL, deepL, countL, formed, It.isOf, isOfL, is1, Ty.at, lead0, ByteArray.size]
theorem leaf_in (w : World) (B : Nat) (t : ByteArray) (l : Bool) (h : t.size ≤ 9223372036854775807) : ItIn w B (.mk t l []) (.string t) (.bool l) (.slice none 0 0) := ⟨rfl, rfl, h, by simp, none, 0, rfl, by simp, by simp, trivial⟩
set_option maxRecDepth 100000 in
set_option maxHeartbeats 1600000 in
theorem alive21_c (w : World) (hL : Laid w) : Calls Tryd.prog 11 #[] w fun e w' => e = .returned (.bool true) ∧ Below w.heap.size w w' := by
  have HG := Lib.hid (refGet20_c ⟨#[123, 117, 49, 54, 44, 63, 115, 53, 125]⟩ w (by simp [ByteArray.size]))
  have HL := Lib.hid hL
  have hpos := hL.pos
  clear hL
  go_enter Tryd.func11, Tryd.ntmps11
  go_wp2_with fail
  refine HG.out.mono ?_
  rintro e w1 hend
  rw [exTy_get] at hend
  obtain ⟨hb, c0, c1, c2, c3, rfl, hy⟩ := hend
  have hz := hb.size
  obtain ⟨AA, ccap, rfl, rfl, rfl, rfl, _⟩ := hy.open_
  obtain ⟨W1, hW1⟩ : ∃ W1, w1.alloc (.cells #[.int .i64 exTy.kind, .int .i64 exTy.size, .slice AA exTy.sub.length ccap, .int .i64 exTy.tail] 24) = W1 := ⟨_, rfl⟩
  obtain ⟨W2, hW2⟩ : ∃ W2, W1.alloc (.cells #[.string ⟨#[1, 44]⟩, .bool false, .slice none 0 0] 27) = W2 := ⟨_, rfl⟩
  have hz1 : W1.heap.size = w1.heap.size + 1 := by rw [← hW1]; simp
  have hz2 : W2.heap.size = w1.heap.size + 2 := by rw [← hW2]; simp [hz1]
  have hb1 : Below w1.heap.size w1 W1 := by rw [← hW1]; exact (Below.refl _ _).alloc (Nat.le_refl _) _
  have hb2 : Below W1.heap.size W1 W2 := by rw [← hW2]; exact (Below.refl _ _).alloc (Nat.le_refl _) _
  have hbx : Blk W1 w1.heap.size 24 #[.int .i64 exTy.kind, .int .i64 exTy.size, .slice AA exTy.sub.length ccap, .int .i64 exTy.tail] := by rw [← hW1]; exact Blk.new _ _ _
  have hbi : Blk W2 W1.heap.size 27 #[.string ⟨#[1, 44]⟩, .bool false, .slice none 0 0] := by rw [← hW2]; exact Blk.new _ _ _
  have hty2 : TyIn W2 w1.heap.size exTy (.int .i64 exTy.kind) (.int .i64 exTy.size) (.slice AA exTy.sub.length ccap) (.int .i64 exTy.tail) := ((TyS.toIn exTy hy).below hb1).below (hb2.mono (by omega))
  have hit2 : ItIn W2 W2.heap.size exIt1 (.string ⟨#[]⟩) (.bool true) (.slice (some ⟨W1.heap.size, 0, none⟩) 1 1) := ⟨rfl, rfl, by simp [ByteArray.size], by simp, _, 1, rfl, by simp, by simp, ⟨_, _, _, _, _, rfl, by omega, hbi.cell 0, hbi.cell 1, hbi.cell 2, leaf_in _ _ _ _ (by simp [ByteArray.size])⟩, trivial⟩
  have hl2 : Laid W2 := ((HL.out.below hb hpos).below hb1 (by omega)).below hb2 (by omega)
  have HF1 := Lib.hid (fits_c exTy exIt1 W2.heap.size W2 _ _ _ _ _ _ _ (hty2.mono (by omega)) hit2 (Nat.le_refl _) hl2)
  rw [exIt1_fits] at HF1
  have HB2 : Hid (Below w.heap.size w W2) := Lib.hid (hb.trans ((hb1.mono hz).trans (hb2.mono (by omega))))
  have HTY := Lib.hid hty2
  have HL2 := Lib.hid hl2
  have HBX := Lib.hid (hbx.keep hb2 (by omega))
  have HZ := Lib.hid (And.intro hz (And.intro hz1 hz2))
  have HW1 := Lib.hid hW1
  have HW2 := Lib.hid hW2
  rw [hz1] at HF1
  clear hb hy hW1 hW2 hb1 hb2 hbx hbi hty2 hit2 hl2 hz1 hz2
  generalize exTy.kind = k0 at *
  generalize exTy.size = k1 at *
  generalize exTy.sub.length = k2 at *
  generalize exTy.tail = k3 at *
  go_wp2_with fail
  rw [HW1.out]
  first | rw [HW2.out] | skip
  refine HF1.out.mono ?_
  rintro e w3 ⟨rfl, hb3⟩
  obtain ⟨hz, hz1, hz2⟩ := HZ.out
  have hz3 := hb3.size
  obtain ⟨b0, b1, b2, b3, _⟩ := blk4 (HBX.out.keep hb3 (by omega))
  obtain ⟨W4, hW4⟩ : ∃ W4, w3.alloc (.cells #[.string ⟨#[]⟩, .bool false, .slice none 0 0, .string ⟨#[]⟩, .bool false, .slice none 0 0, .string ⟨#[]⟩, .bool false, .slice none 0 0] 27) = W4 := ⟨_, rfl⟩
  have hz4 : W4.heap.size = w3.heap.size + 1 := by rw [← hW4]; simp
  have hb4 : Below w3.heap.size w3 W4 := by rw [← hW4]; exact (Below.refl _ _).alloc (Nat.le_refl _) _
  have hbi : Blk W4 w3.heap.size 27 #[.string ⟨#[]⟩, .bool false, .slice none 0 0, .string ⟨#[]⟩, .bool false, .slice none 0 0, .string ⟨#[]⟩, .bool false, .slice none 0 0] := by rw [← hW4]; exact Blk.new _ _ _
  have hit4 : ItIn W4 W4.heap.size exIt2 (.string ⟨#[]⟩) (.bool true) (.slice (some ⟨w3.heap.size, 0, none⟩) 3 3) := ⟨rfl, rfl, by simp [ByteArray.size], by simp, _, 3, rfl, by simp, by simp, ⟨_, _, _, _, _, rfl, by omega, hbi.cell 0, hbi.cell 1, hbi.cell 2, leaf_in _ _ _ _ (by simp [ByteArray.size])⟩, ⟨_, _, _, _, _, rfl, by omega, hbi.cell 3, hbi.cell 4, hbi.cell 5, leaf_in _ _ _ _ (by simp [ByteArray.size])⟩, ⟨_, _, _, _, _, rfl, by omega, hbi.cell 6, hbi.cell 7, hbi.cell 8, leaf_in _ _ _ _ (by simp [ByteArray.size])⟩, trivial⟩
  have HF2 := Lib.hid (fits_c exTy exIt2 W4.heap.size W4 _ _ _ _ _ _ _ (((HTY.out.below (hb3.mono (by omega))).below (hb4.mono (by omega))).mono (by omega)) hit4 (Nat.le_refl _) ((HL2.out.below hb3 (by omega)).below hb4 (by omega)))
  rw [exIt2_fits] at HF2
  have HB4 : Hid (Below w.heap.size w W4) := Lib.hid (HB2.out.trans ((hb3.mono (by omega)).trans (hb4.mono (by omega))))
  have HZ4 : Hid (w.heap.size ≤ W4.heap.size) := Lib.hid (by omega)
  have HW4 := Lib.hid hW4
  clear hb3 hW4 hb4 hbi hit4 hz hz1 hz2 hz3 hz4
  go_wp2_with fail
  rw [HW4.out]
  refine HF2.out.mono ?_
  rintro e w5 ⟨rfl, hb5⟩
  have HB5 : Hid (Below w.heap.size w w5) := Lib.hid (HB4.out.trans (hb5.mono HZ4.out))
  clear hb5
  go_wp2
  go_ret
  exact ⟨rfl, HB5.out⟩
end Go.Proofs.YtmcdgmepheibkaaDoor
