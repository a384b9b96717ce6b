/- hatchwaylaw32.alive. -/
import Derived.Test.YtcidcjghglgkhaaCapAgree
import Derived.Test.YtcidcjghglgkhaaCapS
namespace Go.Proofs.Ytcidcjghglgkhaa
set_option linter.unusedVariables false
set_option linter.unusedSimpArgs false
open Go.RowKit

def ethN : ByteArray := ⟨#[101, 116, 104]⟩
theorem alive_a : helB 1 3 [(ethN, 5), (ethN, 6)] = true := by decide +kernel
theorem alive_b : helB 2 9 [(ethN, 5), (ethN, 7)] = true := by decide +kernel
theorem alive_d : dealL (bothL [(ethN, 5), (ethN, 6)] [(ethN, 5), (ethN, 7)]) = [(ethN, 5)] := by
  rw [bothL_cons, if_pos rfl, bothL_cons, if_neg (by decide), if_pos (by decide +kernel), show bothL [] [(ethN, 7)] = [] by rw [bothL]]
  rfl
theorem alive_o : offI [(ethN, 5)] ethN = some 0 := by decide +kernel
theorem two_caps {w : World} {g : Nat} {t : TypeId} {x y : Cp} (h : Blk w g t #[.string x.1, .int .i64 x.2, .string y.1, .int .i64 y.2]) : CpR w w.heap.size (.slice (some ⟨g, 0, none⟩) 2 2) [x, y] :=
  ⟨_, 2, rfl, by simp, by simp, fun j hj => by
    match j, hj with
    | 0, _ => exact ⟨g, 0, rfl, h.lt, h.cell 0, h.cell 1⟩
    | 1, _ => exact ⟨g, 0, rfl, h.lt, h.cell 2, h.cell 3⟩
    | j + 2, hj => exact absurd hj (by simp)⟩
set_option maxRecDepth 100000 in
set_option maxHeartbeats 1600000 in
theorem alive32_c (w : World) : Calls Try.prog 21 #[] w fun e w' => e = .returned (.bool true) ∧ Below w.heap.size w w' := by
  go_enter Try.func21, Try.ntmps21
  go_wp2_with fail
  obtain ⟨W4, hW4⟩ : ∃ W4, (((w.alloc (.cells #[.string ⟨#[101, 116, 104]⟩, .int .i64 5, .string ⟨#[101, 116, 104]⟩, .int .i64 6] 74)).alloc (.cells #[.int .i64 1, .int .i64 3, .slice (some ⟨w.heap.size, 0, none⟩) 2 2] 43)).alloc (.cells #[.string ⟨#[101, 116, 104]⟩, .int .i64 5, .string ⟨#[101, 116, 104]⟩, .int .i64 7] 74)).alloc (.cells #[.int .i64 2, .int .i64 9, .slice (some ⟨w.heap.size + 1 + 1, 0, none⟩) 2 2] 43) = W4 := ⟨_, rfl⟩
  have HB4 : Hid (Below w.heap.size w W4) := Lib.hid (by rw [← hW4]; exact ((((Below.refl _ w).alloc (Nat.le_refl _) _).alloc (by simp) _).alloc (by simp; omega) _).alloc (by simp; omega) _)
  have b0 : Blk W4 w.heap.size 74 #[.string ethN, .int .i64 5, .string ethN, .int .i64 6] := by rw [← hW4]; exact (((Blk.new w _ _).alloc _).alloc _).alloc _
  have b2 : Blk W4 (w.heap.size + 1 + 1) 74 #[.string ethN, .int .i64 5, .string ethN, .int .i64 7] := by
    rw [← hW4]
    have := Blk.new ((w.alloc (.cells #[.string ⟨#[101, 116, 104]⟩, .int .i64 5, .string ⟨#[101, 116, 104]⟩, .int .i64 6] 74)).alloc (.cells #[.int .i64 1, .int .i64 3, .slice (some ⟨w.heap.size, 0, none⟩) 2 2] 43)) 74 #[.string ethN, .int .i64 5, .string ethN, .int .i64 7]
    rw [World.size_alloc, World.size_alloc] at this
    exact this.alloc _
  rw [hW4]
  clear hW4
  refine (agree_c 1 3 [(ethN, 5), (ethN, 6)] _ 2 9 [(ethN, 5), (ethN, 7)] _ W4.heap.size W4 (two_caps (x := (ethN, 5)) (y := (ethN, 6)) b0) (two_caps (x := (ethN, 5)) (y := (ethN, 7)) b2) (Nat.le_refl _) (by intro c hc; simp at hc; rcases hc with rfl | rfl <;> decide) (by intro c hc; simp at hc; rcases hc with rfl | rfl <;> decide) (by simp) (by simp)).mono ?_
  rintro e W5 ⟨hb5, hend⟩
  rw [if_pos ⟨alive_a, alive_b⟩, if_neg (by decide), alive_d] at hend
  obtain ⟨v, rfl, hc⟩ := hend
  have hmin : min (3 : Int) 9 = 3 := by decide
  rw [hmin]
  have HB5 : Hid (Below w.heap.size w W5) := Lib.hid (HB4.out.trans (hb5.mono HB4.out.size))
  obtain ⟨A, n, cap, rfl, hn, hnc, hcm⟩ := hc.form'
  obtain rfl : n = 1 := hn.out
  obtain ⟨g, o, rfl, hg, e0, e1⟩ := hc.at_ (j := 0) (by simp)
  simp only [Nat.zero_mul, Nat.add_zero] at e0 e1
  have HOF := Lib.hid (offset_c 3 [(ethN, 5)] _ ethN W5.heap.size (W5.alloc (.cells #[.int .i64 3, .slice (some ⟨g, o, none⟩) 1 cap] 38)) (hc.below ((Below.refl _ _).alloc (Nat.le_refl _) _)) (by simp) (by simp))
  rw [alive_o, offEnd] at HOF
  have HBX := Lib.hid (Blk.new W5 38 #[.int .i64 3, .slice (some ⟨g, o, none⟩) 1 cap])
  have HE1 := Lib.hid ((show (W5.alloc (.cells #[.int .i64 3, .slice (some ⟨g, o, none⟩) 1 cap] 38)).cell? ⟨g, o + 1, none⟩ = some (.int .i64 5) from (((Below.refl W5.heap.size W5).alloc (Nat.le_refl _) _).cell (p := ⟨g, o + 1, none⟩) hg).trans e1))
  clear hb5 hc hn b0 b2 e0 e1 hmin
  go_wp2_with fail
  refine HOF.out.mono ?_
  rintro e W6 ⟨rfl, hb6⟩
  have m0 : W6.cell? ⟨W5.heap.size, 0, none⟩ = some (.int .i64 3) := (HBX.out.keep hb6 (by simp)).cell 0
  have m1 : W6.cell? ⟨W5.heap.size, 1, none⟩ = some (.slice (some ⟨g, o, none⟩) 1 cap) := (HBX.out.keep hb6 (by simp)).cell 1
  have m2 := (hb6.cell (p := ⟨g, o + 1, none⟩) (by simp; omega)).trans HE1.out
  have HB6 : Hid (Below w.heap.size w W6) := Lib.hid ((HB5.out.alloc HB5.out.size _).trans (hb6.mono (by have := HB5.out.size; simp; omega)))
  clear hb6
  go_wp2
  go_ret
  exact ⟨rfl, HB6.out⟩
end Go.Proofs.Ytcidcjghglgkhaa
