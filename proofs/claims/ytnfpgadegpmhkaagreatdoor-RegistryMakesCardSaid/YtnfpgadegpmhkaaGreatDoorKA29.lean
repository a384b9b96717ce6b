/- tree.first: three checks, up to the first error. -/
import Derived.Test.YtnfpgadegpmhkaaGreatDoorKA22
import Derived.Test.YtnfpgadegpmhkaaGreatDoorKA6
import Derived.Laws.EntriesVeiled
set_option linter.unusedVariables false
set_option linter.unusedSimpArgs false
set_option maxRecDepth 100000
set_option maxHeartbeats 2000000
namespace Go.Proofs.YtnfpgadegpmhkaaGreatDoor
open Go.RowKit
def fstE (e0 e1 e2 : Int) : Int := if e0 ≠ 0 then e0 else if e1 ≠ 0 then e1 else e2
def fstI (e0 e1 : Int) (I1 I2 I3 : World → Prop) (w : World) : Prop := if e0 ≠ 0 then I1 w else if e1 ≠ 0 then I2 w else I3 w
theorem fst_0 {e0 : Int} (h : e0 ≠ 0) (e1 e2 : Int) (I1 I2 I3 : World → Prop) (w : World) (hi : I1 w) : fstE e0 e1 e2 = e0 ∧ fstI e0 e1 I1 I2 I3 w := by
 unfold fstE fstI; rw [if_pos h, if_pos h]; exact ⟨rfl, hi⟩
theorem fst_1 {e0 e1 : Int} (h : e0 = 0) (h1 : e1 ≠ 0) (e2 : Int) (I1 I2 I3 : World → Prop) (w : World) (hi : I2 w) : fstE e0 e1 e2 = e1 ∧ fstI e0 e1 I1 I2 I3 w := by
 subst h; simp [fstE, fstI, h1, hi]
theorem fst_2 {e0 e1 : Int} (h : e0 = 0) (h1 : e1 = 0) (e2 : Int) (I1 I2 I3 : World → Prop) (w : World) (hi : I3 w) : fstE e0 e1 e2 = e2 ∧ fstI e0 e1 I1 I2 I3 w := by
 subst h; subst h1; simp [fstE, fstI, hi]
theorem firstPut_c (w : World) (B : Nat) (k0 k1 k2 : Array Value) (e0 e1 e2 : Int) (I1 I2 I3 : World → Prop)
 (hB : Blk w B 114 #[.func (.func 66) #[] k0, .func (.func 68) #[] k1, .func (.func 70) #[] k2])
 (h0 : Calls Tryz.prog 66 k0 w fun e w' => e = .returned (.int .i64 e0) ∧ I1 w') (h1 : e0 = 0 → ∀ w1, I1 w1 → Calls Tryz.prog 68 k1 w1 fun e w' => e = .returned (.int .i64 e1) ∧ I2 w') (h2 : e0 = 0 → e1 = 0 → ∀ w2, I2 w2 → Calls Tryz.prog 70 k2 w2 fun e w' => e = .returned (.int .i64 e2) ∧ I3 w')
 (b1 : ∀ w', I1 w' → Blk w' B 114 #[.func (.func 66) #[] k0, .func (.func 68) #[] k1, .func (.func 70) #[] k2]) (b2 : ∀ w', I2 w' → Blk w' B 114 #[.func (.func 66) #[] k0, .func (.func 68) #[] k1, .func (.func 70) #[] k2]) :
 Calls Tryz.prog 65 #[.slice (some ⟨B, 0, none⟩) 3 3] w fun e w' => e = .returned (.int .i64 (fstE e0 e1 e2)) ∧ fstI e0 e1 I1 I2 I3 w' := by
 have H0 := Lib.hid h0
 have H1 := Lib.hid h1
 have H2 := Lib.hid h2
 have B1 := Lib.hid b1
 have B2 := Lib.hid b2
 have HB := Lib.hid hB
 clear h0 h1 h2 b1 b2 hB
 go_enter Tryz.func65, Tryz.ntmps65
 go_wp2_with fail
 go_loopw [8] (fun i wr => (i = .int .i64 0 ∧ Hid (wr = w)) ∨ (i = .int .i64 1 ∧ Hid (e0 = 0 ∧ I1 wr)) ∨ (i = .int .i64 2 ∧ Hid (e0 = 0 ∧ e1 = 0 ∧ I2 wr)) ∨ (i = .int .i64 3 ∧ Hid (e0 = 0 ∧ e1 = 0 ∧ e2 = 0 ∧ I3 wr))) (fun i _ => 3 - (intOf i).toNat)
 case atStart => exact .inl ⟨rfl, Lib.hid rfl⟩
 case round =>
  rcases hrel with ⟨rfl, hi⟩ | ⟨rfl, hi⟩ | ⟨rfl, hi⟩ | ⟨rfl, hi⟩
  ·have HC : Hid (Calls Tryz.prog 66 k0 wr fun e w' => e = .returned (.int .i64 e0) ∧ I1 w') := Lib.hid (by rw [hi.out]; exact H0.out)
   have HBW : Hid (Blk wr B 114 #[.func (.func 66) #[] k0, .func (.func 68) #[] k1, .func (.func 70) #[] k2]) := Lib.hid (by rw [hi.out]; exact HB.out)
   obtain ⟨q0, q1, q2⟩ := blk3' HBW.out
   have hp : Hid True := Lib.hid trivial
   rcases beq0 (e0) with ⟨h0, k1, k2⟩ | ⟨h0, k1, k2⟩
   ·subst h0
    clear k1 k2 hi
    go_wp2_with fail
    refine HC.out.mono ?_
    rintro e w1 ⟨rfl, hi2⟩
    have HI2 := Lib.hid hi2
    clear hi2
    go_wp2
    go_roundw
    case rel =>
     have hi2 := HI2.out
     exact (.inr (.inl ⟨rfl, Lib.hid ⟨by simp, hi2⟩⟩))
    case measure => simp [intOf]
   have H00 := Lib.hid h0
   clear h0 hi
   go_wp2_with fail
   refine HC.out.mono ?_
   rintro e w1 ⟨rfl, hi2⟩
   have HI2 := Lib.hid hi2
   clear hi2
   go_wp2
   go_ret
   have hi2 := HI2.out
   obtain ⟨z1, z2⟩ := fst_0 H00.out e1 e2 I1 I2 I3 w1 hi2
   exact ⟨by rw [z1]; rfl, z2⟩
  ·have HC := Lib.hid (H1.out hi.out.1 wr hi.out.2)
   obtain ⟨q0, q1, q2⟩ := blk3' (B1.out wr hi.out.2)
   have hp := hi
   rcases beq0 (e1) with ⟨h0, k1, k2⟩ | ⟨h0, k1, k2⟩
   ·subst h0
    clear k1 k2 hi
    go_wp2_with fail
    refine HC.out.mono ?_
    rintro e w1 ⟨rfl, hi2⟩
    have HI2 := Lib.hid hi2
    clear hi2
    go_wp2
    go_roundw
    case rel =>
     have hi2 := HI2.out
     exact (.inr (.inr (.inl ⟨rfl, Lib.hid ⟨hp.out.1, by simp, hi2⟩⟩)))
    case measure => simp [intOf]
   have H00 := Lib.hid h0
   clear h0 hi
   go_wp2_with fail
   refine HC.out.mono ?_
   rintro e w1 ⟨rfl, hi2⟩
   have HI2 := Lib.hid hi2
   clear hi2
   go_wp2
   go_ret
   have hi2 := HI2.out
   obtain ⟨z1, z2⟩ := fst_1 hp.out.1 H00.out e2 I1 I2 I3 w1 hi2
   exact ⟨by rw [z1]; rfl, z2⟩
  ·have HC := Lib.hid (H2.out hi.out.1 hi.out.2.1 wr hi.out.2.2)
   obtain ⟨q0, q1, q2⟩ := blk3' (B2.out wr hi.out.2.2)
   have hp := hi
   rcases beq0 (e2) with ⟨h0, k1, k2⟩ | ⟨h0, k1, k2⟩
   ·subst h0
    clear k1 k2 hi
    go_wp2_with fail
    refine HC.out.mono ?_
    rintro e w1 ⟨rfl, hi2⟩
    have HI2 := Lib.hid hi2
    clear hi2
    go_wp2
    go_roundw
    case rel =>
     have hi2 := HI2.out
     exact (.inr (.inr (.inr ⟨rfl, Lib.hid ⟨hp.out.1, hp.out.2.1, by simp, hi2⟩⟩)))
    case measure => simp [intOf]
   have H00 := Lib.hid h0
   clear h0 hi
   go_wp2_with fail
   refine HC.out.mono ?_
   rintro e w1 ⟨rfl, hi2⟩
   have HI2 := Lib.hid hi2
   clear hi2
   go_wp2
   go_ret
   have hi2 := HI2.out
   obtain ⟨z1, z2⟩ := fst_2 hp.out.1 hp.out.2.1 e2 I1 I2 I3 w1 hi2
   exact ⟨by rw [z1]; rfl, z2⟩
  ·go_wp2
   go_ret
   obtain ⟨h1, h2, h3, h4⟩ := hi.out
   obtain ⟨z1, z2⟩ := fst_2 h1 h2 e2 I1 I2 I3 wr h4
   exact ⟨by rw [z1, h3]; rfl, z2⟩
theorem firstGet_c (w : World) (B : Nat) (k0 k1 k2 : Array Value) (e0 e1 e2 : Int) (I1 I2 I3 : World → Prop)
 (hB : Blk w B 114 #[.func (.func 72) #[] k0, .func (.func 73) #[] k1, .func (.func 75) #[] k2])
 (h0 : Calls Tryz.prog 72 k0 w fun e w' => e = .returned (.int .i64 e0) ∧ I1 w') (h1 : e0 = 0 → ∀ w1, I1 w1 → Calls Tryz.prog 73 k1 w1 fun e w' => e = .returned (.int .i64 e1) ∧ I2 w') (h2 : e0 = 0 → e1 = 0 → ∀ w2, I2 w2 → Calls Tryz.prog 75 k2 w2 fun e w' => e = .returned (.int .i64 e2) ∧ I3 w')
 (b1 : ∀ w', I1 w' → Blk w' B 114 #[.func (.func 72) #[] k0, .func (.func 73) #[] k1, .func (.func 75) #[] k2]) (b2 : ∀ w', I2 w' → Blk w' B 114 #[.func (.func 72) #[] k0, .func (.func 73) #[] k1, .func (.func 75) #[] k2]) :
 Calls Tryz.prog 65 #[.slice (some ⟨B, 0, none⟩) 3 3] w fun e w' => e = .returned (.int .i64 (fstE e0 e1 e2)) ∧ fstI e0 e1 I1 I2 I3 w' := by
 have H0 := Lib.hid h0
 have H1 := Lib.hid h1
 have H2 := Lib.hid h2
 have B1 := Lib.hid b1
 have B2 := Lib.hid b2
 have HB := Lib.hid hB
 clear h0 h1 h2 b1 b2 hB
 go_enter Tryz.func65, Tryz.ntmps65
 go_wp2_with fail
 go_loopw [8] (fun i wr => (i = .int .i64 0 ∧ Hid (wr = w)) ∨ (i = .int .i64 1 ∧ Hid (e0 = 0 ∧ I1 wr)) ∨ (i = .int .i64 2 ∧ Hid (e0 = 0 ∧ e1 = 0 ∧ I2 wr)) ∨ (i = .int .i64 3 ∧ Hid (e0 = 0 ∧ e1 = 0 ∧ e2 = 0 ∧ I3 wr))) (fun i _ => 3 - (intOf i).toNat)
 case atStart => exact .inl ⟨rfl, Lib.hid rfl⟩
 case round =>
  rcases hrel with ⟨rfl, hi⟩ | ⟨rfl, hi⟩ | ⟨rfl, hi⟩ | ⟨rfl, hi⟩
  ·have HC : Hid (Calls Tryz.prog 72 k0 wr fun e w' => e = .returned (.int .i64 e0) ∧ I1 w') := Lib.hid (by rw [hi.out]; exact H0.out)
   have HBW : Hid (Blk wr B 114 #[.func (.func 72) #[] k0, .func (.func 73) #[] k1, .func (.func 75) #[] k2]) := Lib.hid (by rw [hi.out]; exact HB.out)
   obtain ⟨q0, q1, q2⟩ := blk3' HBW.out
   have hp : Hid True := Lib.hid trivial
   rcases beq0 (e0) with ⟨h0, k1, k2⟩ | ⟨h0, k1, k2⟩
   ·subst h0
    clear k1 k2 hi
    go_wp2_with fail
    refine HC.out.mono ?_
    rintro e w1 ⟨rfl, hi2⟩
    have HI2 := Lib.hid hi2
    clear hi2
    go_wp2
    go_roundw
    case rel =>
     have hi2 := HI2.out
     exact (.inr (.inl ⟨rfl, Lib.hid ⟨by simp, hi2⟩⟩))
    case measure => simp [intOf]
   have H00 := Lib.hid h0
   clear h0 hi
   go_wp2_with fail
   refine HC.out.mono ?_
   rintro e w1 ⟨rfl, hi2⟩
   have HI2 := Lib.hid hi2
   clear hi2
   go_wp2
   go_ret
   have hi2 := HI2.out
   obtain ⟨z1, z2⟩ := fst_0 H00.out e1 e2 I1 I2 I3 w1 hi2
   exact ⟨by rw [z1]; rfl, z2⟩
  ·have HC := Lib.hid (H1.out hi.out.1 wr hi.out.2)
   obtain ⟨q0, q1, q2⟩ := blk3' (B1.out wr hi.out.2)
   have hp := hi
   rcases beq0 (e1) with ⟨h0, k1, k2⟩ | ⟨h0, k1, k2⟩
   ·subst h0
    clear k1 k2 hi
    go_wp2_with fail
    refine HC.out.mono ?_
    rintro e w1 ⟨rfl, hi2⟩
    have HI2 := Lib.hid hi2
    clear hi2
    go_wp2
    go_roundw
    case rel =>
     have hi2 := HI2.out
     exact (.inr (.inr (.inl ⟨rfl, Lib.hid ⟨hp.out.1, by simp, hi2⟩⟩)))
    case measure => simp [intOf]
   have H00 := Lib.hid h0
   clear h0 hi
   go_wp2_with fail
   refine HC.out.mono ?_
   rintro e w1 ⟨rfl, hi2⟩
   have HI2 := Lib.hid hi2
   clear hi2
   go_wp2
   go_ret
   have hi2 := HI2.out
   obtain ⟨z1, z2⟩ := fst_1 hp.out.1 H00.out e2 I1 I2 I3 w1 hi2
   exact ⟨by rw [z1]; rfl, z2⟩
  ·have HC := Lib.hid (H2.out hi.out.1 hi.out.2.1 wr hi.out.2.2)
   obtain ⟨q0, q1, q2⟩ := blk3' (B2.out wr hi.out.2.2)
   have hp := hi
   rcases beq0 (e2) with ⟨h0, k1, k2⟩ | ⟨h0, k1, k2⟩
   ·subst h0
    clear k1 k2 hi
    go_wp2_with fail
    refine HC.out.mono ?_
    rintro e w1 ⟨rfl, hi2⟩
    have HI2 := Lib.hid hi2
    clear hi2
    go_wp2
    go_roundw
    case rel =>
     have hi2 := HI2.out
     exact (.inr (.inr (.inr ⟨rfl, Lib.hid ⟨hp.out.1, hp.out.2.1, by simp, hi2⟩⟩)))
    case measure => simp [intOf]
   have H00 := Lib.hid h0
   clear h0 hi
   go_wp2_with fail
   refine HC.out.mono ?_
   rintro e w1 ⟨rfl, hi2⟩
   have HI2 := Lib.hid hi2
   clear hi2
   go_wp2
   go_ret
   have hi2 := HI2.out
   obtain ⟨z1, z2⟩ := fst_2 hp.out.1 hp.out.2.1 e2 I1 I2 I3 w1 hi2
   exact ⟨by rw [z1]; rfl, z2⟩
  ·go_wp2
   go_ret
   obtain ⟨h1, h2, h3, h4⟩ := hi.out
   obtain ⟨z1, z2⟩ := fst_2 h1 h2 e2 I1 I2 I3 wr h4
   exact ⟨by rw [z1, h3]; rfl, z2⟩
end Go.Proofs.YtnfpgadegpmhkaaGreatDoor
