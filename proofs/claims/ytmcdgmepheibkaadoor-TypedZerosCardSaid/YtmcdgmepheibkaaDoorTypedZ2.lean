/- Package typed: the zero values by kind. -/
import Derived.Test.YtmcdgmepheibkaaDoorTypedA
import Derived.Test.YtmcdgmepheibkaaDoorItemMake
import Derived.Test.YtmcdgmepheibkaaDoorRepeat
namespace Go.Proofs.YtmcdgmepheibkaaDoor
set_option linter.unusedVariables false
set_option linter.unusedSimpArgs false
open Go.RowKit

set_option maxHeartbeats 400000 in
theorem list_nil (w : World) : Calls Tryd.prog 79 #[.slice none 0 0] w fun e w' => e = .returned (.agg #[.string ⟨#[]⟩, .bool true, .slice none 0 0]) ∧ Below w.heap.size w w' := by
  have HC := Lib.hid (clone_nil 0 0)
  go_enter Tryd.func79, Tryd.ntmps79
  go_wp2_with fail
  refine (HC.out _).mono ?_
  rintro e w1 ⟨rfl, rfl⟩
  go_wp2
  refine bodyPost_ret (v := .agg #[.string ⟨#[]⟩, .bool true, .slice none 0 0]) (by simp [results, Tryd.results79, go_sem]) rfl ⟨rfl, ?_⟩
  first | exact (by repeat (first | exact Below.refl _ _ | assumption | with_reducible refine Below.drewN' ?_ _ | with_reducible refine Below.drew ?_ | ((with_reducible refine Below.alloc' ?_ ?_ _); · (first | omega | (simp <;> omega))))) | trace_state
/-- The zero value of a kind, those within it apart. -/
def z0s (k z : Int) : ByteArray := if k = 2 then noughts z.toNat else ⟨#[]⟩
def z0l (k : Int) : Bool := decide (k = 4 ∨ k = 5)
set_option maxHeartbeats 400000 in
theorem zT_c (k z ta : Int) (c2 : Value) (w : World) :
    Calls Tryd.prog 94 #[.agg #[.int .i64 k, .int .i64 z, c2, .int .i64 ta]] w fun e w' => e = .returned (.agg #[.string ⟨#[]⟩, .bool false, .slice none 0 0]) ∧ Below w.heap.size w w' := by
  go_enter Tryd.func94, Tryd.ntmps94
  go_wp2_with fail
  refine (text_c ⟨#[]⟩ _).mono ?_
  rintro e w1 ⟨rfl, hb1⟩
  have hz1 := hb1.size
  simp only [World.size_alloc] at hz1
  obtain ⟨r0, r1, r2, rf0, rf1, rf2⟩ := blk3 ((show Blk _ (w.heap.size + 1) 27 #[.string ⟨#[]⟩, .bool false, .slice none 0 0] from by have := Blk.new (w.alloc (.cells #[.int .i64 k, .int .i64 z, c2, .int .i64 ta] 24)) 27 #[.string ⟨#[]⟩, .bool false, .slice none 0 0]; simpa using this).keep hb1 (by simp))
  have HB : Hid (Below w.heap.size w w1) := Lib.hid (((Below.refl w.heap.size w).alloc (Nat.le_refl _) _ |>.alloc (by simp) _).trans (hb1.mono (by simp; omega)))
  clear hb1
  go_wp2
  refine bodyPost_ret (v := .agg #[.string ⟨#[]⟩, .bool false, .slice none 0 0]) (by simp [results, Tryd.results94, go_sem, r0, r1, r2]) rfl ⟨rfl, ?_⟩
  exact ((HB.out.setCell (by simp) _).setCell (by simp) _).setCell (by simp) _
set_option maxHeartbeats 400000 in
theorem zL_c (k z ta : Int) (c2 : Value) (w : World) :
    Calls Tryd.prog 101 #[.agg #[.int .i64 k, .int .i64 z, c2, .int .i64 ta]] w fun e w' => e = .returned (.agg #[.string ⟨#[]⟩, .bool true, .slice none 0 0]) ∧ Below w.heap.size w w' := by
  go_enter Tryd.func101, Tryd.ntmps101
  go_wp2_with fail
  refine (list_nil _).mono ?_
  rintro e w1 ⟨rfl, hb1⟩
  have hz1 := hb1.size
  simp only [World.size_alloc] at hz1
  obtain ⟨r0, r1, r2, rf0, rf1, rf2⟩ := blk3 ((show Blk _ (w.heap.size + 1) 27 #[.string ⟨#[]⟩, .bool false, .slice none 0 0] from by have := Blk.new (w.alloc (.cells #[.int .i64 k, .int .i64 z, c2, .int .i64 ta] 24)) 27 #[.string ⟨#[]⟩, .bool false, .slice none 0 0]; simpa using this).keep hb1 (by simp))
  have HB : Hid (Below w.heap.size w w1) := Lib.hid (((Below.refl w.heap.size w).alloc (Nat.le_refl _) _ |>.alloc (by simp) _).trans (hb1.mono (by simp; omega)))
  clear hb1
  go_wp2
  refine bodyPost_ret (v := .agg #[.string ⟨#[]⟩, .bool true, .slice none 0 0]) (by simp [results, Tryd.results101, go_sem, r0, r1, r2]) rfl ⟨rfl, ?_⟩
  exact ((HB.out.setCell (by simp) _).setCell (by simp) _).setCell (by simp) _
set_option maxHeartbeats 400000 in
theorem zS_c (k z ta : Int) (c2 : Value) (w : World) :
    Calls Tryd.prog 103 #[.agg #[.int .i64 k, .int .i64 z, c2, .int .i64 ta]] w fun e w' => e = .returned (.agg #[.string ⟨#[]⟩, .bool true, .slice none 0 0]) ∧ Below w.heap.size w w' := by
  go_enter Tryd.func103, Tryd.ntmps103
  go_wp2_with fail
  refine (list_nil _).mono ?_
  rintro e w1 ⟨rfl, hb1⟩
  have hz1 := hb1.size
  simp only [World.size_alloc] at hz1
  obtain ⟨r0, r1, r2, rf0, rf1, rf2⟩ := blk3 ((show Blk _ (w.heap.size + 1) 27 #[.string ⟨#[]⟩, .bool false, .slice none 0 0] from by have := Blk.new (w.alloc (.cells #[.int .i64 k, .int .i64 z, c2, .int .i64 ta] 24)) 27 #[.string ⟨#[]⟩, .bool false, .slice none 0 0]; simpa using this).keep hb1 (by simp))
  have HB : Hid (Below w.heap.size w w1) := Lib.hid (((Below.refl w.heap.size w).alloc (Nat.le_refl _) _ |>.alloc (by simp) _).trans (hb1.mono (by simp; omega)))
  clear hb1
  go_wp2
  refine bodyPost_ret (v := .agg #[.string ⟨#[]⟩, .bool true, .slice none 0 0]) (by simp [results, Tryd.results103, go_sem, r0, r1, r2]) rfl ⟨rfl, ?_⟩
  exact ((HB.out.setCell (by simp) _).setCell (by simp) _).setCell (by simp) _
set_option maxHeartbeats 400000 in
theorem zF_c (k z ta : Int) (c2 : Value) (w : World) (h1 : 0 ≤ z) (h2 : z ≤ 65536) :
    Calls Tryd.prog 97 #[.agg #[.int .i64 k, .int .i64 z, c2, .int .i64 ta]] w fun e w' => e = .returned (.agg #[.string (noughts z.toNat), .bool false, .slice none 0 0]) ∧ Below w.heap.size w w' := by
  obtain ⟨n, rfl⟩ : ∃ n : Nat, z = (n : Int) := ⟨z.toNat, by omega⟩
  have HR := Lib.hid (fun w => repeat_c n w (by omega))
  have HN : Hid (noughts ((n : Int)).toNat = ⟨(List.replicate n 0).toArray⟩) := Lib.hid (by rw [Int.toNat_natCast]; rfl)
  rw [HN.out]
  generalize (⟨(List.replicate n 0).toArray⟩ : ByteArray) = T at *
  go_enter Tryd.func97, Tryd.ntmps97
  go_wp2_with fail
  refine (HR.out _).mono ?_
  rintro e w1 ⟨rfl, hb1⟩
  have hz1 := hb1.size
  simp only [World.size_alloc] at hz1
  have hk := (show Blk _ (w.heap.size + 1) 27 #[.string ⟨#[]⟩, .bool false, .slice none 0 0] from by have := Blk.new (w.alloc (.cells #[.int .i64 k, .int .i64 n, c2, .int .i64 ta] 24)) 27 #[.string ⟨#[]⟩, .bool false, .slice none 0 0]; simpa using this).keep hb1 (by simp)
  have HK := Lib.hid hk
  have HB : Hid (Below w.heap.size w w1) := Lib.hid (((Below.refl w.heap.size w).alloc (Nat.le_refl _) _ |>.alloc (by simp) _).trans (hb1.mono (by simp; omega)))
  clear hb1 hk
  go_wp2_with fail
  refine (text_c T w1).mono ?_
  rintro e w2 ⟨rfl, hb2⟩
  have hz2 := hb2.size
  obtain ⟨r0, r1, r2, rf0, rf1, rf2⟩ := blk3 (HK.out.keep hb2 (by omega))
  have HB2 : Hid (Below w.heap.size w w2) := Lib.hid (HB.out.trans (hb2.mono (by omega)))
  clear hb2
  go_wp2
  refine bodyPost_ret (v := .agg #[.string T, .bool false, .slice none 0 0]) (by simp [results, Tryd.results97, go_sem, r0, r1, r2]) rfl ⟨rfl, ?_⟩
  exact ((HB2.out.setCell (by simp) _).setCell (by simp) _).setCell (by simp) _
end Go.Proofs.YtmcdgmepheibkaaDoor
