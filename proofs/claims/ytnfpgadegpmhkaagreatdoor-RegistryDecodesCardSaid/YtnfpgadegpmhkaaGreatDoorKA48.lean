/- Compact numbers in a reader, the document's. -/
import Derived.Test.YtnfpgadegpmhkaaGreatDoorKA16
import Derived.Test.YtnfpgadegpmhkaaGreatDoorKA19
import Derived.Test.YtnfpgadegpmhkaaGreatDoorKA9
import Derived.Test.YtnfpgadegpmhkaaGreatDoorKA5
set_option linter.unusedVariables false
set_option linter.unusedSimpArgs false
set_option maxRecDepth 100000
set_option maxHeartbeats 1000000
namespace Go.Proofs.YtnfpgadegpmhkaaGreatDoor
open Go.RowKit
theorem refCpRead_c (g : Nat) (s : ByteArray) (k most : Nat) (w : World) (h : Rd1 w g s k 0) (hk : k ≤ s.size) (hs : s.size ≤ 9223372036854775807) (hm : most < 18446744073709551616) :
 Calls Tryz.prog 126 #[.pointer (some ⟨g, 0, none⟩), .int .u64 most] w fun e w' => e = .returned (.int .u64 (cpRdN (cpNext (s.data.toList.drop k)) most)) ∧ Rd1 w' g s (cpRdK (cpNext (s.data.toList.drop k)) most k) (cpRdE (cpNext (s.data.toList.drop k)) most) ∧ Only [g] w w' := by
 have h0 : w.cell? ⟨g, 0, none⟩ = some (.string s) := h.cell 0
 have h1 : w.cell? ⟨g, 1, none⟩ = some (.int .i64 k) := h.cell 1
 have h2 : w.cell? ⟨g, 2, none⟩ = some (.int .i64 0) := h.cell 2
 have hX : (s.extract k s.size).data.toList = s.data.toList.drop k := by rw [toList_cut, List.take_of_length_le (by simp)]
 have hXs : (s.extract k s.size).size ≤ 9223372036854775807 := by rw [size_cut _ _ _ (by omega)]; omega
 have HN : Hid (∀ w1, Calls Tryz.prog 161 #[.string (s.extract k s.size)] w1 fun e w' => e = cpRet (cpNext (s.data.toList.drop k)) ∧ Below w1.heap.size w1 w') := Lib.hid (fun w1 => by
  have := refCpNext_c _ w1 hXs
  rwa [hX] at this)
 have hback : (cpNext (s.data.toList.drop k)).2.2 = 0 → k + (cpNext (s.data.toList.drop k)).2.1 ≤ s.size := fun h0 => by
  have := (cpNext_back (s.data.toList.drop k) (cpNext (s.data.toList.drop k)).1 (cpNext (s.data.toList.drop k)).2.1 (by rw [← h0])).2.1
  rw [List.length_drop, toList_size] at this; omega
 have hgl := h.lt
 have HH := Lib.hid h
 generalize cpNext (s.data.toList.drop k) = N at *
 obtain ⟨m, z, er⟩ := N
 have HW := cpRd_ways (m, z, er) most k
 generalize cpRdE (m, z, er) most = E at *
 generalize cpRdN (m, z, er) most = M at *
 generalize cpRdK (m, z, er) most k = K at *
 simp only at HW hback
 have HBK := Lib.hid hback
 clear h hX hXs hback
 rcases HW with ⟨e0, rfl, rfl, rfl⟩ | ⟨rfl, e1, rfl, rfl, rfl⟩ | ⟨rfl, e1, rfl, rfl, rfl⟩
 ·have b1 : (E == 0) = false := beq_eq_false_iff_ne.2 e0
  have b2 : (E != 0) = true := bne_iff_ne.2 e0
  go_enter Tryz.func126, Tryz.ntmps126
  go_wp2_with fail
  go_region_with (go_at_call 161; refine (HN.out _).mono ?_; rintro e w' ⟨rfl, hb⟩; unfold cpRet)
  all_goals
   have hb2 : Below w.heap.size w w' := by
    first
    | exact hb
    | exact (Below.refl w.heap.size w).drew.trans hb
    | exact (Below.refl w.heap.size w).drew.drew.trans hb
   have hr : Rd1 w' g s K 0 := Blk.keep HH.out hb2 hgl
   have p1 : w'.cell? ⟨g, 1, none⟩ = some (.int .i64 K) := hr.cell 1
   have p2 : w'.cell? ⟨g, 2, none⟩ = some (.int .i64 0) := hr.cell 2
   have f1 := hr.frozen 1
   have f2 := hr.frozen 2
   have HR := Lib.hid hr
   have HO : Hid (Only [g] w w') := Lib.hid ((Only.of_below hb2 (Nat.le_refl _)).mono (by simp))
   clear hb hb2 hr
   go_wp2
   go_ret
   refine ⟨rfl, ?_, ?_⟩
   ·have h := HR.out
    unfold Rd1 at h ⊢
    (repeat (first | with_reducible assumption | with_reducible apply Blk.drewN | with_reducible apply Blk.drew | with_reducible apply Blk.alloc | ((with_reducible apply Blk.beside); · (first | omega | (simp <;> omega))) | with_reducible apply Blk.store)); all_goals (first | rfl | simp)
   ·have ho := HO.out
    exact onl
 ·have d1 : decide ((most : Int) < m) = true := decide_eq_true (by omega)
  go_enter Tryz.func126, Tryz.ntmps126
  go_wp2_with fail
  go_region_with (go_at_call 161; refine (HN.out _).mono ?_; rintro e w' ⟨rfl, hb⟩; unfold cpRet)
  all_goals
   have hb2 : Below w.heap.size w w' := by
    first
    | exact hb
    | exact (Below.refl w.heap.size w).drew.trans hb
    | exact (Below.refl w.heap.size w).drew.drew.trans hb
   have hr : Rd1 w' g s K 0 := Blk.keep HH.out hb2 hgl
   have p1 : w'.cell? ⟨g, 1, none⟩ = some (.int .i64 K) := hr.cell 1
   have p2 : w'.cell? ⟨g, 2, none⟩ = some (.int .i64 0) := hr.cell 2
   have f1 := hr.frozen 1
   have f2 := hr.frozen 2
   have HR := Lib.hid hr
   have HO : Hid (Only [g] w w') := Lib.hid ((Only.of_below hb2 (Nat.le_refl _)).mono (by simp))
   clear hb hb2 hr
   go_wp2
   go_ret
   refine ⟨rfl, ?_, ?_⟩
   ·have h := HR.out
    unfold Rd1 at h ⊢
    (repeat (first | with_reducible assumption | with_reducible apply Blk.drewN | with_reducible apply Blk.drew | with_reducible apply Blk.alloc | ((with_reducible apply Blk.beside); · (first | omega | (simp <;> omega))) | with_reducible apply Blk.store)); all_goals (first | rfl | simp)
   ·have ho := HO.out
    exact onl
 ·have d1 : decide ((most : Int) < M) = false := decide_eq_false (by omega)
  have hkz := HBK.out (by trivial)
  go_enter Tryz.func126, Tryz.ntmps126
  go_wp2_with fail
  go_region_with (go_at_call 161; refine (HN.out _).mono ?_; rintro e w' ⟨rfl, hb⟩; unfold cpRet)
  all_goals
   have hb2 : Below w.heap.size w w' := by
    first
    | exact hb
    | exact (Below.refl w.heap.size w).drew.trans hb
    | exact (Below.refl w.heap.size w).drew.drew.trans hb
   have hr : Rd1 w' g s k 0 := Blk.keep HH.out hb2 hgl
   have p1 : w'.cell? ⟨g, 1, none⟩ = some (.int .i64 k) := hr.cell 1
   have p2 : w'.cell? ⟨g, 2, none⟩ = some (.int .i64 0) := hr.cell 2
   have f1 := hr.frozen 1
   have f2 := hr.frozen 2
   have HR := Lib.hid hr
   have HO : Hid (Only [g] w w') := Lib.hid ((Only.of_below hb2 (Nat.le_refl _)).mono (by simp))
   clear hb hb2 hr
   go_wp2
   go_ret
   refine ⟨rfl, ?_, ?_⟩
   ·have h := HR.out
    unfold Rd1 at h ⊢
    (repeat (first | with_reducible assumption | with_reducible apply Blk.drewN | with_reducible apply Blk.drew | with_reducible apply Blk.alloc | ((with_reducible apply Blk.beside); · (first | omega | (simp <;> omega))) | with_reducible apply Blk.store)); all_goals (first | rfl | simp)
   ·have ho := HO.out
    exact onl
end Go.Proofs.YtnfpgadegpmhkaaGreatDoor
