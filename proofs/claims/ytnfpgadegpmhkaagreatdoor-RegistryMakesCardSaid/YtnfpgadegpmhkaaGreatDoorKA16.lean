/- Compact numbers in a reader: cursor.Ahead, compact.Read. -/
import Derived.Test.YtnfpgadegpmhkaaGreatDoorKA13
import Derived.Test.YtnfpgadegpmhkaaGreatDoorKA14
import Derived.Test.YtnfpgadegpmhkaaGreatDoorKA1
import Derived.Test.YtnfpgadegpmhkaaGreatDoorKA15
set_option linter.unusedVariables false
set_option linter.unusedSimpArgs false
set_option maxRecDepth 100000
set_option maxHeartbeats 1000000
namespace Go.Proofs.YtnfpgadegpmhkaaGreatDoor
open Go.RowKit
theorem ahead1_c (g a b c : Nat) (s : ByteArray) (k : Nat) (v : Value) (w : World) (h : Rdr w g s k 0) (ha : Blk w a 3 #[.int .i64 9]) (hb : Blk w b 167 #[.pointer (some ⟨g, 0, none⟩)]) (hc : Blk w c 9 #[v]) (hk : k ≤ s.size) (hs : s.size ≤ 9223372036854775807) :
 Calls Tryz.prog 172 #[.pointer (some ⟨a, 0, none⟩), .pointer (some ⟨b, 0, none⟩), .pointer (some ⟨c, 0, none⟩)] w fun e w' => e = .returned (.int .i64 0) ∧ Blk w' c 9 #[.string (s.extract k (k + min 9 (s.size - k)))] ∧ Only [c] w w' := by
 have h0 : w.cell? ⟨g, 0, none⟩ = some (.string s) := h.cell 0
 have h1 : w.cell? ⟨g, 1, none⟩ = some (.int .i64 k) := h.cell 1
 have k0 : w.cell? ⟨a, 0, none⟩ = some (.int .i64 9) := ha.cell 0
 have k1 : w.cell? ⟨b, 0, none⟩ = some (.pointer (some ⟨g, 0, none⟩)) := hb.cell 0
 have k2 := hc.frozen 0
 have hlt := hc.lt
 have k3 : w.cell? ⟨c, 0, none⟩ = some v := hc.cell 0
 have HC := Lib.hid hc
 clear h ha hb hc
 by_cases hm : s.size < k + 9
 ·have d : ¬ (9 : Int) ≤ (s.size : Int) - k := by omega
  have HX : Hid (s.extract k (k + min 9 (s.size - k)) = s.extract k s.size) := Lib.hid (by congr 1; omega)
  generalize s.extract k (k + min 9 (s.size - k)) = X at *
  go_enter Tryz.func172, Tryz.ntmps172
  go_wp2
  refine wp_region_quiet_tail 26 (by kernel_rfl) (by kernel_rfl) ?_
  simp only [List.take_succ_cons, List.take_zero, List.drop_succ_cons, List.drop_zero]
  repeat (go_big_quiet_step (fail))
  refine wpQuiet_nil ?_
  intro nq
  go_wp2
  go_ret
  refine ⟨rfl, ?_, onl⟩
  have h := HC.out
  rw [HX.out]
  (repeat (first | with_reducible assumption | with_reducible apply Blk.drewN | with_reducible apply Blk.drew | with_reducible apply Blk.alloc | ((with_reducible apply Blk.beside); · (first | omega | (simp <;> omega))) | with_reducible apply Blk.store)); all_goals (first | rfl | simp)
 ·have d : (9 : Int) ≤ (s.size : Int) - k := by omega
  have d2 : ¬ (s.size : Int) - k < 9 := by omega
  have HX : Hid (s.extract k (k + min 9 (s.size - k)) = s.extract k ((k : Int) + 9).toNat) := Lib.hid (by congr 1; omega)
  generalize s.extract k (k + min 9 (s.size - k)) = X at *
  go_enter Tryz.func172, Tryz.ntmps172
  go_wp2
  refine wp_region_quiet_tail 26 (by kernel_rfl) (by kernel_rfl) ?_
  simp only [List.take_succ_cons, List.take_zero, List.drop_succ_cons, List.drop_zero]
  repeat (go_big_quiet_step (fail))
  refine wpQuiet_nil ?_
  intro nq
  go_wp2
  go_ret
  refine ⟨rfl, ?_, onl⟩
  have h := HC.out
  rw [HX.out]
  (repeat (first | with_reducible assumption | with_reducible apply Blk.drewN | with_reducible apply Blk.drew | with_reducible apply Blk.alloc | ((with_reducible apply Blk.beside); · (first | omega | (simp <;> omega))) | with_reducible apply Blk.store)); all_goals (first | rfl | simp)
theorem ahead_c (g : Nat) (s : ByteArray) (k : Nat) (w : World) (h : Rdr w g s k 0) (hk : k ≤ s.size) (hs : s.size ≤ 9223372036854775807) :
 Calls Tryz.prog 155 #[.pointer (some ⟨g, 0, none⟩), .int .i64 9] w fun e w' => e = .returned (.string (s.extract k (k + min 9 (s.size - k)))) ∧ Rdr w' g s k 0 ∧ Only [g] w w' := by
 have h2 := h.cell 2
 have f2 := h.frozen 2
 have hlt := h.lt
 simp at h2
 have H := Lib.hid h
 have c2 := cell3 hlt h2
 have g2 := frozen3 hlt f2
 have HA := Lib.hid (ahead1_c g (w.heap.size + 1) w.heap.size (w.heap.size + 1 + 1) s k (.string ⟨#[]⟩) (((w.alloc (.cells #[.pointer (some ⟨g, 0, none⟩)] 167)).alloc (.cells #[.int .i64 9] 3)).alloc (.cells #[.string ⟨#[]⟩] 9)) (((h.alloc _).alloc _).alloc _) ((Blk.at_ (by simp)).alloc _) (((Blk.new _ _ _).alloc _).alloc _) (Blk.at_ (by simp)) hk hs)
 generalize s.extract k (k + min 9 (s.size - k)) = X at *
 clear h
 go_enter Tryz.func155, Tryz.ntmps155
 go_wp2_with fail
 go_enter Tryz.func151, Tryz.ntmps151
 go_wp2_with fail
 refine HA.out.mono ?_
 rintro e w' ⟨rfl, hx, ho⟩
 have hx0 : w'.cell? ⟨w.heap.size + 1 + 1, 0, none⟩ = some (.string X) := hx.cell 0
 have hr : Rdr w' g s k 0 := (((H.out.alloc _).alloc _).alloc _).only ho (by simp; omega)
 have hf2 := hr.frozen 2
 have hc2 : w'.cell? ⟨g, 2, none⟩ = some (.int .i64 0) := hr.cell 2
 have hgl := hr.lt
 have HR := Lib.hid hr
 have HO := Lib.hid ((((Only.refl [g] w).alloc _).alloc _).alloc _ |>.trans' ho (by simp; omega))
 clear hr hx ho
 go_wp2
 go_end0
 go_wp2
 go_ret
 refine ⟨rfl, ?_, ?_⟩
 ·have h := HR.out
  unfold Rdr at h ⊢
  (repeat (first | with_reducible assumption | with_reducible apply Blk.drewN | with_reducible apply Blk.drew | with_reducible apply Blk.alloc | ((with_reducible apply Blk.beside); · (first | omega | (simp <;> omega))) | with_reducible apply Blk.store)); all_goals (first | rfl | simp)
 ·have ho := HO.out
  exact onl
def cpRdE (N : Nat × Nat × Int) (most : Nat) : Int := if N.2.2 ≠ 0 then N.2.2 else if most < N.1 then 5 else 0
def cpRdN (N : Nat × Nat × Int) (most : Nat) : Nat := if cpRdE N most = 0 then N.1 else 0
def cpRdK (N : Nat × Nat × Int) (most k : Nat) : Nat := if cpRdE N most = 0 then k + N.2.1 else k
theorem cpRd_ways (N : Nat × Nat × Int) (most k : Nat) : (N.2.2 ≠ 0 ∧ cpRdE N most = N.2.2 ∧ cpRdN N most = 0 ∧ cpRdK N most k = k) ∨ (N.2.2 = 0 ∧ most < N.1 ∧ cpRdE N most = 5 ∧ cpRdN N most = 0 ∧ cpRdK N most k = k) ∨ (N.2.2 = 0 ∧ ¬ most < N.1 ∧ cpRdE N most = 0 ∧ cpRdN N most = N.1 ∧ cpRdK N most k = k + N.2.1) := by
 unfold cpRdN cpRdK cpRdE
 by_cases h : N.2.2 ≠ 0
 ·simp [h]
 ·by_cases h2 : most < N.1
  ·simp only [Decidable.not_not] at h
   simp [h, h2]
  ·simp only [Decidable.not_not] at h
   simp [h, h2]
theorem cpRead_c (g : Nat) (s : ByteArray) (k most : Nat) (w : World) (h : Rdr w g s k 0) (hk : k ≤ s.size) (hs : s.size ≤ 9223372036854775807) (hm : most < 18446744073709551616) (hL : LaidC w) (hg : g ≠ 0) :
 Calls Tryz.prog 117 #[.pointer (some ⟨g, 0, none⟩), .int .u64 most] w fun e w' => e = .returned (.int .u64 (cpRdN (cpNext (s.data.toList.drop k)) most)) ∧ Rdr w' g s (cpRdK (cpNext (s.data.toList.drop k)) most k) (cpRdE (cpNext (s.data.toList.drop k)) most) ∧ Only [g] w w' := by
 have HF := Lib.hid (fault_c g s k 0 w h)
 have HA := Lib.hid (ahead_c g s k w h hk hs)
 have hX : (s.extract k (k + min 9 (s.size - k))).data.toList = (s.data.toList.drop k).take 9 := by
  rw [toList_cut, List.drop_take, show k + min 9 (s.size - k) - k = min 9 (s.size - k) from by omega]
  by_cases h9 : 9 ≤ s.size - k
  ·rw [Nat.min_eq_left h9]
  ·rw [Nat.min_eq_right (by omega), List.take_of_length_le (by simp), List.take_of_length_le (by simp; omega)]
 have hXs : (s.extract k (k + min 9 (s.size - k))).size ≤ 9223372036854775807 := by rw [size_cut _ _ _ (by omega)]; omega
 have HN : Hid (∀ w1, LaidC w1 → Calls Tryz.prog 154 #[.string (s.extract k (k + min 9 (s.size - k)))] w1 fun e w' => e = cpRet (cpNext (s.data.toList.drop k)) ∧ w1 = w') := Lib.hid (fun w1 h1 => by
  have := cpNext_c _ w1 hXs h1
  rwa [hX, cpNext_nine] at this)
 have hback : (cpNext (s.data.toList.drop k)).2.2 = 0 → k + (cpNext (s.data.toList.drop k)).2.1 ≤ s.size := fun h0 => by
  have := (cpNext_back (s.data.toList.drop k) (cpNext (s.data.toList.drop k)).1 (cpNext (s.data.toList.drop k)).2.1 (by rw [← h0])).2.1
  rw [List.length_drop, toList_size] at this; omega
 have HL := Lib.hid (fun w1 (ho : Only [g] w w1) => hL.only ho (by simp; omega))
 have hgl := h.lt
 have HH := Lib.hid h
 generalize s.extract k (k + min 9 (s.size - k)) = X at *
 generalize cpNext (s.data.toList.drop k) = N at *
 obtain ⟨m, z, er⟩ := N
 have HW := cpRd_ways (m, z, er) most k
 generalize cpRdE (m, z, er) most = E at *
 generalize cpRdN (m, z, er) most = M at *
 generalize cpRdK (m, z, er) most k = K at *
 simp only at HW hback
 have HBK := Lib.hid hback
 clear h hL hX hXs hback
 rcases HW with ⟨e0, rfl, rfl, rfl⟩ | ⟨rfl, e1, rfl, rfl, rfl⟩ | ⟨rfl, e1, rfl, rfl, rfl⟩
 ·have b1 : (E == 0) = false := beq_eq_false_iff_ne.2 e0
  have b2 : (E != 0) = true := bne_iff_ne.2 e0
  go_enter Tryz.func117, Tryz.ntmps117
  go_wp2_with fail
  refine HF.out.mono ?_
  rintro e w' ⟨rfl, rfl⟩
  go_wp2_with fail
  refine HA.out.mono ?_
  rintro e w1 ⟨rfl, hr, ho⟩
  have HR := Lib.hid hr
  have HO := Lib.hid ho
  have HN1 := Lib.hid (HN.out w1 (HL.out w1 ho))
  clear hr ho
  go_wp2_with fail
  refine HN1.out.mono ?_
  rintro e w' ⟨rfl, rfl⟩
  unfold cpRet
  go_wp2_with fail
  refine (fail_yes g s K E w1 HR.out).mono ?_
  rintro e w2 ⟨rfl, hr2, ho2⟩
  have HR2 := Lib.hid hr2
  have HO2 := Lib.hid ho2
  clear hr2 ho2
  go_wp2
  go_ret
  exact ⟨rfl, HR2.out, HO.out.trans HO2.out⟩
 ·have d1 : decide ((most : Int) < m) = true := decide_eq_true (by omega)
  go_enter Tryz.func117, Tryz.ntmps117
  go_wp2_with fail
  refine HF.out.mono ?_
  rintro e w' ⟨rfl, rfl⟩
  go_wp2_with fail
  refine HA.out.mono ?_
  rintro e w1 ⟨rfl, hr, ho⟩
  have HR := Lib.hid hr
  have HO := Lib.hid ho
  have HN1 := Lib.hid (HN.out w1 (HL.out w1 ho))
  clear hr ho
  go_wp2_with fail
  refine HN1.out.mono ?_
  rintro e w' ⟨rfl, rfl⟩
  unfold cpRet
  go_wp2_with fail
  refine (fail_yes g s K 5 w1 HR.out).mono ?_
  rintro e w2 ⟨rfl, hr2, ho2⟩
  have HR2 := Lib.hid hr2
  have HO2 := Lib.hid ho2
  clear hr2 ho2
  go_wp2
  go_ret
  exact ⟨rfl, HR2.out, HO.out.trans HO2.out⟩
 ·have d1 : decide ((most : Int) < M) = false := decide_eq_false (by omega)
  go_enter Tryz.func117, Tryz.ntmps117
  go_wp2_with fail
  refine HF.out.mono ?_
  rintro e w' ⟨rfl, rfl⟩
  go_wp2_with fail
  refine HA.out.mono ?_
  rintro e w1 ⟨rfl, hr, ho⟩
  have HR := Lib.hid hr
  have HO := Lib.hid ho
  have HN1 := Lib.hid (HN.out w1 (HL.out w1 ho))
  clear hr ho
  go_wp2_with fail
  refine HN1.out.mono ?_
  rintro e w' ⟨rfl, rfl⟩
  unfold cpRet
  go_wp2_with fail
  refine (take_yes g s k z w1 HR.out hs (HBK.out trivial)).mono ?_
  rintro e w2 ⟨rfl, hr2, ho2⟩
  have HR2 := Lib.hid hr2
  have HO2 := Lib.hid ho2
  clear hr2 ho2
  go_wp2
  go_ret
  exact ⟨rfl, HR2.out, HO.out.trans HO2.out⟩
end Go.Proofs.YtnfpgadegpmhkaaGreatDoor
