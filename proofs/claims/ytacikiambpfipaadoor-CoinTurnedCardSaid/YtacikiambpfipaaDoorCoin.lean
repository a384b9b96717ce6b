/- coin.Put; the document's Put. -/
import Derived.Test.YtacikiambpfipaaDoorCoinP
import Derived.Test.YtacikiambpfipaaDoorCommand2
import Derived.Test.YtacikiambpfipaaDoorDigits
import Derived.Test.YtacikiambpfipaaDoorFixedG
import Derived.Test.YtacikiambpfipaaDoorTwice
import Derived.Test.YtacikiambpfipaaDoorShaRC
import Derived.Test.YtacikiambpfipaaDoorQBel
namespace Go.Proofs.YtacikiambpfipaaDoor
set_option linter.unusedVariables false
set_option linter.unusedSimpArgs false
open Go.RowKit


theorem le4_little (n : Nat) (w : World) (hn : n < 4294967296) :
    Calls Tryd.prog 49 #[.int .u64 n, .int .i64 4] w fun e w' => e = .returned (.tuple #[.string (le4 n), .int .i64 0]) ∧ Below w.heap.size w w' :=
  little_c n 4 w (by simpa using hn) (by omega) (by omega)
set_option maxRecDepth 100000 in
theorem coinPut_no (m : Nat) (nm body : ByteArray) (w : World) (hm : m < 4294967296) (hs : nm.size ≤ 9223372036854775807) (hn : nmMay nm = false) :
    Calls Tryd.prog 17 #[.int .u32 m, .string nm, .string body] w fun e w' => e = .returned (.tuple #[.string ByteArray.empty, .int .i64 11]) ∧ w = w' := by
  have H := Lib.hid (cmdPut_no nm w hs hn)
  clear hn
  go_enter Tryd.func17, Tryd.ntmps17
  go_wp2_with fail
  refine H.out.mono ?_
  rintro e w' ⟨rfl, rfl⟩
  go_wp2
  go_ret2
  exact ⟨rfl, rfl⟩
set_option maxRecDepth 100000 in
theorem coinPut_over (m : Nat) (nm body : ByteArray) (w : World) (hm : m < 4294967296) (hn : nmMay nm = true) (hb : 65536 < body.size) (hb2 : body.size ≤ 9223372036854775807) :
    Calls Tryd.prog 17 #[.int .u32 m, .string nm, .string body] w fun e w' => e = .returned (.tuple #[.string ByteArray.empty, .int .i64 5]) ∧ Below w.heap.size w w' := by
  have H := Lib.hid (cmdPut_c nm w hn)
  clear hn
  go_enter Tryd.func17, Tryd.ntmps17
  go_wp2_with fail
  refine H.out.mono ?_
  rintro e w' ⟨rfl, h1⟩
  go_wp2
  go_ret2
  exact ⟨rfl, h1⟩
set_option maxRecDepth 100000 in
set_option maxHeartbeats 1000000 in
theorem coinPut_c (m : Nat) (nm body : ByteArray) (w : World) (hm : m < 4294967296) (hn : nmMay nm = true) (hb : body.size ≤ 65536) :
    Calls Tryd.prog 17 #[.int .u32 m, .string nm, .string body] w fun e w' => e = .returned (.tuple #[.string (cnPut m nm body), .int .i64 0]) ∧ Below w.heap.size w w' := by
  have H := Lib.hid (cmdPut_c nm w hn)
  have L1 := Lib.hid (fun w => le4_little m w hm)
  have L2 := Lib.hid (fun w => le4_little body.size w (by omega))
  have HC := Lib.hid (fun w => check_c body w (by omega))
  have HE : Hid (cnPut m nm body = le4 m ++ nmPad nm ++ le4 body.size ++ shChk body ++ body) := Lib.hid rfl
  have z1 := le4_size m
  have z2 := le4_size body.size
  have z3 := nmPad_size nm (nmMay_size hn).2
  have z4 := shChk_size body
  clear hn
  generalize le4 m = a at *
  generalize le4 body.size = b at *
  generalize nmPad nm = c at *
  generalize shChk body = d at *
  go_enter Tryd.func17, Tryd.ntmps17
  go_wp2_with fail
  refine H.out.mono ?_
  rintro e w1 ⟨rfl, h1⟩
  go_wp2_with fail
  refine (L1.out _).mono ?_
  rintro e w2 ⟨rfl, h2⟩
  go_wp2_with fail
  refine (L2.out _).mono ?_
  rintro e w3 ⟨rfl, h3⟩
  go_wp2_with fail
  refine (HC.out _).mono ?_
  rintro e w4 ⟨rfl, h4⟩
  have s1 := h1.size
  have s2 := h2.size
  have s3 := h3.size
  have hb4 := h1.trans ((h2.mono s1).trans ((h3.mono (by omega)).trans (h4.mono (by omega))))
  clear h1 h2 h3 h4 s1 s2 s3
  go_wp2
  go_ret2
  exact ⟨by rw [HE.out]; rfl, hb4⟩
set_option maxRecDepth 100000 in
theorem refLe_c (n : Nat) (w : World) (hn : n < 4294967296) :
    Calls Tryd.prog 63 #[.int .u64 n] w fun e w' => e = .returned (.string (le4 n)) ∧ Below w.heap.size w w' := by
  have HB := Lib.hid (refBig_c n 4 w (by simpa using hn) (by omega))
  have hz : (⟨(leD n 4).reverse.toArray⟩ : ByteArray).size ≤ 1000000 := by rw [size_of, List.length_reverse, leD_length]; omega
  have HT := Lib.hid (fun w => refTurned_c ⟨(leD n 4).reverse.toArray⟩ w hz)
  have HE : Hid ((⟨(leD n 4).reverse.toArray⟩ : ByteArray).data.toList.reverse = leD n 4) := Lib.hid (by simp)
  rw [HE.out] at HT
  have HL : Hid (le4 n = ⟨(leD n 4).toArray⟩) := Lib.hid rfl
  rw [← HL.out] at HT
  clear hz HE HL
  generalize (⟨(leD n 4).reverse.toArray⟩ : ByteArray) = T at *
  generalize le4 n = U at *
  go_enter Tryd.func63, Tryd.ntmps63
  go_wp2_with fail
  refine HB.out.mono ?_
  rintro e w1 ⟨rfl, h1⟩
  go_wp2_with fail
  refine (HT.out _).mono ?_
  rintro e w2 ⟨rfl, rfl⟩
  go_wp2
  go_ret
  exact ⟨rfl, h1⟩
set_option maxRecDepth 100000 in
set_option maxHeartbeats 2000000 in
theorem ref14Put_c (m : Nat) (nm body : ByteArray) (w : World) (hm : m < 4294967296) (hn : nmMay nm = true) (hb : body.size ≤ 65536) :
    Calls Tryd.prog 20 #[keyV, .int .u32 m, .string nm, .string body] w fun e w' => e = .returned (.string (cnPut m nm body)) ∧ Below w.heap.size w w' := by
  have H := Lib.hid (fun w => (refPutN_c nm w (nmMay_size hn).2).mono (R' := fun e w' => e = .returned (.string (nmPad nm)) ∧ Below w.heap.size w w') fun e w' h => ⟨h.1, by rw [← h.2]; exact Below.refl _ _⟩)
  have L1 := Lib.hid (fun w => refLe_c m w hm)
  have L2 := Lib.hid (fun w => refLe_c body.size w (by omega))
  have HC := Lib.hid (fun w => refCheck_c body w (by omega))
  have HE : Hid (cnPut m nm body = le4 m ++ nmPad nm ++ le4 body.size ++ shChk body ++ body) := Lib.hid rfl
  have z1 := le4_size m
  have z2 := le4_size body.size
  have z3 := nmPad_size nm (nmMay_size hn).2
  have z4 := shChk_size body
  have HI := Lib.hid (info_key' 64)
  unfold keyV at HC ⊢
  generalize kC 64 = KL at *
  clear hn
  generalize le4 m = a at *
  generalize le4 body.size = b at *
  generalize nmPad nm = c at *
  generalize shChk body = d at *
  go_enter Tryd.func20, Tryd.ntmps20
  go_wp2
  obtain ⟨W0, hW0⟩ : ∃ W0, w.alloc (.cells KL 48) = W0 := ⟨_, rfl⟩
  have HBK : Hid (Blk W0 w.heap.size 48 KL) := Lib.hid (by rw [← hW0]; exact Blk.new w _ _)
  have HWL := Lib.hid HBK.out.lt
  have HBW : Hid (Below w.heap.size w W0) := Lib.hid (by rw [← hW0]; exact (Below.refl _ w).alloc (Nat.le_refl _) _)
  rw [hW0]
  clear hW0
  have e1 : IntKind.u64.wrap (m : Int) = m := IntWalk.u64_in _ (by omega)
  have e2 : IntKind.u64.wrap (body.size : Int) = body.size := IntWalk.u64_in _ (by omega)
  have e3 : 24 + body.size ≤ 9223372036854775807 := by omega
  refine wp_region_below (by kernel_rfl) (by kernel_rfl) ?_
  refine wpQuiet_run (.int .u32 m) (by rfl) (fun _ _ => by first | rfl | go_simp) ?_
  simp only [Act.put, List.setIfInBounds_toArray, List.set_cons_zero, List.set_cons_succ]
  refine wpQuiet_run (.int .u64 m) (by rfl) (fun _ _ => by first | rfl | go_simp) ?_
  simp only [Act.put, List.setIfInBounds_toArray, List.set_cons_zero, List.set_cons_succ]
  refine wpQuiet_callB 63 _ _ (by rfl) (fun _ => by first | rfl | go_simp) (fun w _ => L1.out _) ?_
  simp only [Act.put, List.setIfInBounds_toArray, List.set_cons_zero, List.set_cons_succ]
  refine wpQuiet_run (.string nm) (by rfl) (fun _ _ => by first | rfl | go_simp) ?_
  simp only [Act.put, List.setIfInBounds_toArray, List.set_cons_zero, List.set_cons_succ]
  refine wpQuiet_callB 64 _ _ (by rfl) (fun _ => by first | rfl | go_simp) (fun w _ => H.out _) ?_
  simp only [Act.put, List.setIfInBounds_toArray, List.set_cons_zero, List.set_cons_succ]
  refine wpQuiet_run (.string (a ++ c)) (by rfl) (fun _ _ => by first | rfl | go_simp) ?_
  simp only [Act.put, List.setIfInBounds_toArray, List.set_cons_zero, List.set_cons_succ]
  refine wpQuiet_run (.string body) (by rfl) (fun _ _ => by first | rfl | go_simp) ?_
  simp only [Act.put, List.setIfInBounds_toArray, List.set_cons_zero, List.set_cons_succ]
  refine wpQuiet_run (.int .i64 body.size) (by rfl) (fun _ _ => by first | rfl | go_simp) ?_
  simp only [Act.put, List.setIfInBounds_toArray, List.set_cons_zero, List.set_cons_succ]
  refine wpQuiet_run (.int .u64 body.size) (by rfl) (fun _ _ => by first | rfl | go_simp) ?_
  simp only [Act.put, List.setIfInBounds_toArray, List.set_cons_zero, List.set_cons_succ]
  refine wpQuiet_callB 63 _ _ (by rfl) (fun _ => by first | rfl | go_simp) (fun w _ => L2.out _) ?_
  simp only [Act.put, List.setIfInBounds_toArray, List.set_cons_zero, List.set_cons_succ]
  refine wpQuiet_run (.string (a ++ c ++ b)) (by rfl) (fun _ _ => by first | rfl | go_simp) ?_
  simp only [Act.put, List.setIfInBounds_toArray, List.set_cons_zero, List.set_cons_succ]
  refine wpQuiet_load (by rfl) 48 (.tmp 4) (by rfl) w.heap.size (by rfl) 48 KL (0, 0) _ (by intro w' hw'; exact (hw'.block _ HWL.out).trans HBK.out) Tryd.underlying48 rfl HI.out ?_
  simp only [Act.put, List.setIfInBounds_toArray, List.set_cons_zero, List.set_cons_succ]
  refine wpQuiet_run (.string body) (by rfl) (fun _ _ => by first | rfl | go_simp) ?_
  simp only [Act.put, List.setIfInBounds_toArray, List.set_cons_zero, List.set_cons_succ]
  refine wpQuiet_callB 65 _ _ (by rfl) (fun _ => by first | rfl | go_simp) (fun w _ => HC.out _) ?_
  simp only [Act.put, List.setIfInBounds_toArray, List.set_cons_zero, List.set_cons_succ]
  refine wpQuiet_run (.string (a ++ c ++ b ++ d)) (by rfl) (fun _ _ => by first | rfl | go_simp) ?_
  simp only [Act.put, List.setIfInBounds_toArray, List.set_cons_zero, List.set_cons_succ]
  refine wpQuiet_run (.string body) (by rfl) (fun _ _ => by first | rfl | go_simp) ?_
  simp only [Act.put, List.setIfInBounds_toArray, List.set_cons_zero, List.set_cons_succ]
  refine wpQuiet_run (.string (a ++ c ++ b ++ d ++ body)) (by rfl) (fun _ _ => by first | rfl | go_simp) ?_
  simp only [Act.put, List.setIfInBounds_toArray, List.set_cons_zero, List.set_cons_succ]
  refine wpQuiet_run (.string (a ++ c ++ b ++ d ++ body)) (by rfl) (fun _ _ => by first | rfl | go_simp) ?_
  simp only [Act.put, List.setIfInBounds_toArray, List.set_cons_zero, List.set_cons_succ]
  refine wpQuiet_nil ?_
  intro w2 hw2
  go_wp2
  go_ret
  exact ⟨by rw [HE.out]; rfl, HBW.out.trans (hw2.mono HBW.out.size)⟩
end Go.Proofs.YtacikiambpfipaaDoor
