/- coin.Put; the document's Put. -/
/- coin.Next's closures. -/
/- The document's frames: Next. -/
import Derived.Test.YtebllmpdlapefaaGreatDoorKA1
import Derived.Test.YtebllmpdlapefaaGreatDoorKA10
import Derived.Test.YtebllmpdlapefaaGreatDoorKA11
import Derived.Test.YtebllmpdlapefaaGreatDoorKA12
import Derived.Test.YtebllmpdlapefaaGreatDoorKA18
import Derived.Test.YtebllmpdlapefaaGreatDoorKA21
import Derived.Test.YtebllmpdlapefaaGreatDoorKA4
import Derived.Laws.EntriesVeiled
namespace Go.Proofs.YtebllmpdlapefaaGreatDoor
set_option linter.unusedVariables false
set_option linter.unusedSimpArgs false
open Go.RowKit


theorem le4_little (n : Nat) (w : World) (hn : n < 4294967296) :
    Calls Tryz.prog 97 #[.int .u64 n, .int .i64 4] w fun e w' => e = .returned (.tuple #[.string (le4 n), .int .i64 0]) ∧ Below w.heap.size w w' :=
  little_c n 4 w (by simpa using hn) (by omega) (by omega)
set_option maxRecDepth 100000 in
theorem coinPut_no (m : Nat) (nm body : ByteArray) (w : World) (hm : m < 4294967296) (hs : nm.size ≤ 9223372036854775807) (hn : nmMay nm = false) :
    Calls Tryz.prog 65 #[.int .u32 m, .string nm, .string body] w fun e w' => e = .returned (.tuple #[.string ByteArray.empty, .int .i64 11]) ∧ w = w' := by
  have H := Lib.hid (cmdPut_no nm w hs hn)
  clear hn
  go_enter Tryz.func65, Tryz.ntmps65
  go_wp2_with fail
  refine H.out.mono ?_
  rintro e w' ⟨rfl, rfl⟩
  go_wp2
  go_ret2
  exact ⟨rfl, rfl⟩
set_option maxRecDepth 100000 in
theorem coinPut_over (m : Nat) (nm body : ByteArray) (w : World) (hm : m < 4294967296) (hn : nmMay nm = true) (hb : 65536 < body.size) (hb2 : body.size ≤ 9223372036854775807) :
    Calls Tryz.prog 65 #[.int .u32 m, .string nm, .string body] w fun e w' => e = .returned (.tuple #[.string ByteArray.empty, .int .i64 5]) ∧ Below w.heap.size w w' := by
  have H := Lib.hid (cmdPut_c nm w hn)
  clear hn
  go_enter Tryz.func65, Tryz.ntmps65
  go_wp2_with fail
  refine H.out.mono ?_
  rintro e w' ⟨rfl, h1⟩
  go_wp2
  go_ret2
  exact ⟨rfl, h1⟩
set_option maxRecDepth 100000 in
set_option maxHeartbeats 1000000 in
theorem coinPut_c (m : Nat) (nm body : ByteArray) (w : World) (hm : m < 4294967296) (hn : nmMay nm = true) (hb : body.size ≤ 65536) :
    Calls Tryz.prog 65 #[.int .u32 m, .string nm, .string body] w fun e w' => e = .returned (.tuple #[.string (cnPut m nm body), .int .i64 0]) ∧ Below w.heap.size w w' := by
  have H := Lib.hid (cmdPut_c nm w hn)
  have L1 := Lib.hid (fun w => le4_little m w hm)
  have L2 := Lib.hid (fun w => le4_little body.size w (by omega))
  have HC := Lib.hid (fun w => check_c body w (by omega))
  have HE : Hid (cnPut m nm body = le4 m ++ nmPad nm ++ le4 body.size ++ shChk body ++ body) := Lib.hid rfl
  have z1 := le4_size m
  have z2 := le4_size body.size
  have z3 := nmPad_size nm (nmMay_size hn).2
  have z4 := shChk_size body
  clear hn
  generalize le4 m = a at *
  generalize le4 body.size = b at *
  generalize nmPad nm = c at *
  generalize shChk body = d at *
  go_enter Tryz.func65, Tryz.ntmps65
  go_wp2_with fail
  refine H.out.mono ?_
  rintro e w1 ⟨rfl, h1⟩
  go_wp2_with fail
  refine (L1.out _).mono ?_
  rintro e w2 ⟨rfl, h2⟩
  go_wp2_with fail
  refine (L2.out _).mono ?_
  rintro e w3 ⟨rfl, h3⟩
  go_wp2_with fail
  refine (HC.out _).mono ?_
  rintro e w4 ⟨rfl, h4⟩
  have s1 := h1.size
  have s2 := h2.size
  have s3 := h3.size
  have hb4 := h1.trans ((h2.mono s1).trans ((h3.mono (by omega)).trans (h4.mono (by omega))))
  clear h1 h2 h3 h4 s1 s2 s3
  go_wp2
  go_ret2
  exact ⟨by rw [HE.out]; rfl, hb4⟩
set_option maxRecDepth 100000 in
theorem refLe_c (n : Nat) (w : World) (hn : n < 4294967296) :
    Calls Tryz.prog 78 #[.int .u64 n] w fun e w' => e = .returned (.string (le4 n)) ∧ Below w.heap.size w w' := by
  have HB := Lib.hid (refBig_c n 4 w (by simpa using hn) (by omega))
  have hz : (⟨(leD n 4).reverse.toArray⟩ : ByteArray).size ≤ 1000000 := by rw [size_of, List.length_reverse, leD_length]; omega
  have HT := Lib.hid (fun w => refTurned_c ⟨(leD n 4).reverse.toArray⟩ w hz)
  have HE : Hid ((⟨(leD n 4).reverse.toArray⟩ : ByteArray).data.toList.reverse = leD n 4) := Lib.hid (by simp)
  rw [HE.out] at HT
  have HL : Hid (le4 n = ⟨(leD n 4).toArray⟩) := Lib.hid rfl
  rw [← HL.out] at HT
  clear hz HE HL
  generalize (⟨(leD n 4).reverse.toArray⟩ : ByteArray) = T at *
  generalize le4 n = U at *
  go_enter Tryz.func78, Tryz.ntmps78
  go_wp2_with fail
  refine HB.out.mono ?_
  rintro e w1 ⟨rfl, h1⟩
  go_wp2_with fail
  refine (HT.out _).mono ?_
  rintro e w2 ⟨rfl, rfl⟩
  go_wp2
  go_ret
  exact ⟨rfl, h1⟩
set_option maxRecDepth 100000 in
set_option maxHeartbeats 2000000 in
theorem ref14Put_c (m : Nat) (nm body : ByteArray) (w : World) (hm : m < 4294967296) (hn : nmMay nm = true) (hb : body.size ≤ 65536) :
    Calls Tryz.prog 47 #[keyV, .int .u32 m, .string nm, .string body] w fun e w' => e = .returned (.string (cnPut m nm body)) ∧ Below w.heap.size w w' := by
  have H := Lib.hid (fun w => (refPutN_c nm w (nmMay_size hn).2).mono (R' := fun e w' => e = .returned (.string (nmPad nm)) ∧ Below w.heap.size w w') fun e w' h => ⟨h.1, by rw [← h.2]; exact Below.refl _ _⟩)
  have L1 := Lib.hid (fun w => refLe_c m w hm)
  have L2 := Lib.hid (fun w => refLe_c body.size w (by omega))
  have HC := Lib.hid (fun w => refCheck_c body w (by omega))
  have HE : Hid (cnPut m nm body = le4 m ++ nmPad nm ++ le4 body.size ++ shChk body ++ body) := Lib.hid rfl
  have z1 := le4_size m
  have z2 := le4_size body.size
  have z3 := nmPad_size nm (nmMay_size hn).2
  have z4 := shChk_size body
  have HI := Lib.hid (info_key' 64)
  unfold keyV at HC ⊢
  generalize kC 64 = KL at *
  clear hn
  generalize le4 m = a at *
  generalize le4 body.size = b at *
  generalize nmPad nm = c at *
  generalize shChk body = d at *
  go_enter Tryz.func47, Tryz.ntmps47
  go_wp2
  obtain ⟨W0, hW0⟩ : ∃ W0, w.alloc (.cells KL 32) = W0 := ⟨_, rfl⟩
  have HBK : Hid (Blk W0 w.heap.size 32 KL) := Lib.hid (by rw [← hW0]; exact Blk.new w _ _)
  have HWL := Lib.hid HBK.out.lt
  have HBW : Hid (Below w.heap.size w W0) := Lib.hid (by rw [← hW0]; exact (Below.refl _ w).alloc (Nat.le_refl _) _)
  rw [hW0]
  clear hW0
  have e1 : IntKind.u64.wrap (m : Int) = m := IntWalk.u64_in _ (by omega)
  have e2 : IntKind.u64.wrap (body.size : Int) = body.size := IntWalk.u64_in _ (by omega)
  have e3 : 24 + body.size ≤ 9223372036854775807 := by omega
  refine wp_region_below (by kernel_rfl) (by kernel_rfl) ?_
  refine wpQuiet_run (.int .u32 m) (by rfl) (fun _ _ => by first | rfl | go_simp) ?_
  simp only [Act.put, List.setIfInBounds_toArray, List.set_cons_zero, List.set_cons_succ]
  refine wpQuiet_run (.int .u64 m) (by rfl) (fun _ _ => by first | rfl | go_simp) ?_
  simp only [Act.put, List.setIfInBounds_toArray, List.set_cons_zero, List.set_cons_succ]
  refine wpQuiet_callB 78 _ _ (by rfl) (fun _ => by first | rfl | go_simp) (fun w _ => L1.out _) ?_
  simp only [Act.put, List.setIfInBounds_toArray, List.set_cons_zero, List.set_cons_succ]
  refine wpQuiet_run (.string nm) (by rfl) (fun _ _ => by first | rfl | go_simp) ?_
  simp only [Act.put, List.setIfInBounds_toArray, List.set_cons_zero, List.set_cons_succ]
  refine wpQuiet_callB 79 _ _ (by rfl) (fun _ => by first | rfl | go_simp) (fun w _ => H.out _) ?_
  simp only [Act.put, List.setIfInBounds_toArray, List.set_cons_zero, List.set_cons_succ]
  refine wpQuiet_run (.string (a ++ c)) (by rfl) (fun _ _ => by first | rfl | go_simp) ?_
  simp only [Act.put, List.setIfInBounds_toArray, List.set_cons_zero, List.set_cons_succ]
  refine wpQuiet_run (.string body) (by rfl) (fun _ _ => by first | rfl | go_simp) ?_
  simp only [Act.put, List.setIfInBounds_toArray, List.set_cons_zero, List.set_cons_succ]
  refine wpQuiet_run (.int .i64 body.size) (by rfl) (fun _ _ => by first | rfl | go_simp) ?_
  simp only [Act.put, List.setIfInBounds_toArray, List.set_cons_zero, List.set_cons_succ]
  refine wpQuiet_run (.int .u64 body.size) (by rfl) (fun _ _ => by first | rfl | go_simp) ?_
  simp only [Act.put, List.setIfInBounds_toArray, List.set_cons_zero, List.set_cons_succ]
  refine wpQuiet_callB 78 _ _ (by rfl) (fun _ => by first | rfl | go_simp) (fun w _ => L2.out _) ?_
  simp only [Act.put, List.setIfInBounds_toArray, List.set_cons_zero, List.set_cons_succ]
  refine wpQuiet_run (.string (a ++ c ++ b)) (by rfl) (fun _ _ => by first | rfl | go_simp) ?_
  simp only [Act.put, List.setIfInBounds_toArray, List.set_cons_zero, List.set_cons_succ]
  refine wpQuiet_load (by rfl) 32 (.tmp 4) (by rfl) w.heap.size (by rfl) 32 KL (0, 0) _ (by intro w' hw'; exact (hw'.block _ HWL.out).trans HBK.out) Tryz.underlying32 rfl HI.out ?_
  simp only [Act.put, List.setIfInBounds_toArray, List.set_cons_zero, List.set_cons_succ]
  refine wpQuiet_run (.string body) (by rfl) (fun _ _ => by first | rfl | go_simp) ?_
  simp only [Act.put, List.setIfInBounds_toArray, List.set_cons_zero, List.set_cons_succ]
  refine wpQuiet_callB 80 _ _ (by rfl) (fun _ => by first | rfl | go_simp) (fun w _ => HC.out _) ?_
  simp only [Act.put, List.setIfInBounds_toArray, List.set_cons_zero, List.set_cons_succ]
  refine wpQuiet_run (.string (a ++ c ++ b ++ d)) (by rfl) (fun _ _ => by first | rfl | go_simp) ?_
  simp only [Act.put, List.setIfInBounds_toArray, List.set_cons_zero, List.set_cons_succ]
  refine wpQuiet_run (.string body) (by rfl) (fun _ _ => by first | rfl | go_simp) ?_
  simp only [Act.put, List.setIfInBounds_toArray, List.set_cons_zero, List.set_cons_succ]
  refine wpQuiet_run (.string (a ++ c ++ b ++ d ++ body)) (by rfl) (fun _ _ => by first | rfl | go_simp) ?_
  simp only [Act.put, List.setIfInBounds_toArray, List.set_cons_zero, List.set_cons_succ]
  refine wpQuiet_run (.string (a ++ c ++ b ++ d ++ body)) (by rfl) (fun _ _ => by first | rfl | go_simp) ?_
  simp only [Act.put, List.setIfInBounds_toArray, List.set_cons_zero, List.set_cons_succ]
  refine wpQuiet_nil ?_
  intro w2 hw2
  go_wp2
  go_ret
  exact ⟨by rw [HE.out]; rfl, HBW.out.trans (hw2.mono HBW.out.size)⟩
end Go.Proofs.YtebllmpdlapefaaGreatDoor
namespace Go.Proofs.YtebllmpdlapefaaGreatDoor
set_option linter.unusedVariables false
set_option linter.unusedSimpArgs false
open Go.RowKit

theorem unless_c (h : Bool) (e : Int) (w : World) : Calls Tryz.prog 103 #[.bool h, .int .i64 e] w fun e' w' => e' = .returned (.int .i64 (if h then 0 else e)) ∧ w = w' := by
  cases h
  · go_enter Tryz.func103, Tryz.ntmps103
    go_wp2
    go_ret
    exact ⟨rfl, rfl⟩
  · go_enter Tryz.func103, Tryz.ntmps103
    go_wp2
    go_ret
    exact ⟨rfl, rfl⟩
def ptr (b : Nat) : Value := .pointer (some ⟨b, 0, none⟩)
set_option maxRecDepth 100000 in
theorem number_c (s : ByteArray) (b i j : Nat) (w : World) (hb : Blk w b 9 #[.string s]) (hij : i < j) (hj : j ≤ s.size) (h8 : j - i ≤ 8) (hs : s.size ≤ 9223372036854775807) :
    Calls Tryz.prog 99 #[.int .i64 i, .int .i64 j, .pointer (some ⟨b, 0, none⟩)] w fun e w' => e = .returned (.int .u64 (leL (s.extract i j).data.toList)) ∧ w = w' := by
  have hz : (s.extract i j).size = j - i := size_cut _ _ _ hj
  have HG := Lib.hid (fun w => getLittle_c (s.extract i j) w (by omega) (by omega))
  have q1 : w.cell? ⟨b, 0, none⟩ = some (.string s) := cell_of_one hb
  clear hz
  generalize leL (s.extract i j).data.toList = N at *
  go_enter Tryz.func99, Tryz.ntmps99
  go_wp2_with fail
  refine (HG.out _).mono ?_
  rintro e w1 ⟨rfl, rfl⟩
  go_wp2
  go_ret
  exact ⟨rfl, rfl⟩
theorem reaches_c (b k : Nat) (w : World) : Calls Tryz.prog 101 #[.int .i64 k, .pointer (some ⟨b, 0, none⟩)] w fun e w' => e = .returned (.func (.func 102) #[] #[.pointer (some ⟨b, 0, none⟩), .pointer (some ⟨w.heap.size, 0, none⟩)]) ∧ w' = w.alloc (.cells #[.int .i64 k] 3) := by
  go_enter Tryz.func101, Tryz.ntmps101
  go_wp2
  go_ret
  exact ⟨rfl, rfl⟩
set_option maxRecDepth 100000 in
theorem reach_c (s : ByteArray) (b c k : Nat) (w : World) (hb : Blk w b 9 #[.string s]) (hc : Blk w c 3 #[.int .i64 k]) (hs : s.size ≤ 9223372036854775807) (hk : k ≤ 100) :
    Calls Tryz.prog 102 #[.pointer (some ⟨b, 0, none⟩), .pointer (some ⟨c, 0, none⟩)] w fun e w' => e = .returned (.int .i64 (if k ≤ s.size then 0 else 2)) ∧ w = w' := by
  have q1 : w.cell? ⟨b, 0, none⟩ = some (.string s) := cell_of_one hb
  have q2 : w.cell? ⟨c, 0, none⟩ = some (.int .i64 k) := cell_of_one hc
  have HU := Lib.hid (fun h w => unless_c h 2 w)
  by_cases h : k ≤ s.size
  · rw [if_pos h]
    have hd : decide ((k : Int) ≤ s.size) = true := decide_eq_true (by omega)
    go_enter Tryz.func102, Tryz.ntmps102
    go_wp2_with fail
    refine (HU.out _ _).mono ?_
    rintro e w1 ⟨rfl, rfl⟩
    go_wp2
    go_ret
    exact ⟨rfl, rfl⟩
  · rw [if_neg h]
    have hd : decide ((k : Int) ≤ s.size) = false := decide_eq_false (by omega)
    go_enter Tryz.func102, Tryz.ntmps102
    go_wp2_with fail
    refine (HU.out _ _).mono ?_
    rintro e w1 ⟨rfl, rfl⟩
    go_wp2
    go_ret
    exact ⟨rfl, rfl⟩
/-- Is it the magic number? -/
def nuF (b : Nat) : Value := .func (.func 99) #[] #[.pointer (some ⟨b, 0, none⟩)]
set_option maxRecDepth 100000 in
set_option maxHeartbeats 1000000 in
theorem magic_c (s : ByteArray) (b c d m : Nat) (w : World) (hb : Blk w b 9 #[.string s]) (hc : Blk w c 138 #[nuF b]) (hd : Blk w d 22 #[.int .u32 m]) (hm : m < 4294967296) (hs : s.size ≤ 9223372036854775807) (h4 : 4 ≤ s.size) :
    Calls Tryz.prog 104 #[.pointer (some ⟨c, 0, none⟩), .pointer (some ⟨d, 0, none⟩)] w fun e w' => e = .returned (.int .i64 (if leL (s.extract 0 4).data.toList = m then 0 else 9)) ∧ ∃ n, w' = w.drewN n := by
  have HN := Lib.hid (fun n => number_c s b 0 4 (w.drewN n) (hb.drewN n) (by omega) h4 (by omega) hs)
  have hlt := leL4_lt (s.extract 0 4) (size_cut _ _ _ (by omega))
  have q2 : w.cell? ⟨c, 0, none⟩ = some (nuF b) := cell_of_one hc
  have q3 : w.cell? ⟨d, 0, none⟩ = some (.int .u32 m) := cell_of_one hd
  have HU := Lib.hid (fun h w => unless_c h 9 w)
  unfold nuF at q2
  generalize leL (s.extract 0 4).data.toList = N at *
  by_cases h : N = m
  · rw [if_pos h]
    have hd : ((N : Int) == (m : Int)) = true := by rw [h]; simp
    clear h
    go_enter Tryz.func104, Tryz.ntmps104
    go_wp2_with fail
    go_quiet ((first | (go_at_call 99; with_reducible exact Calls.quiet_of_same' (HN.out _)) | (go_at_call 103; with_reducible exact Calls.quiet_of_same' (HU.out _ _))))
    go_wp2
    go_ret
    exact ⟨rfl, nq, rfl⟩
  · rw [if_neg h]
    have hd : ((N : Int) == (m : Int)) = false := beq_eq_false_iff_ne.2 (by omega)
    clear h
    go_enter Tryz.func104, Tryz.ntmps104
    go_wp2_with fail
    go_quiet ((first | (go_at_call 99; with_reducible exact Calls.quiet_of_same' (HN.out _)) | (go_at_call 103; with_reducible exact Calls.quiet_of_same' (HU.out _ _))))
    go_wp2
    go_ret
    exact ⟨rfl, nq, rfl⟩
set_option maxRecDepth 100000 in
set_option maxHeartbeats 1000000 in
theorem cname_c (s : ByteArray) (b nb : Nat) (v : Value) (w : World) (hb : Blk w b 9 #[.string s]) (hn : Blk w nb 9 #[v]) (hne : nb ≠ b) (hs : s.size ≤ 9223372036854775807) (h16 : 16 ≤ s.size) :
    Calls Tryz.prog 105 #[.pointer (some ⟨b, 0, none⟩), .pointer (some ⟨nb, 0, none⟩)] w fun e w' => e = .returned (.int .i64 (nmGet (s.extract 4 16)).1) ∧ w' = w.setCell ⟨nb, 0, none⟩ (.string (nmGet (s.extract 4 16)).2) := by
  have HG := Lib.hid (fun w => cmdGet_c (s.extract 4 16) w (by rw [size_cut _ _ _ h16]; omega))
  have q1 : w.cell? ⟨b, 0, none⟩ = some (.string s) := cell_of_one hb
  have q2 : w.cell? ⟨nb, 0, none⟩ = some v := cell_of_one hn
  have q3 : w.frozen? ⟨nb, 0, none⟩ = false := free_of_one hn
  have HU := Lib.hid (fun h w => unless_c h 3 w)
  rcases nmGet_cases (s.extract 4 16) with hg | ⟨t, hg⟩
  all_goals
    rw [hg] at HG ⊢
    clear hg
    go_enter Tryz.func105, Tryz.ntmps105
    go_wp2_with fail
    refine (HG.out _).mono ?_
    rintro e w1 ⟨rfl, rfl⟩
    go_wp2_with fail
    refine (HU.out _ _).mono ?_
    rintro e w1 ⟨rfl, rfl⟩
    go_wp2
    go_ret
    exact ⟨rfl, rfl⟩
set_option maxRecDepth 100000 in
set_option maxHeartbeats 1000000 in
theorem clen_c (s : ByteArray) (b c lb mb : Nat) (v : Value) (most : Int) (w : World) (hb : Blk w b 9 #[.string s]) (hc : Blk w c 138 #[nuF b]) (hl : Blk w lb 3 #[v]) (hm : Blk w mb 3 #[.int .i64 most]) (hne : lb ≠ mb) (hs : s.size ≤ 9223372036854775807) (h20 : 20 ≤ s.size) :
    Calls Tryz.prog 107 #[.pointer (some ⟨c, 0, none⟩), .pointer (some ⟨lb, 0, none⟩), .pointer (some ⟨mb, 0, none⟩)] w fun e w' => e = .returned (.int .i64 (if (leL (s.extract 16 20).data.toList : Int) ≤ most then 0 else 5)) ∧ w' = w.setCell ⟨lb, 0, none⟩ (.int .i64 (leL (s.extract 16 20).data.toList)) := by
  have HN := Lib.hid (fun (_ : Unit) => number_c s b 16 20 w hb (by omega) h20 (by omega) hs)
  have hlt := leL4_lt (s.extract 16 20) (size_cut _ _ _ (by omega))
  have q2 : w.cell? ⟨c, 0, none⟩ = some (nuF b) := cell_of_one hc
  have q3 : w.cell? ⟨mb, 0, none⟩ = some (.int .i64 most) := cell_of_one hm
  have q4 : w.cell? ⟨lb, 0, none⟩ = some v := cell_of_one hl
  have q5 : w.frozen? ⟨lb, 0, none⟩ = false := free_of_one hl
  have HU := Lib.hid (fun h w => unless_c h 5 w)
  unfold nuF at q2
  have hne2 : (lb = mb) = False := eq_false hne
  have hne3 : (mb = lb) = False := eq_false hne.symm
  clear hne
  generalize leL (s.extract 16 20).data.toList = N at *
  by_cases h : (N : Int) ≤ most
  · rw [if_pos h]
    have hd : decide ((N : Int) ≤ most) = true := decide_eq_true h
    clear h
    go_enter Tryz.func107, Tryz.ntmps107
    go_wp2_with fail
    refine (HN.out ()).mono ?_
    rintro e w1 ⟨rfl, rfl⟩
    go_wp2_with fail
    refine (HU.out _ _).mono ?_
    rintro e w1 ⟨rfl, rfl⟩
    go_wp2
    go_ret
    exact ⟨rfl, rfl⟩
  · rw [if_neg h]
    have hd : decide ((N : Int) ≤ most) = false := decide_eq_false h
    clear h
    go_enter Tryz.func107, Tryz.ntmps107
    go_wp2_with fail
    refine (HN.out ()).mono ?_
    rintro e w1 ⟨rfl, rfl⟩
    go_wp2_with fail
    refine (HU.out _ _).mono ?_
    rintro e w1 ⟨rfl, rfl⟩
    go_wp2
    go_ret
    exact ⟨rfl, rfl⟩
set_option maxRecDepth 100000 in
set_option maxHeartbeats 1000000 in
theorem crest_c (s : ByteArray) (b lb N : Nat) (w : World) (hb : Blk w b 9 #[.string s]) (hl : Blk w lb 3 #[.int .i64 N]) (hs : s.size ≤ 9223372036854775807) (hN : N < 4294967296) :
    Calls Tryz.prog 108 #[.pointer (some ⟨b, 0, none⟩), .pointer (some ⟨lb, 0, none⟩)] w fun e w' => e = .returned (.int .i64 (if 24 + N ≤ s.size then 0 else 2)) ∧ w = w' := by
  have q1 : w.cell? ⟨b, 0, none⟩ = some (.string s) := cell_of_one hb
  have q2 : w.cell? ⟨lb, 0, none⟩ = some (.int .i64 N) := cell_of_one hl
  have HU := Lib.hid (fun h w => unless_c h 2 w)
  by_cases h : 24 + N ≤ s.size
  · rw [if_pos h]
    have hd : decide ((N : Int) ≤ (s.size : Int) - 24) = true := decide_eq_true (by omega)
    clear h
    go_enter Tryz.func108, Tryz.ntmps108
    go_wp2_with fail
    refine (HU.out _ _).mono ?_
    rintro e w1 ⟨rfl, rfl⟩
    go_wp2
    go_ret
    exact ⟨rfl, rfl⟩
  · rw [if_neg h]
    have hd : decide ((N : Int) ≤ (s.size : Int) - 24) = false := decide_eq_false (by omega)
    clear h
    go_enter Tryz.func108, Tryz.ntmps108
    go_wp2_with fail
    refine (HU.out _ _).mono ?_
    rintro e w1 ⟨rfl, rfl⟩
    go_wp2
    go_ret
    exact ⟨rfl, rfl⟩
set_option maxRecDepth 100000 in
set_option maxHeartbeats 1000000 in
theorem csum_c (s : ByteArray) (b lb N : Nat) (w : World) (hb : Blk w b 9 #[.string s]) (hl : Blk w lb 3 #[.int .i64 N]) (hs : s.size ≤ 1099511627776) (hN : 24 + N ≤ s.size) (hN2 : N ≤ 100000) :
    Calls Tryz.prog 109 #[.pointer (some ⟨b, 0, none⟩), .pointer (some ⟨lb, 0, none⟩)] w fun e w' => e = .returned (.int .i64 (if shChk (s.extract 24 (24 + N)) = s.extract 20 24 then 0 else 10)) ∧ Below w.heap.size w w' := by
  have q1 : w.cell? ⟨b, 0, none⟩ = some (.string s) := cell_of_one hb
  have q2 : w.cell? ⟨lb, 0, none⟩ = some (.int .i64 N) := cell_of_one hl
  have l1 := hb.lt
  have l2 := hl.lt
  have HC := Lib.hid (fun w => chkFits_c (s.extract 24 (24 + N)) (s.extract 20 24) w (by rw [size_cut _ _ _ hN]; omega))
  have HU := Lib.hid (fun h w => (unless_c h 10 w).mono (R' := fun e' w' => e' = .returned (.int .i64 (if h then 0 else 10)) ∧ Below w.heap.size w w') fun e w' h => ⟨h.1, by rw [← h.2]; exact Below.refl _ _⟩)
  have HE : Hid ((if decide (shChk (s.extract 24 (24 + N)) = s.extract 20 24) = true then (0 : Int) else 10) = if shChk (s.extract 24 (24 + N)) = s.extract 20 24 then 0 else 10) := Lib.hid (by simp)
  rw [← HE.out]
  generalize decide (shChk (s.extract 24 (24 + N)) = s.extract 20 24) = D at *
  clear HE
  have HNI : (24 : Int) + N ≤ s.size := by omega
  have HUD := Lib.hid (HU.out D)
  clear HU
  generalize (if D = true then (0 : Int) else 10) = r at *
  have p0 : (0 : Int) ≤ 24 + N := by omega
  have p1 : (24 : Int) ≤ 24 + N := by omega
  have p3 : (24 : Int) ≤ s.size := by omega
  have p4 : IntKind.i64.wrap (24 + (N : Int)) = 24 + N := IntWalk.i64_in _ (by omega)
  have p5 : (24 + (N : Int)).toNat = 24 + N := by omega
  go_enter Tryz.func109, Tryz.ntmps109
  go_wp2_with fail
  refine wp_region_below (by kernel_rfl) (by kernel_rfl) ?_
  refine wpQuiet_run (.string s) (by rfl) (fun w' hw' => by have q := (hw'.cell (p := ⟨b, 0, none⟩) (by simpa using by assumption)).trans q1; go_simp) ?_
  simp only [Act.put, List.setIfInBounds_toArray, List.set_cons_zero, List.set_cons_succ]
  refine wpQuiet_run (.int .i64 N) (by rfl) (fun w' hw' => by have q := (hw'.cell (p := ⟨lb, 0, none⟩) (by simpa using by assumption)).trans q2; go_simp) ?_
  simp only [Act.put, List.setIfInBounds_toArray, List.set_cons_zero, List.set_cons_succ]
  refine wpQuiet_run (.int .i64 (24 + N)) (by rfl) (fun _ _ => by first | rfl | go_simp) ?_
  simp only [Act.put, List.setIfInBounds_toArray, List.set_cons_zero, List.set_cons_succ]
  refine wpQuiet_run (.string (s.extract 24 (24 + N))) (by rfl) (fun _ _ => by first | rfl | go_simp) ?_
  simp only [Act.put, List.setIfInBounds_toArray, List.set_cons_zero, List.set_cons_succ]
  refine wpQuiet_run (.string s) (by rfl) (fun w' hw' => by have q := (hw'.cell (p := ⟨b, 0, none⟩) (by simpa using by assumption)).trans q1; go_simp) ?_
  simp only [Act.put, List.setIfInBounds_toArray, List.set_cons_zero, List.set_cons_succ]
  refine wpQuiet_run (.string (s.extract 20 24)) (by rfl) (fun _ _ => by first | rfl | go_simp) ?_
  simp only [Act.put, List.setIfInBounds_toArray, List.set_cons_zero, List.set_cons_succ]
  refine wpQuiet_callB 110 _ _ (by rfl) (fun _ => by first | rfl | go_simp) (fun w _ => HC.out _) ?_
  simp only [Act.put, List.setIfInBounds_toArray, List.set_cons_zero, List.set_cons_succ]
  refine wpQuiet_callB 103 _ _ (by rfl) (fun _ => by first | rfl | go_simp) (fun w _ => HUD.out _) ?_
  simp only [Act.put, List.setIfInBounds_toArray, List.set_cons_zero, List.set_cons_succ]
  refine wpQuiet_run (.int .i64 r) (by rfl) (fun _ _ => by first | rfl | go_simp) ?_
  simp only [Act.put, List.setIfInBounds_toArray, List.set_cons_zero, List.set_cons_succ]
  refine wpQuiet_nil ?_
  intro w2 hw2
  go_wp2
  go_ret
  exact ⟨rfl, hw2⟩
end Go.Proofs.YtebllmpdlapefaaGreatDoor
namespace Go.Proofs.YtebllmpdlapefaaGreatDoor
set_option linter.unusedVariables false
set_option linter.unusedSimpArgs false
open Go.RowKit

def cnRet (r : Int × ByteArray × ByteArray × Nat) : Value := .tuple #[.agg #[.int .u64 0, .string r.2.1, .string r.2.2.1], .int .i64 r.2.2.2, .int .i64 r.1]
theorem cset3 {w : World} {g : Nat} {t : TypeId} {z0 z1 z2 : Value} (h : Blk w g t #[z0, z1, z2]) (v0 v1 v2 : Value) : Blk (((w.setCell ⟨g, 0, none⟩ v0).setCell ⟨g, 1, none⟩ v1).setCell ⟨g, 2, none⟩ v2) g t #[v0, v1, v2] := ((h.set 0 v0).set 1 v1).set 2 v2
theorem below3 {B : Nat} {w w' : World} (h : Below B w w') {g : Nat} (hg : B ≤ g) (v0 v1 v2 : Value) : Below B w (((w'.setCell ⟨g, 0, none⟩ v0).setCell ⟨g, 1, none⟩ v1).setCell ⟨g, 2, none⟩ v2) :=
  ((h.setCell (by simpa using hg) _).setCell (by simpa using hg) _).setCell (by simpa using hg) _
set_option maxRecDepth 100000 in
set_option maxHeartbeats 2000000 in
theorem ref14Next_c (m : Nat) (most : Int) (s : ByteArray) (w : World) (hm : m < 4294967296) (hs : s.size ≤ 1099511627776) (hmo : -9223372036854775808 ≤ most ∧ most ≤ 9223372036854775807) (hNN : (s.size : Int) ≤ 90000 ∨ most ≤ 90000) :
    Calls Tryz.prog 52 #[keyV, .int .u32 m, .int .i64 most, .string s] w fun e w' => e = .returned (cnRet (cnNext m most s)) ∧ Below w.heap.size w w' := by
  have HI := Lib.hid (info_key' 64)
  unfold keyV
  obtain ⟨KL, hKL⟩ : ∃ KL, kC 64 = KL := ⟨_, rfl⟩
  rw [hKL] at HI ⊢
  have HKL := Lib.hid hKL
  clear hKL
  by_cases h1 : s.size < 4
  · have HR : Hid (cnNext m most s = (2, ByteArray.empty, ByteArray.empty, 0)) := Lib.hid (by rw [cnNext_eq, if_pos h1])
    go_enter Tryz.func52, Tryz.ntmps52
    go_wp2
    refine bodyPost_ret (v := .tuple #[.agg #[.int .u64 0, .string ⟨#[]⟩, .string ⟨#[]⟩], .int .i64 0, .int .i64 2]) (by simp [results, Tryz.results52, go_sem]) rfl ?_
    rw [HR.out]
    exact ⟨rfl, (by repeat (first | exact Below.refl _ _ | assumption | with_reducible refine Below.drewN' ?_ _ | with_reducible refine Below.drew ?_ | ((with_reducible refine Below.alloc' ?_ ?_ _); · (first | omega | (simp <;> omega)))))⟩
  have L1 := Lib.hid (fun w => refLe_c m w hm)
  have e1 : IntKind.u64.wrap (m : Int) = m := IntWalk.u64_in _ (by omega)
  have hA : Hid (cnNext m most s = _) := Lib.hid (by rw [cnNext_eq, if_neg h1])
  have hg := nmGet_cases (s.extract 4 16)
  rcases str_ways (s.extract 0 4) (le4 m) with ⟨q1, q2, q3⟩ | ⟨q1, q2, q3⟩
  · rw [if_neg (by simpa using q1)] at hA
    clear q1
    generalize le4 m = a at *
    by_cases h3 : s.size < 16
    · have HR : Hid (cnNext m most s = (2, ByteArray.empty, ByteArray.empty, 0)) := Lib.hid (by rw [hA.out, if_pos h3])
      clear hA
      go_enter Tryz.func52, Tryz.ntmps52
      go_wp2
      obtain ⟨W0, hW0⟩ : ∃ W0, (w.alloc (.cells KL 32)).alloc (.cells #[.int .u64 0, .string ⟨#[]⟩, .string ⟨#[]⟩] 27) = W0 := ⟨_, rfl⟩
      have HBW : Hid (Below w.heap.size w W0) := Lib.hid (by rw [← hW0]; exact (by repeat (first | exact Below.refl _ _ | assumption | with_reducible refine Below.drewN' ?_ _ | with_reducible refine Below.drew ?_ | ((with_reducible refine Below.alloc' ?_ ?_ _); · (first | omega | (simp <;> omega))))))
      have HK0 : Hid (Blk W0 w.heap.size 32 KL) := Lib.hid (by rw [← hW0]; exact (Blk.new w _ _).alloc _)
      have HF0 : Hid (Blk W0 (w.heap.size + 1) 27 #[.int .u64 0, .string ⟨#[]⟩, .string ⟨#[]⟩]) := Lib.hid (by rw [← hW0]; have := Blk.new (w.alloc (.cells KL 32)) 27 #[.int .u64 0, .string ⟨#[]⟩, .string ⟨#[]⟩]; simpa using this)
      rw [hW0]
      clear hW0
      refine wp_region_below (by kernel_rfl) (by kernel_rfl) ?_
      refine wpQuiet_run (.string s) (by rfl) (fun _ _ => by first | rfl | go_simp) ?_
      simp only [Act.put, List.setIfInBounds_toArray, List.set_cons_zero, List.set_cons_succ]
      refine wpQuiet_run (.string (s.extract 0 4)) (by rfl) (fun _ _ => by first | rfl | go_simp) ?_
      simp only [Act.put, List.setIfInBounds_toArray, List.set_cons_zero, List.set_cons_succ]
      refine wpQuiet_run (.int .u32 m) (by rfl) (fun _ _ => by first | rfl | go_simp) ?_
      simp only [Act.put, List.setIfInBounds_toArray, List.set_cons_zero, List.set_cons_succ]
      refine wpQuiet_run (.int .u64 m) (by rfl) (fun _ _ => by first | rfl | go_simp) ?_
      simp only [Act.put, List.setIfInBounds_toArray, List.set_cons_zero, List.set_cons_succ]
      refine wpQuiet_callB 78 _ _ (by rfl) (fun _ => by first | rfl | go_simp) (fun w _ => L1.out _) ?_
      simp only [Act.put, List.setIfInBounds_toArray, List.set_cons_zero, List.set_cons_succ]
      refine wpQuiet_run (.bool false) (by rfl) (fun _ _ => by first | rfl | go_simp) ?_
      simp only [Act.put, List.setIfInBounds_toArray, List.set_cons_zero, List.set_cons_succ]
      refine wpQuiet_nil ?_
      intro w2 hw2
      have HB2 : Hid (Below w.heap.size w w2) := Lib.hid (HBW.out.trans (hw2.mono HBW.out.size))
      have HK2 : Hid (Blk w2 w.heap.size 32 KL) := Lib.hid ((hw2.block _ HK0.out.lt).trans HK0.out)
      have HF2 : Hid (Blk w2 (w.heap.size + 1) 27 #[.int .u64 0, .string ⟨#[]⟩, .string ⟨#[]⟩]) := Lib.hid ((hw2.block _ HF0.out.lt).trans HF0.out)
      clear hw2 HBW HK0 HF0 e1 q2 q3 W0
      obtain ⟨g0, g1, g2, f0, f1, f2⟩ := blk3 HF2.out
      go_wp2
      have HC3 := Lib.hid (cset3 HF2.out (.int .u64 0) (.string ⟨#[]⟩) (.string ⟨#[]⟩))
      obtain ⟨c0, c1, c2, _, _, _⟩ := blk3 HC3.out
      refine bodyPost_ret (v := .tuple #[.agg #[.int .u64 0, .string ⟨#[]⟩, .string ⟨#[]⟩], .int .i64 0, .int .i64 2]) (by simp [results, Tryz.results52, go_sem, c0, c1, c2]) rfl ?_
      rw [HR.out]
      exact ⟨rfl, below3 HB2.out (by omega) _ _ _⟩
    rw [if_neg h3] at hA
    have HG := Lib.hid (fun w => refGetN_c (s.extract 4 16) w (by rw [size_cut _ _ _ (by omega)]; omega))
    rcases hg with hg | ⟨t, hg⟩
    · have HR : Hid (cnNext m most s = (3, ByteArray.empty, ByteArray.empty, 0)) := Lib.hid (by rw [hA.out, if_pos (by rw [hg]; simp)])
      rw [hg] at HG
      clear hA hg
      go_enter Tryz.func52, Tryz.ntmps52
      go_wp2
      obtain ⟨W0, hW0⟩ : ∃ W0, (w.alloc (.cells KL 32)).alloc (.cells #[.int .u64 0, .string ⟨#[]⟩, .string ⟨#[]⟩] 27) = W0 := ⟨_, rfl⟩
      have HBW : Hid (Below w.heap.size w W0) := Lib.hid (by rw [← hW0]; exact (by repeat (first | exact Below.refl _ _ | assumption | with_reducible refine Below.drewN' ?_ _ | with_reducible refine Below.drew ?_ | ((with_reducible refine Below.alloc' ?_ ?_ _); · (first | omega | (simp <;> omega))))))
      have HK0 : Hid (Blk W0 w.heap.size 32 KL) := Lib.hid (by rw [← hW0]; exact (Blk.new w _ _).alloc _)
      have HF0 : Hid (Blk W0 (w.heap.size + 1) 27 #[.int .u64 0, .string ⟨#[]⟩, .string ⟨#[]⟩]) := Lib.hid (by rw [← hW0]; have := Blk.new (w.alloc (.cells KL 32)) 27 #[.int .u64 0, .string ⟨#[]⟩, .string ⟨#[]⟩]; simpa using this)
      rw [hW0]
      clear hW0
      refine wp_region_below (by kernel_rfl) (by kernel_rfl) ?_
      refine wpQuiet_run (.string s) (by rfl) (fun _ _ => by first | rfl | go_simp) ?_
      simp only [Act.put, List.setIfInBounds_toArray, List.set_cons_zero, List.set_cons_succ]
      refine wpQuiet_run (.string (s.extract 0 4)) (by rfl) (fun _ _ => by first | rfl | go_simp) ?_
      simp only [Act.put, List.setIfInBounds_toArray, List.set_cons_zero, List.set_cons_succ]
      refine wpQuiet_run (.int .u32 m) (by rfl) (fun _ _ => by first | rfl | go_simp) ?_
      simp only [Act.put, List.setIfInBounds_toArray, List.set_cons_zero, List.set_cons_succ]
      refine wpQuiet_run (.int .u64 m) (by rfl) (fun _ _ => by first | rfl | go_simp) ?_
      simp only [Act.put, List.setIfInBounds_toArray, List.set_cons_zero, List.set_cons_succ]
      refine wpQuiet_callB 78 _ _ (by rfl) (fun _ => by first | rfl | go_simp) (fun w _ => L1.out _) ?_
      simp only [Act.put, List.setIfInBounds_toArray, List.set_cons_zero, List.set_cons_succ]
      refine wpQuiet_run (.bool false) (by rfl) (fun _ _ => by first | rfl | go_simp) ?_
      simp only [Act.put, List.setIfInBounds_toArray, List.set_cons_zero, List.set_cons_succ]
      refine wpQuiet_nil ?_
      intro w2 hw2
      have HB2 : Hid (Below w.heap.size w w2) := Lib.hid (HBW.out.trans (hw2.mono HBW.out.size))
      have HK2 : Hid (Blk w2 w.heap.size 32 KL) := Lib.hid ((hw2.block _ HK0.out.lt).trans HK0.out)
      have HF2 : Hid (Blk w2 (w.heap.size + 1) 27 #[.int .u64 0, .string ⟨#[]⟩, .string ⟨#[]⟩]) := Lib.hid ((hw2.block _ HF0.out.lt).trans HF0.out)
      clear hw2 HBW HK0 HF0 e1 q2 q3 W0
      obtain ⟨g0, g1, g2, f0, f1, f2⟩ := blk3 HF2.out
      go_wp2_with fail
      refine (HG.out _).mono ?_
      rintro e w3 ⟨rfl, rfl⟩
      go_wp2
      have HC3 := Lib.hid (cset3 HF2.out (.int .u64 0) (.string ⟨#[]⟩) (.string ⟨#[]⟩))
      obtain ⟨c0, c1, c2, _, _, _⟩ := blk3 HC3.out
      refine bodyPost_ret (v := .tuple #[.agg #[.int .u64 0, .string ⟨#[]⟩, .string ⟨#[]⟩], .int .i64 0, .int .i64 3]) (by simp [results, Tryz.results52, go_sem, c0, c1, c2]) rfl ?_
      rw [HR.out]
      exact ⟨rfl, below3 HB2.out (by omega) _ _ _⟩
    rw [hg] at HG
    rw [if_neg (by rw [hg]; simp), hg] at hA
    clear hg
    dsimp only at hA
    by_cases h5 : s.size < 20
    · have HR : Hid (cnNext m most s = (2, ByteArray.empty, ByteArray.empty, 0)) := Lib.hid (by rw [hA.out, if_pos h5])
      clear hA
      go_enter Tryz.func52, Tryz.ntmps52
      go_wp2
      obtain ⟨W0, hW0⟩ : ∃ W0, (w.alloc (.cells KL 32)).alloc (.cells #[.int .u64 0, .string ⟨#[]⟩, .string ⟨#[]⟩] 27) = W0 := ⟨_, rfl⟩
      have HBW : Hid (Below w.heap.size w W0) := Lib.hid (by rw [← hW0]; exact (by repeat (first | exact Below.refl _ _ | assumption | with_reducible refine Below.drewN' ?_ _ | with_reducible refine Below.drew ?_ | ((with_reducible refine Below.alloc' ?_ ?_ _); · (first | omega | (simp <;> omega))))))
      have HK0 : Hid (Blk W0 w.heap.size 32 KL) := Lib.hid (by rw [← hW0]; exact (Blk.new w _ _).alloc _)
      have HF0 : Hid (Blk W0 (w.heap.size + 1) 27 #[.int .u64 0, .string ⟨#[]⟩, .string ⟨#[]⟩]) := Lib.hid (by rw [← hW0]; have := Blk.new (w.alloc (.cells KL 32)) 27 #[.int .u64 0, .string ⟨#[]⟩, .string ⟨#[]⟩]; simpa using this)
      rw [hW0]
      clear hW0
      refine wp_region_below (by kernel_rfl) (by kernel_rfl) ?_
      refine wpQuiet_run (.string s) (by rfl) (fun _ _ => by first | rfl | go_simp) ?_
      simp only [Act.put, List.setIfInBounds_toArray, List.set_cons_zero, List.set_cons_succ]
      refine wpQuiet_run (.string (s.extract 0 4)) (by rfl) (fun _ _ => by first | rfl | go_simp) ?_
      simp only [Act.put, List.setIfInBounds_toArray, List.set_cons_zero, List.set_cons_succ]
      refine wpQuiet_run (.int .u32 m) (by rfl) (fun _ _ => by first | rfl | go_simp) ?_
      simp only [Act.put, List.setIfInBounds_toArray, List.set_cons_zero, List.set_cons_succ]
      refine wpQuiet_run (.int .u64 m) (by rfl) (fun _ _ => by first | rfl | go_simp) ?_
      simp only [Act.put, List.setIfInBounds_toArray, List.set_cons_zero, List.set_cons_succ]
      refine wpQuiet_callB 78 _ _ (by rfl) (fun _ => by first | rfl | go_simp) (fun w _ => L1.out _) ?_
      simp only [Act.put, List.setIfInBounds_toArray, List.set_cons_zero, List.set_cons_succ]
      refine wpQuiet_run (.bool false) (by rfl) (fun _ _ => by first | rfl | go_simp) ?_
      simp only [Act.put, List.setIfInBounds_toArray, List.set_cons_zero, List.set_cons_succ]
      refine wpQuiet_nil ?_
      intro w2 hw2
      have HB2 : Hid (Below w.heap.size w w2) := Lib.hid (HBW.out.trans (hw2.mono HBW.out.size))
      have HK2 : Hid (Blk w2 w.heap.size 32 KL) := Lib.hid ((hw2.block _ HK0.out.lt).trans HK0.out)
      have HF2 : Hid (Blk w2 (w.heap.size + 1) 27 #[.int .u64 0, .string ⟨#[]⟩, .string ⟨#[]⟩]) := Lib.hid ((hw2.block _ HF0.out.lt).trans HF0.out)
      clear hw2 HBW HK0 HF0 e1 q2 q3 W0
      obtain ⟨g0, g1, g2, f0, f1, f2⟩ := blk3 HF2.out
      go_wp2_with fail
      refine (HG.out _).mono ?_
      rintro e w3 ⟨rfl, rfl⟩
      go_wp2
      have HC3 := Lib.hid (cset3 HF2.out (.int .u64 0) (.string ⟨#[]⟩) (.string ⟨#[]⟩))
      obtain ⟨c0, c1, c2, _, _, _⟩ := blk3 HC3.out
      refine bodyPost_ret (v := .tuple #[.agg #[.int .u64 0, .string ⟨#[]⟩, .string ⟨#[]⟩], .int .i64 0, .int .i64 2]) (by simp [results, Tryz.results52, go_sem, c0, c1, c2]) rfl ?_
      rw [HR.out]
      exact ⟨rfl, below3 HB2.out (by omega) _ _ _⟩
    rw [if_neg h5] at hA
    have hzc : (s.extract 16 20).size = 4 := size_cut _ _ _ (by omega)
    have hlt := leL4_lt (s.extract 16 20) hzc
    have HT := Lib.hid (fun w => refTurned_c (s.extract 16 20) w (by omega))
    have HN := Lib.hid (fun w => refNumber_c ⟨(s.extract 16 20).data.toList.reverse.toArray⟩ w (by rw [size_of, List.length_reverse, toList_size]; omega))
    have hbe : beL (⟨(s.extract 16 20).data.toList.reverse.toArray⟩ : ByteArray).data.toList = leL (s.extract 16 20).data.toList := by simp [beL]
    rw [hbe] at HN
    clear hbe hzc
    generalize leL (s.extract 16 20).data.toList = N at *
    generalize (⟨(s.extract 16 20).data.toList.reverse.toArray⟩ : ByteArray) = T at *
    by_cases h6 : most < N
    · have HR : Hid (cnNext m most s = (5, ByteArray.empty, ByteArray.empty, 0)) := Lib.hid (by rw [hA.out, if_pos h6])
      clear hA
      go_enter Tryz.func52, Tryz.ntmps52
      go_wp2
      obtain ⟨W0, hW0⟩ : ∃ W0, (w.alloc (.cells KL 32)).alloc (.cells #[.int .u64 0, .string ⟨#[]⟩, .string ⟨#[]⟩] 27) = W0 := ⟨_, rfl⟩
      have HBW : Hid (Below w.heap.size w W0) := Lib.hid (by rw [← hW0]; exact (by repeat (first | exact Below.refl _ _ | assumption | with_reducible refine Below.drewN' ?_ _ | with_reducible refine Below.drew ?_ | ((with_reducible refine Below.alloc' ?_ ?_ _); · (first | omega | (simp <;> omega))))))
      have HK0 : Hid (Blk W0 w.heap.size 32 KL) := Lib.hid (by rw [← hW0]; exact (Blk.new w _ _).alloc _)
      have HF0 : Hid (Blk W0 (w.heap.size + 1) 27 #[.int .u64 0, .string ⟨#[]⟩, .string ⟨#[]⟩]) := Lib.hid (by rw [← hW0]; have := Blk.new (w.alloc (.cells KL 32)) 27 #[.int .u64 0, .string ⟨#[]⟩, .string ⟨#[]⟩]; simpa using this)
      rw [hW0]
      clear hW0
      refine wp_region_below (by kernel_rfl) (by kernel_rfl) ?_
      refine wpQuiet_run (.string s) (by rfl) (fun _ _ => by first | rfl | go_simp) ?_
      simp only [Act.put, List.setIfInBounds_toArray, List.set_cons_zero, List.set_cons_succ]
      refine wpQuiet_run (.string (s.extract 0 4)) (by rfl) (fun _ _ => by first | rfl | go_simp) ?_
      simp only [Act.put, List.setIfInBounds_toArray, List.set_cons_zero, List.set_cons_succ]
      refine wpQuiet_run (.int .u32 m) (by rfl) (fun _ _ => by first | rfl | go_simp) ?_
      simp only [Act.put, List.setIfInBounds_toArray, List.set_cons_zero, List.set_cons_succ]
      refine wpQuiet_run (.int .u64 m) (by rfl) (fun _ _ => by first | rfl | go_simp) ?_
      simp only [Act.put, List.setIfInBounds_toArray, List.set_cons_zero, List.set_cons_succ]
      refine wpQuiet_callB 78 _ _ (by rfl) (fun _ => by first | rfl | go_simp) (fun w _ => L1.out _) ?_
      simp only [Act.put, List.setIfInBounds_toArray, List.set_cons_zero, List.set_cons_succ]
      refine wpQuiet_run (.bool false) (by rfl) (fun _ _ => by first | rfl | go_simp) ?_
      simp only [Act.put, List.setIfInBounds_toArray, List.set_cons_zero, List.set_cons_succ]
      refine wpQuiet_nil ?_
      intro w2 hw2
      have HB2 : Hid (Below w.heap.size w w2) := Lib.hid (HBW.out.trans (hw2.mono HBW.out.size))
      have HK2 : Hid (Blk w2 w.heap.size 32 KL) := Lib.hid ((hw2.block _ HK0.out.lt).trans HK0.out)
      have HF2 : Hid (Blk w2 (w.heap.size + 1) 27 #[.int .u64 0, .string ⟨#[]⟩, .string ⟨#[]⟩]) := Lib.hid ((hw2.block _ HF0.out.lt).trans HF0.out)
      clear hw2 HBW HK0 HF0 e1 q2 q3 W0
      obtain ⟨g0, g1, g2, f0, f1, f2⟩ := blk3 HF2.out
      go_wp2_with fail
      refine (HG.out _).mono ?_
      rintro e w3 ⟨rfl, rfl⟩
      go_wp2_with fail
      refine (HT.out _).mono ?_
      rintro e w3 ⟨rfl, rfl⟩
      go_wp2_with fail
      refine (HN.out _).mono ?_
      rintro e w3 ⟨rfl, rfl⟩
      go_wp2_with fail
      have HC3 := Lib.hid (cset3 HF2.out (.int .u64 0) (.string ⟨#[]⟩) (.string ⟨#[]⟩))
      obtain ⟨c0, c1, c2, _, _, _⟩ := blk3 HC3.out
      refine bodyPost_ret (v := .tuple #[.agg #[.int .u64 0, .string ⟨#[]⟩, .string ⟨#[]⟩], .int .i64 0, .int .i64 5]) (by simp [results, Tryz.results52, go_sem, c0, c1, c2]) rfl ?_
      rw [HR.out]
      exact ⟨rfl, below3 HB2.out (by omega) _ _ _⟩
    rw [if_neg h6] at hA
    by_cases h7 : s.size < 24
    · have HR : Hid (cnNext m most s = (2, ByteArray.empty, ByteArray.empty, 0)) := Lib.hid (by rw [hA.out, if_pos (by omega)])
      clear hA
      go_enter Tryz.func52, Tryz.ntmps52
      go_wp2
      obtain ⟨W0, hW0⟩ : ∃ W0, (w.alloc (.cells KL 32)).alloc (.cells #[.int .u64 0, .string ⟨#[]⟩, .string ⟨#[]⟩] 27) = W0 := ⟨_, rfl⟩
      have HBW : Hid (Below w.heap.size w W0) := Lib.hid (by rw [← hW0]; exact (by repeat (first | exact Below.refl _ _ | assumption | with_reducible refine Below.drewN' ?_ _ | with_reducible refine Below.drew ?_ | ((with_reducible refine Below.alloc' ?_ ?_ _); · (first | omega | (simp <;> omega))))))
      have HK0 : Hid (Blk W0 w.heap.size 32 KL) := Lib.hid (by rw [← hW0]; exact (Blk.new w _ _).alloc _)
      have HF0 : Hid (Blk W0 (w.heap.size + 1) 27 #[.int .u64 0, .string ⟨#[]⟩, .string ⟨#[]⟩]) := Lib.hid (by rw [← hW0]; have := Blk.new (w.alloc (.cells KL 32)) 27 #[.int .u64 0, .string ⟨#[]⟩, .string ⟨#[]⟩]; simpa using this)
      rw [hW0]
      clear hW0
      refine wp_region_below (by kernel_rfl) (by kernel_rfl) ?_
      refine wpQuiet_run (.string s) (by rfl) (fun _ _ => by first | rfl | go_simp) ?_
      simp only [Act.put, List.setIfInBounds_toArray, List.set_cons_zero, List.set_cons_succ]
      refine wpQuiet_run (.string (s.extract 0 4)) (by rfl) (fun _ _ => by first | rfl | go_simp) ?_
      simp only [Act.put, List.setIfInBounds_toArray, List.set_cons_zero, List.set_cons_succ]
      refine wpQuiet_run (.int .u32 m) (by rfl) (fun _ _ => by first | rfl | go_simp) ?_
      simp only [Act.put, List.setIfInBounds_toArray, List.set_cons_zero, List.set_cons_succ]
      refine wpQuiet_run (.int .u64 m) (by rfl) (fun _ _ => by first | rfl | go_simp) ?_
      simp only [Act.put, List.setIfInBounds_toArray, List.set_cons_zero, List.set_cons_succ]
      refine wpQuiet_callB 78 _ _ (by rfl) (fun _ => by first | rfl | go_simp) (fun w _ => L1.out _) ?_
      simp only [Act.put, List.setIfInBounds_toArray, List.set_cons_zero, List.set_cons_succ]
      refine wpQuiet_run (.bool false) (by rfl) (fun _ _ => by first | rfl | go_simp) ?_
      simp only [Act.put, List.setIfInBounds_toArray, List.set_cons_zero, List.set_cons_succ]
      refine wpQuiet_nil ?_
      intro w2 hw2
      have HB2 : Hid (Below w.heap.size w w2) := Lib.hid (HBW.out.trans (hw2.mono HBW.out.size))
      have HK2 : Hid (Blk w2 w.heap.size 32 KL) := Lib.hid ((hw2.block _ HK0.out.lt).trans HK0.out)
      have HF2 : Hid (Blk w2 (w.heap.size + 1) 27 #[.int .u64 0, .string ⟨#[]⟩, .string ⟨#[]⟩]) := Lib.hid ((hw2.block _ HF0.out.lt).trans HF0.out)
      clear hw2 HBW HK0 HF0 e1 q2 q3 W0
      obtain ⟨g0, g1, g2, f0, f1, f2⟩ := blk3 HF2.out
      go_wp2_with fail
      refine (HG.out _).mono ?_
      rintro e w3 ⟨rfl, rfl⟩
      go_wp2_with fail
      refine (HT.out _).mono ?_
      rintro e w3 ⟨rfl, rfl⟩
      go_wp2_with fail
      refine (HN.out _).mono ?_
      rintro e w3 ⟨rfl, rfl⟩
      go_wp2_with fail
      have HC3 := Lib.hid (cset3 HF2.out (.int .u64 0) (.string ⟨#[]⟩) (.string ⟨#[]⟩))
      obtain ⟨c0, c1, c2, _, _, _⟩ := blk3 HC3.out
      refine bodyPost_ret (v := .tuple #[.agg #[.int .u64 0, .string ⟨#[]⟩, .string ⟨#[]⟩], .int .i64 0, .int .i64 2]) (by simp [results, Tryz.results52, go_sem, c0, c1, c2]) rfl ?_
      rw [HR.out]
      exact ⟨rfl, below3 HB2.out (by omega) _ _ _⟩
    by_cases h8 : s.size < 24 + N
    · have HR : Hid (cnNext m most s = (2, ByteArray.empty, ByteArray.empty, 0)) := Lib.hid (by rw [hA.out, if_pos (by omega)])
      clear hA
      go_enter Tryz.func52, Tryz.ntmps52
      go_wp2
      obtain ⟨W0, hW0⟩ : ∃ W0, (w.alloc (.cells KL 32)).alloc (.cells #[.int .u64 0, .string ⟨#[]⟩, .string ⟨#[]⟩] 27) = W0 := ⟨_, rfl⟩
      have HBW : Hid (Below w.heap.size w W0) := Lib.hid (by rw [← hW0]; exact (by repeat (first | exact Below.refl _ _ | assumption | with_reducible refine Below.drewN' ?_ _ | with_reducible refine Below.drew ?_ | ((with_reducible refine Below.alloc' ?_ ?_ _); · (first | omega | (simp <;> omega))))))
      have HK0 : Hid (Blk W0 w.heap.size 32 KL) := Lib.hid (by rw [← hW0]; exact (Blk.new w _ _).alloc _)
      have HF0 : Hid (Blk W0 (w.heap.size + 1) 27 #[.int .u64 0, .string ⟨#[]⟩, .string ⟨#[]⟩]) := Lib.hid (by rw [← hW0]; have := Blk.new (w.alloc (.cells KL 32)) 27 #[.int .u64 0, .string ⟨#[]⟩, .string ⟨#[]⟩]; simpa using this)
      rw [hW0]
      clear hW0
      refine wp_region_below (by kernel_rfl) (by kernel_rfl) ?_
      refine wpQuiet_run (.string s) (by rfl) (fun _ _ => by first | rfl | go_simp) ?_
      simp only [Act.put, List.setIfInBounds_toArray, List.set_cons_zero, List.set_cons_succ]
      refine wpQuiet_run (.string (s.extract 0 4)) (by rfl) (fun _ _ => by first | rfl | go_simp) ?_
      simp only [Act.put, List.setIfInBounds_toArray, List.set_cons_zero, List.set_cons_succ]
      refine wpQuiet_run (.int .u32 m) (by rfl) (fun _ _ => by first | rfl | go_simp) ?_
      simp only [Act.put, List.setIfInBounds_toArray, List.set_cons_zero, List.set_cons_succ]
      refine wpQuiet_run (.int .u64 m) (by rfl) (fun _ _ => by first | rfl | go_simp) ?_
      simp only [Act.put, List.setIfInBounds_toArray, List.set_cons_zero, List.set_cons_succ]
      refine wpQuiet_callB 78 _ _ (by rfl) (fun _ => by first | rfl | go_simp) (fun w _ => L1.out _) ?_
      simp only [Act.put, List.setIfInBounds_toArray, List.set_cons_zero, List.set_cons_succ]
      refine wpQuiet_run (.bool false) (by rfl) (fun _ _ => by first | rfl | go_simp) ?_
      simp only [Act.put, List.setIfInBounds_toArray, List.set_cons_zero, List.set_cons_succ]
      refine wpQuiet_nil ?_
      intro w2 hw2
      have HB2 : Hid (Below w.heap.size w w2) := Lib.hid (HBW.out.trans (hw2.mono HBW.out.size))
      have HK2 : Hid (Blk w2 w.heap.size 32 KL) := Lib.hid ((hw2.block _ HK0.out.lt).trans HK0.out)
      have HF2 : Hid (Blk w2 (w.heap.size + 1) 27 #[.int .u64 0, .string ⟨#[]⟩, .string ⟨#[]⟩]) := Lib.hid ((hw2.block _ HF0.out.lt).trans HF0.out)
      clear hw2 HBW HK0 HF0 e1 q2 q3 W0
      obtain ⟨g0, g1, g2, f0, f1, f2⟩ := blk3 HF2.out
      go_wp2_with fail
      refine (HG.out _).mono ?_
      rintro e w3 ⟨rfl, rfl⟩
      go_wp2_with fail
      refine (HT.out _).mono ?_
      rintro e w3 ⟨rfl, rfl⟩
      go_wp2_with fail
      refine (HN.out _).mono ?_
      rintro e w3 ⟨rfl, rfl⟩
      go_wp2_with fail
      have HC3 := Lib.hid (cset3 HF2.out (.int .u64 0) (.string ⟨#[]⟩) (.string ⟨#[]⟩))
      obtain ⟨c0, c1, c2, _, _, _⟩ := blk3 HC3.out
      refine bodyPost_ret (v := .tuple #[.agg #[.int .u64 0, .string ⟨#[]⟩, .string ⟨#[]⟩], .int .i64 0, .int .i64 2]) (by simp [results, Tryz.results52, go_sem, c0, c1, c2]) rfl ?_
      rw [HR.out]
      exact ⟨rfl, below3 HB2.out (by omega) _ _ _⟩
    rw [if_neg h8] at hA
    have hzb : (s.extract 24 (24 + N)).size ≤ 90000 := by rw [size_cut _ _ _ (by omega)]; omega
    have HC := Lib.hid (fun w => refCheck_c (s.extract 24 (24 + N)) w hzb)
    unfold keyV at HC
    rw [HKL.out] at HC
    clear hzb
    have HB8 : Hid (24 + (N : Int) ≤ s.size) := Lib.hid (by omega)
    rcases str_ways (shChk (s.extract 24 (24 + N))) (s.extract 20 24) with ⟨p1, p2, p3⟩ | ⟨p1, p2, p3⟩
    · have HR : Hid (cnNext m most s = (0, t, s.extract 24 (24 + N), 24 + N)) := Lib.hid (by rw [hA.out, if_neg (by simpa using p1)])
      clear hA p1
      generalize shChk (s.extract 24 (24 + N)) = d at *
      go_enter Tryz.func52, Tryz.ntmps52
      go_wp2
      obtain ⟨W0, hW0⟩ : ∃ W0, (w.alloc (.cells KL 32)).alloc (.cells #[.int .u64 0, .string ⟨#[]⟩, .string ⟨#[]⟩] 27) = W0 := ⟨_, rfl⟩
      have HBW : Hid (Below w.heap.size w W0) := Lib.hid (by rw [← hW0]; exact (by repeat (first | exact Below.refl _ _ | assumption | with_reducible refine Below.drewN' ?_ _ | with_reducible refine Below.drew ?_ | ((with_reducible refine Below.alloc' ?_ ?_ _); · (first | omega | (simp <;> omega))))))
      have HK0 : Hid (Blk W0 w.heap.size 32 KL) := Lib.hid (by rw [← hW0]; exact (Blk.new w _ _).alloc _)
      have HF0 : Hid (Blk W0 (w.heap.size + 1) 27 #[.int .u64 0, .string ⟨#[]⟩, .string ⟨#[]⟩]) := Lib.hid (by rw [← hW0]; have := Blk.new (w.alloc (.cells KL 32)) 27 #[.int .u64 0, .string ⟨#[]⟩, .string ⟨#[]⟩]; simpa using this)
      rw [hW0]
      clear hW0
      refine wp_region_below (by kernel_rfl) (by kernel_rfl) ?_
      refine wpQuiet_run (.string s) (by rfl) (fun _ _ => by first | rfl | go_simp) ?_
      simp only [Act.put, List.setIfInBounds_toArray, List.set_cons_zero, List.set_cons_succ]
      refine wpQuiet_run (.string (s.extract 0 4)) (by rfl) (fun _ _ => by first | rfl | go_simp) ?_
      simp only [Act.put, List.setIfInBounds_toArray, List.set_cons_zero, List.set_cons_succ]
      refine wpQuiet_run (.int .u32 m) (by rfl) (fun _ _ => by first | rfl | go_simp) ?_
      simp only [Act.put, List.setIfInBounds_toArray, List.set_cons_zero, List.set_cons_succ]
      refine wpQuiet_run (.int .u64 m) (by rfl) (fun _ _ => by first | rfl | go_simp) ?_
      simp only [Act.put, List.setIfInBounds_toArray, List.set_cons_zero, List.set_cons_succ]
      refine wpQuiet_callB 78 _ _ (by rfl) (fun _ => by first | rfl | go_simp) (fun w _ => L1.out _) ?_
      simp only [Act.put, List.setIfInBounds_toArray, List.set_cons_zero, List.set_cons_succ]
      refine wpQuiet_run (.bool false) (by rfl) (fun _ _ => by first | rfl | go_simp) ?_
      simp only [Act.put, List.setIfInBounds_toArray, List.set_cons_zero, List.set_cons_succ]
      refine wpQuiet_nil ?_
      intro w2 hw2
      have HB2 : Hid (Below w.heap.size w w2) := Lib.hid (HBW.out.trans (hw2.mono HBW.out.size))
      have HK2 : Hid (Blk w2 w.heap.size 32 KL) := Lib.hid ((hw2.block _ HK0.out.lt).trans HK0.out)
      have HF2 : Hid (Blk w2 (w.heap.size + 1) 27 #[.int .u64 0, .string ⟨#[]⟩, .string ⟨#[]⟩]) := Lib.hid ((hw2.block _ HF0.out.lt).trans HF0.out)
      clear hw2 HBW HK0 HF0 e1 q2 q3 W0
      obtain ⟨g0, g1, g2, f0, f1, f2⟩ := blk3 HF2.out
      go_wp2_with fail
      refine (HG.out _).mono ?_
      rintro e w3 ⟨rfl, rfl⟩
      go_wp2_with fail
      refine (HT.out _).mono ?_
      rintro e w3 ⟨rfl, rfl⟩
      go_wp2_with fail
      refine (HN.out _).mono ?_
      rintro e w3 ⟨rfl, rfl⟩
      go_wp2_with fail
      refine wp_region_below (by kernel_rfl) (by kernel_rfl) ?_
      refine wpQuiet_load (by rfl) 32 (.tmp 4) (by rfl) w.heap.size (by rfl) 32 KL (0, 0) _ (by intro w' hw'; exact (hw'.block _ HK2.out.lt).trans HK2.out) Tryz.underlying32 rfl HI.out ?_
      simp only [Act.put, List.setIfInBounds_toArray, List.set_cons_zero, List.set_cons_succ]
      refine wpQuiet_run (.string (s.extract 24 (24 + N))) (by rfl) (fun _ _ => by first | rfl | go_simp) ?_
      simp only [Act.put, List.setIfInBounds_toArray, List.set_cons_zero, List.set_cons_succ]
      refine wpQuiet_callB 80 _ _ (by rfl) (fun _ => by first | rfl | go_simp) (fun w _ => HC.out _) ?_
      simp only [Act.put, List.setIfInBounds_toArray, List.set_cons_zero, List.set_cons_succ]
      refine wpQuiet_run (.string s) (by rfl) (fun _ _ => by first | rfl | go_simp) ?_
      simp only [Act.put, List.setIfInBounds_toArray, List.set_cons_zero, List.set_cons_succ]
      refine wpQuiet_run (.string (s.extract 20 24)) (by rfl) (fun _ _ => by first | rfl | go_simp) ?_
      simp only [Act.put, List.setIfInBounds_toArray, List.set_cons_zero, List.set_cons_succ]
      refine wpQuiet_run (.bool false) (by rfl) (fun _ _ => by first | rfl | go_simp) ?_
      simp only [Act.put, List.setIfInBounds_toArray, List.set_cons_zero, List.set_cons_succ]
      refine wpQuiet_nil ?_
      intro w4 hw4
      have HB4 : Hid (Below w.heap.size w w4) := Lib.hid (HB2.out.trans (hw4.mono HB2.out.size))
      have HF4 : Hid (Blk w4 (w.heap.size + 1) 27 #[.int .u64 0, .string ⟨#[]⟩, .string ⟨#[]⟩]) := Lib.hid ((hw4.block _ HF2.out.lt).trans HF2.out)
      clear hw4 HB2 HF2 HK2 g0 g1 g2 f0 f1 f2 p2 p3
      clear w2
      obtain ⟨g0, g1, g2, f0, f1, f2⟩ := blk3 HF4.out
      go_wp2
      have HC3 := Lib.hid (cset3 HF4.out (.int .u64 0) (.string t) (.string (s.extract 24 (24 + N))))
      obtain ⟨c0, c1, c2, _, _, _⟩ := blk3 HC3.out
      refine bodyPost_ret (v := .tuple #[.agg #[.int .u64 0, .string t, .string (s.extract 24 (24 + N))], .int .i64 (24 + N : Int), .int .i64 0]) (by simp [results, Tryz.results52, go_sem, c0, c1, c2]) rfl ?_
      rw [HR.out]
      exact ⟨rfl, below3 HB4.out (by omega) _ _ _⟩
    · have HR : Hid (cnNext m most s = (10, ByteArray.empty, ByteArray.empty, 0)) := Lib.hid (by rw [hA.out, if_pos p1])
      clear hA p1
      generalize shChk (s.extract 24 (24 + N)) = d at *
      go_enter Tryz.func52, Tryz.ntmps52
      go_wp2
      obtain ⟨W0, hW0⟩ : ∃ W0, (w.alloc (.cells KL 32)).alloc (.cells #[.int .u64 0, .string ⟨#[]⟩, .string ⟨#[]⟩] 27) = W0 := ⟨_, rfl⟩
      have HBW : Hid (Below w.heap.size w W0) := Lib.hid (by rw [← hW0]; exact (by repeat (first | exact Below.refl _ _ | assumption | with_reducible refine Below.drewN' ?_ _ | with_reducible refine Below.drew ?_ | ((with_reducible refine Below.alloc' ?_ ?_ _); · (first | omega | (simp <;> omega))))))
      have HK0 : Hid (Blk W0 w.heap.size 32 KL) := Lib.hid (by rw [← hW0]; exact (Blk.new w _ _).alloc _)
      have HF0 : Hid (Blk W0 (w.heap.size + 1) 27 #[.int .u64 0, .string ⟨#[]⟩, .string ⟨#[]⟩]) := Lib.hid (by rw [← hW0]; have := Blk.new (w.alloc (.cells KL 32)) 27 #[.int .u64 0, .string ⟨#[]⟩, .string ⟨#[]⟩]; simpa using this)
      rw [hW0]
      clear hW0
      refine wp_region_below (by kernel_rfl) (by kernel_rfl) ?_
      refine wpQuiet_run (.string s) (by rfl) (fun _ _ => by first | rfl | go_simp) ?_
      simp only [Act.put, List.setIfInBounds_toArray, List.set_cons_zero, List.set_cons_succ]
      refine wpQuiet_run (.string (s.extract 0 4)) (by rfl) (fun _ _ => by first | rfl | go_simp) ?_
      simp only [Act.put, List.setIfInBounds_toArray, List.set_cons_zero, List.set_cons_succ]
      refine wpQuiet_run (.int .u32 m) (by rfl) (fun _ _ => by first | rfl | go_simp) ?_
      simp only [Act.put, List.setIfInBounds_toArray, List.set_cons_zero, List.set_cons_succ]
      refine wpQuiet_run (.int .u64 m) (by rfl) (fun _ _ => by first | rfl | go_simp) ?_
      simp only [Act.put, List.setIfInBounds_toArray, List.set_cons_zero, List.set_cons_succ]
      refine wpQuiet_callB 78 _ _ (by rfl) (fun _ => by first | rfl | go_simp) (fun w _ => L1.out _) ?_
      simp only [Act.put, List.setIfInBounds_toArray, List.set_cons_zero, List.set_cons_succ]
      refine wpQuiet_run (.bool false) (by rfl) (fun _ _ => by first | rfl | go_simp) ?_
      simp only [Act.put, List.setIfInBounds_toArray, List.set_cons_zero, List.set_cons_succ]
      refine wpQuiet_nil ?_
      intro w2 hw2
      have HB2 : Hid (Below w.heap.size w w2) := Lib.hid (HBW.out.trans (hw2.mono HBW.out.size))
      have HK2 : Hid (Blk w2 w.heap.size 32 KL) := Lib.hid ((hw2.block _ HK0.out.lt).trans HK0.out)
      have HF2 : Hid (Blk w2 (w.heap.size + 1) 27 #[.int .u64 0, .string ⟨#[]⟩, .string ⟨#[]⟩]) := Lib.hid ((hw2.block _ HF0.out.lt).trans HF0.out)
      clear hw2 HBW HK0 HF0 e1 q2 q3 W0
      obtain ⟨g0, g1, g2, f0, f1, f2⟩ := blk3 HF2.out
      go_wp2_with fail
      refine (HG.out _).mono ?_
      rintro e w3 ⟨rfl, rfl⟩
      go_wp2_with fail
      refine (HT.out _).mono ?_
      rintro e w3 ⟨rfl, rfl⟩
      go_wp2_with fail
      refine (HN.out _).mono ?_
      rintro e w3 ⟨rfl, rfl⟩
      go_wp2_with fail
      refine wp_region_below (by kernel_rfl) (by kernel_rfl) ?_
      refine wpQuiet_load (by rfl) 32 (.tmp 4) (by rfl) w.heap.size (by rfl) 32 KL (0, 0) _ (by intro w' hw'; exact (hw'.block _ HK2.out.lt).trans HK2.out) Tryz.underlying32 rfl HI.out ?_
      simp only [Act.put, List.setIfInBounds_toArray, List.set_cons_zero, List.set_cons_succ]
      refine wpQuiet_run (.string (s.extract 24 (24 + N))) (by rfl) (fun _ _ => by first | rfl | go_simp) ?_
      simp only [Act.put, List.setIfInBounds_toArray, List.set_cons_zero, List.set_cons_succ]
      refine wpQuiet_callB 80 _ _ (by rfl) (fun _ => by first | rfl | go_simp) (fun w _ => HC.out _) ?_
      simp only [Act.put, List.setIfInBounds_toArray, List.set_cons_zero, List.set_cons_succ]
      refine wpQuiet_run (.string s) (by rfl) (fun _ _ => by first | rfl | go_simp) ?_
      simp only [Act.put, List.setIfInBounds_toArray, List.set_cons_zero, List.set_cons_succ]
      refine wpQuiet_run (.string (s.extract 20 24)) (by rfl) (fun _ _ => by first | rfl | go_simp) ?_
      simp only [Act.put, List.setIfInBounds_toArray, List.set_cons_zero, List.set_cons_succ]
      refine wpQuiet_run (.bool true) (by rfl) (fun _ _ => by first | rfl | go_simp) ?_
      simp only [Act.put, List.setIfInBounds_toArray, List.set_cons_zero, List.set_cons_succ]
      refine wpQuiet_nil ?_
      intro w4 hw4
      have HB4 : Hid (Below w.heap.size w w4) := Lib.hid (HB2.out.trans (hw4.mono HB2.out.size))
      have HF4 : Hid (Blk w4 (w.heap.size + 1) 27 #[.int .u64 0, .string ⟨#[]⟩, .string ⟨#[]⟩]) := Lib.hid ((hw4.block _ HF2.out.lt).trans HF2.out)
      clear hw4 HB2 HF2 HK2 g0 g1 g2 f0 f1 f2 p2 p3
      clear w2
      obtain ⟨g0, g1, g2, f0, f1, f2⟩ := blk3 HF4.out
      go_wp2
      have HC3 := Lib.hid (cset3 HF4.out (.int .u64 0) (.string ⟨#[]⟩) (.string ⟨#[]⟩))
      obtain ⟨c0, c1, c2, _, _, _⟩ := blk3 HC3.out
      refine bodyPost_ret (v := .tuple #[.agg #[.int .u64 0, .string ⟨#[]⟩, .string ⟨#[]⟩], .int .i64 0, .int .i64 10]) (by simp [results, Tryz.results52, go_sem, c0, c1, c2]) rfl ?_
      rw [HR.out]
      exact ⟨rfl, below3 HB4.out (by omega) _ _ _⟩
  · have HR : Hid (cnNext m most s = (9, ByteArray.empty, ByteArray.empty, 0)) := Lib.hid (by rw [hA.out, if_pos q1])
    clear hA q1
    generalize le4 m = a at *
    go_enter Tryz.func52, Tryz.ntmps52
    go_wp2
    obtain ⟨W0, hW0⟩ : ∃ W0, (w.alloc (.cells KL 32)).alloc (.cells #[.int .u64 0, .string ⟨#[]⟩, .string ⟨#[]⟩] 27) = W0 := ⟨_, rfl⟩
    have HBW : Hid (Below w.heap.size w W0) := Lib.hid (by rw [← hW0]; exact (by repeat (first | exact Below.refl _ _ | assumption | with_reducible refine Below.drewN' ?_ _ | with_reducible refine Below.drew ?_ | ((with_reducible refine Below.alloc' ?_ ?_ _); · (first | omega | (simp <;> omega))))))
    have HK0 : Hid (Blk W0 w.heap.size 32 KL) := Lib.hid (by rw [← hW0]; exact (Blk.new w _ _).alloc _)
    have HF0 : Hid (Blk W0 (w.heap.size + 1) 27 #[.int .u64 0, .string ⟨#[]⟩, .string ⟨#[]⟩]) := Lib.hid (by rw [← hW0]; have := Blk.new (w.alloc (.cells KL 32)) 27 #[.int .u64 0, .string ⟨#[]⟩, .string ⟨#[]⟩]; simpa using this)
    rw [hW0]
    clear hW0
    refine wp_region_below (by kernel_rfl) (by kernel_rfl) ?_
    refine wpQuiet_run (.string s) (by rfl) (fun _ _ => by first | rfl | go_simp) ?_
    simp only [Act.put, List.setIfInBounds_toArray, List.set_cons_zero, List.set_cons_succ]
    refine wpQuiet_run (.string (s.extract 0 4)) (by rfl) (fun _ _ => by first | rfl | go_simp) ?_
    simp only [Act.put, List.setIfInBounds_toArray, List.set_cons_zero, List.set_cons_succ]
    refine wpQuiet_run (.int .u32 m) (by rfl) (fun _ _ => by first | rfl | go_simp) ?_
    simp only [Act.put, List.setIfInBounds_toArray, List.set_cons_zero, List.set_cons_succ]
    refine wpQuiet_run (.int .u64 m) (by rfl) (fun _ _ => by first | rfl | go_simp) ?_
    simp only [Act.put, List.setIfInBounds_toArray, List.set_cons_zero, List.set_cons_succ]
    refine wpQuiet_callB 78 _ _ (by rfl) (fun _ => by first | rfl | go_simp) (fun w _ => L1.out _) ?_
    simp only [Act.put, List.setIfInBounds_toArray, List.set_cons_zero, List.set_cons_succ]
    refine wpQuiet_run (.bool true) (by rfl) (fun _ _ => by first | rfl | go_simp) ?_
    simp only [Act.put, List.setIfInBounds_toArray, List.set_cons_zero, List.set_cons_succ]
    refine wpQuiet_nil ?_
    intro w2 hw2
    have HB2 : Hid (Below w.heap.size w w2) := Lib.hid (HBW.out.trans (hw2.mono HBW.out.size))
    have HK2 : Hid (Blk w2 w.heap.size 32 KL) := Lib.hid ((hw2.block _ HK0.out.lt).trans HK0.out)
    have HF2 : Hid (Blk w2 (w.heap.size + 1) 27 #[.int .u64 0, .string ⟨#[]⟩, .string ⟨#[]⟩]) := Lib.hid ((hw2.block _ HF0.out.lt).trans HF0.out)
    clear hw2 HBW HK0 HF0 e1 q2 q3 W0
    obtain ⟨g0, g1, g2, f0, f1, f2⟩ := blk3 HF2.out
    go_wp2
    have HC3 := Lib.hid (cset3 HF2.out (.int .u64 0) (.string ⟨#[]⟩) (.string ⟨#[]⟩))
    obtain ⟨c0, c1, c2, _, _, _⟩ := blk3 HC3.out
    refine bodyPost_ret (v := .tuple #[.agg #[.int .u64 0, .string ⟨#[]⟩, .string ⟨#[]⟩], .int .i64 0, .int .i64 9]) (by simp [results, Tryz.results52, go_sem, c0, c1, c2]) rfl ?_
    rw [HR.out]
    exact ⟨rfl, below3 HB2.out (by omega) _ _ _⟩
end Go.Proofs.YtebllmpdlapefaaGreatDoor
