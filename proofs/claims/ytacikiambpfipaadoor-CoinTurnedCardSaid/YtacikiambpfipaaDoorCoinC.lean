/- coin.Next's closures. -/
import Derived.Test.YtacikiambpfipaaDoorCoin
import Derived.Test.YtacikiambpfipaaDoorBufR
import Derived.Laws.EntriesVeiled
namespace Go.Proofs.YtacikiambpfipaaDoor
set_option linter.unusedVariables false
set_option linter.unusedSimpArgs false
open Go.RowKit

theorem unless_c (h : Bool) (e : Int) (w : World) : Calls Tryd.prog 55 #[.bool h, .int .i64 e] w fun e' w' => e' = .returned (.int .i64 (if h then 0 else e)) ∧ w = w' := by
  cases h
  · go_enter Tryd.func55, Tryd.ntmps55
    go_wp2
    go_ret
    exact ⟨rfl, rfl⟩
  · go_enter Tryd.func55, Tryd.ntmps55
    go_wp2
    go_ret
    exact ⟨rfl, rfl⟩
def ptr (b : Nat) : Value := .pointer (some ⟨b, 0, none⟩)
set_option maxRecDepth 100000 in
theorem number_c (s : ByteArray) (b i j : Nat) (w : World) (hb : Blk w b 9 #[.string s]) (hij : i < j) (hj : j ≤ s.size) (h8 : j - i ≤ 8) (hs : s.size ≤ 9223372036854775807) :
    Calls Tryd.prog 51 #[.int .i64 i, .int .i64 j, .pointer (some ⟨b, 0, none⟩)] w fun e w' => e = .returned (.int .u64 (leL (s.extract i j).data.toList)) ∧ w = w' := by
  have hz : (s.extract i j).size = j - i := size_cut _ _ _ hj
  have HG := Lib.hid (fun w => getLittle_c (s.extract i j) w (by omega) (by omega))
  have q1 : w.cell? ⟨b, 0, none⟩ = some (.string s) := cell_of_one hb
  clear hz
  generalize leL (s.extract i j).data.toList = N at *
  go_enter Tryd.func51, Tryd.ntmps51
  go_wp2_with fail
  refine (HG.out _).mono ?_
  rintro e w1 ⟨rfl, rfl⟩
  go_wp2
  go_ret
  exact ⟨rfl, rfl⟩
theorem reaches_c (b k : Nat) (w : World) : Calls Tryd.prog 53 #[.int .i64 k, .pointer (some ⟨b, 0, none⟩)] w fun e w' => e = .returned (.func (.func 54) #[] #[.pointer (some ⟨b, 0, none⟩), .pointer (some ⟨w.heap.size, 0, none⟩)]) ∧ w' = w.alloc (.cells #[.int .i64 k] 3) := by
  go_enter Tryd.func53, Tryd.ntmps53
  go_wp2
  go_ret
  exact ⟨rfl, rfl⟩
set_option maxRecDepth 100000 in
theorem reach_c (s : ByteArray) (b c k : Nat) (w : World) (hb : Blk w b 9 #[.string s]) (hc : Blk w c 3 #[.int .i64 k]) (hs : s.size ≤ 9223372036854775807) (hk : k ≤ 100) :
    Calls Tryd.prog 54 #[.pointer (some ⟨b, 0, none⟩), .pointer (some ⟨c, 0, none⟩)] w fun e w' => e = .returned (.int .i64 (if k ≤ s.size then 0 else 2)) ∧ w = w' := by
  have q1 : w.cell? ⟨b, 0, none⟩ = some (.string s) := cell_of_one hb
  have q2 : w.cell? ⟨c, 0, none⟩ = some (.int .i64 k) := cell_of_one hc
  have HU := Lib.hid (fun h w => unless_c h 2 w)
  by_cases h : k ≤ s.size
  · rw [if_pos h]
    have hd : decide ((k : Int) ≤ s.size) = true := decide_eq_true (by omega)
    go_enter Tryd.func54, Tryd.ntmps54
    go_wp2_with fail
    refine (HU.out _ _).mono ?_
    rintro e w1 ⟨rfl, rfl⟩
    go_wp2
    go_ret
    exact ⟨rfl, rfl⟩
  · rw [if_neg h]
    have hd : decide ((k : Int) ≤ s.size) = false := decide_eq_false (by omega)
    go_enter Tryd.func54, Tryd.ntmps54
    go_wp2_with fail
    refine (HU.out _ _).mono ?_
    rintro e w1 ⟨rfl, rfl⟩
    go_wp2
    go_ret
    exact ⟨rfl, rfl⟩
/-- Is it the magic number? -/
def nuF (b : Nat) : Value := .func (.func 51) #[] #[.pointer (some ⟨b, 0, none⟩)]
set_option maxRecDepth 100000 in
set_option maxHeartbeats 1000000 in
theorem magic_c (s : ByteArray) (b c d m : Nat) (w : World) (hb : Blk w b 9 #[.string s]) (hc : Blk w c 92 #[nuF b]) (hd : Blk w d 36 #[.int .u32 m]) (hm : m < 4294967296) (hs : s.size ≤ 9223372036854775807) (h4 : 4 ≤ s.size) :
    Calls Tryd.prog 56 #[.pointer (some ⟨c, 0, none⟩), .pointer (some ⟨d, 0, none⟩)] w fun e w' => e = .returned (.int .i64 (if leL (s.extract 0 4).data.toList = m then 0 else 9)) ∧ ∃ n, w' = w.drewN n := by
  have HN := Lib.hid (fun n => number_c s b 0 4 (w.drewN n) (hb.drewN n) (by omega) h4 (by omega) hs)
  have hlt := leL4_lt (s.extract 0 4) (size_cut _ _ _ (by omega))
  have q2 : w.cell? ⟨c, 0, none⟩ = some (nuF b) := cell_of_one hc
  have q3 : w.cell? ⟨d, 0, none⟩ = some (.int .u32 m) := cell_of_one hd
  have HU := Lib.hid (fun h w => unless_c h 9 w)
  unfold nuF at q2
  generalize leL (s.extract 0 4).data.toList = N at *
  by_cases h : N = m
  · rw [if_pos h]
    have hd : ((N : Int) == (m : Int)) = true := by rw [h]; simp
    clear h
    go_enter Tryd.func56, Tryd.ntmps56
    go_wp2_with fail
    go_quiet ((first | (go_at_call 51; with_reducible exact Calls.quiet_of_same' (HN.out _)) | (go_at_call 55; with_reducible exact Calls.quiet_of_same' (HU.out _ _))))
    go_wp2
    go_ret
    exact ⟨rfl, nq, rfl⟩
  · rw [if_neg h]
    have hd : ((N : Int) == (m : Int)) = false := beq_eq_false_iff_ne.2 (by omega)
    clear h
    go_enter Tryd.func56, Tryd.ntmps56
    go_wp2_with fail
    go_quiet ((first | (go_at_call 51; with_reducible exact Calls.quiet_of_same' (HN.out _)) | (go_at_call 55; with_reducible exact Calls.quiet_of_same' (HU.out _ _))))
    go_wp2
    go_ret
    exact ⟨rfl, nq, rfl⟩
set_option maxRecDepth 100000 in
set_option maxHeartbeats 1000000 in
theorem cname_c (s : ByteArray) (b nb : Nat) (v : Value) (w : World) (hb : Blk w b 9 #[.string s]) (hn : Blk w nb 9 #[v]) (hne : nb ≠ b) (hs : s.size ≤ 9223372036854775807) (h16 : 16 ≤ s.size) :
    Calls Tryd.prog 57 #[.pointer (some ⟨b, 0, none⟩), .pointer (some ⟨nb, 0, none⟩)] w fun e w' => e = .returned (.int .i64 (nmGet (s.extract 4 16)).1) ∧ w' = w.setCell ⟨nb, 0, none⟩ (.string (nmGet (s.extract 4 16)).2) := by
  have HG := Lib.hid (fun w => cmdGet_c (s.extract 4 16) w (by rw [size_cut _ _ _ h16]; omega))
  have q1 : w.cell? ⟨b, 0, none⟩ = some (.string s) := cell_of_one hb
  have q2 : w.cell? ⟨nb, 0, none⟩ = some v := cell_of_one hn
  have q3 : w.frozen? ⟨nb, 0, none⟩ = false := free_of_one hn
  have HU := Lib.hid (fun h w => unless_c h 3 w)
  rcases nmGet_cases (s.extract 4 16) with hg | ⟨t, hg⟩
  all_goals
    rw [hg] at HG ⊢
    clear hg
    go_enter Tryd.func57, Tryd.ntmps57
    go_wp2_with fail
    refine (HG.out _).mono ?_
    rintro e w1 ⟨rfl, rfl⟩
    go_wp2_with fail
    refine (HU.out _ _).mono ?_
    rintro e w1 ⟨rfl, rfl⟩
    go_wp2
    go_ret
    exact ⟨rfl, rfl⟩
set_option maxRecDepth 100000 in
set_option maxHeartbeats 1000000 in
theorem clen_c (s : ByteArray) (b c lb mb : Nat) (v : Value) (most : Int) (w : World) (hb : Blk w b 9 #[.string s]) (hc : Blk w c 92 #[nuF b]) (hl : Blk w lb 3 #[v]) (hm : Blk w mb 3 #[.int .i64 most]) (hne : lb ≠ mb) (hs : s.size ≤ 9223372036854775807) (h20 : 20 ≤ s.size) :
    Calls Tryd.prog 59 #[.pointer (some ⟨c, 0, none⟩), .pointer (some ⟨lb, 0, none⟩), .pointer (some ⟨mb, 0, none⟩)] w fun e w' => e = .returned (.int .i64 (if (leL (s.extract 16 20).data.toList : Int) ≤ most then 0 else 5)) ∧ w' = w.setCell ⟨lb, 0, none⟩ (.int .i64 (leL (s.extract 16 20).data.toList)) := by
  have HN := Lib.hid (fun (_ : Unit) => number_c s b 16 20 w hb (by omega) h20 (by omega) hs)
  have hlt := leL4_lt (s.extract 16 20) (size_cut _ _ _ (by omega))
  have q2 : w.cell? ⟨c, 0, none⟩ = some (nuF b) := cell_of_one hc
  have q3 : w.cell? ⟨mb, 0, none⟩ = some (.int .i64 most) := cell_of_one hm
  have q4 : w.cell? ⟨lb, 0, none⟩ = some v := cell_of_one hl
  have q5 : w.frozen? ⟨lb, 0, none⟩ = false := free_of_one hl
  have HU := Lib.hid (fun h w => unless_c h 5 w)
  unfold nuF at q2
  have hne2 : (lb = mb) = False := eq_false hne
  have hne3 : (mb = lb) = False := eq_false hne.symm
  clear hne
  generalize leL (s.extract 16 20).data.toList = N at *
  by_cases h : (N : Int) ≤ most
  · rw [if_pos h]
    have hd : decide ((N : Int) ≤ most) = true := decide_eq_true h
    clear h
    go_enter Tryd.func59, Tryd.ntmps59
    go_wp2_with fail
    refine (HN.out ()).mono ?_
    rintro e w1 ⟨rfl, rfl⟩
    go_wp2_with fail
    refine (HU.out _ _).mono ?_
    rintro e w1 ⟨rfl, rfl⟩
    go_wp2
    go_ret
    exact ⟨rfl, rfl⟩
  · rw [if_neg h]
    have hd : decide ((N : Int) ≤ most) = false := decide_eq_false h
    clear h
    go_enter Tryd.func59, Tryd.ntmps59
    go_wp2_with fail
    refine (HN.out ()).mono ?_
    rintro e w1 ⟨rfl, rfl⟩
    go_wp2_with fail
    refine (HU.out _ _).mono ?_
    rintro e w1 ⟨rfl, rfl⟩
    go_wp2
    go_ret
    exact ⟨rfl, rfl⟩
set_option maxRecDepth 100000 in
set_option maxHeartbeats 1000000 in
theorem crest_c (s : ByteArray) (b lb N : Nat) (w : World) (hb : Blk w b 9 #[.string s]) (hl : Blk w lb 3 #[.int .i64 N]) (hs : s.size ≤ 9223372036854775807) (hN : N < 4294967296) :
    Calls Tryd.prog 60 #[.pointer (some ⟨b, 0, none⟩), .pointer (some ⟨lb, 0, none⟩)] w fun e w' => e = .returned (.int .i64 (if 24 + N ≤ s.size then 0 else 2)) ∧ w = w' := by
  have q1 : w.cell? ⟨b, 0, none⟩ = some (.string s) := cell_of_one hb
  have q2 : w.cell? ⟨lb, 0, none⟩ = some (.int .i64 N) := cell_of_one hl
  have HU := Lib.hid (fun h w => unless_c h 2 w)
  by_cases h : 24 + N ≤ s.size
  · rw [if_pos h]
    have hd : decide ((N : Int) ≤ (s.size : Int) - 24) = true := decide_eq_true (by omega)
    clear h
    go_enter Tryd.func60, Tryd.ntmps60
    go_wp2_with fail
    refine (HU.out _ _).mono ?_
    rintro e w1 ⟨rfl, rfl⟩
    go_wp2
    go_ret
    exact ⟨rfl, rfl⟩
  · rw [if_neg h]
    have hd : decide ((N : Int) ≤ (s.size : Int) - 24) = false := decide_eq_false (by omega)
    clear h
    go_enter Tryd.func60, Tryd.ntmps60
    go_wp2_with fail
    refine (HU.out _ _).mono ?_
    rintro e w1 ⟨rfl, rfl⟩
    go_wp2
    go_ret
    exact ⟨rfl, rfl⟩
set_option maxRecDepth 100000 in
set_option maxHeartbeats 1000000 in
theorem csum_c (s : ByteArray) (b lb N : Nat) (w : World) (hb : Blk w b 9 #[.string s]) (hl : Blk w lb 3 #[.int .i64 N]) (hs : s.size ≤ 100000) (hN : 24 + N ≤ s.size) :
    Calls Tryd.prog 61 #[.pointer (some ⟨b, 0, none⟩), .pointer (some ⟨lb, 0, none⟩)] w fun e w' => e = .returned (.int .i64 (if shChk (s.extract 24 (24 + N)) = s.extract 20 24 then 0 else 10)) ∧ Below w.heap.size w w' := by
  have q1 : w.cell? ⟨b, 0, none⟩ = some (.string s) := cell_of_one hb
  have q2 : w.cell? ⟨lb, 0, none⟩ = some (.int .i64 N) := cell_of_one hl
  have l1 := hb.lt
  have l2 := hl.lt
  have HC := Lib.hid (fun w => chkFits_c (s.extract 24 (24 + N)) (s.extract 20 24) w (by rw [size_cut _ _ _ hN]; omega))
  have HU := Lib.hid (fun h w => (unless_c h 10 w).mono (R' := fun e' w' => e' = .returned (.int .i64 (if h then 0 else 10)) ∧ Below w.heap.size w w') fun e w' h => ⟨h.1, by rw [← h.2]; exact Below.refl _ _⟩)
  have HE : Hid ((if decide (shChk (s.extract 24 (24 + N)) = s.extract 20 24) = true then (0 : Int) else 10) = if shChk (s.extract 24 (24 + N)) = s.extract 20 24 then 0 else 10) := Lib.hid (by simp)
  rw [← HE.out]
  generalize decide (shChk (s.extract 24 (24 + N)) = s.extract 20 24) = D at *
  clear HE
  have HNI : (24 : Int) + N ≤ s.size := by omega
  have HUD := Lib.hid (HU.out D)
  clear HU
  generalize (if D = true then (0 : Int) else 10) = r at *
  have p0 : (0 : Int) ≤ 24 + N := by omega
  have p1 : (24 : Int) ≤ 24 + N := by omega
  have p3 : (24 : Int) ≤ s.size := by omega
  have p4 : IntKind.i64.wrap (24 + (N : Int)) = 24 + N := IntWalk.i64_in _ (by omega)
  have p5 : (24 + (N : Int)).toNat = 24 + N := by omega
  go_enter Tryd.func61, Tryd.ntmps61
  go_wp2_with fail
  refine wp_region_below (by kernel_rfl) (by kernel_rfl) ?_
  refine wpQuiet_run (.string s) (by rfl) (fun w' hw' => by have q := (hw'.cell (p := ⟨b, 0, none⟩) (by simpa using by assumption)).trans q1; go_simp) ?_
  simp only [Act.put, List.setIfInBounds_toArray, List.set_cons_zero, List.set_cons_succ]
  refine wpQuiet_run (.int .i64 N) (by rfl) (fun w' hw' => by have q := (hw'.cell (p := ⟨lb, 0, none⟩) (by simpa using by assumption)).trans q2; go_simp) ?_
  simp only [Act.put, List.setIfInBounds_toArray, List.set_cons_zero, List.set_cons_succ]
  refine wpQuiet_run (.int .i64 (24 + N)) (by rfl) (fun _ _ => by first | rfl | go_simp) ?_
  simp only [Act.put, List.setIfInBounds_toArray, List.set_cons_zero, List.set_cons_succ]
  refine wpQuiet_run (.string (s.extract 24 (24 + N))) (by rfl) (fun _ _ => by first | rfl | go_simp) ?_
  simp only [Act.put, List.setIfInBounds_toArray, List.set_cons_zero, List.set_cons_succ]
  refine wpQuiet_run (.string s) (by rfl) (fun w' hw' => by have q := (hw'.cell (p := ⟨b, 0, none⟩) (by simpa using by assumption)).trans q1; go_simp) ?_
  simp only [Act.put, List.setIfInBounds_toArray, List.set_cons_zero, List.set_cons_succ]
  refine wpQuiet_run (.string (s.extract 20 24)) (by rfl) (fun _ _ => by first | rfl | go_simp) ?_
  simp only [Act.put, List.setIfInBounds_toArray, List.set_cons_zero, List.set_cons_succ]
  refine wpQuiet_callB 62 _ _ (by rfl) (fun _ => by first | rfl | go_simp) (fun w _ => HC.out _) ?_
  simp only [Act.put, List.setIfInBounds_toArray, List.set_cons_zero, List.set_cons_succ]
  refine wpQuiet_callB 55 _ _ (by rfl) (fun _ => by first | rfl | go_simp) (fun w _ => HUD.out _) ?_
  simp only [Act.put, List.setIfInBounds_toArray, List.set_cons_zero, List.set_cons_succ]
  refine wpQuiet_run (.int .i64 r) (by rfl) (fun _ _ => by first | rfl | go_simp) ?_
  simp only [Act.put, List.setIfInBounds_toArray, List.set_cons_zero, List.set_cons_succ]
  refine wpQuiet_nil ?_
  intro w2 hw2
  go_wp2
  go_ret
  exact ⟨rfl, hw2⟩
end Go.Proofs.YtacikiambpfipaaDoor
