/- The document's frames: Next. -/
import Derived.Test.YtacikiambpfipaaDoorCoin
import Derived.Test.YtacikiambpfipaaDoorBufR
namespace Go.Proofs.YtacikiambpfipaaDoor
set_option linter.unusedVariables false
set_option linter.unusedSimpArgs false
open Go.RowKit

def cnRet (r : Int × ByteArray × ByteArray × Nat) : Value := .tuple #[.agg #[.int .u64 0, .string r.2.1, .string r.2.2.1], .int .i64 r.2.2.2, .int .i64 r.1]
theorem cset3 {w : World} {g : Nat} {t : TypeId} {z0 z1 z2 : Value} (h : Blk w g t #[z0, z1, z2]) (v0 v1 v2 : Value) : Blk (((w.setCell ⟨g, 0, none⟩ v0).setCell ⟨g, 1, none⟩ v1).setCell ⟨g, 2, none⟩ v2) g t #[v0, v1, v2] := ((h.set 0 v0).set 1 v1).set 2 v2
theorem below3 {B : Nat} {w w' : World} (h : Below B w w') {g : Nat} (hg : B ≤ g) (v0 v1 v2 : Value) : Below B w (((w'.setCell ⟨g, 0, none⟩ v0).setCell ⟨g, 1, none⟩ v1).setCell ⟨g, 2, none⟩ v2) :=
  ((h.setCell (by simpa using hg) _).setCell (by simpa using hg) _).setCell (by simpa using hg) _
set_option maxRecDepth 100000 in
set_option maxHeartbeats 2000000 in
theorem ref14Next_c (m : Nat) (most : Int) (s : ByteArray) (w : World) (hm : m < 4294967296) (hs : s.size ≤ 90000) (hmo : -9223372036854775808 ≤ most ∧ most ≤ 9223372036854775807) :
    Calls Tryd.prog 22 #[keyV, .int .u32 m, .int .i64 most, .string s] w fun e w' => e = .returned (cnRet (cnNext m most s)) ∧ Below w.heap.size w w' := by
  have HI := Lib.hid (info_key' 64)
  unfold keyV
  obtain ⟨KL, hKL⟩ : ∃ KL, kC 64 = KL := ⟨_, rfl⟩
  rw [hKL] at HI ⊢
  have HKL := Lib.hid hKL
  clear hKL
  by_cases h1 : s.size < 4
  · have HR : Hid (cnNext m most s = (2, ByteArray.empty, ByteArray.empty, 0)) := Lib.hid (by rw [cnNext_eq, if_pos h1])
    go_enter Tryd.func22, Tryd.ntmps22
    go_wp2
    refine bodyPost_ret (v := .tuple #[.agg #[.int .u64 0, .string ⟨#[]⟩, .string ⟨#[]⟩], .int .i64 0, .int .i64 2]) (by simp [results, Tryd.results22, go_sem]) rfl ?_
    rw [HR.out]
    exact ⟨rfl, (by repeat (first | exact Below.refl _ _ | assumption | with_reducible refine Below.drewN' ?_ _ | with_reducible refine Below.drew ?_ | ((with_reducible refine Below.alloc' ?_ ?_ _); · (first | omega | (simp <;> omega)))))⟩
  have L1 := Lib.hid (fun w => refLe_c m w hm)
  have e1 : IntKind.u64.wrap (m : Int) = m := IntWalk.u64_in _ (by omega)
  have hA : Hid (cnNext m most s = _) := Lib.hid (by rw [cnNext_eq, if_neg h1])
  have hg := nmGet_cases (s.extract 4 16)
  rcases str_ways (s.extract 0 4) (le4 m) with ⟨q1, q2, q3⟩ | ⟨q1, q2, q3⟩
  · rw [if_neg (by simpa using q1)] at hA
    clear q1
    generalize le4 m = a at *
    by_cases h3 : s.size < 16
    · have HR : Hid (cnNext m most s = (2, ByteArray.empty, ByteArray.empty, 0)) := Lib.hid (by rw [hA.out, if_pos h3])
      clear hA
      go_enter Tryd.func22, Tryd.ntmps22
      go_wp2
      obtain ⟨W0, hW0⟩ : ∃ W0, (w.alloc (.cells KL 48)).alloc (.cells #[.int .u64 0, .string ⟨#[]⟩, .string ⟨#[]⟩] 41) = W0 := ⟨_, rfl⟩
      have HBW : Hid (Below w.heap.size w W0) := Lib.hid (by rw [← hW0]; exact (by repeat (first | exact Below.refl _ _ | assumption | with_reducible refine Below.drewN' ?_ _ | with_reducible refine Below.drew ?_ | ((with_reducible refine Below.alloc' ?_ ?_ _); · (first | omega | (simp <;> omega))))))
      have HK0 : Hid (Blk W0 w.heap.size 48 KL) := Lib.hid (by rw [← hW0]; exact (Blk.new w _ _).alloc _)
      have HF0 : Hid (Blk W0 (w.heap.size + 1) 41 #[.int .u64 0, .string ⟨#[]⟩, .string ⟨#[]⟩]) := Lib.hid (by rw [← hW0]; have := Blk.new (w.alloc (.cells KL 48)) 41 #[.int .u64 0, .string ⟨#[]⟩, .string ⟨#[]⟩]; simpa using this)
      rw [hW0]
      clear hW0
      refine wp_region_below (by kernel_rfl) (by kernel_rfl) ?_
      refine wpQuiet_run (.string s) (by rfl) (fun _ _ => by first | rfl | go_simp) ?_
      simp only [Act.put, List.setIfInBounds_toArray, List.set_cons_zero, List.set_cons_succ]
      refine wpQuiet_run (.string (s.extract 0 4)) (by rfl) (fun _ _ => by first | rfl | go_simp) ?_
      simp only [Act.put, List.setIfInBounds_toArray, List.set_cons_zero, List.set_cons_succ]
      refine wpQuiet_run (.int .u32 m) (by rfl) (fun _ _ => by first | rfl | go_simp) ?_
      simp only [Act.put, List.setIfInBounds_toArray, List.set_cons_zero, List.set_cons_succ]
      refine wpQuiet_run (.int .u64 m) (by rfl) (fun _ _ => by first | rfl | go_simp) ?_
      simp only [Act.put, List.setIfInBounds_toArray, List.set_cons_zero, List.set_cons_succ]
      refine wpQuiet_callB 63 _ _ (by rfl) (fun _ => by first | rfl | go_simp) (fun w _ => L1.out _) ?_
      simp only [Act.put, List.setIfInBounds_toArray, List.set_cons_zero, List.set_cons_succ]
      refine wpQuiet_run (.bool false) (by rfl) (fun _ _ => by first | rfl | go_simp) ?_
      simp only [Act.put, List.setIfInBounds_toArray, List.set_cons_zero, List.set_cons_succ]
      refine wpQuiet_nil ?_
      intro w2 hw2
      have HB2 : Hid (Below w.heap.size w w2) := Lib.hid (HBW.out.trans (hw2.mono HBW.out.size))
      have HK2 : Hid (Blk w2 w.heap.size 48 KL) := Lib.hid ((hw2.block _ HK0.out.lt).trans HK0.out)
      have HF2 : Hid (Blk w2 (w.heap.size + 1) 41 #[.int .u64 0, .string ⟨#[]⟩, .string ⟨#[]⟩]) := Lib.hid ((hw2.block _ HF0.out.lt).trans HF0.out)
      clear hw2 HBW HK0 HF0 e1 q2 q3 W0
      obtain ⟨g0, g1, g2, f0, f1, f2⟩ := blk3 HF2.out
      go_wp2
      have HC3 := Lib.hid (cset3 HF2.out (.int .u64 0) (.string ⟨#[]⟩) (.string ⟨#[]⟩))
      obtain ⟨c0, c1, c2, _, _, _⟩ := blk3 HC3.out
      refine bodyPost_ret (v := .tuple #[.agg #[.int .u64 0, .string ⟨#[]⟩, .string ⟨#[]⟩], .int .i64 0, .int .i64 2]) (by simp [results, Tryd.results22, go_sem, c0, c1, c2]) rfl ?_
      rw [HR.out]
      exact ⟨rfl, below3 HB2.out (by omega) _ _ _⟩
    rw [if_neg h3] at hA
    have HG := Lib.hid (fun w => refGetN_c (s.extract 4 16) w (by rw [size_cut _ _ _ (by omega)]; omega))
    rcases hg with hg | ⟨t, hg⟩
    · have HR : Hid (cnNext m most s = (3, ByteArray.empty, ByteArray.empty, 0)) := Lib.hid (by rw [hA.out, if_pos (by rw [hg]; simp)])
      rw [hg] at HG
      clear hA hg
      go_enter Tryd.func22, Tryd.ntmps22
      go_wp2
      obtain ⟨W0, hW0⟩ : ∃ W0, (w.alloc (.cells KL 48)).alloc (.cells #[.int .u64 0, .string ⟨#[]⟩, .string ⟨#[]⟩] 41) = W0 := ⟨_, rfl⟩
      have HBW : Hid (Below w.heap.size w W0) := Lib.hid (by rw [← hW0]; exact (by repeat (first | exact Below.refl _ _ | assumption | with_reducible refine Below.drewN' ?_ _ | with_reducible refine Below.drew ?_ | ((with_reducible refine Below.alloc' ?_ ?_ _); · (first | omega | (simp <;> omega))))))
      have HK0 : Hid (Blk W0 w.heap.size 48 KL) := Lib.hid (by rw [← hW0]; exact (Blk.new w _ _).alloc _)
      have HF0 : Hid (Blk W0 (w.heap.size + 1) 41 #[.int .u64 0, .string ⟨#[]⟩, .string ⟨#[]⟩]) := Lib.hid (by rw [← hW0]; have := Blk.new (w.alloc (.cells KL 48)) 41 #[.int .u64 0, .string ⟨#[]⟩, .string ⟨#[]⟩]; simpa using this)
      rw [hW0]
      clear hW0
      refine wp_region_below (by kernel_rfl) (by kernel_rfl) ?_
      refine wpQuiet_run (.string s) (by rfl) (fun _ _ => by first | rfl | go_simp) ?_
      simp only [Act.put, List.setIfInBounds_toArray, List.set_cons_zero, List.set_cons_succ]
      refine wpQuiet_run (.string (s.extract 0 4)) (by rfl) (fun _ _ => by first | rfl | go_simp) ?_
      simp only [Act.put, List.setIfInBounds_toArray, List.set_cons_zero, List.set_cons_succ]
      refine wpQuiet_run (.int .u32 m) (by rfl) (fun _ _ => by first | rfl | go_simp) ?_
      simp only [Act.put, List.setIfInBounds_toArray, List.set_cons_zero, List.set_cons_succ]
      refine wpQuiet_run (.int .u64 m) (by rfl) (fun _ _ => by first | rfl | go_simp) ?_
      simp only [Act.put, List.setIfInBounds_toArray, List.set_cons_zero, List.set_cons_succ]
      refine wpQuiet_callB 63 _ _ (by rfl) (fun _ => by first | rfl | go_simp) (fun w _ => L1.out _) ?_
      simp only [Act.put, List.setIfInBounds_toArray, List.set_cons_zero, List.set_cons_succ]
      refine wpQuiet_run (.bool false) (by rfl) (fun _ _ => by first | rfl | go_simp) ?_
      simp only [Act.put, List.setIfInBounds_toArray, List.set_cons_zero, List.set_cons_succ]
      refine wpQuiet_nil ?_
      intro w2 hw2
      have HB2 : Hid (Below w.heap.size w w2) := Lib.hid (HBW.out.trans (hw2.mono HBW.out.size))
      have HK2 : Hid (Blk w2 w.heap.size 48 KL) := Lib.hid ((hw2.block _ HK0.out.lt).trans HK0.out)
      have HF2 : Hid (Blk w2 (w.heap.size + 1) 41 #[.int .u64 0, .string ⟨#[]⟩, .string ⟨#[]⟩]) := Lib.hid ((hw2.block _ HF0.out.lt).trans HF0.out)
      clear hw2 HBW HK0 HF0 e1 q2 q3 W0
      obtain ⟨g0, g1, g2, f0, f1, f2⟩ := blk3 HF2.out
      go_wp2_with fail
      refine (HG.out _).mono ?_
      rintro e w3 ⟨rfl, rfl⟩
      go_wp2
      have HC3 := Lib.hid (cset3 HF2.out (.int .u64 0) (.string ⟨#[]⟩) (.string ⟨#[]⟩))
      obtain ⟨c0, c1, c2, _, _, _⟩ := blk3 HC3.out
      refine bodyPost_ret (v := .tuple #[.agg #[.int .u64 0, .string ⟨#[]⟩, .string ⟨#[]⟩], .int .i64 0, .int .i64 3]) (by simp [results, Tryd.results22, go_sem, c0, c1, c2]) rfl ?_
      rw [HR.out]
      exact ⟨rfl, below3 HB2.out (by omega) _ _ _⟩
    rw [hg] at HG
    rw [if_neg (by rw [hg]; simp), hg] at hA
    clear hg
    dsimp only at hA
    by_cases h5 : s.size < 20
    · have HR : Hid (cnNext m most s = (2, ByteArray.empty, ByteArray.empty, 0)) := Lib.hid (by rw [hA.out, if_pos h5])
      clear hA
      go_enter Tryd.func22, Tryd.ntmps22
      go_wp2
      obtain ⟨W0, hW0⟩ : ∃ W0, (w.alloc (.cells KL 48)).alloc (.cells #[.int .u64 0, .string ⟨#[]⟩, .string ⟨#[]⟩] 41) = W0 := ⟨_, rfl⟩
      have HBW : Hid (Below w.heap.size w W0) := Lib.hid (by rw [← hW0]; exact (by repeat (first | exact Below.refl _ _ | assumption | with_reducible refine Below.drewN' ?_ _ | with_reducible refine Below.drew ?_ | ((with_reducible refine Below.alloc' ?_ ?_ _); · (first | omega | (simp <;> omega))))))
      have HK0 : Hid (Blk W0 w.heap.size 48 KL) := Lib.hid (by rw [← hW0]; exact (Blk.new w _ _).alloc _)
      have HF0 : Hid (Blk W0 (w.heap.size + 1) 41 #[.int .u64 0, .string ⟨#[]⟩, .string ⟨#[]⟩]) := Lib.hid (by rw [← hW0]; have := Blk.new (w.alloc (.cells KL 48)) 41 #[.int .u64 0, .string ⟨#[]⟩, .string ⟨#[]⟩]; simpa using this)
      rw [hW0]
      clear hW0
      refine wp_region_below (by kernel_rfl) (by kernel_rfl) ?_
      refine wpQuiet_run (.string s) (by rfl) (fun _ _ => by first | rfl | go_simp) ?_
      simp only [Act.put, List.setIfInBounds_toArray, List.set_cons_zero, List.set_cons_succ]
      refine wpQuiet_run (.string (s.extract 0 4)) (by rfl) (fun _ _ => by first | rfl | go_simp) ?_
      simp only [Act.put, List.setIfInBounds_toArray, List.set_cons_zero, List.set_cons_succ]
      refine wpQuiet_run (.int .u32 m) (by rfl) (fun _ _ => by first | rfl | go_simp) ?_
      simp only [Act.put, List.setIfInBounds_toArray, List.set_cons_zero, List.set_cons_succ]
      refine wpQuiet_run (.int .u64 m) (by rfl) (fun _ _ => by first | rfl | go_simp) ?_
      simp only [Act.put, List.setIfInBounds_toArray, List.set_cons_zero, List.set_cons_succ]
      refine wpQuiet_callB 63 _ _ (by rfl) (fun _ => by first | rfl | go_simp) (fun w _ => L1.out _) ?_
      simp only [Act.put, List.setIfInBounds_toArray, List.set_cons_zero, List.set_cons_succ]
      refine wpQuiet_run (.bool false) (by rfl) (fun _ _ => by first | rfl | go_simp) ?_
      simp only [Act.put, List.setIfInBounds_toArray, List.set_cons_zero, List.set_cons_succ]
      refine wpQuiet_nil ?_
      intro w2 hw2
      have HB2 : Hid (Below w.heap.size w w2) := Lib.hid (HBW.out.trans (hw2.mono HBW.out.size))
      have HK2 : Hid (Blk w2 w.heap.size 48 KL) := Lib.hid ((hw2.block _ HK0.out.lt).trans HK0.out)
      have HF2 : Hid (Blk w2 (w.heap.size + 1) 41 #[.int .u64 0, .string ⟨#[]⟩, .string ⟨#[]⟩]) := Lib.hid ((hw2.block _ HF0.out.lt).trans HF0.out)
      clear hw2 HBW HK0 HF0 e1 q2 q3 W0
      obtain ⟨g0, g1, g2, f0, f1, f2⟩ := blk3 HF2.out
      go_wp2_with fail
      refine (HG.out _).mono ?_
      rintro e w3 ⟨rfl, rfl⟩
      go_wp2
      have HC3 := Lib.hid (cset3 HF2.out (.int .u64 0) (.string ⟨#[]⟩) (.string ⟨#[]⟩))
      obtain ⟨c0, c1, c2, _, _, _⟩ := blk3 HC3.out
      refine bodyPost_ret (v := .tuple #[.agg #[.int .u64 0, .string ⟨#[]⟩, .string ⟨#[]⟩], .int .i64 0, .int .i64 2]) (by simp [results, Tryd.results22, go_sem, c0, c1, c2]) rfl ?_
      rw [HR.out]
      exact ⟨rfl, below3 HB2.out (by omega) _ _ _⟩
    rw [if_neg h5] at hA
    have hzc : (s.extract 16 20).size = 4 := size_cut _ _ _ (by omega)
    have hlt := leL4_lt (s.extract 16 20) hzc
    have HT := Lib.hid (fun w => refTurned_c (s.extract 16 20) w (by omega))
    have HN := Lib.hid (fun w => refNumber_c ⟨(s.extract 16 20).data.toList.reverse.toArray⟩ w (by rw [size_of, List.length_reverse, toList_size]; omega))
    have hbe : beL (⟨(s.extract 16 20).data.toList.reverse.toArray⟩ : ByteArray).data.toList = leL (s.extract 16 20).data.toList := by simp [beL]
    rw [hbe] at HN
    clear hbe hzc
    generalize leL (s.extract 16 20).data.toList = N at *
    generalize (⟨(s.extract 16 20).data.toList.reverse.toArray⟩ : ByteArray) = T at *
    by_cases h6 : most < N
    · have HR : Hid (cnNext m most s = (5, ByteArray.empty, ByteArray.empty, 0)) := Lib.hid (by rw [hA.out, if_pos h6])
      clear hA
      go_enter Tryd.func22, Tryd.ntmps22
      go_wp2
      obtain ⟨W0, hW0⟩ : ∃ W0, (w.alloc (.cells KL 48)).alloc (.cells #[.int .u64 0, .string ⟨#[]⟩, .string ⟨#[]⟩] 41) = W0 := ⟨_, rfl⟩
      have HBW : Hid (Below w.heap.size w W0) := Lib.hid (by rw [← hW0]; exact (by repeat (first | exact Below.refl _ _ | assumption | with_reducible refine Below.drewN' ?_ _ | with_reducible refine Below.drew ?_ | ((with_reducible refine Below.alloc' ?_ ?_ _); · (first | omega | (simp <;> omega))))))
      have HK0 : Hid (Blk W0 w.heap.size 48 KL) := Lib.hid (by rw [← hW0]; exact (Blk.new w _ _).alloc _)
      have HF0 : Hid (Blk W0 (w.heap.size + 1) 41 #[.int .u64 0, .string ⟨#[]⟩, .string ⟨#[]⟩]) := Lib.hid (by rw [← hW0]; have := Blk.new (w.alloc (.cells KL 48)) 41 #[.int .u64 0, .string ⟨#[]⟩, .string ⟨#[]⟩]; simpa using this)
      rw [hW0]
      clear hW0
      refine wp_region_below (by kernel_rfl) (by kernel_rfl) ?_
      refine wpQuiet_run (.string s) (by rfl) (fun _ _ => by first | rfl | go_simp) ?_
      simp only [Act.put, List.setIfInBounds_toArray, List.set_cons_zero, List.set_cons_succ]
      refine wpQuiet_run (.string (s.extract 0 4)) (by rfl) (fun _ _ => by first | rfl | go_simp) ?_
      simp only [Act.put, List.setIfInBounds_toArray, List.set_cons_zero, List.set_cons_succ]
      refine wpQuiet_run (.int .u32 m) (by rfl) (fun _ _ => by first | rfl | go_simp) ?_
      simp only [Act.put, List.setIfInBounds_toArray, List.set_cons_zero, List.set_cons_succ]
      refine wpQuiet_run (.int .u64 m) (by rfl) (fun _ _ => by first | rfl | go_simp) ?_
      simp only [Act.put, List.setIfInBounds_toArray, List.set_cons_zero, List.set_cons_succ]
      refine wpQuiet_callB 63 _ _ (by rfl) (fun _ => by first | rfl | go_simp) (fun w _ => L1.out _) ?_
      simp only [Act.put, List.setIfInBounds_toArray, List.set_cons_zero, List.set_cons_succ]
      refine wpQuiet_run (.bool false) (by rfl) (fun _ _ => by first | rfl | go_simp) ?_
      simp only [Act.put, List.setIfInBounds_toArray, List.set_cons_zero, List.set_cons_succ]
      refine wpQuiet_nil ?_
      intro w2 hw2
      have HB2 : Hid (Below w.heap.size w w2) := Lib.hid (HBW.out.trans (hw2.mono HBW.out.size))
      have HK2 : Hid (Blk w2 w.heap.size 48 KL) := Lib.hid ((hw2.block _ HK0.out.lt).trans HK0.out)
      have HF2 : Hid (Blk w2 (w.heap.size + 1) 41 #[.int .u64 0, .string ⟨#[]⟩, .string ⟨#[]⟩]) := Lib.hid ((hw2.block _ HF0.out.lt).trans HF0.out)
      clear hw2 HBW HK0 HF0 e1 q2 q3 W0
      obtain ⟨g0, g1, g2, f0, f1, f2⟩ := blk3 HF2.out
      go_wp2_with fail
      refine (HG.out _).mono ?_
      rintro e w3 ⟨rfl, rfl⟩
      go_wp2_with fail
      refine (HT.out _).mono ?_
      rintro e w3 ⟨rfl, rfl⟩
      go_wp2_with fail
      refine (HN.out _).mono ?_
      rintro e w3 ⟨rfl, rfl⟩
      go_wp2_with fail
      have HC3 := Lib.hid (cset3 HF2.out (.int .u64 0) (.string ⟨#[]⟩) (.string ⟨#[]⟩))
      obtain ⟨c0, c1, c2, _, _, _⟩ := blk3 HC3.out
      refine bodyPost_ret (v := .tuple #[.agg #[.int .u64 0, .string ⟨#[]⟩, .string ⟨#[]⟩], .int .i64 0, .int .i64 5]) (by simp [results, Tryd.results22, go_sem, c0, c1, c2]) rfl ?_
      rw [HR.out]
      exact ⟨rfl, below3 HB2.out (by omega) _ _ _⟩
    rw [if_neg h6] at hA
    by_cases h7 : s.size < 24
    · have HR : Hid (cnNext m most s = (2, ByteArray.empty, ByteArray.empty, 0)) := Lib.hid (by rw [hA.out, if_pos (by omega)])
      clear hA
      go_enter Tryd.func22, Tryd.ntmps22
      go_wp2
      obtain ⟨W0, hW0⟩ : ∃ W0, (w.alloc (.cells KL 48)).alloc (.cells #[.int .u64 0, .string ⟨#[]⟩, .string ⟨#[]⟩] 41) = W0 := ⟨_, rfl⟩
      have HBW : Hid (Below w.heap.size w W0) := Lib.hid (by rw [← hW0]; exact (by repeat (first | exact Below.refl _ _ | assumption | with_reducible refine Below.drewN' ?_ _ | with_reducible refine Below.drew ?_ | ((with_reducible refine Below.alloc' ?_ ?_ _); · (first | omega | (simp <;> omega))))))
      have HK0 : Hid (Blk W0 w.heap.size 48 KL) := Lib.hid (by rw [← hW0]; exact (Blk.new w _ _).alloc _)
      have HF0 : Hid (Blk W0 (w.heap.size + 1) 41 #[.int .u64 0, .string ⟨#[]⟩, .string ⟨#[]⟩]) := Lib.hid (by rw [← hW0]; have := Blk.new (w.alloc (.cells KL 48)) 41 #[.int .u64 0, .string ⟨#[]⟩, .string ⟨#[]⟩]; simpa using this)
      rw [hW0]
      clear hW0
      refine wp_region_below (by kernel_rfl) (by kernel_rfl) ?_
      refine wpQuiet_run (.string s) (by rfl) (fun _ _ => by first | rfl | go_simp) ?_
      simp only [Act.put, List.setIfInBounds_toArray, List.set_cons_zero, List.set_cons_succ]
      refine wpQuiet_run (.string (s.extract 0 4)) (by rfl) (fun _ _ => by first | rfl | go_simp) ?_
      simp only [Act.put, List.setIfInBounds_toArray, List.set_cons_zero, List.set_cons_succ]
      refine wpQuiet_run (.int .u32 m) (by rfl) (fun _ _ => by first | rfl | go_simp) ?_
      simp only [Act.put, List.setIfInBounds_toArray, List.set_cons_zero, List.set_cons_succ]
      refine wpQuiet_run (.int .u64 m) (by rfl) (fun _ _ => by first | rfl | go_simp) ?_
      simp only [Act.put, List.setIfInBounds_toArray, List.set_cons_zero, List.set_cons_succ]
      refine wpQuiet_callB 63 _ _ (by rfl) (fun _ => by first | rfl | go_simp) (fun w _ => L1.out _) ?_
      simp only [Act.put, List.setIfInBounds_toArray, List.set_cons_zero, List.set_cons_succ]
      refine wpQuiet_run (.bool false) (by rfl) (fun _ _ => by first | rfl | go_simp) ?_
      simp only [Act.put, List.setIfInBounds_toArray, List.set_cons_zero, List.set_cons_succ]
      refine wpQuiet_nil ?_
      intro w2 hw2
      have HB2 : Hid (Below w.heap.size w w2) := Lib.hid (HBW.out.trans (hw2.mono HBW.out.size))
      have HK2 : Hid (Blk w2 w.heap.size 48 KL) := Lib.hid ((hw2.block _ HK0.out.lt).trans HK0.out)
      have HF2 : Hid (Blk w2 (w.heap.size + 1) 41 #[.int .u64 0, .string ⟨#[]⟩, .string ⟨#[]⟩]) := Lib.hid ((hw2.block _ HF0.out.lt).trans HF0.out)
      clear hw2 HBW HK0 HF0 e1 q2 q3 W0
      obtain ⟨g0, g1, g2, f0, f1, f2⟩ := blk3 HF2.out
      go_wp2_with fail
      refine (HG.out _).mono ?_
      rintro e w3 ⟨rfl, rfl⟩
      go_wp2_with fail
      refine (HT.out _).mono ?_
      rintro e w3 ⟨rfl, rfl⟩
      go_wp2_with fail
      refine (HN.out _).mono ?_
      rintro e w3 ⟨rfl, rfl⟩
      go_wp2_with fail
      have HC3 := Lib.hid (cset3 HF2.out (.int .u64 0) (.string ⟨#[]⟩) (.string ⟨#[]⟩))
      obtain ⟨c0, c1, c2, _, _, _⟩ := blk3 HC3.out
      refine bodyPost_ret (v := .tuple #[.agg #[.int .u64 0, .string ⟨#[]⟩, .string ⟨#[]⟩], .int .i64 0, .int .i64 2]) (by simp [results, Tryd.results22, go_sem, c0, c1, c2]) rfl ?_
      rw [HR.out]
      exact ⟨rfl, below3 HB2.out (by omega) _ _ _⟩
    by_cases h8 : s.size < 24 + N
    · have HR : Hid (cnNext m most s = (2, ByteArray.empty, ByteArray.empty, 0)) := Lib.hid (by rw [hA.out, if_pos (by omega)])
      clear hA
      go_enter Tryd.func22, Tryd.ntmps22
      go_wp2
      obtain ⟨W0, hW0⟩ : ∃ W0, (w.alloc (.cells KL 48)).alloc (.cells #[.int .u64 0, .string ⟨#[]⟩, .string ⟨#[]⟩] 41) = W0 := ⟨_, rfl⟩
      have HBW : Hid (Below w.heap.size w W0) := Lib.hid (by rw [← hW0]; exact (by repeat (first | exact Below.refl _ _ | assumption | with_reducible refine Below.drewN' ?_ _ | with_reducible refine Below.drew ?_ | ((with_reducible refine Below.alloc' ?_ ?_ _); · (first | omega | (simp <;> omega))))))
      have HK0 : Hid (Blk W0 w.heap.size 48 KL) := Lib.hid (by rw [← hW0]; exact (Blk.new w _ _).alloc _)
      have HF0 : Hid (Blk W0 (w.heap.size + 1) 41 #[.int .u64 0, .string ⟨#[]⟩, .string ⟨#[]⟩]) := Lib.hid (by rw [← hW0]; have := Blk.new (w.alloc (.cells KL 48)) 41 #[.int .u64 0, .string ⟨#[]⟩, .string ⟨#[]⟩]; simpa using this)
      rw [hW0]
      clear hW0
      refine wp_region_below (by kernel_rfl) (by kernel_rfl) ?_
      refine wpQuiet_run (.string s) (by rfl) (fun _ _ => by first | rfl | go_simp) ?_
      simp only [Act.put, List.setIfInBounds_toArray, List.set_cons_zero, List.set_cons_succ]
      refine wpQuiet_run (.string (s.extract 0 4)) (by rfl) (fun _ _ => by first | rfl | go_simp) ?_
      simp only [Act.put, List.setIfInBounds_toArray, List.set_cons_zero, List.set_cons_succ]
      refine wpQuiet_run (.int .u32 m) (by rfl) (fun _ _ => by first | rfl | go_simp) ?_
      simp only [Act.put, List.setIfInBounds_toArray, List.set_cons_zero, List.set_cons_succ]
      refine wpQuiet_run (.int .u64 m) (by rfl) (fun _ _ => by first | rfl | go_simp) ?_
      simp only [Act.put, List.setIfInBounds_toArray, List.set_cons_zero, List.set_cons_succ]
      refine wpQuiet_callB 63 _ _ (by rfl) (fun _ => by first | rfl | go_simp) (fun w _ => L1.out _) ?_
      simp only [Act.put, List.setIfInBounds_toArray, List.set_cons_zero, List.set_cons_succ]
      refine wpQuiet_run (.bool false) (by rfl) (fun _ _ => by first | rfl | go_simp) ?_
      simp only [Act.put, List.setIfInBounds_toArray, List.set_cons_zero, List.set_cons_succ]
      refine wpQuiet_nil ?_
      intro w2 hw2
      have HB2 : Hid (Below w.heap.size w w2) := Lib.hid (HBW.out.trans (hw2.mono HBW.out.size))
      have HK2 : Hid (Blk w2 w.heap.size 48 KL) := Lib.hid ((hw2.block _ HK0.out.lt).trans HK0.out)
      have HF2 : Hid (Blk w2 (w.heap.size + 1) 41 #[.int .u64 0, .string ⟨#[]⟩, .string ⟨#[]⟩]) := Lib.hid ((hw2.block _ HF0.out.lt).trans HF0.out)
      clear hw2 HBW HK0 HF0 e1 q2 q3 W0
      obtain ⟨g0, g1, g2, f0, f1, f2⟩ := blk3 HF2.out
      go_wp2_with fail
      refine (HG.out _).mono ?_
      rintro e w3 ⟨rfl, rfl⟩
      go_wp2_with fail
      refine (HT.out _).mono ?_
      rintro e w3 ⟨rfl, rfl⟩
      go_wp2_with fail
      refine (HN.out _).mono ?_
      rintro e w3 ⟨rfl, rfl⟩
      go_wp2_with fail
      have HC3 := Lib.hid (cset3 HF2.out (.int .u64 0) (.string ⟨#[]⟩) (.string ⟨#[]⟩))
      obtain ⟨c0, c1, c2, _, _, _⟩ := blk3 HC3.out
      refine bodyPost_ret (v := .tuple #[.agg #[.int .u64 0, .string ⟨#[]⟩, .string ⟨#[]⟩], .int .i64 0, .int .i64 2]) (by simp [results, Tryd.results22, go_sem, c0, c1, c2]) rfl ?_
      rw [HR.out]
      exact ⟨rfl, below3 HB2.out (by omega) _ _ _⟩
    rw [if_neg h8] at hA
    have hzb : (s.extract 24 (24 + N)).size ≤ 90000 := by rw [size_cut _ _ _ (by omega)]; omega
    have HC := Lib.hid (fun w => refCheck_c (s.extract 24 (24 + N)) w hzb)
    unfold keyV at HC
    rw [HKL.out] at HC
    clear hzb
    have HB8 : Hid (24 + (N : Int) ≤ s.size) := Lib.hid (by omega)
    rcases str_ways (shChk (s.extract 24 (24 + N))) (s.extract 20 24) with ⟨p1, p2, p3⟩ | ⟨p1, p2, p3⟩
    · have HR : Hid (cnNext m most s = (0, t, s.extract 24 (24 + N), 24 + N)) := Lib.hid (by rw [hA.out, if_neg (by simpa using p1)])
      clear hA p1
      generalize shChk (s.extract 24 (24 + N)) = d at *
      go_enter Tryd.func22, Tryd.ntmps22
      go_wp2
      obtain ⟨W0, hW0⟩ : ∃ W0, (w.alloc (.cells KL 48)).alloc (.cells #[.int .u64 0, .string ⟨#[]⟩, .string ⟨#[]⟩] 41) = W0 := ⟨_, rfl⟩
      have HBW : Hid (Below w.heap.size w W0) := Lib.hid (by rw [← hW0]; exact (by repeat (first | exact Below.refl _ _ | assumption | with_reducible refine Below.drewN' ?_ _ | with_reducible refine Below.drew ?_ | ((with_reducible refine Below.alloc' ?_ ?_ _); · (first | omega | (simp <;> omega))))))
      have HK0 : Hid (Blk W0 w.heap.size 48 KL) := Lib.hid (by rw [← hW0]; exact (Blk.new w _ _).alloc _)
      have HF0 : Hid (Blk W0 (w.heap.size + 1) 41 #[.int .u64 0, .string ⟨#[]⟩, .string ⟨#[]⟩]) := Lib.hid (by rw [← hW0]; have := Blk.new (w.alloc (.cells KL 48)) 41 #[.int .u64 0, .string ⟨#[]⟩, .string ⟨#[]⟩]; simpa using this)
      rw [hW0]
      clear hW0
      refine wp_region_below (by kernel_rfl) (by kernel_rfl) ?_
      refine wpQuiet_run (.string s) (by rfl) (fun _ _ => by first | rfl | go_simp) ?_
      simp only [Act.put, List.setIfInBounds_toArray, List.set_cons_zero, List.set_cons_succ]
      refine wpQuiet_run (.string (s.extract 0 4)) (by rfl) (fun _ _ => by first | rfl | go_simp) ?_
      simp only [Act.put, List.setIfInBounds_toArray, List.set_cons_zero, List.set_cons_succ]
      refine wpQuiet_run (.int .u32 m) (by rfl) (fun _ _ => by first | rfl | go_simp) ?_
      simp only [Act.put, List.setIfInBounds_toArray, List.set_cons_zero, List.set_cons_succ]
      refine wpQuiet_run (.int .u64 m) (by rfl) (fun _ _ => by first | rfl | go_simp) ?_
      simp only [Act.put, List.setIfInBounds_toArray, List.set_cons_zero, List.set_cons_succ]
      refine wpQuiet_callB 63 _ _ (by rfl) (fun _ => by first | rfl | go_simp) (fun w _ => L1.out _) ?_
      simp only [Act.put, List.setIfInBounds_toArray, List.set_cons_zero, List.set_cons_succ]
      refine wpQuiet_run (.bool false) (by rfl) (fun _ _ => by first | rfl | go_simp) ?_
      simp only [Act.put, List.setIfInBounds_toArray, List.set_cons_zero, List.set_cons_succ]
      refine wpQuiet_nil ?_
      intro w2 hw2
      have HB2 : Hid (Below w.heap.size w w2) := Lib.hid (HBW.out.trans (hw2.mono HBW.out.size))
      have HK2 : Hid (Blk w2 w.heap.size 48 KL) := Lib.hid ((hw2.block _ HK0.out.lt).trans HK0.out)
      have HF2 : Hid (Blk w2 (w.heap.size + 1) 41 #[.int .u64 0, .string ⟨#[]⟩, .string ⟨#[]⟩]) := Lib.hid ((hw2.block _ HF0.out.lt).trans HF0.out)
      clear hw2 HBW HK0 HF0 e1 q2 q3 W0
      obtain ⟨g0, g1, g2, f0, f1, f2⟩ := blk3 HF2.out
      go_wp2_with fail
      refine (HG.out _).mono ?_
      rintro e w3 ⟨rfl, rfl⟩
      go_wp2_with fail
      refine (HT.out _).mono ?_
      rintro e w3 ⟨rfl, rfl⟩
      go_wp2_with fail
      refine (HN.out _).mono ?_
      rintro e w3 ⟨rfl, rfl⟩
      go_wp2_with fail
      refine wp_region_below (by kernel_rfl) (by kernel_rfl) ?_
      refine wpQuiet_load (by rfl) 48 (.tmp 4) (by rfl) w.heap.size (by rfl) 48 KL (0, 0) _ (by intro w' hw'; exact (hw'.block _ HK2.out.lt).trans HK2.out) Tryd.underlying48 rfl HI.out ?_
      simp only [Act.put, List.setIfInBounds_toArray, List.set_cons_zero, List.set_cons_succ]
      refine wpQuiet_run (.string (s.extract 24 (24 + N))) (by rfl) (fun _ _ => by first | rfl | go_simp) ?_
      simp only [Act.put, List.setIfInBounds_toArray, List.set_cons_zero, List.set_cons_succ]
      refine wpQuiet_callB 65 _ _ (by rfl) (fun _ => by first | rfl | go_simp) (fun w _ => HC.out _) ?_
      simp only [Act.put, List.setIfInBounds_toArray, List.set_cons_zero, List.set_cons_succ]
      refine wpQuiet_run (.string s) (by rfl) (fun _ _ => by first | rfl | go_simp) ?_
      simp only [Act.put, List.setIfInBounds_toArray, List.set_cons_zero, List.set_cons_succ]
      refine wpQuiet_run (.string (s.extract 20 24)) (by rfl) (fun _ _ => by first | rfl | go_simp) ?_
      simp only [Act.put, List.setIfInBounds_toArray, List.set_cons_zero, List.set_cons_succ]
      refine wpQuiet_run (.bool false) (by rfl) (fun _ _ => by first | rfl | go_simp) ?_
      simp only [Act.put, List.setIfInBounds_toArray, List.set_cons_zero, List.set_cons_succ]
      refine wpQuiet_nil ?_
      intro w4 hw4
      have HB4 : Hid (Below w.heap.size w w4) := Lib.hid (HB2.out.trans (hw4.mono HB2.out.size))
      have HF4 : Hid (Blk w4 (w.heap.size + 1) 41 #[.int .u64 0, .string ⟨#[]⟩, .string ⟨#[]⟩]) := Lib.hid ((hw4.block _ HF2.out.lt).trans HF2.out)
      clear hw4 HB2 HF2 HK2 g0 g1 g2 f0 f1 f2 p2 p3
      clear w2
      obtain ⟨g0, g1, g2, f0, f1, f2⟩ := blk3 HF4.out
      go_wp2
      have HC3 := Lib.hid (cset3 HF4.out (.int .u64 0) (.string t) (.string (s.extract 24 (24 + N))))
      obtain ⟨c0, c1, c2, _, _, _⟩ := blk3 HC3.out
      refine bodyPost_ret (v := .tuple #[.agg #[.int .u64 0, .string t, .string (s.extract 24 (24 + N))], .int .i64 (24 + N : Int), .int .i64 0]) (by simp [results, Tryd.results22, go_sem, c0, c1, c2]) rfl ?_
      rw [HR.out]
      exact ⟨rfl, below3 HB4.out (by omega) _ _ _⟩
    · have HR : Hid (cnNext m most s = (10, ByteArray.empty, ByteArray.empty, 0)) := Lib.hid (by rw [hA.out, if_pos p1])
      clear hA p1
      generalize shChk (s.extract 24 (24 + N)) = d at *
      go_enter Tryd.func22, Tryd.ntmps22
      go_wp2
      obtain ⟨W0, hW0⟩ : ∃ W0, (w.alloc (.cells KL 48)).alloc (.cells #[.int .u64 0, .string ⟨#[]⟩, .string ⟨#[]⟩] 41) = W0 := ⟨_, rfl⟩
      have HBW : Hid (Below w.heap.size w W0) := Lib.hid (by rw [← hW0]; exact (by repeat (first | exact Below.refl _ _ | assumption | with_reducible refine Below.drewN' ?_ _ | with_reducible refine Below.drew ?_ | ((with_reducible refine Below.alloc' ?_ ?_ _); · (first | omega | (simp <;> omega))))))
      have HK0 : Hid (Blk W0 w.heap.size 48 KL) := Lib.hid (by rw [← hW0]; exact (Blk.new w _ _).alloc _)
      have HF0 : Hid (Blk W0 (w.heap.size + 1) 41 #[.int .u64 0, .string ⟨#[]⟩, .string ⟨#[]⟩]) := Lib.hid (by rw [← hW0]; have := Blk.new (w.alloc (.cells KL 48)) 41 #[.int .u64 0, .string ⟨#[]⟩, .string ⟨#[]⟩]; simpa using this)
      rw [hW0]
      clear hW0
      refine wp_region_below (by kernel_rfl) (by kernel_rfl) ?_
      refine wpQuiet_run (.string s) (by rfl) (fun _ _ => by first | rfl | go_simp) ?_
      simp only [Act.put, List.setIfInBounds_toArray, List.set_cons_zero, List.set_cons_succ]
      refine wpQuiet_run (.string (s.extract 0 4)) (by rfl) (fun _ _ => by first | rfl | go_simp) ?_
      simp only [Act.put, List.setIfInBounds_toArray, List.set_cons_zero, List.set_cons_succ]
      refine wpQuiet_run (.int .u32 m) (by rfl) (fun _ _ => by first | rfl | go_simp) ?_
      simp only [Act.put, List.setIfInBounds_toArray, List.set_cons_zero, List.set_cons_succ]
      refine wpQuiet_run (.int .u64 m) (by rfl) (fun _ _ => by first | rfl | go_simp) ?_
      simp only [Act.put, List.setIfInBounds_toArray, List.set_cons_zero, List.set_cons_succ]
      refine wpQuiet_callB 63 _ _ (by rfl) (fun _ => by first | rfl | go_simp) (fun w _ => L1.out _) ?_
      simp only [Act.put, List.setIfInBounds_toArray, List.set_cons_zero, List.set_cons_succ]
      refine wpQuiet_run (.bool false) (by rfl) (fun _ _ => by first | rfl | go_simp) ?_
      simp only [Act.put, List.setIfInBounds_toArray, List.set_cons_zero, List.set_cons_succ]
      refine wpQuiet_nil ?_
      intro w2 hw2
      have HB2 : Hid (Below w.heap.size w w2) := Lib.hid (HBW.out.trans (hw2.mono HBW.out.size))
      have HK2 : Hid (Blk w2 w.heap.size 48 KL) := Lib.hid ((hw2.block _ HK0.out.lt).trans HK0.out)
      have HF2 : Hid (Blk w2 (w.heap.size + 1) 41 #[.int .u64 0, .string ⟨#[]⟩, .string ⟨#[]⟩]) := Lib.hid ((hw2.block _ HF0.out.lt).trans HF0.out)
      clear hw2 HBW HK0 HF0 e1 q2 q3 W0
      obtain ⟨g0, g1, g2, f0, f1, f2⟩ := blk3 HF2.out
      go_wp2_with fail
      refine (HG.out _).mono ?_
      rintro e w3 ⟨rfl, rfl⟩
      go_wp2_with fail
      refine (HT.out _).mono ?_
      rintro e w3 ⟨rfl, rfl⟩
      go_wp2_with fail
      refine (HN.out _).mono ?_
      rintro e w3 ⟨rfl, rfl⟩
      go_wp2_with fail
      refine wp_region_below (by kernel_rfl) (by kernel_rfl) ?_
      refine wpQuiet_load (by rfl) 48 (.tmp 4) (by rfl) w.heap.size (by rfl) 48 KL (0, 0) _ (by intro w' hw'; exact (hw'.block _ HK2.out.lt).trans HK2.out) Tryd.underlying48 rfl HI.out ?_
      simp only [Act.put, List.setIfInBounds_toArray, List.set_cons_zero, List.set_cons_succ]
      refine wpQuiet_run (.string (s.extract 24 (24 + N))) (by rfl) (fun _ _ => by first | rfl | go_simp) ?_
      simp only [Act.put, List.setIfInBounds_toArray, List.set_cons_zero, List.set_cons_succ]
      refine wpQuiet_callB 65 _ _ (by rfl) (fun _ => by first | rfl | go_simp) (fun w _ => HC.out _) ?_
      simp only [Act.put, List.setIfInBounds_toArray, List.set_cons_zero, List.set_cons_succ]
      refine wpQuiet_run (.string s) (by rfl) (fun _ _ => by first | rfl | go_simp) ?_
      simp only [Act.put, List.setIfInBounds_toArray, List.set_cons_zero, List.set_cons_succ]
      refine wpQuiet_run (.string (s.extract 20 24)) (by rfl) (fun _ _ => by first | rfl | go_simp) ?_
      simp only [Act.put, List.setIfInBounds_toArray, List.set_cons_zero, List.set_cons_succ]
      refine wpQuiet_run (.bool true) (by rfl) (fun _ _ => by first | rfl | go_simp) ?_
      simp only [Act.put, List.setIfInBounds_toArray, List.set_cons_zero, List.set_cons_succ]
      refine wpQuiet_nil ?_
      intro w4 hw4
      have HB4 : Hid (Below w.heap.size w w4) := Lib.hid (HB2.out.trans (hw4.mono HB2.out.size))
      have HF4 : Hid (Blk w4 (w.heap.size + 1) 41 #[.int .u64 0, .string ⟨#[]⟩, .string ⟨#[]⟩]) := Lib.hid ((hw4.block _ HF2.out.lt).trans HF2.out)
      clear hw4 HB2 HF2 HK2 g0 g1 g2 f0 f1 f2 p2 p3
      clear w2
      obtain ⟨g0, g1, g2, f0, f1, f2⟩ := blk3 HF4.out
      go_wp2
      have HC3 := Lib.hid (cset3 HF4.out (.int .u64 0) (.string ⟨#[]⟩) (.string ⟨#[]⟩))
      obtain ⟨c0, c1, c2, _, _, _⟩ := blk3 HC3.out
      refine bodyPost_ret (v := .tuple #[.agg #[.int .u64 0, .string ⟨#[]⟩, .string ⟨#[]⟩], .int .i64 0, .int .i64 10]) (by simp [results, Tryd.results22, go_sem, c0, c1, c2]) rfl ?_
      rw [HR.out]
      exact ⟨rfl, below3 HB4.out (by omega) _ _ _⟩
  · have HR : Hid (cnNext m most s = (9, ByteArray.empty, ByteArray.empty, 0)) := Lib.hid (by rw [hA.out, if_pos q1])
    clear hA q1
    generalize le4 m = a at *
    go_enter Tryd.func22, Tryd.ntmps22
    go_wp2
    obtain ⟨W0, hW0⟩ : ∃ W0, (w.alloc (.cells KL 48)).alloc (.cells #[.int .u64 0, .string ⟨#[]⟩, .string ⟨#[]⟩] 41) = W0 := ⟨_, rfl⟩
    have HBW : Hid (Below w.heap.size w W0) := Lib.hid (by rw [← hW0]; exact (by repeat (first | exact Below.refl _ _ | assumption | with_reducible refine Below.drewN' ?_ _ | with_reducible refine Below.drew ?_ | ((with_reducible refine Below.alloc' ?_ ?_ _); · (first | omega | (simp <;> omega))))))
    have HK0 : Hid (Blk W0 w.heap.size 48 KL) := Lib.hid (by rw [← hW0]; exact (Blk.new w _ _).alloc _)
    have HF0 : Hid (Blk W0 (w.heap.size + 1) 41 #[.int .u64 0, .string ⟨#[]⟩, .string ⟨#[]⟩]) := Lib.hid (by rw [← hW0]; have := Blk.new (w.alloc (.cells KL 48)) 41 #[.int .u64 0, .string ⟨#[]⟩, .string ⟨#[]⟩]; simpa using this)
    rw [hW0]
    clear hW0
    refine wp_region_below (by kernel_rfl) (by kernel_rfl) ?_
    refine wpQuiet_run (.string s) (by rfl) (fun _ _ => by first | rfl | go_simp) ?_
    simp only [Act.put, List.setIfInBounds_toArray, List.set_cons_zero, List.set_cons_succ]
    refine wpQuiet_run (.string (s.extract 0 4)) (by rfl) (fun _ _ => by first | rfl | go_simp) ?_
    simp only [Act.put, List.setIfInBounds_toArray, List.set_cons_zero, List.set_cons_succ]
    refine wpQuiet_run (.int .u32 m) (by rfl) (fun _ _ => by first | rfl | go_simp) ?_
    simp only [Act.put, List.setIfInBounds_toArray, List.set_cons_zero, List.set_cons_succ]
    refine wpQuiet_run (.int .u64 m) (by rfl) (fun _ _ => by first | rfl | go_simp) ?_
    simp only [Act.put, List.setIfInBounds_toArray, List.set_cons_zero, List.set_cons_succ]
    refine wpQuiet_callB 63 _ _ (by rfl) (fun _ => by first | rfl | go_simp) (fun w _ => L1.out _) ?_
    simp only [Act.put, List.setIfInBounds_toArray, List.set_cons_zero, List.set_cons_succ]
    refine wpQuiet_run (.bool true) (by rfl) (fun _ _ => by first | rfl | go_simp) ?_
    simp only [Act.put, List.setIfInBounds_toArray, List.set_cons_zero, List.set_cons_succ]
    refine wpQuiet_nil ?_
    intro w2 hw2
    have HB2 : Hid (Below w.heap.size w w2) := Lib.hid (HBW.out.trans (hw2.mono HBW.out.size))
    have HK2 : Hid (Blk w2 w.heap.size 48 KL) := Lib.hid ((hw2.block _ HK0.out.lt).trans HK0.out)
    have HF2 : Hid (Blk w2 (w.heap.size + 1) 41 #[.int .u64 0, .string ⟨#[]⟩, .string ⟨#[]⟩]) := Lib.hid ((hw2.block _ HF0.out.lt).trans HF0.out)
    clear hw2 HBW HK0 HF0 e1 q2 q3 W0
    obtain ⟨g0, g1, g2, f0, f1, f2⟩ := blk3 HF2.out
    go_wp2
    have HC3 := Lib.hid (cset3 HF2.out (.int .u64 0) (.string ⟨#[]⟩) (.string ⟨#[]⟩))
    obtain ⟨c0, c1, c2, _, _, _⟩ := blk3 HC3.out
    refine bodyPost_ret (v := .tuple #[.agg #[.int .u64 0, .string ⟨#[]⟩, .string ⟨#[]⟩], .int .i64 0, .int .i64 9]) (by simp [results, Tryd.results22, go_sem, c0, c1, c2]) rfl ?_
    rw [HR.out]
    exact ⟨rfl, below3 HB2.out (by omega) _ _ _⟩
end Go.Proofs.YtacikiambpfipaaDoor
