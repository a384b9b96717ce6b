/- wire.Most; the document's Right and Most. -/
import Derived.Test.YtebllmpdlapefaaGreatDoorKA8
import Derived.Deep.RegionHeld3
namespace Go.Proofs.YtebllmpdlapefaaGreatDoor
set_option linter.unusedVariables false
set_option linter.unusedSimpArgs false
open Go.RowKit

set_option maxRecDepth 100000 in
set_option maxHeartbeats 4000000 in
theorem refRight17_c (c : Cfg) (w : World) : Calls Tryz.prog 18 #[c.val] w fun e w' => e = .returned (.bool c.right) ∧ Below w.heap.size w w' := by
  unfold Cfg.val
  by_cases h0 : 1 ≤ c.fm
  · have d0 : decide (1 ≤ c.fm) = true := decide_eq_true h0
    by_cases h1 : c.fm ≤ 3
    · have d1 : decide (c.fm ≤ 3) = true := decide_eq_true h1
      by_cases h2 : 1 ≤ c.fr
      · have d2 : decide (1 ≤ c.fr) = true := decide_eq_true h2
        by_cases h3 : c.fr ≤ 65536
        · have d3 : decide (c.fr ≤ 65536) = true := decide_eq_true h3
          by_cases h4 : 1 ≤ c.un
          · have d4 : decide (1 ≤ c.un) = true := decide_eq_true h4
            by_cases h5 : c.un ≤ 65536
            · have d5 : decide (c.un ≤ 65536) = true := decide_eq_true h5
              by_cases h6 : 1 ≤ c.de
              · have d6 : decide (1 ≤ c.de) = true := decide_eq_true h6
                by_cases h7 : c.de ≤ 16
                · have d7 : decide (c.de ≤ 16) = true := decide_eq_true h7
                  by_cases h8 : 1 ≤ c.it
                  · have d8 : decide (1 ≤ c.it) = true := decide_eq_true h8
                    by_cases h9 : c.it ≤ 1024
                    · have d9 : decide (c.it ≤ 1024) = true := decide_eq_true h9
                      go_enter Tryz.func18, Tryz.ntmps18
                      go_wp2
                      go_ret
                      exact ⟨ret_bool (by simp_all [Cfg.right] <;> (intros; omega)), (by repeat (first | exact Below.refl _ _ | assumption | with_reducible refine Below.drewN' ?_ _ | with_reducible refine Below.drew ?_ | ((with_reducible refine Below.alloc' ?_ ?_ _); · (first | omega | (simp <;> omega)))))⟩
                    · have d9 : decide (c.it ≤ 1024) = false := decide_eq_false h9
                      go_enter Tryz.func18, Tryz.ntmps18
                      go_wp2
                      go_ret
                      exact ⟨ret_bool (by simp_all [Cfg.right] <;> (intros; omega)), (by repeat (first | exact Below.refl _ _ | assumption | with_reducible refine Below.drewN' ?_ _ | with_reducible refine Below.drew ?_ | ((with_reducible refine Below.alloc' ?_ ?_ _); · (first | omega | (simp <;> omega)))))⟩
                  · have d8 : decide (1 ≤ c.it) = false := decide_eq_false h8
                    go_enter Tryz.func18, Tryz.ntmps18
                    go_wp2
                    go_ret
                    exact ⟨ret_bool (by simp_all [Cfg.right] <;> (intros; omega)), (by repeat (first | exact Below.refl _ _ | assumption | with_reducible refine Below.drewN' ?_ _ | with_reducible refine Below.drew ?_ | ((with_reducible refine Below.alloc' ?_ ?_ _); · (first | omega | (simp <;> omega)))))⟩
                · have d7 : decide (c.de ≤ 16) = false := decide_eq_false h7
                  go_enter Tryz.func18, Tryz.ntmps18
                  go_wp2
                  go_ret
                  exact ⟨ret_bool (by simp_all [Cfg.right] <;> (intros; omega)), (by repeat (first | exact Below.refl _ _ | assumption | with_reducible refine Below.drewN' ?_ _ | with_reducible refine Below.drew ?_ | ((with_reducible refine Below.alloc' ?_ ?_ _); · (first | omega | (simp <;> omega)))))⟩
              · have d6 : decide (1 ≤ c.de) = false := decide_eq_false h6
                go_enter Tryz.func18, Tryz.ntmps18
                go_wp2
                go_ret
                exact ⟨ret_bool (by simp_all [Cfg.right] <;> (intros; omega)), (by repeat (first | exact Below.refl _ _ | assumption | with_reducible refine Below.drewN' ?_ _ | with_reducible refine Below.drew ?_ | ((with_reducible refine Below.alloc' ?_ ?_ _); · (first | omega | (simp <;> omega)))))⟩
            · have d5 : decide (c.un ≤ 65536) = false := decide_eq_false h5
              go_enter Tryz.func18, Tryz.ntmps18
              go_wp2
              go_ret
              exact ⟨ret_bool (by simp_all [Cfg.right] <;> (intros; omega)), (by repeat (first | exact Below.refl _ _ | assumption | with_reducible refine Below.drewN' ?_ _ | with_reducible refine Below.drew ?_ | ((with_reducible refine Below.alloc' ?_ ?_ _); · (first | omega | (simp <;> omega)))))⟩
          · have d4 : decide (1 ≤ c.un) = false := decide_eq_false h4
            go_enter Tryz.func18, Tryz.ntmps18
            go_wp2
            go_ret
            exact ⟨ret_bool (by simp_all [Cfg.right] <;> (intros; omega)), (by repeat (first | exact Below.refl _ _ | assumption | with_reducible refine Below.drewN' ?_ _ | with_reducible refine Below.drew ?_ | ((with_reducible refine Below.alloc' ?_ ?_ _); · (first | omega | (simp <;> omega)))))⟩
        · have d3 : decide (c.fr ≤ 65536) = false := decide_eq_false h3
          go_enter Tryz.func18, Tryz.ntmps18
          go_wp2
          go_ret
          exact ⟨ret_bool (by simp_all [Cfg.right] <;> (intros; omega)), (by repeat (first | exact Below.refl _ _ | assumption | with_reducible refine Below.drewN' ?_ _ | with_reducible refine Below.drew ?_ | ((with_reducible refine Below.alloc' ?_ ?_ _); · (first | omega | (simp <;> omega)))))⟩
      · have d2 : decide (1 ≤ c.fr) = false := decide_eq_false h2
        go_enter Tryz.func18, Tryz.ntmps18
        go_wp2
        go_ret
        exact ⟨ret_bool (by simp_all [Cfg.right] <;> (intros; omega)), (by repeat (first | exact Below.refl _ _ | assumption | with_reducible refine Below.drewN' ?_ _ | with_reducible refine Below.drew ?_ | ((with_reducible refine Below.alloc' ?_ ?_ _); · (first | omega | (simp <;> omega)))))⟩
    · have d1 : decide (c.fm ≤ 3) = false := decide_eq_false h1
      go_enter Tryz.func18, Tryz.ntmps18
      go_wp2
      go_ret
      exact ⟨ret_bool (by simp_all [Cfg.right] <;> (intros; omega)), (by repeat (first | exact Below.refl _ _ | assumption | with_reducible refine Below.drewN' ?_ _ | with_reducible refine Below.drew ?_ | ((with_reducible refine Below.alloc' ?_ ?_ _); · (first | omega | (simp <;> omega)))))⟩
  · have d0 : decide (1 ≤ c.fm) = false := decide_eq_false h0
    go_enter Tryz.func18, Tryz.ntmps18
    go_wp2
    go_ret
    exact ⟨ret_bool (by simp_all [Cfg.right] <;> (intros; omega)), (by repeat (first | exact Below.refl _ _ | assumption | with_reducible refine Below.drewN' ?_ _ | with_reducible refine Below.drew ?_ | ((with_reducible refine Below.alloc' ?_ ?_ _); · (first | omega | (simp <;> omega)))))⟩
theorem lengthSize_c (fr : Int) (w : World) : Calls Tryz.prog 73 #[.int .i64 fr] w fun e w' => e = .returned (.int .i64 (wHead fr)) ∧ w = w' := by
  by_cases h1 : fr < 128
  · have hh : wHead fr = 1 := by unfold wHead; rw [if_pos h1]
    rw [hh]
    clear hh
    go_enter Tryz.func73, Tryz.ntmps73
    go_wp2
    go_ret
    exact ⟨rfl, rfl⟩
  · by_cases h2 : fr < 16384
    · have hh : wHead fr = 2 := by unfold wHead; rw [if_neg h1, if_pos h2]
      rw [hh]
      clear hh
      go_enter Tryz.func73, Tryz.ntmps73
      go_wp2
      go_ret
      exact ⟨rfl, rfl⟩
    · have hh : wHead fr = 3 := by unfold wHead; rw [if_neg h1, if_neg h2]
      rw [hh]
      clear hh
      go_enter Tryz.func73, Tryz.ntmps73
      go_wp2
      go_ret
      exact ⟨rfl, rfl⟩
theorem head24_c (fr : Int) (w : World) : Calls Tryz.prog 68 #[.int .i64 fr] w fun e w' => e = .returned (.int .i64 24) ∧ w = w' := by
  go_enter Tryz.func68, Tryz.ntmps68
  go_wp2
  go_ret
  exact ⟨rfl, rfl⟩
set_option maxRecDepth 100000 in
set_option maxHeartbeats 2000000 in
theorem wMost1_c (c : Cfg) (h1 : c.fm = 1) (hr : c.right = true) (w : World) : Calls Tryz.prog 19 #[c.val] w fun e w' => e = .returned (.int .i64 (wMost c)) ∧ Below w.heap.size w w' := by
  have HE : Hid (wMost c = 24 + c.fr) := Lib.hid (by unfold wMost; rw [if_pos hr, if_pos h1])
  have hR := (c.right_iff).1 hr
  have hfr1 := hR.2.2.1
  have hfr2 := hR.2.2.2.1
  
  have HH := Lib.hid head24_c
  rw [HE.out]
  have HE2 := HE
  clear hR HE
  have HE : Hid ((0 : Int) = 0) := Lib.hid rfl
  clear HE2
  have hI := fm_at1
  have hFd := fm_fld1_3
  unfold fmV fm1 fnV at hI
  unfold fm1 fnV at hFd
  have HR := Lib.hid (fun w => right_c c w)
  rw [hr] at HR
  unfold Cfg.val at *
  obtain ⟨fm, mg, fr, un, de, it⟩ := c
  simp only at h1
  subst h1
  simp only at *
  obtain ⟨W0, hW0⟩ : ∃ W0, w.alloc (.cells #[.int .i64 1, .int .u32 mg, .int .i64 fr, .int .i64 un, .int .i64 de, .int .i64 it] 24) = W0 := ⟨_, rfl⟩
  have hz : W0.heap.size = w.heap.size + 1 := by rw [← hW0]; simp
  have hB : Blk W0 w.heap.size 24 #[.int .i64 1, .int .u32 mg, .int .i64 fr, .int .i64 un, .int .i64 de, .int .i64 it] := by rw [← hW0]; exact Blk.new w _ _
  have HO : Hid (Below w.heap.size w W0) := Lib.hid (by rw [← hW0]; exact (by repeat (first | exact Below.refl _ _ | assumption | with_reducible refine Below.drewN' ?_ _ | with_reducible refine Below.drew ?_ | ((with_reducible refine Below.alloc' ?_ ?_ _); · (first | omega | (simp <;> omega))))))
  have HKV : Hid (∀ V, Below W0.heap.size W0 V → V.cell? ⟨w.heap.size, 0, none⟩ = some (.int .i64 1) ∧ V.cell? ⟨w.heap.size, 1, none⟩ = some (.int .u32 mg) ∧ V.cell? ⟨w.heap.size, 2, none⟩ = some (.int .i64 fr) ∧ V.cell? ⟨w.heap.size, 3, none⟩ = some (.int .i64 un) ∧ V.cell? ⟨w.heap.size, 4, none⟩ = some (.int .i64 de) ∧ V.cell? ⟨w.heap.size, 5, none⟩ = some (.int .i64 it)) := Lib.hid (fun V hV => by
    have hB := (hV.block w.heap.size (by omega)).trans hB
    have hB : Blk V w.heap.size 24 #[.int .i64 1, .int .u32 mg, .int .i64 fr, .int .i64 un, .int .i64 de, .int .i64 it] := hB
    exact ⟨hB.cell 0, hB.cell 1, hB.cell 2, hB.cell 3, hB.cell 4, hB.cell 5⟩)
  have HF : Hid (∀ V, Below W0.heap.size W0 V → Calls Tryz.prog 45 #[] V fun e w' => e = .returned fmV ∧ Below W0.heap.size W0 w') := Lib.hid (fun V hV => (formats_c V).mono fun e w' ⟨h1, h2⟩ => ⟨h1, hV.trans (h2.mono hV.size)⟩)
  have HW0 := Lib.hid hW0
  have HZ := Lib.hid hz
  unfold fmV fnV at HF
  clear hW0 hB hz
  go_enter Tryz.func19, Tryz.ntmps19
  go_wp2_with fail
  rw [HW0.out]
  refine (HR.out _).mono ?_
  rintro e w1 ⟨rfl, hb1⟩
  have HB1 := Lib.hid hb1
  clear hb1
  obtain ⟨q0, q1, q2, q3, q4, q5⟩ := HKV.out w1 HB1.out
  go_wp2_with fail
  go_region_held3 (fun V => V.cell? ⟨w.heap.size, 0, none⟩ = some (.int .i64 1) ∧ V.cell? ⟨w.heap.size, 1, none⟩ = some (.int .u32 mg) ∧ V.cell? ⟨w.heap.size, 2, none⟩ = some (.int .i64 fr) ∧ V.cell? ⟨w.heap.size, 3, none⟩ = some (.int .i64 un) ∧ V.cell? ⟨w.heap.size, 4, none⟩ = some (.int .i64 de) ∧ V.cell? ⟨w.heap.size, 5, none⟩ = some (.int .i64 it))
    (first | exact HKV.out _ HB1.out | exact HKV.out _ HB1.out.drew | exact HKV.out _ hv | exact HKV.out _ hv.drew)
    (first
      | (go_at_call 45; ((with_reducible refine (HF.out _ HB1.out.drew).mono ?_); rintro e w' ⟨rfl, hv⟩))
      | (go_at_call 68; ((with_reducible refine (HH.out _ _).mono ?_); rintro e w'' ⟨rfl, rfl⟩)))
  all_goals
    go_wp2
    go_ret
    refine ⟨?_, HO.out.trans (hv.mono (by have := HZ.out; omega))⟩
    exact ret_int (by first | rfl | rw [IntWalk.i64_in _ (by omega)])
set_option maxRecDepth 100000 in
set_option maxHeartbeats 2000000 in
theorem wMost2_c (c : Cfg) (h1 : c.fm = 2) (hr : c.right = true) (w : World) : Calls Tryz.prog 19 #[c.val] w fun e w' => e = .returned (.int .i64 (wMost c)) ∧ Below w.heap.size w w' := by
  have HE : Hid (wMost c = wHead c.fr + c.fr) := Lib.hid (by unfold wMost; rw [if_pos hr, if_neg (by omega)])
  have hR := (c.right_iff).1 hr
  have hfr1 := hR.2.2.1
  have hfr2 := hR.2.2.2.1
  have hwh : 1 ≤ wHead c.fr ∧ wHead c.fr ≤ 3 := by unfold wHead; split <;> (try split) <;> omega
  have HH := Lib.hid lengthSize_c
  rw [HE.out]
  have HE2 := HE
  clear hR HE
  have HE : Hid ((0 : Int) = 0) := Lib.hid rfl
  clear HE2
  have hI := fm_at2
  have hFd := fm_fld2_3
  unfold fmV fm2 fnV at hI
  unfold fm2 fnV at hFd
  have HR := Lib.hid (fun w => right_c c w)
  rw [hr] at HR
  unfold Cfg.val at *
  obtain ⟨fm, mg, fr, un, de, it⟩ := c
  simp only at h1
  subst h1
  simp only at *
  obtain ⟨W0, hW0⟩ : ∃ W0, w.alloc (.cells #[.int .i64 2, .int .u32 mg, .int .i64 fr, .int .i64 un, .int .i64 de, .int .i64 it] 24) = W0 := ⟨_, rfl⟩
  have hz : W0.heap.size = w.heap.size + 1 := by rw [← hW0]; simp
  have hB : Blk W0 w.heap.size 24 #[.int .i64 2, .int .u32 mg, .int .i64 fr, .int .i64 un, .int .i64 de, .int .i64 it] := by rw [← hW0]; exact Blk.new w _ _
  have HO : Hid (Below w.heap.size w W0) := Lib.hid (by rw [← hW0]; exact (by repeat (first | exact Below.refl _ _ | assumption | with_reducible refine Below.drewN' ?_ _ | with_reducible refine Below.drew ?_ | ((with_reducible refine Below.alloc' ?_ ?_ _); · (first | omega | (simp <;> omega))))))
  have HKV : Hid (∀ V, Below W0.heap.size W0 V → V.cell? ⟨w.heap.size, 0, none⟩ = some (.int .i64 2) ∧ V.cell? ⟨w.heap.size, 1, none⟩ = some (.int .u32 mg) ∧ V.cell? ⟨w.heap.size, 2, none⟩ = some (.int .i64 fr) ∧ V.cell? ⟨w.heap.size, 3, none⟩ = some (.int .i64 un) ∧ V.cell? ⟨w.heap.size, 4, none⟩ = some (.int .i64 de) ∧ V.cell? ⟨w.heap.size, 5, none⟩ = some (.int .i64 it)) := Lib.hid (fun V hV => by
    have hB := (hV.block w.heap.size (by omega)).trans hB
    have hB : Blk V w.heap.size 24 #[.int .i64 2, .int .u32 mg, .int .i64 fr, .int .i64 un, .int .i64 de, .int .i64 it] := hB
    exact ⟨hB.cell 0, hB.cell 1, hB.cell 2, hB.cell 3, hB.cell 4, hB.cell 5⟩)
  have HF : Hid (∀ V, Below W0.heap.size W0 V → Calls Tryz.prog 45 #[] V fun e w' => e = .returned fmV ∧ Below W0.heap.size W0 w') := Lib.hid (fun V hV => (formats_c V).mono fun e w' ⟨h1, h2⟩ => ⟨h1, hV.trans (h2.mono hV.size)⟩)
  have HW0 := Lib.hid hW0
  have HZ := Lib.hid hz
  unfold fmV fnV at HF
  clear hW0 hB hz
  go_enter Tryz.func19, Tryz.ntmps19
  go_wp2_with fail
  rw [HW0.out]
  refine (HR.out _).mono ?_
  rintro e w1 ⟨rfl, hb1⟩
  have HB1 := Lib.hid hb1
  clear hb1
  obtain ⟨q0, q1, q2, q3, q4, q5⟩ := HKV.out w1 HB1.out
  go_wp2_with fail
  go_region_held3 (fun V => V.cell? ⟨w.heap.size, 0, none⟩ = some (.int .i64 2) ∧ V.cell? ⟨w.heap.size, 1, none⟩ = some (.int .u32 mg) ∧ V.cell? ⟨w.heap.size, 2, none⟩ = some (.int .i64 fr) ∧ V.cell? ⟨w.heap.size, 3, none⟩ = some (.int .i64 un) ∧ V.cell? ⟨w.heap.size, 4, none⟩ = some (.int .i64 de) ∧ V.cell? ⟨w.heap.size, 5, none⟩ = some (.int .i64 it))
    (first | exact HKV.out _ HB1.out | exact HKV.out _ HB1.out.drew | exact HKV.out _ hv | exact HKV.out _ hv.drew)
    (first
      | (go_at_call 45; ((with_reducible refine (HF.out _ HB1.out.drew).mono ?_); rintro e w' ⟨rfl, hv⟩))
      | (go_at_call 73; ((with_reducible refine (HH.out _ _).mono ?_); rintro e w'' ⟨rfl, rfl⟩)))
  all_goals
    go_wp2
    go_ret
    refine ⟨?_, HO.out.trans (hv.mono (by have := HZ.out; omega))⟩
    exact ret_int (by first | rfl | rw [IntWalk.i64_in _ (by omega)])
set_option maxRecDepth 100000 in
set_option maxHeartbeats 2000000 in
theorem wMost3_c (c : Cfg) (h1 : c.fm = 3) (hr : c.right = true) (w : World) : Calls Tryz.prog 19 #[c.val] w fun e w' => e = .returned (.int .i64 (wMost c)) ∧ Below w.heap.size w w' := by
  have HE : Hid (wMost c = wHead c.fr + c.fr) := Lib.hid (by unfold wMost; rw [if_pos hr, if_neg (by omega)])
  have hR := (c.right_iff).1 hr
  have hfr1 := hR.2.2.1
  have hfr2 := hR.2.2.2.1
  have hwh : 1 ≤ wHead c.fr ∧ wHead c.fr ≤ 3 := by unfold wHead; split <;> (try split) <;> omega
  have HH := Lib.hid lengthSize_c
  rw [HE.out]
  have HE2 := HE
  clear hR HE
  have HE : Hid ((0 : Int) = 0) := Lib.hid rfl
  clear HE2
  have hI := fm_at3
  have hFd := fm_fld3_3
  unfold fmV fm3 fnV at hI
  unfold fm3 fnV at hFd
  have HR := Lib.hid (fun w => right_c c w)
  rw [hr] at HR
  unfold Cfg.val at *
  obtain ⟨fm, mg, fr, un, de, it⟩ := c
  simp only at h1
  subst h1
  simp only at *
  obtain ⟨W0, hW0⟩ : ∃ W0, w.alloc (.cells #[.int .i64 3, .int .u32 mg, .int .i64 fr, .int .i64 un, .int .i64 de, .int .i64 it] 24) = W0 := ⟨_, rfl⟩
  have hz : W0.heap.size = w.heap.size + 1 := by rw [← hW0]; simp
  have hB : Blk W0 w.heap.size 24 #[.int .i64 3, .int .u32 mg, .int .i64 fr, .int .i64 un, .int .i64 de, .int .i64 it] := by rw [← hW0]; exact Blk.new w _ _
  have HO : Hid (Below w.heap.size w W0) := Lib.hid (by rw [← hW0]; exact (by repeat (first | exact Below.refl _ _ | assumption | with_reducible refine Below.drewN' ?_ _ | with_reducible refine Below.drew ?_ | ((with_reducible refine Below.alloc' ?_ ?_ _); · (first | omega | (simp <;> omega))))))
  have HKV : Hid (∀ V, Below W0.heap.size W0 V → V.cell? ⟨w.heap.size, 0, none⟩ = some (.int .i64 3) ∧ V.cell? ⟨w.heap.size, 1, none⟩ = some (.int .u32 mg) ∧ V.cell? ⟨w.heap.size, 2, none⟩ = some (.int .i64 fr) ∧ V.cell? ⟨w.heap.size, 3, none⟩ = some (.int .i64 un) ∧ V.cell? ⟨w.heap.size, 4, none⟩ = some (.int .i64 de) ∧ V.cell? ⟨w.heap.size, 5, none⟩ = some (.int .i64 it)) := Lib.hid (fun V hV => by
    have hB := (hV.block w.heap.size (by omega)).trans hB
    have hB : Blk V w.heap.size 24 #[.int .i64 3, .int .u32 mg, .int .i64 fr, .int .i64 un, .int .i64 de, .int .i64 it] := hB
    exact ⟨hB.cell 0, hB.cell 1, hB.cell 2, hB.cell 3, hB.cell 4, hB.cell 5⟩)
  have HF : Hid (∀ V, Below W0.heap.size W0 V → Calls Tryz.prog 45 #[] V fun e w' => e = .returned fmV ∧ Below W0.heap.size W0 w') := Lib.hid (fun V hV => (formats_c V).mono fun e w' ⟨h1, h2⟩ => ⟨h1, hV.trans (h2.mono hV.size)⟩)
  have HW0 := Lib.hid hW0
  have HZ := Lib.hid hz
  unfold fmV fnV at HF
  clear hW0 hB hz
  go_enter Tryz.func19, Tryz.ntmps19
  go_wp2_with fail
  rw [HW0.out]
  refine (HR.out _).mono ?_
  rintro e w1 ⟨rfl, hb1⟩
  have HB1 := Lib.hid hb1
  clear hb1
  obtain ⟨q0, q1, q2, q3, q4, q5⟩ := HKV.out w1 HB1.out
  go_wp2_with fail
  go_region_held3 (fun V => V.cell? ⟨w.heap.size, 0, none⟩ = some (.int .i64 3) ∧ V.cell? ⟨w.heap.size, 1, none⟩ = some (.int .u32 mg) ∧ V.cell? ⟨w.heap.size, 2, none⟩ = some (.int .i64 fr) ∧ V.cell? ⟨w.heap.size, 3, none⟩ = some (.int .i64 un) ∧ V.cell? ⟨w.heap.size, 4, none⟩ = some (.int .i64 de) ∧ V.cell? ⟨w.heap.size, 5, none⟩ = some (.int .i64 it))
    (first | exact HKV.out _ HB1.out | exact HKV.out _ HB1.out.drew | exact HKV.out _ hv | exact HKV.out _ hv.drew)
    (first
      | (go_at_call 45; ((with_reducible refine (HF.out _ HB1.out.drew).mono ?_); rintro e w' ⟨rfl, hv⟩))
      | (go_at_call 73; ((with_reducible refine (HH.out _ _).mono ?_); rintro e w'' ⟨rfl, rfl⟩)))
  all_goals
    go_wp2
    go_ret
    refine ⟨?_, HO.out.trans (hv.mono (by have := HZ.out; omega))⟩
    exact ret_int (by first | rfl | rw [IntWalk.i64_in _ (by omega)])
set_option maxRecDepth 100000 in
set_option maxHeartbeats 1000000 in
theorem wMost_c (c : Cfg) (w : World) : Calls Tryz.prog 19 #[c.val] w fun e w' => e = .returned (.int .i64 (wMost c)) ∧ Below w.heap.size w w' := by
  cases hr : c.right with
  | true =>
    have hR := (c.right_iff).1 hr
    rcases (by omega : c.fm = 1 ∨ c.fm = 2 ∨ c.fm = 3) with h | h | h
    · exact wMost1_c c h hr w
    · exact wMost2_c c h hr w
    · exact wMost3_c c h hr w
  | false =>
    have hE : wMost c = 0 := by unfold wMost; rw [hr]; rfl
    have HR := Lib.hid (fun w => right_c c w)
    rw [hr] at HR
    rw [hE]
    clear hE hr
    unfold Cfg.val at *
    go_enter Tryz.func19, Tryz.ntmps19
    go_wp2_with fail
    refine (HR.out _).mono ?_
    rintro e w1 ⟨rfl, hb1⟩
    have hb2 : Below w.heap.size w w1 := ((Below.refl _ w).alloc (Nat.le_refl _) _).trans (hb1.mono (by simp))
    clear hb1
    go_wp2
    go_ret
    exact ⟨rfl, hb2⟩
theorem blkc (w : World) (c : Cfg) : ∀ V, Below (w.heap.size + 1) (w.alloc (.cells #[.int .i64 c.fm, .int .u32 c.mg, .int .i64 c.fr, .int .i64 c.un, .int .i64 c.de, .int .i64 c.it] 24)) V → V.cell? ⟨w.heap.size, 0, none⟩ = some (.int .i64 c.fm) ∧ V.cell? ⟨w.heap.size, 2, none⟩ = some (.int .i64 c.fr) := fun V hV => by
  have hB : Blk V w.heap.size 24 #[.int .i64 c.fm, .int .u32 c.mg, .int .i64 c.fr, .int .i64 c.un, .int .i64 c.de, .int .i64 c.it] := (hV.block w.heap.size (by omega)).trans (Blk.new w _ _)
  exact ⟨hB.cell 0, hB.cell 2⟩
set_option maxRecDepth 100000 in
set_option maxHeartbeats 1000000 in
theorem refMost17_c (c : Cfg) (w : World) : Calls Tryz.prog 20 #[c.val] w fun e w' => e = .returned (.int .i64 (wMost c)) ∧ Below w.heap.size w w' := by
  cases hr : c.right with
  | true =>
    have hR := (c.right_iff).1 hr
    have hf1 := hR.2.2.1
    have hf2 := hR.2.2.2.1
    clear hR
    by_cases h1 : c.fm = 1
    · have HE : Hid (wMost c = 24 + c.fr) := Lib.hid (by unfold wMost; rw [if_pos hr, if_pos h1])
      rw [HE.out]
      have HC := Lib.hid (blkc w c)
      unfold Cfg.val at *
      have HR := Lib.hid (fun w => refRight17_c c w)
      unfold Cfg.val at HR
      rw [hr] at HR
      obtain ⟨fm, mg, fr, un, de, it⟩ := c
      simp only at *
      (try subst h1)
      go_enter Tryz.func20, Tryz.ntmps20
      go_wp2_with fail
      refine (HR.out _).mono ?_
      rintro e w1 ⟨rfl, hb1⟩
      have hb2 : Hid (Below w.heap.size w w1) := Lib.hid (((Below.refl _ w).alloc (Nat.le_refl _) _).trans (hb1.mono (by simp)))
      have hK := HC.out w1 (hb1.mono (by simp))
      clear hb1 HC
      obtain ⟨q0, q2⟩ := hK
      go_wp2
      go_ret
      exact ⟨ret_int (by first | rfl | rw [IntWalk.i64_in _ (by omega)]), hb2.out⟩
    · by_cases h2 : c.fr < 128
      · have HE : Hid (wMost c = 1 + c.fr) := Lib.hid (by unfold wMost wHead; rw [if_pos hr, if_neg h1, if_pos h2])
        rw [HE.out]
        have HC := Lib.hid (blkc w c)
        unfold Cfg.val at *
        have HR := Lib.hid (fun w => refRight17_c c w)
        unfold Cfg.val at HR
        rw [hr] at HR
        obtain ⟨fm, mg, fr, un, de, it⟩ := c
        simp only at *
        (try subst h1)
        go_enter Tryz.func20, Tryz.ntmps20
        go_wp2_with fail
        refine (HR.out _).mono ?_
        rintro e w1 ⟨rfl, hb1⟩
        have hb2 : Hid (Below w.heap.size w w1) := Lib.hid (((Below.refl _ w).alloc (Nat.le_refl _) _).trans (hb1.mono (by simp)))
        have hK := HC.out w1 (hb1.mono (by simp))
        clear hb1 HC
        obtain ⟨q0, q2⟩ := hK
        go_wp2
        go_ret
        exact ⟨ret_int (by first | rfl | rw [IntWalk.i64_in _ (by omega)]), hb2.out⟩
      · by_cases h3 : c.fr < 16384
        · have HE : Hid (wMost c = 2 + c.fr) := Lib.hid (by unfold wMost wHead; rw [if_pos hr, if_neg h1, if_neg h2, if_pos h3])
          rw [HE.out]
          have HC := Lib.hid (blkc w c)
          unfold Cfg.val at *
          have HR := Lib.hid (fun w => refRight17_c c w)
          unfold Cfg.val at HR
          rw [hr] at HR
          obtain ⟨fm, mg, fr, un, de, it⟩ := c
          simp only at *
          (try subst h1)
          go_enter Tryz.func20, Tryz.ntmps20
          go_wp2_with fail
          refine (HR.out _).mono ?_
          rintro e w1 ⟨rfl, hb1⟩
          have hb2 : Hid (Below w.heap.size w w1) := Lib.hid (((Below.refl _ w).alloc (Nat.le_refl _) _).trans (hb1.mono (by simp)))
          have hK := HC.out w1 (hb1.mono (by simp))
          clear hb1 HC
          obtain ⟨q0, q2⟩ := hK
          go_wp2
          go_ret
          exact ⟨ret_int (by first | rfl | rw [IntWalk.i64_in _ (by omega)]), hb2.out⟩
        · have HE : Hid (wMost c = 3 + c.fr) := Lib.hid (by unfold wMost wHead; rw [if_pos hr, if_neg h1, if_neg h2, if_neg h3])
          rw [HE.out]
          have HC := Lib.hid (blkc w c)
          unfold Cfg.val at *
          have HR := Lib.hid (fun w => refRight17_c c w)
          unfold Cfg.val at HR
          rw [hr] at HR
          obtain ⟨fm, mg, fr, un, de, it⟩ := c
          simp only at *
          (try subst h1)
          go_enter Tryz.func20, Tryz.ntmps20
          go_wp2_with fail
          refine (HR.out _).mono ?_
          rintro e w1 ⟨rfl, hb1⟩
          have hb2 : Hid (Below w.heap.size w w1) := Lib.hid (((Below.refl _ w).alloc (Nat.le_refl _) _).trans (hb1.mono (by simp)))
          have hK := HC.out w1 (hb1.mono (by simp))
          clear hb1 HC
          obtain ⟨q0, q2⟩ := hK
          go_wp2
          go_ret
          exact ⟨ret_int (by first | rfl | rw [IntWalk.i64_in _ (by omega)]), hb2.out⟩
  | false =>
    have hE : wMost c = 0 := by unfold wMost; rw [hr]; rfl
    rw [hE]
    clear hE
    have HC := Lib.hid (blkc w c)
    unfold Cfg.val at *
    have HR := Lib.hid (fun w => refRight17_c c w)
    unfold Cfg.val at HR
    rw [hr] at HR
    obtain ⟨fm, mg, fr, un, de, it⟩ := c
    simp only at *
    (try subst h1)
    go_enter Tryz.func20, Tryz.ntmps20
    go_wp2_with fail
    refine (HR.out _).mono ?_
    rintro e w1 ⟨rfl, hb1⟩
    have hb2 : Hid (Below w.heap.size w w1) := Lib.hid (((Below.refl _ w).alloc (Nat.le_refl _) _).trans (hb1.mono (by simp)))
    have hK := HC.out w1 (hb1.mono (by simp))
    clear hb1 HC
    obtain ⟨q0, q2⟩ := hK
    go_wp2
    go_ret
    exact ⟨rfl, hb2.out⟩
end Go.Proofs.YtebllmpdlapefaaGreatDoor
