/- WireMost: bytes that are short are fewer than Most, or than 10. -/
import Derived.Test.YtebllmpdlapefaaGreatDoorKA32
namespace Go.Proofs.YtebllmpdlapefaaGreatDoor
set_option linter.unusedVariables false
set_option linter.unusedSimpArgs false
open Go.RowKit

set_option maxRecDepth 100000 in
set_option maxHeartbeats 4000000 in
theorem wireMost_w (c : Cfg) (s : ByteArray) (w : World) (hc : c.ok) (hs : s.size ≤ 9223372036854775807) :
    Calls Tryz.prog 4 #[c.val, .string s] w fun e w' => e = .returned (.bool true) ∧ Below w.heap.size w w' := by
  by_cases h1 : (1000 : Int) < s.size
  · have HA := Lib.hid wireAlive
    have HR := Lib.hid (fun w => refRight17_c c w)
    unfold Cfg.val at *
    obtain ⟨fm, mg, fr, un, de, it⟩ := c
    simp only at *
    obtain ⟨W0, hW0⟩ : ∃ W0, w.alloc (.cells #[.int .i64 fm, .int .u32 mg, .int .i64 fr, .int .i64 un, .int .i64 de, .int .i64 it] 24) = W0 := ⟨_, rfl⟩
    have hz : W0.heap.size = w.heap.size + 1 := by rw [← hW0]; simp
    have hB : Blk W0 w.heap.size 24 #[.int .i64 fm, .int .u32 mg, .int .i64 fr, .int .i64 un, .int .i64 de, .int .i64 it] := by rw [← hW0]; exact Blk.new w _ _
    have HO : Hid (∀ V, Below W0.heap.size W0 V → Below w.heap.size w V) := Lib.hid (fun V hV => by
      have h1 : Below w.heap.size w W0 := by rw [← hW0]; exact (by repeat (first | exact Below.refl _ _ | assumption | with_reducible refine Below.drewN' ?_ _ | with_reducible refine Below.drew ?_ | ((with_reducible refine Below.alloc' ?_ ?_ _); · (first | omega | (simp <;> omega)))))
      exact h1.trans (hV.mono (by omega)))
    have HKV : Hid (∀ V, Below W0.heap.size W0 V → V.cell? ⟨w.heap.size, 0, none⟩ = some (.int .i64 fm) ∧ V.cell? ⟨w.heap.size, 1, none⟩ = some (.int .u32 mg) ∧ V.cell? ⟨w.heap.size, 2, none⟩ = some (.int .i64 fr) ∧ V.cell? ⟨w.heap.size, 3, none⟩ = some (.int .i64 un) ∧ V.cell? ⟨w.heap.size, 4, none⟩ = some (.int .i64 de) ∧ V.cell? ⟨w.heap.size, 5, none⟩ = some (.int .i64 it)) := Lib.hid (fun V hV => by
      have hB := hB.keep hV (by omega)
      exact ⟨hB.cell 0, hB.cell 1, hB.cell 2, hB.cell 3, hB.cell 4, hB.cell 5⟩)
    have HW0 := Lib.hid hW0
    clear hW0 hB hz
    go_enter Tryz.func4, Tryz.ntmps4
    go_wp2_with fail
    rw [HW0.out]
    refine (HA.out _).mono ?_
    rintro e w1 ⟨rfl, hb⟩
    have HM1 : Hid (Below W0.heap.size W0 w1) := Lib.hid hb
    clear hb
    obtain ⟨q0, q1, q2, q3, q4, q5⟩ := HKV.out w1 HM1.out
    go_wp2
    go_ret
    exact ⟨rfl, HO.out _ HM1.out⟩
  · cases hr : c.right with
    | false =>
      have HR0 := Lib.hid (fun w => refRight17_c c w)
      rw [hr] at HR0
      unfold Cfg.val at HR0
      have HA := Lib.hid wireAlive
      have HR := Lib.hid (fun w => refRight17_c c w)
      unfold Cfg.val at *
      obtain ⟨fm, mg, fr, un, de, it⟩ := c
      simp only at *
      obtain ⟨W0, hW0⟩ : ∃ W0, w.alloc (.cells #[.int .i64 fm, .int .u32 mg, .int .i64 fr, .int .i64 un, .int .i64 de, .int .i64 it] 24) = W0 := ⟨_, rfl⟩
      have hz : W0.heap.size = w.heap.size + 1 := by rw [← hW0]; simp
      have hB : Blk W0 w.heap.size 24 #[.int .i64 fm, .int .u32 mg, .int .i64 fr, .int .i64 un, .int .i64 de, .int .i64 it] := by rw [← hW0]; exact Blk.new w _ _
      have HO : Hid (∀ V, Below W0.heap.size W0 V → Below w.heap.size w V) := Lib.hid (fun V hV => by
        have h1 : Below w.heap.size w W0 := by rw [← hW0]; exact (by repeat (first | exact Below.refl _ _ | assumption | with_reducible refine Below.drewN' ?_ _ | with_reducible refine Below.drew ?_ | ((with_reducible refine Below.alloc' ?_ ?_ _); · (first | omega | (simp <;> omega)))))
        exact h1.trans (hV.mono (by omega)))
      have HKV : Hid (∀ V, Below W0.heap.size W0 V → V.cell? ⟨w.heap.size, 0, none⟩ = some (.int .i64 fm) ∧ V.cell? ⟨w.heap.size, 1, none⟩ = some (.int .u32 mg) ∧ V.cell? ⟨w.heap.size, 2, none⟩ = some (.int .i64 fr) ∧ V.cell? ⟨w.heap.size, 3, none⟩ = some (.int .i64 un) ∧ V.cell? ⟨w.heap.size, 4, none⟩ = some (.int .i64 de) ∧ V.cell? ⟨w.heap.size, 5, none⟩ = some (.int .i64 it)) := Lib.hid (fun V hV => by
        have hB := hB.keep hV (by omega)
        exact ⟨hB.cell 0, hB.cell 1, hB.cell 2, hB.cell 3, hB.cell 4, hB.cell 5⟩)
      have HW0 := Lib.hid hW0
      clear hW0 hB hz
      go_enter Tryz.func4, Tryz.ntmps4
      go_wp2_with fail
      rw [HW0.out]
      refine (HA.out _).mono ?_
      rintro e w1 ⟨rfl, hb⟩
      have HM1 : Hid (Below W0.heap.size W0 w1) := Lib.hid hb
      clear hb
      obtain ⟨q0, q1, q2, q3, q4, q5⟩ := HKV.out w1 HM1.out
      go_wp2_with fail
      refine (HR0.out _).mono ?_
      rintro e w2 ⟨rfl, hb2⟩
      have HM2 : Hid (Below W0.heap.size W0 w2) := Lib.hid (HM1.out.trans (hb2.mono HM1.out.size))
      clear q0 q1 q2 q3 q4 q5 hb2
      obtain ⟨q0, q1, q2, q3, q4, q5⟩ := HKV.out w2 HM2.out
      go_wp2
      go_ret
      exact ⟨rfl, HO.out _ HM2.out⟩
    | true =>
      have HR0 := Lib.hid (fun w => refRight17_c c w)
      rw [hr] at HR0
      have HN := Lib.hid (fun w => wNext_c c s hc (by omega) w)
      have HS := Lib.hid (wMost_c c)
      have hsh := fun h => wRaw_short (c := c) (s := s) hr h
      rw [wNext_right hr] at HN
      unfold wRet Fr.val at HN
      generalize wRaw c s = X at *
      obtain ⟨y5, ⟨y1, y2, y3⟩, y4, m⟩ := X
      simp only at HN hsh
      generalize wMost c = M at *
      unfold Cfg.val at HR0 HN HS
      by_cases h2 : y5 = 2
      · have hlt := hsh h2
        clear hsh
        subst h2
        have HA := Lib.hid wireAlive
        have HR := Lib.hid (fun w => refRight17_c c w)
        unfold Cfg.val at *
        obtain ⟨fm, mg, fr, un, de, it⟩ := c
        simp only at *
        obtain ⟨W0, hW0⟩ : ∃ W0, w.alloc (.cells #[.int .i64 fm, .int .u32 mg, .int .i64 fr, .int .i64 un, .int .i64 de, .int .i64 it] 24) = W0 := ⟨_, rfl⟩
        have hz : W0.heap.size = w.heap.size + 1 := by rw [← hW0]; simp
        have hB : Blk W0 w.heap.size 24 #[.int .i64 fm, .int .u32 mg, .int .i64 fr, .int .i64 un, .int .i64 de, .int .i64 it] := by rw [← hW0]; exact Blk.new w _ _
        have HO : Hid (∀ V, Below W0.heap.size W0 V → Below w.heap.size w V) := Lib.hid (fun V hV => by
          have h1 : Below w.heap.size w W0 := by rw [← hW0]; exact (by repeat (first | exact Below.refl _ _ | assumption | with_reducible refine Below.drewN' ?_ _ | with_reducible refine Below.drew ?_ | ((with_reducible refine Below.alloc' ?_ ?_ _); · (first | omega | (simp <;> omega)))))
          exact h1.trans (hV.mono (by omega)))
        have HKV : Hid (∀ V, Below W0.heap.size W0 V → V.cell? ⟨w.heap.size, 0, none⟩ = some (.int .i64 fm) ∧ V.cell? ⟨w.heap.size, 1, none⟩ = some (.int .u32 mg) ∧ V.cell? ⟨w.heap.size, 2, none⟩ = some (.int .i64 fr) ∧ V.cell? ⟨w.heap.size, 3, none⟩ = some (.int .i64 un) ∧ V.cell? ⟨w.heap.size, 4, none⟩ = some (.int .i64 de) ∧ V.cell? ⟨w.heap.size, 5, none⟩ = some (.int .i64 it)) := Lib.hid (fun V hV => by
          have hB := hB.keep hV (by omega)
          exact ⟨hB.cell 0, hB.cell 1, hB.cell 2, hB.cell 3, hB.cell 4, hB.cell 5⟩)
        have HW0 := Lib.hid hW0
        clear hW0 hB hz
        go_enter Tryz.func4, Tryz.ntmps4
        go_wp2_with fail
        rw [HW0.out]
        refine (HA.out _).mono ?_
        rintro e w1 ⟨rfl, hb⟩
        have HM1 : Hid (Below W0.heap.size W0 w1) := Lib.hid hb
        clear hb
        obtain ⟨q0, q1, q2, q3, q4, q5⟩ := HKV.out w1 HM1.out
        go_wp2_with fail
        refine (HR0.out _).mono ?_
        rintro e w2 ⟨rfl, hb2⟩
        have HM2 : Hid (Below W0.heap.size W0 w2) := Lib.hid (HM1.out.trans (hb2.mono HM1.out.size))
        clear q0 q1 q2 q3 q4 q5 hb2
        obtain ⟨q0, q1, q2, q3, q4, q5⟩ := HKV.out w2 HM2.out
        go_wp2_with fail
        refine (HN.out _).mono ?_
        rintro e w3 ⟨rfl, hb3⟩
        have HM3 : Hid (Below W0.heap.size W0 w3) := Lib.hid (HM2.out.trans (hb3.mono HM2.out.size))
        clear q0 q1 q2 q3 q4 q5 hb3
        obtain ⟨q0, q1, q2, q3, q4, q5⟩ := HKV.out w3 HM3.out
        have HM4 : Hid (Below W0.heap.size W0 (w3.alloc (.cells #[.int .u64 y1, .string y2, .string y3] 27))) := Lib.hid (HM3.out.alloc HM3.out.size _)
        clear q0 q1 q2 q3 q4 q5
        obtain ⟨q0, q1, q2, q3, q4, q5⟩ := HKV.out _ HM4.out
        go_wp2_with fail
        refine (HS.out _).mono ?_
        rintro e w5 ⟨rfl, hb5⟩
        have HM5 : Hid (Below W0.heap.size W0 w5) := Lib.hid (HM4.out.trans (hb5.mono HM4.out.size))
        clear q0 q1 q2 q3 q4 q5 hb5
        obtain ⟨q0, q1, q2, q3, q4, q5⟩ := HKV.out w5 HM5.out
        go_wp2
        go_ret
        exact ⟨ret_bool (by simp), HO.out _ HM5.out⟩
      · have h3 : (y5 == 2) = false := by simpa using h2
        have h4 : (y5 != 2) = true := by simpa using h2
        clear hsh
        have HA := Lib.hid wireAlive
        have HR := Lib.hid (fun w => refRight17_c c w)
        unfold Cfg.val at *
        obtain ⟨fm, mg, fr, un, de, it⟩ := c
        simp only at *
        obtain ⟨W0, hW0⟩ : ∃ W0, w.alloc (.cells #[.int .i64 fm, .int .u32 mg, .int .i64 fr, .int .i64 un, .int .i64 de, .int .i64 it] 24) = W0 := ⟨_, rfl⟩
        have hz : W0.heap.size = w.heap.size + 1 := by rw [← hW0]; simp
        have hB : Blk W0 w.heap.size 24 #[.int .i64 fm, .int .u32 mg, .int .i64 fr, .int .i64 un, .int .i64 de, .int .i64 it] := by rw [← hW0]; exact Blk.new w _ _
        have HO : Hid (∀ V, Below W0.heap.size W0 V → Below w.heap.size w V) := Lib.hid (fun V hV => by
          have h1 : Below w.heap.size w W0 := by rw [← hW0]; exact (by repeat (first | exact Below.refl _ _ | assumption | with_reducible refine Below.drewN' ?_ _ | with_reducible refine Below.drew ?_ | ((with_reducible refine Below.alloc' ?_ ?_ _); · (first | omega | (simp <;> omega)))))
          exact h1.trans (hV.mono (by omega)))
        have HKV : Hid (∀ V, Below W0.heap.size W0 V → V.cell? ⟨w.heap.size, 0, none⟩ = some (.int .i64 fm) ∧ V.cell? ⟨w.heap.size, 1, none⟩ = some (.int .u32 mg) ∧ V.cell? ⟨w.heap.size, 2, none⟩ = some (.int .i64 fr) ∧ V.cell? ⟨w.heap.size, 3, none⟩ = some (.int .i64 un) ∧ V.cell? ⟨w.heap.size, 4, none⟩ = some (.int .i64 de) ∧ V.cell? ⟨w.heap.size, 5, none⟩ = some (.int .i64 it)) := Lib.hid (fun V hV => by
          have hB := hB.keep hV (by omega)
          exact ⟨hB.cell 0, hB.cell 1, hB.cell 2, hB.cell 3, hB.cell 4, hB.cell 5⟩)
        have HW0 := Lib.hid hW0
        clear hW0 hB hz
        go_enter Tryz.func4, Tryz.ntmps4
        go_wp2_with fail
        rw [HW0.out]
        refine (HA.out _).mono ?_
        rintro e w1 ⟨rfl, hb⟩
        have HM1 : Hid (Below W0.heap.size W0 w1) := Lib.hid hb
        clear hb
        obtain ⟨q0, q1, q2, q3, q4, q5⟩ := HKV.out w1 HM1.out
        go_wp2_with fail
        refine (HR0.out _).mono ?_
        rintro e w2 ⟨rfl, hb2⟩
        have HM2 : Hid (Below W0.heap.size W0 w2) := Lib.hid (HM1.out.trans (hb2.mono HM1.out.size))
        clear q0 q1 q2 q3 q4 q5 hb2
        obtain ⟨q0, q1, q2, q3, q4, q5⟩ := HKV.out w2 HM2.out
        go_wp2_with fail
        refine (HN.out _).mono ?_
        rintro e w3 ⟨rfl, hb3⟩
        have HM3 : Hid (Below W0.heap.size W0 w3) := Lib.hid (HM2.out.trans (hb3.mono HM2.out.size))
        clear q0 q1 q2 q3 q4 q5 hb3
        obtain ⟨q0, q1, q2, q3, q4, q5⟩ := HKV.out w3 HM3.out
        go_wp2
        go_ret
        exact ⟨rfl, (HO.out _ HM3.out).alloc (by have := (HO.out _ HM3.out).size; omega) _⟩
theorem wireMost_row (c : Cfg) (s : ByteArray) (w : World) (hc : c.ok) (hs : s.size ≤ maxLen) :
    Calls Tryz.prog 4 #[c.val, .string s] w fun e w' => e = .returned (.bool true) ∧ Below w.heap.size w w' :=
  wireMost_w c s w hc (by simpa [maxLen] using hs)
end Go.Proofs.YtebllmpdlapefaaGreatDoor
