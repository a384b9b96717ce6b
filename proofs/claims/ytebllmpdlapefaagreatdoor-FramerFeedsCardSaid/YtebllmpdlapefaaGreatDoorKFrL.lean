/- FramerFeeds: whatever is fed to a framer of any config: the frames, the error, the buffer, what was laid, and how many frames were told, are the document's. -/
import Derived.Test.YtebllmpdlapefaaGreatDoorKA38
import Derived.Test.YtebllmpdlapefaaGreatDoorKA39
import Derived.Test.YtebllmpdlapefaaGreatDoorKA40
namespace Go.Proofs.YtebllmpdlapefaaGreatDoor
set_option linter.unusedVariables false
set_option linter.unusedSimpArgs false
open Go.RowKit

theorem info_rfr : (Tryz.prog.info? 76).map (·.size) = some 10 := by kernel_rfl
theorem only10 (w : World) (g : Nat) (v0 v1 v2 v3 v4 v5 v6 v7 v8 v9 : Value) : Only [g] w ((((((((((w.setCell ⟨g, 0, none⟩ v0).setCell ⟨g, 1, none⟩ v1).setCell ⟨g, 2, none⟩ v2).setCell ⟨g, 3, none⟩ v3).setCell ⟨g, 4, none⟩ v4).setCell ⟨g, 5, none⟩ v5).setCell ⟨g, 6, none⟩ v6).setCell ⟨g, 7, none⟩ v7).setCell ⟨g, 8, none⟩ v8).setCell ⟨g, 9, none⟩ v9) := ((((((((((Only.refl [g] w).setCell (.inl (by simp)) _).setCell (.inl (by simp)) _).setCell (.inl (by simp)) _).setCell (.inl (by simp)) _).setCell (.inl (by simp)) _).setCell (.inl (by simp)) _).setCell (.inl (by simp)) _).setCell (.inl (by simp)) _).setCell (.inl (by simp)) _).setCell (.inl (by simp)) _
set_option maxRecDepth 100000 in
set_option maxHeartbeats 4000000 in
theorem framerFeeds_w (c : Cfg) (l : List ByteArray) (v : Value) (w : World) (hc : c.ok) (hv : StR w w.heap.size v l) (hl : ∀ s ∈ l, s.size ≤ 9223372036854775807) :
    Calls Tryz.prog 12 #[c.val, v] w fun e w' => e = .returned (.bool true) ∧ Below w.heap.size w w' := by
  obtain ⟨A, n, cap, rfl, hn, hnc, hcm⟩ := hv.form'
  have HV := Lib.hid hv
  clear hv
  cases hgr : (decide (200 < l.length) || decide (1500 < min (sizes l) 10000)) with
  | true =>
    unfold Cfg.val at *
    obtain ⟨W0, hW0⟩ : ∃ W0, w.alloc (.cells #[.int .i64 c.fm, .int .u32 c.mg, .int .i64 c.fr, .int .i64 c.un, .int .i64 c.de, .int .i64 c.it] 24) = W0 := ⟨_, rfl⟩
    have hz : W0.heap.size = w.heap.size + 1 := by rw [← hW0]; simp
    have hB : Blk W0 w.heap.size 24 #[.int .i64 c.fm, .int .u32 c.mg, .int .i64 c.fr, .int .i64 c.un, .int .i64 c.de, .int .i64 c.it] := by rw [← hW0]; exact Blk.new w _ _
    have HO : Hid (∀ V, Below W0.heap.size W0 V → Below w.heap.size w V ∧ w.heap.size + 1 ≤ V.heap.size) := Lib.hid (fun V hV => by
      have h1 : Below w.heap.size w W0 := by rw [← hW0]; exact (by repeat (first | exact Below.refl _ _ | assumption | with_reducible refine Below.drewN' ?_ _ | with_reducible refine Below.drew ?_ | ((with_reducible refine Below.alloc' ?_ ?_ _); · (first | omega | (simp <;> omega)))))
      exact ⟨h1.trans (hV.mono (by omega)), by have := hV.size; omega⟩)
    have HKB : Hid (∀ V, Below W0.heap.size W0 V → Blk V w.heap.size 24 #[.int .i64 c.fm, .int .u32 c.mg, .int .i64 c.fr, .int .i64 c.un, .int .i64 c.de, .int .i64 c.it]) := Lib.hid (fun V hV => hB.keep hV (by omega))
    have HKV : Hid (∀ V, Below W0.heap.size W0 V → V.cell? ⟨w.heap.size, 0, none⟩ = some (.int .i64 c.fm) ∧ V.cell? ⟨w.heap.size, 1, none⟩ = some (.int .u32 c.mg) ∧ V.cell? ⟨w.heap.size, 2, none⟩ = some (.int .i64 c.fr) ∧ V.cell? ⟨w.heap.size, 3, none⟩ = some (.int .i64 c.un) ∧ V.cell? ⟨w.heap.size, 4, none⟩ = some (.int .i64 c.de) ∧ V.cell? ⟨w.heap.size, 5, none⟩ = some (.int .i64 c.it)) := Lib.hid (fun V hV => by
      have hB := hB.keep hV (by omega)
      exact ⟨hB.cell 0, hB.cell 1, hB.cell 2, hB.cell 3, hB.cell 4, hB.cell 5⟩)
    have HW0 := Lib.hid hW0
    have HV0 : Hid (∀ V, Below W0.heap.size W0 V → StR V w.heap.size (.slice A n cap) l) := Lib.hid (fun V hV => HV.out.below (HO.out V hV).1)
    clear hW0 hB hz HV
    go_enter Tryz.func12, Tryz.ntmps12
    go_wp2_with fail
    rw [HW0.out]
    refine (frAlive _).mono ?_
    rintro e w1 ⟨rfl, hb⟩
    have HM1 : Hid (Below W0.heap.size W0 w1) := Lib.hid hb
    clear hb
    have HG1 := Lib.hid (great19_c l (.slice A n cap) w.heap.size w1 (HV0.out _ HM1.out) (by have := (HO.out _ HM1.out).2; omega) hl)
    obtain ⟨q0, q1, q2, q3, q4, q5⟩ := HKV.out w1 HM1.out
    rw [hgr] at HG1
    go_wp2_with fail
    refine HG1.out.mono ?_
    rintro e w2 ⟨rfl, hb⟩
    have HM2 : Hid (Below W0.heap.size W0 w2) := Lib.hid (HM1.out.trans (hb.mono HM1.out.size))
    clear hb HG1
    clear q0 q1 q2 q3 q4 q5
    obtain ⟨q0, q1, q2, q3, q4, q5⟩ := HKV.out w2 HM2.out
    go_wp2
    go_ret
    exact ⟨rfl, (HO.out _ HM2.out).1⟩
  | false =>
  have hgr' := hgr
  simp at hgr'
  obtain ⟨hl200, hsz⟩ := hgr'
  have hsz : sizes l ≤ 1500 := by omega
  cases hr : c.right with
  | false =>
    have HN := Lib.hid (fun V => frNew_no c V hr)
    have HR := Lib.hid (fun V => refRight19_c c V)
    rw [hr] at HR
    unfold Cfg.val at *
    obtain ⟨W0, hW0⟩ : ∃ W0, w.alloc (.cells #[.int .i64 c.fm, .int .u32 c.mg, .int .i64 c.fr, .int .i64 c.un, .int .i64 c.de, .int .i64 c.it] 24) = W0 := ⟨_, rfl⟩
    have hz : W0.heap.size = w.heap.size + 1 := by rw [← hW0]; simp
    have hB : Blk W0 w.heap.size 24 #[.int .i64 c.fm, .int .u32 c.mg, .int .i64 c.fr, .int .i64 c.un, .int .i64 c.de, .int .i64 c.it] := by rw [← hW0]; exact Blk.new w _ _
    have HO : Hid (∀ V, Below W0.heap.size W0 V → Below w.heap.size w V ∧ w.heap.size + 1 ≤ V.heap.size) := Lib.hid (fun V hV => by
      have h1 : Below w.heap.size w W0 := by rw [← hW0]; exact (by repeat (first | exact Below.refl _ _ | assumption | with_reducible refine Below.drewN' ?_ _ | with_reducible refine Below.drew ?_ | ((with_reducible refine Below.alloc' ?_ ?_ _); · (first | omega | (simp <;> omega)))))
      exact ⟨h1.trans (hV.mono (by omega)), by have := hV.size; omega⟩)
    have HKB : Hid (∀ V, Below W0.heap.size W0 V → Blk V w.heap.size 24 #[.int .i64 c.fm, .int .u32 c.mg, .int .i64 c.fr, .int .i64 c.un, .int .i64 c.de, .int .i64 c.it]) := Lib.hid (fun V hV => hB.keep hV (by omega))
    have HKV : Hid (∀ V, Below W0.heap.size W0 V → V.cell? ⟨w.heap.size, 0, none⟩ = some (.int .i64 c.fm) ∧ V.cell? ⟨w.heap.size, 1, none⟩ = some (.int .u32 c.mg) ∧ V.cell? ⟨w.heap.size, 2, none⟩ = some (.int .i64 c.fr) ∧ V.cell? ⟨w.heap.size, 3, none⟩ = some (.int .i64 c.un) ∧ V.cell? ⟨w.heap.size, 4, none⟩ = some (.int .i64 c.de) ∧ V.cell? ⟨w.heap.size, 5, none⟩ = some (.int .i64 c.it)) := Lib.hid (fun V hV => by
      have hB := hB.keep hV (by omega)
      exact ⟨hB.cell 0, hB.cell 1, hB.cell 2, hB.cell 3, hB.cell 4, hB.cell 5⟩)
    have HW0 := Lib.hid hW0
    have HV0 : Hid (∀ V, Below W0.heap.size W0 V → StR V w.heap.size (.slice A n cap) l) := Lib.hid (fun V hV => HV.out.below (HO.out V hV).1)
    clear hW0 hB hz HV
    go_enter Tryz.func12, Tryz.ntmps12
    go_wp2_with fail
    rw [HW0.out]
    refine (frAlive _).mono ?_
    rintro e w1 ⟨rfl, hb⟩
    have HM1 : Hid (Below W0.heap.size W0 w1) := Lib.hid hb
    clear hb
    have HG1 := Lib.hid (great19_c l (.slice A n cap) w.heap.size w1 (HV0.out _ HM1.out) (by have := (HO.out _ HM1.out).2; omega) hl)
    obtain ⟨q0, q1, q2, q3, q4, q5⟩ := HKV.out w1 HM1.out
    rw [hgr] at HG1
    go_wp2_with fail
    refine HG1.out.mono ?_
    rintro e w2 ⟨rfl, hb⟩
    have HM2 : Hid (Below W0.heap.size W0 w2) := Lib.hid (HM1.out.trans (hb.mono HM1.out.size))
    clear hb HG1
    clear q0 q1 q2 q3 q4 q5
    obtain ⟨q0, q1, q2, q3, q4, q5⟩ := HKV.out w2 HM2.out
    go_wp2_with fail
    refine (HN.out _).mono ?_
    rintro e w3 ⟨rfl, hb⟩
    have HM3 : Hid (Below W0.heap.size W0 w3) := Lib.hid (HM2.out.trans (hb.mono HM2.out.size))
    clear hb
    clear q0 q1 q2 q3 q4 q5
    obtain ⟨q0, q1, q2, q3, q4, q5⟩ := HKV.out w3 HM3.out
    go_wp2_with fail
    refine (HR.out _).mono ?_
    rintro e w4 ⟨rfl, hb⟩
    have HM4 : Hid (Below W0.heap.size W0 w4) := Lib.hid (HM3.out.trans (hb.mono HM3.out.size))
    clear hb
    go_wp2_with fail
    refine (frFeed_nil _ _).mono ?_
    rintro e w5 ⟨rfl, rfl⟩
    go_wp2_with fail
    refine (frBuffered_nil _).mono ?_
    rintro e w5 ⟨rfl, rfl⟩
    go_wp2_with fail
    refine (frTail_nil _).mono ?_
    rintro e w5 ⟨rfl, rfl⟩
    go_wp2_with fail
    refine (frFault_nil _).mono ?_
    rintro e w5 ⟨rfl, rfl⟩
    go_wp2_with fail
    refine (frMetered_nil _).mono ?_
    rintro e w5 ⟨rfl, rfl⟩
    go_wp2_with fail
    refine (frTold_nil _).mono ?_
    rintro e w5 ⟨rfl, rfl⟩
    go_wp2
    go_ret
    exact ⟨ret_bool (by simp), (HO.out _ HM4.out).1⟩
  | true =>
    have HR := Lib.hid (fun V => refRight19_c c V)
    rw [hr] at HR
    have HN := Lib.hid (fun V => frNew_c c V hr)
    have HK := Lib.hid makeKey_c
    unfold keyV at HK
    have HI := Lib.hid (info_key' 64)
    have hKL : (kC 64).size = 72 := kC_size 64
    have HZ : Hid (Tryz.zeroCells32.size = (kC 64).size) := Lib.hid (by rw [zero_size, hKL])
    have HO1 := Lib.hid (kC_one 64)
    have HRF := Lib.hid (fun x (s : ByteArray) V => refFeed19_c c x s V hc)
    unfold keyV at HRF
    generalize kC 64 = KL at *
    unfold Cfg.val at *
    obtain ⟨W0, hW0⟩ : ∃ W0, w.alloc (.cells #[.int .i64 c.fm, .int .u32 c.mg, .int .i64 c.fr, .int .i64 c.un, .int .i64 c.de, .int .i64 c.it] 24) = W0 := ⟨_, rfl⟩
    have hz : W0.heap.size = w.heap.size + 1 := by rw [← hW0]; simp
    have hB : Blk W0 w.heap.size 24 #[.int .i64 c.fm, .int .u32 c.mg, .int .i64 c.fr, .int .i64 c.un, .int .i64 c.de, .int .i64 c.it] := by rw [← hW0]; exact Blk.new w _ _
    have HO : Hid (∀ V, Below W0.heap.size W0 V → Below w.heap.size w V ∧ w.heap.size + 1 ≤ V.heap.size) := Lib.hid (fun V hV => by
      have h1 : Below w.heap.size w W0 := by rw [← hW0]; exact (by repeat (first | exact Below.refl _ _ | assumption | with_reducible refine Below.drewN' ?_ _ | with_reducible refine Below.drew ?_ | ((with_reducible refine Below.alloc' ?_ ?_ _); · (first | omega | (simp <;> omega)))))
      exact ⟨h1.trans (hV.mono (by omega)), by have := hV.size; omega⟩)
    have HKB : Hid (∀ V, Below W0.heap.size W0 V → Blk V w.heap.size 24 #[.int .i64 c.fm, .int .u32 c.mg, .int .i64 c.fr, .int .i64 c.un, .int .i64 c.de, .int .i64 c.it]) := Lib.hid (fun V hV => hB.keep hV (by omega))
    have HKV : Hid (∀ V, Below W0.heap.size W0 V → V.cell? ⟨w.heap.size, 0, none⟩ = some (.int .i64 c.fm) ∧ V.cell? ⟨w.heap.size, 1, none⟩ = some (.int .u32 c.mg) ∧ V.cell? ⟨w.heap.size, 2, none⟩ = some (.int .i64 c.fr) ∧ V.cell? ⟨w.heap.size, 3, none⟩ = some (.int .i64 c.un) ∧ V.cell? ⟨w.heap.size, 4, none⟩ = some (.int .i64 c.de) ∧ V.cell? ⟨w.heap.size, 5, none⟩ = some (.int .i64 c.it)) := Lib.hid (fun V hV => by
      have hB := hB.keep hV (by omega)
      exact ⟨hB.cell 0, hB.cell 1, hB.cell 2, hB.cell 3, hB.cell 4, hB.cell 5⟩)
    have HW0 := Lib.hid hW0
    have HV0 : Hid (∀ V, Below W0.heap.size W0 V → StR V w.heap.size (.slice A n cap) l) := Lib.hid (fun V hV => HV.out.below (HO.out V hV).1)
    clear hW0 hB hz HV
    go_enter Tryz.func12, Tryz.ntmps12
    go_wp2_with fail
    rw [HW0.out]
    refine (frAlive _).mono ?_
    rintro e w1 ⟨rfl, hb⟩
    have HM1 : Hid (Below W0.heap.size W0 w1) := Lib.hid hb
    clear hb
    have HG1 := Lib.hid (great19_c l (.slice A n cap) w.heap.size w1 (HV0.out _ HM1.out) (by have := (HO.out _ HM1.out).2; omega) hl)
    obtain ⟨q0, q1, q2, q3, q4, q5⟩ := HKV.out w1 HM1.out
    rw [hgr] at HG1
    go_wp2_with fail
    refine HG1.out.mono ?_
    rintro e w2 ⟨rfl, hb⟩
    have HM2 : Hid (Below W0.heap.size W0 w2) := Lib.hid (HM1.out.trans (hb.mono HM1.out.size))
    clear hb HG1
    clear q0 q1 q2 q3 q4 q5
    obtain ⟨q0, q1, q2, q3, q4, q5⟩ := HKV.out w2 HM2.out
    go_wp2_with fail
    refine (HN.out _).mono ?_
    rintro e w3 ⟨⟨g, rfl, hf3⟩, hb⟩
    have HM3 : Hid (Below W0.heap.size W0 w3) := Lib.hid (HM2.out.trans (hb.mono HM2.out.size))
    have HF3 := Lib.hid hf3
    clear hb hf3
    clear q0 q1 q2 q3 q4 q5
    obtain ⟨q0, q1, q2, q3, q4, q5⟩ := HKV.out w3 HM3.out
    go_wp2_with fail
    refine (HR.out _).mono ?_
    rintro e w4 ⟨rfl, hb⟩
    have HM4 : Hid (Below W0.heap.size W0 w4) := Lib.hid (HM3.out.trans (hb.mono HM3.out.size))
    have HF4 := Lib.hid (HF3.out.below hb)
    clear hb HF3
    clear q0 q1 q2 q3 q4 q5
    obtain ⟨q0, q1, q2, q3, q4, q5⟩ := HKV.out w4 HM4.out
    go_wp2_with fail
    refine (show Calls Tryz.prog 41 #[.pointer (some ⟨g, 0, none⟩)] w4 fun e w' => e = .returned (.int .i64 0) ∧ w4 = w' from frMetered_c _ _ _ _ _ _ HF4.out).mono ?_
    rintro e w5 ⟨rfl, rfl⟩
    go_wp2_with fail
    refine (show Calls Tryz.prog 42 #[.pointer (some ⟨g, 0, none⟩)] w4 fun e w' => e = .returned (.int .i64 0) ∧ w4 = w' from frTold_c _ _ _ _ _ _ HF4.out).mono ?_
    rintro e w5 ⟨rfl, rfl⟩
    go_wp2_with fail
    refine (HK.out _).mono ?_
    rintro e w5 ⟨rfl, hb⟩
    have HM5 : Hid (Below W0.heap.size W0 w5) := Lib.hid (HM4.out.trans (hb.mono HM4.out.size))
    have HF5 := Lib.hid (HF4.out.below hb)
    clear hb HF4
    clear q0 q1 q2 q3 q4 q5
    obtain ⟨q0, q1, q2, q3, q4, q5⟩ := HKV.out w5 HM5.out
    go_wp2_with (
      refine wpList_store_row (by rfl) 32 (.tmp 9) (.tmp 86) (by rfl) w5.heap.size KL (by rfl) (by rfl) 32 _ (by exact Blk.new _ _ _) HI.out HZ.out HO1.out ?_
      rw [key_new]
      obtain ⟨w6, hw6⟩ : ∃ w6, w5.alloc (.cells KL 32) = w6 := ⟨_, rfl⟩
      rw [hw6]
      have HM6 : Hid (Below W0.heap.size W0 w6) := Lib.hid (by rw [← hw6]; exact HM5.out.alloc HM5.out.size _)
      have HK6 : Hid (Blk w6 w5.heap.size 32 KL) := Lib.hid (by rw [← hw6]; exact Blk.new _ _ _)
      have HF6 : Hid (FrmS w6 w2.heap.size g (.slice none 0 0) c Fed.new) := Lib.hid (by rw [← hw6]; exact HF5.out.below ((Below.refl _ _).alloc (Nat.le_refl _) _))
      have HG5 : Hid (g < w5.heap.size ∧ w2.heap.size ≤ g) := Lib.hid ⟨HF5.out.lt, HF5.out.1⟩
      clear hw6 HF5
      clear q0 q1 q2 q3 q4 q5
      obtain ⟨q0, q1, q2, q3, q4, q5⟩ := HKV.out w6 HM6.out
      )
    obtain ⟨w7, hw7⟩ : ∃ w7, w6.alloc (.cells #[.int .i64 c.fm, .int .u32 c.mg, .int .i64 c.fr, .int .i64 c.un, .int .i64 c.de, .int .i64 c.it, .string ⟨#[]⟩, .int .i64 0, .int .i64 0, .int .i64 0] 76) = w7 := ⟨_, rfl⟩
    have HM7 : Hid (Below W0.heap.size W0 w7) := Lib.hid (by rw [← hw7]; exact HM6.out.alloc HM6.out.size _)
    have HK7 : Hid (Blk w7 w5.heap.size 32 KL) := Lib.hid (by rw [← hw7]; exact HK6.out.alloc _)
    have HF7 : Hid (FrmS w7 w2.heap.size g (.slice none 0 0) c Fed.new) := Lib.hid (by rw [← hw7]; exact HF6.out.below ((Below.refl _ _).alloc (Nat.le_refl _) _))
    have HX7 : Hid (Blk w7 w6.heap.size 76 (rFrC c Fed.new)) := Lib.hid (by rw [← hw7]; exact Blk.new _ _ _)
    have HZ7 : Hid (W0.heap.size ≤ w2.heap.size ∧ w2.heap.size ≤ w5.heap.size ∧ w5.heap.size < w6.heap.size ∧ g < w5.heap.size) := Lib.hid ⟨HM2.out.size, by have := HG5.out; omega, HK6.out.lt, HG5.out.1⟩
    rw [hw7]
    clear hw7 HK6 HF6 q0 q1 q2 q3 q4 q5
    generalize w5.heap.size = bk at *
    generalize w6.heap.size = bx at *
    generalize w2.heap.size = base at *
    go_wp2_with fail
    go_loopw [11] (fun i wr => ∃ (j : Nat) (x : Fed) (bv : Value), i = .int .i64 j ∧ j ≤ n ∧ Hid (FrmS wr base g bv c x) ∧ Hid (Blk wr bk 32 KL) ∧ Hid (Blk wr bx 76 (rFrC c x)) ∧ x.buf.size ≤ sizes (l.take j) ∧ x.told ≤ 1500 * j ∧ Hid (Below W0.heap.size W0 wr)) (fun i _ => n - (intOf i).toNat)
    case atStart => exact ⟨0, Fed.new, _, rfl, by omega, HF7, HK7, HX7, Nat.zero_le _, Nat.zero_le _, HM7⟩
    case round =>
      obtain ⟨j, x, bv, rfl, hj, HF, HK8, HX8, hbuf, htold, HM8⟩ := hrel
      clear HF7 HK7 HX7 HM7
      by_cases hlt : j < n
      · have hjl : j < l.length := by rw [← hn.out]; exact hlt
        obtain ⟨cg, o, rfl, hcg, e0⟩ := (HV0.out _ HM8.out).at_ hjl
        have hst := sizes_take l j hjl
        have hst2 := sizes_take_le l (j + 1)
        obtain ⟨s, hs⟩ : ∃ s, l[j] = s := ⟨_, rfl⟩
        rw [hs] at e0 hst
        have hb1 : x.buf.size + s.size ≤ 1500 := by omega
        have HBS := Lib.hid (show x.buf.size + s.size ≤ sizes (l.take (j + 1)) by omega)
        clear hs hst hst2
        have HFD := Lib.hid (frFeed_c base g bv c x s wr hr hc HF.out (by have := HZ7.out; have := HM8.out.size; have := HF.out.lt; have := HF.out.1; omega) (by omega) (by omega))
        have HRD := Lib.hid (fun V => HRF.out x s V (by omega) (by omega))
        have HTB : Hid ((fed (wNext c) x s).1.buf.size ≤ sizes (l.take (j + 1)) ∧ (fed (wNext c) x s).1.told ≤ 1500 * (j + 1) ∧ (fed (wNext c) x s).2.1.length ≤ 1500) := Lib.hid (by
          obtain ⟨f1, f2, f3⟩ := fed_sizes c x s
          have := HBS.out
          omega)
        obtain ⟨X, hX⟩ : ∃ X, fed (wNext c) x s = X := ⟨_, rfl⟩
        rw [hX] at HFD HRD HTB
        clear hX
        obtain ⟨y, fs, er⟩ := X
        simp only at HFD HRD HTB
        unfold rFrV rFrC at HRD
        go_wp2_with fail
        refine HFD.out.mono ?_
        rintro e wa ⟨rv, bv', rfl, hr9, hf9, ho9, hown9⟩
        obtain ⟨A9, n9, cap9, rfl, hn9, hnc9, hcm9⟩ := hr9.form'
        have hz9 := ho9.size
        have hbxr := HX8.out.lt
        have HMA : Hid (Below W0.heap.size W0 wa) := Lib.hid (HM8.out.trans (ho9.below HM8.out.size (fun k hk => by have := HF.out.foot_ge k hk; have := HZ7.out; omega)))
        have HKA : Hid (Blk wa bk 32 KL) := Lib.hid (HK8.out.only ho9 (HF.out.far HK8.out (by decide) (by have := HZ7.out; omega)))
        have HXA : Hid (Blk wa bx 76 (rFrC c x)) := Lib.hid (HX8.out.only ho9 (HF.out.far HX8.out (by decide) (by have := HZ7.out; omega)))
        have HFA := Lib.hid hf9
        have HRA := Lib.hid hr9
        have HCA : Hid (∀ V, Below wa.heap.size wa V → V.cell? ⟨cg, o + j, none⟩ = some (.string s)) := Lib.hid (fun V hV => by
          have hz := HMA.out.size
          have hz2 := (HO.out _ HMA.out).2
          exact (hV.cell (p := ⟨cg, o + j, none⟩) (by simp; omega)).trans (((HO.out _ HMA.out).1.cell (p := ⟨cg, o + j, none⟩) hcg).trans (((HO.out _ HM8.out).1.cell (p := ⟨cg, o + j, none⟩) hcg).symm.trans e0)))
        clear hr9 hf9 ho9 hown9 HF HK8 HX8 HM8 HFD e0
        have hci : (j : Int) < n := by omega
        unfold rFrC at HXA
        go_upto_region 17 with fail
        go_cut [14, 15, 16] (fun v lv ev wx => ∃ (b14 : Nat) (A2 : Option Addr) (n2 cap2 : Nat), v = .pointer (some ⟨b14, 0, none⟩) ∧ lv = .slice A2 n2 cap2 ∧ ev = .int .i64 er ∧ Hid (wa.heap.size ≤ b14) ∧ Hid (Blk wx b14 76 #[.int .i64 c.fm, .int .u32 c.mg, .int .i64 c.fr, .int .i64 c.un, .int .i64 c.de, .int .i64 c.it, .string y.buf, .int .i64 y.fault, .int .i64 y.laid, .int .i64 y.told]) ∧ Hid (FrO wx wa.heap.size (.slice A2 n2 cap2) fs) ∧ Hid (Below wa.heap.size wa wx))
        case first =>
          go_wp2_with fail
          refine wp_region_last 14 (fun V => Below wa.heap.size wa V) (by kernel_rfl) (by kernel_rfl) ?_
          have hHeld : Below wa.heap.size wa wa.drew := (Below.refl _ _).drew
          refine GT.take (i := 0) (v := (.agg KL)) (by simp only [List.getElem?_toArray, List.getElem?_cons_zero, List.getElem?_cons_succ]; rfl) (by kernel_rfl) (by kernel_rfl) (by kernel_rfl) (by kernel_rfl) (by intro _ _ _ h; exact h) (Or.inl ⟨by rfl, ?_⟩) hHeld ?_
          · intro V hV
            exact load_row_run 32 (.tmp 9) (by rfl) bk (by rfl) 32 KL (0, 0) _ (HKA.out.keep hV HKA.out.lt) Tryz.underlying32 rfl HI.out
          try simp only [Act.put, List.setIfInBounds_toArray, List.set_cons_zero, List.set_cons_succ]
          refine GT.take (i := 1) (v := (.agg #[.int .i64 c.fm, .int .u32 c.mg, .int .i64 c.fr, .int .i64 c.un, .int .i64 c.de, .int .i64 c.it, .string x.buf, .int .i64 x.fault, .int .i64 x.laid, .int .i64 x.told])) (by simp only [List.getElem?_toArray, List.getElem?_cons_zero, List.getElem?_cons_succ]; rfl) (by kernel_rfl) (by kernel_rfl) (by kernel_rfl) (by kernel_rfl) (by intro _ _ _ h; exact h) (Or.inl ⟨by rfl, ?_⟩) hHeld ?_
          · intro V hV
            exact load_row_run 76 (.tmp 10) (by rfl) bx (by rfl) 76 _ (0, 0) _ (HXA.out.keep hV HXA.out.lt) Tryz.underlying76 rfl info_rfr
          try simp only [Act.put, List.setIfInBounds_toArray, List.set_cons_zero, List.set_cons_succ]
          refine GT.take (i := 2) (v := ?_) (by simp only [List.getElem?_toArray, List.getElem?_cons_zero, List.getElem?_cons_succ]; rfl) (by kernel_rfl) (by kernel_rfl) (by kernel_rfl) (by kernel_rfl) (by intro _ _ _ h; exact h) (Or.inl ⟨by rfl, ?_⟩) hHeld ?_
          rotate_left
          · intro V hV
            (try dsimp only at hV)
            (first | (go_simp; done) | (go_simp; with_reducible rfl))
          try simp only [Act.put, List.setIfInBounds_toArray, List.set_cons_zero, List.set_cons_succ]
          refine GT.take (i := 3) (v := ?_) (by simp only [List.getElem?_toArray, List.getElem?_cons_zero, List.getElem?_cons_succ]; rfl) (by kernel_rfl) (by kernel_rfl) (by kernel_rfl) (by kernel_rfl) (by intro _ _ _ h; exact h) (Or.inl ⟨by rfl, ?_⟩) hHeld ?_
          rotate_left
          · intro V hV
            (try dsimp only at hV)
            (first | (go_simp; done) | (go_simp; with_reducible rfl))
          try simp only [Act.put, List.setIfInBounds_toArray, List.set_cons_zero, List.set_cons_succ]
          refine GT.take (i := 4) (v := ?_) (by simp only [List.getElem?_toArray, List.getElem?_cons_zero, List.getElem?_cons_succ]; rfl) (by kernel_rfl) (by kernel_rfl) (by kernel_rfl) (by kernel_rfl) (by intro _ _ _ h; exact h) (Or.inl ⟨by rfl, ?_⟩) hHeld ?_
          rotate_left
          · intro V hV
            (try dsimp only at hV)
            (first | (go_simp; done) | (go_simp; with_reducible rfl))
          try simp only [Act.put, List.setIfInBounds_toArray, List.set_cons_zero, List.set_cons_succ]
          refine GT.take (i := 5) (v := (.string s)) (by simp only [List.getElem?_toArray, List.getElem?_cons_zero, List.getElem?_cons_succ]; rfl) (by kernel_rfl) (by kernel_rfl) (by kernel_rfl) (by kernel_rfl) (by intro _ _ _ h; exact h) (Or.inl ⟨by rfl, ?_⟩) hHeld ?_
          · intro V hV
            have c0 := HCA.out V hV
            go_simp
          try simp only [Act.put, List.setIfInBounds_toArray, List.set_cons_zero, List.set_cons_succ]
          refine GT.two (i := 6) (j := 11) (by simp only [List.getElem?_toArray, List.getElem?_cons_zero, List.getElem?_cons_succ]; rfl) (by simp only [List.getElem?_toArray, List.getElem?_cons_zero, List.getElem?_cons_succ]; rfl) (by kernel_rfl) (by kernel_rfl) (by kernel_rfl) (fun K hK => ?_) (fun K hK => ?_)
          · go_simp
            go_at_call 43
            refine (HRD.out _).mono ?_
            rintro e wb ⟨⟨rv2, rfl, hr2⟩, hb2⟩
            obtain ⟨A2, n2, cap2, rfl, hn2, hnc2, hcm2⟩ := hr2.form'
            have hwb : Below wa.heap.size wa wb := hHeld.trans hb2
            go_wp2_with fail
            refine hK.out _ _ hwb (fun hHeld => ?_)
            clear hK K
            try simp only [Act.put, List.setIfInBounds_toArray, List.set_cons_zero, List.set_cons_succ]
            refine GT.take (i := 7) (v := ?_) (by simp only [List.getElem?_toArray, List.getElem?_cons_zero, List.getElem?_cons_succ]; rfl) (by kernel_rfl) (by kernel_rfl) (by kernel_rfl) (by kernel_rfl) (by intro _ _ _ h; exact h) (Or.inl ⟨by rfl, ?_⟩) hHeld ?_
            rotate_left
            · intro V hV
              (try dsimp only at hV)
              (first | (go_simp; done) | (go_simp; with_reducible rfl))
            try simp only [Act.put, List.setIfInBounds_toArray, List.set_cons_zero, List.set_cons_succ]
            refine GT.take (i := 8) (v := ?_) (by simp only [List.getElem?_toArray, List.getElem?_cons_zero, List.getElem?_cons_succ]; rfl) (by kernel_rfl) (by kernel_rfl) (by kernel_rfl) (by kernel_rfl) (by intro _ _ _ h; exact h) (Or.inl ⟨by rfl, ?_⟩) hHeld ?_
            rotate_left
            · intro V hV
              (try dsimp only at hV)
              (first | (go_simp; done) | (go_simp; with_reducible rfl))
            try simp only [Act.put, List.setIfInBounds_toArray, List.set_cons_zero, List.set_cons_succ]
            refine GT.take (i := 9) (v := ?_) (by simp only [List.getElem?_toArray, List.getElem?_cons_zero, List.getElem?_cons_succ]; rfl) (by kernel_rfl) (by kernel_rfl) (by kernel_rfl) (by kernel_rfl) (by intro _ _ _ h; exact h) (Or.inl ⟨by rfl, ?_⟩) hHeld ?_
            rotate_left
            · intro V hV
              (try dsimp only at hV)
              (first | (go_simp; done) | (go_simp; with_reducible rfl))
            try simp only [Act.put, List.setIfInBounds_toArray, List.set_cons_zero, List.set_cons_succ]
            refine GT.take (i := 10) (v := ?_) (by simp only [List.getElem?_toArray, List.getElem?_cons_zero, List.getElem?_cons_succ]; rfl) (by kernel_rfl) (by kernel_rfl) (by kernel_rfl) (by kernel_rfl) (by intro _ _ _ h; exact h) (Or.inl ⟨by rfl, ?_⟩) hHeld ?_
            rotate_left
            · intro V hV
              (try dsimp only at hV)
              (first | (go_simp; done) | (go_simp; with_reducible rfl))
            try simp only [Act.put, List.setIfInBounds_toArray, List.set_cons_zero, List.set_cons_succ]
            refine GT.step (i := 11) (by simp only [List.getElem?_toArray, List.getElem?_cons_zero, List.getElem?_cons_succ]; rfl) (by kernel_rfl) (by kernel_rfl) (fun K hK => ?_)
            go_simp
            refine hK.out _ _ (hwb.alloc hwb.size _) (fun hHeld => ?_)
            clear hK K
            try simp only [Act.put, List.setIfInBounds_toArray, List.set_cons_zero, List.set_cons_succ]
            refine GT.step (i := 12) (by simp only [List.getElem?_toArray, List.getElem?_cons_zero, List.getElem?_cons_succ]; rfl) (by kernel_rfl) (by kernel_rfl) (fun K hK => ?_)
            go_simp
            refine hK.out _ _ (hwb.alloc hwb.size _) (fun hHeld => ?_)
            clear hK K
            try simp only [Act.put, List.setIfInBounds_toArray, List.set_cons_zero, List.set_cons_succ]
            refine GT.take (i := 13) (v := ?_) (by simp only [List.getElem?_toArray, List.getElem?_cons_zero, List.getElem?_cons_succ]; rfl) (by kernel_rfl) (by kernel_rfl) (by kernel_rfl) (by kernel_rfl) (by intro _ _ _ h; exact h) (Or.inl ⟨by rfl, ?_⟩) hHeld ?_
            rotate_left
            · intro V hV
              (try dsimp only at hV)
              (first | (go_simp; done) | (go_simp; with_reducible rfl))
            try simp only [Act.put, List.setIfInBounds_toArray, List.set_cons_zero, List.set_cons_succ]
            refine GT.last (i := 14) (by simp only [List.getElem?_toArray, List.getElem?_cons_zero, List.getElem?_cons_succ]; rfl) (by kernel_rfl) (by kernel_rfl) (by kernel_rfl) ?_
            go_simp
            go_wp2_with fail
            go_meet
            case rel => exact ⟨_, A2, n2, cap2, rfl, rfl, rfl, Lib.hid hwb.size, Lib.hid (Blk.new _ _ _), Lib.hid (hr2.below ((Below.refl _ _).alloc (Nat.le_refl _) _)), Lib.hid (hwb.alloc hwb.size _)⟩
          · go_simp
            refine hK.out _ _ (hHeld.alloc hHeld.size _) (fun hHeld => ?_)
            clear hK K
            try simp only [Act.put, List.setIfInBounds_toArray, List.set_cons_zero, List.set_cons_succ]
            have hbn : Blk (wa.drew.alloc (.cells #[.int .i64 0, .int .u32 0, .int .i64 0, .int .i64 0, .int .i64 0, .int .i64 0, .string ⟨#[]⟩, .int .i64 0, .int .i64 0, .int .i64 0] 76)) wa.heap.size 76 #[.int .i64 0, .int .u32 0, .int .i64 0, .int .i64 0, .int .i64 0, .int .i64 0, .string ⟨#[]⟩, .int .i64 0, .int .i64 0, .int .i64 0] := Blk.new wa.drew _ _
            refine GT.step (i := 6) (by simp only [List.getElem?_toArray, List.getElem?_cons_zero, List.getElem?_cons_succ]; rfl) (by kernel_rfl) (by kernel_rfl) (fun K hK => ?_)
            go_simp
            go_at_call 43
            refine (HRD.out _).mono ?_
            rintro e wb ⟨⟨rv2, rfl, hr2⟩, hb2⟩
            obtain ⟨A2, n2, cap2, rfl, hn2, hnc2, hcm2⟩ := hr2.form'
            have hwb : Below wa.heap.size wa wb := hHeld.trans (hb2.mono (by simp))
            replace hbn := hbn.keep hb2 hbn.lt
            go_wp2_with fail
            refine hK.out _ _ hwb (fun hHeld => ?_)
            clear hK K
            try simp only [Act.put, List.setIfInBounds_toArray, List.set_cons_zero, List.set_cons_succ]
            refine GT.take (i := 7) (v := ?_) (by simp only [List.getElem?_toArray, List.getElem?_cons_zero, List.getElem?_cons_succ]; rfl) (by kernel_rfl) (by kernel_rfl) (by kernel_rfl) (by kernel_rfl) (by intro _ _ _ h; exact h) (Or.inl ⟨by rfl, ?_⟩) hHeld ?_
            rotate_left
            · intro V hV
              (try dsimp only at hV)
              (first | (go_simp; done) | (go_simp; with_reducible rfl))
            try simp only [Act.put, List.setIfInBounds_toArray, List.set_cons_zero, List.set_cons_succ]
            refine GT.take (i := 8) (v := ?_) (by simp only [List.getElem?_toArray, List.getElem?_cons_zero, List.getElem?_cons_succ]; rfl) (by kernel_rfl) (by kernel_rfl) (by kernel_rfl) (by kernel_rfl) (by intro _ _ _ h; exact h) (Or.inl ⟨by rfl, ?_⟩) hHeld ?_
            rotate_left
            · intro V hV
              (try dsimp only at hV)
              (first | (go_simp; done) | (go_simp; with_reducible rfl))
            try simp only [Act.put, List.setIfInBounds_toArray, List.set_cons_zero, List.set_cons_succ]
            refine GT.take (i := 9) (v := ?_) (by simp only [List.getElem?_toArray, List.getElem?_cons_zero, List.getElem?_cons_succ]; rfl) (by kernel_rfl) (by kernel_rfl) (by kernel_rfl) (by kernel_rfl) (by intro _ _ _ h; exact h) (Or.inl ⟨by rfl, ?_⟩) hHeld ?_
            rotate_left
            · intro V hV
              (try dsimp only at hV)
              (first | (go_simp; done) | (go_simp; with_reducible rfl))
            try simp only [Act.put, List.setIfInBounds_toArray, List.set_cons_zero, List.set_cons_succ]
            refine GT.take (i := 10) (v := ?_) (by simp only [List.getElem?_toArray, List.getElem?_cons_zero, List.getElem?_cons_succ]; rfl) (by kernel_rfl) (by kernel_rfl) (by kernel_rfl) (by kernel_rfl) (by intro _ _ _ h; exact h) (Or.inl ⟨by rfl, ?_⟩) hHeld ?_
            rotate_left
            · intro V hV
              (try dsimp only at hV)
              (first | (go_simp; done) | (go_simp; with_reducible rfl))
            try simp only [Act.put, List.setIfInBounds_toArray, List.set_cons_zero, List.set_cons_succ]
            have zc0 := (hbn).cell 0
            have zf0 := (hbn).frozen 0
            have zc1 := (hbn).cell 1
            have zf1 := (hbn).frozen 1
            have zc2 := (hbn).cell 2
            have zf2 := (hbn).frozen 2
            have zc3 := (hbn).cell 3
            have zf3 := (hbn).frozen 3
            have zc4 := (hbn).cell 4
            have zf4 := (hbn).frozen 4
            have zc5 := (hbn).cell 5
            have zf5 := (hbn).frozen 5
            have zc6 := (hbn).cell 6
            have zf6 := (hbn).frozen 6
            have zc7 := (hbn).cell 7
            have zf7 := (hbn).frozen 7
            have zc8 := (hbn).cell 8
            have zf8 := (hbn).frozen 8
            have zc9 := (hbn).cell 9
            have zf9 := (hbn).frozen 9
            simp at zc0 zc1 zc2 zc3 zc4 zc5 zc6 zc7 zc8 zc9
            refine GT.step (i := 12) (by simp only [List.getElem?_toArray, List.getElem?_cons_zero, List.getElem?_cons_succ]; rfl) (by kernel_rfl) (by kernel_rfl) (fun K hK => ?_)
            go_simp
            have hwc : Below wa.heap.size wa (((((((((((wb.setCell ⟨wa.heap.size, 0, none⟩ (.int .i64 c.fm)).setCell ⟨wa.heap.size, 1, none⟩ (.int .u32 c.mg)).setCell ⟨wa.heap.size, 2, none⟩ (.int .i64 c.fr)).setCell ⟨wa.heap.size, 3, none⟩ (.int .i64 c.un)).setCell ⟨wa.heap.size, 4, none⟩ (.int .i64 c.de)).setCell ⟨wa.heap.size, 5, none⟩ (.int .i64 c.it)).setCell ⟨wa.heap.size, 6, none⟩ (.string y.buf)).setCell ⟨wa.heap.size, 7, none⟩ (.int .i64 y.fault)).setCell ⟨wa.heap.size, 8, none⟩ (.int .i64 y.laid)).setCell ⟨wa.heap.size, 9, none⟩ (.int .i64 y.told))) := ((((((((((hwb.setCell (by simp) _).setCell (by simp) _).setCell (by simp) _).setCell (by simp) _).setCell (by simp) _).setCell (by simp) _).setCell (by simp) _).setCell (by simp) _).setCell (by simp) _).setCell (by simp) _)
            have hoc : Only [wa.heap.size] wb _ := only10 wb wa.heap.size (.int .i64 c.fm) (.int .u32 c.mg) (.int .i64 c.fr) (.int .i64 c.un) (.int .i64 c.de) (.int .i64 c.it) (.string y.buf) (.int .i64 y.fault) (.int .i64 y.laid) (.int .i64 y.told)
            refine hK.out _ _ hwc (fun hHeld => ?_)
            clear hK K
            try simp only [Act.put, List.setIfInBounds_toArray, List.set_cons_zero, List.set_cons_succ]
            refine GT.take (i := 13) (v := ?_) (by simp only [List.getElem?_toArray, List.getElem?_cons_zero, List.getElem?_cons_succ]; rfl) (by kernel_rfl) (by kernel_rfl) (by kernel_rfl) (by kernel_rfl) (by intro _ _ _ h; exact h) (Or.inl ⟨by rfl, ?_⟩) hHeld ?_
            rotate_left
            · intro V hV
              (try dsimp only at hV)
              (first | (go_simp; done) | (go_simp; with_reducible rfl))
            try simp only [Act.put, List.setIfInBounds_toArray, List.set_cons_zero, List.set_cons_succ]
            refine GT.last (i := 14) (by simp only [List.getElem?_toArray, List.getElem?_cons_zero, List.getElem?_cons_succ]; rfl) (by kernel_rfl) (by kernel_rfl) (by kernel_rfl) ?_
            go_simp
            go_wp2_with fail
            go_meet
            case rel => exact ⟨_, A2, n2, cap2, rfl, rfl, rfl, Lib.hid (Nat.le_refl _), Lib.hid (set10 hbn _ _ _ _ _ _ _ _ _ _), Lib.hid ((hr2.only hoc (by simp)).lower (by simp)), Lib.hid hwc⟩
        case rest =>
          obtain ⟨b14, A2, n2, cap2, rfl, rfl, rfl, HB14, HX14, HR2, HB15⟩ := hcut
          have HXC : Hid (Blk wc bx 76 #[.int .i64 c.fm, .int .u32 c.mg, .int .i64 c.fr, .int .i64 c.un, .int .i64 c.de, .int .i64 c.it, .string x.buf, .int .i64 x.fault, .int .i64 x.laid, .int .i64 x.told]) := Lib.hid (HXA.out.keep HB15.out HXA.out.lt)
          have hne14 : b14 ≠ bx := by have := HXA.out.lt; have := HB14.out; omega
          have yc0 := (HX14.out).cell 0
          have yc1 := (HX14.out).cell 1
          have yc2 := (HX14.out).cell 2
          have yc3 := (HX14.out).cell 3
          have yc4 := (HX14.out).cell 4
          have yc5 := (HX14.out).cell 5
          have yc6 := (HX14.out).cell 6
          have yc7 := (HX14.out).cell 7
          have yc8 := (HX14.out).cell 8
          have yc9 := (HX14.out).cell 9
          simp at yc0 yc1 yc2 yc3 yc4 yc5 yc6 yc7 yc8 yc9
          have zc0 := (HXC.out).cell 0
          have zf0 := (HXC.out).frozen 0
          have zc1 := (HXC.out).cell 1
          have zf1 := (HXC.out).frozen 1
          have zc2 := (HXC.out).cell 2
          have zf2 := (HXC.out).frozen 2
          have zc3 := (HXC.out).cell 3
          have zf3 := (HXC.out).frozen 3
          have zc4 := (HXC.out).cell 4
          have zf4 := (HXC.out).frozen 4
          have zc5 := (HXC.out).cell 5
          have zf5 := (HXC.out).frozen 5
          have zc6 := (HXC.out).cell 6
          have zf6 := (HXC.out).frozen 6
          have zc7 := (HXC.out).cell 7
          have zf7 := (HXC.out).frozen 7
          have zc8 := (HXC.out).cell 8
          have zf8 := (HXC.out).frozen 8
          have zc9 := (HXC.out).cell 9
          have zf9 := (HXC.out).frozen 9
          simp at zc0 zc1 zc2 zc3 zc4 zc5 zc6 zc7 zc8 zc9
          go_upto_region 19 with fail
          have hO10 : Only [bx] wc _ := only10 wc bx (.int .i64 c.fm) (.int .u32 c.mg) (.int .i64 c.fr) (.int .i64 c.un) (.int .i64 c.de) (.int .i64 c.it) (.string y.buf) (.int .i64 y.fault) (.int .i64 y.laid) (.int .i64 y.told)
          have hX10 := set10 HXC.out (.int .i64 c.fm) (.int .u32 c.mg) (.int .i64 c.fr) (.int .i64 c.un) (.int .i64 c.de) (.int .i64 c.it) (.string y.buf) (.int .i64 y.fault) (.int .i64 y.laid) (.int .i64 y.told)
          obtain ⟨wd, hwd⟩ : ∃ wd, ((((((((((wc.setCell ⟨bx, 0, none⟩ (.int .i64 c.fm)).setCell ⟨bx, 1, none⟩ (.int .u32 c.mg)).setCell ⟨bx, 2, none⟩ (.int .i64 c.fr)).setCell ⟨bx, 3, none⟩ (.int .i64 c.un)).setCell ⟨bx, 4, none⟩ (.int .i64 c.de)).setCell ⟨bx, 5, none⟩ (.int .i64 c.it)).setCell ⟨bx, 6, none⟩ (.string y.buf)).setCell ⟨bx, 7, none⟩ (.int .i64 y.fault)).setCell ⟨bx, 8, none⟩ (.int .i64 y.laid)).setCell ⟨bx, 9, none⟩ (.int .i64 y.told)) = wd := ⟨_, rfl⟩
          rw [hwd] at hO10 hX10 ⊢
          clear hwd zc0 zc1 zc2 zc3 zc4 zc5 zc6 zc7 zc8 zc9 zf0 zf1 zf2 zf3 zf4 zf5 zf6 zf7 zf8 zf9 yc0 yc1 yc2 yc3 yc4 yc5 yc6 yc7 yc8 yc9
          have hzc := HB15.out.size
          have HFC := HFA.out.below HB15.out
          have HFD1 : Hid (FrmS wd base g bv' c y) := Lib.hid (HFC.only hO10 (by
            intro k hk hm
            simp only [List.mem_singleton] at hm
            subst hm
            exact HFC.far HXC.out (by decide) (by have := HZ7.out; omega) (mem_foot.2 hk)))
          have HRD1 : Hid (FrO wd wr.heap.size (.slice A9 n9 cap9) fs) := Lib.hid ((HRA.out.below HB15.out).only hO10 (by simp; omega))
          have HRD2 : Hid (FrO wd wa.heap.size (.slice A2 n2 cap2) fs) := Lib.hid (HR2.out.only hO10 (by simp; have := HXA.out.lt; omega))
          have HMD : Hid (Below W0.heap.size W0 wd) := Lib.hid ((HMA.out.trans (HB15.out.mono HMA.out.size)).trans (hO10.below (by have := HMA.out.size; omega) (by have := HZ7.out; simp; omega)))
          have HKD : Hid (Blk wd bk 32 KL) := Lib.hid ((HKA.out.keep HB15.out HKA.out.lt).only hO10 (by have := HZ7.out; simp; omega))
          have HXD : Hid (Blk wd bx 76 (rFrC c y)) := Lib.hid hX10
          have d6 := hX10.cell 6
          have d7 := hX10.cell 7
          have d8 := hX10.cell 8
          have d9 := hX10.cell 9
          simp at d6 d7 d8 d9
          have hbxd := hX10.lt
          have HSM : Hid (∀ V, Below wd.heap.size wd V → Calls Tryz.prog 27 #[.slice A9 n9 cap9, .slice A2 n2 cap2] V fun e w' => e = .returned (.bool true) ∧ Below V.heap.size V w') := Lib.hid (fun V hV => same18_c _ _ fs V.heap.size V (HRD1.out.below hV).read (HRD2.out.below hV).read (Nat.le_refl _) (by have := HTB.out.2.2; omega))
          have HFD2 : Hid (∀ V, Below wd.heap.size wd V → FrmS V base g bv' c y) := Lib.hid (fun V hV => HFD1.out.below hV)
          have n1 := str_ways y.buf y.buf
          simp only [ne_eq, not_true_eq_false, false_and, or_false, true_and] at n1
          obtain ⟨n1, n2'⟩ := n1
          have n3 : (er != er) = false := by simp
          have n4 : (y.fault != y.fault) = false := by simp
          clear hO10 hX10 HFC HXC HB15 HX14 HR2 HFA HRA HMA HKA HXA HCA
          go_wp2_with fail
          refine wp_region_below (by kernel_rfl) (by kernel_rfl) ?_
          refine wpQuiet_run (.slice A9 n9 cap9) (by rfl) (fun _ _ => by first | rfl | go_simp) ?_
          simp only [Act.put, List.setIfInBounds_toArray, List.set_cons_zero, List.set_cons_succ]
          refine wpQuiet_run (.slice A2 n2 cap2) (by rfl) (fun _ _ => by first | rfl | go_simp) ?_
          simp only [Act.put, List.setIfInBounds_toArray, List.set_cons_zero, List.set_cons_succ]
          refine wpQuiet_callB 27 _ _ (by rfl) (fun _ => by first | rfl | go_simp) (fun V hV => HSM.out V hV) ?_
          simp only [Act.put, List.setIfInBounds_toArray, List.set_cons_zero, List.set_cons_succ]
          refine wpQuiet_run (.bool false) (by rfl) (fun _ _ => by first | rfl | go_simp) ?_
          simp only [Act.put, List.setIfInBounds_toArray, List.set_cons_zero, List.set_cons_succ]
          refine wpQuiet_run (.bool false) (by rfl) (fun _ _ => by first | rfl | go_simp) ?_
          simp only [Act.put, List.setIfInBounds_toArray, List.set_cons_zero, List.set_cons_succ]
          refine wpQuiet_run (.int .i64 er) (by rfl) (fun _ _ => by first | rfl | go_simp) ?_
          simp only [Act.put, List.setIfInBounds_toArray, List.set_cons_zero, List.set_cons_succ]
          refine wpQuiet_run (.int .i64 er) (by rfl) (fun _ _ => by first | rfl | go_simp) ?_
          simp only [Act.put, List.setIfInBounds_toArray, List.set_cons_zero, List.set_cons_succ]
          refine wpQuiet_run (.bool false) (by rfl) (fun _ _ => by first | rfl | go_simp) ?_
          simp only [Act.put, List.setIfInBounds_toArray, List.set_cons_zero, List.set_cons_succ]
          refine wpQuiet_run (.bool false) (by rfl) (fun _ _ => by first | rfl | go_simp) ?_
          simp only [Act.put, List.setIfInBounds_toArray, List.set_cons_zero, List.set_cons_succ]
          refine wpQuiet_run (.bool false) (by rfl) (fun _ _ => by first | rfl | go_simp) ?_
          simp only [Act.put, List.setIfInBounds_toArray, List.set_cons_zero, List.set_cons_succ]
          refine wpQuiet_run (.pointer (some ⟨g, 0, none⟩)) (by rfl) (fun _ _ => by first | rfl | go_simp) ?_
          simp only [Act.put, List.setIfInBounds_toArray, List.set_cons_zero, List.set_cons_succ]
          refine wpQuiet_callB 38 _ _ (by rfl) (fun _ => by first | rfl | go_simp) (fun V hV => quietB (frTail_c _ _ _ _ _ _ (HFD2.out V hV))) ?_
          simp only [Act.put, List.setIfInBounds_toArray, List.set_cons_zero, List.set_cons_succ]
          refine wpQuiet_run (.pointer (some ⟨bx, 6, none⟩)) (by rfl) (fun _ _ => by first | rfl | go_simp) ?_
          simp only [Act.put, List.setIfInBounds_toArray, List.set_cons_zero, List.set_cons_succ]
          refine wpQuiet_run (.string y.buf) (by rfl) (fun w' hw' => by have q := (hw'.cell (p := ⟨bx, 6, none⟩) (by simpa using hbxd)).trans d6; go_simp) ?_
          simp only [Act.put, List.setIfInBounds_toArray, List.set_cons_zero, List.set_cons_succ]
          refine wpQuiet_run (.bool false) (by rfl) (fun _ _ => by first | rfl | go_simp) ?_
          simp only [Act.put, List.setIfInBounds_toArray, List.set_cons_zero, List.set_cons_succ]
          refine wpQuiet_run (.bool false) (by rfl) (fun _ _ => by first | rfl | go_simp) ?_
          simp only [Act.put, List.setIfInBounds_toArray, List.set_cons_zero, List.set_cons_succ]
          refine wpQuiet_run (.bool false) (by rfl) (fun _ _ => by first | rfl | go_simp) ?_
          simp only [Act.put, List.setIfInBounds_toArray, List.set_cons_zero, List.set_cons_succ]
          refine wpQuiet_run (.pointer (some ⟨g, 0, none⟩)) (by rfl) (fun _ _ => by first | rfl | go_simp) ?_
          simp only [Act.put, List.setIfInBounds_toArray, List.set_cons_zero, List.set_cons_succ]
          refine wpQuiet_callB 40 _ _ (by rfl) (fun _ => by first | rfl | go_simp) (fun V hV => quietB (frBuffered_c _ _ _ _ _ _ (HFD2.out V hV))) ?_
          simp only [Act.put, List.setIfInBounds_toArray, List.set_cons_zero, List.set_cons_succ]
          refine wpQuiet_run (.pointer (some ⟨bx, 6, none⟩)) (by rfl) (fun _ _ => by first | rfl | go_simp) ?_
          simp only [Act.put, List.setIfInBounds_toArray, List.set_cons_zero, List.set_cons_succ]
          refine wpQuiet_run (.string y.buf) (by rfl) (fun w' hw' => by have q := (hw'.cell (p := ⟨bx, 6, none⟩) (by simpa using hbxd)).trans d6; go_simp) ?_
          simp only [Act.put, List.setIfInBounds_toArray, List.set_cons_zero, List.set_cons_succ]
          refine wpQuiet_run (.int .i64 (y.buf.size : Nat)) (by rfl) (fun _ _ => by first | rfl | go_simp) ?_
          simp only [Act.put, List.setIfInBounds_toArray, List.set_cons_zero, List.set_cons_succ]
          refine wpQuiet_run (.bool false) (by rfl) (fun _ _ => by first | rfl | go_simp) ?_
          simp only [Act.put, List.setIfInBounds_toArray, List.set_cons_zero, List.set_cons_succ]
          refine wpQuiet_run (.bool false) (by rfl) (fun _ _ => by first | rfl | go_simp) ?_
          simp only [Act.put, List.setIfInBounds_toArray, List.set_cons_zero, List.set_cons_succ]
          refine wpQuiet_run (.bool false) (by rfl) (fun _ _ => by first | rfl | go_simp) ?_
          simp only [Act.put, List.setIfInBounds_toArray, List.set_cons_zero, List.set_cons_succ]
          refine wpQuiet_run (.pointer (some ⟨g, 0, none⟩)) (by rfl) (fun _ _ => by first | rfl | go_simp) ?_
          simp only [Act.put, List.setIfInBounds_toArray, List.set_cons_zero, List.set_cons_succ]
          refine wpQuiet_callB 39 _ _ (by rfl) (fun _ => by first | rfl | go_simp) (fun V hV => quietB (frFault_c _ _ _ _ _ _ (HFD2.out V hV))) ?_
          simp only [Act.put, List.setIfInBounds_toArray, List.set_cons_zero, List.set_cons_succ]
          refine wpQuiet_run (.pointer (some ⟨bx, 7, none⟩)) (by rfl) (fun _ _ => by first | rfl | go_simp) ?_
          simp only [Act.put, List.setIfInBounds_toArray, List.set_cons_zero, List.set_cons_succ]
          refine wpQuiet_run (.int .i64 y.fault) (by rfl) (fun w' hw' => by have q := (hw'.cell (p := ⟨bx, 7, none⟩) (by simpa using hbxd)).trans d7; go_simp) ?_
          simp only [Act.put, List.setIfInBounds_toArray, List.set_cons_zero, List.set_cons_succ]
          refine wpQuiet_run (.bool false) (by rfl) (fun _ _ => by first | rfl | go_simp) ?_
          simp only [Act.put, List.setIfInBounds_toArray, List.set_cons_zero, List.set_cons_succ]
          refine wpQuiet_run (.bool false) (by rfl) (fun _ _ => by first | rfl | go_simp) ?_
          simp only [Act.put, List.setIfInBounds_toArray, List.set_cons_zero, List.set_cons_succ]
          refine wpQuiet_run (.bool false) (by rfl) (fun _ _ => by first | rfl | go_simp) ?_
          simp only [Act.put, List.setIfInBounds_toArray, List.set_cons_zero, List.set_cons_succ]
          refine wpQuiet_run (.pointer (some ⟨g, 0, none⟩)) (by rfl) (fun _ _ => by first | rfl | go_simp) ?_
          simp only [Act.put, List.setIfInBounds_toArray, List.set_cons_zero, List.set_cons_succ]
          refine wpQuiet_callB 41 _ _ (by rfl) (fun _ => by first | rfl | go_simp) (fun V hV => quietB (frMetered_c _ _ _ _ _ _ (HFD2.out V hV))) ?_
          simp only [Act.put, List.setIfInBounds_toArray, List.set_cons_zero, List.set_cons_succ]
          refine wpQuiet_run (.pointer (some ⟨bx, 8, none⟩)) (by rfl) (fun _ _ => by first | rfl | go_simp) ?_
          simp only [Act.put, List.setIfInBounds_toArray, List.set_cons_zero, List.set_cons_succ]
          refine wpQuiet_run (.int .i64 (y.laid : Nat)) (by rfl) (fun w' hw' => by have q := (hw'.cell (p := ⟨bx, 8, none⟩) (by simpa using hbxd)).trans d8; go_simp) ?_
          simp only [Act.put, List.setIfInBounds_toArray, List.set_cons_zero, List.set_cons_succ]
          refine wpQuiet_run (.bool false) (by rfl) (fun _ _ => by first | rfl | go_simp) ?_
          simp only [Act.put, List.setIfInBounds_toArray, List.set_cons_zero, List.set_cons_succ]
          refine wpQuiet_run (.bool false) (by rfl) (fun _ _ => by first | rfl | go_simp) ?_
          simp only [Act.put, List.setIfInBounds_toArray, List.set_cons_zero, List.set_cons_succ]
          refine wpQuiet_run (.bool false) (by rfl) (fun _ _ => by first | rfl | go_simp) ?_
          simp only [Act.put, List.setIfInBounds_toArray, List.set_cons_zero, List.set_cons_succ]
          refine wpQuiet_run (.pointer (some ⟨g, 0, none⟩)) (by rfl) (fun _ _ => by first | rfl | go_simp) ?_
          simp only [Act.put, List.setIfInBounds_toArray, List.set_cons_zero, List.set_cons_succ]
          refine wpQuiet_callB 42 _ _ (by rfl) (fun _ => by first | rfl | go_simp) (fun V hV => quietB (frTold_c _ _ _ _ _ _ (HFD2.out V hV))) ?_
          simp only [Act.put, List.setIfInBounds_toArray, List.set_cons_zero, List.set_cons_succ]
          refine wpQuiet_run (.pointer (some ⟨bx, 9, none⟩)) (by rfl) (fun _ _ => by first | rfl | go_simp) ?_
          simp only [Act.put, List.setIfInBounds_toArray, List.set_cons_zero, List.set_cons_succ]
          refine wpQuiet_run (.int .i64 (y.told : Nat)) (by rfl) (fun w' hw' => by have q := (hw'.cell (p := ⟨bx, 9, none⟩) (by simpa using hbxd)).trans d9; go_simp) ?_
          simp only [Act.put, List.setIfInBounds_toArray, List.set_cons_zero, List.set_cons_succ]
          refine wpQuiet_run (.bool false) (by rfl) (fun _ _ => by first | rfl | go_simp) ?_
          simp only [Act.put, List.setIfInBounds_toArray, List.set_cons_zero, List.set_cons_succ]
          refine wpQuiet_run (.bool false) (by rfl) (fun _ _ => by first | rfl | go_simp) ?_
          simp only [Act.put, List.setIfInBounds_toArray, List.set_cons_zero, List.set_cons_succ]
          refine wpQuiet_nil ?_
          intro V hV
          have HFE := Lib.hid (HFD2.out V hV)
          have HKE := Lib.hid (HKD.out.keep hV HKD.out.lt)
          have HXE := Lib.hid (HXD.out.keep hV HXD.out.lt)
          have HME := Lib.hid (HMD.out.trans (hV.mono HMD.out.size))
          clear hV HFD1 HFD2 HSM HRD1 HRD2 HKD HXD HMD d6 d7 d8 d9
          go_wp2
          go_roundw
          case rel => exact ⟨j + 1, y, bv', by go_num, by omega, HFE, HKE, HXE, HTB.out.1, HTB.out.2.1, HME⟩
          case measure => simp [intOf]; omega
      · obtain rfl : j = n := by omega
        go_wp2
        go_ret
        exact ⟨rfl, (HO.out _ HM8.out).1⟩
theorem framerFeeds_row (c : Cfg) (l : List ByteArray) (v : Value) (w : World) (hc : c.ok) (hv : StR w w.heap.size v l ∧ ∀ s ∈ l, s.size ≤ 9223372036854775807) :
    Calls Tryz.prog 12 #[c.val, v] w fun e w' => e = .returned (.bool true) ∧ Below w.heap.size w w' := framerFeeds_w c l v w hc hv.1 hv.2
end Go.Proofs.YtebllmpdlapefaaGreatDoor
