/- WirePuts: the frame of any config and frame is the document's, or the error; it is told again, with whatever behind it. -/
import Derived.Test.YtebllmpdlapefaaGreatDoorKWireMost
import Derived.Test.YtebllmpdlapefaaGreatDoorKA32
import Derived.Test.YtebllmpdlapefaaGreatDoorKA6
namespace Go.Proofs.YtebllmpdlapefaaGreatDoor
set_option linter.unusedVariables false
set_option linter.unusedSimpArgs false
open Go.RowKit

theorem key_new (w : World) (t : TypeId) (old cs : Array Value) : (w.alloc (.cells old t)).setRow w.heap.size cs = w.alloc (.cells cs t) := by
  unfold World.setRow World.alloc
  simp only
  congr 1
  apply Array.ext
  · simp
  · intro i h1 h2
    rw [Array.getElem_modify]
    by_cases hi : w.heap.size = i
    · subst hi; simp
    · simp only [Array.getElem_push]
      have : i < w.heap.size := by simp at h2; omega
      simp [this]; omega
theorem zero_size : Tryz.zeroCells32.size = 72 := by rw [zero_key, kC_size]
theorem wpQuiet_loadG {P : Program} {ops : Array Oper} {C : World → Prop} {Q : Act → Prop} {o : Oper} {rest : List Oper} {a : Act} (hg : Region.wanted o (yielded ops a.tmps) = true) (ty : TypeId) (x : Operand) (ho : o.op = .load ty x) (g : Nat) (hx : a.eval x = .pointer (some ⟨g, 0, none⟩))
    (t : TypeId) (cs : Array Value) (fr : Nat × Nat) (d : TypeDesc) (hC : ∀ w', C w' → w'.heap[g]? = some (.cells cs t fr)) (hu : P.underlying ty = some d) (hd : (match d with | .struct _ | .array _ _ => true | _ => false) = true) (hi : (P.info? ty).map (·.size) = some cs.size)
    (h : wpQuiet P ops C Q rest (a.put o.dst (.agg cs))) : wpQuiet P ops C Q (o :: rest) a := by
  unfold wpQuiet
  rw [if_pos hg]
  refine ⟨.agg cs, fun w hw' => ?_, h⟩
  unfold Oper.quietAt execOp
  simp only [ho, hx, Instr.loadAt, Instr.sureAddr, Sem.run_bind, Sem.run_pure, Result.andThen_ok, run_loadVar_row w g t ty cs fr d (hC w hw') hu hd hi]
  simp [Oper.quietUpon, Result.andThen]
theorem info_cfg : (Tryz.prog.info? 24).map (·.size) = some 6 := by kernel_rfl
set_option maxRecDepth 100000 in
set_option maxHeartbeats 4000000 in
theorem wirePuts_w (c : Cfg) (f : Fr) (more : ByteArray) (w : World) (hc : c.ok) (hf : f.ok) (hm : more.size ≤ 9223372036854775807) :
    Calls Tryz.prog 3 #[c.val, f.val, .string more] w fun e w' => e = .returned (.bool true) ∧ Below w.heap.size w w' := by
  have hf1 := hf.nm
  have hf2 := hf.body
  by_cases h1 : 400 < f.body.size ∨ 200 < f.nm.size ∨ 100 < more.size
  · by_cases h2 : 400 < f.body.size
    · have HA := Lib.hid wireAlive
      unfold Cfg.val Fr.val at *
      obtain ⟨fm, mg, fr, un, de, it⟩ := c
      obtain ⟨id, nm, body⟩ := f
      simp only at *
      obtain ⟨W0, hW0⟩ : ∃ W0, (w.alloc (.cells #[.int .i64 fm, .int .u32 mg, .int .i64 fr, .int .i64 un, .int .i64 de, .int .i64 it] 24)).alloc (.cells #[.int .u64 id, .string nm, .string body] 27) = W0 := ⟨_, rfl⟩
      have hN := two_new hW0
      have HO : Hid (∀ V, Below W0.heap.size W0 V → Below w.heap.size w V ∧ w.heap.size + 2 ≤ V.heap.size) := Lib.hid (fun V hV => ⟨hN.2.1.trans (hV.mono (by omega)), by have := hV.size; omega⟩)
      have HKB : Hid (∀ V, Below W0.heap.size W0 V → Blk V w.heap.size 24 #[.int .i64 fm, .int .u32 mg, .int .i64 fr, .int .i64 un, .int .i64 de, .int .i64 it] ∧ Blk V (w.heap.size + 1) 27 #[.int .u64 id, .string nm, .string body]) := Lib.hid (fun V hV => ⟨hN.2.2.1.keep hV (by omega), hN.2.2.2.keep hV (by omega)⟩)
      have HKV : Hid (∀ V, Below W0.heap.size W0 V → V.cell? ⟨w.heap.size, 0, none⟩ = some (.int .i64 fm) ∧ V.cell? ⟨w.heap.size, 1, none⟩ = some (.int .u32 mg) ∧ V.cell? ⟨w.heap.size, 2, none⟩ = some (.int .i64 fr) ∧ V.cell? ⟨w.heap.size, 3, none⟩ = some (.int .i64 un) ∧ V.cell? ⟨w.heap.size, 4, none⟩ = some (.int .i64 de) ∧ V.cell? ⟨w.heap.size, 5, none⟩ = some (.int .i64 it) ∧ V.cell? ⟨w.heap.size + 1, 0, none⟩ = some (.int .u64 id) ∧ V.cell? ⟨w.heap.size + 1, 1, none⟩ = some (.string nm) ∧ V.cell? ⟨w.heap.size + 1, 2, none⟩ = some (.string body)) := Lib.hid (fun V hV => by
        obtain ⟨hB, hF⟩ := HKB.out V hV
        exact ⟨hB.cell 0, hB.cell 1, hB.cell 2, hB.cell 3, hB.cell 4, hB.cell 5, hF.cell 0, hF.cell 1, hF.cell 2⟩)
      have HW0 := Lib.hid hW0
      clear hW0 hN
      go_enter Tryz.func3, Tryz.ntmps3
      go_wp2_with fail
      rw [HW0.out]
      refine (HA.out _).mono ?_
      rintro e w1 ⟨rfl, hb⟩
      have HM1 : Hid (Below W0.heap.size W0 w1) := Lib.hid hb
      clear hb
      obtain ⟨q0, q1, q2, q3, q4, q5, q6, q7, q8⟩ := HKV.out w1 HM1.out
      go_wp2
      go_ret
      exact ⟨rfl, (HO.out _ HM1.out).1⟩
    · by_cases h3 : 200 < f.nm.size
      · have HA := Lib.hid wireAlive
        unfold Cfg.val Fr.val at *
        obtain ⟨fm, mg, fr, un, de, it⟩ := c
        obtain ⟨id, nm, body⟩ := f
        simp only at *
        obtain ⟨W0, hW0⟩ : ∃ W0, (w.alloc (.cells #[.int .i64 fm, .int .u32 mg, .int .i64 fr, .int .i64 un, .int .i64 de, .int .i64 it] 24)).alloc (.cells #[.int .u64 id, .string nm, .string body] 27) = W0 := ⟨_, rfl⟩
        have hN := two_new hW0
        have HO : Hid (∀ V, Below W0.heap.size W0 V → Below w.heap.size w V ∧ w.heap.size + 2 ≤ V.heap.size) := Lib.hid (fun V hV => ⟨hN.2.1.trans (hV.mono (by omega)), by have := hV.size; omega⟩)
        have HKB : Hid (∀ V, Below W0.heap.size W0 V → Blk V w.heap.size 24 #[.int .i64 fm, .int .u32 mg, .int .i64 fr, .int .i64 un, .int .i64 de, .int .i64 it] ∧ Blk V (w.heap.size + 1) 27 #[.int .u64 id, .string nm, .string body]) := Lib.hid (fun V hV => ⟨hN.2.2.1.keep hV (by omega), hN.2.2.2.keep hV (by omega)⟩)
        have HKV : Hid (∀ V, Below W0.heap.size W0 V → V.cell? ⟨w.heap.size, 0, none⟩ = some (.int .i64 fm) ∧ V.cell? ⟨w.heap.size, 1, none⟩ = some (.int .u32 mg) ∧ V.cell? ⟨w.heap.size, 2, none⟩ = some (.int .i64 fr) ∧ V.cell? ⟨w.heap.size, 3, none⟩ = some (.int .i64 un) ∧ V.cell? ⟨w.heap.size, 4, none⟩ = some (.int .i64 de) ∧ V.cell? ⟨w.heap.size, 5, none⟩ = some (.int .i64 it) ∧ V.cell? ⟨w.heap.size + 1, 0, none⟩ = some (.int .u64 id) ∧ V.cell? ⟨w.heap.size + 1, 1, none⟩ = some (.string nm) ∧ V.cell? ⟨w.heap.size + 1, 2, none⟩ = some (.string body)) := Lib.hid (fun V hV => by
          obtain ⟨hB, hF⟩ := HKB.out V hV
          exact ⟨hB.cell 0, hB.cell 1, hB.cell 2, hB.cell 3, hB.cell 4, hB.cell 5, hF.cell 0, hF.cell 1, hF.cell 2⟩)
        have HW0 := Lib.hid hW0
        clear hW0 hN
        go_enter Tryz.func3, Tryz.ntmps3
        go_wp2_with fail
        rw [HW0.out]
        refine (HA.out _).mono ?_
        rintro e w1 ⟨rfl, hb⟩
        have HM1 : Hid (Below W0.heap.size W0 w1) := Lib.hid hb
        clear hb
        obtain ⟨q0, q1, q2, q3, q4, q5, q6, q7, q8⟩ := HKV.out w1 HM1.out
        go_wp2
        go_ret
        exact ⟨rfl, (HO.out _ HM1.out).1⟩
      · have h4 : 100 < more.size := by omega
        have HA := Lib.hid wireAlive
        unfold Cfg.val Fr.val at *
        obtain ⟨fm, mg, fr, un, de, it⟩ := c
        obtain ⟨id, nm, body⟩ := f
        simp only at *
        obtain ⟨W0, hW0⟩ : ∃ W0, (w.alloc (.cells #[.int .i64 fm, .int .u32 mg, .int .i64 fr, .int .i64 un, .int .i64 de, .int .i64 it] 24)).alloc (.cells #[.int .u64 id, .string nm, .string body] 27) = W0 := ⟨_, rfl⟩
        have hN := two_new hW0
        have HO : Hid (∀ V, Below W0.heap.size W0 V → Below w.heap.size w V ∧ w.heap.size + 2 ≤ V.heap.size) := Lib.hid (fun V hV => ⟨hN.2.1.trans (hV.mono (by omega)), by have := hV.size; omega⟩)
        have HKB : Hid (∀ V, Below W0.heap.size W0 V → Blk V w.heap.size 24 #[.int .i64 fm, .int .u32 mg, .int .i64 fr, .int .i64 un, .int .i64 de, .int .i64 it] ∧ Blk V (w.heap.size + 1) 27 #[.int .u64 id, .string nm, .string body]) := Lib.hid (fun V hV => ⟨hN.2.2.1.keep hV (by omega), hN.2.2.2.keep hV (by omega)⟩)
        have HKV : Hid (∀ V, Below W0.heap.size W0 V → V.cell? ⟨w.heap.size, 0, none⟩ = some (.int .i64 fm) ∧ V.cell? ⟨w.heap.size, 1, none⟩ = some (.int .u32 mg) ∧ V.cell? ⟨w.heap.size, 2, none⟩ = some (.int .i64 fr) ∧ V.cell? ⟨w.heap.size, 3, none⟩ = some (.int .i64 un) ∧ V.cell? ⟨w.heap.size, 4, none⟩ = some (.int .i64 de) ∧ V.cell? ⟨w.heap.size, 5, none⟩ = some (.int .i64 it) ∧ V.cell? ⟨w.heap.size + 1, 0, none⟩ = some (.int .u64 id) ∧ V.cell? ⟨w.heap.size + 1, 1, none⟩ = some (.string nm) ∧ V.cell? ⟨w.heap.size + 1, 2, none⟩ = some (.string body)) := Lib.hid (fun V hV => by
          obtain ⟨hB, hF⟩ := HKB.out V hV
          exact ⟨hB.cell 0, hB.cell 1, hB.cell 2, hB.cell 3, hB.cell 4, hB.cell 5, hF.cell 0, hF.cell 1, hF.cell 2⟩)
        have HW0 := Lib.hid hW0
        clear hW0 hN
        go_enter Tryz.func3, Tryz.ntmps3
        go_wp2_with fail
        rw [HW0.out]
        refine (HA.out _).mono ?_
        rintro e w1 ⟨rfl, hb⟩
        have HM1 : Hid (Below W0.heap.size W0 w1) := Lib.hid hb
        clear hb
        obtain ⟨q0, q1, q2, q3, q4, q5, q6, q7, q8⟩ := HKV.out w1 HM1.out
        go_wp2
        go_ret
        exact ⟨rfl, (HO.out _ HM1.out).1⟩
  · obtain ⟨h2, h3, h4⟩ : ¬ 400 < f.body.size ∧ ¬ 200 < f.nm.size ∧ ¬ 100 < more.size := ⟨by omega, by omega, by omega⟩
    clear h1
    have HP := Lib.hid (fun w => wPut_c c f hc hf (by omega) w)
    have HQ := Lib.hid (fun w => refPut17_c c f hc hf (by omega) w)
    have HR := Lib.hid (fun w => right_c c w)
    have HR2 := Lib.hid (fun w => refRight17_c c w)
    have HS := Lib.hid (fun w => wMost_c c w)
    have HS2 := Lib.hid (fun w => refMost17_c c w)
    have hput : Hid (∀ T, wPut c f = (T, 0) → (∃ m, wNext c (T ++ more) = (0, f, T.size, m)) ∧ (T.size : Int) ≤ wMost c ∧ T.size ≤ 2000000) := Lib.hid (fun T hT => by
      have hr : c.right = true := by
        unfold wPut at hT
        by_cases hx : c.right = true ∧ wFits c f = true
        · exact hx.1
        · rw [if_neg hx] at hT; injection hT with _ h; cases h
      have h := wRaw_put hf.id hT more
      rw [wNext_right hr]
      have hz := wBytes_size c f hf (by omega)
      have : T = (wBytes c f).1 ∨ T.size = 0 := by
        unfold wPut at hT
        split at hT
        · split at hT
          · injection hT with h1 _; right; rw [← h1]; rfl
          · split at hT
            · injection hT with h1 _; right; rw [← h1]; rfl
            · injection hT with h1 _; left; exact h1.symm
        · injection hT with h1 _; right; rw [← h1]; rfl
      refine ⟨h.1, h.2, ?_⟩
      rcases this with rfl | h0
      · exact hz
      · omega)
    have HNX := Lib.hid (fun T hz w => wNext_c c (T ++ more) hc hz w)
    have HK := Lib.hid makeKey_c
    generalize wPut c f = Y at *
    obtain ⟨T, er⟩ := Y
    simp only at HP HQ
    generalize wMost c = M at *
    generalize c.right = rt at *
    unfold keyV at HK HQ
    have HI := Lib.hid (info_key' 64)
    have hKL : (kC 64).size = 72 := kC_size 64
    have HZ : Hid (Tryz.zeroCells32.size = (kC 64).size) := Lib.hid (by rw [zero_size, hKL])
    have HO1 := Lib.hid (kC_one 64)
    generalize kC 64 = KL at *
    have n1 := str_ways T T
    simp only [ne_eq, not_true_eq_false, false_and, or_false, true_and] at n1
    obtain ⟨n1, n3⟩ := n1
    by_cases h5 : er = 0
    · subst h5
      obtain ⟨⟨m, hn⟩, hm2, hz⟩ := hput.out T rfl
      have HN := Lib.hid (fun w => HNX.out T (by rw [size_app]; omega) w)
      rw [hn] at HN
      unfold wRet at HN
      simp only at HN
      clear hput HNX hn
      have hEG := eqg_fr
      have hEQ := fun w : World => eqFr_same f.id f.nm f.body w
      have n5 := n1
      have HA := Lib.hid wireAlive
      unfold Cfg.val Fr.val at *
      obtain ⟨fm, mg, fr, un, de, it⟩ := c
      obtain ⟨id, nm, body⟩ := f
      simp only at *
      obtain ⟨W0, hW0⟩ : ∃ W0, (w.alloc (.cells #[.int .i64 fm, .int .u32 mg, .int .i64 fr, .int .i64 un, .int .i64 de, .int .i64 it] 24)).alloc (.cells #[.int .u64 id, .string nm, .string body] 27) = W0 := ⟨_, rfl⟩
      have hN := two_new hW0
      have HO : Hid (∀ V, Below W0.heap.size W0 V → Below w.heap.size w V ∧ w.heap.size + 2 ≤ V.heap.size) := Lib.hid (fun V hV => ⟨hN.2.1.trans (hV.mono (by omega)), by have := hV.size; omega⟩)
      have HKB : Hid (∀ V, Below W0.heap.size W0 V → Blk V w.heap.size 24 #[.int .i64 fm, .int .u32 mg, .int .i64 fr, .int .i64 un, .int .i64 de, .int .i64 it] ∧ Blk V (w.heap.size + 1) 27 #[.int .u64 id, .string nm, .string body]) := Lib.hid (fun V hV => ⟨hN.2.2.1.keep hV (by omega), hN.2.2.2.keep hV (by omega)⟩)
      have HKV : Hid (∀ V, Below W0.heap.size W0 V → V.cell? ⟨w.heap.size, 0, none⟩ = some (.int .i64 fm) ∧ V.cell? ⟨w.heap.size, 1, none⟩ = some (.int .u32 mg) ∧ V.cell? ⟨w.heap.size, 2, none⟩ = some (.int .i64 fr) ∧ V.cell? ⟨w.heap.size, 3, none⟩ = some (.int .i64 un) ∧ V.cell? ⟨w.heap.size, 4, none⟩ = some (.int .i64 de) ∧ V.cell? ⟨w.heap.size, 5, none⟩ = some (.int .i64 it) ∧ V.cell? ⟨w.heap.size + 1, 0, none⟩ = some (.int .u64 id) ∧ V.cell? ⟨w.heap.size + 1, 1, none⟩ = some (.string nm) ∧ V.cell? ⟨w.heap.size + 1, 2, none⟩ = some (.string body)) := Lib.hid (fun V hV => by
        obtain ⟨hB, hF⟩ := HKB.out V hV
        exact ⟨hB.cell 0, hB.cell 1, hB.cell 2, hB.cell 3, hB.cell 4, hB.cell 5, hF.cell 0, hF.cell 1, hF.cell 2⟩)
      have HW0 := Lib.hid hW0
      clear hW0 hN
      go_enter Tryz.func3, Tryz.ntmps3
      go_wp2_with fail
      rw [HW0.out]
      refine (HA.out _).mono ?_
      rintro e w1 ⟨rfl, hb⟩
      have HM1 : Hid (Below W0.heap.size W0 w1) := Lib.hid hb
      clear hb
      obtain ⟨q0, q1, q2, q3, q4, q5, q6, q7, q8⟩ := HKV.out w1 HM1.out
      go_wp2_with fail
      refine (HK.out _).mono ?_
      rintro e w2 ⟨rfl, hb2⟩
      have HM2 : Hid (Below W0.heap.size W0 w2) := Lib.hid (HM1.out.trans (hb2.mono HM1.out.size))
      clear q0 q1 q2 q3 q4 q5 q6 q7 q8 hb2
      obtain ⟨q0, q1, q2, q3, q4, q5, q6, q7, q8⟩ := HKV.out w2 HM2.out
      go_wp2_with (
        refine wpList_store_row (by rfl) 32 (.tmp 7) (.tmp 32) (by rfl) w2.heap.size KL (by rfl) (by rfl) 32 _ (by exact Blk.new _ _ _) HI.out HZ.out HO1.out ?_
        rw [key_new]
        obtain ⟨w3, hw3⟩ : ∃ w3, w2.alloc (.cells KL 32) = w3 := ⟨_, rfl⟩
        rw [hw3]
        have HM3 : Hid (Below W0.heap.size W0 w3) := Lib.hid (by rw [← hw3]; exact HM2.out.alloc HM2.out.size _)
        have HK3 : Hid (Blk w3 w2.heap.size 32 KL) := Lib.hid (by rw [← hw3]; exact Blk.new _ _ _)
        clear hw3 q0 q1 q2 q3 q4 q5 q6 q7 q8
        obtain ⟨q0, q1, q2, q3, q4, q5, q6, q7, q8⟩ := HKV.out w3 HM3.out
        )
      refine (HP.out _).mono ?_
      rintro e w4 ⟨rfl, hb4⟩
      have HK4 : Hid (Blk w4 w2.heap.size 32 KL) := Lib.hid (HK3.out.keep hb4 HK3.out.lt)
      have HM4 : Hid (Below W0.heap.size W0 w4) := Lib.hid (HM3.out.trans (hb4.mono HM3.out.size))
      clear q0 q1 q2 q3 q4 q5 q6 q7 q8 hb4
      obtain ⟨q0, q1, q2, q3, q4, q5, q6, q7, q8⟩ := HKV.out w4 HM4.out
      go_wp2_with (refine wpList_load_row (by rfl) 32 (.tmp 7) (by rfl) w2.heap.size (by rfl) 32 KL (0, 0) _ HK4.out Tryz.underlying32 rfl HI.out ?_)
      refine (HQ.out _).mono ?_
      rintro e w5 ⟨rfl, hb5⟩
      have HM5 : Hid (Below W0.heap.size W0 w5) := Lib.hid (HM4.out.trans (hb5.mono HM4.out.size))
      clear q0 q1 q2 q3 q4 q5 q6 q7 q8 hb5
      obtain ⟨q0, q1, q2, q3, q4, q5, q6, q7, q8⟩ := HKV.out w5 HM5.out
      clear HK3 HK4 HK HP HQ
      go_wp2
      refine wp_region_below (by kernel_rfl) (by kernel_rfl) ?_
      refine wpQuiet_loadG (by rfl) 24 (.tmp 3) (by rfl) w.heap.size (by rfl) 24 #[.int .i64 fm, .int .u32 mg, .int .i64 fr, .int .i64 un, .int .i64 de, .int .i64 it] (0, 0) _ (by intro w' hw'; exact (HKB.out w' (HM5.out.trans (hw'.mono HM5.out.size))).1) Tryz.underlying24 rfl info_cfg ?_
      simp only [Act.put, List.setIfInBounds_toArray, List.set_cons_zero, List.set_cons_succ]
      refine wpQuiet_callB 17 _ _ (by rfl) (fun _ => by first | rfl | go_simp) (fun w _ => HR.out _) ?_
      simp only [Act.put, List.setIfInBounds_toArray, List.set_cons_zero, List.set_cons_succ]
      refine wpQuiet_loadG (by rfl) 24 (.tmp 3) (by rfl) w.heap.size (by rfl) 24 #[.int .i64 fm, .int .u32 mg, .int .i64 fr, .int .i64 un, .int .i64 de, .int .i64 it] (0, 0) _ (by intro w' hw'; exact (HKB.out w' (HM5.out.trans (hw'.mono HM5.out.size))).1) Tryz.underlying24 rfl info_cfg ?_
      simp only [Act.put, List.setIfInBounds_toArray, List.set_cons_zero, List.set_cons_succ]
      refine wpQuiet_callB 18 _ _ (by rfl) (fun _ => by first | rfl | go_simp) (fun w _ => HR2.out _) ?_
      simp only [Act.put, List.setIfInBounds_toArray, List.set_cons_zero, List.set_cons_succ]
      refine wpQuiet_run (.bool false) (by rfl) (fun _ _ => by first | rfl | go_simp) ?_
      simp only [Act.put, List.setIfInBounds_toArray, List.set_cons_zero, List.set_cons_succ]
      refine wpQuiet_run (.bool false) (by rfl) (fun _ _ => by first | rfl | go_simp) ?_
      simp only [Act.put, List.setIfInBounds_toArray, List.set_cons_zero, List.set_cons_succ]
      refine wpQuiet_loadG (by rfl) 24 (.tmp 3) (by rfl) w.heap.size (by rfl) 24 #[.int .i64 fm, .int .u32 mg, .int .i64 fr, .int .i64 un, .int .i64 de, .int .i64 it] (0, 0) _ (by intro w' hw'; exact (HKB.out w' (HM5.out.trans (hw'.mono HM5.out.size))).1) Tryz.underlying24 rfl info_cfg ?_
      simp only [Act.put, List.setIfInBounds_toArray, List.set_cons_zero, List.set_cons_succ]
      refine wpQuiet_callB 19 _ _ (by rfl) (fun _ => by first | rfl | go_simp) (fun w _ => HS.out _) ?_
      simp only [Act.put, List.setIfInBounds_toArray, List.set_cons_zero, List.set_cons_succ]
      refine wpQuiet_loadG (by rfl) 24 (.tmp 3) (by rfl) w.heap.size (by rfl) 24 #[.int .i64 fm, .int .u32 mg, .int .i64 fr, .int .i64 un, .int .i64 de, .int .i64 it] (0, 0) _ (by intro w' hw'; exact (HKB.out w' (HM5.out.trans (hw'.mono HM5.out.size))).1) Tryz.underlying24 rfl info_cfg ?_
      simp only [Act.put, List.setIfInBounds_toArray, List.set_cons_zero, List.set_cons_succ]
      refine wpQuiet_callB 20 _ _ (by rfl) (fun _ => by first | rfl | go_simp) (fun w _ => HS2.out _) ?_
      simp only [Act.put, List.setIfInBounds_toArray, List.set_cons_zero, List.set_cons_succ]
      refine wpQuiet_run (.bool false) (by rfl) (fun _ _ => by first | rfl | go_simp) ?_
      simp only [Act.put, List.setIfInBounds_toArray, List.set_cons_zero, List.set_cons_succ]
      refine wpQuiet_run (.bool false) (by rfl) (fun _ _ => by first | rfl | go_simp) ?_
      simp only [Act.put, List.setIfInBounds_toArray, List.set_cons_zero, List.set_cons_succ]
      refine wpQuiet_run (.bool false) (by rfl) (fun _ _ => by first | rfl | go_simp) ?_
      simp only [Act.put, List.setIfInBounds_toArray, List.set_cons_zero, List.set_cons_succ]
      refine wpQuiet_run (.string T) (by rfl) (fun _ _ => by first | rfl | go_simp) ?_
      simp only [Act.put, List.setIfInBounds_toArray, List.set_cons_zero, List.set_cons_succ]
      refine wpQuiet_run (.string T) (by rfl) (fun _ _ => by first | rfl | go_simp) ?_
      simp only [Act.put, List.setIfInBounds_toArray, List.set_cons_zero, List.set_cons_succ]
      refine wpQuiet_run (.bool false) (by rfl) (fun _ _ => by first | rfl | go_simp) ?_
      simp only [Act.put, List.setIfInBounds_toArray, List.set_cons_zero, List.set_cons_succ]
      refine wpQuiet_run (.bool false) (by rfl) (fun _ _ => by first | rfl | go_simp) ?_
      simp only [Act.put, List.setIfInBounds_toArray, List.set_cons_zero, List.set_cons_succ]
      refine wpQuiet_run (.bool false) (by rfl) (fun _ _ => by first | rfl | go_simp) ?_
      simp only [Act.put, List.setIfInBounds_toArray, List.set_cons_zero, List.set_cons_succ]
      refine wpQuiet_run (.int .i64 0) (by rfl) (fun _ _ => by first | rfl | go_simp) ?_
      simp only [Act.put, List.setIfInBounds_toArray, List.set_cons_zero, List.set_cons_succ]
      refine wpQuiet_run (.int .i64 0) (by rfl) (fun _ _ => by first | rfl | go_simp) ?_
      simp only [Act.put, List.setIfInBounds_toArray, List.set_cons_zero, List.set_cons_succ]
      refine wpQuiet_run (.bool false) (by rfl) (fun _ _ => by first | rfl | go_simp) ?_
      simp only [Act.put, List.setIfInBounds_toArray, List.set_cons_zero, List.set_cons_succ]
      refine wpQuiet_run (.bool false) (by rfl) (fun _ _ => by first | rfl | go_simp) ?_
      simp only [Act.put, List.setIfInBounds_toArray, List.set_cons_zero, List.set_cons_succ]
      refine wpQuiet_nil ?_
      intro w6 hb6
      have HM6 : Hid (Below W0.heap.size W0 w6) := Lib.hid (HM5.out.trans (hb6.mono HM5.out.size))
      clear q0 q1 q2 q3 q4 q5 q6 q7 q8 hb6
      obtain ⟨q0, q1, q2, q3, q4, q5, q6, q7, q8⟩ := HKV.out w6 HM6.out
      go_wp2_with fail
      refine (HN.out _).mono ?_
      rintro e w7 ⟨rfl, hb7⟩
      have HM7 : Hid (Below W0.heap.size W0 w7) := Lib.hid (HM6.out.trans (hb7.mono HM6.out.size))
      clear q0 q1 q2 q3 q4 q5 q6 q7 q8 hb7
      obtain ⟨q0, q1, q2, q3, q4, q5, q6, q7, q8⟩ := HKV.out w7 HM7.out
      have HM8 : Hid (Below W0.heap.size W0 (w7.alloc (.cells #[.int .u64 id, .string nm, .string body] 27))) := Lib.hid (HM7.out.alloc HM7.out.size _)
      clear q0 q1 q2 q3 q4 q5 q6 q7 q8
      obtain ⟨q0, q1, q2, q3, q4, q5, q6, q7, q8⟩ := HKV.out _ HM8.out
      go_wp2_with fail
      refine (HS.out _).mono ?_
      rintro e w9 ⟨rfl, hb9⟩
      have HM9 : Hid (Below W0.heap.size W0 w9) := Lib.hid (HM8.out.trans (hb9.mono HM8.out.size))
      clear q0 q1 q2 q3 q4 q5 q6 q7 q8 hb9
      obtain ⟨q0, q1, q2, q3, q4, q5, q6, q7, q8⟩ := HKV.out w9 HM9.out
      go_wp2
      go_ret
      exact ⟨ret_bool (by simp), (HO.out _ HM9.out).1⟩
    · clear hput HNX
      have h6 : (er == 0) = false := beq_eq_false_iff_ne.2 h5
      have h7 : (er != 0) = true := bne_iff_ne.2 h5
      have HA := Lib.hid wireAlive
      unfold Cfg.val Fr.val at *
      obtain ⟨fm, mg, fr, un, de, it⟩ := c
      obtain ⟨id, nm, body⟩ := f
      simp only at *
      obtain ⟨W0, hW0⟩ : ∃ W0, (w.alloc (.cells #[.int .i64 fm, .int .u32 mg, .int .i64 fr, .int .i64 un, .int .i64 de, .int .i64 it] 24)).alloc (.cells #[.int .u64 id, .string nm, .string body] 27) = W0 := ⟨_, rfl⟩
      have hN := two_new hW0
      have HO : Hid (∀ V, Below W0.heap.size W0 V → Below w.heap.size w V ∧ w.heap.size + 2 ≤ V.heap.size) := Lib.hid (fun V hV => ⟨hN.2.1.trans (hV.mono (by omega)), by have := hV.size; omega⟩)
      have HKB : Hid (∀ V, Below W0.heap.size W0 V → Blk V w.heap.size 24 #[.int .i64 fm, .int .u32 mg, .int .i64 fr, .int .i64 un, .int .i64 de, .int .i64 it] ∧ Blk V (w.heap.size + 1) 27 #[.int .u64 id, .string nm, .string body]) := Lib.hid (fun V hV => ⟨hN.2.2.1.keep hV (by omega), hN.2.2.2.keep hV (by omega)⟩)
      have HKV : Hid (∀ V, Below W0.heap.size W0 V → V.cell? ⟨w.heap.size, 0, none⟩ = some (.int .i64 fm) ∧ V.cell? ⟨w.heap.size, 1, none⟩ = some (.int .u32 mg) ∧ V.cell? ⟨w.heap.size, 2, none⟩ = some (.int .i64 fr) ∧ V.cell? ⟨w.heap.size, 3, none⟩ = some (.int .i64 un) ∧ V.cell? ⟨w.heap.size, 4, none⟩ = some (.int .i64 de) ∧ V.cell? ⟨w.heap.size, 5, none⟩ = some (.int .i64 it) ∧ V.cell? ⟨w.heap.size + 1, 0, none⟩ = some (.int .u64 id) ∧ V.cell? ⟨w.heap.size + 1, 1, none⟩ = some (.string nm) ∧ V.cell? ⟨w.heap.size + 1, 2, none⟩ = some (.string body)) := Lib.hid (fun V hV => by
        obtain ⟨hB, hF⟩ := HKB.out V hV
        exact ⟨hB.cell 0, hB.cell 1, hB.cell 2, hB.cell 3, hB.cell 4, hB.cell 5, hF.cell 0, hF.cell 1, hF.cell 2⟩)
      have HW0 := Lib.hid hW0
      clear hW0 hN
      go_enter Tryz.func3, Tryz.ntmps3
      go_wp2_with fail
      rw [HW0.out]
      refine (HA.out _).mono ?_
      rintro e w1 ⟨rfl, hb⟩
      have HM1 : Hid (Below W0.heap.size W0 w1) := Lib.hid hb
      clear hb
      obtain ⟨q0, q1, q2, q3, q4, q5, q6, q7, q8⟩ := HKV.out w1 HM1.out
      go_wp2_with fail
      refine (HK.out _).mono ?_
      rintro e w2 ⟨rfl, hb2⟩
      have HM2 : Hid (Below W0.heap.size W0 w2) := Lib.hid (HM1.out.trans (hb2.mono HM1.out.size))
      clear q0 q1 q2 q3 q4 q5 q6 q7 q8 hb2
      obtain ⟨q0, q1, q2, q3, q4, q5, q6, q7, q8⟩ := HKV.out w2 HM2.out
      go_wp2_with (
        refine wpList_store_row (by rfl) 32 (.tmp 7) (.tmp 32) (by rfl) w2.heap.size KL (by rfl) (by rfl) 32 _ (by exact Blk.new _ _ _) HI.out HZ.out HO1.out ?_
        rw [key_new]
        obtain ⟨w3, hw3⟩ : ∃ w3, w2.alloc (.cells KL 32) = w3 := ⟨_, rfl⟩
        rw [hw3]
        have HM3 : Hid (Below W0.heap.size W0 w3) := Lib.hid (by rw [← hw3]; exact HM2.out.alloc HM2.out.size _)
        have HK3 : Hid (Blk w3 w2.heap.size 32 KL) := Lib.hid (by rw [← hw3]; exact Blk.new _ _ _)
        clear hw3 q0 q1 q2 q3 q4 q5 q6 q7 q8
        obtain ⟨q0, q1, q2, q3, q4, q5, q6, q7, q8⟩ := HKV.out w3 HM3.out
        )
      refine (HP.out _).mono ?_
      rintro e w4 ⟨rfl, hb4⟩
      have HK4 : Hid (Blk w4 w2.heap.size 32 KL) := Lib.hid (HK3.out.keep hb4 HK3.out.lt)
      have HM4 : Hid (Below W0.heap.size W0 w4) := Lib.hid (HM3.out.trans (hb4.mono HM3.out.size))
      clear q0 q1 q2 q3 q4 q5 q6 q7 q8 hb4
      obtain ⟨q0, q1, q2, q3, q4, q5, q6, q7, q8⟩ := HKV.out w4 HM4.out
      go_wp2_with (refine wpList_load_row (by rfl) 32 (.tmp 7) (by rfl) w2.heap.size (by rfl) 32 KL (0, 0) _ HK4.out Tryz.underlying32 rfl HI.out ?_)
      refine (HQ.out _).mono ?_
      rintro e w5 ⟨rfl, hb5⟩
      have HM5 : Hid (Below W0.heap.size W0 w5) := Lib.hid (HM4.out.trans (hb5.mono HM4.out.size))
      clear q0 q1 q2 q3 q4 q5 q6 q7 q8 hb5
      obtain ⟨q0, q1, q2, q3, q4, q5, q6, q7, q8⟩ := HKV.out w5 HM5.out
      clear HK3 HK4 HK HP HQ
      go_wp2
      refine wp_region_below (by kernel_rfl) (by kernel_rfl) ?_
      refine wpQuiet_loadG (by rfl) 24 (.tmp 3) (by rfl) w.heap.size (by rfl) 24 #[.int .i64 fm, .int .u32 mg, .int .i64 fr, .int .i64 un, .int .i64 de, .int .i64 it] (0, 0) _ (by intro w' hw'; exact (HKB.out w' (HM5.out.trans (hw'.mono HM5.out.size))).1) Tryz.underlying24 rfl info_cfg ?_
      simp only [Act.put, List.setIfInBounds_toArray, List.set_cons_zero, List.set_cons_succ]
      refine wpQuiet_callB 17 _ _ (by rfl) (fun _ => by first | rfl | go_simp) (fun w _ => HR.out _) ?_
      simp only [Act.put, List.setIfInBounds_toArray, List.set_cons_zero, List.set_cons_succ]
      refine wpQuiet_loadG (by rfl) 24 (.tmp 3) (by rfl) w.heap.size (by rfl) 24 #[.int .i64 fm, .int .u32 mg, .int .i64 fr, .int .i64 un, .int .i64 de, .int .i64 it] (0, 0) _ (by intro w' hw'; exact (HKB.out w' (HM5.out.trans (hw'.mono HM5.out.size))).1) Tryz.underlying24 rfl info_cfg ?_
      simp only [Act.put, List.setIfInBounds_toArray, List.set_cons_zero, List.set_cons_succ]
      refine wpQuiet_callB 18 _ _ (by rfl) (fun _ => by first | rfl | go_simp) (fun w _ => HR2.out _) ?_
      simp only [Act.put, List.setIfInBounds_toArray, List.set_cons_zero, List.set_cons_succ]
      refine wpQuiet_run (.bool false) (by rfl) (fun _ _ => by first | rfl | go_simp) ?_
      simp only [Act.put, List.setIfInBounds_toArray, List.set_cons_zero, List.set_cons_succ]
      refine wpQuiet_run (.bool false) (by rfl) (fun _ _ => by first | rfl | go_simp) ?_
      simp only [Act.put, List.setIfInBounds_toArray, List.set_cons_zero, List.set_cons_succ]
      refine wpQuiet_loadG (by rfl) 24 (.tmp 3) (by rfl) w.heap.size (by rfl) 24 #[.int .i64 fm, .int .u32 mg, .int .i64 fr, .int .i64 un, .int .i64 de, .int .i64 it] (0, 0) _ (by intro w' hw'; exact (HKB.out w' (HM5.out.trans (hw'.mono HM5.out.size))).1) Tryz.underlying24 rfl info_cfg ?_
      simp only [Act.put, List.setIfInBounds_toArray, List.set_cons_zero, List.set_cons_succ]
      refine wpQuiet_callB 19 _ _ (by rfl) (fun _ => by first | rfl | go_simp) (fun w _ => HS.out _) ?_
      simp only [Act.put, List.setIfInBounds_toArray, List.set_cons_zero, List.set_cons_succ]
      refine wpQuiet_loadG (by rfl) 24 (.tmp 3) (by rfl) w.heap.size (by rfl) 24 #[.int .i64 fm, .int .u32 mg, .int .i64 fr, .int .i64 un, .int .i64 de, .int .i64 it] (0, 0) _ (by intro w' hw'; exact (HKB.out w' (HM5.out.trans (hw'.mono HM5.out.size))).1) Tryz.underlying24 rfl info_cfg ?_
      simp only [Act.put, List.setIfInBounds_toArray, List.set_cons_zero, List.set_cons_succ]
      refine wpQuiet_callB 20 _ _ (by rfl) (fun _ => by first | rfl | go_simp) (fun w _ => HS2.out _) ?_
      simp only [Act.put, List.setIfInBounds_toArray, List.set_cons_zero, List.set_cons_succ]
      refine wpQuiet_run (.bool false) (by rfl) (fun _ _ => by first | rfl | go_simp) ?_
      simp only [Act.put, List.setIfInBounds_toArray, List.set_cons_zero, List.set_cons_succ]
      refine wpQuiet_run (.bool false) (by rfl) (fun _ _ => by first | rfl | go_simp) ?_
      simp only [Act.put, List.setIfInBounds_toArray, List.set_cons_zero, List.set_cons_succ]
      refine wpQuiet_run (.bool false) (by rfl) (fun _ _ => by first | rfl | go_simp) ?_
      simp only [Act.put, List.setIfInBounds_toArray, List.set_cons_zero, List.set_cons_succ]
      refine wpQuiet_run (.string T) (by rfl) (fun _ _ => by first | rfl | go_simp) ?_
      simp only [Act.put, List.setIfInBounds_toArray, List.set_cons_zero, List.set_cons_succ]
      refine wpQuiet_run (.string T) (by rfl) (fun _ _ => by first | rfl | go_simp) ?_
      simp only [Act.put, List.setIfInBounds_toArray, List.set_cons_zero, List.set_cons_succ]
      refine wpQuiet_run (.bool false) (by rfl) (fun _ _ => by first | rfl | go_simp) ?_
      simp only [Act.put, List.setIfInBounds_toArray, List.set_cons_zero, List.set_cons_succ]
      refine wpQuiet_run (.bool false) (by rfl) (fun _ _ => by first | rfl | go_simp) ?_
      simp only [Act.put, List.setIfInBounds_toArray, List.set_cons_zero, List.set_cons_succ]
      refine wpQuiet_run (.bool false) (by rfl) (fun _ _ => by first | rfl | go_simp) ?_
      simp only [Act.put, List.setIfInBounds_toArray, List.set_cons_zero, List.set_cons_succ]
      refine wpQuiet_run (.int .i64 er) (by rfl) (fun _ _ => by first | rfl | go_simp) ?_
      simp only [Act.put, List.setIfInBounds_toArray, List.set_cons_zero, List.set_cons_succ]
      refine wpQuiet_run (.int .i64 er) (by rfl) (fun _ _ => by first | rfl | go_simp) ?_
      simp only [Act.put, List.setIfInBounds_toArray, List.set_cons_zero, List.set_cons_succ]
      refine wpQuiet_run (.bool false) (by rfl) (fun _ _ => by first | rfl | go_simp) ?_
      simp only [Act.put, List.setIfInBounds_toArray, List.set_cons_zero, List.set_cons_succ]
      refine wpQuiet_run (.bool false) (by rfl) (fun _ _ => by first | rfl | go_simp) ?_
      simp only [Act.put, List.setIfInBounds_toArray, List.set_cons_zero, List.set_cons_succ]
      refine wpQuiet_nil ?_
      intro w6 hb6
      have HM6 : Hid (Below W0.heap.size W0 w6) := Lib.hid (HM5.out.trans (hb6.mono HM5.out.size))
      clear q0 q1 q2 q3 q4 q5 q6 q7 q8 hb6
      obtain ⟨q0, q1, q2, q3, q4, q5, q6, q7, q8⟩ := HKV.out w6 HM6.out
      go_wp2
      go_ret
      exact ⟨rfl, (HO.out _ HM6.out).1⟩
theorem wirePuts_row (c : Cfg) (f : Fr) (more : ByteArray) (w : World) (hc : c.ok) (hf : f.ok) (hm : more.size ≤ maxLen) :
    Calls Tryz.prog 3 #[c.val, f.val, .string more] w fun e w' => e = .returned (.bool true) ∧ Below w.heap.size w w' :=
  wirePuts_w c f more w hc hf (by simpa [maxLen] using hm)
end Go.Proofs.YtebllmpdlapefaaGreatDoor
