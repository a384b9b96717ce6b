/- SplitJoins: the bytes of any frames are the document's, or the error; they are split into the same, with an empty tail. -/
import Derived.Test.YtebllmpdlapefaaGreatDoorKA37
import Derived.Test.YtebllmpdlapefaaGreatDoorKA40
import Derived.Test.YtebllmpdlapefaaGreatDoorKA35
namespace Go.Proofs.YtebllmpdlapefaaGreatDoor
set_option linter.unusedVariables false
set_option linter.unusedSimpArgs false
open Go.RowKit

theorem wJoin_size {c : Cfg} : ∀ (l : List Fr) (acc : ByteArray), (∀ f ∈ l, f.ok ∧ f.body.size ≤ 200) → (wJoin c acc l).1.size ≤ acc.size + 1000 * l.length
  | [], acc, _ => by simp [wJoin]
  | f :: l, acc, h => by
    obtain ⟨h1, h2⟩ := h f (List.mem_cons_self ..)
    have := (wPut_small c f h1 h2).1
    unfold wJoin
    split
    · simp
    · have h3 := wJoin_size (c := c) l (acc ++ (wPut c f).1) (fun g hg => h g (List.mem_cons_of_mem _ hg))
      rw [size_app] at h3
      simp only [List.length_cons]
      omega
set_option maxRecDepth 100000 in
set_option maxHeartbeats 4000000 in
theorem splitJoins_w (c : Cfg) (l : List Fr) (v : Value) (w : World) (hc : c.ok) (hl : FrR w w.heap.size v l) (ho : ∀ f ∈ l, f.ok) :
    Calls Tryz.prog 8 #[c.val, v] w fun e w' => e = .returned (.bool true) ∧ Below w.heap.size w w' := by
  have HA := Lib.hid splitAlive
  obtain ⟨A, n, cap, rfl, hn, hnc, hcm⟩ := hl.form'
  have HG := Lib.hid (fun V (h : Below w.heap.size w V) => great18_c (.slice A n cap) l w.heap.size V (hl.below h) h.size ho)
  cases hg : grF l with
  | true =>
    rw [hg] at HG
    clear hg hl ho
    unfold Cfg.val at *
    obtain ⟨fm, mg, fr, un, de, it⟩ := c
    simp only at *
    obtain ⟨W0, hW0⟩ : ∃ W0, w.alloc (.cells #[.int .i64 fm, .int .u32 mg, .int .i64 fr, .int .i64 un, .int .i64 de, .int .i64 it] 24) = W0 := ⟨_, rfl⟩
    have hz : W0.heap.size = w.heap.size + 1 := by rw [← hW0]; simp
    have hB : Blk W0 w.heap.size 24 #[.int .i64 fm, .int .u32 mg, .int .i64 fr, .int .i64 un, .int .i64 de, .int .i64 it] := by rw [← hW0]; exact Blk.new w _ _
    have HO : Hid (∀ V, Below W0.heap.size W0 V → Below w.heap.size w V ∧ w.heap.size + 1 ≤ V.heap.size) := Lib.hid (fun V hV => by
      have h1 : Below w.heap.size w W0 := by rw [← hW0]; exact (by repeat (first | exact Below.refl _ _ | assumption | with_reducible refine Below.drewN' ?_ _ | with_reducible refine Below.drew ?_ | ((with_reducible refine Below.alloc' ?_ ?_ _); · (first | omega | (simp <;> omega)))))
      exact ⟨h1.trans (hV.mono (by omega)), by have := hV.size; omega⟩)
    have HKB : Hid (∀ V, Below W0.heap.size W0 V → Blk V w.heap.size 24 #[.int .i64 fm, .int .u32 mg, .int .i64 fr, .int .i64 un, .int .i64 de, .int .i64 it]) := Lib.hid (fun V hV => hB.keep hV (by omega))
    have HKV : Hid (∀ V, Below W0.heap.size W0 V → V.cell? ⟨w.heap.size, 0, none⟩ = some (.int .i64 fm) ∧ V.cell? ⟨w.heap.size, 1, none⟩ = some (.int .u32 mg) ∧ V.cell? ⟨w.heap.size, 2, none⟩ = some (.int .i64 fr) ∧ V.cell? ⟨w.heap.size, 3, none⟩ = some (.int .i64 un) ∧ V.cell? ⟨w.heap.size, 4, none⟩ = some (.int .i64 de) ∧ V.cell? ⟨w.heap.size, 5, none⟩ = some (.int .i64 it)) := Lib.hid (fun V hV => by
      have hB := hB.keep hV (by omega)
      exact ⟨hB.cell 0, hB.cell 1, hB.cell 2, hB.cell 3, hB.cell 4, hB.cell 5⟩)
    have HW0 := Lib.hid hW0
    clear hW0 hB hz
    go_enter Tryz.func8, Tryz.ntmps8
    go_wp2_with fail
    rw [HW0.out]
    refine (HA.out _).mono ?_
    rintro e w1 ⟨rfl, hb⟩
    have HM1 : Hid (Below W0.heap.size W0 w1) := Lib.hid hb
    clear hb
    obtain ⟨q0, q1, q2, q3, q4, q5⟩ := HKV.out w1 HM1.out
    go_wp2_with fail
    refine (HG.out _ (HO.out _ HM1.out).1).mono ?_
    rintro e w2 ⟨rfl, rfl⟩
    go_wp2
    go_ret
    exact ⟨rfl, (HO.out _ HM1.out).1⟩
  | false =>
    rw [hg] at HG
    have hok : ∀ f ∈ l, f.ok ∧ f.body.size ≤ 200 := fun f hf => ⟨ho f hf, by
      unfold grF at hg
      rw [Bool.or_eq_false_iff] at hg
      have := List.any_eq_false.1 hg.2 f hf
      simp at this
      omega⟩
    have hl20 : l.length ≤ 20 := by
      unfold grF at hg
      rw [Bool.or_eq_false_iff] at hg
      have := hg.1
      simp at this
      omega
    clear hg
    have HJ := Lib.hid (fun V (h : Below w.heap.size w V) => join_c c (.slice A n cap) l w.heap.size V hc (hl.below h) h.size hok hl20)
    have HQ := Lib.hid (fun V (h : Below w.heap.size w V) => refJoin18_c c (.slice A n cap) l w.heap.size V hc (hl.below h) h.size hok hl20)
    have HF := Lib.hid (fun V (h : Below w.heap.size w V) => hl.below h)
    have HK := Lib.hid makeKey_c
    have hsp : Hid (∀ S, wJoinA c l = (S, 0) → S.size ≤ 20000 ∧ ∃ m, split (wNext c) S = (l, ByteArray.empty, m, 0)) := Lib.hid (fun S hS => by
      unfold wJoinA at hS
      have hr : c.right = true := by
        cases hr : c.right with
        | true => rfl
        | false => rw [if_neg (by simp [hr])] at hS; injection hS with _ h; cases h
      rw [if_pos hr] at hS
      have hz := wJoin_size (c := c) l ByteArray.empty hok
      rw [hS] at hz
      obtain ⟨T, e, m, h⟩ := wJoin_split hr l ByteArray.empty S (fun f hf => (ho f hf).id) hS
      have e2 : S = T := by rw [e]; apply bytes_ext; rw [toList_app]; rfl
      subst e2
      refine ⟨by simp at hz; omega, m, h⟩)
    have HS := Lib.hid (fun S hz V => split_c c S V hc hz)
    clear hl ho
    unfold keyV at HK HQ
    generalize kC 64 = KL at *
    generalize wJoinA c l = J at *
    obtain ⟨S, er⟩ := J
    simp only at HJ HQ
    have n1 := str_ways S S
    simp only [ne_eq, not_true_eq_false, false_and, or_false, true_and] at n1
    obtain ⟨n1, n2⟩ := n1
    by_cases h0 : er = 0
    · subst h0
      obtain ⟨hz, m, hs⟩ := hsp.out S rfl
      have HS1 := Lib.hid (fun V => HS.out S (by omega) V)
      rw [hs] at HS1
      clear hs HS hsp
      simp only at HS1
      have HSM := Lib.hid (fun va vb B V ha hb hB => same18_c va vb l B V ha hb hB (by omega))
      unfold Cfg.val at *
      obtain ⟨fm, mg, fr, un, de, it⟩ := c
      simp only at *
      obtain ⟨W0, hW0⟩ : ∃ W0, w.alloc (.cells #[.int .i64 fm, .int .u32 mg, .int .i64 fr, .int .i64 un, .int .i64 de, .int .i64 it] 24) = W0 := ⟨_, rfl⟩
      have hz : W0.heap.size = w.heap.size + 1 := by rw [← hW0]; simp
      have hB : Blk W0 w.heap.size 24 #[.int .i64 fm, .int .u32 mg, .int .i64 fr, .int .i64 un, .int .i64 de, .int .i64 it] := by rw [← hW0]; exact Blk.new w _ _
      have HO : Hid (∀ V, Below W0.heap.size W0 V → Below w.heap.size w V ∧ w.heap.size + 1 ≤ V.heap.size) := Lib.hid (fun V hV => by
        have h1 : Below w.heap.size w W0 := by rw [← hW0]; exact (by repeat (first | exact Below.refl _ _ | assumption | with_reducible refine Below.drewN' ?_ _ | with_reducible refine Below.drew ?_ | ((with_reducible refine Below.alloc' ?_ ?_ _); · (first | omega | (simp <;> omega)))))
        exact ⟨h1.trans (hV.mono (by omega)), by have := hV.size; omega⟩)
      have HKB : Hid (∀ V, Below W0.heap.size W0 V → Blk V w.heap.size 24 #[.int .i64 fm, .int .u32 mg, .int .i64 fr, .int .i64 un, .int .i64 de, .int .i64 it]) := Lib.hid (fun V hV => hB.keep hV (by omega))
      have HKV : Hid (∀ V, Below W0.heap.size W0 V → V.cell? ⟨w.heap.size, 0, none⟩ = some (.int .i64 fm) ∧ V.cell? ⟨w.heap.size, 1, none⟩ = some (.int .u32 mg) ∧ V.cell? ⟨w.heap.size, 2, none⟩ = some (.int .i64 fr) ∧ V.cell? ⟨w.heap.size, 3, none⟩ = some (.int .i64 un) ∧ V.cell? ⟨w.heap.size, 4, none⟩ = some (.int .i64 de) ∧ V.cell? ⟨w.heap.size, 5, none⟩ = some (.int .i64 it)) := Lib.hid (fun V hV => by
        have hB := hB.keep hV (by omega)
        exact ⟨hB.cell 0, hB.cell 1, hB.cell 2, hB.cell 3, hB.cell 4, hB.cell 5⟩)
      have HW0 := Lib.hid hW0
      clear hW0 hB hz
      go_enter Tryz.func8, Tryz.ntmps8
      go_wp2_with fail
      rw [HW0.out]
      refine (HA.out _).mono ?_
      rintro e w1 ⟨rfl, hb⟩
      have HM1 : Hid (Below W0.heap.size W0 w1) := Lib.hid hb
      clear hb
      obtain ⟨q0, q1, q2, q3, q4, q5⟩ := HKV.out w1 HM1.out
      go_wp2_with fail
      refine (HG.out _ (HO.out _ HM1.out).1).mono ?_
      rintro e w2 ⟨rfl, rfl⟩
      go_wp2_with fail
      refine (HJ.out _ (HO.out _ HM1.out).1).mono ?_
      rintro e w3 ⟨rfl, hb3⟩
      have HM3 : Hid (Below W0.heap.size W0 w3) := Lib.hid (HM1.out.trans (hb3.mono HM1.out.size))
      clear hb3
      clear q0 q1 q2 q3 q4 q5
      obtain ⟨q0, q1, q2, q3, q4, q5⟩ := HKV.out w3 HM3.out
      go_wp2
      refine wp_region_below (by kernel_rfl) (by kernel_rfl) ?_
      refine wpQuiet_callB 14 _ _ (by rfl) (fun _ => by first | rfl | go_simp) (fun w _ => HK.out _) ?_
      simp only [Act.put, List.setIfInBounds_toArray, List.set_cons_zero, List.set_cons_succ]
      refine wpQuiet_loadG (by rfl) 24 (.tmp 2) (by rfl) w.heap.size (by rfl) 24 #[.int .i64 fm, .int .u32 mg, .int .i64 fr, .int .i64 un, .int .i64 de, .int .i64 it] (0, 0) _ (by intro w' hw'; exact HKB.out w' (HM3.out.trans (hw'.mono HM3.out.size))) Tryz.underlying24 rfl info_cfg ?_
      simp only [Act.put, List.setIfInBounds_toArray, List.set_cons_zero, List.set_cons_succ]
      refine wpQuiet_run (.slice A n cap) (by rfl) (fun _ _ => by first | rfl | go_simp) ?_
      simp only [Act.put, List.setIfInBounds_toArray, List.set_cons_zero, List.set_cons_succ]
      refine wpQuiet_callB 32 _ _ (by rfl) (fun _ => by first | rfl | go_simp) (fun V hV => HQ.out V (HO.out _ (HM3.out.trans (hV.mono HM3.out.size))).1) ?_
      simp only [Act.put, List.setIfInBounds_toArray, List.set_cons_zero, List.set_cons_succ]
      refine wpQuiet_run (.tuple #[.string S, .int .i64 0]) (by rfl) (fun _ _ => by first | rfl | go_simp) ?_
      simp only [Act.put, List.setIfInBounds_toArray, List.set_cons_zero, List.set_cons_succ]
      refine wpQuiet_run (.string S) (by rfl) (fun _ _ => by first | rfl | go_simp) ?_
      simp only [Act.put, List.setIfInBounds_toArray, List.set_cons_zero, List.set_cons_succ]
      refine wpQuiet_run (.int .i64 0) (by rfl) (fun _ _ => by first | rfl | go_simp) ?_
      simp only [Act.put, List.setIfInBounds_toArray, List.set_cons_zero, List.set_cons_succ]
      refine wpQuiet_run (.string S) (by rfl) (fun _ _ => by first | rfl | go_simp) ?_
      simp only [Act.put, List.setIfInBounds_toArray, List.set_cons_zero, List.set_cons_succ]
      refine wpQuiet_run (.int .i64 0) (by rfl) (fun _ _ => by first | rfl | go_simp) ?_
      simp only [Act.put, List.setIfInBounds_toArray, List.set_cons_zero, List.set_cons_succ]
      refine wpQuiet_nil ?_
      intro w4 hb4
      have HM4 : Hid (Below W0.heap.size W0 w4) := Lib.hid (HM3.out.trans (hb4.mono HM3.out.size))
      clear hb4
      clear q0 q1 q2 q3 q4 q5
      obtain ⟨q0, q1, q2, q3, q4, q5⟩ := HKV.out w4 HM4.out
      go_wp2_with fail
      refine (HS1.out _).mono ?_
      rintro e w5 ⟨⟨v', rfl, hf5⟩, hb5⟩
      have HM5 : Hid (Below W0.heap.size W0 w5) := Lib.hid (HM4.out.trans (hb5.mono HM4.out.size))
      have HF5 := Lib.hid hf5.read
      obtain ⟨A', n', cap', rfl, hn', hnc', hcm'⟩ := hf5.form'
      clear hf5 hb5
      go_wp2_with fail
      refine (HSM.out _ _ w5.heap.size w5 ((HF.out _ (HO.out _ HM5.out).1).mono (HO.out _ HM5.out).1.size) HF5.out (Nat.le_refl _)).mono ?_
      rintro e w6 ⟨rfl, hb6⟩
      go_wp2
      go_ret
      exact ⟨ret_bool (by simp), (HO.out _ (HM5.out.trans (hb6.mono HM5.out.size))).1⟩
    · have h4 : (er != 0) = true := bne_iff_ne.2 h0
      have h5 : (er != er) = false := by simp
      clear hsp HS
      unfold Cfg.val at *
      obtain ⟨fm, mg, fr, un, de, it⟩ := c
      simp only at *
      obtain ⟨W0, hW0⟩ : ∃ W0, w.alloc (.cells #[.int .i64 fm, .int .u32 mg, .int .i64 fr, .int .i64 un, .int .i64 de, .int .i64 it] 24) = W0 := ⟨_, rfl⟩
      have hz : W0.heap.size = w.heap.size + 1 := by rw [← hW0]; simp
      have hB : Blk W0 w.heap.size 24 #[.int .i64 fm, .int .u32 mg, .int .i64 fr, .int .i64 un, .int .i64 de, .int .i64 it] := by rw [← hW0]; exact Blk.new w _ _
      have HO : Hid (∀ V, Below W0.heap.size W0 V → Below w.heap.size w V ∧ w.heap.size + 1 ≤ V.heap.size) := Lib.hid (fun V hV => by
        have h1 : Below w.heap.size w W0 := by rw [← hW0]; exact (by repeat (first | exact Below.refl _ _ | assumption | with_reducible refine Below.drewN' ?_ _ | with_reducible refine Below.drew ?_ | ((with_reducible refine Below.alloc' ?_ ?_ _); · (first | omega | (simp <;> omega)))))
        exact ⟨h1.trans (hV.mono (by omega)), by have := hV.size; omega⟩)
      have HKB : Hid (∀ V, Below W0.heap.size W0 V → Blk V w.heap.size 24 #[.int .i64 fm, .int .u32 mg, .int .i64 fr, .int .i64 un, .int .i64 de, .int .i64 it]) := Lib.hid (fun V hV => hB.keep hV (by omega))
      have HKV : Hid (∀ V, Below W0.heap.size W0 V → V.cell? ⟨w.heap.size, 0, none⟩ = some (.int .i64 fm) ∧ V.cell? ⟨w.heap.size, 1, none⟩ = some (.int .u32 mg) ∧ V.cell? ⟨w.heap.size, 2, none⟩ = some (.int .i64 fr) ∧ V.cell? ⟨w.heap.size, 3, none⟩ = some (.int .i64 un) ∧ V.cell? ⟨w.heap.size, 4, none⟩ = some (.int .i64 de) ∧ V.cell? ⟨w.heap.size, 5, none⟩ = some (.int .i64 it)) := Lib.hid (fun V hV => by
        have hB := hB.keep hV (by omega)
        exact ⟨hB.cell 0, hB.cell 1, hB.cell 2, hB.cell 3, hB.cell 4, hB.cell 5⟩)
      have HW0 := Lib.hid hW0
      clear hW0 hB hz
      go_enter Tryz.func8, Tryz.ntmps8
      go_wp2_with fail
      rw [HW0.out]
      refine (HA.out _).mono ?_
      rintro e w1 ⟨rfl, hb⟩
      have HM1 : Hid (Below W0.heap.size W0 w1) := Lib.hid hb
      clear hb
      obtain ⟨q0, q1, q2, q3, q4, q5⟩ := HKV.out w1 HM1.out
      go_wp2_with fail
      refine (HG.out _ (HO.out _ HM1.out).1).mono ?_
      rintro e w2 ⟨rfl, rfl⟩
      go_wp2_with fail
      refine (HJ.out _ (HO.out _ HM1.out).1).mono ?_
      rintro e w3 ⟨rfl, hb3⟩
      have HM3 : Hid (Below W0.heap.size W0 w3) := Lib.hid (HM1.out.trans (hb3.mono HM1.out.size))
      clear hb3
      clear q0 q1 q2 q3 q4 q5
      obtain ⟨q0, q1, q2, q3, q4, q5⟩ := HKV.out w3 HM3.out
      go_wp2
      refine wp_region_below (by kernel_rfl) (by kernel_rfl) ?_
      refine wpQuiet_callB 14 _ _ (by rfl) (fun _ => by first | rfl | go_simp) (fun w _ => HK.out _) ?_
      simp only [Act.put, List.setIfInBounds_toArray, List.set_cons_zero, List.set_cons_succ]
      refine wpQuiet_loadG (by rfl) 24 (.tmp 2) (by rfl) w.heap.size (by rfl) 24 #[.int .i64 fm, .int .u32 mg, .int .i64 fr, .int .i64 un, .int .i64 de, .int .i64 it] (0, 0) _ (by intro w' hw'; exact HKB.out w' (HM3.out.trans (hw'.mono HM3.out.size))) Tryz.underlying24 rfl info_cfg ?_
      simp only [Act.put, List.setIfInBounds_toArray, List.set_cons_zero, List.set_cons_succ]
      refine wpQuiet_run (.slice A n cap) (by rfl) (fun _ _ => by first | rfl | go_simp) ?_
      simp only [Act.put, List.setIfInBounds_toArray, List.set_cons_zero, List.set_cons_succ]
      refine wpQuiet_callB 32 _ _ (by rfl) (fun _ => by first | rfl | go_simp) (fun V hV => HQ.out V (HO.out _ (HM3.out.trans (hV.mono HM3.out.size))).1) ?_
      simp only [Act.put, List.setIfInBounds_toArray, List.set_cons_zero, List.set_cons_succ]
      refine wpQuiet_run (.tuple #[.string S, .int .i64 er]) (by rfl) (fun _ _ => by first | rfl | go_simp) ?_
      simp only [Act.put, List.setIfInBounds_toArray, List.set_cons_zero, List.set_cons_succ]
      refine wpQuiet_run (.string S) (by rfl) (fun _ _ => by first | rfl | go_simp) ?_
      simp only [Act.put, List.setIfInBounds_toArray, List.set_cons_zero, List.set_cons_succ]
      refine wpQuiet_run (.int .i64 er) (by rfl) (fun _ _ => by first | rfl | go_simp) ?_
      simp only [Act.put, List.setIfInBounds_toArray, List.set_cons_zero, List.set_cons_succ]
      refine wpQuiet_run (.string S) (by rfl) (fun _ _ => by first | rfl | go_simp) ?_
      simp only [Act.put, List.setIfInBounds_toArray, List.set_cons_zero, List.set_cons_succ]
      refine wpQuiet_run (.int .i64 er) (by rfl) (fun _ _ => by first | rfl | go_simp) ?_
      simp only [Act.put, List.setIfInBounds_toArray, List.set_cons_zero, List.set_cons_succ]
      refine wpQuiet_nil ?_
      intro w4 hb4
      have HM4 : Hid (Below W0.heap.size W0 w4) := Lib.hid (HM3.out.trans (hb4.mono HM3.out.size))
      clear hb4
      clear q0 q1 q2 q3 q4 q5
      obtain ⟨q0, q1, q2, q3, q4, q5⟩ := HKV.out w4 HM4.out
      go_wp2
      go_ret
      exact ⟨rfl, (HO.out _ HM4.out).1⟩
theorem splitJoins_row (c : Cfg) (l : List Fr) (v : Value) (w : World) (hc : c.ok) (hl : FrR w w.heap.size v l ∧ ∀ f ∈ l, f.ok) :
    Calls Tryz.prog 8 #[c.val, v] w fun e w' => e = .returned (.bool true) ∧ Below w.heap.size w w' :=
  splitJoins_w c l v w hc hl.1 hl.2
end Go.Proofs.YtebllmpdlapefaaGreatDoor
