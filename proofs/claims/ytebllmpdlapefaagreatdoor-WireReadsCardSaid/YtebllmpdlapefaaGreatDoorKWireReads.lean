/- WireReads: the frame that any bytes begin with, by any config, or the error, is the document's, and what is metered; a beginning of them is short, or tells the same; of Coin and Plain it is put as it was. -/
import Derived.Test.YtebllmpdlapefaaGreatDoorKWirePuts
import Derived.Test.YtebllmpdlapefaaGreatDoorKA32
import Derived.Test.YtebllmpdlapefaaGreatDoorKA6
namespace Go.Proofs.YtebllmpdlapefaaGreatDoor
set_option linter.unusedVariables false
set_option linter.unusedSimpArgs false
open Go.RowKit

set_option maxRecDepth 100000 in
set_option maxHeartbeats 4000000 in
theorem wireReads_w (c : Cfg) (s : ByteArray) (cut : Nat) (w : World) (hc : c.ok) (hs : s.size ≤ 9223372036854775807) (hcut : cut ≤ 65535) :
    Calls Tryz.prog 5 #[c.val, .string s, .int .u16 cut] w fun e w' => e = .returned (.bool true) ∧ Below w.heap.size w w' := by
  have HA := Lib.hid wireAlive
  by_cases h1 : 1000 < s.size
  · unfold Cfg.val at *
    obtain ⟨fm, mg, fr, un, de, it⟩ := c
    simp only at *
    obtain ⟨W0, hW0⟩ : ∃ W0, w.alloc (.cells #[.int .i64 fm, .int .u32 mg, .int .i64 fr, .int .i64 un, .int .i64 de, .int .i64 it] 24) = W0 := ⟨_, rfl⟩
    have hz : W0.heap.size = w.heap.size + 1 := by rw [← hW0]; simp
    have hB : Blk W0 w.heap.size 24 #[.int .i64 fm, .int .u32 mg, .int .i64 fr, .int .i64 un, .int .i64 de, .int .i64 it] := by rw [← hW0]; exact Blk.new w _ _
    have HO : Hid (∀ V, Below W0.heap.size W0 V → Below w.heap.size w V) := Lib.hid (fun V hV => by
      have h1 : Below w.heap.size w W0 := by rw [← hW0]; exact (by repeat (first | exact Below.refl _ _ | assumption | with_reducible refine Below.drewN' ?_ _ | with_reducible refine Below.drew ?_ | ((with_reducible refine Below.alloc' ?_ ?_ _); · (first | omega | (simp <;> omega)))))
      exact h1.trans (hV.mono (by omega)))
    have HKV : Hid (∀ V, Below W0.heap.size W0 V → V.cell? ⟨w.heap.size, 0, none⟩ = some (.int .i64 fm) ∧ V.cell? ⟨w.heap.size, 1, none⟩ = some (.int .u32 mg) ∧ V.cell? ⟨w.heap.size, 2, none⟩ = some (.int .i64 fr) ∧ V.cell? ⟨w.heap.size, 3, none⟩ = some (.int .i64 un) ∧ V.cell? ⟨w.heap.size, 4, none⟩ = some (.int .i64 de) ∧ V.cell? ⟨w.heap.size, 5, none⟩ = some (.int .i64 it)) := Lib.hid (fun V hV => by
      have hB := hB.keep hV (by omega)
      exact ⟨hB.cell 0, hB.cell 1, hB.cell 2, hB.cell 3, hB.cell 4, hB.cell 5⟩)
    have HW0 := Lib.hid hW0
    clear hW0 hB hz
    go_enter Tryz.func5, Tryz.ntmps5
    go_wp2_with fail
    rw [HW0.out]
    refine (HA.out _).mono ?_
    rintro e w1 ⟨rfl, hb⟩
    have HM1 : Hid (Below W0.heap.size W0 w1) := Lib.hid hb
    clear hb
    obtain ⟨q0, q1, q2, q3, q4, q5⟩ := HKV.out w1 HM1.out
    go_wp2
    go_ret
    exact ⟨rfl, HO.out _ HM1.out⟩
  have HN := Lib.hid (fun g W V => wNextM_c c (some g) 0 1073741824 s hc (by omega) (by omega) W V)
  have HR := Lib.hid (fun w => refNext17_c c s hc (by omega) w)
  obtain ⟨q, hq, hqs, hways⟩ : ∃ q : Nat, q ≤ s.size ∧ min cut s.size = q ∧ ((cut ≤ s.size ∧ q = cut) ∨ (s.size < cut ∧ q = s.size)) := ⟨min cut s.size, by omega, rfl, by omega⟩
  have HP := Lib.hid (fun w => wNext_c c (s.extract 0 q) hc (by rw [size_cut _ _ _ hq]; omega) w)
  have HS := Lib.hid (fun w => wMost_c c w)
  have hpre : (wNext c (s.extract 0 q)).1 = 2 ∨ wNext c (s.extract 0 q) = wNext c s := by
    unfold wNext
    by_cases hr : c.right = true
    · rw [if_pos hr, if_pos hr]; exact wRaw_cut c s q hq
    · rw [if_neg hr, if_neg hr]; exact .inr rfl
  have hput : Hid ((wNext c s).1 = 0 → ((wNext c s).2.2.1 : Int) ≤ wMost c ∧ (wNext c s).2.2.1 ≤ s.size ∧ (wNext c s).2.1.ok ∧ (wNext c s).2.1.body.size ≤ 1000000 ∧ (c.fm ≠ 3 → wPut c (wNext c s).2.1 = (s.extract 0 (wNext c s).2.2.1, 0))) := Lib.hid (fun h => by
    have hr : c.right = true := by
      cases hr : c.right with
      | true => rfl
      | false => unfold wNext at h; rw [if_neg (by simp [hr])] at h; cases h
    rw [wNext_right hr] at h ⊢
    obtain ⟨a1, a2, a3⟩ := wRaw_size hr h
    obtain ⟨b1, b2⟩ := wRaw_body c s
    have := (c.right_iff).1 hr
    exact ⟨a1, a2, ⟨a3, by omega, by omega⟩, by omega, fun h3 => wPut_back hr h h3⟩)
  have HW := Lib.hid (fun f hf hb w => wPut_c c f hc hf hb w)
  have HK := Lib.hid makeKey_c
  unfold keyV at HK HR
  have HI := Lib.hid (info_key' 64)
  have hKL : (kC 64).size = 72 := kC_size 64
  have HZ : Hid (Tryz.zeroCells32.size = (kC 64).size) := Lib.hid (by rw [zero_size, hKL])
  have HO1 := Lib.hid (kC_one 64)
  generalize kC 64 = KL at *
  generalize wNext c (s.extract 0 q) = Y at *
  generalize wNext c s = X at *
  generalize wMost c = M at *
  obtain ⟨er, ⟨y1, y2, y3⟩, k, m⟩ := X
  obtain ⟨er', ⟨z1, z2, z3⟩, k', m'⟩ := Y
  simp only at hpre hput
  unfold wRet Fr.val mvOf at HN
  unfold wRet Fr.val at HP
  unfold rRet Fr.val at HR
  simp only at HN HP HR
  have hEG := eqg_fr
  have hEQ := eqFr_same y1 y2 y3
  have n7 : (er == er) = true := by simp
  have n8 : (er != er) = false := by simp
  clear hqs
  rcases hways with ⟨hw1, rfl⟩ | ⟨hw1, rfl⟩
  · have emin : min (q : Int) (s.size : Int) = q := by omega
    have emin2 : ((q : Nat) : Int).toNat = q := by omega
    have emin3 : (q : Int) ≤ s.size := by omega
    have emin5 : IntKind.i64.wrap (q : Int) = q := IntWalk.i64_in _ (by omega)
    unfold Cfg.val at *
    obtain ⟨fm, mg, fr, un, de, it⟩ := c
    simp only at *
    obtain ⟨W0, hW0⟩ : ∃ W0, w.alloc (.cells #[.int .i64 fm, .int .u32 mg, .int .i64 fr, .int .i64 un, .int .i64 de, .int .i64 it] 24) = W0 := ⟨_, rfl⟩
    have hz : W0.heap.size = w.heap.size + 1 := by rw [← hW0]; simp
    have hB : Blk W0 w.heap.size 24 #[.int .i64 fm, .int .u32 mg, .int .i64 fr, .int .i64 un, .int .i64 de, .int .i64 it] := by rw [← hW0]; exact Blk.new w _ _
    have HO : Hid (∀ V, Below W0.heap.size W0 V → Below w.heap.size w V) := Lib.hid (fun V hV => by
      have h1 : Below w.heap.size w W0 := by rw [← hW0]; exact (by repeat (first | exact Below.refl _ _ | assumption | with_reducible refine Below.drewN' ?_ _ | with_reducible refine Below.drew ?_ | ((with_reducible refine Below.alloc' ?_ ?_ _); · (first | omega | (simp <;> omega)))))
      exact h1.trans (hV.mono (by omega)))
    have HKV : Hid (∀ V, Below W0.heap.size W0 V → V.cell? ⟨w.heap.size, 0, none⟩ = some (.int .i64 fm) ∧ V.cell? ⟨w.heap.size, 1, none⟩ = some (.int .u32 mg) ∧ V.cell? ⟨w.heap.size, 2, none⟩ = some (.int .i64 fr) ∧ V.cell? ⟨w.heap.size, 3, none⟩ = some (.int .i64 un) ∧ V.cell? ⟨w.heap.size, 4, none⟩ = some (.int .i64 de) ∧ V.cell? ⟨w.heap.size, 5, none⟩ = some (.int .i64 it)) := Lib.hid (fun V hV => by
      have hB := hB.keep hV (by omega)
      exact ⟨hB.cell 0, hB.cell 1, hB.cell 2, hB.cell 3, hB.cell 4, hB.cell 5⟩)
    have HW0 := Lib.hid hW0
    clear hW0 hB hz
    go_enter Tryz.func5, Tryz.ntmps5
    go_wp2_with fail
    rw [HW0.out]
    refine (HA.out _).mono ?_
    rintro e w1 ⟨rfl, hb⟩
    have HM1 : Hid (Below W0.heap.size W0 w1) := Lib.hid hb
    clear hb
    obtain ⟨q0, q1, q2, q3, q4, q5⟩ := HKV.out w1 HM1.out
    go_wp2_with fail
    refine (HK.out _).mono ?_
    rintro e w2 ⟨rfl, hb2⟩
    have HM2 : Hid (Below W0.heap.size W0 w2) := Lib.hid (HM1.out.trans (hb2.mono HM1.out.size))
    clear hb2
    clear q0 q1 q2 q3 q4 q5
    obtain ⟨q0, q1, q2, q3, q4, q5⟩ := HKV.out w2 HM2.out
    go_wp2_with (
      refine wpList_store_row (by rfl) 32 (.tmp 7) (.tmp 26) (by rfl) w2.heap.size KL (by rfl) (by rfl) 32 _ (by exact Blk.new _ _ _) HI.out HZ.out HO1.out ?_
      rw [key_new]
      obtain ⟨w3, hw3⟩ : ∃ w3, w2.alloc (.cells KL 32) = w3 := ⟨_, rfl⟩
      rw [hw3]
      have HM3 : Hid (Below W0.heap.size W0 w3) := Lib.hid (by rw [← hw3]; exact HM2.out.alloc HM2.out.size _)
      have HK3 : Hid (Blk w3 w2.heap.size 32 KL) := Lib.hid (by rw [← hw3]; exact Blk.new _ _ _)
      clear hw3
      clear q0 q1 q2 q3 q4 q5
      obtain ⟨q0, q1, q2, q3, q4, q5⟩ := HKV.out w3 HM3.out
      )
    refine (meterNew_c _ _).mono ?_
    rintro e w4 ⟨rfl, hw4⟩
    have HM4 : Hid (Below W0.heap.size W0 w4) := Lib.hid (by rw [hw4]; exact HM3.out.alloc HM3.out.size _)
    have HK4 : Hid (Blk w4 w2.heap.size 32 KL) := Lib.hid (by rw [hw4]; exact HK3.out.alloc _)
    have HT4 : Hid (MS (some w3.heap.size) 0 1073741824 w4 w4) := Lib.hid (MS.refl ⟨1073741824, 0, 0, by rw [hw4]; exact Blk.new _ _ _, by omega, by omega, by omega⟩)
    have HL4 : Hid (W0.heap.size ≤ w3.heap.size ∧ w2.heap.size < w3.heap.size ∧ w4.heap.size = w3.heap.size + 1) := Lib.hid ⟨HM3.out.size, HK3.out.lt, by rw [hw4]; simp⟩
    clear hw4 HK3
    generalize w3.heap.size = g at *
    clear q0 q1 q2 q3 q4 q5
    obtain ⟨q0, q1, q2, q3, q4, q5⟩ := HKV.out w4 HM4.out
    go_wp2_with fail
    refine (HN.out g w4 _ HT4.out).mono ?_
    rintro e w5 ⟨rfl, hb5⟩
    have HM5 : Hid (Below W0.heap.size W0 w5) := Lib.hid (HM4.out.trans (hb5.only.below HM4.out.size (by have := HL4.out; simp; omega)))
    have HK5 : Hid (Blk w5 w2.heap.size 32 KL) := Lib.hid (HK4.out.only hb5.only (by have := HL4.out; simp; omega))
    have HT5 := Lib.hid hb5
    clear hb5 HT4 HK4
    have HM6 : Hid (Below W0.heap.size W0 (w5.alloc (.cells #[.int .u64 y1, .string y2, .string y3] 27))) := Lib.hid (HM5.out.alloc HM5.out.size _)
    have HK6 : Hid (Blk (w5.alloc (.cells #[.int .u64 y1, .string y2, .string y3] 27)) w2.heap.size 32 KL) := Lib.hid (HK5.out.alloc _)
    have HT6 := Lib.hid (HT5.out.alloc (.cells #[.int .u64 y1, .string y2, .string y3] 27))
    have HF6 : Hid (Blk (w5.alloc (.cells #[.int .u64 y1, .string y2, .string y3] 27)) w5.heap.size 27 #[.int .u64 y1, .string y2, .string y3]) := Lib.hid (Blk.new _ _ _)
    clear HK5 HT5
    clear q0 q1 q2 q3 q4 q5
    obtain ⟨q0, q1, q2, q3, q4, q5⟩ := HKV.out _ HM6.out
    go_wp2_with (refine wpList_load_row (by rfl) 32 (.tmp 7) (by rfl) w2.heap.size (by rfl) 32 KL (0, 0) _ HK6.out Tryz.underlying32 rfl HI.out ?_)
    refine (HR.out _).mono ?_
    rintro e w7 ⟨rfl, hb7⟩
    have HM7 : Hid (Below W0.heap.size W0 w7) := Lib.hid (HM6.out.trans (hb7.mono HM6.out.size))
    have HT7 := Lib.hid ((HT6.out.below hb7).alloc (.cells #[.int .u64 y1, .string y2, .string y3] 27))
    have HF7 : Hid (Blk w7 w5.heap.size 27 #[.int .u64 y1, .string y2, .string y3]) := Lib.hid (HF6.out.keep hb7 HF6.out.lt)
    have HM8 : Hid (Below W0.heap.size W0 (w7.alloc (.cells #[.int .u64 y1, .string y2, .string y3] 27))) := Lib.hid (HM7.out.alloc HM7.out.size _)
    have HF8 : Hid (Blk (w7.alloc (.cells #[.int .u64 y1, .string y2, .string y3] 27)) w5.heap.size 27 #[.int .u64 y1, .string y2, .string y3]) := Lib.hid (HF7.out.alloc _)
    clear HK6 HT6 HF6 HF7 hb7
    clear q0 q1 q2 q3 q4 q5
    obtain ⟨q0, q1, q2, q3, q4, q5⟩ := HKV.out _ HM8.out
    obtain ⟨g0, g1, g2, _, _, _⟩ := blk3 HF8.out
    obtain ⟨a, u, p, ht, hta⟩ := HT7.out.met
    rw [Nat.zero_add] at ht
    have HTA := Lib.hid ht
    clear ht hta HT7
    go_wp2_with fail
    refine (taken_c g a u m p _ HTA.out).mono ?_
    rintro e w8 ⟨rfl, hw8⟩
    clear HTA
    rw [hw8] at HM8 HF8
    clear hw8 g0 g1 g2
    clear q0 q1 q2 q3 q4 q5
    obtain ⟨q0, q1, q2, q3, q4, q5⟩ := HKV.out w8 HM8.out
    have HB8 : Hid (Below w8.heap.size w8 w8) := Lib.hid (Below.refl _ _)
    have HKW : Hid (∀ V, Below w8.heap.size w8 V → V.cell? ⟨w.heap.size, 0, none⟩ = some (.int .i64 fm) ∧ V.cell? ⟨w.heap.size, 1, none⟩ = some (.int .u32 mg) ∧ V.cell? ⟨w.heap.size, 2, none⟩ = some (.int .i64 fr) ∧ V.cell? ⟨w.heap.size, 3, none⟩ = some (.int .i64 un) ∧ V.cell? ⟨w.heap.size, 4, none⟩ = some (.int .i64 de) ∧ V.cell? ⟨w.heap.size, 5, none⟩ = some (.int .i64 it)) := Lib.hid (fun V hV => HKV.out V (HM8.out.trans (hV.mono HM8.out.size)))
    have HPA : Hid (∀ V, Below w8.heap.size w8 V → Blk V w8.heap.size 27 #[.int .u64 0, .string ⟨#[]⟩, .string ⟨#[]⟩] → Calls Tryz.prog 21 #[.agg #[.int .i64 fm, .int .u32 mg, .int .i64 fr, .int .i64 un, .int .i64 de, .int .i64 it], .pointer none, .string (s.extract 0 q)] V fun e w' => e = .returned (.tuple #[.agg #[.int .u64 z1, .string z2, .string z3], .int .i64 k', .int .i64 er']) ∧ Below w8.heap.size w8 w' ∧ Blk w' w8.heap.size 27 #[.int .u64 0, .string ⟨#[]⟩, .string ⟨#[]⟩]) := Lib.hid (fun V hV hB => (HP.out V).mono fun e w' ⟨h1, h2⟩ => ⟨h1, hV.trans (h2.mono hV.size), hB.keep h2 hB.lt⟩)
    have HP0 : Hid (∀ V, Below w8.heap.size w8 V → Calls Tryz.prog 21 #[.agg #[.int .i64 fm, .int .u32 mg, .int .i64 fr, .int .i64 un, .int .i64 de, .int .i64 it], .pointer none, .string (s.extract 0 q)] V fun e w' => e = .returned (.tuple #[.agg #[.int .u64 z1, .string z2, .string z3], .int .i64 k', .int .i64 er']) ∧ Below w8.heap.size w8 w') := Lib.hid (fun V hV => (HP.out V).mono fun e w' ⟨h1, h2⟩ => ⟨h1, hV.trans (h2.mono hV.size)⟩)
    have HNW : Hid (Blk (w8.alloc (.cells #[.int .u64 0, .string ⟨#[]⟩, .string ⟨#[]⟩] 27)) w8.heap.size 27 #[.int .u64 0, .string ⟨#[]⟩, .string ⟨#[]⟩] ∧ Below w8.heap.size w8 (w8.alloc (.cells #[.int .u64 0, .string ⟨#[]⟩, .string ⟨#[]⟩] 27))) := Lib.hid ⟨Blk.new _ _ _, (Below.refl _ _).alloc (Nat.le_refl _) _⟩
    clear HP HN HR HA HZ HO1
    go_upto_region 11 with fail
    go_cut [16, 17, 18] (fun v n e9 wx => ∃ b9 : Nat, v = .pointer (some ⟨b9, 0, none⟩) ∧ n = .int .i64 k' ∧ e9 = .int .i64 er' ∧ Hid (Blk wx b9 27 #[.int .u64 z1, .string z2, .string z3]) ∧ Hid (Below w8.heap.size w8 wx))
    case first =>
      go_wp2_with fail
      go_region_held3 (fun V => V.cell? ⟨w.heap.size, 0, none⟩ = some (.int .i64 fm) ∧ V.cell? ⟨w.heap.size, 1, none⟩ = some (.int .u32 mg) ∧ V.cell? ⟨w.heap.size, 2, none⟩ = some (.int .i64 fr) ∧ V.cell? ⟨w.heap.size, 3, none⟩ = some (.int .i64 un) ∧ V.cell? ⟨w.heap.size, 4, none⟩ = some (.int .i64 de) ∧ V.cell? ⟨w.heap.size, 5, none⟩ = some (.int .i64 it))
        (first | exact HKW.out _ HB8.out | exact HKW.out _ HB8.out.drew | exact HKW.out _ HNW.out.2 | exact HKW.out _ HNW.out.2.drew | exact HKW.out _ hv2 | exact HKW.out _ hv2.drew | exact HKW.out _ (hv2.alloc hv2.size _) | exact HKW.out _ (below3 hv2 (Nat.le_refl _) _ _ _))
        (first
          | (go_at_call 21; ((with_reducible refine (HPA.out _ HNW.out.2 HNW.out.1).mono ?_); rintro e wv ⟨rfl, hv2, hz2⟩; obtain ⟨a0, a1, a2, af0, af1, af2⟩ := blk3 hz2))
          | (go_at_call 21; ((with_reducible refine (HPA.out _ HNW.out.2.drew HNW.out.1.drew).mono ?_); rintro e wv ⟨rfl, hv2, hz2⟩; obtain ⟨a0, a1, a2, af0, af1, af2⟩ := blk3 hz2))
          | (go_at_call 21; ((with_reducible refine (HP0.out _ HB8.out).mono ?_); rintro e wv ⟨rfl, hv2⟩))
          | (go_at_call 21; ((with_reducible refine (HP0.out _ HB8.out.drew).mono ?_); rintro e wv ⟨rfl, hv2⟩)))
      all_goals
        go_wp2_with fail
        go_meet
        case rel =>
          first
            | exact ⟨_, rfl, rfl, rfl, Lib.hid (Blk.new _ _ _), Lib.hid (hv2.alloc hv2.size _)⟩
            | exact ⟨_, rfl, rfl, rfl, Lib.hid (set3 hz2 _ _ _), Lib.hid (below3 hv2 (Nat.le_refl _) _ _ _)⟩
    case rest =>
      obtain ⟨b9, rfl, rfl, rfl, HF9, HB9⟩ := hcut
      have HM9 : Hid (Below W0.heap.size W0 wc) := Lib.hid (HM8.out.trans (HB9.out.mono HM8.out.size))
      have HF10 : Hid (Blk wc w5.heap.size 27 #[.int .u64 y1, .string y2, .string y3]) := Lib.hid (HF8.out.keep HB9.out HF8.out.lt)
      obtain ⟨g0, g1, g2, _, _, _⟩ := blk3 HF10.out
      obtain ⟨k0, k1, k2, _, _, _⟩ := blk3 HF9.out
      clear HPA HP0 HKW HNW HF8 HF9 HF10 HB8 HB9
      clear q0 q1 q2 q3 q4 q5
      obtain ⟨q0, q1, q2, q3, q4, q5⟩ := HKV.out wc HM9.out
      by_cases h2 : er' = 2
      · subst h2
        clear hpre
        by_cases h0 : er = 0
        · subst h0
          obtain ⟨p1, p2, p3, p4, p5⟩ := hput.out rfl
          have HQ := Lib.hid (HW.out _ p3 p4)
          unfold Fr.val at HQ
          simp only at HQ p5
          by_cases h3 : fm = 3
          · generalize wPut _ _ = P at HQ
            obtain ⟨T, ei⟩ := P
            subst h3
            clear p5
            go_wp2_with fail
            refine (HQ.out _).mono ?_
            rintro e w11 ⟨rfl, hb11⟩
            have HM11 : Hid (Below W0.heap.size W0 w11) := Lib.hid (HM9.out.trans (hb11.mono HM9.out.size))
            clear hb11 g0 g1 g2 k0 k1 k2
            clear q0 q1 q2 q3 q4 q5
            obtain ⟨q0, q1, q2, q3, q4, q5⟩ := HKV.out w11 HM11.out
            go_wp2_with fail
            refine (HS.out _).mono ?_
            rintro e w12 ⟨rfl, hb12⟩
            have HM12 : Hid (Below W0.heap.size W0 w12) := Lib.hid (HM11.out.trans (hb12.mono HM11.out.size))
            clear hb12
            clear q0 q1 q2 q3 q4 q5
            obtain ⟨q0, q1, q2, q3, q4, q5⟩ := HKV.out w12 HM12.out
            go_wp2
            go_ret
            exact ⟨ret_bool (by simp), HO.out _ HM12.out⟩
          · have p6 := p5 h3
            rw [p6] at HQ
            simp only at HQ
            have h3' : (fm == 3) = false := beq_eq_false_iff_ne.2 h3
            have p7 : (k : Int) ≤ s.size := by omega
            have m1 := str_ways (s.extract 0 k) (s.extract 0 k)
            simp only [ne_eq, not_true_eq_false, false_and, or_false, true_and] at m1
            obtain ⟨m1, m2⟩ := m1
            clear p5 p6
            go_wp2_with fail
            refine (HQ.out _).mono ?_
            rintro e w11 ⟨rfl, hb11⟩
            have HM11 : Hid (Below W0.heap.size W0 w11) := Lib.hid (HM9.out.trans (hb11.mono HM9.out.size))
            clear hb11 g0 g1 g2 k0 k1 k2
            clear q0 q1 q2 q3 q4 q5
            obtain ⟨q0, q1, q2, q3, q4, q5⟩ := HKV.out w11 HM11.out
            go_wp2_with fail
            refine (HS.out _).mono ?_
            rintro e w12 ⟨rfl, hb12⟩
            have HM12 : Hid (Below W0.heap.size W0 w12) := Lib.hid (HM11.out.trans (hb12.mono HM11.out.size))
            clear hb12
            clear q0 q1 q2 q3 q4 q5
            obtain ⟨q0, q1, q2, q3, q4, q5⟩ := HKV.out w12 HM12.out
            go_wp2
            go_ret
            exact ⟨ret_bool (by simp), HO.out _ HM12.out⟩
        · have h0' : (er != 0) = true := bne_iff_ne.2 h0
          have h0'' : (er == 0) = false := beq_eq_false_iff_ne.2 h0
          go_wp2
          go_ret
          exact ⟨rfl, HO.out _ HM9.out⟩
      · have h3 := hpre.resolve_left h2
        injection h3 with e1 e2
        injection e2 with e2 e3
        injection e2 with e4 e5 e6
        injection e3 with e3 e7
        replace e1 := e1.symm
        replace e3 := e3.symm
        replace e4 := e4.symm
        replace e5 := e5.symm
        replace e6 := e6.symm
        subst e1 e3 e4 e5 e6
        have h2' : (er == 2) = false := beq_eq_false_iff_ne.2 h2
        have h2'' : (er != 2) = true := bne_iff_ne.2 h2
        clear hpre
        by_cases h0 : er = 0
        · subst h0
          obtain ⟨p1, p2, p3, p4, p5⟩ := hput.out rfl
          have HQ := Lib.hid (HW.out _ p3 p4)
          unfold Fr.val at HQ
          simp only at HQ p5
          by_cases h3 : fm = 3
          · generalize wPut _ _ = P at HQ
            obtain ⟨T, ei⟩ := P
            subst h3
            clear p5
            go_wp2_with fail
            refine (HQ.out _).mono ?_
            rintro e w11 ⟨rfl, hb11⟩
            have HM11 : Hid (Below W0.heap.size W0 w11) := Lib.hid (HM9.out.trans (hb11.mono HM9.out.size))
            clear hb11 g0 g1 g2 k0 k1 k2
            clear q0 q1 q2 q3 q4 q5
            obtain ⟨q0, q1, q2, q3, q4, q5⟩ := HKV.out w11 HM11.out
            go_wp2_with fail
            refine (HS.out _).mono ?_
            rintro e w12 ⟨rfl, hb12⟩
            have HM12 : Hid (Below W0.heap.size W0 w12) := Lib.hid (HM11.out.trans (hb12.mono HM11.out.size))
            clear hb12
            clear q0 q1 q2 q3 q4 q5
            obtain ⟨q0, q1, q2, q3, q4, q5⟩ := HKV.out w12 HM12.out
            go_wp2
            go_ret
            exact ⟨ret_bool (by simp), HO.out _ HM12.out⟩
          · have p6 := p5 h3
            rw [p6] at HQ
            simp only at HQ
            have h3' : (fm == 3) = false := beq_eq_false_iff_ne.2 h3
            have p7 : (k : Int) ≤ s.size := by omega
            have m1 := str_ways (s.extract 0 k) (s.extract 0 k)
            simp only [ne_eq, not_true_eq_false, false_and, or_false, true_and] at m1
            obtain ⟨m1, m2⟩ := m1
            clear p5 p6
            go_wp2_with fail
            refine (HQ.out _).mono ?_
            rintro e w11 ⟨rfl, hb11⟩
            have HM11 : Hid (Below W0.heap.size W0 w11) := Lib.hid (HM9.out.trans (hb11.mono HM9.out.size))
            clear hb11 g0 g1 g2 k0 k1 k2
            clear q0 q1 q2 q3 q4 q5
            obtain ⟨q0, q1, q2, q3, q4, q5⟩ := HKV.out w11 HM11.out
            go_wp2_with fail
            refine (HS.out _).mono ?_
            rintro e w12 ⟨rfl, hb12⟩
            have HM12 : Hid (Below W0.heap.size W0 w12) := Lib.hid (HM11.out.trans (hb12.mono HM11.out.size))
            clear hb12
            clear q0 q1 q2 q3 q4 q5
            obtain ⟨q0, q1, q2, q3, q4, q5⟩ := HKV.out w12 HM12.out
            go_wp2
            go_ret
            exact ⟨ret_bool (by simp), HO.out _ HM12.out⟩
        · have h0' : (er != 0) = true := bne_iff_ne.2 h0
          have h0'' : (er == 0) = false := beq_eq_false_iff_ne.2 h0
          go_wp2
          go_ret
          exact ⟨rfl, HO.out _ HM9.out⟩

  · have emin : min (cut : Int) (s.size : Int) = s.size := by omega
    have emin5 : IntKind.i64.wrap (cut : Int) = cut := IntWalk.i64_in _ (by omega)
    rw [cut_all] at HP
    unfold Cfg.val at *
    obtain ⟨fm, mg, fr, un, de, it⟩ := c
    simp only at *
    obtain ⟨W0, hW0⟩ : ∃ W0, w.alloc (.cells #[.int .i64 fm, .int .u32 mg, .int .i64 fr, .int .i64 un, .int .i64 de, .int .i64 it] 24) = W0 := ⟨_, rfl⟩
    have hz : W0.heap.size = w.heap.size + 1 := by rw [← hW0]; simp
    have hB : Blk W0 w.heap.size 24 #[.int .i64 fm, .int .u32 mg, .int .i64 fr, .int .i64 un, .int .i64 de, .int .i64 it] := by rw [← hW0]; exact Blk.new w _ _
    have HO : Hid (∀ V, Below W0.heap.size W0 V → Below w.heap.size w V) := Lib.hid (fun V hV => by
      have h1 : Below w.heap.size w W0 := by rw [← hW0]; exact (by repeat (first | exact Below.refl _ _ | assumption | with_reducible refine Below.drewN' ?_ _ | with_reducible refine Below.drew ?_ | ((with_reducible refine Below.alloc' ?_ ?_ _); · (first | omega | (simp <;> omega)))))
      exact h1.trans (hV.mono (by omega)))
    have HKV : Hid (∀ V, Below W0.heap.size W0 V → V.cell? ⟨w.heap.size, 0, none⟩ = some (.int .i64 fm) ∧ V.cell? ⟨w.heap.size, 1, none⟩ = some (.int .u32 mg) ∧ V.cell? ⟨w.heap.size, 2, none⟩ = some (.int .i64 fr) ∧ V.cell? ⟨w.heap.size, 3, none⟩ = some (.int .i64 un) ∧ V.cell? ⟨w.heap.size, 4, none⟩ = some (.int .i64 de) ∧ V.cell? ⟨w.heap.size, 5, none⟩ = some (.int .i64 it)) := Lib.hid (fun V hV => by
      have hB := hB.keep hV (by omega)
      exact ⟨hB.cell 0, hB.cell 1, hB.cell 2, hB.cell 3, hB.cell 4, hB.cell 5⟩)
    have HW0 := Lib.hid hW0
    clear hW0 hB hz
    go_enter Tryz.func5, Tryz.ntmps5
    go_wp2_with fail
    rw [HW0.out]
    refine (HA.out _).mono ?_
    rintro e w1 ⟨rfl, hb⟩
    have HM1 : Hid (Below W0.heap.size W0 w1) := Lib.hid hb
    clear hb
    obtain ⟨q0, q1, q2, q3, q4, q5⟩ := HKV.out w1 HM1.out
    go_wp2_with fail
    refine (HK.out _).mono ?_
    rintro e w2 ⟨rfl, hb2⟩
    have HM2 : Hid (Below W0.heap.size W0 w2) := Lib.hid (HM1.out.trans (hb2.mono HM1.out.size))
    clear hb2
    clear q0 q1 q2 q3 q4 q5
    obtain ⟨q0, q1, q2, q3, q4, q5⟩ := HKV.out w2 HM2.out
    go_wp2_with (
      refine wpList_store_row (by rfl) 32 (.tmp 7) (.tmp 26) (by rfl) w2.heap.size KL (by rfl) (by rfl) 32 _ (by exact Blk.new _ _ _) HI.out HZ.out HO1.out ?_
      rw [key_new]
      obtain ⟨w3, hw3⟩ : ∃ w3, w2.alloc (.cells KL 32) = w3 := ⟨_, rfl⟩
      rw [hw3]
      have HM3 : Hid (Below W0.heap.size W0 w3) := Lib.hid (by rw [← hw3]; exact HM2.out.alloc HM2.out.size _)
      have HK3 : Hid (Blk w3 w2.heap.size 32 KL) := Lib.hid (by rw [← hw3]; exact Blk.new _ _ _)
      clear hw3
      clear q0 q1 q2 q3 q4 q5
      obtain ⟨q0, q1, q2, q3, q4, q5⟩ := HKV.out w3 HM3.out
      )
    refine (meterNew_c _ _).mono ?_
    rintro e w4 ⟨rfl, hw4⟩
    have HM4 : Hid (Below W0.heap.size W0 w4) := Lib.hid (by rw [hw4]; exact HM3.out.alloc HM3.out.size _)
    have HK4 : Hid (Blk w4 w2.heap.size 32 KL) := Lib.hid (by rw [hw4]; exact HK3.out.alloc _)
    have HT4 : Hid (MS (some w3.heap.size) 0 1073741824 w4 w4) := Lib.hid (MS.refl ⟨1073741824, 0, 0, by rw [hw4]; exact Blk.new _ _ _, by omega, by omega, by omega⟩)
    have HL4 : Hid (W0.heap.size ≤ w3.heap.size ∧ w2.heap.size < w3.heap.size ∧ w4.heap.size = w3.heap.size + 1) := Lib.hid ⟨HM3.out.size, HK3.out.lt, by rw [hw4]; simp⟩
    clear hw4 HK3
    generalize w3.heap.size = g at *
    clear q0 q1 q2 q3 q4 q5
    obtain ⟨q0, q1, q2, q3, q4, q5⟩ := HKV.out w4 HM4.out
    go_wp2_with fail
    refine (HN.out g w4 _ HT4.out).mono ?_
    rintro e w5 ⟨rfl, hb5⟩
    have HM5 : Hid (Below W0.heap.size W0 w5) := Lib.hid (HM4.out.trans (hb5.only.below HM4.out.size (by have := HL4.out; simp; omega)))
    have HK5 : Hid (Blk w5 w2.heap.size 32 KL) := Lib.hid (HK4.out.only hb5.only (by have := HL4.out; simp; omega))
    have HT5 := Lib.hid hb5
    clear hb5 HT4 HK4
    have HM6 : Hid (Below W0.heap.size W0 (w5.alloc (.cells #[.int .u64 y1, .string y2, .string y3] 27))) := Lib.hid (HM5.out.alloc HM5.out.size _)
    have HK6 : Hid (Blk (w5.alloc (.cells #[.int .u64 y1, .string y2, .string y3] 27)) w2.heap.size 32 KL) := Lib.hid (HK5.out.alloc _)
    have HT6 := Lib.hid (HT5.out.alloc (.cells #[.int .u64 y1, .string y2, .string y3] 27))
    have HF6 : Hid (Blk (w5.alloc (.cells #[.int .u64 y1, .string y2, .string y3] 27)) w5.heap.size 27 #[.int .u64 y1, .string y2, .string y3]) := Lib.hid (Blk.new _ _ _)
    clear HK5 HT5
    clear q0 q1 q2 q3 q4 q5
    obtain ⟨q0, q1, q2, q3, q4, q5⟩ := HKV.out _ HM6.out
    go_wp2_with (refine wpList_load_row (by rfl) 32 (.tmp 7) (by rfl) w2.heap.size (by rfl) 32 KL (0, 0) _ HK6.out Tryz.underlying32 rfl HI.out ?_)
    refine (HR.out _).mono ?_
    rintro e w7 ⟨rfl, hb7⟩
    have HM7 : Hid (Below W0.heap.size W0 w7) := Lib.hid (HM6.out.trans (hb7.mono HM6.out.size))
    have HT7 := Lib.hid ((HT6.out.below hb7).alloc (.cells #[.int .u64 y1, .string y2, .string y3] 27))
    have HF7 : Hid (Blk w7 w5.heap.size 27 #[.int .u64 y1, .string y2, .string y3]) := Lib.hid (HF6.out.keep hb7 HF6.out.lt)
    have HM8 : Hid (Below W0.heap.size W0 (w7.alloc (.cells #[.int .u64 y1, .string y2, .string y3] 27))) := Lib.hid (HM7.out.alloc HM7.out.size _)
    have HF8 : Hid (Blk (w7.alloc (.cells #[.int .u64 y1, .string y2, .string y3] 27)) w5.heap.size 27 #[.int .u64 y1, .string y2, .string y3]) := Lib.hid (HF7.out.alloc _)
    clear HK6 HT6 HF6 HF7 hb7
    clear q0 q1 q2 q3 q4 q5
    obtain ⟨q0, q1, q2, q3, q4, q5⟩ := HKV.out _ HM8.out
    obtain ⟨g0, g1, g2, _, _, _⟩ := blk3 HF8.out
    obtain ⟨a, u, p, ht, hta⟩ := HT7.out.met
    rw [Nat.zero_add] at ht
    have HTA := Lib.hid ht
    clear ht hta HT7
    go_wp2_with fail
    refine (taken_c g a u m p _ HTA.out).mono ?_
    rintro e w8 ⟨rfl, hw8⟩
    clear HTA
    rw [hw8] at HM8 HF8
    clear hw8 g0 g1 g2
    clear q0 q1 q2 q3 q4 q5
    obtain ⟨q0, q1, q2, q3, q4, q5⟩ := HKV.out w8 HM8.out
    have HB8 : Hid (Below w8.heap.size w8 w8) := Lib.hid (Below.refl _ _)
    have HKW : Hid (∀ V, Below w8.heap.size w8 V → V.cell? ⟨w.heap.size, 0, none⟩ = some (.int .i64 fm) ∧ V.cell? ⟨w.heap.size, 1, none⟩ = some (.int .u32 mg) ∧ V.cell? ⟨w.heap.size, 2, none⟩ = some (.int .i64 fr) ∧ V.cell? ⟨w.heap.size, 3, none⟩ = some (.int .i64 un) ∧ V.cell? ⟨w.heap.size, 4, none⟩ = some (.int .i64 de) ∧ V.cell? ⟨w.heap.size, 5, none⟩ = some (.int .i64 it)) := Lib.hid (fun V hV => HKV.out V (HM8.out.trans (hV.mono HM8.out.size)))
    have HPA : Hid (∀ V, Below w8.heap.size w8 V → Blk V w8.heap.size 27 #[.int .u64 0, .string ⟨#[]⟩, .string ⟨#[]⟩] → Calls Tryz.prog 21 #[.agg #[.int .i64 fm, .int .u32 mg, .int .i64 fr, .int .i64 un, .int .i64 de, .int .i64 it], .pointer none, .string s] V fun e w' => e = .returned (.tuple #[.agg #[.int .u64 z1, .string z2, .string z3], .int .i64 k', .int .i64 er']) ∧ Below w8.heap.size w8 w' ∧ Blk w' w8.heap.size 27 #[.int .u64 0, .string ⟨#[]⟩, .string ⟨#[]⟩]) := Lib.hid (fun V hV hB => (HP.out V).mono fun e w' ⟨h1, h2⟩ => ⟨h1, hV.trans (h2.mono hV.size), hB.keep h2 hB.lt⟩)
    have HP0 : Hid (∀ V, Below w8.heap.size w8 V → Calls Tryz.prog 21 #[.agg #[.int .i64 fm, .int .u32 mg, .int .i64 fr, .int .i64 un, .int .i64 de, .int .i64 it], .pointer none, .string s] V fun e w' => e = .returned (.tuple #[.agg #[.int .u64 z1, .string z2, .string z3], .int .i64 k', .int .i64 er']) ∧ Below w8.heap.size w8 w') := Lib.hid (fun V hV => (HP.out V).mono fun e w' ⟨h1, h2⟩ => ⟨h1, hV.trans (h2.mono hV.size)⟩)
    have HNW : Hid (Blk (w8.alloc (.cells #[.int .u64 0, .string ⟨#[]⟩, .string ⟨#[]⟩] 27)) w8.heap.size 27 #[.int .u64 0, .string ⟨#[]⟩, .string ⟨#[]⟩] ∧ Below w8.heap.size w8 (w8.alloc (.cells #[.int .u64 0, .string ⟨#[]⟩, .string ⟨#[]⟩] 27))) := Lib.hid ⟨Blk.new _ _ _, (Below.refl _ _).alloc (Nat.le_refl _) _⟩
    clear HP HN HR HA HZ HO1
    go_upto_region 11 with fail
    go_cut [16, 17, 18] (fun v n e9 wx => ∃ b9 : Nat, v = .pointer (some ⟨b9, 0, none⟩) ∧ n = .int .i64 k' ∧ e9 = .int .i64 er' ∧ Hid (Blk wx b9 27 #[.int .u64 z1, .string z2, .string z3]) ∧ Hid (Below w8.heap.size w8 wx))
    case first =>
      go_wp2_with fail
      go_region_held3 (fun V => V.cell? ⟨w.heap.size, 0, none⟩ = some (.int .i64 fm) ∧ V.cell? ⟨w.heap.size, 1, none⟩ = some (.int .u32 mg) ∧ V.cell? ⟨w.heap.size, 2, none⟩ = some (.int .i64 fr) ∧ V.cell? ⟨w.heap.size, 3, none⟩ = some (.int .i64 un) ∧ V.cell? ⟨w.heap.size, 4, none⟩ = some (.int .i64 de) ∧ V.cell? ⟨w.heap.size, 5, none⟩ = some (.int .i64 it))
        (first | exact HKW.out _ HB8.out | exact HKW.out _ HB8.out.drew | exact HKW.out _ HNW.out.2 | exact HKW.out _ HNW.out.2.drew | exact HKW.out _ hv2 | exact HKW.out _ hv2.drew | exact HKW.out _ (hv2.alloc hv2.size _) | exact HKW.out _ (below3 hv2 (Nat.le_refl _) _ _ _))
        (first
          | (go_at_call 21; ((with_reducible refine (HPA.out _ HNW.out.2 HNW.out.1).mono ?_); rintro e wv ⟨rfl, hv2, hz2⟩; obtain ⟨a0, a1, a2, af0, af1, af2⟩ := blk3 hz2))
          | (go_at_call 21; ((with_reducible refine (HPA.out _ HNW.out.2.drew HNW.out.1.drew).mono ?_); rintro e wv ⟨rfl, hv2, hz2⟩; obtain ⟨a0, a1, a2, af0, af1, af2⟩ := blk3 hz2))
          | (go_at_call 21; ((with_reducible refine (HP0.out _ HB8.out).mono ?_); rintro e wv ⟨rfl, hv2⟩))
          | (go_at_call 21; ((with_reducible refine (HP0.out _ HB8.out.drew).mono ?_); rintro e wv ⟨rfl, hv2⟩)))
      all_goals
        go_wp2_with fail
        go_meet
        case rel =>
          first
            | exact ⟨_, rfl, rfl, rfl, Lib.hid (Blk.new _ _ _), Lib.hid (hv2.alloc hv2.size _)⟩
            | exact ⟨_, rfl, rfl, rfl, Lib.hid (set3 hz2 _ _ _), Lib.hid (below3 hv2 (Nat.le_refl _) _ _ _)⟩
    case rest =>
      obtain ⟨b9, rfl, rfl, rfl, HF9, HB9⟩ := hcut
      have HM9 : Hid (Below W0.heap.size W0 wc) := Lib.hid (HM8.out.trans (HB9.out.mono HM8.out.size))
      have HF10 : Hid (Blk wc w5.heap.size 27 #[.int .u64 y1, .string y2, .string y3]) := Lib.hid (HF8.out.keep HB9.out HF8.out.lt)
      obtain ⟨g0, g1, g2, _, _, _⟩ := blk3 HF10.out
      obtain ⟨k0, k1, k2, _, _, _⟩ := blk3 HF9.out
      clear HPA HP0 HKW HNW HF8 HF9 HF10 HB8 HB9
      clear q0 q1 q2 q3 q4 q5
      obtain ⟨q0, q1, q2, q3, q4, q5⟩ := HKV.out wc HM9.out
      by_cases h2 : er' = 2
      · subst h2
        clear hpre
        by_cases h0 : er = 0
        · subst h0
          obtain ⟨p1, p2, p3, p4, p5⟩ := hput.out rfl
          have HQ := Lib.hid (HW.out _ p3 p4)
          unfold Fr.val at HQ
          simp only at HQ p5
          by_cases h3 : fm = 3
          · generalize wPut _ _ = P at HQ
            obtain ⟨T, ei⟩ := P
            subst h3
            clear p5
            go_wp2_with fail
            refine (HQ.out _).mono ?_
            rintro e w11 ⟨rfl, hb11⟩
            have HM11 : Hid (Below W0.heap.size W0 w11) := Lib.hid (HM9.out.trans (hb11.mono HM9.out.size))
            clear hb11 g0 g1 g2 k0 k1 k2
            clear q0 q1 q2 q3 q4 q5
            obtain ⟨q0, q1, q2, q3, q4, q5⟩ := HKV.out w11 HM11.out
            go_wp2_with fail
            refine (HS.out _).mono ?_
            rintro e w12 ⟨rfl, hb12⟩
            have HM12 : Hid (Below W0.heap.size W0 w12) := Lib.hid (HM11.out.trans (hb12.mono HM11.out.size))
            clear hb12
            clear q0 q1 q2 q3 q4 q5
            obtain ⟨q0, q1, q2, q3, q4, q5⟩ := HKV.out w12 HM12.out
            go_wp2
            go_ret
            exact ⟨ret_bool (by simp), HO.out _ HM12.out⟩
          · have p6 := p5 h3
            rw [p6] at HQ
            simp only at HQ
            have h3' : (fm == 3) = false := beq_eq_false_iff_ne.2 h3
            have p7 : (k : Int) ≤ s.size := by omega
            have m1 := str_ways (s.extract 0 k) (s.extract 0 k)
            simp only [ne_eq, not_true_eq_false, false_and, or_false, true_and] at m1
            obtain ⟨m1, m2⟩ := m1
            clear p5 p6
            go_wp2_with fail
            refine (HQ.out _).mono ?_
            rintro e w11 ⟨rfl, hb11⟩
            have HM11 : Hid (Below W0.heap.size W0 w11) := Lib.hid (HM9.out.trans (hb11.mono HM9.out.size))
            clear hb11 g0 g1 g2 k0 k1 k2
            clear q0 q1 q2 q3 q4 q5
            obtain ⟨q0, q1, q2, q3, q4, q5⟩ := HKV.out w11 HM11.out
            go_wp2_with fail
            refine (HS.out _).mono ?_
            rintro e w12 ⟨rfl, hb12⟩
            have HM12 : Hid (Below W0.heap.size W0 w12) := Lib.hid (HM11.out.trans (hb12.mono HM11.out.size))
            clear hb12
            clear q0 q1 q2 q3 q4 q5
            obtain ⟨q0, q1, q2, q3, q4, q5⟩ := HKV.out w12 HM12.out
            go_wp2
            go_ret
            exact ⟨ret_bool (by simp), HO.out _ HM12.out⟩
        · have h0' : (er != 0) = true := bne_iff_ne.2 h0
          have h0'' : (er == 0) = false := beq_eq_false_iff_ne.2 h0
          go_wp2
          go_ret
          exact ⟨rfl, HO.out _ HM9.out⟩
      · have h3 := hpre.resolve_left h2
        injection h3 with e1 e2
        injection e2 with e2 e3
        injection e2 with e4 e5 e6
        injection e3 with e3 e7
        replace e1 := e1.symm
        replace e3 := e3.symm
        replace e4 := e4.symm
        replace e5 := e5.symm
        replace e6 := e6.symm
        subst e1 e3 e4 e5 e6
        have h2' : (er == 2) = false := beq_eq_false_iff_ne.2 h2
        have h2'' : (er != 2) = true := bne_iff_ne.2 h2
        clear hpre
        by_cases h0 : er = 0
        · subst h0
          obtain ⟨p1, p2, p3, p4, p5⟩ := hput.out rfl
          have HQ := Lib.hid (HW.out _ p3 p4)
          unfold Fr.val at HQ
          simp only at HQ p5
          by_cases h3 : fm = 3
          · generalize wPut _ _ = P at HQ
            obtain ⟨T, ei⟩ := P
            subst h3
            clear p5
            go_wp2_with fail
            refine (HQ.out _).mono ?_
            rintro e w11 ⟨rfl, hb11⟩
            have HM11 : Hid (Below W0.heap.size W0 w11) := Lib.hid (HM9.out.trans (hb11.mono HM9.out.size))
            clear hb11 g0 g1 g2 k0 k1 k2
            clear q0 q1 q2 q3 q4 q5
            obtain ⟨q0, q1, q2, q3, q4, q5⟩ := HKV.out w11 HM11.out
            go_wp2_with fail
            refine (HS.out _).mono ?_
            rintro e w12 ⟨rfl, hb12⟩
            have HM12 : Hid (Below W0.heap.size W0 w12) := Lib.hid (HM11.out.trans (hb12.mono HM11.out.size))
            clear hb12
            clear q0 q1 q2 q3 q4 q5
            obtain ⟨q0, q1, q2, q3, q4, q5⟩ := HKV.out w12 HM12.out
            go_wp2
            go_ret
            exact ⟨ret_bool (by simp), HO.out _ HM12.out⟩
          · have p6 := p5 h3
            rw [p6] at HQ
            simp only at HQ
            have h3' : (fm == 3) = false := beq_eq_false_iff_ne.2 h3
            have p7 : (k : Int) ≤ s.size := by omega
            have m1 := str_ways (s.extract 0 k) (s.extract 0 k)
            simp only [ne_eq, not_true_eq_false, false_and, or_false, true_and] at m1
            obtain ⟨m1, m2⟩ := m1
            clear p5 p6
            go_wp2_with fail
            refine (HQ.out _).mono ?_
            rintro e w11 ⟨rfl, hb11⟩
            have HM11 : Hid (Below W0.heap.size W0 w11) := Lib.hid (HM9.out.trans (hb11.mono HM9.out.size))
            clear hb11 g0 g1 g2 k0 k1 k2
            clear q0 q1 q2 q3 q4 q5
            obtain ⟨q0, q1, q2, q3, q4, q5⟩ := HKV.out w11 HM11.out
            go_wp2_with fail
            refine (HS.out _).mono ?_
            rintro e w12 ⟨rfl, hb12⟩
            have HM12 : Hid (Below W0.heap.size W0 w12) := Lib.hid (HM11.out.trans (hb12.mono HM11.out.size))
            clear hb12
            clear q0 q1 q2 q3 q4 q5
            obtain ⟨q0, q1, q2, q3, q4, q5⟩ := HKV.out w12 HM12.out
            go_wp2
            go_ret
            exact ⟨ret_bool (by simp), HO.out _ HM12.out⟩
        · have h0' : (er != 0) = true := bne_iff_ne.2 h0
          have h0'' : (er == 0) = false := beq_eq_false_iff_ne.2 h0
          go_wp2
          go_ret
          exact ⟨rfl, HO.out _ HM9.out⟩

theorem wireReads_row (c : Cfg) (s : ByteArray) (cut : Int) (w : World) (hc : c.ok) (hs : s.size ≤ maxLen) (h3 : (Lit.int .u16 cut).wf = true) :
    Calls Tryz.prog 5 #[c.val, .string s, .int .u16 cut] w fun e w' => e = .returned (.bool true) ∧ Below w.heap.size w w' := by
  have h4 : 0 ≤ cut ∧ cut ≤ 65535 := by simpa [Lit.wf, IntKind.min, IntKind.max, IntKind.signed, IntKind.bits] using h3
  obtain ⟨y, rfl⟩ : ∃ y : Nat, cut = (y : Int) := ⟨cut.toNat, by omega⟩
  exact wireReads_w c s y w hc (by simpa [maxLen] using hs) (by omega)
end Go.Proofs.YtebllmpdlapefaaGreatDoor
