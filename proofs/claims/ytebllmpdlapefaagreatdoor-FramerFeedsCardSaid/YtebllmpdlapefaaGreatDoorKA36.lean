/- The document's Split and Same. -/
import Derived.Test.YtebllmpdlapefaaGreatDoorKA5
import Derived.Test.YtebllmpdlapefaaGreatDoorKA6
import Derived.Test.YtebllmpdlapefaaGreatDoorKA33
namespace Go.Proofs.YtebllmpdlapefaaGreatDoor
set_option linter.unusedVariables false
set_option linter.unusedSimpArgs false
open Go.RowKit

theorem wNext_met (c : Cfg) (s : ByteArray) : (wNext c s).2.2.2 ≤ 65536 := by
  unfold wNext
  by_cases hr : c.right = true
  · rw [if_pos hr]
    have := (c.right_iff).1 hr
    unfold wRaw
    split
    · exact Nat.zero_le _
    split
    · exact Nat.zero_le _
    · show (pkNext c.fr c.un s).2.2.2.2 ≤ 65536
      rw [pkNext_eq]
      split
      · exact Nat.zero_le _
      split
      · exact Nat.zero_le _
      split
      · exact Nat.zero_le _
      · rename_i h
        split
        · show (sSize (plNext c.fr s).2.2.1).1 ≤ 65536; omega
        · show (sSize (plNext c.fr s).2.2.1).1 ≤ 65536; omega
  · rw [if_neg hr]; exact Nat.zero_le _
theorem split_met (c : Cfg) (s : ByteArray) : (split (wNext c) s).2.2.1 ≤ 65536 * (s.size + 1) := by
  have h := wNext_ok c
  induction s using split_ind h with
  | stop s h0 =>
    rw [split_eq h, if_neg h0]
    have := wNext_met c s
    show (wNext c s).2.2.2 ≤ _
    omega
  | go s h0 ih =>
    rw [split_go h h0]
    obtain ⟨h1, h2⟩ := h.pos s h0
    have h3 := rest_size s _ h1 h2
    have := wNext_met c s
    show (wNext c s).2.2.2 + (split (wNext c) (s.extract (wNext c s).2.2.1 s.size)).2.2.1 ≤ _
    have : 65536 * ((s.extract (wNext c s).2.2.1 s.size).size + 1) ≤ 65536 * s.size := Nat.mul_le_mul_left _ (by omega)
    omega
set_option maxRecDepth 100000 in
set_option maxHeartbeats 2000000 in
theorem refSplit18_c (c : Cfg) (s : ByteArray) (w : World) (hc : c.ok) (hs : s.size ≤ 100000) :
    Calls Tryz.prog 28 #[keyV, c.val, .string s] w fun e w' => (∃ v, e = .returned (.tuple #[v, .string (split (wNext c) s).2.1, .int .i64 (split (wNext c) s).2.2.1, .int .i64 (split (wNext c) s).2.2.2]) ∧ FrO w' w.heap.size v (split (wNext c) s).1) ∧ Below w.heap.size w w' := by
  have HOK := Lib.hid (wNext_ok c)
  have HR := Lib.hid (fun r (hr : r.size ≤ 1099511627776) V => refNext17_c c r hc hr V)
  have hSM := split_met c s
  unfold keyV Cfg.val at *
  have HI := Lib.hid (info_key' 64)
  generalize kC 64 = KL at *
  obtain ⟨W0, hW0⟩ : ∃ W0, (w.alloc (.cells KL 32)).alloc (.cells #[.int .i64 c.fm, .int .u32 c.mg, .int .i64 c.fr, .int .i64 c.un, .int .i64 c.de, .int .i64 c.it] 24) = W0 := ⟨_, rfl⟩
  have hN := two_new hW0
  have HKB : Hid (∀ V, Below (w.heap.size + 2) W0 V → Blk V w.heap.size 32 KL ∧ V.cell? ⟨w.heap.size + 1, 0, none⟩ = some (.int .i64 c.fm) ∧ V.cell? ⟨w.heap.size + 1, 1, none⟩ = some (.int .u32 c.mg) ∧ V.cell? ⟨w.heap.size + 1, 2, none⟩ = some (.int .i64 c.fr) ∧ V.cell? ⟨w.heap.size + 1, 3, none⟩ = some (.int .i64 c.un) ∧ V.cell? ⟨w.heap.size + 1, 4, none⟩ = some (.int .i64 c.de) ∧ V.cell? ⟨w.heap.size + 1, 5, none⟩ = some (.int .i64 c.it) ∧ Below w.heap.size w V ∧ w.heap.size + 2 ≤ V.heap.size) := Lib.hid (fun V hV => by
    have hB := hN.2.2.2.keep hV (by omega)
    exact ⟨hN.2.2.1.keep hV (by omega), hB.cell 0, hB.cell 1, hB.cell 2, hB.cell 3, hB.cell 4, hB.cell 5, hN.2.1.trans (hV.mono (by omega)), by have := hV.size; omega⟩)
  have HZ0 : Hid (W0.heap.size = w.heap.size + 2) := Lib.hid hN.1
  have HW0 := Lib.hid hW0
  clear hW0 hN
  go_enter Tryz.func28, Tryz.ntmps28
  go_wp2
  rw [HW0.out]
  go_loopw [2, 10, 11] (fun sv ov av wr => ∃ (r : ByteArray) (acc : List Fr) (a : Nat), sv = .string r ∧ FrO wr (w.heap.size + 2) ov acc ∧ av = .int .i64 a ∧ r.size ≤ 100000 ∧ a ≤ 65536 * acc.length ∧ acc.length + r.size ≤ 100000 ∧ Hid (split (wNext c) s = (acc ++ (split (wNext c) r).1, (split (wNext c) r).2.1, a + (split (wNext c) r).2.2.1, (split (wNext c) r).2.2.2)) ∧ Hid (Below (w.heap.size + 2) W0 wr)) (fun sv _ _ _ => strOf sv)
  case atStart => exact ⟨s, [], 0, rfl, FrO.nil _ _, rfl, hs, by simp, by simpa using hs, Lib.hid (by simp), Lib.hid (Below.refl _ _)⟩
  case round =>
    obtain ⟨r, acc, a, rfl, hacc, rfl, hr, ha, hal, HSP, HB⟩ := hrel
    obtain ⟨A, n, cap, rfl, hn, hnc, hcm⟩ := hacc.form'
    have HN := Lib.hid (fun V => HR.out r (by omega) V)
    have HGO : Hid ((wNext c r).1 = 0 → 0 < (wNext c r).2.2.1 ∧ (wNext c r).2.2.1 ≤ r.size ∧ split (wNext c) s = ((acc ++ [(wNext c r).2.1]) ++ (split (wNext c) (r.extract (wNext c r).2.2.1 r.size)).1, (split (wNext c) (r.extract (wNext c r).2.2.1 r.size)).2.1, (a + (wNext c r).2.2.2) + (split (wNext c) (r.extract (wNext c r).2.2.1 r.size)).2.2.1, (split (wNext c) (r.extract (wNext c r).2.2.1 r.size)).2.2.2)) := Lib.hid (fun h => by
      obtain ⟨p1, p2⟩ := HOK.out.pos r h
      refine ⟨p1, p2, ?_⟩
      rw [HSP.out, split_go HOK.out h]
      simp [Spl.cons, Nat.add_assoc])
    have HST : Hid ((wNext c r).1 ≠ 0 → split (wNext c) s = (acc, r, a + (wNext c r).2.2.2, if (wNext c r).1 = 2 then 0 else (wNext c r).1)) := Lib.hid (fun h => by
      rw [HSP.out, split_eq HOK.out r, if_neg h]; simp)
    have hm := wNext_met c r
    obtain ⟨X, hX⟩ : ∃ X, wNext c r = X := ⟨_, rfl⟩
    rw [hX] at HN HGO HST hm
    clear hX HR
    obtain ⟨er, ⟨y1, y2, y3⟩, k, m⟩ := X
    simp only at HGO HST hm
    unfold rRet Fr.val at HN
    simp only at HN
    obtain ⟨hK, q0, q1, q2, q3, q4, q5, hbw, hz⟩ := HKB.out wr HB.out
    have HK := Lib.hid hK
    clear hK hbw
    by_cases h1 : er = 0
    · subst h1
      obtain ⟨p1, p2, p3⟩ := HGO.out rfl
      have HS3 := Lib.hid p3
      clear p3 HGO HST HSP
      have p4 : (k : Int) ≤ r.size := by omega
      go_wp2_with (refine wpList_load_row (by rfl) 32 (.tmp 3) (by rfl) w.heap.size (by rfl) 32 KL (0, 0) _ HK.out Tryz.underlying32 rfl HI.out ?_)
      refine (HN.out _).mono ?_
      rintro e w1 ⟨rfl, hb⟩
      have HB1 : Hid (Below (w.heap.size + 2) W0 (w1.alloc (.cells #[.int .u64 y1, .string y2, .string y3] 27))) := Lib.hid ((HB.out.trans (hb.mono hz)).alloc (by have := hb.size; omega) _)
      have HA1 := Lib.hid ((hacc.below hb).below ((Below.refl w1.heap.size w1).alloc (Nat.le_refl _) (.cells #[.int .u64 y1, .string y2, .string y3] 27)))
      have hz1 : w.heap.size + 2 ≤ w1.heap.size := Nat.le_trans hz hb.size
      clear hb hacc q0 q1 q2 q3 q4 q5 HK
      have HA2 := Lib.hid (HA1.out.below ((Below.refl _ (w1.alloc (.cells #[.int .u64 y1, .string y2, .string y3] 27))).alloc (Nat.le_refl _) (.cells #[.int .u64 y1, .string y2, .string y3] 27)))
      have HB2 := Lib.hid (HB1.out.alloc (by simp; omega) (.cells #[.int .u64 y1, .string y2, .string y3] 27))
      clear HA1 HB1
      go_wp2_with (
        refine wpList_append_frame (by rfl) (.tmp 39) (.tmp 41) (by rfl) (w.heap.size + 2) acc (by rfl) HA2.out ⟨y1, y2, y3⟩ (w1.heap.size + 1) (by rfl) (by simp) (by simp) (by simp) (by omega) (by simp; omega) ?_
        intro g' n' cap' w2 hn' hf2 hgr hlo'
        have HF2 := Lib.hid hf2
        have HB3 : Hid (Below (w.heap.size + 2) W0 w2) := Lib.hid (HB2.out.trans ⟨hgr.os, hgr.tape, hgr.output, hgr.size, fun j hj => hgr.block j (by simp; omega) (fun e => by have := (HA2.out.ge j e.symm).1; omega)⟩)
        clear hf2 hgr HA2 HB2)
      go_roundw
      case rel => exact ⟨_, acc ++ [⟨y1, y2, y3⟩], a + m, rfl, HF2.out, by go_num, by rw [size_cut _ _ _ (Nat.le_refl _)]; omega, by rw [List.length_append]; simp; omega, by rw [List.length_append, size_cut _ _ _ (Nat.le_refl _)]; simp; omega, HS3, HB3⟩
      case measure => simp [strOf]; omega
    · by_cases h2 : er = 2
      · subst h2
        have HS2 := Lib.hid (HST.out (by simp))
        clear HGO HST HSP
        go_wp2_with (refine wpList_load_row (by rfl) 32 (.tmp 3) (by rfl) w.heap.size (by rfl) 32 KL (0, 0) _ HK.out Tryz.underlying32 rfl HI.out ?_)
        refine (HN.out _).mono ?_
        rintro e w1 ⟨rfl, hb⟩
        have HB1 : Hid (Below (w.heap.size + 2) W0 (w1.alloc (.cells #[.int .u64 y1, .string y2, .string y3] 27))) := Lib.hid ((HB.out.trans (hb.mono hz)).alloc (by have := hb.size; omega) _)
        have HA1 := Lib.hid ((hacc.below hb).below ((Below.refl w1.heap.size w1).alloc (Nat.le_refl _) (.cells #[.int .u64 y1, .string y2, .string y3] 27)))
        have hz1 : w.heap.size + 2 ≤ w1.heap.size := Nat.le_trans hz hb.size
        clear hb hacc q0 q1 q2 q3 q4 q5 HK
        go_wp2
        refine bodyPost_ret (v := .tuple #[.slice A n cap, .string r, .int .i64 ((a : Int) + m), .int .i64 0]) (by simp [results, Tryz.results28, go_sem]) rfl ?_
        obtain ⟨_, _, _, _, _, _, _, hbw, _⟩ := HKB.out _ HB1.out
        exact ⟨⟨.slice A n cap, by rw [HS2.out]; simp, by rw [HS2.out]; exact HA1.out.lower (by omega)⟩, hbw⟩
      · have h3 : (er == 2) = false := beq_eq_false_iff_ne.2 h2
        have h4 : (er != 0) = true := bne_iff_ne.2 h1
        have HS2 := HST.out h1
        rw [if_neg h2] at HS2
        have HS2 := Lib.hid HS2
        clear HGO HST HSP
        go_wp2_with (refine wpList_load_row (by rfl) 32 (.tmp 3) (by rfl) w.heap.size (by rfl) 32 KL (0, 0) _ HK.out Tryz.underlying32 rfl HI.out ?_)
        refine (HN.out _).mono ?_
        rintro e w1 ⟨rfl, hb⟩
        have HB1 : Hid (Below (w.heap.size + 2) W0 (w1.alloc (.cells #[.int .u64 y1, .string y2, .string y3] 27))) := Lib.hid ((HB.out.trans (hb.mono hz)).alloc (by have := hb.size; omega) _)
        have HA1 := Lib.hid ((hacc.below hb).below ((Below.refl w1.heap.size w1).alloc (Nat.le_refl _) (.cells #[.int .u64 y1, .string y2, .string y3] 27)))
        have hz1 : w.heap.size + 2 ≤ w1.heap.size := Nat.le_trans hz hb.size
        clear hb hacc q0 q1 q2 q3 q4 q5 HK
        go_wp2
        refine bodyPost_ret (v := .tuple #[.slice A n cap, .string r, .int .i64 ((a : Int) + m), .int .i64 er]) (by simp [results, Tryz.results28, go_sem]) rfl ?_
        obtain ⟨_, _, _, _, _, _, _, hbw, _⟩ := HKB.out _ HB1.out
        exact ⟨⟨.slice A n cap, by rw [HS2.out]; simp, by rw [HS2.out]; exact HA1.out.lower (by omega)⟩, hbw⟩
set_option maxRecDepth 100000 in
set_option maxHeartbeats 2000000 in
/-- Two rows that read as the same frames are the same. -/
theorem same18_c (va vb : Value) (l : List Fr) (B : Nat) (w : World) (ha : FrR w B va l) (hb : FrR w B vb l) (hB : B ≤ w.heap.size) (hl : l.length ≤ 1000000) :
    Calls Tryz.prog 27 #[va, vb] w fun e w' => e = .returned (.bool true) ∧ Below w.heap.size w w' := by
  obtain ⟨A, n, cap, rfl, hn, hnc, hcm⟩ := ha.form'
  obtain ⟨A', n', cap', rfl, hn', hnc', hcm'⟩ := hb.form'
  have hn1 : n ≤ 1000000 := by rw [hn.out]; exact hl
  obtain rfl : n = n' := by rw [hn.out, hn'.out]
  have HA := Lib.hid ha
  have HB := Lib.hid hb
  clear ha hb hn' hl
  have hEG := eqg_fr
  go_enter Tryz.func27, Tryz.ntmps27
  go_wp2
  go_loopw [5] (fun i wr => ∃ j : Nat, i = .int .i64 j ∧ j ≤ n ∧ Hid (Below w.heap.size w wr)) (fun i _ => n - (intOf i).toNat)
  case atStart => exact ⟨0, rfl, by omega, Lib.hid (Below.refl _ _)⟩
  case round =>
    obtain ⟨j, rfl, hj, HW⟩ := hrel
    by_cases hlt : j < n
    · have hjl : j < l.length := by rw [← hn.out]; exact hlt
      obtain ⟨g, o, rfl, hg, e0, e1, e2⟩ := (HA.out.below (HW.out.mono hB)).at_ hjl
      obtain ⟨g', o', rfl, hg', f0, f1, f2⟩ := (HB.out.below (HW.out.mono hB)).at_ hjl
      obtain ⟨x, hx⟩ : ∃ x, l[j] = x := ⟨_, rfl⟩
      rw [hx] at e0 e1 e2 f0 f1 f2
      clear hx
      obtain ⟨x1, x2, x3⟩ := x
      simp only at e0 e1 e2 f0 f1 f2
      have hEQ := eqFr_same x1 x2 x3
      go_wp2
      go_quiet (fail)
      go_wp2
      go_roundw
      case rel => exact ⟨j + 1, by go_num, by omega, Lib.hid (HW.out.drewN' _)⟩
      case measure => simp [intOf]; omega
    · go_wp2
      go_ret
      exact ⟨rfl, HW.out⟩
end Go.Proofs.YtebllmpdlapefaaGreatDoor
