/- FramerBounds: unless it is broken fewer bytes are buffered than a frame may have at most (or 10); a feeding lays its chunk's bytes, and of Packed what its frames are unpacked to. -/
import Derived.Test.YtebllmpdlapefaaGreatDoorKA38
namespace Go.Proofs.YtebllmpdlapefaaGreatDoor
set_option linter.unusedVariables false
set_option linter.unusedSimpArgs false
open Go.RowKit


theorem fed_bounds {c : Cfg} (hr : c.right = true) (x : Fed) (s : ByteArray) :
    (x.fault ≠ 0 → (fed (wNext c) x s).2.2 = x.fault ∧ (fed (wNext c) x s).2.1 = [] ∧ (fed (wNext c) x s).1.laid = 0) ∧
    (x.fault = 0 → ((fed (wNext c) x s).2.2 = 0 → ((fed (wNext c) x s).1.buf.size : Int) < max (wMost c) 10) ∧ (c.fm ≠ 3 → (fed (wNext c) x s).1.laid = s.size) ∧
      (c.fm = 3 → ((fed (wNext c) x s).2.2 = 0 → (fed (wNext c) x s).1.laid = s.size + bodies (fed (wNext c) x s).2.1) ∧ s.size + bodies (fed (wNext c) x s).2.1 ≤ (fed (wNext c) x s).1.laid ∧ ((fed (wNext c) x s).1.laid : Int) ≤ s.size + bodies (fed (wNext c) x s).2.1 + c.un)) := by
  constructor
  · intro h0; rw [fed_broken h0]; exact ⟨rfl, rfl, rfl⟩
  · intro h0
    rw [fed_whole h0]
    refine ⟨fun h => split_buf hr _ h, fun h => ?_, fun h => ?_⟩
    · simp only [split_lays h]; omega
    · obtain ⟨a1, a2, a3⟩ := split_lays3 hr h (x.buf ++ s)
      simp only
      exact ⟨fun hz => by rw [a1 hz], by omega, by omega⟩
theorem fed_bodies {c : Cfg} (hr : c.right = true) (h3 : c.fm = 3) (x : Fed) (s : ByteArray) : bodies (fed (wNext c) x s).2.1 ≤ 65536 * (x.buf.size + s.size + 1) := by
  by_cases h0 : x.fault = 0
  · rw [fed_whole h0]
    have h1 := split_met c (x.buf ++ s)
    rw [size_app] at h1
    have := (split_lays3 hr h3 (x.buf ++ s)).2.1
    simp only; omega
  · rw [fed_broken h0]; simp [bodies]
theorem bodies_take_le (l : List Fr) (k : Nat) : bodies (l.take k) ≤ bodies l := by
  have h : bodies (l.take k ++ l.drop k) = bodies (l.take k) + bodies (l.drop k) := by simp only [bodies, List.map_append, List.sum_append]
  rw [List.take_append_drop] at h
  omega
theorem bodies_take (l : List Fr) (k : Nat) (h : k < l.length) : bodies (l.take (k + 1)) = bodies (l.take k) + l[k].body.size := by
  rw [List.take_succ_eq_append_getElem h, bodies_snoc]
theorem wpQuiet_no {P : Program} {ops : Array Oper} {C : World → Prop} {Q : Act → Prop} {o : Oper} {rest : List Oper} {a : Act} (hg : Region.wanted o (yielded ops a.tmps) = false) (h : wpQuiet P ops C Q rest (a.put o.dst undef)) : wpQuiet P ops C Q (o :: rest) a := by
  unfold wpQuiet; rw [if_neg (by rw [hg]; simp)]; exact h
set_option maxRecDepth 100000 in
set_option maxHeartbeats 4000000 in
theorem framerBounds_w (c : Cfg) (l : List ByteArray) (v : Value) (w : World) (hc : c.ok) (hv : StR w w.heap.size v l) (hl : ∀ s ∈ l, s.size ≤ 9223372036854775807) :
    Calls Tryz.prog 10 #[c.val, v] w fun e w' => e = .returned (.bool true) ∧ Below w.heap.size w w' := by
  obtain ⟨A, n, cap, rfl, hn, hnc, hcm⟩ := hv.form'
  have HV := Lib.hid hv
  clear hv
  have HR := Lib.hid (fun V => refRight19_c c V)
  have HN := Lib.hid (fun V hr => frNew_c c V hr)
  cases hgr : (decide (200 < l.length) || decide (1500 < min (sizes l) 10000)) with
  | true =>
    unfold Cfg.val at *
    obtain ⟨W0, hW0⟩ : ∃ W0, w.alloc (.cells #[.int .i64 c.fm, .int .u32 c.mg, .int .i64 c.fr, .int .i64 c.un, .int .i64 c.de, .int .i64 c.it] 24) = W0 := ⟨_, rfl⟩
    have hz : W0.heap.size = w.heap.size + 1 := by rw [← hW0]; simp
    have hB : Blk W0 w.heap.size 24 #[.int .i64 c.fm, .int .u32 c.mg, .int .i64 c.fr, .int .i64 c.un, .int .i64 c.de, .int .i64 c.it] := by rw [← hW0]; exact Blk.new w _ _
    have HO : Hid (∀ V, Below W0.heap.size W0 V → Below w.heap.size w V ∧ w.heap.size + 1 ≤ V.heap.size) := Lib.hid (fun V hV => by
      have h1 : Below w.heap.size w W0 := by rw [← hW0]; exact (by repeat (first | exact Below.refl _ _ | assumption | with_reducible refine Below.drewN' ?_ _ | with_reducible refine Below.drew ?_ | ((with_reducible refine Below.alloc' ?_ ?_ _); · (first | omega | (simp <;> omega)))))
      exact ⟨h1.trans (hV.mono (by omega)), by have := hV.size; omega⟩)
    have HKB : Hid (∀ V, Below W0.heap.size W0 V → Blk V w.heap.size 24 #[.int .i64 c.fm, .int .u32 c.mg, .int .i64 c.fr, .int .i64 c.un, .int .i64 c.de, .int .i64 c.it]) := Lib.hid (fun V hV => hB.keep hV (by omega))
    have HKV : Hid (∀ V, Below W0.heap.size W0 V → V.cell? ⟨w.heap.size, 0, none⟩ = some (.int .i64 c.fm) ∧ V.cell? ⟨w.heap.size, 1, none⟩ = some (.int .u32 c.mg) ∧ V.cell? ⟨w.heap.size, 2, none⟩ = some (.int .i64 c.fr) ∧ V.cell? ⟨w.heap.size, 3, none⟩ = some (.int .i64 c.un) ∧ V.cell? ⟨w.heap.size, 4, none⟩ = some (.int .i64 c.de) ∧ V.cell? ⟨w.heap.size, 5, none⟩ = some (.int .i64 c.it)) := Lib.hid (fun V hV => by
      have hB := hB.keep hV (by omega)
      exact ⟨hB.cell 0, hB.cell 1, hB.cell 2, hB.cell 3, hB.cell 4, hB.cell 5⟩)
    have HW0 := Lib.hid hW0
    have HV0 : Hid (∀ V, Below W0.heap.size W0 V → StR V w.heap.size (.slice A n cap) l) := Lib.hid (fun V hV => HV.out.below (HO.out V hV).1)
    clear hW0 hB hz HV
    go_enter Tryz.func10, Tryz.ntmps10
    go_wp2_with fail
    rw [HW0.out]
    refine (frAlive _).mono ?_
    rintro e w1 ⟨rfl, hb⟩
    have HM1 : Hid (Below W0.heap.size W0 w1) := Lib.hid hb
    clear hb
    have HG1 := Lib.hid (great19_c l (.slice A n cap) w.heap.size w1 (HV0.out _ HM1.out) (by have := (HO.out _ HM1.out).2; omega) hl)
    obtain ⟨q0, q1, q2, q3, q4, q5⟩ := HKV.out w1 HM1.out
    rw [hgr] at HG1
    go_wp2_with fail
    refine HG1.out.mono ?_
    rintro e w2 ⟨rfl, hb⟩
    have HM2 : Hid (Below W0.heap.size W0 w2) := Lib.hid (HM1.out.trans (hb.mono HM1.out.size))
    clear hb HG1
    clear q0 q1 q2 q3 q4 q5
    obtain ⟨q0, q1, q2, q3, q4, q5⟩ := HKV.out w2 HM2.out
    go_wp2
    go_ret
    exact ⟨rfl, (HO.out _ HM2.out).1⟩
  | false =>
  have hgr' := hgr
  simp at hgr'
  obtain ⟨hl200, hsz⟩ := hgr'
  have hsz : sizes l ≤ 1500 := by omega
  cases hr : c.right with
  | false =>
    rw [hr] at HR
    unfold Cfg.val at *
    obtain ⟨W0, hW0⟩ : ∃ W0, w.alloc (.cells #[.int .i64 c.fm, .int .u32 c.mg, .int .i64 c.fr, .int .i64 c.un, .int .i64 c.de, .int .i64 c.it] 24) = W0 := ⟨_, rfl⟩
    have hz : W0.heap.size = w.heap.size + 1 := by rw [← hW0]; simp
    have hB : Blk W0 w.heap.size 24 #[.int .i64 c.fm, .int .u32 c.mg, .int .i64 c.fr, .int .i64 c.un, .int .i64 c.de, .int .i64 c.it] := by rw [← hW0]; exact Blk.new w _ _
    have HO : Hid (∀ V, Below W0.heap.size W0 V → Below w.heap.size w V ∧ w.heap.size + 1 ≤ V.heap.size) := Lib.hid (fun V hV => by
      have h1 : Below w.heap.size w W0 := by rw [← hW0]; exact (by repeat (first | exact Below.refl _ _ | assumption | with_reducible refine Below.drewN' ?_ _ | with_reducible refine Below.drew ?_ | ((with_reducible refine Below.alloc' ?_ ?_ _); · (first | omega | (simp <;> omega)))))
      exact ⟨h1.trans (hV.mono (by omega)), by have := hV.size; omega⟩)
    have HKB : Hid (∀ V, Below W0.heap.size W0 V → Blk V w.heap.size 24 #[.int .i64 c.fm, .int .u32 c.mg, .int .i64 c.fr, .int .i64 c.un, .int .i64 c.de, .int .i64 c.it]) := Lib.hid (fun V hV => hB.keep hV (by omega))
    have HKV : Hid (∀ V, Below W0.heap.size W0 V → V.cell? ⟨w.heap.size, 0, none⟩ = some (.int .i64 c.fm) ∧ V.cell? ⟨w.heap.size, 1, none⟩ = some (.int .u32 c.mg) ∧ V.cell? ⟨w.heap.size, 2, none⟩ = some (.int .i64 c.fr) ∧ V.cell? ⟨w.heap.size, 3, none⟩ = some (.int .i64 c.un) ∧ V.cell? ⟨w.heap.size, 4, none⟩ = some (.int .i64 c.de) ∧ V.cell? ⟨w.heap.size, 5, none⟩ = some (.int .i64 c.it)) := Lib.hid (fun V hV => by
      have hB := hB.keep hV (by omega)
      exact ⟨hB.cell 0, hB.cell 1, hB.cell 2, hB.cell 3, hB.cell 4, hB.cell 5⟩)
    have HW0 := Lib.hid hW0
    have HV0 : Hid (∀ V, Below W0.heap.size W0 V → StR V w.heap.size (.slice A n cap) l) := Lib.hid (fun V hV => HV.out.below (HO.out V hV).1)
    clear hW0 hB hz HV
    go_enter Tryz.func10, Tryz.ntmps10
    go_wp2_with fail
    rw [HW0.out]
    refine (frAlive _).mono ?_
    rintro e w1 ⟨rfl, hb⟩
    have HM1 : Hid (Below W0.heap.size W0 w1) := Lib.hid hb
    clear hb
    have HG1 := Lib.hid (great19_c l (.slice A n cap) w.heap.size w1 (HV0.out _ HM1.out) (by have := (HO.out _ HM1.out).2; omega) hl)
    obtain ⟨q0, q1, q2, q3, q4, q5⟩ := HKV.out w1 HM1.out
    rw [hgr] at HG1
    go_wp2_with fail
    refine HG1.out.mono ?_
    rintro e w2 ⟨rfl, hb⟩
    have HM2 : Hid (Below W0.heap.size W0 w2) := Lib.hid (HM1.out.trans (hb.mono HM1.out.size))
    clear hb HG1
    clear q0 q1 q2 q3 q4 q5
    obtain ⟨q0, q1, q2, q3, q4, q5⟩ := HKV.out w2 HM2.out
    go_wp2_with fail
    refine (HR.out _).mono ?_
    rintro e w3 ⟨rfl, hb⟩
    have HM3 : Hid (Below W0.heap.size W0 w3) := Lib.hid (HM2.out.trans (hb.mono HM2.out.size))
    clear hb
    clear q0 q1 q2 q3 q4 q5
    obtain ⟨q0, q1, q2, q3, q4, q5⟩ := HKV.out w3 HM3.out
    go_wp2
    go_ret
    exact ⟨rfl, (HO.out _ HM3.out).1⟩
  | true =>
    rw [hr] at HR
    have HFE := Lib.hid (fun base g bv x s V h1 h2 h3 h4 => frFeed_c base g bv c x s V hr hc h1 h2 h3 h4)
    unfold Cfg.val at *
    obtain ⟨W0, hW0⟩ : ∃ W0, w.alloc (.cells #[.int .i64 c.fm, .int .u32 c.mg, .int .i64 c.fr, .int .i64 c.un, .int .i64 c.de, .int .i64 c.it] 24) = W0 := ⟨_, rfl⟩
    have hz : W0.heap.size = w.heap.size + 1 := by rw [← hW0]; simp
    have hB : Blk W0 w.heap.size 24 #[.int .i64 c.fm, .int .u32 c.mg, .int .i64 c.fr, .int .i64 c.un, .int .i64 c.de, .int .i64 c.it] := by rw [← hW0]; exact Blk.new w _ _
    have HO : Hid (∀ V, Below W0.heap.size W0 V → Below w.heap.size w V ∧ w.heap.size + 1 ≤ V.heap.size) := Lib.hid (fun V hV => by
      have h1 : Below w.heap.size w W0 := by rw [← hW0]; exact (by repeat (first | exact Below.refl _ _ | assumption | with_reducible refine Below.drewN' ?_ _ | with_reducible refine Below.drew ?_ | ((with_reducible refine Below.alloc' ?_ ?_ _); · (first | omega | (simp <;> omega)))))
      exact ⟨h1.trans (hV.mono (by omega)), by have := hV.size; omega⟩)
    have HKB : Hid (∀ V, Below W0.heap.size W0 V → Blk V w.heap.size 24 #[.int .i64 c.fm, .int .u32 c.mg, .int .i64 c.fr, .int .i64 c.un, .int .i64 c.de, .int .i64 c.it]) := Lib.hid (fun V hV => hB.keep hV (by omega))
    have HKV : Hid (∀ V, Below W0.heap.size W0 V → V.cell? ⟨w.heap.size, 0, none⟩ = some (.int .i64 c.fm) ∧ V.cell? ⟨w.heap.size, 1, none⟩ = some (.int .u32 c.mg) ∧ V.cell? ⟨w.heap.size, 2, none⟩ = some (.int .i64 c.fr) ∧ V.cell? ⟨w.heap.size, 3, none⟩ = some (.int .i64 c.un) ∧ V.cell? ⟨w.heap.size, 4, none⟩ = some (.int .i64 c.de) ∧ V.cell? ⟨w.heap.size, 5, none⟩ = some (.int .i64 c.it)) := Lib.hid (fun V hV => by
      have hB := hB.keep hV (by omega)
      exact ⟨hB.cell 0, hB.cell 1, hB.cell 2, hB.cell 3, hB.cell 4, hB.cell 5⟩)
    have HW0 := Lib.hid hW0
    have HV0 : Hid (∀ V, Below W0.heap.size W0 V → StR V w.heap.size (.slice A n cap) l) := Lib.hid (fun V hV => HV.out.below (HO.out V hV).1)
    clear hW0 hB hz HV
    go_enter Tryz.func10, Tryz.ntmps10
    go_wp2_with fail
    rw [HW0.out]
    refine (frAlive _).mono ?_
    rintro e w1 ⟨rfl, hb⟩
    have HM1 : Hid (Below W0.heap.size W0 w1) := Lib.hid hb
    clear hb
    have HG1 := Lib.hid (great19_c l (.slice A n cap) w.heap.size w1 (HV0.out _ HM1.out) (by have := (HO.out _ HM1.out).2; omega) hl)
    obtain ⟨q0, q1, q2, q3, q4, q5⟩ := HKV.out w1 HM1.out
    rw [hgr] at HG1
    go_wp2_with fail
    refine HG1.out.mono ?_
    rintro e w2 ⟨rfl, hb⟩
    have HM2 : Hid (Below W0.heap.size W0 w2) := Lib.hid (HM1.out.trans (hb.mono HM1.out.size))
    clear hb HG1
    clear q0 q1 q2 q3 q4 q5
    obtain ⟨q0, q1, q2, q3, q4, q5⟩ := HKV.out w2 HM2.out
    go_wp2_with fail
    refine (HR.out _).mono ?_
    rintro e w3 ⟨rfl, hb⟩
    have HM3 : Hid (Below W0.heap.size W0 w3) := Lib.hid (HM2.out.trans (hb.mono HM2.out.size))
    clear hb
    clear q0 q1 q2 q3 q4 q5
    obtain ⟨q0, q1, q2, q3, q4, q5⟩ := HKV.out w3 HM3.out
    go_wp2_with fail
    refine (HN.out _ hr).mono ?_
    rintro e w4 ⟨⟨g, rfl, hf⟩, hb⟩
    have HM4 : Hid (Below W0.heap.size W0 w4) := Lib.hid (HM3.out.trans (hb.mono HM3.out.size))
    have HF4 := Lib.hid hf
    have HZ5 : Hid (W0.heap.size ≤ w3.heap.size) := Lib.hid HM3.out.size
    clear hb hf q0 q1 q2 q3 q4 q5
    generalize w3.heap.size = base at *
    go_wp2_with fail
    go_loopw [7] (fun i wr => ∃ (j : Nat) (x : Fed) (bv : Value), i = .int .i64 j ∧ j ≤ n ∧ Hid (FrmS wr base g bv c x) ∧ x.buf.size ≤ sizes (l.take j) ∧ x.told ≤ 1500 * j ∧ Hid (Below W0.heap.size W0 wr)) (fun i _ => n - (intOf i).toNat)
    case atStart => exact ⟨0, Fed.new, _, rfl, by omega, HF4, Nat.zero_le _, Nat.zero_le _, HM4⟩
    case round =>
      obtain ⟨j, x, bv, rfl, hj, HFX, hbuf, htold, HM8⟩ := hrel
      clear HF4 HM4
      by_cases hlt : j < n
      · have hjl : j < l.length := by rw [← hn.out]; exact hlt
        obtain ⟨cg, o, rfl, hcg, e0⟩ := (HV0.out _ HM8.out).at_ hjl
        have hst := sizes_take l j hjl
        have hst2 := sizes_take_le l (j + 1)
        obtain ⟨s, hs⟩ : ∃ s, l[j] = s := ⟨_, rfl⟩
        rw [hs] at e0 hst
        have hb1 : x.buf.size + s.size ≤ 1500 := by omega
        have HBS := Lib.hid (show x.buf.size + s.size ≤ sizes (l.take (j + 1)) by omega)
        have hci : (j : Int) < n := by omega
        have hbw : base ≤ wr.heap.size := by have := HFX.out.lt; have := HFX.out.1; omega
        have HCA : Hid (∀ V, Below W0.heap.size W0 V → V.cell? ⟨cg, o + j, none⟩ = some (.string s)) := Lib.hid (fun V hV => ((HO.out _ hV).1.cell (p := ⟨cg, o + j, none⟩) hcg).trans (((HO.out _ HM8.out).1.cell (p := ⟨cg, o + j, none⟩) hcg).symm.trans e0))
        clear hs hst hst2
        have HE1 := Lib.hid (HFE.out base g bv x s wr HFX.out hbw (by omega) (by omega))
        have HTB : Hid ((fed (wNext c) x s).1.buf.size ≤ sizes (l.take (j + 1)) ∧ (fed (wNext c) x s).1.told ≤ 1500 * (j + 1) ∧ (fed (wNext c) x s).2.1.length ≤ 1500) := Lib.hid (by
          obtain ⟨f1, f2, f3⟩ := fed_sizes c x s
          have := HBS.out
          omega)
        have hbd := fed_bounds hr x s
        have hbo := Lib.hid (fun h3 => fed_bodies hr h3 x s)
        generalize fed (wNext c) x s = X at *
        obtain ⟨y, fs, er⟩ := X
        simp only at HE1 HTB hbd hbo
        by_cases h0 : x.fault = 0
        · have hbb := hbd.2 h0
          clear hbd
          have hfb : (x.fault != 0) = false := by simp [h0]
          by_cases h1 : er = 0
          · subst h1
            have hb1' := hbb.1 rfl
            obtain ⟨MX, hMX⟩ : ∃ MX, max (wMost c) 10 = MX := ⟨_, rfl⟩
            rw [hMX] at hb1'
            have HMX := Lib.hid hMX
            clear hMX h0
            by_cases hf3 : c.fm = 3
            · have hq3 : (c.fm == 3) = true := by simp [hf3]
              obtain ⟨hly, _, _⟩ := hbb.2.2 hf3
              have HLY := Lib.hid (hly rfl)
              have HF3 := Lib.hid hf3
              clear hbb hly hf3
              -- up to the feeding
              go_wp2_with fail
              refine (frFault_c _ _ _ _ _ _ HFX.out).mono ?_
              rintro e wx ⟨rfl, rfl⟩
              go_wp2_with fail
              refine HE1.out.mono ?_
              rintro e wa ⟨rva, bva', rfl, hra, hfa, hoa, howna⟩
              obtain ⟨Aa, na, capa, rfl, hna, hnca, hcma⟩ := hra.form'
              have HMA : Hid (Below W0.heap.size W0 wa) := Lib.hid (HM8.out.trans (hoa.below HM8.out.size (fun k hk => by have := HFX.out.foot_ge k hk; have := HZ5.out; omega)))
              have HFA := Lib.hid hfa
              have HRA := Lib.hid hra
              clear hra hfa hoa howna HE1 HFX
              have hmx := HMX.out
              -- no error: what is buffered
              have HBU : Hid (∀ V, Below wa.heap.size wa V → FrmS V base g bva' c y) := Lib.hid (fun V hV => HFA.out.below hV)
              have HMO := Lib.hid (fun V => wMost_c c V)
              unfold Cfg.val at HMO
              have hge : decide (MX ≤ (y.buf.size : Int)) = false := decide_eq_false (by omega)
              generalize wMost c = M at *
              go_wp2_with fail
              refine wp_region_below (by kernel_rfl) (by kernel_rfl) ?_
              refine wpQuiet_run (.int .i64 0) (by rfl) (fun _ _ => by first | rfl | go_simp) ?_
              simp only [Act.put, List.setIfInBounds_toArray, List.set_cons_zero, List.set_cons_succ]
              refine wpQuiet_run (.bool true) (by rfl) (fun _ _ => by first | rfl | go_simp) ?_
              simp only [Act.put, List.setIfInBounds_toArray, List.set_cons_zero, List.set_cons_succ]
              refine wpQuiet_run (.bool true) (by rfl) (fun _ _ => by first | rfl | go_simp) ?_
              simp only [Act.put, List.setIfInBounds_toArray, List.set_cons_zero, List.set_cons_succ]
              refine wpQuiet_run (.pointer (some ⟨g, 0, none⟩)) (by rfl) (fun _ _ => by first | rfl | go_simp) ?_
              simp only [Act.put, List.setIfInBounds_toArray, List.set_cons_zero, List.set_cons_succ]
              refine wpQuiet_callB 40 _ _ (by rfl) (fun _ => by first | rfl | go_simp) (fun V hV => quietB (frBuffered_c _ _ _ _ _ _ (HBU.out V hV))) ?_
              simp only [Act.put, List.setIfInBounds_toArray, List.set_cons_zero, List.set_cons_succ]
              refine wpQuiet_run (.agg #[.int .i64 c.fm, .int .u32 c.mg, .int .i64 c.fr, .int .i64 c.un, .int .i64 c.de, .int .i64 c.it]) (by rfl) (fun w' hw' => by obtain ⟨q0, q1, q2, q3, q4, q5⟩ := HKV.out w' (HMA.out.trans (hw'.mono HMA.out.size)); go_simp) ?_
              simp only [Act.put, List.setIfInBounds_toArray, List.set_cons_zero, List.set_cons_succ]
              refine wpQuiet_callB 19 _ _ (by rfl) (fun _ => by first | rfl | go_simp) (fun V hV => HMO.out V) ?_
              simp only [Act.put, List.setIfInBounds_toArray, List.set_cons_zero, List.set_cons_succ]
              refine wpQuiet_run (.int .i64 MX) (by rfl) (fun _ _ => by first | rfl | go_simp) ?_
              simp only [Act.put, List.setIfInBounds_toArray, List.set_cons_zero, List.set_cons_succ]
              refine wpQuiet_run (.bool false) (by rfl) (fun _ _ => by first | rfl | go_simp) ?_
              simp only [Act.put, List.setIfInBounds_toArray, List.set_cons_zero, List.set_cons_succ]
              refine wpQuiet_run (.bool false) (by rfl) (fun _ _ => by first | rfl | go_simp) ?_
              simp only [Act.put, List.setIfInBounds_toArray, List.set_cons_zero, List.set_cons_succ]
              refine wpQuiet_nil ?_
              intro wc hwc
              have HFC := Lib.hid (HFA.out.below hwc)
              have HRC := Lib.hid (HRA.out.below hwc)
              have HMC : Hid (Below W0.heap.size W0 wc) := Lib.hid (HMA.out.trans (hwc.mono HMA.out.size))
              clear hwc HFA HRA HMA HBU HMO hge
              clear hmx
              -- the bodies are added up
              have c0 := HCA.out wc HMC.out
              obtain ⟨q0, q1, q2, q3, q4, q5⟩ := HKV.out wc HMC.out
              go_wp2_with fail
              go_loopw [11, 12] (fun lv kv wi => ∃ k : Nat, kv = .int .i64 k ∧ k ≤ na ∧ lv = .int .i64 (s.size + bodies (fs.take k) : Nat) ∧ wi = wc) (fun _ kv _ => na - (intOf kv).toNat)
              case atStart => exact ⟨0, rfl, by omega, by simp [bodies], rfl⟩
              case' round => obtain ⟨k, rfl, hk, rfl, rfl⟩ := hrel
              by_cases hkl : k < na
              case pos =>
                have hkf : k < fs.length := by rw [← hna.out]; exact hkl
                obtain ⟨bg, bo, rfl, hbg, b0, b1, b2⟩ := HRC.out.read.at_ hkf
                have hbt := bodies_take fs k hkf
                have hbl := bodies_take_le fs (k + 1)
                obtain ⟨x9, hx9⟩ : ∃ x9, fs[k] = x9 := ⟨_, rfl⟩
                rw [hx9] at b0 b1 b2 hbt
                clear hx9
                obtain ⟨x1, x2, x3⟩ := x9
                simp only at b0 b1 b2 hbt
                have HBT := Lib.hid hbt
                obtain ⟨T, hT⟩ : ∃ T, bodies (fs.take k) = T := ⟨_, rfl⟩
                have HT := Lib.hid hT
                have hTb : s.size + T + x3.size ≤ 200000000 := by have := hbo.out HF3.out; omega
                rw [hT]
                have hki : (k : Int) < na := by omega
                clear hbt hbl hT
                go_wp2
                go_roundw
                case rel => exact ⟨k + 1, by go_num, by omega, by rw [HBT.out, HT.out]; go_num, trivial⟩
                case measure => simp [intOf]; omega
              obtain rfl : k = na := by omega
              have hft : fs.take k = fs := List.take_of_length_le (by rw [← hna.out]; exact Nat.le_refl _)
              rw [hft]
              clear hft
              have hle : ((y.laid : Int) != ((s.size : Int) + bodies fs)) = false := by rw [HLY.out]; simp
              have hbb2 : s.size + bodies fs ≤ 200000000 := by have := hbo.out HF3.out; omega
              go_wp2_with fail
              refine (frMetered_c _ _ _ _ _ _ HFC.out).mono ?_
              rintro e wx ⟨rfl, rfl⟩
              go_wp2
              go_roundw
              case rel => exact ⟨j + 1, y, bva', by go_num, by omega, HFC, HTB.out.1, HTB.out.2.1, HMC⟩
              case measure => simp [intOf]; omega
            · have hq3 : (c.fm == 3) = false := beq_eq_false_iff_ne.2 hf3
              have HLY := Lib.hid (hbb.2.1 hf3)
              clear hbb hf3
              -- up to the feeding
              go_wp2_with fail
              refine (frFault_c _ _ _ _ _ _ HFX.out).mono ?_
              rintro e wx ⟨rfl, rfl⟩
              go_wp2_with fail
              refine HE1.out.mono ?_
              rintro e wa ⟨rva, bva', rfl, hra, hfa, hoa, howna⟩
              obtain ⟨Aa, na, capa, rfl, hna, hnca, hcma⟩ := hra.form'
              have HMA : Hid (Below W0.heap.size W0 wa) := Lib.hid (HM8.out.trans (hoa.below HM8.out.size (fun k hk => by have := HFX.out.foot_ge k hk; have := HZ5.out; omega)))
              have HFA := Lib.hid hfa
              have HRA := Lib.hid hra
              clear hra hfa hoa howna HE1 HFX
              have hmx := HMX.out
              -- no error: what is buffered
              have HBU : Hid (∀ V, Below wa.heap.size wa V → FrmS V base g bva' c y) := Lib.hid (fun V hV => HFA.out.below hV)
              have HMO := Lib.hid (fun V => wMost_c c V)
              unfold Cfg.val at HMO
              have hge : decide (MX ≤ (y.buf.size : Int)) = false := decide_eq_false (by omega)
              generalize wMost c = M at *
              go_wp2_with fail
              refine wp_region_below (by kernel_rfl) (by kernel_rfl) ?_
              refine wpQuiet_run (.int .i64 0) (by rfl) (fun _ _ => by first | rfl | go_simp) ?_
              simp only [Act.put, List.setIfInBounds_toArray, List.set_cons_zero, List.set_cons_succ]
              refine wpQuiet_run (.bool true) (by rfl) (fun _ _ => by first | rfl | go_simp) ?_
              simp only [Act.put, List.setIfInBounds_toArray, List.set_cons_zero, List.set_cons_succ]
              refine wpQuiet_run (.bool true) (by rfl) (fun _ _ => by first | rfl | go_simp) ?_
              simp only [Act.put, List.setIfInBounds_toArray, List.set_cons_zero, List.set_cons_succ]
              refine wpQuiet_run (.pointer (some ⟨g, 0, none⟩)) (by rfl) (fun _ _ => by first | rfl | go_simp) ?_
              simp only [Act.put, List.setIfInBounds_toArray, List.set_cons_zero, List.set_cons_succ]
              refine wpQuiet_callB 40 _ _ (by rfl) (fun _ => by first | rfl | go_simp) (fun V hV => quietB (frBuffered_c _ _ _ _ _ _ (HBU.out V hV))) ?_
              simp only [Act.put, List.setIfInBounds_toArray, List.set_cons_zero, List.set_cons_succ]
              refine wpQuiet_run (.agg #[.int .i64 c.fm, .int .u32 c.mg, .int .i64 c.fr, .int .i64 c.un, .int .i64 c.de, .int .i64 c.it]) (by rfl) (fun w' hw' => by obtain ⟨q0, q1, q2, q3, q4, q5⟩ := HKV.out w' (HMA.out.trans (hw'.mono HMA.out.size)); go_simp) ?_
              simp only [Act.put, List.setIfInBounds_toArray, List.set_cons_zero, List.set_cons_succ]
              refine wpQuiet_callB 19 _ _ (by rfl) (fun _ => by first | rfl | go_simp) (fun V hV => HMO.out V) ?_
              simp only [Act.put, List.setIfInBounds_toArray, List.set_cons_zero, List.set_cons_succ]
              refine wpQuiet_run (.int .i64 MX) (by rfl) (fun _ _ => by first | rfl | go_simp) ?_
              simp only [Act.put, List.setIfInBounds_toArray, List.set_cons_zero, List.set_cons_succ]
              refine wpQuiet_run (.bool false) (by rfl) (fun _ _ => by first | rfl | go_simp) ?_
              simp only [Act.put, List.setIfInBounds_toArray, List.set_cons_zero, List.set_cons_succ]
              refine wpQuiet_run (.bool false) (by rfl) (fun _ _ => by first | rfl | go_simp) ?_
              simp only [Act.put, List.setIfInBounds_toArray, List.set_cons_zero, List.set_cons_succ]
              refine wpQuiet_nil ?_
              intro wc hwc
              have HFC := Lib.hid (HFA.out.below hwc)
              have HRC := Lib.hid (HRA.out.below hwc)
              have HMC : Hid (Below W0.heap.size W0 wc) := Lib.hid (HMA.out.trans (hwc.mono HMA.out.size))
              clear hwc HFA HRA HMA HBU HMO hge
              clear hmx
              have hle : ((y.laid : Int) != (s.size : Int)) = false := by rw [HLY.out]; simp
              rcases Nat.eq_zero_or_pos na with hz | hz
              · subst hz
                -- nothing is added up
                have c0 := HCA.out wc HMC.out
                obtain ⟨q0, q1, q2, q3, q4, q5⟩ := HKV.out wc HMC.out
                go_wp2_with fail
                go_loopw [11, 12] (fun lv kv wi => lv = .int .i64 (s.size : Nat) ∧ kv = .int .i64 0 ∧ wi = wc) (fun _ _ _ => 0)
                case atStart => exact ⟨rfl, rfl, rfl⟩
                case' round => obtain ⟨rfl, rfl, rfl⟩ := hrel
                go_wp2_with fail
                refine (frMetered_c _ _ _ _ _ _ HFC.out).mono ?_
                rintro e wx ⟨rfl, rfl⟩
                go_wp2
                go_roundw
                case rel => exact ⟨j + 1, y, bva', by go_num, by omega, HFC, HTB.out.1, HTB.out.2.1, HMC⟩
                case measure => simp [intOf]; omega
              · have hzi : (0 : Int) < na := by omega
                -- nothing is added up
                have c0 := HCA.out wc HMC.out
                obtain ⟨q0, q1, q2, q3, q4, q5⟩ := HKV.out wc HMC.out
                go_wp2_with fail
                go_loopw [11, 12] (fun lv kv wi => lv = .int .i64 (s.size : Nat) ∧ kv = .int .i64 0 ∧ wi = wc) (fun _ _ _ => 0)
                case atStart => exact ⟨rfl, rfl, rfl⟩
                case' round => obtain ⟨rfl, rfl, rfl⟩ := hrel
                go_wp2_with fail
                refine (frMetered_c _ _ _ _ _ _ HFC.out).mono ?_
                rintro e wx ⟨rfl, rfl⟩
                go_wp2
                go_roundw
                case rel => exact ⟨j + 1, y, bva', by go_num, by omega, HFC, HTB.out.1, HTB.out.2.1, HMC⟩
                case measure => simp [intOf]; omega
          · have h1b : (er == 0) = false := beq_eq_false_iff_ne.2 h1
            clear h0
            by_cases hf3 : c.fm = 3
            · have hq3 : (c.fm == 3) = true := by simp [hf3]
              have hq4 : (c.fm != 3) = false := by simp [hf3]
              obtain ⟨_, hly1, hly2⟩ := hbb.2.2 hf3
              have HLY := Lib.hid (And.intro hly1 hly2)
              have HF3 := Lib.hid hf3
              clear hbb hly1 hly2 hf3
              -- up to the feeding
              go_wp2_with fail
              refine (frFault_c _ _ _ _ _ _ HFX.out).mono ?_
              rintro e wx ⟨rfl, rfl⟩
              go_wp2_with fail
              refine HE1.out.mono ?_
              rintro e wa ⟨rva, bva', rfl, hra, hfa, hoa, howna⟩
              obtain ⟨Aa, na, capa, rfl, hna, hnca, hcma⟩ := hra.form'
              have HMA : Hid (Below W0.heap.size W0 wa) := Lib.hid (HM8.out.trans (hoa.below HM8.out.size (fun k hk => by have := HFX.out.foot_ge k hk; have := HZ5.out; omega)))
              have HFA := Lib.hid hfa
              have HRA := Lib.hid hra
              clear hra hfa hoa howna HE1 HFX
              -- an error
              go_wp2_with fail
              go_quiet (fail)
              have HFC := Lib.hid (HFA.out.below (Below.drewN' (Below.refl _ _) nq))
              have HRC := Lib.hid (HRA.out.below (Below.drewN' (Below.refl _ _) nq))
              have HMC : Hid (Below W0.heap.size W0 (wa.drewN nq)) := Lib.hid (HMA.out.drewN' nq)
              clear HFA HRA HMA
              generalize wa.drewN nq = wc at *
              -- the bodies are added up
              have c0 := HCA.out wc HMC.out
              obtain ⟨q0, q1, q2, q3, q4, q5⟩ := HKV.out wc HMC.out
              go_wp2_with fail
              go_loopw [11, 12] (fun lv kv wi => ∃ k : Nat, kv = .int .i64 k ∧ k ≤ na ∧ lv = .int .i64 (s.size + bodies (fs.take k) : Nat) ∧ wi = wc) (fun _ kv _ => na - (intOf kv).toNat)
              case atStart => exact ⟨0, rfl, by omega, by simp [bodies], rfl⟩
              case' round => obtain ⟨k, rfl, hk, rfl, rfl⟩ := hrel
              by_cases hkl : k < na
              case pos =>
                have hkf : k < fs.length := by rw [← hna.out]; exact hkl
                obtain ⟨bg, bo, rfl, hbg, b0, b1, b2⟩ := HRC.out.read.at_ hkf
                have hbt := bodies_take fs k hkf
                have hbl := bodies_take_le fs (k + 1)
                obtain ⟨x9, hx9⟩ : ∃ x9, fs[k] = x9 := ⟨_, rfl⟩
                rw [hx9] at b0 b1 b2 hbt
                clear hx9
                obtain ⟨x1, x2, x3⟩ := x9
                simp only at b0 b1 b2 hbt
                have HBT := Lib.hid hbt
                obtain ⟨T, hT⟩ : ∃ T, bodies (fs.take k) = T := ⟨_, rfl⟩
                have HT := Lib.hid hT
                have hTb : s.size + T + x3.size ≤ 200000000 := by have := hbo.out HF3.out; omega
                rw [hT]
                have hki : (k : Int) < na := by omega
                clear hbt hbl hT
                go_wp2
                go_roundw
                case rel => exact ⟨k + 1, by go_num, by omega, by rw [HBT.out, HT.out]; go_num, trivial⟩
                case measure => simp [intOf]; omega
              obtain rfl : k = na := by omega
              have hft : fs.take k = fs := List.take_of_length_le (by rw [← hna.out]; exact Nat.le_refl _)
              rw [hft]
              clear hft
              have hbb2 : s.size + bodies fs ≤ 200000000 := by have := hbo.out HF3.out; omega
              obtain ⟨L, hL⟩ : ∃ L : Nat, s.size + bodies fs = L := ⟨_, rfl⟩
              have hLi : (s.size : Int) + bodies fs = (L : Int) := by omega
              obtain ⟨hly1, hly2⟩ := HLY.out
              have hu := (c.right_iff).1 hr
              have hd1 : decide ((y.laid : Int) < (L : Int)) = false := decide_eq_false (by omega)
              have hd2 : decide ((L : Int) + c.un < (y.laid : Int)) = false := decide_eq_false (by omega)
              have hwr : IntKind.i64.wrap ((L : Int) + c.un) = (L : Int) + c.un := IntWalk.i64_in _ (by omega)
              have hn1 : L ≤ y.laid := by omega
              have hn2 : (y.laid : Int) ≤ (L : Int) + c.un := by omega
              have HLI := Lib.hid hLi
              clear hL hly1 hly2 hu hbb2
              have HBU : Hid (∀ V, Below wr.heap.size wr V → FrmS V base g bva' c y) := Lib.hid (fun V hV => HFC.out.below hV)
              have HWL := Lib.hid (And.intro hwr (And.intro hd1 (And.intro hd2 (And.intro hn1 hn2))))
              clear hwr hd1 hd2 hn1 hn2
              rw [show ((s.size + bodies fs : Nat) : Int) = (L : Int) from by omega]
              clear hLi
              go_wp2_with fail
              refine wp_region_below (by kernel_rfl) (by kernel_rfl) ?_
              obtain ⟨hwr, hd1, hd2, hn1, hn2⟩ := HWL.out
              refine wpQuiet_run (.pointer (some ⟨g, 0, none⟩)) (by rfl) (fun _ _ => by first | rfl | go_simp) ?_
              simp only [Act.put, List.setIfInBounds_toArray, List.set_cons_zero, List.set_cons_succ]
              refine wpQuiet_callB 41 _ _ (by rfl) (fun _ => by first | rfl | go_simp) (fun V hV => quietB (frMetered_c _ _ _ _ _ _ (HBU.out V hV))) ?_
              simp only [Act.put, List.setIfInBounds_toArray, List.set_cons_zero, List.set_cons_succ]
              refine wpQuiet_run (.int .i64 (L : Nat)) (by rfl) (fun _ _ => by first | rfl | go_simp) ?_
              simp only [Act.put, List.setIfInBounds_toArray, List.set_cons_zero, List.set_cons_succ]
              refine wpQuiet_run (.bool false) (by rfl) (fun _ _ => by first | rfl | go_simp) ?_
              simp only [Act.put, List.setIfInBounds_toArray, List.set_cons_zero, List.set_cons_succ]
              refine wpQuiet_run (.bool false) (by rfl) (fun _ _ => by first | rfl | go_simp) ?_
              simp only [Act.put, List.setIfInBounds_toArray, List.set_cons_zero, List.set_cons_succ]
              refine wpQuiet_run (.pointer (some ⟨g, 0, none⟩)) (by rfl) (fun _ _ => by first | rfl | go_simp) ?_
              simp only [Act.put, List.setIfInBounds_toArray, List.set_cons_zero, List.set_cons_succ]
              refine wpQuiet_callB 41 _ _ (by rfl) (fun _ => by first | rfl | go_simp) (fun V hV => quietB (frMetered_c _ _ _ _ _ _ (HBU.out V hV))) ?_
              simp only [Act.put, List.setIfInBounds_toArray, List.set_cons_zero, List.set_cons_succ]
              refine wpQuiet_run (.int .i64 (L : Nat)) (by rfl) (fun _ _ => by first | rfl | go_simp) ?_
              simp only [Act.put, List.setIfInBounds_toArray, List.set_cons_zero, List.set_cons_succ]
              refine wpQuiet_run (.pointer (some ⟨w.heap.size, 3, none⟩)) (by rfl) (fun _ _ => by first | rfl | go_simp) ?_
              simp only [Act.put, List.setIfInBounds_toArray, List.set_cons_zero, List.set_cons_succ]
              refine wpQuiet_run (.int .i64 c.un) (by rfl) (fun w' hw' => by obtain ⟨q0, q1, q2, q3, q4, q5⟩ := HKV.out w' (HMC.out.trans (hw'.mono HMC.out.size)); go_simp) ?_
              simp only [Act.put, List.setIfInBounds_toArray, List.set_cons_zero, List.set_cons_succ]
              refine wpQuiet_run (.int .i64 ((L : Int) + c.un)) (by rfl) (fun _ _ => by first | rfl | go_simp) ?_
              simp only [Act.put, List.setIfInBounds_toArray, List.set_cons_zero, List.set_cons_succ]
              refine wpQuiet_run (.bool false) (by rfl) (fun _ _ => by first | rfl | go_simp) ?_
              simp only [Act.put, List.setIfInBounds_toArray, List.set_cons_zero, List.set_cons_succ]
              refine wpQuiet_run (.bool false) (by rfl) (fun _ _ => by first | rfl | go_simp) ?_
              simp only [Act.put, List.setIfInBounds_toArray, List.set_cons_zero, List.set_cons_succ]
              refine wpQuiet_nil ?_
              intro wd hwd
              have HFD := Lib.hid (HFC.out.below hwd)
              have HMD : Hid (Below W0.heap.size W0 wd) := Lib.hid (HMC.out.trans (hwd.mono HMC.out.size))
              clear hwd HBU hwr hd1 hd2 hn1 hn2
              go_wp2
              go_roundw
              case rel => exact ⟨j + 1, y, bva', by go_num, by omega, HFD, HTB.out.1, HTB.out.2.1, HMD⟩
              case measure => simp [intOf]; omega
            · have hq3 : (c.fm == 3) = false := beq_eq_false_iff_ne.2 hf3
              have hq4 : (c.fm != 3) = true := bne_iff_ne.2 hf3
              have HLY := Lib.hid (hbb.2.1 hf3)
              clear hbb hf3
              -- up to the feeding
              go_wp2_with fail
              refine (frFault_c _ _ _ _ _ _ HFX.out).mono ?_
              rintro e wx ⟨rfl, rfl⟩
              go_wp2_with fail
              refine HE1.out.mono ?_
              rintro e wa ⟨rva, bva', rfl, hra, hfa, hoa, howna⟩
              obtain ⟨Aa, na, capa, rfl, hna, hnca, hcma⟩ := hra.form'
              have HMA : Hid (Below W0.heap.size W0 wa) := Lib.hid (HM8.out.trans (hoa.below HM8.out.size (fun k hk => by have := HFX.out.foot_ge k hk; have := HZ5.out; omega)))
              have HFA := Lib.hid hfa
              have HRA := Lib.hid hra
              clear hra hfa hoa howna HE1 HFX
              -- an error
              go_wp2_with fail
              go_quiet (fail)
              have HFC := Lib.hid (HFA.out.below (Below.drewN' (Below.refl _ _) nq))
              have HRC := Lib.hid (HRA.out.below (Below.drewN' (Below.refl _ _) nq))
              have HMC : Hid (Below W0.heap.size W0 (wa.drewN nq)) := Lib.hid (HMA.out.drewN' nq)
              clear HFA HRA HMA
              generalize wa.drewN nq = wc at *
              have hle : ((y.laid : Int) != (s.size : Int)) = false := by rw [HLY.out]; simp
              rcases Nat.eq_zero_or_pos na with hz | hz
              · subst hz
                -- nothing is added up
                have c0 := HCA.out wc HMC.out
                obtain ⟨q0, q1, q2, q3, q4, q5⟩ := HKV.out wc HMC.out
                go_wp2_with fail
                go_loopw [11, 12] (fun lv kv wi => lv = .int .i64 (s.size : Nat) ∧ kv = .int .i64 0 ∧ wi = wc) (fun _ _ _ => 0)
                case atStart => exact ⟨rfl, rfl, rfl⟩
                case' round => obtain ⟨rfl, rfl, rfl⟩ := hrel
                go_wp2_with fail
                refine (frMetered_c _ _ _ _ _ _ HFC.out).mono ?_
                rintro e wx ⟨rfl, rfl⟩
                go_wp2
                go_roundw
                case rel => exact ⟨j + 1, y, bva', by go_num, by omega, HFC, HTB.out.1, HTB.out.2.1, HMC⟩
                case measure => simp [intOf]; omega
              · have hzi : (0 : Int) < na := by omega
                -- nothing is added up
                have c0 := HCA.out wc HMC.out
                obtain ⟨q0, q1, q2, q3, q4, q5⟩ := HKV.out wc HMC.out
                go_wp2_with fail
                go_loopw [11, 12] (fun lv kv wi => lv = .int .i64 (s.size : Nat) ∧ kv = .int .i64 0 ∧ wi = wc) (fun _ _ _ => 0)
                case atStart => exact ⟨rfl, rfl, rfl⟩
                case' round => obtain ⟨rfl, rfl, rfl⟩ := hrel
                go_wp2_with fail
                refine (frMetered_c _ _ _ _ _ _ HFC.out).mono ?_
                rintro e wx ⟨rfl, rfl⟩
                go_wp2
                go_roundw
                case rel => exact ⟨j + 1, y, bva', by go_num, by omega, HFC, HTB.out.1, HTB.out.2.1, HMC⟩
                case measure => simp [intOf]; omega
        · obtain ⟨rfl, rfl, hl0⟩ := hbd.1 h0
          clear hbd
          have hfb : (x.fault != 0) = true := bne_iff_ne.2 h0
          have hfe : (x.fault == 0) = false := beq_eq_false_iff_ne.2 h0
          -- up to the feeding
          go_wp2_with fail
          refine (frFault_c _ _ _ _ _ _ HFX.out).mono ?_
          rintro e wx ⟨rfl, rfl⟩
          go_wp2_with fail
          refine HE1.out.mono ?_
          rintro e wa ⟨rva, bva', rfl, hra, hfa, hoa, howna⟩
          obtain ⟨Aa, na, capa, rfl, hna, hnca, hcma⟩ := hra.form'
          have HMA : Hid (Below W0.heap.size W0 wa) := Lib.hid (HM8.out.trans (hoa.below HM8.out.size (fun k hk => by have := HFX.out.foot_ge k hk; have := HZ5.out; omega)))
          have HFA := Lib.hid hfa
          have HRA := Lib.hid hra
          clear hra hfa hoa howna HE1 HFX
          -- an error
          go_wp2_with fail
          go_quiet (fail)
          have HFC := Lib.hid (HFA.out.below (Below.drewN' (Below.refl _ _) nq))
          have HRC := Lib.hid (HRA.out.below (Below.drewN' (Below.refl _ _) nq))
          have HMC : Hid (Below W0.heap.size W0 (wa.drewN nq)) := Lib.hid (HMA.out.drewN' nq)
          clear HFA HRA HMA
          generalize wa.drewN nq = wc at *
          obtain rfl : na = 0 := hna.out
          have hly : ((y.laid : Int) != 0) = false := by rw [hl0]; rfl
          clear hl0
          -- nothing is added up
          have c0 := HCA.out wc HMC.out
          obtain ⟨q0, q1, q2, q3, q4, q5⟩ := HKV.out wc HMC.out
          go_wp2_with fail
          go_loopw [11, 12] (fun lv kv wi => lv = .int .i64 (s.size : Nat) ∧ kv = .int .i64 0 ∧ wi = wc) (fun _ _ _ => 0)
          case atStart => exact ⟨rfl, rfl, rfl⟩
          case' round => obtain ⟨rfl, rfl, rfl⟩ := hrel
          go_wp2_with fail
          refine (frMetered_c _ _ _ _ _ _ HFC.out).mono ?_
          rintro e wx ⟨rfl, rfl⟩
          go_wp2
          go_roundw
          case rel => exact ⟨j + 1, y, bva', by go_num, by omega, HFC, HTB.out.1, HTB.out.2.1, HMC⟩
          case measure => simp [intOf]; omega
      · obtain rfl : j = n := by omega
        go_wp2
        go_ret
        exact ⟨rfl, (HO.out _ HM8.out).1⟩
theorem framerBounds_row (c : Cfg) (l : List ByteArray) (v : Value) (w : World) (hc : c.ok) (hv : StR w w.heap.size v l ∧ ∀ s ∈ l, s.size ≤ 9223372036854775807) :
    Calls Tryz.prog 10 #[c.val, v] w fun e w' => e = .returned (.bool true) ∧ Below w.heap.size w w' := framerBounds_w c l v w hc hv.1 hv.2
end Go.Proofs.YtebllmpdlapefaaGreatDoor
