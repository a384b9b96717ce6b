/- FramerEmpty: chunks without a byte change nothing, but what was laid last. -/
import Derived.Test.YtebllmpdlapefaaGreatDoorKA38
namespace Go.Proofs.YtebllmpdlapefaaGreatDoor
set_option linter.unusedVariables false
set_option linter.unusedSimpArgs false
open Go.RowKit


theorem FrmS.lower {w : World} {base base' g : Nat} {bv : Value} {c : Cfg} {x : Fed} (h : FrmS w base g bv c x) (hb : base' ≤ base) : FrmS w base' g bv c x := by
  obtain ⟨h0, nd, h1, h2, h3⟩ := h
  exact ⟨by omega, nd, h1, h2.mono hb, h3⟩
set_option maxRecDepth 100000 in
set_option maxHeartbeats 4000000 in
theorem framerEmpty_w (c : Cfg) (l : List ByteArray) (v : Value) (at_ : Nat) (w : World) (hc : c.ok) (hv : StR w w.heap.size v l) (hl : ∀ s ∈ l, s.size ≤ 9223372036854775807) (hat : at_ < 256) :
    Calls Tryz.prog 11 #[c.val, v, .int .u8 at_] w fun e w' => e = .returned (.bool true) ∧ Below w.heap.size w w' := by
  obtain ⟨A, n, cap, rfl, hn, hnc, hcm⟩ := hv.form'
  have HV := Lib.hid hv
  clear hv
  have hwr : IntKind.i64.wrap (at_ : Int) = at_ := IntWalk.i64_in _ (by omega)
  have HR := Lib.hid (fun V => refRight19_c c V)
  have HN := Lib.hid (fun V hr => frNew_c c V hr)
  cases hgr : (decide (200 < l.length) || decide (1500 < min (sizes l) 10000)) with
  | true =>
    unfold Cfg.val at *
    obtain ⟨W0, hW0⟩ : ∃ W0, w.alloc (.cells #[.int .i64 c.fm, .int .u32 c.mg, .int .i64 c.fr, .int .i64 c.un, .int .i64 c.de, .int .i64 c.it] 24) = W0 := ⟨_, rfl⟩
    have hz : W0.heap.size = w.heap.size + 1 := by rw [← hW0]; simp
    have hB : Blk W0 w.heap.size 24 #[.int .i64 c.fm, .int .u32 c.mg, .int .i64 c.fr, .int .i64 c.un, .int .i64 c.de, .int .i64 c.it] := by rw [← hW0]; exact Blk.new w _ _
    have HO : Hid (∀ V, Below W0.heap.size W0 V → Below w.heap.size w V ∧ w.heap.size + 1 ≤ V.heap.size) := Lib.hid (fun V hV => by
      have h1 : Below w.heap.size w W0 := by rw [← hW0]; exact (by repeat (first | exact Below.refl _ _ | assumption | with_reducible refine Below.drewN' ?_ _ | with_reducible refine Below.drew ?_ | ((with_reducible refine Below.alloc' ?_ ?_ _); · (first | omega | (simp <;> omega)))))
      exact ⟨h1.trans (hV.mono (by omega)), by have := hV.size; omega⟩)
    have HKB : Hid (∀ V, Below W0.heap.size W0 V → Blk V w.heap.size 24 #[.int .i64 c.fm, .int .u32 c.mg, .int .i64 c.fr, .int .i64 c.un, .int .i64 c.de, .int .i64 c.it]) := Lib.hid (fun V hV => hB.keep hV (by omega))
    have HKV : Hid (∀ V, Below W0.heap.size W0 V → V.cell? ⟨w.heap.size, 0, none⟩ = some (.int .i64 c.fm) ∧ V.cell? ⟨w.heap.size, 1, none⟩ = some (.int .u32 c.mg) ∧ V.cell? ⟨w.heap.size, 2, none⟩ = some (.int .i64 c.fr) ∧ V.cell? ⟨w.heap.size, 3, none⟩ = some (.int .i64 c.un) ∧ V.cell? ⟨w.heap.size, 4, none⟩ = some (.int .i64 c.de) ∧ V.cell? ⟨w.heap.size, 5, none⟩ = some (.int .i64 c.it)) := Lib.hid (fun V hV => by
      have hB := hB.keep hV (by omega)
      exact ⟨hB.cell 0, hB.cell 1, hB.cell 2, hB.cell 3, hB.cell 4, hB.cell 5⟩)
    have HW0 := Lib.hid hW0
    have HV0 : Hid (∀ V, Below W0.heap.size W0 V → StR V w.heap.size (.slice A n cap) l) := Lib.hid (fun V hV => HV.out.below (HO.out V hV).1)
    clear hW0 hB hz HV
    go_enter Tryz.func11, Tryz.ntmps11
    go_wp2_with fail
    rw [HW0.out]
    refine (frAlive _).mono ?_
    rintro e w1 ⟨rfl, hb⟩
    have HM1 : Hid (Below W0.heap.size W0 w1) := Lib.hid hb
    clear hb
    have HG1 := Lib.hid (great19_c l (.slice A n cap) w.heap.size w1 (HV0.out _ HM1.out) (by have := (HO.out _ HM1.out).2; omega) hl)
    obtain ⟨q0, q1, q2, q3, q4, q5⟩ := HKV.out w1 HM1.out
    rw [hgr] at HG1
    go_wp2_with fail
    refine HG1.out.mono ?_
    rintro e w2 ⟨rfl, hb⟩
    have HM2 : Hid (Below W0.heap.size W0 w2) := Lib.hid (HM1.out.trans (hb.mono HM1.out.size))
    clear hb HG1
    clear q0 q1 q2 q3 q4 q5
    obtain ⟨q0, q1, q2, q3, q4, q5⟩ := HKV.out w2 HM2.out
    go_wp2
    go_ret
    exact ⟨rfl, (HO.out _ HM2.out).1⟩
  | false =>
  have hgr' := hgr
  simp at hgr'
  obtain ⟨hl200, hsz⟩ := hgr'
  have hsz : sizes l ≤ 1500 := by omega
  cases hr : c.right with
  | false =>
    rw [hr] at HR
    unfold Cfg.val at *
    obtain ⟨W0, hW0⟩ : ∃ W0, w.alloc (.cells #[.int .i64 c.fm, .int .u32 c.mg, .int .i64 c.fr, .int .i64 c.un, .int .i64 c.de, .int .i64 c.it] 24) = W0 := ⟨_, rfl⟩
    have hz : W0.heap.size = w.heap.size + 1 := by rw [← hW0]; simp
    have hB : Blk W0 w.heap.size 24 #[.int .i64 c.fm, .int .u32 c.mg, .int .i64 c.fr, .int .i64 c.un, .int .i64 c.de, .int .i64 c.it] := by rw [← hW0]; exact Blk.new w _ _
    have HO : Hid (∀ V, Below W0.heap.size W0 V → Below w.heap.size w V ∧ w.heap.size + 1 ≤ V.heap.size) := Lib.hid (fun V hV => by
      have h1 : Below w.heap.size w W0 := by rw [← hW0]; exact (by repeat (first | exact Below.refl _ _ | assumption | with_reducible refine Below.drewN' ?_ _ | with_reducible refine Below.drew ?_ | ((with_reducible refine Below.alloc' ?_ ?_ _); · (first | omega | (simp <;> omega)))))
      exact ⟨h1.trans (hV.mono (by omega)), by have := hV.size; omega⟩)
    have HKB : Hid (∀ V, Below W0.heap.size W0 V → Blk V w.heap.size 24 #[.int .i64 c.fm, .int .u32 c.mg, .int .i64 c.fr, .int .i64 c.un, .int .i64 c.de, .int .i64 c.it]) := Lib.hid (fun V hV => hB.keep hV (by omega))
    have HKV : Hid (∀ V, Below W0.heap.size W0 V → V.cell? ⟨w.heap.size, 0, none⟩ = some (.int .i64 c.fm) ∧ V.cell? ⟨w.heap.size, 1, none⟩ = some (.int .u32 c.mg) ∧ V.cell? ⟨w.heap.size, 2, none⟩ = some (.int .i64 c.fr) ∧ V.cell? ⟨w.heap.size, 3, none⟩ = some (.int .i64 c.un) ∧ V.cell? ⟨w.heap.size, 4, none⟩ = some (.int .i64 c.de) ∧ V.cell? ⟨w.heap.size, 5, none⟩ = some (.int .i64 c.it)) := Lib.hid (fun V hV => by
      have hB := hB.keep hV (by omega)
      exact ⟨hB.cell 0, hB.cell 1, hB.cell 2, hB.cell 3, hB.cell 4, hB.cell 5⟩)
    have HW0 := Lib.hid hW0
    have HV0 : Hid (∀ V, Below W0.heap.size W0 V → StR V w.heap.size (.slice A n cap) l) := Lib.hid (fun V hV => HV.out.below (HO.out V hV).1)
    clear hW0 hB hz HV
    go_enter Tryz.func11, Tryz.ntmps11
    go_wp2_with fail
    rw [HW0.out]
    refine (frAlive _).mono ?_
    rintro e w1 ⟨rfl, hb⟩
    have HM1 : Hid (Below W0.heap.size W0 w1) := Lib.hid hb
    clear hb
    have HG1 := Lib.hid (great19_c l (.slice A n cap) w.heap.size w1 (HV0.out _ HM1.out) (by have := (HO.out _ HM1.out).2; omega) hl)
    obtain ⟨q0, q1, q2, q3, q4, q5⟩ := HKV.out w1 HM1.out
    rw [hgr] at HG1
    go_wp2_with fail
    refine HG1.out.mono ?_
    rintro e w2 ⟨rfl, hb⟩
    have HM2 : Hid (Below W0.heap.size W0 w2) := Lib.hid (HM1.out.trans (hb.mono HM1.out.size))
    clear hb HG1
    clear q0 q1 q2 q3 q4 q5
    obtain ⟨q0, q1, q2, q3, q4, q5⟩ := HKV.out w2 HM2.out
    go_wp2_with fail
    refine (HR.out _).mono ?_
    rintro e w3 ⟨rfl, hb⟩
    have HM3 : Hid (Below W0.heap.size W0 w3) := Lib.hid (HM2.out.trans (hb.mono HM2.out.size))
    clear hb
    clear q0 q1 q2 q3 q4 q5
    obtain ⟨q0, q1, q2, q3, q4, q5⟩ := HKV.out w3 HM3.out
    go_wp2
    go_ret
    exact ⟨rfl, (HO.out _ HM3.out).1⟩
  | true =>
    rw [hr] at HR
    have HFE := Lib.hid (fun base g bv x s V h1 h2 h3 h4 => frFeed_c base g bv c x s V hr hc h1 h2 h3 h4)
    unfold Cfg.val at *
    obtain ⟨W0, hW0⟩ : ∃ W0, w.alloc (.cells #[.int .i64 c.fm, .int .u32 c.mg, .int .i64 c.fr, .int .i64 c.un, .int .i64 c.de, .int .i64 c.it] 24) = W0 := ⟨_, rfl⟩
    have hz : W0.heap.size = w.heap.size + 1 := by rw [← hW0]; simp
    have hB : Blk W0 w.heap.size 24 #[.int .i64 c.fm, .int .u32 c.mg, .int .i64 c.fr, .int .i64 c.un, .int .i64 c.de, .int .i64 c.it] := by rw [← hW0]; exact Blk.new w _ _
    have HO : Hid (∀ V, Below W0.heap.size W0 V → Below w.heap.size w V ∧ w.heap.size + 1 ≤ V.heap.size) := Lib.hid (fun V hV => by
      have h1 : Below w.heap.size w W0 := by rw [← hW0]; exact (by repeat (first | exact Below.refl _ _ | assumption | with_reducible refine Below.drewN' ?_ _ | with_reducible refine Below.drew ?_ | ((with_reducible refine Below.alloc' ?_ ?_ _); · (first | omega | (simp <;> omega)))))
      exact ⟨h1.trans (hV.mono (by omega)), by have := hV.size; omega⟩)
    have HKB : Hid (∀ V, Below W0.heap.size W0 V → Blk V w.heap.size 24 #[.int .i64 c.fm, .int .u32 c.mg, .int .i64 c.fr, .int .i64 c.un, .int .i64 c.de, .int .i64 c.it]) := Lib.hid (fun V hV => hB.keep hV (by omega))
    have HKV : Hid (∀ V, Below W0.heap.size W0 V → V.cell? ⟨w.heap.size, 0, none⟩ = some (.int .i64 c.fm) ∧ V.cell? ⟨w.heap.size, 1, none⟩ = some (.int .u32 c.mg) ∧ V.cell? ⟨w.heap.size, 2, none⟩ = some (.int .i64 c.fr) ∧ V.cell? ⟨w.heap.size, 3, none⟩ = some (.int .i64 c.un) ∧ V.cell? ⟨w.heap.size, 4, none⟩ = some (.int .i64 c.de) ∧ V.cell? ⟨w.heap.size, 5, none⟩ = some (.int .i64 c.it)) := Lib.hid (fun V hV => by
      have hB := hB.keep hV (by omega)
      exact ⟨hB.cell 0, hB.cell 1, hB.cell 2, hB.cell 3, hB.cell 4, hB.cell 5⟩)
    have HW0 := Lib.hid hW0
    have HV0 : Hid (∀ V, Below W0.heap.size W0 V → StR V w.heap.size (.slice A n cap) l) := Lib.hid (fun V hV => HV.out.below (HO.out V hV).1)
    clear hW0 hB hz HV
    go_enter Tryz.func11, Tryz.ntmps11
    go_wp2_with fail
    rw [HW0.out]
    refine (frAlive _).mono ?_
    rintro e w1 ⟨rfl, hb⟩
    have HM1 : Hid (Below W0.heap.size W0 w1) := Lib.hid hb
    clear hb
    have HG1 := Lib.hid (great19_c l (.slice A n cap) w.heap.size w1 (HV0.out _ HM1.out) (by have := (HO.out _ HM1.out).2; omega) hl)
    obtain ⟨q0, q1, q2, q3, q4, q5⟩ := HKV.out w1 HM1.out
    rw [hgr] at HG1
    go_wp2_with fail
    refine HG1.out.mono ?_
    rintro e w2 ⟨rfl, hb⟩
    have HM2 : Hid (Below W0.heap.size W0 w2) := Lib.hid (HM1.out.trans (hb.mono HM1.out.size))
    clear hb HG1
    clear q0 q1 q2 q3 q4 q5
    obtain ⟨q0, q1, q2, q3, q4, q5⟩ := HKV.out w2 HM2.out
    go_wp2_with fail
    refine (HR.out _).mono ?_
    rintro e w3 ⟨rfl, hb⟩
    have HM3 : Hid (Below W0.heap.size W0 w3) := Lib.hid (HM2.out.trans (hb.mono HM2.out.size))
    clear hb
    clear q0 q1 q2 q3 q4 q5
    obtain ⟨q0, q1, q2, q3, q4, q5⟩ := HKV.out w3 HM3.out
    go_wp2_with fail
    refine (HN.out _ hr).mono ?_
    rintro e w4 ⟨⟨ga, rfl, hfa⟩, hb⟩
    have HM4 : Hid (Below W0.heap.size W0 w4) := Lib.hid (HM3.out.trans (hb.mono HM3.out.size))
    have HFA4 := Lib.hid hfa
    clear hb hfa
    clear q0 q1 q2 q3 q4 q5
    obtain ⟨q0, q1, q2, q3, q4, q5⟩ := HKV.out w4 HM4.out
    go_wp2_with fail
    refine (HN.out _ hr).mono ?_
    rintro e w5 ⟨⟨gb, rfl, hfb⟩, hb⟩
    have HM5 : Hid (Below W0.heap.size W0 w5) := Lib.hid (HM4.out.trans (hb.mono HM4.out.size))
    have HFA5 := Lib.hid (HFA4.out.below hb)
    have HFB5 := Lib.hid (hfb.lower (base' := w3.heap.size) (by have := HFA4.out.lt; have := HFA4.out.1; omega))
    have HD5 : Hid (∀ k, k ∈ foot ga (.slice none 0 0) → k ∉ foot gb (.slice none 0 0)) := Lib.hid (by
      intro k h1 h2
      have h3 := (HFA4.out.foot_ge k h1).2
      have h4 := (hfb.foot_ge k h2).1
      omega)
    have HZ5 : Hid (W0.heap.size ≤ w3.heap.size) := Lib.hid HM3.out.size
    clear hb hfb HFA4 q0 q1 q2 q3 q4 q5
    generalize w3.heap.size = base at *
    go_wp2_with fail
    go_loopw [11] (fun i wr => ∃ (j : Nat) (x : Fed) (ld : Nat) (bva bvb : Value), i = .int .i64 j ∧ j ≤ n ∧ Hid (FrmS wr base ga bva c x) ∧ Hid (FrmS wr base gb bvb c { x with laid := ld }) ∧ Hid (∀ k, k ∈ foot ga bva → k ∉ foot gb bvb) ∧ x.buf.size ≤ sizes (l.take j) ∧ x.told ≤ 1500 * j ∧ Hid (FedShort (wNext c) x) ∧ Hid (Below W0.heap.size W0 wr)) (fun i _ => n - (intOf i).toNat)
    case atStart => exact ⟨0, Fed.new, 0, _, _, rfl, by omega, HFA5, HFB5, HD5, Nat.zero_le _, Nat.zero_le _, Lib.hid (FedShort.new (wNext_none hr)), HM5⟩
    case round =>
      obtain ⟨j, x, ld, bva, bvb, rfl, hj, HFA, HFB, HD, hbuf, htold, HSH, HM8⟩ := hrel
      clear HFA5 HFB5 HD5 HM5
      by_cases hlt : j < n
      · have hjl : j < l.length := by rw [← hn.out]; exact hlt
        obtain ⟨cg, o, rfl, hcg, e0⟩ := (HV0.out _ HM8.out).at_ hjl
        have hst := sizes_take l j hjl
        have hst2 := sizes_take_le l (j + 1)
        obtain ⟨s, hs⟩ : ∃ s, l[j] = s := ⟨_, rfl⟩
        rw [hs] at e0 hst
        have hb1 : x.buf.size + s.size ≤ 1500 := by omega
        have HBS := Lib.hid (show x.buf.size + s.size ≤ sizes (l.take (j + 1)) by omega)
        have hci : (j : Int) < n := by omega
        have hbw : base ≤ wr.heap.size := by have := HFA.out.lt; have := HFA.out.1; omega
        have HCA : Hid (∀ V, Below W0.heap.size W0 V → V.cell? ⟨cg, o + j, none⟩ = some (.string s)) := Lib.hid (fun V hV => ((HO.out _ hV).1.cell (p := ⟨cg, o + j, none⟩) hcg).trans (((HO.out _ HM8.out).1.cell (p := ⟨cg, o + j, none⟩) hcg).symm.trans e0))
        clear hs hst hst2
        by_cases hja : j = at_
        · subst hja
          have hje : ((j : Int) == (j : Int)) = true := by simp
          have HE0 := Lib.hid (HFE.out base gb bvb { x with laid := ld } ⟨#[]⟩ wr HFB.out hbw (by show x.buf.size + 0 ≤ 100000; omega) (by show x.told ≤ _; omega))
          rw [fed_laid, show (⟨#[]⟩ : ByteArray) = ByteArray.empty from rfl, fed_none (wNext_ok c) HSH.out] at HE0
          simp only at HE0
          go_wp2_with fail
          refine HE0.out.mono ?_
          rintro e w6 ⟨rv, bvb', rfl, hr6, hf6, ho6, hown6⟩
          obtain ⟨A6, n6, cap6, rfl, hn6, hnc6, hcm6⟩ := hr6.form'
          obtain rfl : n6 = 0 := hn6.out
          have HFA6 : Hid (FrmS w6 base ga bva c x) := Lib.hid (HFA.out.only ho6 (fun k hk => HD.out k (mem_foot.2 hk)))
          have HFB6 := Lib.hid hf6
          have HD6 : Hid (∀ k, k ∈ foot ga bva → k ∉ foot gb bvb') := Lib.hid (fun k h1 h2 => by
            rcases mem_foot.1 h2 with h3 | h3
            · exact HD.out k h1 (mem_foot.2 (.inl h3))
            · rcases hown6 k h3 with h4 | h4
              · exact HD.out k h1 (mem_foot.2 (.inr h4))
              · have := (HFA.out.foot_ge k h1).2; omega)
          have HM6 : Hid (Below W0.heap.size W0 w6) := Lib.hid (HM8.out.trans (ho6.below HM8.out.size (fun k hk => by have := HFB.out.foot_ge k hk; have := HZ5.out; omega)))
          have hzw := ho6.size
          have hbw : base ≤ w6.heap.size := by omega
          have hxe : (x.fault != x.fault) = false := by simp
          clear hr6 hf6 ho6 hown6 hn6 HFA HFB HD HM8 HE0 e0
          go_wp2_with fail
          refine (frFault_c _ _ _ _ _ _ HFB6.out).mono ?_
          rintro e w7 ⟨rfl, rfl⟩
          go_wp2_with fail
          refine (show Calls Tryz.prog 41 #[.pointer (some ⟨gb, 0, none⟩)] w6 fun e w' => e = .returned (.int .i64 0) ∧ w6 = w' from frMetered_c _ _ _ _ _ _ HFB6.out).mono ?_
          rintro e w7 ⟨rfl, rfl⟩
          have HQA := HFA6
          have HQB := HFB6
          have HQD := HD6
          have HQM := HM6
          clear HFA6 HFB6 HD6 HM6
          have HE1 := Lib.hid (HFE.out base ga bva x s w6 HQA.out hbw (by omega) (by omega))
          have HTB : Hid ((fed (wNext c) x s).1.buf.size ≤ sizes (l.take (j + 1)) ∧ (fed (wNext c) x s).1.told ≤ 1500 * (j + 1) ∧ (fed (wNext c) x s).2.1.length ≤ 1500) := Lib.hid (by
            obtain ⟨f1, f2, f3⟩ := fed_sizes c x s
            have := HBS.out
            omega)
          have HSH2 := Lib.hid (FedShort.fed (wNext_ok c) x s)
          have HE2 := Lib.hid (fun bv V h1 h2 => HFE.out base gb bv { x with laid := 0 } s V h1 h2 (by show x.buf.size + s.size ≤ 100000; omega) (by show x.told ≤ _; omega))
          rw [fed_laid] at HE2
          generalize fed (wNext c) x s = X at *
          obtain ⟨y, fs, er⟩ := X
          simp only at HE1 HE2 HTB HSH2
          have c0 := HCA.out w6 HQM.out
          have hye : (er != er) = false := by simp
          have n1 := str_ways y.buf y.buf
          simp only [ne_eq, not_true_eq_false, false_and, or_false, true_and] at n1
          obtain ⟨n1, n2'⟩ := n1
          go_wp2_with fail
          refine HE1.out.mono ?_
          rintro e wa ⟨rva, bva', rfl, hra, hfa, hoa, howna⟩
          obtain ⟨Aa, na, capa, rfl, hna, hnca, hcma⟩ := hra.form'
          have HMA : Hid (Below W0.heap.size W0 wa) := Lib.hid (HQM.out.trans (hoa.below HQM.out.size (fun k hk => by have := HQA.out.foot_ge k hk; have := HZ5.out; omega)))
          have HFBA : Hid (FrmS wa base gb bvb' c { x with laid := 0 }) := Lib.hid (HQB.out.only hoa (fun k hk h => HQD.out k h (mem_foot.2 hk)))
          have hza := hoa.size
          have HLB : Hid (∀ k ∈ foot gb bvb', k < (w6).heap.size ∧ base ≤ k) := Lib.hid (fun k hk => ⟨(HQB.out.foot_ge k hk).2, (HQB.out.foot_ge k hk).1⟩)
          have HDA : Hid (∀ k, k ∈ foot ga bva' → k ∉ foot gb bvb') := Lib.hid (fun k h1 h2 => by
            rcases mem_foot.1 h1 with h3 | h3
            · exact HQD.out k (mem_foot.2 (.inl h3)) h2
            · rcases howna k h3 with h4 | h4
              · exact HQD.out k (mem_foot.2 (.inr h4)) h2
              · have := (HLB.out k h2).1; omega)
          have HFAA := Lib.hid hfa
          have HRAA := Lib.hid hra
          have hbwa : base ≤ wa.heap.size := by omega
          have c1 := HCA.out wa HMA.out
          have HE3 := Lib.hid (HE2.out bvb' wa HFBA.out hbwa)
          clear hra hfa hoa howna HQA HQB HQD HQM HE1 HE2 c0 HFBA
          go_wp2_with fail
          refine HE3.out.mono ?_
          rintro e wb ⟨rvb, bvb2, rfl, hrb, hfb, hob, hownb⟩
          obtain ⟨Ab, nb, capb, rfl, hnb, hncb, hcmb⟩ := hrb.form'
          have HMB : Hid (Below W0.heap.size W0 wb) := Lib.hid (HMA.out.trans (hob.below HMA.out.size (fun k hk => by have := (HLB.out k hk).2; have := HZ5.out; omega)))
          have HFAB : Hid (FrmS wb base ga bva' c y) := Lib.hid (HFAA.out.only hob (fun k hk => HDA.out k (mem_foot.2 hk)))
          have HRAB : Hid (FrO wb (w6).heap.size (.slice Aa na capa) fs) := Lib.hid (HRAA.out.only hob (fun k hk => (HLB.out k hk).1))
          have HDB : Hid (∀ k, k ∈ foot ga bva' → k ∉ foot gb bvb2) := Lib.hid (fun k h1 h2 => by
            rcases mem_foot.1 h2 with h3 | h3
            · exact HDA.out k h1 (mem_foot.2 (.inl h3))
            · rcases hownb k h3 with h4 | h4
              · exact HDA.out k h1 (mem_foot.2 (.inr h4))
              · have := (HFAA.out.foot_ge k h1).2; omega)
          have HFBB := Lib.hid hfb
          have HSM := Lib.hid (same18_c (.slice Aa na capa) (.slice Ab nb capb) fs wb.heap.size wb HRAB.out.read hrb.read (Nat.le_refl _) (by have := HTB.out.2.2; omega))
          clear hrb hfb hob hownb HE3 HFAA HRAA HDA HLB c1 HRAB
          go_wp2_with fail
          refine HSM.out.mono ?_
          rintro e wd ⟨rfl, hbd⟩
          have HMD : Hid (Below W0.heap.size W0 wd) := Lib.hid (HMB.out.trans (hbd.mono HMB.out.size))
          have HFAD := Lib.hid (HFAB.out.below hbd)
          have HFBD := Lib.hid (HFBB.out.below hbd)
          clear hbd HSM HFAB HFBB
          go_wp2_with fail
          refine (frTail_c _ _ _ _ _ _ HFAD.out).mono ?_
          rintro e we ⟨rfl, rfl⟩
          go_wp2_with fail
          refine (frTail_c _ _ _ _ _ _ HFBD.out).mono ?_
          rintro e we ⟨rfl, rfl⟩
          go_wp2
          go_roundw
          case rel => exact ⟨j + 1, y, y.laid, bva', bvb2, by go_num, by omega, HFAD, HFBD, HDB, HTB.out.1, HTB.out.2.1, HSH2, HMD⟩
          case measure => simp [intOf]; omega
        · have hje : ((j : Int) == (at_ : Int)) = false := beq_eq_false_iff_ne.2 (by omega)
          clear e0
          have HQA := HFA
          have HQB := HFB
          have HQD := HD
          have HQM := HM8
          clear HFA HFB HD HM8
          have HE1 := Lib.hid (HFE.out base ga bva x s wr HQA.out hbw (by omega) (by omega))
          have HTB : Hid ((fed (wNext c) x s).1.buf.size ≤ sizes (l.take (j + 1)) ∧ (fed (wNext c) x s).1.told ≤ 1500 * (j + 1) ∧ (fed (wNext c) x s).2.1.length ≤ 1500) := Lib.hid (by
            obtain ⟨f1, f2, f3⟩ := fed_sizes c x s
            have := HBS.out
            omega)
          have HSH2 := Lib.hid (FedShort.fed (wNext_ok c) x s)
          have HE2 := Lib.hid (fun bv V h1 h2 => HFE.out base gb bv { x with laid := ld } s V h1 h2 (by show x.buf.size + s.size ≤ 100000; omega) (by show x.told ≤ _; omega))
          rw [fed_laid] at HE2
          generalize fed (wNext c) x s = X at *
          obtain ⟨y, fs, er⟩ := X
          simp only at HE1 HE2 HTB HSH2
          have c0 := HCA.out wr HQM.out
          have hye : (er != er) = false := by simp
          have n1 := str_ways y.buf y.buf
          simp only [ne_eq, not_true_eq_false, false_and, or_false, true_and] at n1
          obtain ⟨n1, n2'⟩ := n1
          go_wp2_with fail
          refine HE1.out.mono ?_
          rintro e wa ⟨rva, bva', rfl, hra, hfa, hoa, howna⟩
          obtain ⟨Aa, na, capa, rfl, hna, hnca, hcma⟩ := hra.form'
          have HMA : Hid (Below W0.heap.size W0 wa) := Lib.hid (HQM.out.trans (hoa.below HQM.out.size (fun k hk => by have := HQA.out.foot_ge k hk; have := HZ5.out; omega)))
          have HFBA : Hid (FrmS wa base gb bvb c { x with laid := ld }) := Lib.hid (HQB.out.only hoa (fun k hk h => HQD.out k h (mem_foot.2 hk)))
          have hza := hoa.size
          have HLB : Hid (∀ k ∈ foot gb bvb, k < (wr).heap.size ∧ base ≤ k) := Lib.hid (fun k hk => ⟨(HQB.out.foot_ge k hk).2, (HQB.out.foot_ge k hk).1⟩)
          have HDA : Hid (∀ k, k ∈ foot ga bva' → k ∉ foot gb bvb) := Lib.hid (fun k h1 h2 => by
            rcases mem_foot.1 h1 with h3 | h3
            · exact HQD.out k (mem_foot.2 (.inl h3)) h2
            · rcases howna k h3 with h4 | h4
              · exact HQD.out k (mem_foot.2 (.inr h4)) h2
              · have := (HLB.out k h2).1; omega)
          have HFAA := Lib.hid hfa
          have HRAA := Lib.hid hra
          have hbwa : base ≤ wa.heap.size := by omega
          have c1 := HCA.out wa HMA.out
          have HE3 := Lib.hid (HE2.out bvb wa HFBA.out hbwa)
          clear hra hfa hoa howna HQA HQB HQD HQM HE1 HE2 c0 HFBA
          go_wp2_with fail
          refine HE3.out.mono ?_
          rintro e wb ⟨rvb, bvb2, rfl, hrb, hfb, hob, hownb⟩
          obtain ⟨Ab, nb, capb, rfl, hnb, hncb, hcmb⟩ := hrb.form'
          have HMB : Hid (Below W0.heap.size W0 wb) := Lib.hid (HMA.out.trans (hob.below HMA.out.size (fun k hk => by have := (HLB.out k hk).2; have := HZ5.out; omega)))
          have HFAB : Hid (FrmS wb base ga bva' c y) := Lib.hid (HFAA.out.only hob (fun k hk => HDA.out k (mem_foot.2 hk)))
          have HRAB : Hid (FrO wb (wr).heap.size (.slice Aa na capa) fs) := Lib.hid (HRAA.out.only hob (fun k hk => (HLB.out k hk).1))
          have HDB : Hid (∀ k, k ∈ foot ga bva' → k ∉ foot gb bvb2) := Lib.hid (fun k h1 h2 => by
            rcases mem_foot.1 h2 with h3 | h3
            · exact HDA.out k h1 (mem_foot.2 (.inl h3))
            · rcases hownb k h3 with h4 | h4
              · exact HDA.out k h1 (mem_foot.2 (.inr h4))
              · have := (HFAA.out.foot_ge k h1).2; omega)
          have HFBB := Lib.hid hfb
          have HSM := Lib.hid (same18_c (.slice Aa na capa) (.slice Ab nb capb) fs wb.heap.size wb HRAB.out.read hrb.read (Nat.le_refl _) (by have := HTB.out.2.2; omega))
          clear hrb hfb hob hownb HE3 HFAA HRAA HDA HLB c1 HRAB
          go_wp2_with fail
          refine HSM.out.mono ?_
          rintro e wd ⟨rfl, hbd⟩
          have HMD : Hid (Below W0.heap.size W0 wd) := Lib.hid (HMB.out.trans (hbd.mono HMB.out.size))
          have HFAD := Lib.hid (HFAB.out.below hbd)
          have HFBD := Lib.hid (HFBB.out.below hbd)
          clear hbd HSM HFAB HFBB
          go_wp2_with fail
          refine (frTail_c _ _ _ _ _ _ HFAD.out).mono ?_
          rintro e we ⟨rfl, rfl⟩
          go_wp2_with fail
          refine (frTail_c _ _ _ _ _ _ HFBD.out).mono ?_
          rintro e we ⟨rfl, rfl⟩
          go_wp2
          go_roundw
          case rel => exact ⟨j + 1, y, y.laid, bva', bvb2, by go_num, by omega, HFAD, HFBD, HDB, HTB.out.1, HTB.out.2.1, HSH2, HMD⟩
          case measure => simp [intOf]; omega
      · obtain rfl : j = n := by omega
        go_wp2
        go_ret
        exact ⟨rfl, (HO.out _ HM8.out).1⟩
theorem framerEmpty_row (c : Cfg) (l : List ByteArray) (v : Value) (at_ : Int) (w : World) (hc : c.ok) (hv : StR w w.heap.size v l ∧ ∀ s ∈ l, s.size ≤ 9223372036854775807) (h3 : (Lit.int .u8 at_).wf = true) :
    Calls Tryz.prog 11 #[c.val, v, .int .u8 at_] w fun e w' => e = .returned (.bool true) ∧ Below w.heap.size w w' := by
  have h4 : 0 ≤ at_ ∧ at_ ≤ 255 := by simpa [Lit.wf, IntKind.min, IntKind.max, IntKind.signed, IntKind.bits] using h3
  obtain ⟨y, rfl⟩ : ∃ y : Nat, at_ = (y : Int) := ⟨at_.toNat, by omega⟩
  exact framerEmpty_w c l v y w hc hv.1 hv.2 (by omega)
end Go.Proofs.YtebllmpdlapefaaGreatDoor
