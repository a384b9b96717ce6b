/- FramerChunks: however it is cut: the frames of all chunks together, the error, and the tail, are those of all bytes at once. -/
import Derived.Test.YtebllmpdlapefaaGreatDoorKA38
namespace Go.Proofs.YtebllmpdlapefaaGreatDoor
set_option linter.unusedVariables false
set_option linter.unusedSimpArgs false
open Go.RowKit


theorem fcs_one' (l : List Fr) : ∀ u ∈ fcs l, u.oneCell' = true := by
  intro u hu
  simp only [fcs, List.mem_flatMap] at hu
  obtain ⟨f, _, hu⟩ := hu
  simp at hu
  rcases hu with rfl | rfl | rfl <;> rfl
theorem FrO.cells' {w : World} {lo : Nat} {g n cap : Nat} {l : List Fr} (h : FrO w lo (.slice (some ⟨g, 0, none⟩) n cap) l) : ∀ j u, (fcs l)[j]? = some u → w.cell? ⟨g, j, none⟩ = some u := by
  intro j u hu
  rcases h.2 with ⟨e1, e2⟩ | ⟨g', cap', cur, e1, hge, hh, hn, hm, hs, ht⟩
  · cases e1
  · injection e1 with e1
    injection e1 with e1
    injection e1 with e1
    subst e1
    have hlt : j < l.length * 3 := by
      have := (List.getElem?_eq_some_iff.1 hu).1
      rw [h.1] at this; exact this
    rw [← ht, List.getElem?_take_of_lt (by omega)] at hu
    simp only [World.cell?, hh]
    simpa using hu
theorem FrO.typed {w : World} {lo : Nat} {v : Value} {l : List Fr} (h : FrO w lo v l) : ∀ k, v.ownBlock = some k → lo ≤ k ∧ k < w.heap.size ∧ ∃ cur, Blk w k 27 cur := by
  intro k hk
  rcases h.2 with ⟨e1, _⟩ | ⟨g', cap', cur, e1, hge, hh, _⟩
  · rw [e1] at hk; cases hk
  · rw [e1] at hk
    have : g' = k := by simpa [Value.ownBlock] using hk
    subst this
    exact ⟨hge, lt_of_block hh, cur, hh⟩
/-- append(all, l...). -/
theorem wpList_append_frames {w : World} {ops : Array Oper} {rest : List Oper} {o : Oper} {a : Act} {Q : Exit → Act → World → Prop} (hgd : o.guard = none) (s x : Operand)
    (ho : o.op = .call { callee := .builtin .append, args := #[s, x], argTypes := #[51, 51] }) (lo lo2 : Nat) (acc fs : List Fr) {v xv : Value} (hs : a.eval s = v) (hacc : FrO w lo v acc) (hx : a.eval x = xv) (hfs : FrO w lo2 xv fs)
    (hlen : acc.length + fs.length ≤ 1000000) (hlo : lo ≤ w.heap.size)
    (hK : ∀ A' n' cap w', Hid (n' = (acc ++ fs).length) → FrO w' lo (.slice A' n' cap) (acc ++ fs) → w.grownBy w' v.ownBlock → ((Value.slice A' n' cap).ownBlock = v.ownBlock ∨ ∃ k, (Value.slice A' n' cap).ownBlock = some k ∧ w.heap.size ≤ k) → wpList Tryz.prog ops Q rest (a.put o.dst (.slice A' n' cap)) w') : wpList Tryz.prog ops Q (o :: rest) a w := by
  obtain ⟨i0, hi, hz0, hz1, hz2⟩ := info_parts info_frame
  by_cases hf0 : fs = []
  · subst hf0
    obtain ⟨A, n, cap, rfl, hn, hnc, _⟩ := hacc.form'
    have hsrc : Src Tryz.prog i0.size 51 xv 0 [] w := by
      rcases hfs.2 with ⟨e1, _⟩ | ⟨g', cap', cur, e1, _⟩
      · rw [e1]; exact Src.ofNil w Tryz.underlying51 0
      · rw [e1]; exact Src.ofSlice w Tryz.underlying51 _ _ _ [] (by simp) (by simp) (by simp)
    have hrun := Go.run_append_nothing (P := Tryz.prog) w 51 51 o.type 27 i0 Tryz.underlying51 hi A n cap hnc xv hsrc
    refine wpList_plain hgd fun K hK' => ?_
    unfold Oper.wp
    simp [execOp, ho, resolve, invoke, builtin, hs, hx, hrun, Result.andThen]
    exact hK' _ _ (hK A n cap w (by simpa using hn) (by simpa using hacc) (World.grownBy.refl _ _) (.inl rfl))
  · rcases hfs.2 with ⟨e1, e2⟩ | ⟨g', cap', cur, e1, hge, hh, _⟩
    · exact absurd (List.eq_nil_of_length_eq_zero e2) hf0
    · have hrd := hfs.read
      subst e1
      have h0 : 0 < fs.length := List.length_pos_iff.2 hf0
      have hcells : ∀ j u, (fcs fs)[j]? = some u → w.cell? ((⟨g', 0, none⟩ : Addr).add j) = some u := by
        intro j u hu
        rw [add_at]
        exact hfs.cells' j u hu
      refine wpList_append_lies w hgd s x 51 ho lo 27 i0 _ 3 40 Tryz.underlying51 hi hz0 hz1 hz2 rfl (by decide) v acc.length (fcs acc) hs hacc ⟨g', 0, none⟩ fs.length cap' (fcs fs) hx hfs.1 hcells (fcs_one' fs) h0 (by simp only [maxLen]; omega) (by omega) hlo w.heap.size rfl ?_
      intro g2 cap2 w' ho' hgr hat hlt
      have e : (acc ++ fs).length = acc.length + fs.length := by simp
      have hf : FrO w' lo (.slice (some ⟨g2, 0, none⟩) (acc.length + fs.length) cap2) (acc ++ fs) := by rw [FrO, fcs_append, e]; exact ho'
      exact hK _ _ cap2 w' (Lib.hid e.symm) (by simpa using hf) hgr (by
        rcases hat with h | h
        · exact .inl h.symm
        · exact .inr ⟨g2, rfl, by omega⟩)
set_option maxRecDepth 100000 in
set_option maxHeartbeats 4000000 in
theorem framerChunks_w (c : Cfg) (l : List ByteArray) (v : Value) (w : World) (hc : c.ok) (hv : StR w w.heap.size v l) (hl : ∀ s ∈ l, s.size ≤ 9223372036854775807) :
    Calls Tryz.prog 9 #[c.val, v] w fun e w' => e = .returned (.bool true) ∧ Below w.heap.size w w' := by
  obtain ⟨A, n, cap, rfl, hn, hnc, hcm⟩ := hv.form'
  have HV := Lib.hid hv
  clear hv
  have HR := Lib.hid (fun V => refRight19_c c V)
  have HN := Lib.hid (fun V hr => frNew_c c V hr)
  cases hgr : (decide (200 < l.length) || decide (1500 < min (sizes l) 10000)) with
  | true =>
    unfold Cfg.val at *
    obtain ⟨W0, hW0⟩ : ∃ W0, w.alloc (.cells #[.int .i64 c.fm, .int .u32 c.mg, .int .i64 c.fr, .int .i64 c.un, .int .i64 c.de, .int .i64 c.it] 24) = W0 := ⟨_, rfl⟩
    have hz : W0.heap.size = w.heap.size + 1 := by rw [← hW0]; simp
    have hB : Blk W0 w.heap.size 24 #[.int .i64 c.fm, .int .u32 c.mg, .int .i64 c.fr, .int .i64 c.un, .int .i64 c.de, .int .i64 c.it] := by rw [← hW0]; exact Blk.new w _ _
    have HO : Hid (∀ V, Below W0.heap.size W0 V → Below w.heap.size w V ∧ w.heap.size + 1 ≤ V.heap.size) := Lib.hid (fun V hV => by
      have h1 : Below w.heap.size w W0 := by rw [← hW0]; exact (by repeat (first | exact Below.refl _ _ | assumption | with_reducible refine Below.drewN' ?_ _ | with_reducible refine Below.drew ?_ | ((with_reducible refine Below.alloc' ?_ ?_ _); · (first | omega | (simp <;> omega)))))
      exact ⟨h1.trans (hV.mono (by omega)), by have := hV.size; omega⟩)
    have HKB : Hid (∀ V, Below W0.heap.size W0 V → Blk V w.heap.size 24 #[.int .i64 c.fm, .int .u32 c.mg, .int .i64 c.fr, .int .i64 c.un, .int .i64 c.de, .int .i64 c.it]) := Lib.hid (fun V hV => hB.keep hV (by omega))
    have HKV : Hid (∀ V, Below W0.heap.size W0 V → V.cell? ⟨w.heap.size, 0, none⟩ = some (.int .i64 c.fm) ∧ V.cell? ⟨w.heap.size, 1, none⟩ = some (.int .u32 c.mg) ∧ V.cell? ⟨w.heap.size, 2, none⟩ = some (.int .i64 c.fr) ∧ V.cell? ⟨w.heap.size, 3, none⟩ = some (.int .i64 c.un) ∧ V.cell? ⟨w.heap.size, 4, none⟩ = some (.int .i64 c.de) ∧ V.cell? ⟨w.heap.size, 5, none⟩ = some (.int .i64 c.it)) := Lib.hid (fun V hV => by
      have hB := hB.keep hV (by omega)
      exact ⟨hB.cell 0, hB.cell 1, hB.cell 2, hB.cell 3, hB.cell 4, hB.cell 5⟩)
    have HW0 := Lib.hid hW0
    have HV0 : Hid (∀ V, Below W0.heap.size W0 V → StR V w.heap.size (.slice A n cap) l) := Lib.hid (fun V hV => HV.out.below (HO.out V hV).1)
    clear hW0 hB hz HV
    go_enter Tryz.func9, Tryz.ntmps9
    go_wp2_with fail
    rw [HW0.out]
    refine (frAlive _).mono ?_
    rintro e w1 ⟨rfl, hb⟩
    have HM1 : Hid (Below W0.heap.size W0 w1) := Lib.hid hb
    clear hb
    have HG1 := Lib.hid (great19_c l (.slice A n cap) w.heap.size w1 (HV0.out _ HM1.out) (by have := (HO.out _ HM1.out).2; omega) hl)
    obtain ⟨q0, q1, q2, q3, q4, q5⟩ := HKV.out w1 HM1.out
    rw [hgr] at HG1
    go_wp2_with fail
    refine HG1.out.mono ?_
    rintro e w2 ⟨rfl, hb⟩
    have HM2 : Hid (Below W0.heap.size W0 w2) := Lib.hid (HM1.out.trans (hb.mono HM1.out.size))
    clear hb HG1
    clear q0 q1 q2 q3 q4 q5
    obtain ⟨q0, q1, q2, q3, q4, q5⟩ := HKV.out w2 HM2.out
    go_wp2
    go_ret
    exact ⟨rfl, (HO.out _ HM2.out).1⟩
  | false =>
  have hgr' := hgr
  simp at hgr'
  obtain ⟨hl200, hsz⟩ := hgr'
  have hsz : sizes l ≤ 1500 := by omega
  cases hr : c.right with
  | false =>
    rw [hr] at HR
    unfold Cfg.val at *
    obtain ⟨W0, hW0⟩ : ∃ W0, w.alloc (.cells #[.int .i64 c.fm, .int .u32 c.mg, .int .i64 c.fr, .int .i64 c.un, .int .i64 c.de, .int .i64 c.it] 24) = W0 := ⟨_, rfl⟩
    have hz : W0.heap.size = w.heap.size + 1 := by rw [← hW0]; simp
    have hB : Blk W0 w.heap.size 24 #[.int .i64 c.fm, .int .u32 c.mg, .int .i64 c.fr, .int .i64 c.un, .int .i64 c.de, .int .i64 c.it] := by rw [← hW0]; exact Blk.new w _ _
    have HO : Hid (∀ V, Below W0.heap.size W0 V → Below w.heap.size w V ∧ w.heap.size + 1 ≤ V.heap.size) := Lib.hid (fun V hV => by
      have h1 : Below w.heap.size w W0 := by rw [← hW0]; exact (by repeat (first | exact Below.refl _ _ | assumption | with_reducible refine Below.drewN' ?_ _ | with_reducible refine Below.drew ?_ | ((with_reducible refine Below.alloc' ?_ ?_ _); · (first | omega | (simp <;> omega)))))
      exact ⟨h1.trans (hV.mono (by omega)), by have := hV.size; omega⟩)
    have HKB : Hid (∀ V, Below W0.heap.size W0 V → Blk V w.heap.size 24 #[.int .i64 c.fm, .int .u32 c.mg, .int .i64 c.fr, .int .i64 c.un, .int .i64 c.de, .int .i64 c.it]) := Lib.hid (fun V hV => hB.keep hV (by omega))
    have HKV : Hid (∀ V, Below W0.heap.size W0 V → V.cell? ⟨w.heap.size, 0, none⟩ = some (.int .i64 c.fm) ∧ V.cell? ⟨w.heap.size, 1, none⟩ = some (.int .u32 c.mg) ∧ V.cell? ⟨w.heap.size, 2, none⟩ = some (.int .i64 c.fr) ∧ V.cell? ⟨w.heap.size, 3, none⟩ = some (.int .i64 c.un) ∧ V.cell? ⟨w.heap.size, 4, none⟩ = some (.int .i64 c.de) ∧ V.cell? ⟨w.heap.size, 5, none⟩ = some (.int .i64 c.it)) := Lib.hid (fun V hV => by
      have hB := hB.keep hV (by omega)
      exact ⟨hB.cell 0, hB.cell 1, hB.cell 2, hB.cell 3, hB.cell 4, hB.cell 5⟩)
    have HW0 := Lib.hid hW0
    have HV0 : Hid (∀ V, Below W0.heap.size W0 V → StR V w.heap.size (.slice A n cap) l) := Lib.hid (fun V hV => HV.out.below (HO.out V hV).1)
    clear hW0 hB hz HV
    go_enter Tryz.func9, Tryz.ntmps9
    go_wp2_with fail
    rw [HW0.out]
    refine (frAlive _).mono ?_
    rintro e w1 ⟨rfl, hb⟩
    have HM1 : Hid (Below W0.heap.size W0 w1) := Lib.hid hb
    clear hb
    have HG1 := Lib.hid (great19_c l (.slice A n cap) w.heap.size w1 (HV0.out _ HM1.out) (by have := (HO.out _ HM1.out).2; omega) hl)
    obtain ⟨q0, q1, q2, q3, q4, q5⟩ := HKV.out w1 HM1.out
    rw [hgr] at HG1
    go_wp2_with fail
    refine HG1.out.mono ?_
    rintro e w2 ⟨rfl, hb⟩
    have HM2 : Hid (Below W0.heap.size W0 w2) := Lib.hid (HM1.out.trans (hb.mono HM1.out.size))
    clear hb HG1
    clear q0 q1 q2 q3 q4 q5
    obtain ⟨q0, q1, q2, q3, q4, q5⟩ := HKV.out w2 HM2.out
    go_wp2_with fail
    refine (HR.out _).mono ?_
    rintro e w3 ⟨rfl, hb⟩
    have HM3 : Hid (Below W0.heap.size W0 w3) := Lib.hid (HM2.out.trans (hb.mono HM2.out.size))
    clear hb
    clear q0 q1 q2 q3 q4 q5
    obtain ⟨q0, q1, q2, q3, q4, q5⟩ := HKV.out w3 HM3.out
    go_wp2
    go_ret
    exact ⟨rfl, (HO.out _ HM3.out).1⟩
  | true =>
    rw [hr] at HR
    have HFE := Lib.hid (fun base g bv x s V h1 h2 h3 h4 => frFeed_c base g bv c x s V hr hc h1 h2 h3 h4)
    have HSP := Lib.hid (fun S V hS => refSplit18_c c S V hc hS)
    have HK := Lib.hid makeKey_c
    unfold keyV at HK HSP
    have HI := Lib.hid (info_key' 64)
    have hKL : (kC 64).size = 72 := kC_size 64
    have HZ : Hid (Tryz.zeroCells32.size = (kC 64).size) := Lib.hid (by rw [zero_size, hKL])
    have HO1 := Lib.hid (kC_one 64)
    generalize kC 64 = KL at *
    unfold Cfg.val at HSP
    unfold Cfg.val at *
    obtain ⟨W0, hW0⟩ : ∃ W0, w.alloc (.cells #[.int .i64 c.fm, .int .u32 c.mg, .int .i64 c.fr, .int .i64 c.un, .int .i64 c.de, .int .i64 c.it] 24) = W0 := ⟨_, rfl⟩
    have hz : W0.heap.size = w.heap.size + 1 := by rw [← hW0]; simp
    have hB : Blk W0 w.heap.size 24 #[.int .i64 c.fm, .int .u32 c.mg, .int .i64 c.fr, .int .i64 c.un, .int .i64 c.de, .int .i64 c.it] := by rw [← hW0]; exact Blk.new w _ _
    have HO : Hid (∀ V, Below W0.heap.size W0 V → Below w.heap.size w V ∧ w.heap.size + 1 ≤ V.heap.size) := Lib.hid (fun V hV => by
      have h1 : Below w.heap.size w W0 := by rw [← hW0]; exact (by repeat (first | exact Below.refl _ _ | assumption | with_reducible refine Below.drewN' ?_ _ | with_reducible refine Below.drew ?_ | ((with_reducible refine Below.alloc' ?_ ?_ _); · (first | omega | (simp <;> omega)))))
      exact ⟨h1.trans (hV.mono (by omega)), by have := hV.size; omega⟩)
    have HKB : Hid (∀ V, Below W0.heap.size W0 V → Blk V w.heap.size 24 #[.int .i64 c.fm, .int .u32 c.mg, .int .i64 c.fr, .int .i64 c.un, .int .i64 c.de, .int .i64 c.it]) := Lib.hid (fun V hV => hB.keep hV (by omega))
    have HKV : Hid (∀ V, Below W0.heap.size W0 V → V.cell? ⟨w.heap.size, 0, none⟩ = some (.int .i64 c.fm) ∧ V.cell? ⟨w.heap.size, 1, none⟩ = some (.int .u32 c.mg) ∧ V.cell? ⟨w.heap.size, 2, none⟩ = some (.int .i64 c.fr) ∧ V.cell? ⟨w.heap.size, 3, none⟩ = some (.int .i64 c.un) ∧ V.cell? ⟨w.heap.size, 4, none⟩ = some (.int .i64 c.de) ∧ V.cell? ⟨w.heap.size, 5, none⟩ = some (.int .i64 c.it)) := Lib.hid (fun V hV => by
      have hB := hB.keep hV (by omega)
      exact ⟨hB.cell 0, hB.cell 1, hB.cell 2, hB.cell 3, hB.cell 4, hB.cell 5⟩)
    have HW0 := Lib.hid hW0
    have HV0 : Hid (∀ V, Below W0.heap.size W0 V → StR V w.heap.size (.slice A n cap) l) := Lib.hid (fun V hV => HV.out.below (HO.out V hV).1)
    clear hW0 hB hz HV
    go_enter Tryz.func9, Tryz.ntmps9
    go_wp2_with fail
    rw [HW0.out]
    refine (frAlive _).mono ?_
    rintro e w1 ⟨rfl, hb⟩
    have HM1 : Hid (Below W0.heap.size W0 w1) := Lib.hid hb
    clear hb
    have HG1 := Lib.hid (great19_c l (.slice A n cap) w.heap.size w1 (HV0.out _ HM1.out) (by have := (HO.out _ HM1.out).2; omega) hl)
    obtain ⟨q0, q1, q2, q3, q4, q5⟩ := HKV.out w1 HM1.out
    rw [hgr] at HG1
    go_wp2_with fail
    refine HG1.out.mono ?_
    rintro e w2 ⟨rfl, hb⟩
    have HM2 : Hid (Below W0.heap.size W0 w2) := Lib.hid (HM1.out.trans (hb.mono HM1.out.size))
    clear hb HG1
    clear q0 q1 q2 q3 q4 q5
    obtain ⟨q0, q1, q2, q3, q4, q5⟩ := HKV.out w2 HM2.out
    go_wp2_with fail
    refine (HR.out _).mono ?_
    rintro e w3 ⟨rfl, hb⟩
    have HM3 : Hid (Below W0.heap.size W0 w3) := Lib.hid (HM2.out.trans (hb.mono HM2.out.size))
    clear hb
    clear q0 q1 q2 q3 q4 q5
    obtain ⟨q0, q1, q2, q3, q4, q5⟩ := HKV.out w3 HM3.out
    go_wp2_with fail
    refine (HN.out _ hr).mono ?_
    rintro e w4 ⟨⟨g, rfl, hf⟩, hb⟩
    have HM4 : Hid (Below W0.heap.size W0 w4) := Lib.hid (HM3.out.trans (hb.mono HM3.out.size))
    have HF4 := Lib.hid hf
    clear hb hf
    clear q0 q1 q2 q3 q4 q5
    obtain ⟨q0, q1, q2, q3, q4, q5⟩ := HKV.out w4 HM4.out
    go_wp2_with fail
    refine (HK.out _).mono ?_
    rintro e w5 ⟨rfl, hb⟩
    have HM5 : Hid (Below W0.heap.size W0 w5) := Lib.hid (HM4.out.trans (hb.mono HM4.out.size))
    have HF5 := Lib.hid (HF4.out.below hb)
    clear hb HF4
    clear q0 q1 q2 q3 q4 q5
    obtain ⟨q0, q1, q2, q3, q4, q5⟩ := HKV.out w5 HM5.out
    go_wp2_with (
      refine wpList_store_row (by rfl) 32 (.tmp 7) (.tmp 40) (by rfl) w5.heap.size KL (by rfl) (by rfl) 32 _ (by exact Blk.new _ _ _) HI.out HZ.out HO1.out ?_
      rw [key_new]
      obtain ⟨w6, hw6⟩ : ∃ w6, w5.alloc (.cells KL 32) = w6 := ⟨_, rfl⟩
      rw [hw6]
      have HM6 : Hid (Below W0.heap.size W0 w6) := Lib.hid (by rw [← hw6]; exact HM5.out.alloc HM5.out.size _)
      have HK6 : Hid (Blk w6 w5.heap.size 32 KL) := Lib.hid (by rw [← hw6]; exact Blk.new _ _ _)
      have HF6 : Hid (FrmS w6 w3.heap.size g (.slice none 0 0) c Fed.new) := Lib.hid (by rw [← hw6]; exact HF5.out.below ((Below.refl _ _).alloc (Nat.le_refl _) _))
      have HZ6 : Hid (W0.heap.size ≤ w3.heap.size ∧ g < w5.heap.size ∧ w5.heap.size < w6.heap.size ∧ W0.heap.size ≤ w6.heap.size) := Lib.hid ⟨HM3.out.size, HF5.out.lt, HK6.out.lt, HM6.out.size⟩
      clear hw6 HF5
      clear q0 q1 q2 q3 q4 q5
      obtain ⟨q0, q1, q2, q3, q4, q5⟩ := HKV.out w6 HM6.out
      )
    obtain ⟨lo, hlo⟩ : ∃ lo, w6.heap.size = lo := ⟨_, rfl⟩
    have HLO := Lib.hid hlo
    rw [hlo] at HZ6
    clear hlo q0 q1 q2 q3 q4 q5
    generalize w5.heap.size = bk at *
    generalize w3.heap.size = base at *
    go_wp2_with fail
    go_loopw [8, 9, 10] (fun av sv iv wr => ∃ (j : Nat) (x : Fed) (bv : Value) (T : ByteArray) (acc : List Fr), iv = .int .i64 j ∧ j ≤ n ∧ sv = .string T ∧ FrO wr lo av acc ∧ Hid (FrmS wr base g bv c x) ∧ Hid (Blk wr bk 32 KL) ∧ Hid (FedAll (wNext c) x T acc) ∧ T.size ≤ sizes (l.take j) ∧ x.buf.size ≤ T.size ∧ x.told ≤ 1500 * j ∧ Hid (Below W0.heap.size W0 wr) ∧ lo ≤ wr.heap.size) (fun _ _ iv _ => n - (intOf iv).toNat)
    case atStart => exact ⟨0, Fed.new, _, ByteArray.empty, [], rfl, by omega, rfl, FrO.nil _ _, HF6, HK6, Lib.hid (FedAll.new (wNext_ok c) (wNext_none hr)), Nat.zero_le _, Nat.zero_le _, Nat.zero_le _, HM6, by have := HLO.out; omega⟩
    case round =>
      obtain ⟨j, x, bv, T, acc, rfl, hj, rfl, hacc, HFX, HK8, HAL, hT, hbuf, htold, HM8, hlow⟩ := hrel
      obtain ⟨A5, n5, cap5, rfl, hn5, hnc5, hcm5⟩ := hacc.form'
      have HACC := Lib.hid hacc
      clear HF6 HK6 HM6 hacc
      have hTs := sizes_take_le l j
      have hT15 : T.size ≤ 1500 := by omega
      by_cases hlt : j < n
      · have hjl : j < l.length := by rw [← hn.out]; exact hlt
        obtain ⟨cg, o, rfl, hcg, e0⟩ := (HV0.out _ HM8.out).at_ hjl
        have hst := sizes_take l j hjl
        have hst2 := sizes_take_le l (j + 1)
        obtain ⟨s, hs⟩ : ∃ s, l[j] = s := ⟨_, rfl⟩
        rw [hs] at e0 hst
        have hTs2 : T.size + s.size ≤ 1500 := by omega
        have HBS := Lib.hid (show T.size + s.size ≤ sizes (l.take (j + 1)) by omega)
        have hci : (j : Int) < n := by omega
        have hs15 : s.size ≤ 1500 := by omega
        have hbw : base ≤ wr.heap.size := by have := HFX.out.lt; have := HFX.out.1; omega
        have HCA : Hid (∀ V, Below W0.heap.size W0 V → V.cell? ⟨cg, o + j, none⟩ = some (.string s)) := Lib.hid (fun V hV => ((HO.out _ hV).1.cell (p := ⟨cg, o + j, none⟩) hcg).trans (((HO.out _ HM8.out).1.cell (p := ⟨cg, o + j, none⟩) hcg).symm.trans e0))
        clear hs hst hst2
        have HE1 := Lib.hid (HFE.out base g bv x s wr HFX.out hbw (by omega) (by omega))
        have HTB : Hid ((fed (wNext c) x s).1.buf.size ≤ x.buf.size + s.size ∧ (fed (wNext c) x s).1.told ≤ 1500 * (j + 1) ∧ (fed (wNext c) x s).2.1.length ≤ 1500) := Lib.hid (by
          obtain ⟨f1, f2, f3⟩ := fed_sizes c x s
          omega)
        have hall := HAL.out.fed (wNext_ok c) s
        have HSS := Lib.hid (fun V => HSP.out (T ++ s) V (by rw [size_app]; omega))
        have HWA := Lib.hid (fun V => HSP.out T V (by omega))
        have hwz : (split (wNext c) T).2.2.2 = 0 := HAL.out.err
        have hlen := split_len' c (T ++ s)
        rw [size_app] at hlen
        generalize fed (wNext c) x s = X at *
        obtain ⟨y, fs, er⟩ := X
        generalize split (wNext c) (T ++ s) = Y at *
        obtain ⟨l9, t9, m9, e9⟩ := Y
        generalize split (wNext c) T = Z at *
        obtain ⟨l8, t8, m8, e8⟩ := Z
        simp only at HE1 HTB hall HSS HWA hwz hlen
        obtain ⟨rfl, rfl, rfl, hal⟩ := hall
        subst hwz
        have HAL2 := Lib.hid hal
        have hacl : acc.length + fs.length ≤ 1500 := by rw [List.length_append] at hlen; omega
        clear hal HAL
        go_wp2_with fail
        refine HE1.out.mono ?_
        rintro e wa ⟨rva, bva', rfl, hra, hfa, hoa, howna⟩
        obtain ⟨Aa, na, capa, rfl, hna, hnca, hcma⟩ := hra.form'
        have hza := hoa.size
        have hfar : ∀ k, (Value.slice A5 n5 cap5).ownBlock = some k → k ∉ foot g bv := fun k e => by
          obtain ⟨t1, t2, cur, t3⟩ := HACC.out.typed k e
          exact HFX.out.far t3 (by decide) (by have := HZ6.out; have := HLO.out; omega)
        have HACC2 : Hid (FrO wa lo (.slice A5 n5 cap5) acc) := Lib.hid (hoa.own HACC.out hfar)
        have HMA : Hid (Below W0.heap.size W0 wa) := Lib.hid (HM8.out.trans (hoa.below HM8.out.size (fun k hk => by have := HFX.out.foot_ge k hk; have := HZ6.out; omega)))
        have HKA : Hid (Blk wa bk 32 KL) := Lib.hid (HK8.out.only hoa (HFX.out.far HK8.out (by decide) (by have := HZ6.out; omega)))
        have HFA := Lib.hid hfa
        have HRA := Lib.hid hra
        have hlowa : lo ≤ wa.heap.size := by omega
        clear hra hfa hoa howna hfar HE1 HACC HFX HK8 HM8 e0
        go_wp2_with (at_builtin; refine Hid.out ?_)
        refine Lib.hid ?_
        refine wpList_append_frames (by rfl) (.tmp 63) (.tmp 64) (by rfl) lo wr.heap.size acc fs (by rfl) HACC2.out (by rfl) HRA.out (by omega) hlowa ?_
        intro A6 n6 cap6 w6 hn6 hf6 hg6 how6
        have HACC6 := Lib.hid hf6
        have HTY : Hid (∀ k, (Value.slice A5 n5 cap5).ownBlock = some k → lo ≤ k ∧ k ∉ foot g bva') := Lib.hid (fun k e => by
          obtain ⟨t1, t2, cur, t3⟩ := HACC2.out.typed k e
          exact ⟨t1, HFA.out.far t3 (by decide) (by have := HZ6.out; have := HLO.out; omega)⟩)
        have HF7 : Hid (FrmS w6 base g bva' c y) := Lib.hid (HFA.out.only (Only.of_grown hg6) (fun k hk hm => (HTY.out k (own_toList.1 hm)).2 (mem_foot.2 hk)))
        have HK7 : Hid (Blk w6 bk 32 KL) := Lib.hid (HKA.out.only (Only.of_grown hg6) (fun hm => by have := (HTY.out _ (own_toList.1 hm)).1; have := HZ6.out; have := HLO.out; omega))
        have HM7 : Hid (Below W0.heap.size W0 w6) := Lib.hid (HMA.out.trans ((Only.of_grown hg6).below HMA.out.size (fun k hm => by have := (HTY.out _ (own_toList.1 hm)).1; have := HM5.out.size; have := HZ6.out; omega)))
        have hlow6 : lo ≤ w6.heap.size := by have := hg6.size; omega
        clear hf6 hg6 how6 HTY HACC2 HRA HFA HKA HMA
        have hn6' : n6 ≤ 1500 := by rw [hn6.out, List.length_append]; omega
        by_cases h1 : er = 0
        · subst h1
          have HAL3 := Lib.hid (HAL2.out rfl)
          clear HAL2 HSS HWA
          go_wp2
          go_roundw
          case rel => exact ⟨j + 1, y, bva', T ++ s, acc ++ fs, by go_num, by omega, rfl, HACC6.out, HF7, HK7, HAL3, by have := HBS.out; rw [size_app]; exact this, by have := HTB.out.1; rw [size_app]; omega, HTB.out.2.1, HM7, hlow6⟩
          case measure => simp [intOf]; omega
        · have hbe : (er != 0) = true := bne_iff_ne.2 h1
          have hbq : (er == er) = true := by simp
          have n1 := str_ways y.buf y.buf
          simp only [ne_eq, not_true_eq_false, false_and, or_false, true_and] at n1
          obtain ⟨n1, n2'⟩ := n1
          clear HAL2
          obtain ⟨q0, q1, q2, q3, q4, q5⟩ := HKV.out w6 HM7.out
          go_wp2_with (refine wpList_load_row (by rfl) 32 (.tmp 7) (by rfl) bk (by rfl) 32 KL (0, 0) _ HK7.out Tryz.underlying32 rfl HI.out ?_)
          refine (HSS.out _).mono ?_
          rintro e w8 ⟨⟨rv8, rfl, hr8⟩, hb8⟩
          have HK9 : Hid (Blk w8 bk 32 KL) := Lib.hid (HK7.out.keep hb8 HK7.out.lt)
          have HF9 := Lib.hid (HF7.out.below hb8)
          have HM9 : Hid (Below W0.heap.size W0 w8) := Lib.hid (HM7.out.trans (hb8.mono HM7.out.size))
          have HA9 := Lib.hid (HACC6.out.below hb8)
          have HR9 := Lib.hid hr8
          obtain ⟨A8, n8, cap8, rfl, hn8, hnc8, hcm8⟩ := hr8.form'
          clear hr8 hb8 HSS HF7 HM7 HK7 HACC6 q0 q1 q2 q3 q4 q5
          obtain ⟨q0, q1, q2, q3, q4, q5⟩ := HKV.out w8 HM9.out
          go_wp2_with (refine wpList_load_row (by rfl) 32 (.tmp 7) (by rfl) bk (by rfl) 32 KL (0, 0) _ HK9.out Tryz.underlying32 rfl HI.out ?_)
          refine (HWA.out _).mono ?_
          rintro e wb ⟨⟨rvb, rfl, hrb⟩, hbb⟩
          have HFB := Lib.hid (HF9.out.below hbb)
          have HMB : Hid (Below W0.heap.size W0 wb) := Lib.hid (HM9.out.trans (hbb.mono HM9.out.size))
          obtain ⟨Ab, nb, capb, rfl, hnb, hncb, hcmb⟩ := hrb.form'
          have HSM := Lib.hid (same18_c (.slice A6 n6 cap6) (.slice A8 n8 cap8) (acc ++ fs) wb.heap.size wb (HA9.out.below hbb).read (HR9.out.below hbb).read (Nat.le_refl _) (by rw [List.length_append]; omega))
          clear hrb hbb HA9 HR9 HF9 HM9 HK9 HWA q0 q1 q2 q3 q4 q5
          go_wp2_with fail
          refine HSM.out.mono ?_
          rintro e wd ⟨rfl, hbd⟩
          have HMD : Hid (Below W0.heap.size W0 wd) := Lib.hid (HMB.out.trans (hbd.mono HMB.out.size))
          have HFD := Lib.hid (HFB.out.below hbd)
          clear hbd HSM HFB
          go_wp2_with fail
          refine (frTail_c _ _ _ _ _ _ HFD.out).mono ?_
          rintro e we ⟨rfl, rfl⟩
          go_wp2
          go_ret
          exact ⟨ret_bool (by simp), (HO.out _ HMD.out).1⟩
      · obtain rfl : j = n := by omega
        have HSS := Lib.hid (fun V => HSP.out T V (by omega))
        have hal := HAL.out
        have h1 := hal.err
        have h2 := hal.buf
        have h3 := hal.told
        have hlen := split_len' c T
        have hf0 := hal.fault
        generalize split (wNext c) T = Y at *
        obtain ⟨l9, t9, m9, e9⟩ := Y
        simp only at HSS h1 h2 h3 hlen
        subst h1 h3
        replace h2 := h2.symm
        subst h2
        clear hal HAL hf0
        have n1 := str_ways x.buf x.buf
        simp only [ne_eq, not_true_eq_false, false_and, or_false, true_and] at n1
        obtain ⟨n1, n2'⟩ := n1
        obtain ⟨q0, q1, q2, q3, q4, q5⟩ := HKV.out wr HM8.out
        go_wp2_with (refine wpList_load_row (by rfl) 32 (.tmp 7) (by rfl) bk (by rfl) 32 KL (0, 0) _ HK8.out Tryz.underlying32 rfl HI.out ?_)
        refine (HSS.out _).mono ?_
        rintro e w8 ⟨⟨rv8, rfl, hr8⟩, hb8⟩
        have HF9 := Lib.hid (HFX.out.below hb8)
        have HM9 : Hid (Below W0.heap.size W0 w8) := Lib.hid (HM8.out.trans (hb8.mono HM8.out.size))
        obtain ⟨A8, n8, cap8, rfl, hn8, hnc8, hcm8⟩ := hr8.form'
        have HSM := Lib.hid (same18_c (.slice A5 n5 cap5) (.slice A8 n8 cap8) acc w8.heap.size w8 (HACC.out.below hb8).read hr8.read (Nat.le_refl _) (by omega))
        clear hr8 hb8 HSS HFX HM8 HK8 HACC q0 q1 q2 q3 q4 q5
        go_wp2_with fail
        refine HSM.out.mono ?_
        rintro e wd ⟨rfl, hbd⟩
        have HMD : Hid (Below W0.heap.size W0 wd) := Lib.hid (HM9.out.trans (hbd.mono HM9.out.size))
        have HFD := Lib.hid (HF9.out.below hbd)
        clear hbd HSM HF9
        go_wp2_with fail
        refine (frTail_c _ _ _ _ _ _ HFD.out).mono ?_
        rintro e we ⟨rfl, rfl⟩
        go_wp2
        go_ret
        exact ⟨ret_bool (by simp), (HO.out _ HMD.out).1⟩
theorem framerChunks_row (c : Cfg) (l : List ByteArray) (v : Value) (w : World) (hc : c.ok) (hv : StR w w.heap.size v l ∧ ∀ s ∈ l, s.size ≤ 9223372036854775807) :
    Calls Tryz.prog 9 #[c.val, v] w fun e w' => e = .returned (.bool true) ∧ Below w.heap.size w w' := framerChunks_w c l v w hc hv.1 hv.2
end Go.Proofs.YtebllmpdlapefaaGreatDoor
