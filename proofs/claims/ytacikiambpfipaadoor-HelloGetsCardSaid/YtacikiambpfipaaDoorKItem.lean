/- Package item: whether an item may be. -/
import Derived.Test.YtacikiambpfipaaDoorKItemRef
import Derived.Test.YtacikiambpfipaaDoorKA3
namespace Go.Proofs.YtacikiambpfipaaDoor
set_option linter.unusedVariables false
set_option linter.unusedSimpArgs false
open Go.RowKit

set_option maxRecDepth 100000 in
set_option maxHeartbeats 400000 in
theorem formed_c (t : ByteArray) (l : Bool) (A : Option Addr) (n cap : Nat) (w : World) (hn : n ≤ 9223372036854775807) :
    Calls Tryd.prog 102 #[.agg #[.string t, .bool l, .slice A n cap]] w fun e w' => e = .returned (.bool (formed t l n)) ∧ Below w.heap.size w w' := by
  cases l with
  | true =>
    rcases empty_ways t with ⟨hz, rfl⟩ | ⟨hz, hz1, hz2⟩
    · have HF : Hid (formed ⟨#[]⟩ true n = true) := Lib.hid rfl
      generalize formed ⟨#[]⟩ true n = R at *
      clear hz
      go_enter Tryd.func102, Tryd.ntmps102
      go_wp2
      go_ret
      exact ⟨by rw [HF.out]; rfl, (by repeat (first | exact Below.refl _ _ | assumption | with_reducible refine Below.drewN' ?_ _ | with_reducible refine Below.drew ?_ | ((with_reducible refine Below.alloc' ?_ ?_ _); · (first | omega | (simp <;> omega)))))⟩
    · have HF : Hid (formed t true n = false) := Lib.hid (by simp [formed, hz])
      generalize formed t true n = R at *
      clear hz
      go_enter Tryd.func102, Tryd.ntmps102
      go_wp2
      go_ret
      exact ⟨by rw [HF.out]; rfl, (by repeat (first | exact Below.refl _ _ | assumption | with_reducible refine Below.drewN' ?_ _ | with_reducible refine Below.drew ?_ | ((with_reducible refine Below.alloc' ?_ ?_ _); · (first | omega | (simp <;> omega)))))⟩
  | false =>
    by_cases hl : n = 0
    · have HF : Hid (formed t false n = true) := Lib.hid (by simp [formed, hl])
      generalize formed t false n = R at *
      go_enter Tryd.func102, Tryd.ntmps102
      go_wp2
      go_ret
      exact ⟨by rw [HF.out]; rfl, (by repeat (first | exact Below.refl _ _ | assumption | with_reducible refine Below.drewN' ?_ _ | with_reducible refine Below.drew ?_ | ((with_reducible refine Below.alloc' ?_ ?_ _); · (first | omega | (simp <;> omega)))))⟩
    · have HF : Hid (formed t false n = false) := Lib.hid (by simp [formed, hl])
      have e1 : ((n : Int) == 0) = false := beq_eq_false_iff_ne.2 (by omega)
      generalize formed t false n = R at *
      clear hl
      go_enter Tryd.func102, Tryd.ntmps102
      go_wp2
      go_ret
      exact ⟨by rw [HF.out]; rfl, (by repeat (first | exact Below.refl _ _ | assumption | with_reducible refine Below.drewN' ?_ _ | with_reducible refine Below.drew ?_ | ((with_reducible refine Below.alloc' ?_ ?_ _); · (first | omega | (simp <;> omega)))))⟩

/-- The variables that the walk through an item keeps: how many, what is asked of each, how deep, the walk itself. -/
structure Vars (w : World) (cb eb db vb c d : Nat) : Prop where
  cnt : Blk w cb 3 #[.int .i64 c]
  each : Blk w eb 30 #[.func (.func 102) #[] #[]]
  dp : Blk w db 3 #[.int .i64 d]
  vis : Blk w vb 167 #[.func (.func 142) #[] #[.pointer (some ⟨cb, 0, none⟩), .pointer (some ⟨eb, 0, none⟩), .pointer (some ⟨db, 0, none⟩), .pointer (some ⟨vb, 0, none⟩)]]
theorem Vars.below {w w' : World} {cb eb db vb c d : Nat} (h : Vars w cb eb db vb c d) (hb : Below w.heap.size w w') : Vars w' cb eb db vb c d :=
  ⟨h.cnt.only (Only.of_below hb (Nat.le_refl _)) (by simp), h.each.only (Only.of_below hb (Nat.le_refl _)) (by simp), h.dp.only (Only.of_below hb (Nat.le_refl _)) (by simp), h.vis.only (Only.of_below hb (Nat.le_refl _)) (by simp)⟩
theorem Blk.ne_ {w : World} {g g' : Nat} {t t' : TypeId} {cs cs' : Array Value} (h : Blk w g t cs) (h' : Blk w g' t' cs') (hne : t ≠ t') : g ≠ g' := by
  rintro rfl
  unfold Blk at h h'
  rw [h] at h'
  injection h' with h'
  injection h' with _ ht
  exact hne ht

theorem Vars.step {w : World} {cb eb db vb c d c' d' : Nat} {u v : Int} (h : Vars w cb eb db vb c d) (hcd : cb ≠ db) (hu : u = (c' : Int)) (hv : v = (d' : Int)) : Vars ((w.setCell ⟨cb, 0, none⟩ (.int .i64 u)).setCell ⟨db, 0, none⟩ (.int .i64 v)) cb eb db vb c' d' := by
  subst hu; subst hv
  have n1 := h.cnt.ne_ h.each (by decide)
  have n2 := h.cnt.ne_ h.vis (by decide)
  have n3 := h.dp.ne_ h.each (by decide)
  have n4 := h.dp.ne_ h.vis (by decide)
  exact ⟨Blk.far (show Blk _ _ _ _ from one_setCell h.cnt) (p := ⟨db, 0, none⟩) hcd _, (h.each.far (p := ⟨cb, 0, none⟩) n1.symm _).far (p := ⟨db, 0, none⟩) n3.symm _, one_setCell (h.dp.far (p := ⟨cb, 0, none⟩) hcd.symm _), (h.vis.far (p := ⟨cb, 0, none⟩) n2.symm _).far (p := ⟨db, 0, none⟩) n4.symm _⟩

set_option maxRecDepth 100000 in
set_option maxHeartbeats 800000 in
theorem visit_c : ∀ (x : It) (B : Nat) (w : World) (c0 c1 c2 : Value), ItIn w B x c0 c1 c2 → B ≤ w.heap.size → ∀ (cb eb db vb lv c d : Nat), Vars w cb eb db vb c d → B ≤ cb → B ≤ db → cb ≠ db → 1 ≤ lv → lv ≤ 17 → c ≤ 1024 → d ≤ 17 →
    Calls Tryd.prog 142 #[.agg #[c0, c1, c2], .int .i64 lv, .pointer (some ⟨cb, 0, none⟩), .pointer (some ⟨eb, 0, none⟩), .pointer (some ⟨db, 0, none⟩), .pointer (some ⟨vb, 0, none⟩)] w fun e w' =>
      e = .returned (.bool (x.vis lv c d).1) ∧ Vars w' cb eb db vb (x.vis lv c d).2.1 (x.vis lv c d).2.2 ∧ Only [cb, db] w w' := by
  intro x
  induction x using It.ind with
  | h t l s ih =>
    intro B w c0 c1 c2 h hB cb eb db vb lv c d hV hcB hdB hcd hlv hlv2 hc hd
    obtain ⟨rfl, rfl, ht, hs, A, cap, rfl, hcap, hcm, hsub⟩ := h
    have IH := Lib.hid ih
    have HS := Lib.hid hsub
    clear ih hsub
    have n1 := hV.cnt.ne_ hV.each (by decide)
    have n2 := hV.cnt.ne_ hV.vis (by decide)
    have n3 := hV.dp.ne_ hV.each (by decide)
    have n4 := hV.dp.ne_ hV.vis (by decide)
    have q1 : w.cell? ⟨cb, 0, none⟩ = some (.int .i64 c) := cell_of_one hV.cnt
    have q2 : w.cell? ⟨eb, 0, none⟩ = some (.func (.func 102) #[] #[]) := cell_of_one hV.each
    have q3 : w.cell? ⟨db, 0, none⟩ = some (.int .i64 d) := cell_of_one hV.dp
    have HV := Lib.hid hV
    have l1 := hV.cnt.lt
    have l2 := hV.each.lt
    have l3 := hV.dp.lt
    have l4 := hV.vis.lt
    have HR : Hid ((It.mk t l s).vis lv c d = if 16 < lv ∨ c = 1024 ∨ formed t l s.length = false then (false, c, d) else visL s (lv + 1) (c + 1) (max d lv)) := Lib.hid (by simp only [It.vis])
    generalize (It.mk t l s).vis lv c d = R at *
    clear hV
    by_cases h1 : 16 < lv
    · have HX : Hid (R = (false, c, d)) := Lib.hid (by rw [HR.out, if_pos (.inl h1)])
      clear HR
      go_enter Tryd.func142, Tryd.ntmps142
      go_wp2
      go_ret
      rw [HX.out]
      exact ⟨rfl, HV.out.below (by repeat (first | exact Below.refl _ _ | assumption | with_reducible refine Below.drewN' ?_ _ | with_reducible refine Below.drew ?_ | ((with_reducible refine Below.alloc' ?_ ?_ _); · (first | omega | (simp <;> omega))))), (by repeat (first | exact Only.refl _ _ | assumption | with_reducible refine Only.drewN ?_ _ | with_reducible refine Only.drew ?_ | with_reducible refine Only.alloc ?_ _ | ((with_reducible refine Only.put ?_ ?_ _); · (first | omega | (simp <;> omega)))))⟩
    · by_cases h2 : c = 1024
      · have e1 : ((c : Int) == 1024) = true := by simp; omega
        have HX : Hid (R = (false, c, d)) := Lib.hid (by rw [HR.out, if_pos (.inr (.inl h2))])
        clear HR h2
        go_enter Tryd.func142, Tryd.ntmps142
        go_wp2
        go_ret
        rw [HX.out]
        exact ⟨rfl, HV.out.below (by repeat (first | exact Below.refl _ _ | assumption | with_reducible refine Below.drewN' ?_ _ | with_reducible refine Below.drew ?_ | ((with_reducible refine Below.alloc' ?_ ?_ _); · (first | omega | (simp <;> omega))))), (by repeat (first | exact Only.refl _ _ | assumption | with_reducible refine Only.drewN ?_ _ | with_reducible refine Only.drew ?_ | with_reducible refine Only.alloc ?_ _ | ((with_reducible refine Only.put ?_ ?_ _); · (first | omega | (simp <;> omega)))))⟩
      · have e1 : ((c : Int) == 1024) = false := beq_eq_false_iff_ne.2 (by omega)
        have HF := Lib.hid (formed_c t l A s.length cap (w.alloc (.cells #[.string t, .bool l, .slice A s.length cap] 27)) hs)
        cases hf : formed t l s.length with
        | false =>
          rw [hf] at HF
          have HX : Hid (R = (false, c, d)) := Lib.hid (by rw [HR.out, if_pos (.inr (.inr hf))])
          clear HR hf h2
          go_enter Tryd.func142, Tryd.ntmps142
          go_wp2_with fail
          refine HF.out.mono ?_
          rintro e w1 ⟨rfl, hb⟩
          go_wp2
          go_ret
          rw [HX.out]
          have hb2 : Below w.heap.size w w1 := (Below.alloc (Below.refl _ _) (Nat.le_refl _) _).trans (hb.mono (by simp))
          exact ⟨rfl, HV.out.below hb2, (Only.of_below hb2 (Nat.le_refl _)).mono (by simp)⟩
        | true =>
          rw [hf] at HF
          have HX : Hid (R = visL s (lv + 1) (c + 1) (max d lv)) := Lib.hid (by rw [HR.out, if_neg (by rw [hf]; simp; omega)])
          have hc2 : c ≤ 1023 := by omega
          clear HR hf h2
          rcases Nat.lt_trichotomy d lv with hx | hx | hx
          · have HM : Hid (max d lv = lv) := Lib.hid (by omega)
            rw [HM.out] at HX
            go_enter Tryd.func142, Tryd.ntmps142
            go_wp2_with fail
            refine HF.out.mono ?_
            rintro e w1 ⟨rfl, hb0⟩
            obtain ⟨g0, g1, g2⟩ := box_cells w 27 _ _ _ w1 (by simpa using hb0)
            have hb2 : Below w.heap.size w w1 := (Below.alloc (Below.refl _ _) (Nat.le_refl _) _).trans (hb0.mono (by simp))
            have hV1 := HV.out.below hb2
            have p1 : w1.cell? ⟨cb, 0, none⟩ = some (.int .i64 c) := cell_of_one hV1.cnt
            have p1f : w1.frozen? ⟨cb, 0, none⟩ = false := free_of_one hV1.cnt
            have p3 : w1.cell? ⟨db, 0, none⟩ = some (.int .i64 d) := cell_of_one hV1.dp
            have p3f : w1.frozen? ⟨db, 0, none⟩ = false := free_of_one hV1.dp
            have HV1 := Lib.hid hV1
            have hbz := hb2.size
            clear hV1 hb0 q1 q2 q3 HF
            go_wp2_with fail
            all_goals
              go_loopw [31] (fun i wr => ∃ k c' d' : Nat, k ≤ s.length ∧ i = .int .i64 k ∧ Hid (visL (s.take k) (lv + 1) (c + 1) lv = (true, c', d')) ∧ Vars wr cb eb db vb c' d' ∧ Only [cb, db] w wr ∧ c' ≤ 1024 ∧ d' ≤ 17) (fun i _ => s.length - (intOf i).toNat)
              case atStart =>
                refine ⟨0, c + 1, lv, by omega, rfl, Lib.hid (by simp [visL]), HV1.out.step hcd (by omega) (by omega), ?_, by omega, by omega⟩
                exact (((Only.of_below hb2 (Nat.le_refl _)).mono (by simp)).setCell (by simp) _).setCell (by simp) _
              case round =>
                obtain ⟨k, c', d', hk, rfl, hvs, hVr, hon, hc', hd'⟩ := hrel
                have q4 : wr.cell? ⟨vb, 0, none⟩ = some (.func (.func 142) #[] #[.pointer (some ⟨cb, 0, none⟩), .pointer (some ⟨eb, 0, none⟩), .pointer (some ⟨db, 0, none⟩), .pointer (some ⟨vb, 0, none⟩)]) := cell_of_one hVr.vis
                have hbr : Below B w wr := hon.below hB (by simp; omega)
                have hrz := hon.size
                have l4r : vb < wr.heap.size := by omega
                have HVR := Lib.hid hVr
                clear hVr
                by_cases hlt : k < s.length
                · obtain ⟨b, o, d0, d1, d2, rfl, hbB, e0, e1', e2, hi⟩ := HS.out.at_ k hlt
                  simp only [Nat.zero_add] at e0 e1' e2
                  replace e0 := (hbr.cell (p := ⟨b, o + k * 3, none⟩) hbB).trans e0
                  replace e1' := (hbr.cell (p := ⟨b, o + k * 3 + 1, none⟩) hbB).trans e1'
                  replace e2 := (hbr.cell (p := ⟨b, o + k * 3 + 2, none⟩) hbB).trans e2
                  obtain ⟨A2, cap2, rfl, rfl, rfl, _⟩ := hi.open_
                  have hmem := List.getElem_mem hlt
                  have hiw := hi.below hbr
                  have hVa := HVR.out.below (Below.alloc (Below.refl _ wr) (Nat.le_refl _) (.cells #[.string s[k].text, .bool s[k].list, .slice A2 s[k].sub.length cap2] 27))
                  have HC := Lib.hid (IH.out _ hmem B (wr.alloc (.cells #[.string s[k].text, .bool s[k].list, .slice A2 s[k].sub.length cap2] 27)) _ _ _ (hiw.below (Below.alloc (Below.refl _ _) (by omega) _)) (by simp; omega) cb eb db vb (lv + 1) c' d' hVa hcB hdB hcd (by omega) (by omega) hc' hd')
                  have hvb := (vis_is s[k] (lv + 1) c' d' (by omega) hc').2.2
                  obtain ⟨⟨r, c2, dd⟩, hT⟩ : ∃ T, s[k].vis (lv + 1) c' d' = T := ⟨_, rfl⟩
                  rw [hT] at HC hvb
                  have hvb2 : c2 ≤ 1024 ∧ dd ≤ 17 := by simp at hvb; omega
                  obtain ⟨hv1, hv2⟩ := hvb2
                  have e9 : (lv : Int) + 1 = ((lv + 1 : Nat) : Int) := by omega
                  have E9 := Lib.hid e9
                  cases r with
                  | true =>
                    have HN : Hid (visL (s.take (k + 1)) (lv + 1) (c + 1) lv = (true, c2, dd)) := Lib.hid (by rw [visL_take hlt hvs.out, hT])
                    clear hi hiw hVa hT hvb e9
                    go_wp2_with fail
                    rw [E9.out]
                    refine HC.out.mono ?_
                    rintro e w2 ⟨rfl, hV2, ho2⟩
                    have hon2 : Only [cb, db] w w2 := (hon.alloc _).trans ho2
                    clear ho2
                    go_wp2
                    go_roundw
                    case rel => exact ⟨k + 1, c2, dd, by omega, by go_num, HN, hV2, hon2, hv1, hv2⟩
                    case measure => simp [intOf]; omega
                  | false =>
                    have HN : Hid (visL s (lv + 1) (c + 1) lv = (false, c2, dd)) := Lib.hid (visL_stop hlt hvs.out hT)
                    clear hi hiw hVa hT hvb e9
                    go_wp2_with fail
                    rw [E9.out]
                    refine HC.out.mono ?_
                    rintro e w2 ⟨rfl, hV2, ho2⟩
                    have hon2 : Only [cb, db] w w2 := (hon.alloc _).trans ho2
                    clear ho2
                    go_wp2
                    go_ret
                    rw [HX.out, HN.out]
                    exact ⟨rfl, hV2, hon2⟩
                · have hvs1 := hvs.out
                  rw [List.take_of_length_le (by omega)] at hvs1
                  have HN := Lib.hid hvs1
                  clear hvs1
                  go_wp2
                  go_ret
                  rw [HX.out, HN.out]
                  exact ⟨rfl, HVR.out, hon⟩
          · have HM : Hid (max d lv = lv) := Lib.hid (by omega)
            rw [HM.out] at HX
            go_enter Tryd.func142, Tryd.ntmps142
            go_wp2_with fail
            refine HF.out.mono ?_
            rintro e w1 ⟨rfl, hb0⟩
            obtain ⟨g0, g1, g2⟩ := box_cells w 27 _ _ _ w1 (by simpa using hb0)
            have hb2 : Below w.heap.size w w1 := (Below.alloc (Below.refl _ _) (Nat.le_refl _) _).trans (hb0.mono (by simp))
            have hV1 := HV.out.below hb2
            have p1 : w1.cell? ⟨cb, 0, none⟩ = some (.int .i64 c) := cell_of_one hV1.cnt
            have p1f : w1.frozen? ⟨cb, 0, none⟩ = false := free_of_one hV1.cnt
            have p3 : w1.cell? ⟨db, 0, none⟩ = some (.int .i64 d) := cell_of_one hV1.dp
            have p3f : w1.frozen? ⟨db, 0, none⟩ = false := free_of_one hV1.dp
            have HV1 := Lib.hid hV1
            have hbz := hb2.size
            clear hV1 hb0 q1 q2 q3 HF
            go_wp2_with fail
            all_goals
              go_loopw [31] (fun i wr => ∃ k c' d' : Nat, k ≤ s.length ∧ i = .int .i64 k ∧ Hid (visL (s.take k) (lv + 1) (c + 1) lv = (true, c', d')) ∧ Vars wr cb eb db vb c' d' ∧ Only [cb, db] w wr ∧ c' ≤ 1024 ∧ d' ≤ 17) (fun i _ => s.length - (intOf i).toNat)
              case atStart =>
                refine ⟨0, c + 1, lv, by omega, rfl, Lib.hid (by simp [visL]), HV1.out.step hcd (by omega) (by omega), ?_, by omega, by omega⟩
                exact (((Only.of_below hb2 (Nat.le_refl _)).mono (by simp)).setCell (by simp) _).setCell (by simp) _
              case round =>
                obtain ⟨k, c', d', hk, rfl, hvs, hVr, hon, hc', hd'⟩ := hrel
                have q4 : wr.cell? ⟨vb, 0, none⟩ = some (.func (.func 142) #[] #[.pointer (some ⟨cb, 0, none⟩), .pointer (some ⟨eb, 0, none⟩), .pointer (some ⟨db, 0, none⟩), .pointer (some ⟨vb, 0, none⟩)]) := cell_of_one hVr.vis
                have hbr : Below B w wr := hon.below hB (by simp; omega)
                have hrz := hon.size
                have l4r : vb < wr.heap.size := by omega
                have HVR := Lib.hid hVr
                clear hVr
                by_cases hlt : k < s.length
                · obtain ⟨b, o, d0, d1, d2, rfl, hbB, e0, e1', e2, hi⟩ := HS.out.at_ k hlt
                  simp only [Nat.zero_add] at e0 e1' e2
                  replace e0 := (hbr.cell (p := ⟨b, o + k * 3, none⟩) hbB).trans e0
                  replace e1' := (hbr.cell (p := ⟨b, o + k * 3 + 1, none⟩) hbB).trans e1'
                  replace e2 := (hbr.cell (p := ⟨b, o + k * 3 + 2, none⟩) hbB).trans e2
                  obtain ⟨A2, cap2, rfl, rfl, rfl, _⟩ := hi.open_
                  have hmem := List.getElem_mem hlt
                  have hiw := hi.below hbr
                  have hVa := HVR.out.below (Below.alloc (Below.refl _ wr) (Nat.le_refl _) (.cells #[.string s[k].text, .bool s[k].list, .slice A2 s[k].sub.length cap2] 27))
                  have HC := Lib.hid (IH.out _ hmem B (wr.alloc (.cells #[.string s[k].text, .bool s[k].list, .slice A2 s[k].sub.length cap2] 27)) _ _ _ (hiw.below (Below.alloc (Below.refl _ _) (by omega) _)) (by simp; omega) cb eb db vb (lv + 1) c' d' hVa hcB hdB hcd (by omega) (by omega) hc' hd')
                  have hvb := (vis_is s[k] (lv + 1) c' d' (by omega) hc').2.2
                  obtain ⟨⟨r, c2, dd⟩, hT⟩ : ∃ T, s[k].vis (lv + 1) c' d' = T := ⟨_, rfl⟩
                  rw [hT] at HC hvb
                  have hvb2 : c2 ≤ 1024 ∧ dd ≤ 17 := by simp at hvb; omega
                  obtain ⟨hv1, hv2⟩ := hvb2
                  have e9 : (lv : Int) + 1 = ((lv + 1 : Nat) : Int) := by omega
                  have E9 := Lib.hid e9
                  cases r with
                  | true =>
                    have HN : Hid (visL (s.take (k + 1)) (lv + 1) (c + 1) lv = (true, c2, dd)) := Lib.hid (by rw [visL_take hlt hvs.out, hT])
                    clear hi hiw hVa hT hvb e9
                    go_wp2_with fail
                    rw [E9.out]
                    refine HC.out.mono ?_
                    rintro e w2 ⟨rfl, hV2, ho2⟩
                    have hon2 : Only [cb, db] w w2 := (hon.alloc _).trans ho2
                    clear ho2
                    go_wp2
                    go_roundw
                    case rel => exact ⟨k + 1, c2, dd, by omega, by go_num, HN, hV2, hon2, hv1, hv2⟩
                    case measure => simp [intOf]; omega
                  | false =>
                    have HN : Hid (visL s (lv + 1) (c + 1) lv = (false, c2, dd)) := Lib.hid (visL_stop hlt hvs.out hT)
                    clear hi hiw hVa hT hvb e9
                    go_wp2_with fail
                    rw [E9.out]
                    refine HC.out.mono ?_
                    rintro e w2 ⟨rfl, hV2, ho2⟩
                    have hon2 : Only [cb, db] w w2 := (hon.alloc _).trans ho2
                    clear ho2
                    go_wp2
                    go_ret
                    rw [HX.out, HN.out]
                    exact ⟨rfl, hV2, hon2⟩
                · have hvs1 := hvs.out
                  rw [List.take_of_length_le (by omega)] at hvs1
                  have HN := Lib.hid hvs1
                  clear hvs1
                  go_wp2
                  go_ret
                  rw [HX.out, HN.out]
                  exact ⟨rfl, HVR.out, hon⟩
          · have HM : Hid (max d lv = d) := Lib.hid (by omega)
            rw [HM.out] at HX
            go_enter Tryd.func142, Tryd.ntmps142
            go_wp2_with fail
            refine HF.out.mono ?_
            rintro e w1 ⟨rfl, hb0⟩
            obtain ⟨g0, g1, g2⟩ := box_cells w 27 _ _ _ w1 (by simpa using hb0)
            have hb2 : Below w.heap.size w w1 := (Below.alloc (Below.refl _ _) (Nat.le_refl _) _).trans (hb0.mono (by simp))
            have hV1 := HV.out.below hb2
            have p1 : w1.cell? ⟨cb, 0, none⟩ = some (.int .i64 c) := cell_of_one hV1.cnt
            have p1f : w1.frozen? ⟨cb, 0, none⟩ = false := free_of_one hV1.cnt
            have p3 : w1.cell? ⟨db, 0, none⟩ = some (.int .i64 d) := cell_of_one hV1.dp
            have p3f : w1.frozen? ⟨db, 0, none⟩ = false := free_of_one hV1.dp
            have HV1 := Lib.hid hV1
            have hbz := hb2.size
            clear hV1 hb0 q1 q2 q3 HF
            go_wp2_with fail
            all_goals
              go_loopw [31] (fun i wr => ∃ k c' d' : Nat, k ≤ s.length ∧ i = .int .i64 k ∧ Hid (visL (s.take k) (lv + 1) (c + 1) d = (true, c', d')) ∧ Vars wr cb eb db vb c' d' ∧ Only [cb, db] w wr ∧ c' ≤ 1024 ∧ d' ≤ 17) (fun i _ => s.length - (intOf i).toNat)
              case atStart =>
                refine ⟨0, c + 1, d, by omega, rfl, Lib.hid (by simp [visL]), HV1.out.step hcd (by omega) (by omega), ?_, by omega, by omega⟩
                exact (((Only.of_below hb2 (Nat.le_refl _)).mono (by simp)).setCell (by simp) _).setCell (by simp) _
              case round =>
                obtain ⟨k, c', d', hk, rfl, hvs, hVr, hon, hc', hd'⟩ := hrel
                have q4 : wr.cell? ⟨vb, 0, none⟩ = some (.func (.func 142) #[] #[.pointer (some ⟨cb, 0, none⟩), .pointer (some ⟨eb, 0, none⟩), .pointer (some ⟨db, 0, none⟩), .pointer (some ⟨vb, 0, none⟩)]) := cell_of_one hVr.vis
                have hbr : Below B w wr := hon.below hB (by simp; omega)
                have hrz := hon.size
                have l4r : vb < wr.heap.size := by omega
                have HVR := Lib.hid hVr
                clear hVr
                by_cases hlt : k < s.length
                · obtain ⟨b, o, d0, d1, d2, rfl, hbB, e0, e1', e2, hi⟩ := HS.out.at_ k hlt
                  simp only [Nat.zero_add] at e0 e1' e2
                  replace e0 := (hbr.cell (p := ⟨b, o + k * 3, none⟩) hbB).trans e0
                  replace e1' := (hbr.cell (p := ⟨b, o + k * 3 + 1, none⟩) hbB).trans e1'
                  replace e2 := (hbr.cell (p := ⟨b, o + k * 3 + 2, none⟩) hbB).trans e2
                  obtain ⟨A2, cap2, rfl, rfl, rfl, _⟩ := hi.open_
                  have hmem := List.getElem_mem hlt
                  have hiw := hi.below hbr
                  have hVa := HVR.out.below (Below.alloc (Below.refl _ wr) (Nat.le_refl _) (.cells #[.string s[k].text, .bool s[k].list, .slice A2 s[k].sub.length cap2] 27))
                  have HC := Lib.hid (IH.out _ hmem B (wr.alloc (.cells #[.string s[k].text, .bool s[k].list, .slice A2 s[k].sub.length cap2] 27)) _ _ _ (hiw.below (Below.alloc (Below.refl _ _) (by omega) _)) (by simp; omega) cb eb db vb (lv + 1) c' d' hVa hcB hdB hcd (by omega) (by omega) hc' hd')
                  have hvb := (vis_is s[k] (lv + 1) c' d' (by omega) hc').2.2
                  obtain ⟨⟨r, c2, dd⟩, hT⟩ : ∃ T, s[k].vis (lv + 1) c' d' = T := ⟨_, rfl⟩
                  rw [hT] at HC hvb
                  have hvb2 : c2 ≤ 1024 ∧ dd ≤ 17 := by simp at hvb; omega
                  obtain ⟨hv1, hv2⟩ := hvb2
                  have e9 : (lv : Int) + 1 = ((lv + 1 : Nat) : Int) := by omega
                  have E9 := Lib.hid e9
                  cases r with
                  | true =>
                    have HN : Hid (visL (s.take (k + 1)) (lv + 1) (c + 1) d = (true, c2, dd)) := Lib.hid (by rw [visL_take hlt hvs.out, hT])
                    clear hi hiw hVa hT hvb e9
                    go_wp2_with fail
                    rw [E9.out]
                    refine HC.out.mono ?_
                    rintro e w2 ⟨rfl, hV2, ho2⟩
                    have hon2 : Only [cb, db] w w2 := (hon.alloc _).trans ho2
                    clear ho2
                    go_wp2
                    go_roundw
                    case rel => exact ⟨k + 1, c2, dd, by omega, by go_num, HN, hV2, hon2, hv1, hv2⟩
                    case measure => simp [intOf]; omega
                  | false =>
                    have HN : Hid (visL s (lv + 1) (c + 1) d = (false, c2, dd)) := Lib.hid (visL_stop hlt hvs.out hT)
                    clear hi hiw hVa hT hvb e9
                    go_wp2_with fail
                    rw [E9.out]
                    refine HC.out.mono ?_
                    rintro e w2 ⟨rfl, hV2, ho2⟩
                    have hon2 : Only [cb, db] w w2 := (hon.alloc _).trans ho2
                    clear ho2
                    go_wp2
                    go_ret
                    rw [HX.out, HN.out]
                    exact ⟨rfl, hV2, hon2⟩
                · have hvs1 := hvs.out
                  rw [List.take_of_length_le (by omega)] at hvs1
                  have HN := Lib.hid hvs1
                  clear hvs1
                  go_wp2
                  go_ret
                  rw [HX.out, HN.out]
                  exact ⟨rfl, HVR.out, hon⟩

end Go.Proofs.YtacikiambpfipaaDoor
