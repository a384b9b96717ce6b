/- What the document tells of types (hatchwayref20.Count, Deep, right, May), and what the statements ask (room, Great). -/
import Derived.Test.YtacikiambpfipaaDoorProg
import Derived.Test.YtacikiambpfipaaDoorKA4
import Derived.Deep.QuietTactic
import Derived.BigQuiet
import Derived.Deep.DeepFit
import Derived.WalkSpells
namespace Go.Proofs.YtacikiambpfipaaDoor
set_option linter.unusedVariables false
set_option linter.unusedSimpArgs false
open Go.RowKit

set_option maxRecDepth 100000 in
set_option maxHeartbeats 400000 in
theorem refCount20_c : ∀ (x : Ty) (B : Nat) (w : World) (c0 c1 c2 c3 : Value), TyIn w B x c0 c1 c2 c3 → B ≤ w.heap.size → x.count ≤ 4611686018427387904 →
    Calls Tryd.prog 120 #[.agg #[c0, c1, c2, c3]] w fun e w' => e = .returned (.int .i64 x.count) ∧ Below w.heap.size w w' := by
  intro x
  induction x using Ty.ind with
  | h ki s l ta ih =>
    intro B w c0 c1 c2 c3 h hB hc
    obtain ⟨rfl, rfl, rfl, hki, hsi, hta, hs, A, cap, rfl, hcap, hcm, hsub⟩ := h
    have IH := Lib.hid ih
    have HS := Lib.hid hsub
    have HKI := Lib.hid hki
    have HSI := Lib.hid hsi
    have HTA := Lib.hid hta
    unfold okI at hki hsi hta
    obtain ⟨hki1, hki2⟩ := hki
    obtain ⟨hsi1, hsi2⟩ := hsi
    obtain ⟨hta1, hta2⟩ := hta
    clear ih hsub
    have hcl : 1 + countT l ≤ 4611686018427387904 := by simpa only [Ty.count] using hc
    rw [show (Ty.mk ki s l ta).count = 1 + countT l from by simp only [Ty.count]]
    clear hc
    go_enter Tryd.func120, Tryd.ntmps120
    go_wp2_with fail
    go_loopw [3, 4] (fun n i wr => ∃ k m : Nat, k ≤ l.length ∧ i = .int .i64 k ∧ Hid (m = 1 + countT (l.take k)) ∧ n = .int .i64 m ∧ Below w.heap.size w wr ∧ wr.cell? ⟨w.heap.size, 2, none⟩ = some (.slice A l.length cap)) (fun _ i _ => l.length - (intOf i).toNat)
    case atStart => exact ⟨0, 1, by omega, rfl, Lib.hid (by simp [countT]), rfl, (by repeat (first | exact Below.refl _ _ | assumption | with_reducible refine Below.drewN' ?_ _ | with_reducible refine Below.drew ?_ | ((with_reducible refine Below.alloc' ?_ ?_ _); · (first | omega | (simp <;> omega))))), by simp⟩
    case round =>
      obtain ⟨k, m, hk, rfl, hm, rfl, hb, hcell⟩ := hrel
      by_cases hlt : k < l.length
      · obtain ⟨b, o, d0, d1, d2, d3, rfl, hbB, e0, e1, e2, e3, hi⟩ := HS.out.at_ k hlt
        simp only [Nat.zero_add] at e0 e1 e2 e3
        replace e0 := (hb.cell (p := ⟨b, o + k * 4, none⟩) (by simp; omega)).trans e0
        replace e1 := (hb.cell (p := ⟨b, o + k * 4 + 1, none⟩) (by simp; omega)).trans e1
        replace e2 := (hb.cell (p := ⟨b, o + k * 4 + 2, none⟩) (by simp; omega)).trans e2
        replace e3 := (hb.cell (p := ⟨b, o + k * 4 + 3, none⟩) (by simp; omega)).trans e3
        have hbz := hb.size
        have hmem := List.getElem_mem hlt
        have hiw := hi.below (hb.mono hB)
        have hct := countT_take l k hlt
        have hcle := countT_take_le l (k + 1)
        have hm1 := hm.out
        obtain ⟨q, hq⟩ : ∃ q, l[k].count = q := ⟨_, rfl⟩
        have hqm : m + q ≤ 4611686018427387904 := by omega
        have Hq : Hid (m + q = 1 + countT (l.take (k + 1))) := Lib.hid (by omega)
        have HC := Lib.hid (IH.out _ hmem B wr d0 d1 d2 d3 hiw (by omega) (by omega))
        rw [hq] at HC
        clear hct hcle hm1 hq hiw hi
        go_wp2_with fail
        refine HC.out.mono ?_
        rintro e w2 ⟨rfl, hb2⟩
        have hbz2 := hb2.size
        have hbl := lt_of_cell hcell
        have hcell2 := (hb2.cell (p := ⟨w.heap.size, 2, none⟩) (by simp; omega)).trans hcell
        have hb3 := hb.trans (hb2.mono hbz)
        go_wp2
        go_roundw
        case rel => exact ⟨k + 1, m + q, by omega, by go_num, Hq, by go_num, hb3, hcell2⟩
        case measure => simp [intOf]; omega
      · have hm1 := hm.out
        rw [List.take_of_length_le (by omega)] at hm1
        have HM := Lib.hid hm1
        clear hm1
        go_wp2
        go_ret
        exact ⟨by show Ending.returned (.int .i64 m) = _; rw [HM.out], hb⟩

set_option maxRecDepth 100000 in
set_option maxHeartbeats 400000 in
theorem refDeep20_c : ∀ (x : Ty) (B : Nat) (w : World) (c0 c1 c2 c3 : Value), TyIn w B x c0 c1 c2 c3 → B ≤ w.heap.size → x.deep ≤ 4611686018427387904 →
    Calls Tryd.prog 121 #[.agg #[c0, c1, c2, c3]] w fun e w' => e = .returned (.int .i64 x.deep) ∧ Below w.heap.size w w' := by
  intro x
  induction x using Ty.ind with
  | h ki s l ta ih =>
    intro B w c0 c1 c2 c3 h hB hc
    obtain ⟨rfl, rfl, rfl, hki, hsi, hta, hs, A, cap, rfl, hcap, hcm, hsub⟩ := h
    have IH := Lib.hid ih
    have HS := Lib.hid hsub
    have HKI := Lib.hid hki
    have HSI := Lib.hid hsi
    have HTA := Lib.hid hta
    unfold okI at hki hsi hta
    obtain ⟨hki1, hki2⟩ := hki
    obtain ⟨hsi1, hsi2⟩ := hsi
    obtain ⟨hta1, hta2⟩ := hta
    clear ih hsub
    have hcl : deepT l + 1 ≤ 4611686018427387904 := by simpa only [Ty.deep] using hc
    rw [show (Ty.mk ki s l ta).deep = deepT l + 1 from by simp only [Ty.deep]]
    clear hc
    go_enter Tryd.func121, Tryd.ntmps121
    go_wp2_with fail
    go_loopw [3, 4] (fun n i wr => ∃ k m : Nat, k ≤ l.length ∧ i = .int .i64 k ∧ Hid (m = deepT (l.take k)) ∧ m ≤ 4611686018427387904 ∧ n = .int .i64 m ∧ Below w.heap.size w wr ∧ wr.cell? ⟨w.heap.size, 2, none⟩ = some (.slice A l.length cap)) (fun _ i _ => l.length - (intOf i).toNat)
    case atStart => exact ⟨0, 0, by omega, rfl, Lib.hid (by simp [deepT]), by omega, rfl, (by repeat (first | exact Below.refl _ _ | assumption | with_reducible refine Below.drewN' ?_ _ | with_reducible refine Below.drew ?_ | ((with_reducible refine Below.alloc' ?_ ?_ _); · (first | omega | (simp <;> omega))))), by simp⟩
    case round =>
      obtain ⟨k, m, hk, rfl, hm, hmb, rfl, hb, hcell⟩ := hrel
      by_cases hlt : k < l.length
      · obtain ⟨b, o, d0, d1, d2, d3, rfl, hbB, e0, e1, e2, e3, hi⟩ := HS.out.at_ k hlt
        simp only [Nat.zero_add] at e0 e1 e2 e3
        replace e0 := (hb.cell (p := ⟨b, o + k * 4, none⟩) (by simp; omega)).trans e0
        replace e1 := (hb.cell (p := ⟨b, o + k * 4 + 1, none⟩) (by simp; omega)).trans e1
        replace e2 := (hb.cell (p := ⟨b, o + k * 4 + 2, none⟩) (by simp; omega)).trans e2
        replace e3 := (hb.cell (p := ⟨b, o + k * 4 + 3, none⟩) (by simp; omega)).trans e3
        have hbz := hb.size
        have hmem := List.getElem_mem hlt
        have hiw := hi.below (hb.mono hB)
        have hct := deepT_take l k hlt
        have hcle := deepT_take_le l (k + 1)
        have hm1 := hm.out
        obtain ⟨q, hq⟩ : ∃ q, l[k].deep = q := ⟨_, rfl⟩
        have hqm : q ≤ 4611686018427387904 := by omega
        have HC := Lib.hid (IH.out _ hmem B wr d0 d1 d2 d3 hiw (by omega) (by omega))
        rw [hq] at HC
        by_cases hlt2 : m < q
        · have Hq : Hid (q = deepT (l.take (k + 1))) := Lib.hid (by omega)
          clear hct hcle hm1 hq hiw hi
          go_wp2_with fail
          refine HC.out.mono ?_
          rintro e w2 ⟨rfl, hb2⟩
          have hbz2 := hb2.size
          have hbl := lt_of_cell hcell
          have hcell2 := (hb2.cell (p := ⟨w.heap.size, 2, none⟩) (by simp; omega)).trans hcell
          have hb3 := hb.trans (hb2.mono hbz)
          go_wp2
          go_roundw
          case rel => exact ⟨k + 1, q, by omega, by go_num, Hq, by omega, by go_num, hb3, hcell2⟩
          case measure => simp [intOf]; omega
        · have Hq : Hid (m = deepT (l.take (k + 1))) := Lib.hid (by omega)
          clear hct hcle hm1 hq hiw hi
          go_wp2_with fail
          refine HC.out.mono ?_
          rintro e w2 ⟨rfl, hb2⟩
          have hbz2 := hb2.size
          have hbl := lt_of_cell hcell
          have hcell2 := (hb2.cell (p := ⟨w.heap.size, 2, none⟩) (by simp; omega)).trans hcell
          have hb3 := hb.trans (hb2.mono hbz)
          go_wp2
          go_roundw
          case rel => exact ⟨k + 1, m, by omega, by go_num, Hq, by omega, by go_num, hb3, hcell2⟩
          case measure => simp [intOf]; omega
      · have hm1 := hm.out
        rw [List.take_of_length_le (by omega)] at hm1
        have HM := Lib.hid hm1
        clear hm1
        go_wp2
        go_ret
        exact ⟨by show Ending.returned (.int .i64 ((m : Int) + 1)) = _; rw [HM.out]; go_num, hb⟩

set_option maxRecDepth 100000 in
set_option maxHeartbeats 400000 in
theorem room20_c : ∀ (x : Ty) (B : Nat) (w : World) (c0 c1 c2 c3 : Value), TyIn w B x c0 c1 c2 c3 → B ≤ w.heap.size → ∀ left : Int, 0 < left → left ≤ 4611686018427387904 →
    Calls Tryd.prog 38 #[.agg #[c0, c1, c2, c3], .int .i64 left] w fun e w' => e = .returned (.int .i64 (x.room left)) ∧ Below w.heap.size w w' := by
  intro x
  induction x using Ty.ind with
  | h ki s l ta ih =>
    intro B w c0 c1 c2 c3 h hB left hl0 hl1
    obtain ⟨rfl, rfl, rfl, hki, hsi, hta, hs, A, cap, rfl, hcap, hcm, hsub⟩ := h
    have IH := Lib.hid ih
    have HS := Lib.hid hsub
    have HKI := Lib.hid hki
    have HSI := Lib.hid hsi
    have HTA := Lib.hid hta
    unfold okI at hki hsi hta
    obtain ⟨hki1, hki2⟩ := hki
    obtain ⟨hsi1, hsi2⟩ := hsi
    obtain ⟨hta1, hta2⟩ := hta
    clear ih hsub
    have HR : Hid ((Ty.mk ki s l ta).room left = max (roomT l (left - 1)) 0) := Lib.hid (by simp only [Ty.room])
    have HB := Lib.hid (fun k => roomT_bd (l.take k) (fun x _ => roomTy_bd x) (left - 1) (by omega))
    generalize (Ty.mk ki s l ta).room left = R at *
    go_enter Tryd.func38, Tryd.ntmps38
    go_wp2_with fail
    go_loopw [1, 5] (fun n i wr => ∃ (k : Nat) (m : Int), k ≤ l.length ∧ i = .int .i64 k ∧ Hid (m = roomT (l.take k) (left - 1)) ∧ 0 ≤ m ∧ m ≤ left - 1 ∧ n = .int .i64 m ∧ Below w.heap.size w wr ∧ wr.cell? ⟨w.heap.size, 2, none⟩ = some (.slice A l.length cap)) (fun _ i _ => l.length - (intOf i).toNat)
    case atStart => exact ⟨0, left - 1, by omega, rfl, Lib.hid (by simp [roomT]), by omega, by omega, rfl, (by repeat (first | exact Below.refl _ _ | assumption | with_reducible refine Below.drewN' ?_ _ | with_reducible refine Below.drew ?_ | ((with_reducible refine Below.alloc' ?_ ?_ _); · (first | omega | (simp <;> omega))))), by simp⟩
    case round =>
      obtain ⟨k, m, hk, rfl, hm, hm0, hml, rfl, hb, hcell⟩ := hrel
      by_cases hlt : k < l.length
      · by_cases hpos : 0 < m
        · obtain ⟨b, o, d0, d1, d2, d3, rfl, hbB, e0, e1, e2, e3, hi⟩ := HS.out.at_ k hlt
          simp only [Nat.zero_add] at e0 e1 e2 e3
          replace e0 := (hb.cell (p := ⟨b, o + k * 4, none⟩) (by simp; omega)).trans e0
          replace e1 := (hb.cell (p := ⟨b, o + k * 4 + 1, none⟩) (by simp; omega)).trans e1
          replace e2 := (hb.cell (p := ⟨b, o + k * 4 + 2, none⟩) (by simp; omega)).trans e2
          replace e3 := (hb.cell (p := ⟨b, o + k * 4 + 3, none⟩) (by simp; omega)).trans e3
          have hbz := hb.size
          have hmem := List.getElem_mem hlt
          have hiw := hi.below (hb.mono hB)
          have hct := roomT_take l k hlt (left - 1) (by rw [← hm.out]; exact hpos)
          have hbd := HB.out (k + 1)
          have hqb := roomTy_bd l[k] m hpos
          rw [← hm.out] at hct
          obtain ⟨q, hq⟩ : ∃ q, l[k].room m = q := ⟨_, rfl⟩
          have HC := Lib.hid (IH.out _ hmem B wr d0 d1 d2 d3 hiw (by omega) m hpos (by omega))
          rw [hq] at HC hct hqb
          have Hq : Hid (q = roomT (l.take (k + 1)) (left - 1)) := Lib.hid hct.symm
          obtain ⟨hq0, hqm⟩ := hqb
          clear hct hbd hq hiw hi
          go_wp2_with fail
          refine HC.out.mono ?_
          rintro e w2 ⟨rfl, hb2⟩
          have hbz2 := hb2.size
          have hbl := lt_of_cell hcell
          have hcell2 := (hb2.cell (p := ⟨w.heap.size, 2, none⟩) (by simp; omega)).trans hcell
          have hb3 := hb.trans (hb2.mono hbz)
          go_wp2
          go_roundw
          case rel => exact ⟨k + 1, q, by omega, by go_num, Hq, hq0, by omega, rfl, hb3, hcell2⟩
          case measure => simp [intOf]; omega
        · have hm1 := roomT_end l k (left - 1) (.inl (by rw [← hm.out]; omega))
          have HX : Hid (R = 0) := Lib.hid (by rw [HR.out, hm1, ← hm.out]; omega)
          have hmz : m ≤ 0 := by omega
          obtain ⟨b0, o0, _, _, _, _, rfl, _⟩ := HS.out.at_ k hlt
          clear hm1
          go_wp2
          all_goals
            go_ret
            exact ⟨by first | (rw [HX.out]; rfl) | (show Ending.returned (.int .i64 m) = _; rw [HX.out, show m = 0 from by omega]), hb⟩
      · have hm1 := roomT_end l k (left - 1) (.inr (by omega))
        have HX : Hid (R = m) := Lib.hid (by rw [HR.out, hm1, ← hm.out]; omega)
        clear hm1
        go_wp2
        all_goals
          go_ret
          exact ⟨by first | (show Ending.returned (.int .i64 m) = _; rw [HX.out]) | (rw [HX.out, show m = 0 from by omega]; rfl), hb⟩

set_option maxRecDepth 100000 in
set_option maxHeartbeats 400000 in
theorem great20_c (x : Ty) (B : Nat) (w : World) (c0 c1 c2 c3 : Value) (h : TyIn w B x c0 c1 c2 c3) (hB : B ≤ w.heap.size) :
    Calls Tryd.prog 12 #[.agg #[c0, c1, c2, c3]] w fun e w' => e = .returned (.bool x.great) ∧ Below w.heap.size w w' := by
  have h1 : TyIn (w.alloc (.cells #[c0, c1, c2, c3] 24)) B x c0 c1 c2 c3 := h.below (by repeat (first | exact Below.refl _ _ | assumption | with_reducible refine Below.drewN' ?_ _ | with_reducible refine Below.drew ?_ | ((with_reducible refine Below.alloc' ?_ ?_ _); · (first | omega | (simp <;> omega)))))
  have H1 := Lib.hid (room20_c x B _ c0 c1 c2 c3 h1 (by simp; omega) 100 (by omega) (by omega))
  have HG : Hid (x.great = decide (x.room 100 = 0)) := Lib.hid rfl
  obtain ⟨r, hr⟩ : ∃ r, x.room 100 = r := ⟨_, rfl⟩
  rw [hr] at HG
  rw [hr] at H1
  obtain ⟨A, cap, rfl, rfl, rfl, rfl, _⟩ := h.open_
  clear hr h1 h
  generalize x.great = R at *
  generalize x.kind = ki at *
  generalize x.size = si at *
  generalize x.tail = ta at *
  by_cases hz : r = 0
  · have e1 : (r == 0) = true := by simp [hz]
    have HX : Hid (R = true) := Lib.hid (by rw [HG.out]; simp [hz])
    clear hz HG
    go_enter Tryd.func12, Tryd.ntmps12
    go_wp2_with fail
    refine H1.out.mono ?_
    rintro e w1 ⟨rfl, hb⟩
    go_wp2
    go_ret
    exact ⟨by rw [HX.out]; rfl, (Below.alloc (Below.refl _ _) (Nat.le_refl _) _).trans (hb.mono (by simp))⟩
  · have e1 : (r == 0) = false := by simp [hz]
    have HX : Hid (R = false) := Lib.hid (by rw [HG.out]; simp [hz])
    clear hz HG
    go_enter Tryd.func12, Tryd.ntmps12
    go_wp2_with fail
    refine H1.out.mono ?_
    rintro e w1 ⟨rfl, hb⟩
    go_wp2
    go_ret
    exact ⟨by rw [HX.out]; rfl, (Below.alloc (Below.refl _ _) (Nat.le_refl _) _).trans (hb.mono (by simp))⟩
end Go.Proofs.YtacikiambpfipaaDoor
