/- What the document tells of types (hatchwayref20.Count, Deep, right, May), and what the statements ask (room, Great). -/
import Derived.Test.YtnfpgadegpmhkaaGreatDoorProg
import Derived.Test.YtnfpgadegpmhkaaGreatDoorKA3
import Derived.Deep.QuietTactic
import Derived.BigQuiet
import Derived.Deep.DeepFit
import Derived.WalkSpells
import Derived.Test.YtnfpgadegpmhkaaGreatDoorKA2
set_option linter.unusedVariables false
set_option linter.unusedSimpArgs false
set_option maxRecDepth 100000
set_option maxHeartbeats 800000
namespace Go.Proofs.YtnfpgadegpmhkaaGreatDoor
open Go.RowKit
theorem refCount20_c : ∀ (x : Ty) (B : Nat) (w : World) (c0 c1 c2 c3 : Value), TyIn w B x c0 c1 c2 c3 → B ≤ w.heap.size → x.count ≤ 4611686018427387904 →
 Calls Tryz.prog 62 #[.agg #[c0, c1, c2, c3]] w fun e w' => e = .returned (.int .i64 x.count) ∧ Below w.heap.size w w' := by
 intro x
 induction x using Ty.ind with
 | h ki s l ta ih =>
  intro B w c0 c1 c2 c3 h hB hc
  obtain ⟨rfl, rfl, rfl, hki, hsi, hta, hs, A, cap, rfl, hcap, hcm, hsub⟩ := h
  have IH := Lib.hid ih
  have HS := Lib.hid hsub
  have HKI := Lib.hid hki
  have HSI := Lib.hid hsi
  have HTA := Lib.hid hta
  unfold okI at hki hsi hta
  obtain ⟨hki1, hki2⟩ := hki
  obtain ⟨hsi1, hsi2⟩ := hsi
  obtain ⟨hta1, hta2⟩ := hta
  clear ih hsub
  have hcl : 1 + countT l ≤ 4611686018427387904 := by simpa only [Ty.count] using hc
  rw [show (Ty.mk ki s l ta).count = 1 + countT l from by simp only [Ty.count]]
  clear hc
  go_enter Tryz.func62, Tryz.ntmps62
  go_wp2_with fail
  go_loopw [3, 4] (fun n i wr => ∃ k m : Nat, k ≤ l.length ∧ i = .int .i64 k ∧ Hid (m = 1 + countT (l.take k)) ∧ n = .int .i64 m ∧ Below w.heap.size w wr ∧ wr.cell? ⟨w.heap.size, 2, none⟩ = some (.slice A l.length cap)) (fun _ i _ => l.length - (intOf i).toNat)
  case atStart => exact ⟨0, 1, by omega, rfl, Lib.hid (by simp [countT]), rfl, blw, by simp⟩
  case round =>
   obtain ⟨k, m, hk, rfl, hm, rfl, hb, hcell⟩ := hrel
   by_cases hlt : k < l.length
   ·obtain ⟨b, o, d0, d1, d2, d3, rfl, hbB, e0, e1, e2, e3, hi⟩ := HS.out.at_ k hlt
    simp only [Nat.zero_add] at e0 e1 e2 e3
    replace e0 := (hb.cell (p := ⟨b, o + k * 4, none⟩) (by simp; omega)).trans e0
    replace e1 := (hb.cell (p := ⟨b, o + k * 4 + 1, none⟩) (by simp; omega)).trans e1
    replace e2 := (hb.cell (p := ⟨b, o + k * 4 + 2, none⟩) (by simp; omega)).trans e2
    replace e3 := (hb.cell (p := ⟨b, o + k * 4 + 3, none⟩) (by simp; omega)).trans e3
    have hbz := hb.size
    have hmem := List.getElem_mem hlt
    have hiw := hi.below (hb.mono hB)
    have hct := countT_take l k hlt
    have hcle := countT_take_le l (k + 1)
    have hm1 := hm.out
    obtain ⟨q, hq⟩ : ∃ q, l[k].count = q := ⟨_, rfl⟩
    have hqm : m + q ≤ 4611686018427387904 := by omega
    have Hq : Hid (m + q = 1 + countT (l.take (k + 1))) := Lib.hid (by omega)
    have HC := Lib.hid (IH.out _ hmem B wr d0 d1 d2 d3 hiw (by omega) (by omega))
    rw [hq] at HC
    clear hct hcle hm1 hq hiw hi
    go_wp2_with fail
    refine HC.out.mono ?_
    rintro e w2 ⟨rfl, hb2⟩
    have hbz2 := hb2.size
    have hbl := lt_of_cell hcell
    have hcell2 := (hb2.cell (p := ⟨w.heap.size, 2, none⟩) (by simp; omega)).trans hcell
    have hb3 := hb.trans (hb2.mono hbz)
    go_wp2
    go_roundw
    case rel => exact ⟨k + 1, m + q, by omega, by go_num, Hq, by go_num, hb3, hcell2⟩
    case measure => simp [intOf]; omega
   ·have hm1 := hm.out
    rw [List.take_of_length_le (by omega)] at hm1
    have HM := Lib.hid hm1
    clear hm1
    go_wp2
    go_ret
    exact ⟨by show Ending.returned (.int .i64 m) = _; rw [HM.out], hb⟩
theorem refDeep20_c : ∀ (x : Ty) (B : Nat) (w : World) (c0 c1 c2 c3 : Value), TyIn w B x c0 c1 c2 c3 → B ≤ w.heap.size → x.deep ≤ 4611686018427387904 →
 Calls Tryz.prog 63 #[.agg #[c0, c1, c2, c3]] w fun e w' => e = .returned (.int .i64 x.deep) ∧ Below w.heap.size w w' := by
 intro x
 induction x using Ty.ind with
 | h ki s l ta ih =>
  intro B w c0 c1 c2 c3 h hB hc
  obtain ⟨rfl, rfl, rfl, hki, hsi, hta, hs, A, cap, rfl, hcap, hcm, hsub⟩ := h
  have IH := Lib.hid ih
  have HS := Lib.hid hsub
  have HKI := Lib.hid hki
  have HSI := Lib.hid hsi
  have HTA := Lib.hid hta
  unfold okI at hki hsi hta
  obtain ⟨hki1, hki2⟩ := hki
  obtain ⟨hsi1, hsi2⟩ := hsi
  obtain ⟨hta1, hta2⟩ := hta
  clear ih hsub
  have hcl : deepT l + 1 ≤ 4611686018427387904 := by simpa only [Ty.deep] using hc
  rw [show (Ty.mk ki s l ta).deep = deepT l + 1 from by simp only [Ty.deep]]
  clear hc
  go_enter Tryz.func63, Tryz.ntmps63
  go_wp2_with fail
  go_loopw [3, 4] (fun n i wr => ∃ k m : Nat, k ≤ l.length ∧ i = .int .i64 k ∧ Hid (m = deepT (l.take k)) ∧ m ≤ 4611686018427387904 ∧ n = .int .i64 m ∧ Below w.heap.size w wr ∧ wr.cell? ⟨w.heap.size, 2, none⟩ = some (.slice A l.length cap)) (fun _ i _ => l.length - (intOf i).toNat)
  case atStart => exact ⟨0, 0, by omega, rfl, Lib.hid (by simp [deepT]), by omega, rfl, blw, by simp⟩
  case round =>
   obtain ⟨k, m, hk, rfl, hm, hmb, rfl, hb, hcell⟩ := hrel
   by_cases hlt : k < l.length
   ·obtain ⟨b, o, d0, d1, d2, d3, rfl, hbB, e0, e1, e2, e3, hi⟩ := HS.out.at_ k hlt
    simp only [Nat.zero_add] at e0 e1 e2 e3
    replace e0 := (hb.cell (p := ⟨b, o + k * 4, none⟩) (by simp; omega)).trans e0
    replace e1 := (hb.cell (p := ⟨b, o + k * 4 + 1, none⟩) (by simp; omega)).trans e1
    replace e2 := (hb.cell (p := ⟨b, o + k * 4 + 2, none⟩) (by simp; omega)).trans e2
    replace e3 := (hb.cell (p := ⟨b, o + k * 4 + 3, none⟩) (by simp; omega)).trans e3
    have hbz := hb.size
    have hmem := List.getElem_mem hlt
    have hiw := hi.below (hb.mono hB)
    have hct := deepT_take l k hlt
    have hcle := deepT_take_le l (k + 1)
    have hm1 := hm.out
    obtain ⟨q, hq⟩ : ∃ q, l[k].deep = q := ⟨_, rfl⟩
    have hqm : q ≤ 4611686018427387904 := by omega
    have HC := Lib.hid (IH.out _ hmem B wr d0 d1 d2 d3 hiw (by omega) (by omega))
    rw [hq] at HC
    by_cases hlt2 : m < q
    ·have Hq : Hid (q = deepT (l.take (k + 1))) := Lib.hid (by omega)
     clear hct hcle hm1 hq hiw hi
     go_wp2_with fail
     refine HC.out.mono ?_
     rintro e w2 ⟨rfl, hb2⟩
     have hbz2 := hb2.size
     have hbl := lt_of_cell hcell
     have hcell2 := (hb2.cell (p := ⟨w.heap.size, 2, none⟩) (by simp; omega)).trans hcell
     have hb3 := hb.trans (hb2.mono hbz)
     go_wp2
     go_roundw
     case rel => exact ⟨k + 1, q, by omega, by go_num, Hq, by omega, by go_num, hb3, hcell2⟩
     case measure => simp [intOf]; omega
    ·have Hq : Hid (m = deepT (l.take (k + 1))) := Lib.hid (by omega)
     clear hct hcle hm1 hq hiw hi
     go_wp2_with fail
     refine HC.out.mono ?_
     rintro e w2 ⟨rfl, hb2⟩
     have hbz2 := hb2.size
     have hbl := lt_of_cell hcell
     have hcell2 := (hb2.cell (p := ⟨w.heap.size, 2, none⟩) (by simp; omega)).trans hcell
     have hb3 := hb.trans (hb2.mono hbz)
     go_wp2
     go_roundw
     case rel => exact ⟨k + 1, m, by omega, by go_num, Hq, by omega, by go_num, hb3, hcell2⟩
     case measure => simp [intOf]; omega
   ·have hm1 := hm.out
    rw [List.take_of_length_le (by omega)] at hm1
    have HM := Lib.hid hm1
    clear hm1
    go_wp2
    go_ret
    exact ⟨by show Ending.returned (.int .i64 ((m : Int) + 1)) = _; rw [HM.out]; go_num, hb⟩
theorem kind_ways (k : Int) : k = 1 ∨ k = 2 ∨ k = 3 ∨ k = 4 ∨ k = 5 ∨ (k ≠ 1 ∧ k ≠ 2 ∧ k ≠ 3 ∧ k ≠ 4 ∧ k ≠ 5) := by omega
theorem bad1 {s : Int} {n : Nat} {t : Int} (h : tyOk 1 s n t = false) : (s ≠ 1 ∧ s ≠ 2 ∧ s ≠ 4 ∧ s ≠ 8) ∨ ((s = 1 ∨ s = 2 ∨ s = 4 ∨ s = 8) ∧ n ≠ 0) ∨ ((s = 1 ∨ s = 2 ∨ s = 4 ∨ s = 8) ∧ n = 0 ∧ t ≠ 0) := by
 simp [tyOk] at h; omega
theorem bad2 {s : Int} {n : Nat} {t : Int} (h : tyOk 2 s n t = false) : s < 1 ∨ (1 ≤ s ∧ 65536 < s) ∨ (1 ≤ s ∧ s ≤ 65536 ∧ n ≠ 0) ∨ (1 ≤ s ∧ s ≤ 65536 ∧ n = 0 ∧ t ≠ 0) := by
 simp [tyOk] at h; omega
theorem bad3 {s : Int} {n : Nat} {t : Int} (h : tyOk 3 s n t = false) : s < 0 ∨ (0 ≤ s ∧ 65536 < s) ∨ (0 ≤ s ∧ s ≤ 65536 ∧ n ≠ 0) ∨ (0 ≤ s ∧ s ≤ 65536 ∧ n = 0 ∧ t ≠ 0) := by
 simp [tyOk] at h; omega
theorem bad4 {s : Int} {n : Nat} {t : Int} (h : tyOk 4 s n t = false) : s < 0 ∨ (0 ≤ s ∧ 1024 < s) ∨ (0 ≤ s ∧ s ≤ 1024 ∧ n ≠ 1) ∨ (0 ≤ s ∧ s ≤ 1024 ∧ n = 1 ∧ t ≠ 0) := by
 simp [tyOk] at h; omega
theorem bad5 {s : Int} {n : Nat} {t : Int} (h : tyOk 5 s n t = false) : s ≠ 0 ∨ (s = 0 ∧ 16 < n) ∨ (s = 0 ∧ n ≤ 16 ∧ t < 0) ∨ (s = 0 ∧ n ≤ 16 ∧ 0 ≤ t ∧ (n : Int) < t) := by
 simp [tyOk] at h; omega
theorem nb {a b : Int} (h : a ≠ b) : (a == b) = false := beq_eq_false_iff_ne.2 h
theorem right20_c : ∀ (x : Ty) (B : Nat) (w : World) (c0 c1 c2 c3 : Value), TyIn w B x c0 c1 c2 c3 → B ≤ w.heap.size →
 Calls Tryz.prog 64 #[.agg #[c0, c1, c2, c3]] w fun e w' => e = .returned (.bool x.right) ∧ Below w.heap.size w w' := by
 intro x
 induction x using Ty.ind with
 | h ki s l ta ih =>
  intro B w c0 c1 c2 c3 h hB
  obtain ⟨rfl, rfl, rfl, hki, hsi, hta, hs, A, cap, rfl, hcap, hcm, hsub⟩ := h
  have IH := Lib.hid ih
  have HS := Lib.hid hsub
  have HKI := Lib.hid hki
  have HSI := Lib.hid hsi
  have HTA := Lib.hid hta
  unfold okI at hki hsi hta
  obtain ⟨hki1, hki2⟩ := hki
  obtain ⟨hsi1, hsi2⟩ := hsi
  obtain ⟨hta1, hta2⟩ := hta
  clear ih hsub
  clear HKI HSI HTA
  have HR : Hid ((Ty.mk ki s l ta).right = (tyOk ki s l.length ta && rightT l)) := Lib.hid (by simp only [Ty.right])
  generalize (Ty.mk ki s l ta).right = R at *
  cases hok : tyOk ki s l.length ta with
  | true =>
   have hw := ok_ways hok
   rcases hw with ⟨rfl, hs4, hn, rfl⟩ | ⟨rfl, h3, h4, hn, rfl⟩ | ⟨rfl, h3, h4, hn, rfl⟩ | ⟨rfl, h3, h4, hn, rfl⟩ | ⟨rfl, rfl, h4, h5, h6⟩
   ·obtain rfl : l = [] := List.eq_nil_of_length_eq_zero hn
    have HX : Hid (R = true) := Lib.hid (by rw [HR.out, hok]; rfl)
    clear HR hok
    rcases hs4 with rfl | rfl | rfl | rfl
    all_goals
     go_enter Tryz.func64, Tryz.ntmps64
     go_wp2_with fail
     refine wp_loop_rounds 1 ?_
     rw [rounds_succ]
     go_wp2
     go_ret
     exact ⟨by rw [HX.out]; rfl, blw⟩
   ·obtain rfl : l = [] := List.eq_nil_of_length_eq_zero hn
    have HX : Hid (R = true) := Lib.hid (by rw [HR.out, hok]; rfl)
    clear HR hok
    go_enter Tryz.func64, Tryz.ntmps64
    go_wp2_with fail
    refine wp_loop_rounds 1 ?_
    rw [rounds_succ]
    go_wp2
    go_ret
    exact ⟨by rw [HX.out]; rfl, blw⟩
   ·obtain rfl : l = [] := List.eq_nil_of_length_eq_zero hn
    have HX : Hid (R = true) := Lib.hid (by rw [HR.out, hok]; rfl)
    clear HR hok
    go_enter Tryz.func64, Tryz.ntmps64
    go_wp2_with fail
    refine wp_loop_rounds 1 ?_
    rw [rounds_succ]
    go_wp2
    go_ret
    exact ⟨by rw [HX.out]; rfl, blw⟩
   ·have HX : Hid (R = rightT l) := Lib.hid (by rw [HR.out, hok]; rfl)
    have e1 : ((l.length : Int) == 1) = true := by simp [hn]
    clear HR hok hn
    go_enter Tryz.func64, Tryz.ntmps64
    go_wp2_with fail
    go_loopw [3, 5] (fun ok i wr => ∃ (k : Nat) (b : Bool), k ≤ l.length ∧ i = .int .i64 k ∧ ok = .bool b ∧ Hid (rightT (l.take k) = b) ∧ Below w.heap.size w wr ∧ wr.cell? ⟨w.heap.size, 2, none⟩ = some (.slice A l.length cap)) (fun _ i _ => l.length - (intOf i).toNat)
    case atStart => exact ⟨0, true, by omega, rfl, rfl, Lib.hid (by simp [rightT]), blw, by simp⟩
    case round =>
     obtain ⟨k, b, hk, rfl, rfl, hm, hb, hcell⟩ := hrel
     by_cases hlt : k < l.length
     ·cases b with
      | true =>
       obtain ⟨b, o, d0, d1, d2, d3, rfl, hbB, e0, e1, e2, e3, hi⟩ := HS.out.at_ k hlt
       simp only [Nat.zero_add] at e0 e1 e2 e3
       replace e0 := (hb.cell (p := ⟨b, o + k * 4, none⟩) (by simp; omega)).trans e0
       replace e1 := (hb.cell (p := ⟨b, o + k * 4 + 1, none⟩) (by simp; omega)).trans e1
       replace e2 := (hb.cell (p := ⟨b, o + k * 4 + 2, none⟩) (by simp; omega)).trans e2
       replace e3 := (hb.cell (p := ⟨b, o + k * 4 + 3, none⟩) (by simp; omega)).trans e3
       have hbz := hb.size
       have hmem := List.getElem_mem hlt
       have hiw := hi.below (hb.mono hB)
       have HC := Lib.hid (IH.out _ hmem B wr d0 d1 d2 d3 hiw (by omega))
       obtain ⟨q, hq⟩ : ∃ q, l[k].right = q := ⟨_, rfl⟩
       rw [hq] at HC
       have Hq : Hid (rightT (l.take (k + 1)) = q) := Lib.hid (by rw [rightT_take l k hlt, hm.out, hq]; rfl)
       clear hq hiw hi
       go_wp2_with fail
       refine HC.out.mono ?_
       rintro e w2 ⟨rfl, hb2⟩
       have hbz2 := hb2.size
       have hbl := lt_of_cell hcell
       have hcell2 := (hb2.cell (p := ⟨w.heap.size, 2, none⟩) (by simp; omega)).trans hcell
       have hb3 := hb.trans (hb2.mono hbz)
       go_wp2
       go_roundw
       case rel =>
        exact ⟨k + 1, q, by omega, by go_num, rfl, Hq, hb3, hcell2⟩
       case measure => simp [intOf]; omega
      | false =>
       have HN : Hid (rightT l = false) := Lib.hid (by
        have h1 := rightT_append (l.take k) (l.drop k)
        rw [List.take_append_drop, hm.out] at h1
        simpa using h1)
       obtain ⟨b0, o0, _, _, _, _, rfl, _⟩ := HS.out.at_ k hlt
       go_wp2
       go_ret
       exact ⟨by rw [HX.out, HN.out]; rfl, hb⟩
     ·have hm1 := hm.out
      rw [List.take_of_length_le (by omega)] at hm1
      have HM := Lib.hid hm1
      clear hm1
      go_wp2
      go_ret
      exact ⟨by rw [HX.out, HM.out]; rfl, hb⟩
   ·have HX : Hid (R = rightT l) := Lib.hid (by rw [HR.out, hok]; rfl)
    clear HR hok
    go_enter Tryz.func64, Tryz.ntmps64
    go_wp2_with fail
    go_loopw [3, 5] (fun ok i wr => ∃ (k : Nat) (b : Bool), k ≤ l.length ∧ i = .int .i64 k ∧ ok = .bool b ∧ Hid (rightT (l.take k) = b) ∧ Below w.heap.size w wr ∧ wr.cell? ⟨w.heap.size, 2, none⟩ = some (.slice A l.length cap)) (fun _ i _ => l.length - (intOf i).toNat)
    case atStart => exact ⟨0, true, by omega, rfl, rfl, Lib.hid (by simp [rightT]), blw, by simp⟩
    case round =>
     obtain ⟨k, b, hk, rfl, rfl, hm, hb, hcell⟩ := hrel
     by_cases hlt : k < l.length
     ·cases b with
      | true =>
       obtain ⟨b, o, d0, d1, d2, d3, rfl, hbB, e0, e1, e2, e3, hi⟩ := HS.out.at_ k hlt
       simp only [Nat.zero_add] at e0 e1 e2 e3
       replace e0 := (hb.cell (p := ⟨b, o + k * 4, none⟩) (by simp; omega)).trans e0
       replace e1 := (hb.cell (p := ⟨b, o + k * 4 + 1, none⟩) (by simp; omega)).trans e1
       replace e2 := (hb.cell (p := ⟨b, o + k * 4 + 2, none⟩) (by simp; omega)).trans e2
       replace e3 := (hb.cell (p := ⟨b, o + k * 4 + 3, none⟩) (by simp; omega)).trans e3
       have hbz := hb.size
       have hmem := List.getElem_mem hlt
       have hiw := hi.below (hb.mono hB)
       have HC := Lib.hid (IH.out _ hmem B wr d0 d1 d2 d3 hiw (by omega))
       obtain ⟨q, hq⟩ : ∃ q, l[k].right = q := ⟨_, rfl⟩
       rw [hq] at HC
       have Hq : Hid (rightT (l.take (k + 1)) = q) := Lib.hid (by rw [rightT_take l k hlt, hm.out, hq]; rfl)
       clear hq hiw hi
       go_wp2_with fail
       refine HC.out.mono ?_
       rintro e w2 ⟨rfl, hb2⟩
       have hbz2 := hb2.size
       have hbl := lt_of_cell hcell
       have hcell2 := (hb2.cell (p := ⟨w.heap.size, 2, none⟩) (by simp; omega)).trans hcell
       have hb3 := hb.trans (hb2.mono hbz)
       go_wp2
       go_roundw
       case rel =>
        exact ⟨k + 1, q, by omega, by go_num, rfl, Hq, hb3, hcell2⟩
       case measure => simp [intOf]; omega
      | false =>
       have HN : Hid (rightT l = false) := Lib.hid (by
        have h1 := rightT_append (l.take k) (l.drop k)
        rw [List.take_append_drop, hm.out] at h1
        simpa using h1)
       obtain ⟨b0, o0, _, _, _, _, rfl, _⟩ := HS.out.at_ k hlt
       go_wp2
       go_ret
       exact ⟨by rw [HX.out, HN.out]; rfl, hb⟩
     ·have hm1 := hm.out
      rw [List.take_of_length_le (by omega)] at hm1
      have HM := Lib.hid hm1
      clear hm1
      go_wp2
      go_ret
      exact ⟨by rw [HX.out, HM.out]; rfl, hb⟩
  | false =>
   have HX : Hid (R = false) := Lib.hid (by rw [HR.out, hok]; rfl)
   clear HR HS IH
   rcases kind_ways ki with rfl | rfl | rfl | rfl | rfl | ⟨n1, n2, n3, n4, n5⟩
   ·rcases bad1 hok with ⟨m1, m2, m3, m4⟩ | ⟨hs4, hn⟩ | ⟨hs4, hn, ht⟩
    ·have f1 := nb m1
     have f2 := nb m2
     have f3 := nb m3
     have f4 := nb m4
     clear hok m1 m2 m3 m4
     go_enter Tryz.func64, Tryz.ntmps64
     go_wp2_with fail
     refine wp_loop_rounds 1 ?_
     rw [rounds_succ]
     go_wp2
     all_goals
      go_ret
      exact ⟨by rw [HX.out]; rfl, blw⟩
    ·have f1 : ((l.length : Int) == 0) = false := nb (by omega)
     clear hok hn
     rcases hs4 with rfl | rfl | rfl | rfl
     all_goals
      go_enter Tryz.func64, Tryz.ntmps64
      go_wp2_with fail
      refine wp_loop_rounds 1 ?_
      rw [rounds_succ]
      go_wp2
      all_goals
       go_ret
       exact ⟨by rw [HX.out]; rfl, blw⟩
    ·obtain rfl : l = [] := List.eq_nil_of_length_eq_zero hn
     have f2 := nb ht
     clear hok ht
     rcases hs4 with rfl | rfl | rfl | rfl
     all_goals
      go_enter Tryz.func64, Tryz.ntmps64
      go_wp2_with fail
      refine wp_loop_rounds 1 ?_
      rw [rounds_succ]
      go_wp2
      all_goals
       go_ret
       exact ⟨by rw [HX.out]; rfl, blw⟩
   ·rcases bad2 hok with h1 | ⟨h1, h2⟩ | ⟨h1, h2, hn⟩ | ⟨h1, h2, hn, ht⟩
    ·clear hok
     go_enter Tryz.func64, Tryz.ntmps64
     go_wp2_with fail
     refine wp_loop_rounds 1 ?_
     rw [rounds_succ]
     go_wp2
     all_goals
      go_ret
      exact ⟨by rw [HX.out]; rfl, blw⟩
    ·clear hok
     go_enter Tryz.func64, Tryz.ntmps64
     go_wp2_with fail
     refine wp_loop_rounds 1 ?_
     rw [rounds_succ]
     go_wp2
     all_goals
      go_ret
      exact ⟨by rw [HX.out]; rfl, blw⟩
    ·have f1 : ((l.length : Int) == 0) = false := nb (by omega)
     clear hok hn
     go_enter Tryz.func64, Tryz.ntmps64
     go_wp2_with fail
     refine wp_loop_rounds 1 ?_
     rw [rounds_succ]
     go_wp2
     all_goals
      go_ret
      exact ⟨by rw [HX.out]; rfl, blw⟩
    ·obtain rfl : l = [] := List.eq_nil_of_length_eq_zero hn
     have f2 := nb ht
     clear hok ht
     go_enter Tryz.func64, Tryz.ntmps64
     go_wp2_with fail
     refine wp_loop_rounds 1 ?_
     rw [rounds_succ]
     go_wp2
     all_goals
      go_ret
      exact ⟨by rw [HX.out]; rfl, blw⟩
   ·rcases bad3 hok with h1 | ⟨h1, h2⟩ | ⟨h1, h2, hn⟩ | ⟨h1, h2, hn, ht⟩
    ·clear hok
     go_enter Tryz.func64, Tryz.ntmps64
     go_wp2_with fail
     refine wp_loop_rounds 1 ?_
     rw [rounds_succ]
     go_wp2
     all_goals
      go_ret
      exact ⟨by rw [HX.out]; rfl, blw⟩
    ·clear hok
     go_enter Tryz.func64, Tryz.ntmps64
     go_wp2_with fail
     refine wp_loop_rounds 1 ?_
     rw [rounds_succ]
     go_wp2
     all_goals
      go_ret
      exact ⟨by rw [HX.out]; rfl, blw⟩
    ·have f1 : ((l.length : Int) == 0) = false := nb (by omega)
     clear hok hn
     go_enter Tryz.func64, Tryz.ntmps64
     go_wp2_with fail
     refine wp_loop_rounds 1 ?_
     rw [rounds_succ]
     go_wp2
     all_goals
      go_ret
      exact ⟨by rw [HX.out]; rfl, blw⟩
    ·obtain rfl : l = [] := List.eq_nil_of_length_eq_zero hn
     have f2 := nb ht
     clear hok ht
     go_enter Tryz.func64, Tryz.ntmps64
     go_wp2_with fail
     refine wp_loop_rounds 1 ?_
     rw [rounds_succ]
     go_wp2
     all_goals
      go_ret
      exact ⟨by rw [HX.out]; rfl, blw⟩
   ·rcases bad4 hok with h1 | ⟨h1, h2⟩ | ⟨h1, h2, hn⟩ | ⟨h1, h2, hn, ht⟩
    ·clear hok
     go_enter Tryz.func64, Tryz.ntmps64
     go_wp2_with fail
     refine wp_loop_rounds 1 ?_
     rw [rounds_succ]
     go_wp2
     all_goals
      go_ret
      exact ⟨by rw [HX.out]; rfl, blw⟩
    ·clear hok
     go_enter Tryz.func64, Tryz.ntmps64
     go_wp2_with fail
     refine wp_loop_rounds 1 ?_
     rw [rounds_succ]
     go_wp2
     all_goals
      go_ret
      exact ⟨by rw [HX.out]; rfl, blw⟩
    ·have f1 : ((l.length : Int) == 1) = false := nb (by omega)
     clear hok hn
     go_enter Tryz.func64, Tryz.ntmps64
     go_wp2_with fail
     refine wp_loop_rounds 1 ?_
     rw [rounds_succ]
     go_wp2
     all_goals
      go_ret
      exact ⟨by rw [HX.out]; rfl, blw⟩
    ·have f1 : ((l.length : Int) == 1) = true := by simp [hn]
     have f2 := nb ht
     clear hok ht hn
     go_enter Tryz.func64, Tryz.ntmps64
     go_wp2_with fail
     refine wp_loop_rounds 1 ?_
     rw [rounds_succ]
     go_wp2
     all_goals
      go_ret
      exact ⟨by rw [HX.out]; rfl, blw⟩
   ·rcases bad5 hok with h1 | ⟨rfl, h2⟩ | ⟨rfl, h2, ht⟩ | ⟨rfl, h2, ht, ht2⟩
    ·have f1 := nb h1
     clear hok h1
     go_enter Tryz.func64, Tryz.ntmps64
     go_wp2_with fail
     refine wp_loop_rounds 1 ?_
     rw [rounds_succ]
     go_wp2
     all_goals
      go_ret
      exact ⟨by rw [HX.out]; rfl, blw⟩
    ·clear hok
     go_enter Tryz.func64, Tryz.ntmps64
     go_wp2_with fail
     refine wp_loop_rounds 1 ?_
     rw [rounds_succ]
     go_wp2
     all_goals
      go_ret
      exact ⟨by rw [HX.out]; rfl, blw⟩
    ·clear hok
     go_enter Tryz.func64, Tryz.ntmps64
     go_wp2_with fail
     refine wp_loop_rounds 1 ?_
     rw [rounds_succ]
     go_wp2
     all_goals
      go_ret
      exact ⟨by rw [HX.out]; rfl, blw⟩
    ·have f1 : decide (ta ≤ (l.length : Int)) = false := decide_eq_false (by omega)
     clear hok
     go_enter Tryz.func64, Tryz.ntmps64
     go_wp2_with fail
     refine wp_loop_rounds 1 ?_
     rw [rounds_succ]
     go_wp2
     all_goals
      go_ret
      exact ⟨by rw [HX.out]; rfl, blw⟩
   ·have f1 := nb n1
    have f2 := nb n2
    have f3 := nb n3
    have f4 := nb n4
    have f5 := nb n5
    clear hok n1 n2 n3 n4 n5
    go_enter Tryz.func64, Tryz.ntmps64
    go_wp2_with fail
    refine wp_loop_rounds 1 ?_
    rw [rounds_succ]
    go_wp2
    all_goals
     go_ret
     exact ⟨by rw [HX.out]; rfl, blw⟩
theorem may20_c (x : Ty) (B : Nat) (w : World) (c0 c1 c2 c3 : Value) (h : TyIn w B x c0 c1 c2 c3) (hB : B ≤ w.heap.size) (hc : x.count ≤ 4611686018427387904) :
 Calls Tryz.prog 43 #[.agg #[c0, c1, c2, c3]] w fun e w' => e = .returned (.bool x.may) ∧ Below w.heap.size w w' := by
 have hdl := tyDeep_le x
 have h1 : TyIn (w.alloc (.cells #[c0, c1, c2, c3] 55)) B x c0 c1 c2 c3 := h.below blw
 have H1 := Lib.hid (refCount20_c x B _ c0 c1 c2 c3 h1 (by simp; omega) (by omega))
 have H2 := Lib.hid (fun w1 hb hz => refDeep20_c x B w1 c0 c1 c2 c3 (TyIn.below h1 hb) hz (by omega))
 have H3 := Lib.hid (fun w1 hb hz => right20_c x B w1 c0 c1 c2 c3 (TyIn.below h1 hb) hz)
 have HG : Hid (x.may = (decide (x.count ≤ 64) && decide (x.deep ≤ 8) && x.right)) := Lib.hid rfl
 obtain ⟨r, hr⟩ : ∃ r, x.right = r := ⟨_, rfl⟩
 obtain ⟨dp, hd⟩ : ∃ q, x.deep = q := ⟨_, rfl⟩
 obtain ⟨q, hq⟩ : ∃ q, x.count = q := ⟨_, rfl⟩
 rw [hr, hq, hd] at HG
 rw [hq] at H1
 rw [hd] at H2
 rw [hr] at H3
 obtain ⟨A, cap, rfl, rfl, rfl, rfl, _⟩ := h.open_
 clear hr hq hd hdl h1 h hc
 generalize x.may = R at *
 generalize x.kind = ki at *
 generalize x.size = si at *
 generalize x.tail = ta at *
 by_cases hq64 : q ≤ 64
 ·by_cases hdp : dp ≤ 8
  ·have HX : Hid (R = r) := Lib.hid (by rw [HG.out]; simp [hdp, hq64])
   clear HG
   go_enter Tryz.func43, Tryz.ntmps43
   go_wp2_with fail
   refine H1.out.mono ?_
   rintro e w1 ⟨rfl, hb⟩
   obtain ⟨g0, g1, g2, g3⟩ := box4 (by simpa using hb)
   have hbz := hb.size
   simp only [World.size_alloc] at hbz
   have hB1 := (Below.alloc (Below.refl w.heap.size w) (Nat.le_refl _) _).trans (hb.mono (by simp))
   go_wp2_with fail
   refine (H2.out w1 (hb.mono (by simp; omega)) (by omega)).mono ?_
   rintro e w2 ⟨rfl, hb2⟩
   have hb3 := hb.trans (hb2.mono (by simp; omega))
   have hbz2 := hb2.size
   obtain ⟨k0, k1, k2, k3⟩ := box4 (by simpa using hb3)
   have hB2 := hB1.trans (hb2.mono (by omega))
   go_wp2_with fail
   refine (H3.out w2 (hb3.mono (by simp; omega)) (by omega)).mono ?_
   rintro e w3 ⟨rfl, hb4⟩
   go_wp2
   go_ret
   exact ⟨by rw [HX.out]; rfl, hB2.trans (hb4.mono (by omega))⟩
  ·have HX : Hid (R = false) := Lib.hid (by rw [HG.out]; simp [hdp])
   clear HG
   go_enter Tryz.func43, Tryz.ntmps43
   go_wp2_with fail
   refine H1.out.mono ?_
   rintro e w1 ⟨rfl, hb⟩
   obtain ⟨g0, g1, g2, g3⟩ := box4 (by simpa using hb)
   have hbz := hb.size
   simp only [World.size_alloc] at hbz
   have hB1 := (Below.alloc (Below.refl w.heap.size w) (Nat.le_refl _) _).trans (hb.mono (by simp))
   go_wp2_with fail
   refine (H2.out w1 (hb.mono (by simp; omega)) (by omega)).mono ?_
   rintro e w2 ⟨rfl, hb2⟩
   go_wp2
   go_ret
   exact ⟨by rw [HX.out]; rfl, hB1.trans (hb2.mono (by omega))⟩
 ·have HX : Hid (R = false) := Lib.hid (by rw [HG.out]; simp [hq64])
  clear HG
  go_enter Tryz.func43, Tryz.ntmps43
  go_wp2_with fail
  refine H1.out.mono ?_
  rintro e w1 ⟨rfl, hb⟩
  go_wp2
  go_ret
  exact ⟨by rw [HX.out]; rfl, (Below.alloc (Below.refl _ _) (Nat.le_refl _) _).trans (hb.mono (by simp))⟩
theorem box_cells (w : World) (T : TypeId) (c0 c1 c2 : Value) (w1 : World) (hb : Below (w.heap.size + 1) (w.alloc (.cells #[c0, c1, c2] T)) w1) :
 w1.cell? ⟨w.heap.size, 0, none⟩ = some c0 ∧ w1.cell? ⟨w.heap.size, 1, none⟩ = some c1 ∧ w1.cell? ⟨w.heap.size, 2, none⟩ = some c2 := by
 refine ⟨?_, ?_, ?_⟩
 ·rw [hb.cell (by simp)]; simp
 ·rw [hb.cell (by simp)]; simp
 ·rw [hb.cell (by simp)]; simp
theorem formed_c (t : ByteArray) (l : Bool) (A : Option Addr) (n cap : Nat) (w : World) (hn : n ≤ 9223372036854775807) :
 Calls Tryz.prog 102 #[.agg #[.string t, .bool l, .slice A n cap]] w fun e w' => e = .returned (.bool (formed t l n)) ∧ Below w.heap.size w w' := by
 cases l with
 | true =>
  rcases empty_ways t with ⟨hz, rfl⟩ | ⟨hz, hz1, hz2⟩
  ·have HF : Hid (formed ⟨#[]⟩ true n = true) := Lib.hid rfl
   generalize formed ⟨#[]⟩ true n = R at *
   clear hz
   go_enter Tryz.func102, Tryz.ntmps102
   go_wp2
   go_ret
   exact ⟨by rw [HF.out]; rfl, blw⟩
  ·have HF : Hid (formed t true n = false) := Lib.hid (by simp [formed, hz])
   generalize formed t true n = R at *
   clear hz
   go_enter Tryz.func102, Tryz.ntmps102
   go_wp2
   go_ret
   exact ⟨by rw [HF.out]; rfl, blw⟩
 | false =>
  by_cases hl : n = 0
  ·have HF : Hid (formed t false n = true) := Lib.hid (by simp [formed, hl])
   generalize formed t false n = R at *
   go_enter Tryz.func102, Tryz.ntmps102
   go_wp2
   go_ret
   exact ⟨by rw [HF.out]; rfl, blw⟩
  ·have HF : Hid (formed t false n = false) := Lib.hid (by simp [formed, hl])
   have e1 : ((n : Int) == 0) = false := beq_eq_false_iff_ne.2 (by omega)
   generalize formed t false n = R at *
   clear hl
   go_enter Tryz.func102, Tryz.ntmps102
   go_wp2
   go_ret
   exact ⟨by rw [HF.out]; rfl, blw⟩
structure Vars (w : World) (cb eb db vb c d : Nat) : Prop where
 cnt : Blk w cb 3 #[.int .i64 c]
 each : Blk w eb 33 #[.func (.func 102) #[] #[]]
 dp : Blk w db 3 #[.int .i64 d]
 vis : Blk w vb 181 #[.func (.func 141) #[] #[.pointer (some ⟨cb, 0, none⟩), .pointer (some ⟨eb, 0, none⟩), .pointer (some ⟨db, 0, none⟩), .pointer (some ⟨vb, 0, none⟩)]]
theorem Vars.below {w w' : World} {cb eb db vb c d : Nat} (h : Vars w cb eb db vb c d) (hb : Below w.heap.size w w') : Vars w' cb eb db vb c d :=
 ⟨h.cnt.only (Only.of_below hb (Nat.le_refl _)) (by simp), h.each.only (Only.of_below hb (Nat.le_refl _)) (by simp), h.dp.only (Only.of_below hb (Nat.le_refl _)) (by simp), h.vis.only (Only.of_below hb (Nat.le_refl _)) (by simp)⟩
theorem Blk.ne_ {w : World} {g g' : Nat} {t t' : TypeId} {cs cs' : Array Value} (h : Blk w g t cs) (h' : Blk w g' t' cs') (hne : t ≠ t') : g ≠ g' := by
 rintro rfl
 unfold Blk at h h'
 rw [h] at h'
 injection h' with h'
 injection h' with _ ht
 exact hne ht
theorem Vars.step {w : World} {cb eb db vb c d c' d' : Nat} {u v : Int} (h : Vars w cb eb db vb c d) (hcd : cb ≠ db) (hu : u = (c' : Int)) (hv : v = (d' : Int)) : Vars ((w.setCell ⟨cb, 0, none⟩ (.int .i64 u)).setCell ⟨db, 0, none⟩ (.int .i64 v)) cb eb db vb c' d' := by
 subst hu; subst hv
 have n1 := h.cnt.ne_ h.each (by decide)
 have n2 := h.cnt.ne_ h.vis (by decide)
 have n3 := h.dp.ne_ h.each (by decide)
 have n4 := h.dp.ne_ h.vis (by decide)
 exact ⟨Blk.far (show Blk _ _ _ _ from one_setCell h.cnt) (p := ⟨db, 0, none⟩) hcd _, (h.each.far (p := ⟨cb, 0, none⟩) n1.symm _).far (p := ⟨db, 0, none⟩) n3.symm _, one_setCell (h.dp.far (p := ⟨cb, 0, none⟩) hcd.symm _), (h.vis.far (p := ⟨cb, 0, none⟩) n2.symm _).far (p := ⟨db, 0, none⟩) n4.symm _⟩
theorem visit_c : ∀ (x : It) (B : Nat) (w : World) (c0 c1 c2 : Value), ItIn w B x c0 c1 c2 → B ≤ w.heap.size → ∀ (cb eb db vb lv c d : Nat), Vars w cb eb db vb c d → B ≤ cb → B ≤ db → cb ≠ db → 1 ≤ lv → lv ≤ 17 → c ≤ 1024 → d ≤ 17 →
 Calls Tryz.prog 141 #[.agg #[c0, c1, c2], .int .i64 lv, .pointer (some ⟨cb, 0, none⟩), .pointer (some ⟨eb, 0, none⟩), .pointer (some ⟨db, 0, none⟩), .pointer (some ⟨vb, 0, none⟩)] w fun e w' =>
  e = .returned (.bool (x.vis lv c d).1) ∧ Vars w' cb eb db vb (x.vis lv c d).2.1 (x.vis lv c d).2.2 ∧ Only [cb, db] w w' := by
 intro x
 induction x using It.ind with
 | h t l s ih =>
  intro B w c0 c1 c2 h hB cb eb db vb lv c d hV hcB hdB hcd hlv hlv2 hc hd
  obtain ⟨rfl, rfl, ht, hs, A, cap, rfl, hcap, hcm, hsub⟩ := h
  have IH := Lib.hid ih
  have HS := Lib.hid hsub
  clear ih hsub
  have n1 := hV.cnt.ne_ hV.each (by decide)
  have n2 := hV.cnt.ne_ hV.vis (by decide)
  have n3 := hV.dp.ne_ hV.each (by decide)
  have n4 := hV.dp.ne_ hV.vis (by decide)
  have q1 : w.cell? ⟨cb, 0, none⟩ = some (.int .i64 c) := cell_of_one hV.cnt
  have q2 : w.cell? ⟨eb, 0, none⟩ = some (.func (.func 102) #[] #[]) := cell_of_one hV.each
  have q3 : w.cell? ⟨db, 0, none⟩ = some (.int .i64 d) := cell_of_one hV.dp
  have HV := Lib.hid hV
  have l1 := hV.cnt.lt
  have l2 := hV.each.lt
  have l3 := hV.dp.lt
  have l4 := hV.vis.lt
  have HR : Hid ((It.mk t l s).vis lv c d = if 16 < lv ∨ c = 1024 ∨ formed t l s.length = false then (false, c, d) else visL s (lv + 1) (c + 1) (max d lv)) := Lib.hid (by simp only [It.vis])
  generalize (It.mk t l s).vis lv c d = R at *
  clear hV
  by_cases h1 : 16 < lv
  ·have HX : Hid (R = (false, c, d)) := Lib.hid (by rw [HR.out, if_pos (.inl h1)])
   clear HR
   go_enter Tryz.func141, Tryz.ntmps141
   go_wp2
   go_ret
   rw [HX.out]
   exact ⟨rfl, HV.out.below blw, onl⟩
  ·by_cases h2 : c = 1024
   ·have e1 : ((c : Int) == 1024) = true := by simp; omega
    have HX : Hid (R = (false, c, d)) := Lib.hid (by rw [HR.out, if_pos (.inr (.inl h2))])
    clear HR h2
    go_enter Tryz.func141, Tryz.ntmps141
    go_wp2
    go_ret
    rw [HX.out]
    exact ⟨rfl, HV.out.below blw, onl⟩
   ·have e1 : ((c : Int) == 1024) = false := beq_eq_false_iff_ne.2 (by omega)
    have HF := Lib.hid (formed_c t l A s.length cap (w.alloc (.cells #[.string t, .bool l, .slice A s.length cap] 28)) hs)
    cases hf : formed t l s.length with
    | false =>
     rw [hf] at HF
     have HX : Hid (R = (false, c, d)) := Lib.hid (by rw [HR.out, if_pos (.inr (.inr hf))])
     clear HR hf h2
     go_enter Tryz.func141, Tryz.ntmps141
     go_wp2_with fail
     refine HF.out.mono ?_
     rintro e w1 ⟨rfl, hb⟩
     go_wp2
     go_ret
     rw [HX.out]
     have hb2 : Below w.heap.size w w1 := (Below.alloc (Below.refl _ _) (Nat.le_refl _) _).trans (hb.mono (by simp))
     exact ⟨rfl, HV.out.below hb2, (Only.of_below hb2 (Nat.le_refl _)).mono (by simp)⟩
    | true =>
     rw [hf] at HF
     have HX : Hid (R = visL s (lv + 1) (c + 1) (max d lv)) := Lib.hid (by rw [HR.out, if_neg (by rw [hf]; simp; omega)])
     have hc2 : c ≤ 1023 := by omega
     clear HR hf h2
     rcases Nat.lt_trichotomy d lv with hx | hx | hx
     ·have HM : Hid (max d lv = lv) := Lib.hid (by omega)
      rw [HM.out] at HX
      go_enter Tryz.func141, Tryz.ntmps141
      go_wp2_with fail
      refine HF.out.mono ?_
      rintro e w1 ⟨rfl, hb0⟩
      obtain ⟨g0, g1, g2⟩ := box_cells w 28 _ _ _ w1 (by simpa using hb0)
      have hb2 : Below w.heap.size w w1 := (Below.alloc (Below.refl _ _) (Nat.le_refl _) _).trans (hb0.mono (by simp))
      have hV1 := HV.out.below hb2
      have p1 : w1.cell? ⟨cb, 0, none⟩ = some (.int .i64 c) := cell_of_one hV1.cnt
      have p1f : w1.frozen? ⟨cb, 0, none⟩ = false := free_of_one hV1.cnt
      have p3 : w1.cell? ⟨db, 0, none⟩ = some (.int .i64 d) := cell_of_one hV1.dp
      have p3f : w1.frozen? ⟨db, 0, none⟩ = false := free_of_one hV1.dp
      have HV1 := Lib.hid hV1
      have hbz := hb2.size
      clear hV1 hb0 q1 q2 q3 HF
      go_wp2_with fail
      all_goals
       go_loopw [31] (fun i wr => ∃ k c' d' : Nat, k ≤ s.length ∧ i = .int .i64 k ∧ Hid (visL (s.take k) (lv + 1) (c + 1) lv = (true, c', d')) ∧ Vars wr cb eb db vb c' d' ∧ Only [cb, db] w wr ∧ c' ≤ 1024 ∧ d' ≤ 17) (fun i _ => s.length - (intOf i).toNat)
       case atStart =>
        refine ⟨0, c + 1, lv, by omega, rfl, Lib.hid (by simp [visL]), HV1.out.step hcd (by omega) (by omega), ?_, by omega, by omega⟩
        exact (((Only.of_below hb2 (Nat.le_refl _)).mono (by simp)).setCell (by simp) _).setCell (by simp) _
       case round =>
        obtain ⟨k, c', d', hk, rfl, hvs, hVr, hon, hc', hd'⟩ := hrel
        have q4 : wr.cell? ⟨vb, 0, none⟩ = some (.func (.func 141) #[] #[.pointer (some ⟨cb, 0, none⟩), .pointer (some ⟨eb, 0, none⟩), .pointer (some ⟨db, 0, none⟩), .pointer (some ⟨vb, 0, none⟩)]) := cell_of_one hVr.vis
        have hbr : Below B w wr := hon.below hB (by simp; omega)
        have hrz := hon.size
        have l4r : vb < wr.heap.size := by omega
        have HVR := Lib.hid hVr
        clear hVr
        by_cases hlt : k < s.length
        ·obtain ⟨b, o, d0, d1, d2, rfl, hbB, e0, e1', e2, hi⟩ := HS.out.at_ k hlt
         simp only [Nat.zero_add] at e0 e1' e2
         replace e0 := (hbr.cell (p := ⟨b, o + k * 3, none⟩) hbB).trans e0
         replace e1' := (hbr.cell (p := ⟨b, o + k * 3 + 1, none⟩) hbB).trans e1'
         replace e2 := (hbr.cell (p := ⟨b, o + k * 3 + 2, none⟩) hbB).trans e2
         obtain ⟨A2, cap2, rfl, rfl, rfl, _⟩ := hi.open_
         have hmem := List.getElem_mem hlt
         have hiw := hi.below hbr
         have hVa := HVR.out.below (Below.alloc (Below.refl _ wr) (Nat.le_refl _) (.cells #[.string s[k].text, .bool s[k].list, .slice A2 s[k].sub.length cap2] 28))
         have HC := Lib.hid (IH.out _ hmem B (wr.alloc (.cells #[.string s[k].text, .bool s[k].list, .slice A2 s[k].sub.length cap2] 28)) _ _ _ (hiw.below (Below.alloc (Below.refl _ _) (by omega) _)) (by simp; omega) cb eb db vb (lv + 1) c' d' hVa hcB hdB hcd (by omega) (by omega) hc' hd')
         have hvb := (vis_is s[k] (lv + 1) c' d' (by omega) hc').2.2
         obtain ⟨⟨r, c2, dd⟩, hT⟩ : ∃ T, s[k].vis (lv + 1) c' d' = T := ⟨_, rfl⟩
         rw [hT] at HC hvb
         have hvb2 : c2 ≤ 1024 ∧ dd ≤ 17 := by simp at hvb; omega
         obtain ⟨hv1, hv2⟩ := hvb2
         have e9 : (lv : Int) + 1 = ((lv + 1 : Nat) : Int) := by omega
         have E9 := Lib.hid e9
         cases r with
         | true =>
          have HN : Hid (visL (s.take (k + 1)) (lv + 1) (c + 1) lv = (true, c2, dd)) := Lib.hid (by rw [visL_take hlt hvs.out, hT])
          clear hi hiw hVa hT hvb e9
          go_wp2_with fail
          rw [E9.out]
          refine HC.out.mono ?_
          rintro e w2 ⟨rfl, hV2, ho2⟩
          have hon2 : Only [cb, db] w w2 := (hon.alloc _).trans ho2
          clear ho2
          go_wp2
          go_roundw
          case rel => exact ⟨k + 1, c2, dd, by omega, by go_num, HN, hV2, hon2, hv1, hv2⟩
          case measure => simp [intOf]; omega
         | false =>
          have HN : Hid (visL s (lv + 1) (c + 1) lv = (false, c2, dd)) := Lib.hid (visL_stop hlt hvs.out hT)
          clear hi hiw hVa hT hvb e9
          go_wp2_with fail
          rw [E9.out]
          refine HC.out.mono ?_
          rintro e w2 ⟨rfl, hV2, ho2⟩
          have hon2 : Only [cb, db] w w2 := (hon.alloc _).trans ho2
          clear ho2
          go_wp2
          go_ret
          rw [HX.out, HN.out]
          exact ⟨rfl, hV2, hon2⟩
        ·have hvs1 := hvs.out
         rw [List.take_of_length_le (by omega)] at hvs1
         have HN := Lib.hid hvs1
         clear hvs1
         go_wp2
         go_ret
         rw [HX.out, HN.out]
         exact ⟨rfl, HVR.out, hon⟩
     ·have HM : Hid (max d lv = lv) := Lib.hid (by omega)
      rw [HM.out] at HX
      go_enter Tryz.func141, Tryz.ntmps141
      go_wp2_with fail
      refine HF.out.mono ?_
      rintro e w1 ⟨rfl, hb0⟩
      obtain ⟨g0, g1, g2⟩ := box_cells w 28 _ _ _ w1 (by simpa using hb0)
      have hb2 : Below w.heap.size w w1 := (Below.alloc (Below.refl _ _) (Nat.le_refl _) _).trans (hb0.mono (by simp))
      have hV1 := HV.out.below hb2
      have p1 : w1.cell? ⟨cb, 0, none⟩ = some (.int .i64 c) := cell_of_one hV1.cnt
      have p1f : w1.frozen? ⟨cb, 0, none⟩ = false := free_of_one hV1.cnt
      have p3 : w1.cell? ⟨db, 0, none⟩ = some (.int .i64 d) := cell_of_one hV1.dp
      have p3f : w1.frozen? ⟨db, 0, none⟩ = false := free_of_one hV1.dp
      have HV1 := Lib.hid hV1
      have hbz := hb2.size
      clear hV1 hb0 q1 q2 q3 HF
      go_wp2_with fail
      all_goals
       go_loopw [31] (fun i wr => ∃ k c' d' : Nat, k ≤ s.length ∧ i = .int .i64 k ∧ Hid (visL (s.take k) (lv + 1) (c + 1) lv = (true, c', d')) ∧ Vars wr cb eb db vb c' d' ∧ Only [cb, db] w wr ∧ c' ≤ 1024 ∧ d' ≤ 17) (fun i _ => s.length - (intOf i).toNat)
       case atStart =>
        refine ⟨0, c + 1, lv, by omega, rfl, Lib.hid (by simp [visL]), HV1.out.step hcd (by omega) (by omega), ?_, by omega, by omega⟩
        exact (((Only.of_below hb2 (Nat.le_refl _)).mono (by simp)).setCell (by simp) _).setCell (by simp) _
       case round =>
        obtain ⟨k, c', d', hk, rfl, hvs, hVr, hon, hc', hd'⟩ := hrel
        have q4 : wr.cell? ⟨vb, 0, none⟩ = some (.func (.func 141) #[] #[.pointer (some ⟨cb, 0, none⟩), .pointer (some ⟨eb, 0, none⟩), .pointer (some ⟨db, 0, none⟩), .pointer (some ⟨vb, 0, none⟩)]) := cell_of_one hVr.vis
        have hbr : Below B w wr := hon.below hB (by simp; omega)
        have hrz := hon.size
        have l4r : vb < wr.heap.size := by omega
        have HVR := Lib.hid hVr
        clear hVr
        by_cases hlt : k < s.length
        ·obtain ⟨b, o, d0, d1, d2, rfl, hbB, e0, e1', e2, hi⟩ := HS.out.at_ k hlt
         simp only [Nat.zero_add] at e0 e1' e2
         replace e0 := (hbr.cell (p := ⟨b, o + k * 3, none⟩) hbB).trans e0
         replace e1' := (hbr.cell (p := ⟨b, o + k * 3 + 1, none⟩) hbB).trans e1'
         replace e2 := (hbr.cell (p := ⟨b, o + k * 3 + 2, none⟩) hbB).trans e2
         obtain ⟨A2, cap2, rfl, rfl, rfl, _⟩ := hi.open_
         have hmem := List.getElem_mem hlt
         have hiw := hi.below hbr
         have hVa := HVR.out.below (Below.alloc (Below.refl _ wr) (Nat.le_refl _) (.cells #[.string s[k].text, .bool s[k].list, .slice A2 s[k].sub.length cap2] 28))
         have HC := Lib.hid (IH.out _ hmem B (wr.alloc (.cells #[.string s[k].text, .bool s[k].list, .slice A2 s[k].sub.length cap2] 28)) _ _ _ (hiw.below (Below.alloc (Below.refl _ _) (by omega) _)) (by simp; omega) cb eb db vb (lv + 1) c' d' hVa hcB hdB hcd (by omega) (by omega) hc' hd')
         have hvb := (vis_is s[k] (lv + 1) c' d' (by omega) hc').2.2
         obtain ⟨⟨r, c2, dd⟩, hT⟩ : ∃ T, s[k].vis (lv + 1) c' d' = T := ⟨_, rfl⟩
         rw [hT] at HC hvb
         have hvb2 : c2 ≤ 1024 ∧ dd ≤ 17 := by simp at hvb; omega
         obtain ⟨hv1, hv2⟩ := hvb2
         have e9 : (lv : Int) + 1 = ((lv + 1 : Nat) : Int) := by omega
         have E9 := Lib.hid e9
         cases r with
         | true =>
          have HN : Hid (visL (s.take (k + 1)) (lv + 1) (c + 1) lv = (true, c2, dd)) := Lib.hid (by rw [visL_take hlt hvs.out, hT])
          clear hi hiw hVa hT hvb e9
          go_wp2_with fail
          rw [E9.out]
          refine HC.out.mono ?_
          rintro e w2 ⟨rfl, hV2, ho2⟩
          have hon2 : Only [cb, db] w w2 := (hon.alloc _).trans ho2
          clear ho2
          go_wp2
          go_roundw
          case rel => exact ⟨k + 1, c2, dd, by omega, by go_num, HN, hV2, hon2, hv1, hv2⟩
          case measure => simp [intOf]; omega
         | false =>
          have HN : Hid (visL s (lv + 1) (c + 1) lv = (false, c2, dd)) := Lib.hid (visL_stop hlt hvs.out hT)
          clear hi hiw hVa hT hvb e9
          go_wp2_with fail
          rw [E9.out]
          refine HC.out.mono ?_
          rintro e w2 ⟨rfl, hV2, ho2⟩
          have hon2 : Only [cb, db] w w2 := (hon.alloc _).trans ho2
          clear ho2
          go_wp2
          go_ret
          rw [HX.out, HN.out]
          exact ⟨rfl, hV2, hon2⟩
        ·have hvs1 := hvs.out
         rw [List.take_of_length_le (by omega)] at hvs1
         have HN := Lib.hid hvs1
         clear hvs1
         go_wp2
         go_ret
         rw [HX.out, HN.out]
         exact ⟨rfl, HVR.out, hon⟩
     ·have HM : Hid (max d lv = d) := Lib.hid (by omega)
      rw [HM.out] at HX
      go_enter Tryz.func141, Tryz.ntmps141
      go_wp2_with fail
      refine HF.out.mono ?_
      rintro e w1 ⟨rfl, hb0⟩
      obtain ⟨g0, g1, g2⟩ := box_cells w 28 _ _ _ w1 (by simpa using hb0)
      have hb2 : Below w.heap.size w w1 := (Below.alloc (Below.refl _ _) (Nat.le_refl _) _).trans (hb0.mono (by simp))
      have hV1 := HV.out.below hb2
      have p1 : w1.cell? ⟨cb, 0, none⟩ = some (.int .i64 c) := cell_of_one hV1.cnt
      have p1f : w1.frozen? ⟨cb, 0, none⟩ = false := free_of_one hV1.cnt
      have p3 : w1.cell? ⟨db, 0, none⟩ = some (.int .i64 d) := cell_of_one hV1.dp
      have p3f : w1.frozen? ⟨db, 0, none⟩ = false := free_of_one hV1.dp
      have HV1 := Lib.hid hV1
      have hbz := hb2.size
      clear hV1 hb0 q1 q2 q3 HF
      go_wp2_with fail
      all_goals
       go_loopw [31] (fun i wr => ∃ k c' d' : Nat, k ≤ s.length ∧ i = .int .i64 k ∧ Hid (visL (s.take k) (lv + 1) (c + 1) d = (true, c', d')) ∧ Vars wr cb eb db vb c' d' ∧ Only [cb, db] w wr ∧ c' ≤ 1024 ∧ d' ≤ 17) (fun i _ => s.length - (intOf i).toNat)
       case atStart =>
        refine ⟨0, c + 1, d, by omega, rfl, Lib.hid (by simp [visL]), HV1.out.step hcd (by omega) (by omega), ?_, by omega, by omega⟩
        exact (((Only.of_below hb2 (Nat.le_refl _)).mono (by simp)).setCell (by simp) _).setCell (by simp) _
       case round =>
        obtain ⟨k, c', d', hk, rfl, hvs, hVr, hon, hc', hd'⟩ := hrel
        have q4 : wr.cell? ⟨vb, 0, none⟩ = some (.func (.func 141) #[] #[.pointer (some ⟨cb, 0, none⟩), .pointer (some ⟨eb, 0, none⟩), .pointer (some ⟨db, 0, none⟩), .pointer (some ⟨vb, 0, none⟩)]) := cell_of_one hVr.vis
        have hbr : Below B w wr := hon.below hB (by simp; omega)
        have hrz := hon.size
        have l4r : vb < wr.heap.size := by omega
        have HVR := Lib.hid hVr
        clear hVr
        by_cases hlt : k < s.length
        ·obtain ⟨b, o, d0, d1, d2, rfl, hbB, e0, e1', e2, hi⟩ := HS.out.at_ k hlt
         simp only [Nat.zero_add] at e0 e1' e2
         replace e0 := (hbr.cell (p := ⟨b, o + k * 3, none⟩) hbB).trans e0
         replace e1' := (hbr.cell (p := ⟨b, o + k * 3 + 1, none⟩) hbB).trans e1'
         replace e2 := (hbr.cell (p := ⟨b, o + k * 3 + 2, none⟩) hbB).trans e2
         obtain ⟨A2, cap2, rfl, rfl, rfl, _⟩ := hi.open_
         have hmem := List.getElem_mem hlt
         have hiw := hi.below hbr
         have hVa := HVR.out.below (Below.alloc (Below.refl _ wr) (Nat.le_refl _) (.cells #[.string s[k].text, .bool s[k].list, .slice A2 s[k].sub.length cap2] 28))
         have HC := Lib.hid (IH.out _ hmem B (wr.alloc (.cells #[.string s[k].text, .bool s[k].list, .slice A2 s[k].sub.length cap2] 28)) _ _ _ (hiw.below (Below.alloc (Below.refl _ _) (by omega) _)) (by simp; omega) cb eb db vb (lv + 1) c' d' hVa hcB hdB hcd (by omega) (by omega) hc' hd')
         have hvb := (vis_is s[k] (lv + 1) c' d' (by omega) hc').2.2
         obtain ⟨⟨r, c2, dd⟩, hT⟩ : ∃ T, s[k].vis (lv + 1) c' d' = T := ⟨_, rfl⟩
         rw [hT] at HC hvb
         have hvb2 : c2 ≤ 1024 ∧ dd ≤ 17 := by simp at hvb; omega
         obtain ⟨hv1, hv2⟩ := hvb2
         have e9 : (lv : Int) + 1 = ((lv + 1 : Nat) : Int) := by omega
         have E9 := Lib.hid e9
         cases r with
         | true =>
          have HN : Hid (visL (s.take (k + 1)) (lv + 1) (c + 1) d = (true, c2, dd)) := Lib.hid (by rw [visL_take hlt hvs.out, hT])
          clear hi hiw hVa hT hvb e9
          go_wp2_with fail
          rw [E9.out]
          refine HC.out.mono ?_
          rintro e w2 ⟨rfl, hV2, ho2⟩
          have hon2 : Only [cb, db] w w2 := (hon.alloc _).trans ho2
          clear ho2
          go_wp2
          go_roundw
          case rel => exact ⟨k + 1, c2, dd, by omega, by go_num, HN, hV2, hon2, hv1, hv2⟩
          case measure => simp [intOf]; omega
         | false =>
          have HN : Hid (visL s (lv + 1) (c + 1) d = (false, c2, dd)) := Lib.hid (visL_stop hlt hvs.out hT)
          clear hi hiw hVa hT hvb e9
          go_wp2_with fail
          rw [E9.out]
          refine HC.out.mono ?_
          rintro e w2 ⟨rfl, hV2, ho2⟩
          have hon2 : Only [cb, db] w w2 := (hon.alloc _).trans ho2
          clear ho2
          go_wp2
          go_ret
          rw [HX.out, HN.out]
          exact ⟨rfl, hV2, hon2⟩
        ·have hvs1 := hvs.out
         rw [List.take_of_length_le (by omega)] at hvs1
         have HN := Lib.hid hvs1
         clear hvs1
         go_wp2
         go_ret
         rw [HX.out, HN.out]
         exact ⟨rfl, HVR.out, hon⟩
end Go.Proofs.YtnfpgadegpmhkaaGreatDoor
