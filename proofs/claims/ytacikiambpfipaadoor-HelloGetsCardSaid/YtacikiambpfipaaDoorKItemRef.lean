/- What the document tells of items (hatchwayref08.Count, Deep, right, May), and what the statements ask (room, size, Great). -/
import Derived.Test.YtacikiambpfipaaDoorProg
import Derived.Test.YtacikiambpfipaaDoorKA4
import Derived.Deep.QuietTactic
import Derived.BigQuiet
import Derived.Deep.DeepFit
import Derived.WalkSpells
namespace Go.Proofs.YtacikiambpfipaaDoor
set_option linter.unusedVariables false
set_option linter.unusedSimpArgs false
open Go.RowKit

theorem countL_take (s : List It) (k : Nat) (h : k < s.length) : countL (s.take (k + 1)) = countL (s.take k) + s[k].count := by
  rw [take_succ_it s k h, countL_append]; simp [countL]
theorem countL_take_le (s : List It) (k : Nat) : countL (s.take k) ≤ countL s := by
  have := countL_append (s.take k) (s.drop k)
  rw [List.take_append_drop] at this
  omega
theorem deepL_take (s : List It) (k : Nat) (h : k < s.length) : deepL (s.take (k + 1)) = max (deepL (s.take k)) s[k].deep := by
  rw [take_succ_it s k h, deepL_append]; simp [deepL]
theorem deepL_take_le (s : List It) (k : Nat) : deepL (s.take k) ≤ deepL s := by
  have := deepL_append (s.take k) (s.drop k)
  rw [List.take_append_drop] at this
  omega

set_option maxRecDepth 100000 in
set_option maxHeartbeats 400000 in
theorem refCount_c : ∀ (x : It) (B : Nat) (w : World) (c0 c1 c2 : Value), ItIn w B x c0 c1 c2 → B ≤ w.heap.size → x.count ≤ 4611686018427387904 →
    Calls Tryd.prog 116 #[.agg #[c0, c1, c2]] w fun e w' => e = .returned (.int .i64 x.count) ∧ Below w.heap.size w w' := by
  intro x
  induction x using It.ind with
  | h t l s ih =>
    intro B w c0 c1 c2 h hB hc
    obtain ⟨rfl, rfl, ht, hs, A, cap, rfl, hcap, hcm, hsub⟩ := h
    have IH := Lib.hid ih
    have HS := Lib.hid hsub
    clear ih hsub
    have hcl : 1 + countL s ≤ 4611686018427387904 := by simpa only [It.count] using hc
    rw [show (It.mk t l s).count = 1 + countL s from by simp only [It.count]]
    clear hc
    go_enter Tryd.func116, Tryd.ntmps116
    go_wp2_with fail
    go_loopw [3, 4] (fun n i wr => ∃ k m : Nat, k ≤ s.length ∧ i = .int .i64 k ∧ Hid (m = 1 + countL (s.take k)) ∧ n = .int .i64 m ∧ Below w.heap.size w wr ∧ wr.cell? ⟨w.heap.size, 2, none⟩ = some (.slice A s.length cap)) (fun _ i _ => s.length - (intOf i).toNat)
    case atStart => exact ⟨0, 1, by omega, rfl, Lib.hid (by simp [countL]), rfl, (by repeat (first | exact Below.refl _ _ | assumption | with_reducible refine Below.drewN' ?_ _ | with_reducible refine Below.drew ?_ | ((with_reducible refine Below.alloc' ?_ ?_ _); · (first | omega | (simp <;> omega))))), by simp⟩
    case round =>
      obtain ⟨k, m, hk, rfl, hm, rfl, hb, hcell⟩ := hrel
      by_cases hlt : k < s.length
      · obtain ⟨b, o, d0, d1, d2, rfl, hbB, e0, e1, e2, hi⟩ := HS.out.at_ k hlt
        simp only [Nat.zero_add] at e0 e1 e2
        replace e0 := (hb.cell (p := ⟨b, o + k * 3, none⟩) (by simp; omega)).trans e0
        replace e1 := (hb.cell (p := ⟨b, o + k * 3 + 1, none⟩) (by simp; omega)).trans e1
        replace e2 := (hb.cell (p := ⟨b, o + k * 3 + 2, none⟩) (by simp; omega)).trans e2
        have hbz := hb.size
        have hmem := List.getElem_mem hlt
        have hiw := hi.below (hb.mono hB)
        have hct := countL_take s k hlt
        have hcle := countL_take_le s (k + 1)
        have hm1 := hm.out
        obtain ⟨q, hq⟩ : ∃ q, s[k].count = q := ⟨_, rfl⟩
        have hqm : m + q ≤ 4611686018427387904 := by omega
        have Hq : Hid (m + q = 1 + countL (s.take (k + 1))) := Lib.hid (by omega)
        have HC := Lib.hid (IH.out _ hmem B wr d0 d1 d2 hiw (by omega) (by omega))
        rw [hq] at HC
        clear hct hcle hm1 hq hiw hi
        go_wp2_with fail
        refine HC.out.mono ?_
        rintro e w2 ⟨rfl, hb2⟩
        have hbz2 := hb2.size
        have hbl := lt_of_cell hcell
        have hcell2 := (hb2.cell (p := ⟨w.heap.size, 2, none⟩) (by simp; omega)).trans hcell
        have hb3 := hb.trans (hb2.mono hbz)
        go_wp2
        go_roundw
        case rel => exact ⟨k + 1, m + q, by omega, by go_num, Hq, by go_num, hb3, hcell2⟩
        case measure => simp [intOf]; omega
      · have hm1 := hm.out
        rw [List.take_of_length_le (by omega)] at hm1
        have HM := Lib.hid hm1
        clear hm1
        go_wp2
        go_ret
        exact ⟨by show Ending.returned (.int .i64 m) = _; rw [HM.out], hb⟩

set_option maxRecDepth 100000 in
set_option maxHeartbeats 400000 in
theorem refDeep_c : ∀ (x : It) (B : Nat) (w : World) (c0 c1 c2 : Value), ItIn w B x c0 c1 c2 → B ≤ w.heap.size → x.deep ≤ 4611686018427387904 →
    Calls Tryd.prog 115 #[.agg #[c0, c1, c2]] w fun e w' => e = .returned (.int .i64 x.deep) ∧ Below w.heap.size w w' := by
  intro x
  induction x using It.ind with
  | h t l s ih =>
    intro B w c0 c1 c2 h hB hc
    obtain ⟨rfl, rfl, ht, hs, A, cap, rfl, hcap, hcm, hsub⟩ := h
    have IH := Lib.hid ih
    have HS := Lib.hid hsub
    clear ih hsub
    have hcl : deepL s + 1 ≤ 4611686018427387904 := by simpa only [It.deep] using hc
    rw [show (It.mk t l s).deep = deepL s + 1 from by simp only [It.deep]]
    clear hc
    go_enter Tryd.func115, Tryd.ntmps115
    go_wp2_with fail
    go_loopw [3, 4] (fun n i wr => ∃ k m : Nat, k ≤ s.length ∧ i = .int .i64 k ∧ Hid (m = deepL (s.take k)) ∧ m ≤ 4611686018427387904 ∧ n = .int .i64 m ∧ Below w.heap.size w wr ∧ wr.cell? ⟨w.heap.size, 2, none⟩ = some (.slice A s.length cap)) (fun _ i _ => s.length - (intOf i).toNat)
    case atStart => exact ⟨0, 0, by omega, rfl, Lib.hid (by simp [deepL]), by omega, rfl, (by repeat (first | exact Below.refl _ _ | assumption | with_reducible refine Below.drewN' ?_ _ | with_reducible refine Below.drew ?_ | ((with_reducible refine Below.alloc' ?_ ?_ _); · (first | omega | (simp <;> omega))))), by simp⟩
    case round =>
      obtain ⟨k, m, hk, rfl, hm, hmb, rfl, hb, hcell⟩ := hrel
      by_cases hlt : k < s.length
      · obtain ⟨b, o, d0, d1, d2, rfl, hbB, e0, e1, e2, hi⟩ := HS.out.at_ k hlt
        simp only [Nat.zero_add] at e0 e1 e2
        replace e0 := (hb.cell (p := ⟨b, o + k * 3, none⟩) (by simp; omega)).trans e0
        replace e1 := (hb.cell (p := ⟨b, o + k * 3 + 1, none⟩) (by simp; omega)).trans e1
        replace e2 := (hb.cell (p := ⟨b, o + k * 3 + 2, none⟩) (by simp; omega)).trans e2
        have hbz := hb.size
        have hmem := List.getElem_mem hlt
        have hiw := hi.below (hb.mono hB)
        have hct := deepL_take s k hlt
        have hcle := deepL_take_le s (k + 1)
        have hm1 := hm.out
        obtain ⟨q, hq⟩ : ∃ q, s[k].deep = q := ⟨_, rfl⟩
        have hqm : q ≤ 4611686018427387904 := by omega
        have HC := Lib.hid (IH.out _ hmem B wr d0 d1 d2 hiw (by omega) (by omega))
        rw [hq] at HC
        by_cases hlt2 : m < q
        · have Hq : Hid (q = deepL (s.take (k + 1))) := Lib.hid (by omega)
          clear hct hcle hm1 hq hiw hi
          go_wp2_with fail
          refine HC.out.mono ?_
          rintro e w2 ⟨rfl, hb2⟩
          have hbz2 := hb2.size
          have hbl := lt_of_cell hcell
          have hcell2 := (hb2.cell (p := ⟨w.heap.size, 2, none⟩) (by simp; omega)).trans hcell
          have hb3 := hb.trans (hb2.mono hbz)
          go_wp2
          go_roundw
          case rel => exact ⟨k + 1, q, by omega, by go_num, Hq, by omega, by go_num, hb3, hcell2⟩
          case measure => simp [intOf]; omega
        · have Hq : Hid (m = deepL (s.take (k + 1))) := Lib.hid (by omega)
          clear hct hcle hm1 hq hiw hi
          go_wp2_with fail
          refine HC.out.mono ?_
          rintro e w2 ⟨rfl, hb2⟩
          have hbz2 := hb2.size
          have hbl := lt_of_cell hcell
          have hcell2 := (hb2.cell (p := ⟨w.heap.size, 2, none⟩) (by simp; omega)).trans hcell
          have hb3 := hb.trans (hb2.mono hbz)
          go_wp2
          go_roundw
          case rel => exact ⟨k + 1, m, by omega, by go_num, Hq, by omega, by go_num, hb3, hcell2⟩
          case measure => simp [intOf]; omega
      · have hm1 := hm.out
        rw [List.take_of_length_le (by omega)] at hm1
        have HM := Lib.hid hm1
        clear hm1
        go_wp2
        go_ret
        exact ⟨by show Ending.returned (.int .i64 ((m : Int) + 1)) = _; rw [HM.out]; go_num, hb⟩

theorem rightL_take (s : List It) (k : Nat) (h : k < s.length) : rightL (s.take (k + 1)) = (rightL (s.take k) && s[k].right) := by
  rw [take_succ_it s k h, rightL_append]; simp [rightL]
theorem rightL_false (s : List It) (k : Nat) (h : k < s.length) (hf : s[k].right = false) : rightL s = false := by
  have h1 := rightL_append (s.take (k + 1)) (s.drop (k + 1))
  rw [List.take_append_drop, rightL_take s k h, hf] at h1
  simpa using h1

set_option maxRecDepth 100000 in
set_option maxHeartbeats 400000 in
theorem refRight_c : ∀ (x : It) (B : Nat) (w : World) (c0 c1 c2 : Value), ItIn w B x c0 c1 c2 → B ≤ w.heap.size →
    Calls Tryd.prog 152 #[.agg #[c0, c1, c2]] w fun e w' => e = .returned (.bool x.right) ∧ Below w.heap.size w w' := by
  intro x
  induction x using It.ind with
  | h t l s ih =>
    intro B w c0 c1 c2 h hB
    obtain ⟨rfl, rfl, ht, hs, A, cap, rfl, hcap, hcm, hsub⟩ := h
    have IH := Lib.hid ih
    have HS := Lib.hid hsub
    clear ih hsub
    have HR : Hid ((It.mk t l s).right = (formed t l s.length && rightL s)) := Lib.hid (by simp only [It.right])
    generalize (It.mk t l s).right = R at *
    cases l with
    | true =>
      rcases empty_ways t with ⟨hz, rfl⟩ | ⟨hz, hz1, hz2⟩
      · have HR1 : Hid (R = rightL s) := Lib.hid (by rw [HR.out]; simp [formed, ByteArray.size])
        clear HR hz
        go_enter Tryd.func152, Tryd.ntmps152
        go_wp2_with fail
        go_loopw [3] (fun i wr => ∃ k : Nat, k ≤ s.length ∧ i = .int .i64 k ∧ Hid (rightL (s.take k) = true) ∧ Below w.heap.size w wr ∧ wr.cell? ⟨w.heap.size, 2, none⟩ = some (.slice A s.length cap)) (fun i _ => s.length - (intOf i).toNat)
        case atStart => exact ⟨0, by omega, rfl, Lib.hid (by simp [rightL]), (by repeat (first | exact Below.refl _ _ | assumption | with_reducible refine Below.drewN' ?_ _ | with_reducible refine Below.drew ?_ | ((with_reducible refine Below.alloc' ?_ ?_ _); · (first | omega | (simp <;> omega))))), by simp⟩
        case round =>
          obtain ⟨k, hk, rfl, hm, hb, hcell⟩ := hrel
          by_cases hlt : k < s.length
          · obtain ⟨b, o, d0, d1, d2, rfl, hbB, e0, e1, e2, hi⟩ := HS.out.at_ k hlt
            simp only [Nat.zero_add] at e0 e1 e2
            replace e0 := (hb.cell (p := ⟨b, o + k * 3, none⟩) (by simp; omega)).trans e0
            replace e1 := (hb.cell (p := ⟨b, o + k * 3 + 1, none⟩) (by simp; omega)).trans e1
            replace e2 := (hb.cell (p := ⟨b, o + k * 3 + 2, none⟩) (by simp; omega)).trans e2
            have hbz := hb.size
            have hmem := List.getElem_mem hlt
            have hiw := hi.below (hb.mono hB)
            have HC := Lib.hid (IH.out _ hmem B wr d0 d1 d2 hiw (by omega))
            cases hq : s[k].right with
            | true =>
              rw [hq] at HC
              have Hq : Hid (rightL (s.take (k + 1)) = true) := Lib.hid (by rw [rightL_take s k hlt, hm.out, hq]; rfl)
              clear hq hiw hi
              go_wp2_with fail
              refine HC.out.mono ?_
              rintro e w2 ⟨rfl, hb2⟩
              have hbz2 := hb2.size
              have hbl := lt_of_cell hcell
              have hcell2 := (hb2.cell (p := ⟨w.heap.size, 2, none⟩) (by simp; omega)).trans hcell
              have hb3 := hb.trans (hb2.mono hbz)
              go_wp2
              go_roundw
              case rel => exact ⟨k + 1, by omega, by go_num, Hq, hb3, hcell2⟩
              case measure => simp [intOf]; omega
            | false =>
              rw [hq] at HC
              have Hq : Hid (rightL s = false) := Lib.hid (rightL_false s k hlt hq)
              clear hq hiw hi
              go_wp2_with fail
              refine HC.out.mono ?_
              rintro e w2 ⟨rfl, hb2⟩
              have hbz2 := hb2.size
              have hbl := lt_of_cell hcell
              have hcell2 := (hb2.cell (p := ⟨w.heap.size, 2, none⟩) (by simp; omega)).trans hcell
              have hb3 := hb.trans (hb2.mono hbz)
              go_wp2
              go_ret
              exact ⟨by rw [HR1.out, Hq.out]; rfl, hb3⟩
          · have hm1 := hm.out
            rw [List.take_of_length_le (by omega)] at hm1
            have HM := Lib.hid hm1
            clear hm1
            go_wp2
            go_ret
            exact ⟨by rw [HR1.out, HM.out]; rfl, hb⟩
      · have HR1 : Hid (R = false) := Lib.hid (by rw [HR.out]; simp [formed, hz])
        clear HR hz
        go_enter Tryd.func152, Tryd.ntmps152
        go_wp2
        go_ret
        exact ⟨by rw [HR1.out]; rfl, (by repeat (first | exact Below.refl _ _ | assumption | with_reducible refine Below.drewN' ?_ _ | with_reducible refine Below.drew ?_ | ((with_reducible refine Below.alloc' ?_ ?_ _); · (first | omega | (simp <;> omega)))))⟩
    | false =>
      by_cases hl : 0 < s.length
      · have HR1 : Hid (R = false) := Lib.hid (by rw [HR.out]; simp [formed]; intro h; exact absurd h (by intro h; simp [h] at hl))
        clear HR
        go_enter Tryd.func152, Tryd.ntmps152
        go_wp2
        go_ret
        exact ⟨by rw [HR1.out]; rfl, (by repeat (first | exact Below.refl _ _ | assumption | with_reducible refine Below.drewN' ?_ _ | with_reducible refine Below.drew ?_ | ((with_reducible refine Below.alloc' ?_ ?_ _); · (first | omega | (simp <;> omega)))))⟩
      · obtain rfl : s = [] := List.eq_nil_of_length_eq_zero (by omega)
        have HR1 : Hid (R = true) := Lib.hid (by rw [HR.out]; rfl)
        clear HR
        go_enter Tryd.func152, Tryd.ntmps152
        go_wp2_with fail
        refine wp_loop_rounds 1 ?_
        rw [rounds_succ]
        go_wp2
        go_ret
        exact ⟨by rw [HR1.out]; rfl, (by repeat (first | exact Below.refl _ _ | assumption | with_reducible refine Below.drewN' ?_ _ | with_reducible refine Below.drew ?_ | ((with_reducible refine Below.alloc' ?_ ?_ _); · (first | omega | (simp <;> omega)))))⟩

set_option maxRecDepth 100000 in
set_option maxHeartbeats 400000 in
theorem room_c : ∀ (x : It) (B : Nat) (w : World) (c0 c1 c2 : Value), ItIn w B x c0 c1 c2 → B ≤ w.heap.size → ∀ left : Int, 0 < left → left ≤ 4611686018427387904 →
    Calls Tryd.prog 39 #[.agg #[c0, c1, c2], .int .i64 left] w fun e w' => e = .returned (.int .i64 (x.room left)) ∧ Below w.heap.size w w' := by
  intro x
  induction x using It.ind with
  | h t l s ih =>
    intro B w c0 c1 c2 h hB left hl0 hl1
    obtain ⟨rfl, rfl, ht, hs, A, cap, rfl, hcap, hcm, hsub⟩ := h
    have IH := Lib.hid ih
    have HS := Lib.hid hsub
    clear ih hsub
    have HR : Hid ((It.mk t l s).room left = max (roomL s (left - 1)) 0) := Lib.hid (by simp only [It.room])
    have HB := Lib.hid (fun k => roomL_bd (s.take k) (fun x _ => room_bd x) (left - 1) (by omega))
    generalize (It.mk t l s).room left = R at *
    go_enter Tryd.func39, Tryd.ntmps39
    go_wp2_with fail
    go_loopw [1, 5] (fun n i wr => ∃ (k : Nat) (m : Int), k ≤ s.length ∧ i = .int .i64 k ∧ Hid (m = roomL (s.take k) (left - 1)) ∧ 0 ≤ m ∧ m ≤ left - 1 ∧ n = .int .i64 m ∧ Below w.heap.size w wr ∧ wr.cell? ⟨w.heap.size, 2, none⟩ = some (.slice A s.length cap)) (fun _ i _ => s.length - (intOf i).toNat)
    case atStart => exact ⟨0, left - 1, by omega, rfl, Lib.hid (by simp [roomL]), by omega, by omega, rfl, (by repeat (first | exact Below.refl _ _ | assumption | with_reducible refine Below.drewN' ?_ _ | with_reducible refine Below.drew ?_ | ((with_reducible refine Below.alloc' ?_ ?_ _); · (first | omega | (simp <;> omega))))), by simp⟩
    case round =>
      obtain ⟨k, m, hk, rfl, hm, hm0, hml, rfl, hb, hcell⟩ := hrel
      by_cases hlt : k < s.length
      · by_cases hpos : 0 < m
        · obtain ⟨b, o, d0, d1, d2, rfl, hbB, e0, e1, e2, hi⟩ := HS.out.at_ k hlt
          simp only [Nat.zero_add] at e0 e1 e2
          replace e0 := (hb.cell (p := ⟨b, o + k * 3, none⟩) (by simp; omega)).trans e0
          replace e1 := (hb.cell (p := ⟨b, o + k * 3 + 1, none⟩) (by simp; omega)).trans e1
          replace e2 := (hb.cell (p := ⟨b, o + k * 3 + 2, none⟩) (by simp; omega)).trans e2
          have hbz := hb.size
          have hmem := List.getElem_mem hlt
          have hiw := hi.below (hb.mono hB)
          have hct := roomL_take s k hlt (left - 1) (by rw [← hm.out]; exact hpos)
          have hbd := HB.out (k + 1)
          have hqb := room_bd s[k] m hpos
          rw [← hm.out] at hct
          obtain ⟨q, hq⟩ : ∃ q, s[k].room m = q := ⟨_, rfl⟩
          have HC := Lib.hid (IH.out _ hmem B wr d0 d1 d2 hiw (by omega) m hpos (by omega))
          rw [hq] at HC hct hqb
          have Hq : Hid (q = roomL (s.take (k + 1)) (left - 1)) := Lib.hid hct.symm
          obtain ⟨hq0, hqm⟩ := hqb
          clear hct hbd hq hiw hi
          go_wp2_with fail
          refine HC.out.mono ?_
          rintro e w2 ⟨rfl, hb2⟩
          have hbz2 := hb2.size
          have hbl := lt_of_cell hcell
          have hcell2 := (hb2.cell (p := ⟨w.heap.size, 2, none⟩) (by simp; omega)).trans hcell
          have hb3 := hb.trans (hb2.mono hbz)
          go_wp2
          go_roundw
          case rel => exact ⟨k + 1, q, by omega, by go_num, Hq, hq0, by omega, rfl, hb3, hcell2⟩
          case measure => simp [intOf]; omega
        · have hm1 := roomL_end s k (left - 1) (.inl (by rw [← hm.out]; omega))
          have HX : Hid (R = 0) := Lib.hid (by rw [HR.out, hm1, ← hm.out]; omega)
          have hmz : m ≤ 0 := by omega
          obtain ⟨b0, o0, _, _, _, rfl, _⟩ := HS.out.at_ k hlt
          clear hm1
          go_wp2
          all_goals
            go_ret
            exact ⟨by first | (rw [HX.out]; rfl) | (show Ending.returned (.int .i64 m) = _; rw [HX.out, show m = 0 from by omega]), hb⟩
      · have hm1 := roomL_end s k (left - 1) (.inr (by omega))
        have HX : Hid (R = m) := Lib.hid (by rw [HR.out, hm1, ← hm.out]; omega)
        clear hm1
        go_wp2
        all_goals
          go_ret
          exact ⟨by first | (show Ending.returned (.int .i64 m) = _; rw [HX.out]) | (rw [HX.out, show m = 0 from by omega]; rfl), hb⟩

set_option maxRecDepth 100000 in
set_option maxHeartbeats 400000 in
theorem bulk_c : ∀ (x : It) (B : Nat) (w : World) (c0 c1 c2 : Value), ItIn w B x c0 c1 c2 → B ≤ w.heap.size →
    Calls Tryd.prog 40 #[.agg #[c0, c1, c2]] w fun e w' => e = .returned (.int .i64 x.bulk) ∧ Below w.heap.size w w' := by
  intro x
  induction x using It.ind with
  | h t l s ih =>
    intro B w c0 c1 c2 h hB
    obtain ⟨rfl, rfl, ht, hs, A, cap, rfl, hcap, hcm, hsub⟩ := h
    have IH := Lib.hid ih
    have HS := Lib.hid hsub
    clear ih hsub
    obtain ⟨n0, hn0⟩ : ∃ n0, min t.size 10000 = n0 := ⟨_, rfl⟩
    have HR : Hid ((It.mk t l s).bulk = bulkL s n0) := Lib.hid (by simp only [It.bulk, hn0])
    have hn1 : n0 ≤ 10000 := by omega
    have HN := Lib.hid hn0
    clear hn0
    generalize (It.mk t l s).bulk = R at *
    rcases Nat.lt_trichotomy t.size 10000 with hlt0 | hlt0 | hlt0
    · have HN0 : Hid (min t.size 10000 = n0) := HN
      go_enter Tryd.func40, Tryd.ntmps40
      go_wp2_with fail
      go_loopw [3, 4] (fun n i wr => ∃ k m : Nat, k ≤ s.length ∧ i = .int .i64 k ∧ Hid (m = bulkL (s.take k) n0) ∧ m ≤ 10000 ∧ n = .int .i64 m ∧ Below w.heap.size w wr ∧ wr.cell? ⟨w.heap.size, 2, none⟩ = some (.slice A s.length cap)) (fun _ i _ => s.length - (intOf i).toNat)
      case atStart =>
        refine ⟨0, n0, by omega, rfl, Lib.hid (by simp [bulkL]), by omega, ?_, (by repeat (first | exact Below.refl _ _ | assumption | with_reducible refine Below.drewN' ?_ _ | with_reducible refine Below.drew ?_ | ((with_reducible refine Below.alloc' ?_ ?_ _); · (first | omega | (simp <;> omega))))), by simp⟩
        have hh := HN0.out
        rcases (show (t.size : Int) = n0 ∨ (10000 : Int) = n0 from by omega) with hx | hx
        · (rw [← hx]) <;> first | rfl | (rw [show (t.size : Int) = 10000 from by omega])
        · (rw [← hx]) <;> first | rfl | (rw [show (t.size : Int) = 10000 from by omega])
      case round =>
        obtain ⟨k, m, hk, rfl, hm, hmb, rfl, hb, hcell⟩ := hrel
        by_cases hlt : k < s.length
        · obtain ⟨b, o, d0, d1, d2, rfl, hbB, e0, e1, e2, hi⟩ := HS.out.at_ k hlt
          simp only [Nat.zero_add] at e0 e1 e2
          replace e0 := (hb.cell (p := ⟨b, o + k * 3, none⟩) (by simp; omega)).trans e0
          replace e1 := (hb.cell (p := ⟨b, o + k * 3 + 1, none⟩) (by simp; omega)).trans e1
          replace e2 := (hb.cell (p := ⟨b, o + k * 3 + 2, none⟩) (by simp; omega)).trans e2
          have hbz := hb.size
          have hmem := List.getElem_mem hlt
          have hiw := hi.below (hb.mono hB)
          have hct := bulkL_take s k hlt n0
          have hqb := bulk_le s[k]
          have hm1 := hm.out
          obtain ⟨q, hq⟩ : ∃ q, s[k].bulk = q := ⟨_, rfl⟩
          have HC := Lib.hid (IH.out _ hmem B wr d0 d1 d2 hiw (by omega))
          rw [hq] at HC hct hqb
          rw [← hm1] at hct
          have Hq := Lib.hid hct
          clear hct hm1 hq hiw hi
          rcases (show m + q < 10000 ∨ (m + q ≤ 10000 ∧ 10000 ≤ m + q) ∨ 10000 < m + q from by omega) with hx | ⟨hx, hx2⟩ | hx
          all_goals
            go_wp2_with fail
            refine HC.out.mono ?_
            rintro e w2 ⟨rfl, hb2⟩
            have hbz2 := hb2.size
            have hbl := lt_of_cell hcell
            have hcell2 := (hb2.cell (p := ⟨w.heap.size, 2, none⟩) (by simp; omega)).trans hcell
            have hb3 := hb.trans (hb2.mono hbz)
            go_wp2
            all_goals
              go_roundw
              case rel =>
                refine ⟨k + 1, min (m + q) 10000, by omega, by go_num, Lib.hid Hq.out.symm, by omega, ?_, hb3, hcell2⟩
                first
                  | (rw [show min (m + q) 10000 = m + q from by omega]; go_num)
                  | (rw [show min (m + q) 10000 = 10000 from by omega]; rfl)
                  | (rw [show ((min (m + q) 10000 : Nat) : Int) = if (10000 : Int) < (m : Int) + q then 10000 else (m : Int) + q from by split <;> omega])
              case measure => simp [intOf]; omega
        · have hm1 := hm.out
          rw [List.take_of_length_le (by omega)] at hm1
          have HM := Lib.hid hm1
          clear hm1
          go_wp2
          go_ret
          exact ⟨by show Ending.returned (.int .i64 m) = _; rw [HM.out, HR.out], hb⟩
    · have HN0 : Hid (min t.size 10000 = n0) := HN
      go_enter Tryd.func40, Tryd.ntmps40
      go_wp2_with fail
      go_loopw [3, 4] (fun n i wr => ∃ k m : Nat, k ≤ s.length ∧ i = .int .i64 k ∧ Hid (m = bulkL (s.take k) n0) ∧ m ≤ 10000 ∧ n = .int .i64 m ∧ Below w.heap.size w wr ∧ wr.cell? ⟨w.heap.size, 2, none⟩ = some (.slice A s.length cap)) (fun _ i _ => s.length - (intOf i).toNat)
      case atStart =>
        refine ⟨0, n0, by omega, rfl, Lib.hid (by simp [bulkL]), by omega, ?_, (by repeat (first | exact Below.refl _ _ | assumption | with_reducible refine Below.drewN' ?_ _ | with_reducible refine Below.drew ?_ | ((with_reducible refine Below.alloc' ?_ ?_ _); · (first | omega | (simp <;> omega))))), by simp⟩
        have hh := HN0.out
        rcases (show (t.size : Int) = n0 ∨ (10000 : Int) = n0 from by omega) with hx | hx
        · (rw [← hx]) <;> first | rfl | (rw [show (t.size : Int) = 10000 from by omega])
        · (rw [← hx]) <;> first | rfl | (rw [show (t.size : Int) = 10000 from by omega])
      case round =>
        obtain ⟨k, m, hk, rfl, hm, hmb, rfl, hb, hcell⟩ := hrel
        by_cases hlt : k < s.length
        · obtain ⟨b, o, d0, d1, d2, rfl, hbB, e0, e1, e2, hi⟩ := HS.out.at_ k hlt
          simp only [Nat.zero_add] at e0 e1 e2
          replace e0 := (hb.cell (p := ⟨b, o + k * 3, none⟩) (by simp; omega)).trans e0
          replace e1 := (hb.cell (p := ⟨b, o + k * 3 + 1, none⟩) (by simp; omega)).trans e1
          replace e2 := (hb.cell (p := ⟨b, o + k * 3 + 2, none⟩) (by simp; omega)).trans e2
          have hbz := hb.size
          have hmem := List.getElem_mem hlt
          have hiw := hi.below (hb.mono hB)
          have hct := bulkL_take s k hlt n0
          have hqb := bulk_le s[k]
          have hm1 := hm.out
          obtain ⟨q, hq⟩ : ∃ q, s[k].bulk = q := ⟨_, rfl⟩
          have HC := Lib.hid (IH.out _ hmem B wr d0 d1 d2 hiw (by omega))
          rw [hq] at HC hct hqb
          rw [← hm1] at hct
          have Hq := Lib.hid hct
          clear hct hm1 hq hiw hi
          rcases (show m + q < 10000 ∨ (m + q ≤ 10000 ∧ 10000 ≤ m + q) ∨ 10000 < m + q from by omega) with hx | ⟨hx, hx2⟩ | hx
          all_goals
            go_wp2_with fail
            refine HC.out.mono ?_
            rintro e w2 ⟨rfl, hb2⟩
            have hbz2 := hb2.size
            have hbl := lt_of_cell hcell
            have hcell2 := (hb2.cell (p := ⟨w.heap.size, 2, none⟩) (by simp; omega)).trans hcell
            have hb3 := hb.trans (hb2.mono hbz)
            go_wp2
            all_goals
              go_roundw
              case rel =>
                refine ⟨k + 1, min (m + q) 10000, by omega, by go_num, Lib.hid Hq.out.symm, by omega, ?_, hb3, hcell2⟩
                first
                  | (rw [show min (m + q) 10000 = m + q from by omega]; go_num)
                  | (rw [show min (m + q) 10000 = 10000 from by omega]; rfl)
                  | (rw [show ((min (m + q) 10000 : Nat) : Int) = if (10000 : Int) < (m : Int) + q then 10000 else (m : Int) + q from by split <;> omega])
              case measure => simp [intOf]; omega
        · have hm1 := hm.out
          rw [List.take_of_length_le (by omega)] at hm1
          have HM := Lib.hid hm1
          clear hm1
          go_wp2
          go_ret
          exact ⟨by show Ending.returned (.int .i64 m) = _; rw [HM.out, HR.out], hb⟩
    · have HN0 : Hid (min t.size 10000 = n0) := HN
      go_enter Tryd.func40, Tryd.ntmps40
      go_wp2_with fail
      go_loopw [3, 4] (fun n i wr => ∃ k m : Nat, k ≤ s.length ∧ i = .int .i64 k ∧ Hid (m = bulkL (s.take k) n0) ∧ m ≤ 10000 ∧ n = .int .i64 m ∧ Below w.heap.size w wr ∧ wr.cell? ⟨w.heap.size, 2, none⟩ = some (.slice A s.length cap)) (fun _ i _ => s.length - (intOf i).toNat)
      case atStart =>
        refine ⟨0, n0, by omega, rfl, Lib.hid (by simp [bulkL]), by omega, ?_, (by repeat (first | exact Below.refl _ _ | assumption | with_reducible refine Below.drewN' ?_ _ | with_reducible refine Below.drew ?_ | ((with_reducible refine Below.alloc' ?_ ?_ _); · (first | omega | (simp <;> omega))))), by simp⟩
        have hh := HN0.out
        rcases (show (t.size : Int) = n0 ∨ (10000 : Int) = n0 from by omega) with hx | hx
        · (rw [← hx]) <;> first | rfl | (rw [show (t.size : Int) = 10000 from by omega])
        · (rw [← hx]) <;> first | rfl | (rw [show (t.size : Int) = 10000 from by omega])
      case round =>
        obtain ⟨k, m, hk, rfl, hm, hmb, rfl, hb, hcell⟩ := hrel
        by_cases hlt : k < s.length
        · obtain ⟨b, o, d0, d1, d2, rfl, hbB, e0, e1, e2, hi⟩ := HS.out.at_ k hlt
          simp only [Nat.zero_add] at e0 e1 e2
          replace e0 := (hb.cell (p := ⟨b, o + k * 3, none⟩) (by simp; omega)).trans e0
          replace e1 := (hb.cell (p := ⟨b, o + k * 3 + 1, none⟩) (by simp; omega)).trans e1
          replace e2 := (hb.cell (p := ⟨b, o + k * 3 + 2, none⟩) (by simp; omega)).trans e2
          have hbz := hb.size
          have hmem := List.getElem_mem hlt
          have hiw := hi.below (hb.mono hB)
          have hct := bulkL_take s k hlt n0
          have hqb := bulk_le s[k]
          have hm1 := hm.out
          obtain ⟨q, hq⟩ : ∃ q, s[k].bulk = q := ⟨_, rfl⟩
          have HC := Lib.hid (IH.out _ hmem B wr d0 d1 d2 hiw (by omega))
          rw [hq] at HC hct hqb
          rw [← hm1] at hct
          have Hq := Lib.hid hct
          clear hct hm1 hq hiw hi
          rcases (show m + q < 10000 ∨ (m + q ≤ 10000 ∧ 10000 ≤ m + q) ∨ 10000 < m + q from by omega) with hx | ⟨hx, hx2⟩ | hx
          all_goals
            go_wp2_with fail
            refine HC.out.mono ?_
            rintro e w2 ⟨rfl, hb2⟩
            have hbz2 := hb2.size
            have hbl := lt_of_cell hcell
            have hcell2 := (hb2.cell (p := ⟨w.heap.size, 2, none⟩) (by simp; omega)).trans hcell
            have hb3 := hb.trans (hb2.mono hbz)
            go_wp2
            all_goals
              go_roundw
              case rel =>
                refine ⟨k + 1, min (m + q) 10000, by omega, by go_num, Lib.hid Hq.out.symm, by omega, ?_, hb3, hcell2⟩
                first
                  | (rw [show min (m + q) 10000 = m + q from by omega]; go_num)
                  | (rw [show min (m + q) 10000 = 10000 from by omega]; rfl)
                  | (rw [show ((min (m + q) 10000 : Nat) : Int) = if (10000 : Int) < (m : Int) + q then 10000 else (m : Int) + q from by split <;> omega])
              case measure => simp [intOf]; omega
        · have hm1 := hm.out
          rw [List.take_of_length_le (by omega)] at hm1
          have HM := Lib.hid hm1
          clear hm1
          go_wp2
          go_ret
          exact ⟨by show Ending.returned (.int .i64 m) = _; rw [HM.out, HR.out], hb⟩

/-- What is boxed is loaded whole. -/
theorem box_cells (w : World) (T : TypeId) (c0 c1 c2 : Value) (w1 : World) (hb : Below (w.heap.size + 1) (w.alloc (.cells #[c0, c1, c2] T)) w1) :
    w1.cell? ⟨w.heap.size, 0, none⟩ = some c0 ∧ w1.cell? ⟨w.heap.size, 1, none⟩ = some c1 ∧ w1.cell? ⟨w.heap.size, 2, none⟩ = some c2 := by
  refine ⟨?_, ?_, ?_⟩
  · rw [hb.cell (by simp)]; simp
  · rw [hb.cell (by simp)]; simp
  · rw [hb.cell (by simp)]; simp

set_option maxRecDepth 100000 in
set_option maxHeartbeats 400000 in
theorem great_c (x : It) (B : Nat) (w : World) (c0 c1 c2 : Value) (h : ItIn w B x c0 c1 c2) (hB : B ≤ w.heap.size) :
    Calls Tryd.prog 13 #[.agg #[c0, c1, c2]] w fun e w' => e = .returned (.bool x.great) ∧ Below w.heap.size w w' := by
  have h1 : ItIn (w.alloc (.cells #[c0, c1, c2] 27)) B x c0 c1 c2 := h.below (by repeat (first | exact Below.refl _ _ | assumption | with_reducible refine Below.drewN' ?_ _ | with_reducible refine Below.drew ?_ | ((with_reducible refine Below.alloc' ?_ ?_ _); · (first | omega | (simp <;> omega)))))
  have H1 := Lib.hid (room_c x B _ c0 c1 c2 h1 (by simp; omega) 1200 (by omega) (by omega))
  have H2 := Lib.hid (fun w1 hb => bulk_c x B w1 c0 c1 c2 (ItIn.below h1 hb))
  have hrb := room_bd x 1200 (by omega)
  have HG : Hid (x.great = (decide (x.room 1200 = 0) || decide (6000 < x.bulk))) := Lib.hid rfl
  obtain ⟨r, hr⟩ : ∃ r, x.room 1200 = r := ⟨_, rfl⟩
  obtain ⟨q, hq⟩ : ∃ q, x.bulk = q := ⟨_, rfl⟩
  rw [hr, hq] at HG
  rw [hr] at H1
  rw [hq] at H2
  obtain ⟨A, cap, rfl, rfl, rfl, _⟩ := h.open_
  clear hr hq hrb h1 h
  generalize x.great = R at *
  by_cases hz : r = 0
  · have e1 : (r == 0) = true := by simp [hz]
    have HX : Hid (R = true) := Lib.hid (by rw [HG.out]; simp [hz])
    clear hz HG
    go_enter Tryd.func13, Tryd.ntmps13
    go_wp2_with fail
    refine H1.out.mono ?_
    rintro e w1 ⟨rfl, hb⟩
    go_wp2
    go_ret
    exact ⟨by rw [HX.out]; rfl, (Below.alloc (Below.refl _ _) (Nat.le_refl _) _).trans (hb.mono (by simp))⟩
  · have e1 : (r == 0) = false := by simp [hz]
    have HX : Hid (R = decide (6000 < q)) := Lib.hid (by rw [HG.out]; simp [hz])
    clear hz HG
    go_enter Tryd.func13, Tryd.ntmps13
    go_wp2_with fail
    refine H1.out.mono ?_
    rintro e w1 ⟨rfl, hb⟩
    obtain ⟨g0, g1, g2⟩ := box_cells w 27 _ _ _ w1 (by simpa using hb)
    have hbz := hb.size
    simp only [World.size_alloc] at hbz
    have hb' : Below B (w.alloc (.cells #[.string x.text, .bool x.list, .slice A x.sub.length cap] 27)) w1 := hb.mono (by simp; omega)
    have hB1 := (Below.alloc (Below.refl w.heap.size w) (Nat.le_refl _) _).trans (hb.mono (by simp))
    go_wp2_with fail
    refine (H2.out w1 hb' (by omega)).mono ?_
    rintro e w2 ⟨rfl, hb2⟩
    go_wp2
    all_goals
      go_ret
      refine ⟨?_, hB1.trans (hb2.mono (by omega))⟩
      rw [HX.out]
      first | rfl | (rw [show decide (6000 < q) = true from by simp; omega]; rfl) | (rw [show decide (6000 < q) = false from by simp; omega]; rfl) | (show Ending.returned (.bool (decide ((6000 : Int) < q))) = _; rw [show decide ((6000 : Int) < q) = decide (6000 < q) from by simp only [decide_eq_decide]; omega])

set_option maxRecDepth 100000 in
set_option maxHeartbeats 400000 in
theorem refMay_c (x : It) (B : Nat) (w : World) (c0 c1 c2 : Value) (h : ItIn w B x c0 c1 c2) (hB : B ≤ w.heap.size) (hc : x.count ≤ 4611686018427387904) :
    Calls Tryd.prog 113 #[.agg #[c0, c1, c2]] w fun e w' => e = .returned (.bool x.may) ∧ Below w.heap.size w w' := by
  have hdl := deep_le x
  have h1 : ItIn (w.alloc (.cells #[c0, c1, c2] 27)) B x c0 c1 c2 := h.below (by repeat (first | exact Below.refl _ _ | assumption | with_reducible refine Below.drewN' ?_ _ | with_reducible refine Below.drew ?_ | ((with_reducible refine Below.alloc' ?_ ?_ _); · (first | omega | (simp <;> omega)))))
  have H1 := Lib.hid (refRight_c x B _ c0 c1 c2 h1 (by simp; omega))
  have H2 := Lib.hid (fun w1 hb hz => refDeep_c x B w1 c0 c1 c2 (ItIn.below h1 hb) hz (by omega))
  have H3 := Lib.hid (fun w1 hb hz => refCount_c x B w1 c0 c1 c2 (ItIn.below h1 hb) hz (by omega))
  have HG : Hid (x.may = (x.right && decide (x.deep ≤ 16) && decide (x.count ≤ 1024))) := Lib.hid rfl
  obtain ⟨r, hr⟩ : ∃ r, x.right = r := ⟨_, rfl⟩
  obtain ⟨dp, hd⟩ : ∃ q, x.deep = q := ⟨_, rfl⟩
  obtain ⟨q, hq⟩ : ∃ q, x.count = q := ⟨_, rfl⟩
  rw [hr, hq, hd] at HG
  rw [hr] at H1
  rw [hd] at H2
  rw [hq] at H3
  obtain ⟨A, cap, rfl, rfl, rfl, _⟩ := h.open_
  clear hr hq hd hdl h1 h hc
  generalize x.may = R at *
  cases r with
  | false =>
    have HX : Hid (R = false) := Lib.hid (by rw [HG.out]; rfl)
    clear HG
    go_enter Tryd.func113, Tryd.ntmps113
    go_wp2_with fail
    refine H1.out.mono ?_
    rintro e w1 ⟨rfl, hb⟩
    go_wp2
    go_ret
    exact ⟨by rw [HX.out]; rfl, (Below.alloc (Below.refl _ _) (Nat.le_refl _) _).trans (hb.mono (by simp))⟩
  | true =>
    by_cases hdp : dp ≤ 16
    · have HX : Hid (R = decide (q ≤ 1024)) := Lib.hid (by rw [HG.out]; simp [hdp])
      clear HG
      go_enter Tryd.func113, Tryd.ntmps113
      go_wp2_with fail
      refine H1.out.mono ?_
      rintro e w1 ⟨rfl, hb⟩
      obtain ⟨g0, g1, g2⟩ := box_cells w 27 _ _ _ w1 (by simpa using hb)
      have hbz := hb.size
      simp only [World.size_alloc] at hbz
      have hB1 := (Below.alloc (Below.refl w.heap.size w) (Nat.le_refl _) _).trans (hb.mono (by simp))
      go_wp2_with fail
      refine (H2.out w1 (hb.mono (by simp; omega)) (by omega)).mono ?_
      rintro e w2 ⟨rfl, hb2⟩
      have hb3 := hb.trans (hb2.mono (by simp; omega))
      have hbz2 := hb2.size
      obtain ⟨k0, k1, k2⟩ := box_cells w 27 _ _ _ w2 (by simpa using hb3)
      have hB2 := hB1.trans (hb2.mono (by omega))
      go_wp2_with fail
      refine (H3.out w2 (hb3.mono (by simp; omega)) (by omega)).mono ?_
      rintro e w3 ⟨rfl, hb4⟩
      go_wp2
      all_goals
        go_ret
        refine ⟨?_, hB2.trans (hb4.mono (by omega))⟩
        rw [HX.out]
        first | rfl | (show Ending.returned (.bool (decide ((q : Int) ≤ 1024))) = _; rw [show decide ((q : Int) ≤ 1024) = decide (q ≤ 1024) from by simp only [decide_eq_decide]; omega])
    · have HX : Hid (R = false) := Lib.hid (by rw [HG.out]; simp [hdp])
      clear HG
      go_enter Tryd.func113, Tryd.ntmps113
      go_wp2_with fail
      refine H1.out.mono ?_
      rintro e w1 ⟨rfl, hb⟩
      obtain ⟨g0, g1, g2⟩ := box_cells w 27 _ _ _ w1 (by simpa using hb)
      have hbz := hb.size
      simp only [World.size_alloc] at hbz
      have hB1 := (Below.alloc (Below.refl w.heap.size w) (Nat.le_refl _) _).trans (hb.mono (by simp))
      go_wp2_with fail
      refine (H2.out w1 (hb.mono (by simp; omega)) (by omega)).mono ?_
      rintro e w2 ⟨rfl, hb2⟩
      go_wp2
      go_ret
      exact ⟨by rw [HX.out]; rfl, hB1.trans (hb2.mono (by omega))⟩
end Go.Proofs.YtacikiambpfipaaDoor
