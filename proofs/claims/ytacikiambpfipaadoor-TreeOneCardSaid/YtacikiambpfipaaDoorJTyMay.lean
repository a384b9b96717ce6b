/- Whether a type may be: the document's right and May. -/
import Derived.Test.YtacikiambpfipaaDoorJTyRef
import Derived.Test.YtacikiambpfipaaDoorJTypedP
namespace Go.Proofs.YtacikiambpfipaaDoor
set_option linter.unusedVariables false
set_option linter.unusedSimpArgs false
open Go.RowKit

theorem kind_ways (k : Int) : k = 1 ∨ k = 2 ∨ k = 3 ∨ k = 4 ∨ k = 5 ∨ (k ≠ 1 ∧ k ≠ 2 ∧ k ≠ 3 ∧ k ≠ 4 ∧ k ≠ 5) := by omega
/-- What fails first, as the document asks. -/
theorem bad1 {s : Int} {n : Nat} {t : Int} (h : tyOk 1 s n t = false) : (s ≠ 1 ∧ s ≠ 2 ∧ s ≠ 4 ∧ s ≠ 8) ∨ ((s = 1 ∨ s = 2 ∨ s = 4 ∨ s = 8) ∧ n ≠ 0) ∨ ((s = 1 ∨ s = 2 ∨ s = 4 ∨ s = 8) ∧ n = 0 ∧ t ≠ 0) := by
  simp [tyOk] at h; omega
theorem bad2 {s : Int} {n : Nat} {t : Int} (h : tyOk 2 s n t = false) : s < 1 ∨ (1 ≤ s ∧ 65536 < s) ∨ (1 ≤ s ∧ s ≤ 65536 ∧ n ≠ 0) ∨ (1 ≤ s ∧ s ≤ 65536 ∧ n = 0 ∧ t ≠ 0) := by
  simp [tyOk] at h; omega
theorem bad3 {s : Int} {n : Nat} {t : Int} (h : tyOk 3 s n t = false) : s < 0 ∨ (0 ≤ s ∧ 65536 < s) ∨ (0 ≤ s ∧ s ≤ 65536 ∧ n ≠ 0) ∨ (0 ≤ s ∧ s ≤ 65536 ∧ n = 0 ∧ t ≠ 0) := by
  simp [tyOk] at h; omega
theorem bad4 {s : Int} {n : Nat} {t : Int} (h : tyOk 4 s n t = false) : s < 0 ∨ (0 ≤ s ∧ 1024 < s) ∨ (0 ≤ s ∧ s ≤ 1024 ∧ n ≠ 1) ∨ (0 ≤ s ∧ s ≤ 1024 ∧ n = 1 ∧ t ≠ 0) := by
  simp [tyOk] at h; omega
theorem bad5 {s : Int} {n : Nat} {t : Int} (h : tyOk 5 s n t = false) : s ≠ 0 ∨ (s = 0 ∧ 16 < n) ∨ (s = 0 ∧ n ≤ 16 ∧ t < 0) ∨ (s = 0 ∧ n ≤ 16 ∧ 0 ≤ t ∧ (n : Int) < t) := by
  simp [tyOk] at h; omega
theorem nb {a b : Int} (h : a ≠ b) : (a == b) = false := beq_eq_false_iff_ne.2 h

set_option maxRecDepth 100000 in
set_option maxHeartbeats 800000 in
theorem right20_c : ∀ (x : Ty) (B : Nat) (w : World) (c0 c1 c2 c3 : Value), TyIn w B x c0 c1 c2 c3 → B ≤ w.heap.size →
    Calls Tryd.prog 122 #[.agg #[c0, c1, c2, c3]] w fun e w' => e = .returned (.bool x.right) ∧ Below w.heap.size w w' := by
  intro x
  induction x using Ty.ind with
  | h ki s l ta ih =>
    intro B w c0 c1 c2 c3 h hB
    obtain ⟨rfl, rfl, rfl, hki, hsi, hta, hs, A, cap, rfl, hcap, hcm, hsub⟩ := h
    have IH := Lib.hid ih
    have HS := Lib.hid hsub
    have HKI := Lib.hid hki
    have HSI := Lib.hid hsi
    have HTA := Lib.hid hta
    unfold okI at hki hsi hta
    obtain ⟨hki1, hki2⟩ := hki
    obtain ⟨hsi1, hsi2⟩ := hsi
    obtain ⟨hta1, hta2⟩ := hta
    clear ih hsub
    clear HKI HSI HTA
    have HR : Hid ((Ty.mk ki s l ta).right = (tyOk ki s l.length ta && rightT l)) := Lib.hid (by simp only [Ty.right])
    generalize (Ty.mk ki s l ta).right = R at *
    cases hok : tyOk ki s l.length ta with
    | true =>
      have hw := ok_ways hok
      rcases hw with ⟨rfl, hs4, hn, rfl⟩ | ⟨rfl, h3, h4, hn, rfl⟩ | ⟨rfl, h3, h4, hn, rfl⟩ | ⟨rfl, h3, h4, hn, rfl⟩ | ⟨rfl, rfl, h4, h5, h6⟩
      · obtain rfl : l = [] := List.eq_nil_of_length_eq_zero hn
        have HX : Hid (R = true) := Lib.hid (by rw [HR.out, hok]; rfl)
        clear HR hok
        rcases hs4 with rfl | rfl | rfl | rfl
        all_goals
          go_enter Tryd.func122, Tryd.ntmps122
          go_wp2_with fail
          refine wp_loop_rounds 1 ?_
          rw [rounds_succ]
          go_wp2
          go_ret
          exact ⟨by rw [HX.out]; rfl, (by repeat (first | exact Below.refl _ _ | assumption | with_reducible refine Below.drewN' ?_ _ | with_reducible refine Below.drew ?_ | ((with_reducible refine Below.alloc' ?_ ?_ _); · (first | omega | (simp <;> omega)))))⟩
      · obtain rfl : l = [] := List.eq_nil_of_length_eq_zero hn
        have HX : Hid (R = true) := Lib.hid (by rw [HR.out, hok]; rfl)
        clear HR hok
        go_enter Tryd.func122, Tryd.ntmps122
        go_wp2_with fail
        refine wp_loop_rounds 1 ?_
        rw [rounds_succ]
        go_wp2
        go_ret
        exact ⟨by rw [HX.out]; rfl, (by repeat (first | exact Below.refl _ _ | assumption | with_reducible refine Below.drewN' ?_ _ | with_reducible refine Below.drew ?_ | ((with_reducible refine Below.alloc' ?_ ?_ _); · (first | omega | (simp <;> omega)))))⟩
      · obtain rfl : l = [] := List.eq_nil_of_length_eq_zero hn
        have HX : Hid (R = true) := Lib.hid (by rw [HR.out, hok]; rfl)
        clear HR hok
        go_enter Tryd.func122, Tryd.ntmps122
        go_wp2_with fail
        refine wp_loop_rounds 1 ?_
        rw [rounds_succ]
        go_wp2
        go_ret
        exact ⟨by rw [HX.out]; rfl, (by repeat (first | exact Below.refl _ _ | assumption | with_reducible refine Below.drewN' ?_ _ | with_reducible refine Below.drew ?_ | ((with_reducible refine Below.alloc' ?_ ?_ _); · (first | omega | (simp <;> omega)))))⟩
      · have HX : Hid (R = rightT l) := Lib.hid (by rw [HR.out, hok]; rfl)
        have e1 : ((l.length : Int) == 1) = true := by simp [hn]
        clear HR hok hn
        go_enter Tryd.func122, Tryd.ntmps122
        go_wp2_with fail
        go_loopw [3, 5] (fun ok i wr => ∃ (k : Nat) (b : Bool), k ≤ l.length ∧ i = .int .i64 k ∧ ok = .bool b ∧ Hid (rightT (l.take k) = b) ∧ Below w.heap.size w wr ∧ wr.cell? ⟨w.heap.size, 2, none⟩ = some (.slice A l.length cap)) (fun _ i _ => l.length - (intOf i).toNat)
        case atStart => exact ⟨0, true, by omega, rfl, rfl, Lib.hid (by simp [rightT]), (by repeat (first | exact Below.refl _ _ | assumption | with_reducible refine Below.drewN' ?_ _ | with_reducible refine Below.drew ?_ | ((with_reducible refine Below.alloc' ?_ ?_ _); · (first | omega | (simp <;> omega))))), by simp⟩
        case round =>
          obtain ⟨k, b, hk, rfl, rfl, hm, hb, hcell⟩ := hrel
          by_cases hlt : k < l.length
          · cases b with
            | true =>
              obtain ⟨b, o, d0, d1, d2, d3, rfl, hbB, e0, e1, e2, e3, hi⟩ := HS.out.at_ k hlt
              simp only [Nat.zero_add] at e0 e1 e2 e3
              replace e0 := (hb.cell (p := ⟨b, o + k * 4, none⟩) (by simp; omega)).trans e0
              replace e1 := (hb.cell (p := ⟨b, o + k * 4 + 1, none⟩) (by simp; omega)).trans e1
              replace e2 := (hb.cell (p := ⟨b, o + k * 4 + 2, none⟩) (by simp; omega)).trans e2
              replace e3 := (hb.cell (p := ⟨b, o + k * 4 + 3, none⟩) (by simp; omega)).trans e3
              have hbz := hb.size
              have hmem := List.getElem_mem hlt
              have hiw := hi.below (hb.mono hB)
              have HC := Lib.hid (IH.out _ hmem B wr d0 d1 d2 d3 hiw (by omega))
              obtain ⟨q, hq⟩ : ∃ q, l[k].right = q := ⟨_, rfl⟩
              rw [hq] at HC
              have Hq : Hid (rightT (l.take (k + 1)) = q) := Lib.hid (by rw [rightT_take l k hlt, hm.out, hq]; rfl)
              clear hq hiw hi
              go_wp2_with fail
              refine HC.out.mono ?_
              rintro e w2 ⟨rfl, hb2⟩
              have hbz2 := hb2.size
              have hbl := lt_of_cell hcell
              have hcell2 := (hb2.cell (p := ⟨w.heap.size, 2, none⟩) (by simp; omega)).trans hcell
              have hb3 := hb.trans (hb2.mono hbz)
              go_wp2
              go_roundw
              case rel =>
                exact ⟨k + 1, q, by omega, by go_num, rfl, Hq, hb3, hcell2⟩
              case measure => simp [intOf]; omega
            | false =>
              have HN : Hid (rightT l = false) := Lib.hid (by
                have h1 := rightT_append (l.take k) (l.drop k)
                rw [List.take_append_drop, hm.out] at h1
                simpa using h1)
              obtain ⟨b0, o0, _, _, _, _, rfl, _⟩ := HS.out.at_ k hlt
              go_wp2
              go_ret
              exact ⟨by rw [HX.out, HN.out]; rfl, hb⟩
          · have hm1 := hm.out
            rw [List.take_of_length_le (by omega)] at hm1
            have HM := Lib.hid hm1
            clear hm1
            go_wp2
            go_ret
            exact ⟨by rw [HX.out, HM.out]; rfl, hb⟩
      · have HX : Hid (R = rightT l) := Lib.hid (by rw [HR.out, hok]; rfl)
        clear HR hok
        go_enter Tryd.func122, Tryd.ntmps122
        go_wp2_with fail
        go_loopw [3, 5] (fun ok i wr => ∃ (k : Nat) (b : Bool), k ≤ l.length ∧ i = .int .i64 k ∧ ok = .bool b ∧ Hid (rightT (l.take k) = b) ∧ Below w.heap.size w wr ∧ wr.cell? ⟨w.heap.size, 2, none⟩ = some (.slice A l.length cap)) (fun _ i _ => l.length - (intOf i).toNat)
        case atStart => exact ⟨0, true, by omega, rfl, rfl, Lib.hid (by simp [rightT]), (by repeat (first | exact Below.refl _ _ | assumption | with_reducible refine Below.drewN' ?_ _ | with_reducible refine Below.drew ?_ | ((with_reducible refine Below.alloc' ?_ ?_ _); · (first | omega | (simp <;> omega))))), by simp⟩
        case round =>
          obtain ⟨k, b, hk, rfl, rfl, hm, hb, hcell⟩ := hrel
          by_cases hlt : k < l.length
          · cases b with
            | true =>
              obtain ⟨b, o, d0, d1, d2, d3, rfl, hbB, e0, e1, e2, e3, hi⟩ := HS.out.at_ k hlt
              simp only [Nat.zero_add] at e0 e1 e2 e3
              replace e0 := (hb.cell (p := ⟨b, o + k * 4, none⟩) (by simp; omega)).trans e0
              replace e1 := (hb.cell (p := ⟨b, o + k * 4 + 1, none⟩) (by simp; omega)).trans e1
              replace e2 := (hb.cell (p := ⟨b, o + k * 4 + 2, none⟩) (by simp; omega)).trans e2
              replace e3 := (hb.cell (p := ⟨b, o + k * 4 + 3, none⟩) (by simp; omega)).trans e3
              have hbz := hb.size
              have hmem := List.getElem_mem hlt
              have hiw := hi.below (hb.mono hB)
              have HC := Lib.hid (IH.out _ hmem B wr d0 d1 d2 d3 hiw (by omega))
              obtain ⟨q, hq⟩ : ∃ q, l[k].right = q := ⟨_, rfl⟩
              rw [hq] at HC
              have Hq : Hid (rightT (l.take (k + 1)) = q) := Lib.hid (by rw [rightT_take l k hlt, hm.out, hq]; rfl)
              clear hq hiw hi
              go_wp2_with fail
              refine HC.out.mono ?_
              rintro e w2 ⟨rfl, hb2⟩
              have hbz2 := hb2.size
              have hbl := lt_of_cell hcell
              have hcell2 := (hb2.cell (p := ⟨w.heap.size, 2, none⟩) (by simp; omega)).trans hcell
              have hb3 := hb.trans (hb2.mono hbz)
              go_wp2
              go_roundw
              case rel =>
                exact ⟨k + 1, q, by omega, by go_num, rfl, Hq, hb3, hcell2⟩
              case measure => simp [intOf]; omega
            | false =>
              have HN : Hid (rightT l = false) := Lib.hid (by
                have h1 := rightT_append (l.take k) (l.drop k)
                rw [List.take_append_drop, hm.out] at h1
                simpa using h1)
              obtain ⟨b0, o0, _, _, _, _, rfl, _⟩ := HS.out.at_ k hlt
              go_wp2
              go_ret
              exact ⟨by rw [HX.out, HN.out]; rfl, hb⟩
          · have hm1 := hm.out
            rw [List.take_of_length_le (by omega)] at hm1
            have HM := Lib.hid hm1
            clear hm1
            go_wp2
            go_ret
            exact ⟨by rw [HX.out, HM.out]; rfl, hb⟩
    | false =>
      have HX : Hid (R = false) := Lib.hid (by rw [HR.out, hok]; rfl)
      clear HR HS IH
      rcases kind_ways ki with rfl | rfl | rfl | rfl | rfl | ⟨n1, n2, n3, n4, n5⟩
      · rcases bad1 hok with ⟨m1, m2, m3, m4⟩ | ⟨hs4, hn⟩ | ⟨hs4, hn, ht⟩
        · have f1 := nb m1
          have f2 := nb m2
          have f3 := nb m3
          have f4 := nb m4
          clear hok m1 m2 m3 m4
          go_enter Tryd.func122, Tryd.ntmps122
          go_wp2_with fail
          refine wp_loop_rounds 1 ?_
          rw [rounds_succ]
          go_wp2
          all_goals
            go_ret
            exact ⟨by rw [HX.out]; rfl, (by repeat (first | exact Below.refl _ _ | assumption | with_reducible refine Below.drewN' ?_ _ | with_reducible refine Below.drew ?_ | ((with_reducible refine Below.alloc' ?_ ?_ _); · (first | omega | (simp <;> omega)))))⟩
        · have f1 : ((l.length : Int) == 0) = false := nb (by omega)
          clear hok hn
          rcases hs4 with rfl | rfl | rfl | rfl
          all_goals
            go_enter Tryd.func122, Tryd.ntmps122
            go_wp2_with fail
            refine wp_loop_rounds 1 ?_
            rw [rounds_succ]
            go_wp2
            all_goals
              go_ret
              exact ⟨by rw [HX.out]; rfl, (by repeat (first | exact Below.refl _ _ | assumption | with_reducible refine Below.drewN' ?_ _ | with_reducible refine Below.drew ?_ | ((with_reducible refine Below.alloc' ?_ ?_ _); · (first | omega | (simp <;> omega)))))⟩
        · obtain rfl : l = [] := List.eq_nil_of_length_eq_zero hn
          have f2 := nb ht
          clear hok ht
          rcases hs4 with rfl | rfl | rfl | rfl
          all_goals
            go_enter Tryd.func122, Tryd.ntmps122
            go_wp2_with fail
            refine wp_loop_rounds 1 ?_
            rw [rounds_succ]
            go_wp2
            all_goals
              go_ret
              exact ⟨by rw [HX.out]; rfl, (by repeat (first | exact Below.refl _ _ | assumption | with_reducible refine Below.drewN' ?_ _ | with_reducible refine Below.drew ?_ | ((with_reducible refine Below.alloc' ?_ ?_ _); · (first | omega | (simp <;> omega)))))⟩
      · rcases bad2 hok with h1 | ⟨h1, h2⟩ | ⟨h1, h2, hn⟩ | ⟨h1, h2, hn, ht⟩
        · clear hok
          go_enter Tryd.func122, Tryd.ntmps122
          go_wp2_with fail
          refine wp_loop_rounds 1 ?_
          rw [rounds_succ]
          go_wp2
          all_goals
            go_ret
            exact ⟨by rw [HX.out]; rfl, (by repeat (first | exact Below.refl _ _ | assumption | with_reducible refine Below.drewN' ?_ _ | with_reducible refine Below.drew ?_ | ((with_reducible refine Below.alloc' ?_ ?_ _); · (first | omega | (simp <;> omega)))))⟩
        · clear hok
          go_enter Tryd.func122, Tryd.ntmps122
          go_wp2_with fail
          refine wp_loop_rounds 1 ?_
          rw [rounds_succ]
          go_wp2
          all_goals
            go_ret
            exact ⟨by rw [HX.out]; rfl, (by repeat (first | exact Below.refl _ _ | assumption | with_reducible refine Below.drewN' ?_ _ | with_reducible refine Below.drew ?_ | ((with_reducible refine Below.alloc' ?_ ?_ _); · (first | omega | (simp <;> omega)))))⟩
        · have f1 : ((l.length : Int) == 0) = false := nb (by omega)
          clear hok hn
          go_enter Tryd.func122, Tryd.ntmps122
          go_wp2_with fail
          refine wp_loop_rounds 1 ?_
          rw [rounds_succ]
          go_wp2
          all_goals
            go_ret
            exact ⟨by rw [HX.out]; rfl, (by repeat (first | exact Below.refl _ _ | assumption | with_reducible refine Below.drewN' ?_ _ | with_reducible refine Below.drew ?_ | ((with_reducible refine Below.alloc' ?_ ?_ _); · (first | omega | (simp <;> omega)))))⟩
        · obtain rfl : l = [] := List.eq_nil_of_length_eq_zero hn
          have f2 := nb ht
          clear hok ht
          go_enter Tryd.func122, Tryd.ntmps122
          go_wp2_with fail
          refine wp_loop_rounds 1 ?_
          rw [rounds_succ]
          go_wp2
          all_goals
            go_ret
            exact ⟨by rw [HX.out]; rfl, (by repeat (first | exact Below.refl _ _ | assumption | with_reducible refine Below.drewN' ?_ _ | with_reducible refine Below.drew ?_ | ((with_reducible refine Below.alloc' ?_ ?_ _); · (first | omega | (simp <;> omega)))))⟩
      · rcases bad3 hok with h1 | ⟨h1, h2⟩ | ⟨h1, h2, hn⟩ | ⟨h1, h2, hn, ht⟩
        · clear hok
          go_enter Tryd.func122, Tryd.ntmps122
          go_wp2_with fail
          refine wp_loop_rounds 1 ?_
          rw [rounds_succ]
          go_wp2
          all_goals
            go_ret
            exact ⟨by rw [HX.out]; rfl, (by repeat (first | exact Below.refl _ _ | assumption | with_reducible refine Below.drewN' ?_ _ | with_reducible refine Below.drew ?_ | ((with_reducible refine Below.alloc' ?_ ?_ _); · (first | omega | (simp <;> omega)))))⟩
        · clear hok
          go_enter Tryd.func122, Tryd.ntmps122
          go_wp2_with fail
          refine wp_loop_rounds 1 ?_
          rw [rounds_succ]
          go_wp2
          all_goals
            go_ret
            exact ⟨by rw [HX.out]; rfl, (by repeat (first | exact Below.refl _ _ | assumption | with_reducible refine Below.drewN' ?_ _ | with_reducible refine Below.drew ?_ | ((with_reducible refine Below.alloc' ?_ ?_ _); · (first | omega | (simp <;> omega)))))⟩
        · have f1 : ((l.length : Int) == 0) = false := nb (by omega)
          clear hok hn
          go_enter Tryd.func122, Tryd.ntmps122
          go_wp2_with fail
          refine wp_loop_rounds 1 ?_
          rw [rounds_succ]
          go_wp2
          all_goals
            go_ret
            exact ⟨by rw [HX.out]; rfl, (by repeat (first | exact Below.refl _ _ | assumption | with_reducible refine Below.drewN' ?_ _ | with_reducible refine Below.drew ?_ | ((with_reducible refine Below.alloc' ?_ ?_ _); · (first | omega | (simp <;> omega)))))⟩
        · obtain rfl : l = [] := List.eq_nil_of_length_eq_zero hn
          have f2 := nb ht
          clear hok ht
          go_enter Tryd.func122, Tryd.ntmps122
          go_wp2_with fail
          refine wp_loop_rounds 1 ?_
          rw [rounds_succ]
          go_wp2
          all_goals
            go_ret
            exact ⟨by rw [HX.out]; rfl, (by repeat (first | exact Below.refl _ _ | assumption | with_reducible refine Below.drewN' ?_ _ | with_reducible refine Below.drew ?_ | ((with_reducible refine Below.alloc' ?_ ?_ _); · (first | omega | (simp <;> omega)))))⟩
      · rcases bad4 hok with h1 | ⟨h1, h2⟩ | ⟨h1, h2, hn⟩ | ⟨h1, h2, hn, ht⟩
        · clear hok
          go_enter Tryd.func122, Tryd.ntmps122
          go_wp2_with fail
          refine wp_loop_rounds 1 ?_
          rw [rounds_succ]
          go_wp2
          all_goals
            go_ret
            exact ⟨by rw [HX.out]; rfl, (by repeat (first | exact Below.refl _ _ | assumption | with_reducible refine Below.drewN' ?_ _ | with_reducible refine Below.drew ?_ | ((with_reducible refine Below.alloc' ?_ ?_ _); · (first | omega | (simp <;> omega)))))⟩
        · clear hok
          go_enter Tryd.func122, Tryd.ntmps122
          go_wp2_with fail
          refine wp_loop_rounds 1 ?_
          rw [rounds_succ]
          go_wp2
          all_goals
            go_ret
            exact ⟨by rw [HX.out]; rfl, (by repeat (first | exact Below.refl _ _ | assumption | with_reducible refine Below.drewN' ?_ _ | with_reducible refine Below.drew ?_ | ((with_reducible refine Below.alloc' ?_ ?_ _); · (first | omega | (simp <;> omega)))))⟩
        · have f1 : ((l.length : Int) == 1) = false := nb (by omega)
          clear hok hn
          go_enter Tryd.func122, Tryd.ntmps122
          go_wp2_with fail
          refine wp_loop_rounds 1 ?_
          rw [rounds_succ]
          go_wp2
          all_goals
            go_ret
            exact ⟨by rw [HX.out]; rfl, (by repeat (first | exact Below.refl _ _ | assumption | with_reducible refine Below.drewN' ?_ _ | with_reducible refine Below.drew ?_ | ((with_reducible refine Below.alloc' ?_ ?_ _); · (first | omega | (simp <;> omega)))))⟩
        · have f1 : ((l.length : Int) == 1) = true := by simp [hn]
          have f2 := nb ht
          clear hok ht hn
          go_enter Tryd.func122, Tryd.ntmps122
          go_wp2_with fail
          refine wp_loop_rounds 1 ?_
          rw [rounds_succ]
          go_wp2
          all_goals
            go_ret
            exact ⟨by rw [HX.out]; rfl, (by repeat (first | exact Below.refl _ _ | assumption | with_reducible refine Below.drewN' ?_ _ | with_reducible refine Below.drew ?_ | ((with_reducible refine Below.alloc' ?_ ?_ _); · (first | omega | (simp <;> omega)))))⟩
      · rcases bad5 hok with h1 | ⟨rfl, h2⟩ | ⟨rfl, h2, ht⟩ | ⟨rfl, h2, ht, ht2⟩
        · have f1 := nb h1
          clear hok h1
          go_enter Tryd.func122, Tryd.ntmps122
          go_wp2_with fail
          refine wp_loop_rounds 1 ?_
          rw [rounds_succ]
          go_wp2
          all_goals
            go_ret
            exact ⟨by rw [HX.out]; rfl, (by repeat (first | exact Below.refl _ _ | assumption | with_reducible refine Below.drewN' ?_ _ | with_reducible refine Below.drew ?_ | ((with_reducible refine Below.alloc' ?_ ?_ _); · (first | omega | (simp <;> omega)))))⟩
        · clear hok
          go_enter Tryd.func122, Tryd.ntmps122
          go_wp2_with fail
          refine wp_loop_rounds 1 ?_
          rw [rounds_succ]
          go_wp2
          all_goals
            go_ret
            exact ⟨by rw [HX.out]; rfl, (by repeat (first | exact Below.refl _ _ | assumption | with_reducible refine Below.drewN' ?_ _ | with_reducible refine Below.drew ?_ | ((with_reducible refine Below.alloc' ?_ ?_ _); · (first | omega | (simp <;> omega)))))⟩
        · clear hok
          go_enter Tryd.func122, Tryd.ntmps122
          go_wp2_with fail
          refine wp_loop_rounds 1 ?_
          rw [rounds_succ]
          go_wp2
          all_goals
            go_ret
            exact ⟨by rw [HX.out]; rfl, (by repeat (first | exact Below.refl _ _ | assumption | with_reducible refine Below.drewN' ?_ _ | with_reducible refine Below.drew ?_ | ((with_reducible refine Below.alloc' ?_ ?_ _); · (first | omega | (simp <;> omega)))))⟩
        · have f1 : decide (ta ≤ (l.length : Int)) = false := decide_eq_false (by omega)
          clear hok
          go_enter Tryd.func122, Tryd.ntmps122
          go_wp2_with fail
          refine wp_loop_rounds 1 ?_
          rw [rounds_succ]
          go_wp2
          all_goals
            go_ret
            exact ⟨by rw [HX.out]; rfl, (by repeat (first | exact Below.refl _ _ | assumption | with_reducible refine Below.drewN' ?_ _ | with_reducible refine Below.drew ?_ | ((with_reducible refine Below.alloc' ?_ ?_ _); · (first | omega | (simp <;> omega)))))⟩
      · have f1 := nb n1
        have f2 := nb n2
        have f3 := nb n3
        have f4 := nb n4
        have f5 := nb n5
        clear hok n1 n2 n3 n4 n5
        go_enter Tryd.func122, Tryd.ntmps122
        go_wp2_with fail
        refine wp_loop_rounds 1 ?_
        rw [rounds_succ]
        go_wp2
        all_goals
          go_ret
          exact ⟨by rw [HX.out]; rfl, (by repeat (first | exact Below.refl _ _ | assumption | with_reducible refine Below.drewN' ?_ _ | with_reducible refine Below.drew ?_ | ((with_reducible refine Below.alloc' ?_ ?_ _); · (first | omega | (simp <;> omega)))))⟩

set_option maxRecDepth 100000 in
set_option maxHeartbeats 400000 in
theorem may20_c (x : Ty) (B : Nat) (w : World) (c0 c1 c2 c3 : Value) (h : TyIn w B x c0 c1 c2 c3) (hB : B ≤ w.heap.size) (hc : x.count ≤ 4611686018427387904) :
    Calls Tryd.prog 78 #[.agg #[c0, c1, c2, c3]] w fun e w' => e = .returned (.bool x.may) ∧ Below w.heap.size w w' := by
  have hdl := tyDeep_le x
  have h1 : TyIn (w.alloc (.cells #[c0, c1, c2, c3] 24)) B x c0 c1 c2 c3 := h.below (by repeat (first | exact Below.refl _ _ | assumption | with_reducible refine Below.drewN' ?_ _ | with_reducible refine Below.drew ?_ | ((with_reducible refine Below.alloc' ?_ ?_ _); · (first | omega | (simp <;> omega)))))
  have H1 := Lib.hid (refCount20_c x B _ c0 c1 c2 c3 h1 (by simp; omega) (by omega))
  have H2 := Lib.hid (fun w1 hb hz => refDeep20_c x B w1 c0 c1 c2 c3 (TyIn.below h1 hb) hz (by omega))
  have H3 := Lib.hid (fun w1 hb hz => right20_c x B w1 c0 c1 c2 c3 (TyIn.below h1 hb) hz)
  have HG : Hid (x.may = (decide (x.count ≤ 64) && decide (x.deep ≤ 8) && x.right)) := Lib.hid rfl
  obtain ⟨r, hr⟩ : ∃ r, x.right = r := ⟨_, rfl⟩
  obtain ⟨dp, hd⟩ : ∃ q, x.deep = q := ⟨_, rfl⟩
  obtain ⟨q, hq⟩ : ∃ q, x.count = q := ⟨_, rfl⟩
  rw [hr, hq, hd] at HG
  rw [hq] at H1
  rw [hd] at H2
  rw [hr] at H3
  obtain ⟨A, cap, rfl, rfl, rfl, rfl, _⟩ := h.open_
  clear hr hq hd hdl h1 h hc
  generalize x.may = R at *
  generalize x.kind = ki at *
  generalize x.size = si at *
  generalize x.tail = ta at *
  by_cases hq64 : q ≤ 64
  · by_cases hdp : dp ≤ 8
    · have HX : Hid (R = r) := Lib.hid (by rw [HG.out]; simp [hdp, hq64])
      clear HG
      go_enter Tryd.func78, Tryd.ntmps78
      go_wp2_with fail
      refine H1.out.mono ?_
      rintro e w1 ⟨rfl, hb⟩
      obtain ⟨g0, g1, g2, g3⟩ := box4 (by simpa using hb)
      have hbz := hb.size
      simp only [World.size_alloc] at hbz
      have hB1 := (Below.alloc (Below.refl w.heap.size w) (Nat.le_refl _) _).trans (hb.mono (by simp))
      go_wp2_with fail
      refine (H2.out w1 (hb.mono (by simp; omega)) (by omega)).mono ?_
      rintro e w2 ⟨rfl, hb2⟩
      have hb3 := hb.trans (hb2.mono (by simp; omega))
      have hbz2 := hb2.size
      obtain ⟨k0, k1, k2, k3⟩ := box4 (by simpa using hb3)
      have hB2 := hB1.trans (hb2.mono (by omega))
      go_wp2_with fail
      refine (H3.out w2 (hb3.mono (by simp; omega)) (by omega)).mono ?_
      rintro e w3 ⟨rfl, hb4⟩
      go_wp2
      go_ret
      exact ⟨by rw [HX.out]; rfl, hB2.trans (hb4.mono (by omega))⟩
    · have HX : Hid (R = false) := Lib.hid (by rw [HG.out]; simp [hdp])
      clear HG
      go_enter Tryd.func78, Tryd.ntmps78
      go_wp2_with fail
      refine H1.out.mono ?_
      rintro e w1 ⟨rfl, hb⟩
      obtain ⟨g0, g1, g2, g3⟩ := box4 (by simpa using hb)
      have hbz := hb.size
      simp only [World.size_alloc] at hbz
      have hB1 := (Below.alloc (Below.refl w.heap.size w) (Nat.le_refl _) _).trans (hb.mono (by simp))
      go_wp2_with fail
      refine (H2.out w1 (hb.mono (by simp; omega)) (by omega)).mono ?_
      rintro e w2 ⟨rfl, hb2⟩
      go_wp2
      go_ret
      exact ⟨by rw [HX.out]; rfl, hB1.trans (hb2.mono (by omega))⟩
  · have HX : Hid (R = false) := Lib.hid (by rw [HG.out]; simp [hq64])
    clear HG
    go_enter Tryd.func78, Tryd.ntmps78
    go_wp2_with fail
    refine H1.out.mono ?_
    rintro e w1 ⟨rfl, hb⟩
    go_wp2
    go_ret
    exact ⟨by rw [HX.out]; rfl, (Below.alloc (Below.refl _ _) (Nat.le_refl _) _).trans (hb.mono (by simp))⟩
end Go.Proofs.YtacikiambpfipaaDoor
