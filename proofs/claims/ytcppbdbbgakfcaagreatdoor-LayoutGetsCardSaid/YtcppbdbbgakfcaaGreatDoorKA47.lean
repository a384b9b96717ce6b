/- The document's Flat. -/
import Derived.Test.YtcppbdbbgakfcaaGreatDoorKA14
set_option linter.unusedVariables false
set_option linter.unusedSimpArgs false
set_option maxRecDepth 100000
set_option maxHeartbeats 800000
namespace Go.Proofs.YtcppbdbbgakfcaaGreatDoor
open Go.RowKit
theorem tails20_c : ∀ (x : Ty) (B : Nat) (w : World) (c0 c1 c2 c3 : Value), TyIn w B x c0 c1 c2 c3 → B ≤ w.heap.size → True →
 Calls Tryz.prog 44 #[.agg #[c0, c1, c2, c3]] w fun e w' => e = .returned (.bool (!x.full)) ∧ Below w.heap.size w w' := by
 intro x
 induction x using Ty.ind with
 | h ki s l ta ih =>
  intro B w c0 c1 c2 c3 h hB _
  obtain ⟨rfl, rfl, rfl, hki, hsi, hta, hs, A, cap, rfl, hcap, hcm, hsub⟩ := h
  have IH := Lib.hid ih
  have HS := Lib.hid hsub
  have HKI := Lib.hid hki
  have HSI := Lib.hid hsi
  have HTA := Lib.hid hta
  unfold okI at hki hsi hta
  obtain ⟨hki1, hki2⟩ := hki
  obtain ⟨hsi1, hsi2⟩ := hsi
  obtain ⟨hta1, hta2⟩ := hta
  clear ih hsub
  obtain ⟨R, HR⟩ : ∃ R, Hid ((!(Ty.mk ki s l ta).full) = R) := ⟨_, Lib.hid rfl⟩
  rw [HR.out]
  by_cases ht0 : ta = 0
  ·subst ht0
   have HX : Hid (R = !(fullL l)) := Lib.hid (by rw [← HR.out]; rfl)
   go_enter Tryz.func44, Tryz.ntmps44
   go_wp2_with fail
   go_loopw [3] (fun i wr => ∃ k : Nat, k ≤ l.length ∧ i = .int .i64 k ∧ Hid (fullL (l.take k) = true) ∧ Below w.heap.size w wr ∧ wr.cell? ⟨w.heap.size, 2, none⟩ = some (.slice A l.length cap)) (fun i _ => l.length - (intOf i).toNat)
   case atStart => exact ⟨0, by omega, rfl, Lib.hid (by simp [fullL]), (by repeat (first | exact Below.refl _ _ | assumption | with_reducible refine Below.drewN' ?_ _ | with_reducible refine Below.drew ?_ | ((with_reducible refine Below.alloc' ?_ ?_ _); · (first | omega | (simp <;> omega))))), by simp⟩
   case round =>
    obtain ⟨k, hk, rfl, hm, hb, hcell⟩ := hrel
    by_cases hlt : k < l.length
    ·obtain ⟨b, o, d0, d1, d2, d3, rfl, hbB, e0, e1, e2, e3, hi⟩ := HS.out.at_ k hlt
     simp only [Nat.zero_add] at e0 e1 e2 e3
     replace e0 := (hb.cell (p := ⟨b, o + k * 4, none⟩) (by simp; omega)).trans e0
     replace e1 := (hb.cell (p := ⟨b, o + k * 4 + 1, none⟩) (by simp; omega)).trans e1
     replace e2 := (hb.cell (p := ⟨b, o + k * 4 + 2, none⟩) (by simp; omega)).trans e2
     replace e3 := (hb.cell (p := ⟨b, o + k * 4 + 3, none⟩) (by simp; omega)).trans e3
     have hbz := hb.size
     have hmem := List.getElem_mem hlt
     have hiw := hi.below (hb.mono hB)
     have HC := Lib.hid (IH.out _ hmem B wr d0 d1 d2 d3 hiw (by omega) trivial)
     cases hf : l[k].full with
     | true =>
      rw [hf] at HC
      have HN : Hid (fullL (l.take (k + 1)) = true) := Lib.hid (by rw [fullL_take hlt, hm.out, hf]; rfl)
      clear hf hi hiw
      go_wp2_with fail
      refine HC.out.mono ?_
      rintro e w2 ⟨rfl, hb2⟩
      have hbz2 := hb2.size
      have hbl := lt_of_cell hcell
      have hcell2 := (hb2.cell (p := ⟨w.heap.size, 2, none⟩) (by simp; omega)).trans hcell
      have hb3 := hb.trans (hb2.mono hbz)
      go_wp2
      go_roundw
      case rel => exact ⟨k + 1, by omega, by go_num, HN, hb3, hcell2⟩
      case measure => simp [intOf]; omega
     | false =>
      rw [hf] at HC
      have HN : Hid (fullL l = false) := Lib.hid (fullL_no hlt hf)
      clear hf hi hiw
      go_wp2_with fail
      refine HC.out.mono ?_
      rintro e w2 ⟨rfl, hb2⟩
      have hbz2 := hb2.size
      have hbl := lt_of_cell hcell
      have hcell2 := (hb2.cell (p := ⟨w.heap.size, 2, none⟩) (by simp; omega)).trans hcell
      have hb3 := hb.trans (hb2.mono hbz)
      go_wp2
      go_ret
      exact ⟨by rw [HX.out, HN.out]; rfl, hb3⟩
    ·have hm1 := hm.out
     rw [List.take_of_length_le (by omega)] at hm1
     have HM := Lib.hid hm1
     clear hm1
     go_wp2
     go_ret
     exact ⟨by rw [HX.out, HM.out]; rfl, hb⟩
  ·have e1 : (ta != 0) = true := bne_iff_ne.2 ht0
   have HX : Hid (R = true) := Lib.hid (by rw [← HR.out, full_is, Ty.tail_mk, decide_eq_false ht0]; rfl)
   clear ht0
   go_enter Tryz.func44, Tryz.ntmps44
   go_wp2
   go_ret
   exact ⟨by rw [HX.out]; rfl, (by repeat (first | exact Below.refl _ _ | assumption | with_reducible refine Below.drewN' ?_ _ | with_reducible refine Below.drew ?_ | ((with_reducible refine Below.alloc' ?_ ?_ _); · (first | omega | (simp <;> omega)))))⟩
theorem refFlat_c (x : Ty) (B : Nat) (w : World) (c0 c1 c2 c3 : Value) (h : TyIn w B x c0 c1 c2 c3) (hB : B ≤ w.heap.size) (hc : x.count ≤ 4611686018427387904) :
 Calls Tryz.prog 21 #[.agg #[c0, c1, c2, c3]] w fun e w' => e = .returned (.bool x.flat) ∧ Below w.heap.size w w' := by
 have HMY := Lib.hid (fun V (hV : Below w.heap.size w V) => may20_c x B V c0 c1 c2 c3 (h.below (hV.mono hB)) (by have := hV.size; omega) hc)
 obtain ⟨ki, s, l, ta⟩ := x
 obtain ⟨rfl, rfl, rfl, hki, hsi, hta, hs, A, cap, rfl, hcap, hcm, hsub⟩ := h
 have HS := Lib.hid hsub
 have IH : Hid (∀ y ∈ l, ∀ (B : Nat) (w : World) (c0 c1 c2 c3 : Value), TyIn w B y c0 c1 c2 c3 → B ≤ w.heap.size → True → Calls Tryz.prog 44 #[.agg #[c0, c1, c2, c3]] w fun e w' => e = .returned (.bool (!y.full)) ∧ Below w.heap.size w w') := Lib.hid (fun y _ => tails20_c y)
 have HFL : Hid ((Ty.mk ki s l ta).flat = ((Ty.mk ki s l ta).may && fullL l)) := Lib.hid rfl
 unfold okI at hki hsi hta
 clear hsub hc
 generalize (Ty.mk ki s l ta).flat = R at *
 generalize (Ty.mk ki s l ta).may = MY at *
 have HX : Hid (R = (MY && fullL l)) := HFL
 clear HFL
 go_enter Tryz.func21, Tryz.ntmps21
 go_wp2_with fail
 go_loopw [3] (fun i wr => ∃ k : Nat, k ≤ l.length ∧ i = .int .i64 k ∧ Hid (fullL (l.take k) = true) ∧ Below w.heap.size w wr ∧ wr.cell? ⟨w.heap.size, 2, none⟩ = some (.slice A l.length cap) ∧ Below (w.heap.size + 1) (w.alloc (.cells #[.int .i64 ki, .int .i64 s, .slice A l.length cap, .int .i64 ta] 24)) wr) (fun i _ => l.length - (intOf i).toNat)
 case atStart => exact ⟨0, by omega, rfl, Lib.hid (by simp [fullL]), (by repeat (first | exact Below.refl _ _ | assumption | with_reducible refine Below.drewN' ?_ _ | with_reducible refine Below.drew ?_ | ((with_reducible refine Below.alloc' ?_ ?_ _); · (first | omega | (simp <;> omega))))), by simp, Below.refl _ _⟩
 case round =>
  obtain ⟨k, hk, rfl, hm, hb, hcell, hbox⟩ := hrel
  by_cases hlt : k < l.length
  ·obtain ⟨b, o, d0, d1, d2, d3, rfl, hbB, e0, e1, e2, e3, hi⟩ := HS.out.at_ k hlt
   simp only [Nat.zero_add] at e0 e1 e2 e3
   replace e0 := (hb.cell (p := ⟨b, o + k * 4, none⟩) (by simp; omega)).trans e0
   replace e1 := (hb.cell (p := ⟨b, o + k * 4 + 1, none⟩) (by simp; omega)).trans e1
   replace e2 := (hb.cell (p := ⟨b, o + k * 4 + 2, none⟩) (by simp; omega)).trans e2
   replace e3 := (hb.cell (p := ⟨b, o + k * 4 + 3, none⟩) (by simp; omega)).trans e3
   have hbz := hb.size
   have hmem := List.getElem_mem hlt
   have hiw := hi.below (hb.mono hB)
   have HC := Lib.hid (IH.out _ hmem B wr d0 d1 d2 d3 hiw (by omega) trivial)
   have hbxz := hbox.size
   cases hf : l[k].full with
   | true =>
    rw [hf] at HC
    have HN : Hid (fullL (l.take (k + 1)) = true) := Lib.hid (by rw [fullL_take hlt, hm.out, hf]; rfl)
    clear hf hi hiw
    go_wp2_with fail
    refine HC.out.mono ?_
    rintro e w2 ⟨rfl, hb2⟩
    have hbox2 := hbox.trans (hb2.mono (by simpa using hbxz))
    have hbz2 := hb2.size
    have hbl := lt_of_cell hcell
    have hcell2 := (hb2.cell (p := ⟨w.heap.size, 2, none⟩) (by simp; omega)).trans hcell
    have hb3 := hb.trans (hb2.mono hbz)
    go_wp2
    go_roundw
    case rel => exact ⟨k + 1, by omega, by go_num, HN, hb3, hcell2, hbox2⟩
    case measure => simp [intOf]; omega
   | false =>
    rw [hf] at HC
    have HN : Hid (fullL l = false) := Lib.hid (fullL_no hlt hf)
    clear hf hi hiw
    go_wp2_with fail
    refine HC.out.mono ?_
    rintro e w2 ⟨rfl, hb2⟩
    have hbz2 := hb2.size
    have hbl := lt_of_cell hcell
    have hcell2 := (hb2.cell (p := ⟨w.heap.size, 2, none⟩) (by simp; omega)).trans hcell
    have hb3 := hb.trans (hb2.mono hbz)
    go_wp2
    go_ret
    exact ⟨by rw [HX.out, HN.out, Bool.and_false]; rfl, hb3⟩
  ·have hm1 := hm.out
   rw [List.take_of_length_le (by omega)] at hm1
   have HM := Lib.hid hm1
   obtain ⟨q0, q1, q2, q3⟩ := box4 hbox
   have hbz := hb.size
   have HM2 := Lib.hid (HMY.out wr hb)
   have HB := Lib.hid hb
   clear hm1
   go_wp2_with fail
   refine HM2.out.mono ?_
   rintro e w2 ⟨rfl, hb2⟩
   have hb3 := HB.out.trans (hb2.mono hbz)
   go_wp2
   go_ret
   exact ⟨by rw [HX.out, HM.out, Bool.and_true]; rfl, hb3⟩
end Go.Proofs.YtcppbdbbgakfcaaGreatDoor
