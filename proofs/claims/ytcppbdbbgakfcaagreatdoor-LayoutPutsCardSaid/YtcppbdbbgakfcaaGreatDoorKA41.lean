/- The statements' least (the least bytes of a value's layout). -/
import Derived.Test.YtcppbdbbgakfcaaGreatDoorKA14
set_option linter.unusedVariables false
set_option linter.unusedSimpArgs false
set_option maxRecDepth 100000
set_option maxHeartbeats 1600000
namespace Go.Proofs.YtcppbdbbgakfcaaGreatDoor
open Go.RowKit
theorem lowL_append (a b : List Ty) : lowL (a ++ b) = lowL a + lowL b := by
 induction a with
 | nil => simp [lowL]
 | cons x xs ih => simp only [List.cons_append, lowL, ih]; omega
theorem lowL_take {s : List Ty} {k : Nat} (h : k < s.length) : lowL (s.take (k + 1)) = lowL (s.take k) + s[k].low := by
 rw [take_succ_ty s k h, lowL_append]; simp [lowL]
theorem low_bd (t : Ty) : t.right = true → 0 ≤ t.low ∧ t.low ≤ 65536 * t.count := by
 induction t using Ty.ind with
 | h k z l ta ih =>
  intro hr
  obtain ⟨hok, hrl⟩ := right_ok hr
  have hL : 0 ≤ lowL l ∧ lowL l ≤ 65536 * countT l := by
   clear hok hr
   induction l with
   | nil => simp [lowL, countT]
   | cons x xs ihx =>
    have h1 := ih x (by simp) (rightT_at hrl 0 (by simp))
    have h2 := ihx (fun y hy => ih y (by simp [hy])) (by simp only [rightT, Bool.and_eq_true] at hrl; exact hrl.2)
    simp only [lowL, countT]; omega
  rcases ok_ways hok with ⟨rfl, hs, hn0, ht⟩ | ⟨rfl, h3, h4, hn0, ht⟩ | ⟨rfl, h3, h4, hn0, ht⟩ | ⟨rfl, h3, h4, hn0, ht⟩ | ⟨rfl, h3, h4, h5, h6⟩
  all_goals
   simp [Ty.low, Ty.count]
   omega
theorem llow_c : ∀ (x : Ty) (B : Nat) (w : World) (c0 c1 c2 c3 : Value), TyIn w B x c0 c1 c2 c3 → B ≤ w.heap.size → x.right = true ∧ x.count ≤ 64 →
 Calls Tryz.prog 39 #[.agg #[c0, c1, c2, c3]] w fun e w' => e = .returned (.int .i64 x.low) ∧ Below w.heap.size w w' := by
 intro x
 induction x using Ty.ind with
 | h ki s l ta ih =>
  intro B w c0 c1 c2 c3 h hB hrc
  obtain ⟨rfl, rfl, rfl, hki, hsi, hta, hs, A, cap, rfl, hcap, hcm, hsub⟩ := h
  have IH := Lib.hid ih
  have HS := Lib.hid hsub
  have HKI := Lib.hid hki
  have HSI := Lib.hid hsi
  have HTA := Lib.hid hta
  unfold okI at hki hsi hta
  obtain ⟨hki1, hki2⟩ := hki
  obtain ⟨hsi1, hsi2⟩ := hsi
  obtain ⟨hta1, hta2⟩ := hta
  clear ih hsub
  obtain ⟨hr, hc⟩ := hrc
  obtain ⟨hok, hrl⟩ := right_ok hr
  simp only [Ty.count] at hc
  have HRL := Lib.hid hrl
  have HLOW : Hid ((Ty.mk ki s l ta).low = if ki = 1 ∨ ki = 2 then s else if ki = 3 ∨ ki = 4 then 1 else lowL l) := Lib.hid (by simp only [Ty.low])
  generalize (Ty.mk ki s l ta).low = R at *
  clear hr hrl
  rcases ok_ways hok with ⟨rfl, h3, hn0, ht⟩ | ⟨rfl, h3, h4, hn0, ht⟩ | ⟨rfl, h3, h4, hn0, ht⟩ | ⟨rfl, h3, h4, hn0, ht⟩ | ⟨rfl, rfl, h4, h5, h6⟩
  ·have HX : Hid (R = s) := Lib.hid (by rw [HLOW.out]; rfl)
   go_enter Tryz.func39, Tryz.ntmps39
   go_wp2
   go_ret
   exact ⟨by rw [HX.out]; rfl, (by repeat (first | exact Below.refl _ _ | assumption | with_reducible refine Below.drewN' ?_ _ | with_reducible refine Below.drew ?_ | ((with_reducible refine Below.alloc' ?_ ?_ _); · (first | omega | (simp <;> omega)))))⟩
  ·have HX : Hid (R = s) := Lib.hid (by rw [HLOW.out]; rfl)
   go_enter Tryz.func39, Tryz.ntmps39
   go_wp2
   go_ret
   exact ⟨by rw [HX.out]; rfl, (by repeat (first | exact Below.refl _ _ | assumption | with_reducible refine Below.drewN' ?_ _ | with_reducible refine Below.drew ?_ | ((with_reducible refine Below.alloc' ?_ ?_ _); · (first | omega | (simp <;> omega)))))⟩
  ·have HX : Hid (R = 1) := Lib.hid (by rw [HLOW.out]; rfl)
   go_enter Tryz.func39, Tryz.ntmps39
   go_wp2
   go_ret
   exact ⟨by rw [HX.out]; rfl, (by repeat (first | exact Below.refl _ _ | assumption | with_reducible refine Below.drewN' ?_ _ | with_reducible refine Below.drew ?_ | ((with_reducible refine Below.alloc' ?_ ?_ _); · (first | omega | (simp <;> omega)))))⟩
  ·have HX : Hid (R = 1) := Lib.hid (by rw [HLOW.out]; rfl)
   go_enter Tryz.func39, Tryz.ntmps39
   go_wp2
   go_ret
   exact ⟨by rw [HX.out]; rfl, (by repeat (first | exact Below.refl _ _ | assumption | with_reducible refine Below.drewN' ?_ _ | with_reducible refine Below.drew ?_ | ((with_reducible refine Below.alloc' ?_ ?_ _); · (first | omega | (simp <;> omega)))))⟩
  ·have HX : Hid (R = lowL l) := Lib.hid (by rw [HLOW.out]; rfl)
   clear hok
   go_enter Tryz.func39, Tryz.ntmps39
   go_wp2_with fail
   go_loopw [3, 4] (fun v i wr => ∃ (k : Nat) (m : Int), k ≤ l.length ∧ i = .int .i64 k ∧ Hid (m = lowL (l.take k)) ∧ Hid (0 ≤ m ∧ m ≤ 65536 * countT (l.take k)) ∧ v = .int .i64 m ∧ Below w.heap.size w wr ∧ wr.cell? ⟨w.heap.size, 2, none⟩ = some (.slice A l.length cap)) (fun _ i _ => l.length - (intOf i).toNat)
   case atStart => exact ⟨0, 0, by omega, rfl, Lib.hid (by simp [lowL]), Lib.hid (by simp [countT]), rfl, (by repeat (first | exact Below.refl _ _ | assumption | with_reducible refine Below.drewN' ?_ _ | with_reducible refine Below.drew ?_ | ((with_reducible refine Below.alloc' ?_ ?_ _); · (first | omega | (simp <;> omega))))), by simp⟩
   case round =>
    obtain ⟨k, m, hk, rfl, hm, hbm, rfl, hb, hcell⟩ := hrel
    by_cases hlt : k < l.length
    ·obtain ⟨b, o, d0, d1, d2, d3, rfl, hbB, e0, e1, e2, e3, hi⟩ := HS.out.at_ k hlt
     simp only [Nat.zero_add] at e0 e1 e2 e3
     replace e0 := (hb.cell (p := ⟨b, o + k * 4, none⟩) (by simp; omega)).trans e0
     replace e1 := (hb.cell (p := ⟨b, o + k * 4 + 1, none⟩) (by simp; omega)).trans e1
     replace e2 := (hb.cell (p := ⟨b, o + k * 4 + 2, none⟩) (by simp; omega)).trans e2
     replace e3 := (hb.cell (p := ⟨b, o + k * 4 + 3, none⟩) (by simp; omega)).trans e3
     have hbz := hb.size
     have hmem := List.getElem_mem hlt
     have hiw := hi.below (hb.mono hB)
     have hct := countT_take l k hlt
     have hcle := countT_take_le l (k + 1)
     have hlb := low_bd l[k] (rightT_at HRL.out k hlt)
     obtain ⟨hm1, hm2⟩ := hbm.out
     have HC := Lib.hid (IH.out _ hmem B wr d0 d1 d2 d3 hiw (by omega) ⟨rightT_at HRL.out k hlt, by omega⟩)
     obtain ⟨q, hq⟩ : ∃ q, l[k].low = q := ⟨_, rfl⟩
     rw [hq] at HC hlb
     have Hq : Hid (m + q = lowL (l.take (k + 1))) := Lib.hid (by rw [lowL_take hlt, ← hm.out, hq])
     have Hb : Hid (0 ≤ m + q ∧ m + q ≤ 65536 * countT (l.take (k + 1))) := Lib.hid (by omega)
     have hmq : m + q ≤ 9223372036854775807 := by omega
     clear hct hcle hq hiw hi
     go_wp2_with fail
     refine HC.out.mono ?_
     rintro e w2 ⟨rfl, hb2⟩
     have hbz2 := hb2.size
     have hbl := lt_of_cell hcell
     have hcell2 := (hb2.cell (p := ⟨w.heap.size, 2, none⟩) (by simp; omega)).trans hcell
     have hb3 := hb.trans (hb2.mono hbz)
     go_wp2
     go_roundw
     case rel =>
      have key : ∃ (k2 : Nat) (m2 : Int), k2 ≤ l.length ∧ Value.int .i64 ((k : Int) + 1) = .int .i64 k2 ∧ Hid (m2 = lowL (l.take k2)) ∧ Hid (0 ≤ m2 ∧ m2 ≤ 65536 * countT (l.take k2)) ∧ Value.int .i64 (m + q) = .int .i64 m2 ∧ Below w.heap.size w w2 ∧ w2.cell? ⟨w.heap.size, 2, none⟩ = some (.slice _ l.length cap) := ⟨k + 1, m + q, by omega, by go_num, Hq, Hb, rfl, hb3, hcell2⟩
      first | exact key | ((repeat apply Exists.intro); exact ⟨key, rfl⟩)
     case measure => simp [intOf]; omega
    ·have hm1 := hm.out
     rw [List.take_of_length_le (by omega)] at hm1
     have HM := Lib.hid hm1
     clear hm1
     go_wp2
     go_ret
     exact ⟨by show Ending.returned (.int .i64 m) = _; rw [HX.out, HM.out], hb⟩
theorem tinyAt_yes {t : Ty} (h0 : 0 < t.tail) {k : Nat} (hk : k < t.sub.length) (h1 : (t.sub.length : Int) - t.tail ≤ k) (h2 : (t.sub[k]).low = 0) : tinyAt t = true := by
 unfold tinyAt
 rw [decide_eq_true h0, Bool.true_and]
 exact List.any_eq_true.2 ⟨k, List.mem_range.2 hk, by simp only [List.getElem?_eq_getElem hk, Option.getD_some]; rw [decide_eq_true h1, decide_eq_true h2]; rfl⟩
theorem tinyAt_no {t : Ty} (h : ∀ j (hj : j < t.sub.length), (t.sub.length : Int) - t.tail ≤ j → (t.sub[j]).low ≠ 0) : tinyAt t = false := by
 unfold tinyAt
 rw [Bool.and_eq_false_iff]
 refine Or.inr (List.any_eq_false.2 fun j hj => ?_)
 have hj' := List.mem_range.1 hj
 simp only [List.getElem?_eq_getElem hj', Option.getD_some, Bool.and_eq_true, decide_eq_true_eq, not_and]
 exact h j hj'
theorem tiny_c (x : Ty) (B : Nat) (w : World) (c0 c1 c2 c3 : Value) (h : TyIn w B x c0 c1 c2 c3) (hB : B ≤ w.heap.size) (hr : x.right = true) (hc : x.count ≤ 64) :
 Calls Tryz.prog 13 #[.agg #[c0, c1, c2, c3]] w fun e w' => e = .returned (.bool (tinyAt x)) ∧ Below w.heap.size w w' := by
 obtain ⟨ki, s, l, ta⟩ := x
 obtain ⟨rfl, rfl, rfl, _, _, _, hll, A, cap, rfl, hcap, hcm, hsub⟩ := h
 obtain ⟨hok, hrl⟩ := right_ok hr
 have hbd : 0 ≤ ta ∧ ta ≤ l.length ∧ l.length ≤ 16 := by
  rcases ok_ways hok with ⟨rfl, h3, hn0, ht⟩ | ⟨rfl, h3, h4, hn0, ht⟩ | ⟨rfl, h3, h4, hn0, ht⟩ | ⟨rfl, h3, h4, hn0, ht⟩ | ⟨rfl, rfl, h4, h5, h6⟩ <;> omega
 obtain ⟨hta, htl, hl16⟩ := hbd
 have HY : Hid (∀ k (hk : k < l.length), (l.length : Int) - ta ≤ k → (l[k]).low = 0 → tinyAt (.mk ki s l ta) = true) := Lib.hid (fun k hk h1 h2 => tinyAt_yes (t := .mk ki s l ta) (by simp only [Ty.tail_mk]; omega) (by simpa using hk) (by simpa using h1) (by simpa using h2))
 have HNO : Hid ((∀ j (hj : j < l.length), (l.length : Int) - ta ≤ j → (l[j]).low ≠ 0) → tinyAt (.mk ki s l ta) = false) := Lib.hid (fun h => tinyAt_no (t := .mk ki s l ta) (by simpa using h))
 have HRL := Lib.hid hrl
 have HS := Lib.hid hsub
 simp only [Ty.count] at hc
 generalize tinyAt (.mk ki s l ta) = R at *
 have ew : IntKind.i64.wrap ((l.length : Int) - ta) = (l.length : Int) - ta := IntWalk.i64_in _ (by omega)
 obtain ⟨k0, hk0⟩ : ∃ k0 : Nat, (l.length : Int) - ta = k0 := ⟨((l.length : Int) - ta).toNat, by omega⟩
 have HK0 := Lib.hid hk0
 clear hsub hr hok hrl hk0
 go_enter Tryz.func13, Tryz.ntmps13
 go_wp2_with fail
 rw [HK0.out]
 go_loopw [3] (fun i wr => ∃ k : Nat, k0 ≤ k ∧ k ≤ l.length ∧ i = .int .i64 k ∧ Hid (∀ j (hj : j < l.length), (l.length : Int) - ta ≤ j → j < k → (l[j]).low ≠ 0) ∧ Below w.heap.size w wr ∧ wr.cell? ⟨w.heap.size, 2, none⟩ = some (.slice A l.length cap) ∧ wr.cell? ⟨w.heap.size, 3, none⟩ = some (.int .i64 ta)) (fun i _ => l.length - (intOf i).toNat)
 case atStart => exact ⟨k0, by omega, by have := HK0.out; omega, rfl, Lib.hid (fun j hj h1 h2 => by have := HK0.out; omega), (by repeat (first | exact Below.refl _ _ | assumption | with_reducible refine Below.drewN' ?_ _ | with_reducible refine Below.drew ?_ | ((with_reducible refine Below.alloc' ?_ ?_ _); · (first | omega | (simp <;> omega))))), by simp, by simp⟩
 case round =>
  obtain ⟨k, hk0, hk, rfl, HJ, hb, hcell, hcell3⟩ := hrel
  by_cases hlt : k < l.length
  ·have dt : decide ((0 : Int) < ta) = true := decide_eq_true (by have := HK0.out; omega)
   obtain ⟨b, o, d0, d1, d2, d3, rfl, hbB, e0, e1, e2, e3, hi⟩ := HS.out.at_ k hlt
   simp only [Nat.zero_add] at e0 e1 e2 e3
   replace e0 := (hb.cell (p := ⟨b, o + k * 4, none⟩) (by simp; omega)).trans e0
   replace e1 := (hb.cell (p := ⟨b, o + k * 4 + 1, none⟩) (by simp; omega)).trans e1
   replace e2 := (hb.cell (p := ⟨b, o + k * 4 + 2, none⟩) (by simp; omega)).trans e2
   replace e3 := (hb.cell (p := ⟨b, o + k * 4 + 3, none⟩) (by simp; omega)).trans e3
   have hbz := hb.size
   have hmem := List.getElem_mem hlt
   have hiw := hi.below (hb.mono hB)
   have hct := countT_take l k hlt
   have hcle := countT_take_le l (k + 1)
   have HC := Lib.hid (llow_c l[k] B wr d0 d1 d2 d3 hiw (by omega) ⟨rightT_at HRL.out k hlt, by omega⟩)
   have HYK := Lib.hid (HY.out k hlt (by have := HK0.out; omega))
   have HNX : Hid (l[k].low ≠ 0 → ∀ j (hj : j < l.length), (l.length : Int) - ta ≤ j → j < k + 1 → (l[j]).low ≠ 0) := Lib.hid (fun hne j hj h1 h2 => by
    by_cases he : j = k
    ·subst he; exact hne
    ·exact HJ.out j hj h1 (by omega))
   obtain ⟨q, hq⟩ : ∃ q, l[k].low = q := ⟨_, rfl⟩
   rw [hq] at HC HYK HNX
   clear hct hcle hq hiw hi
   go_wp2_with fail
   refine HC.out.mono ?_
   rintro e w2 ⟨rfl, hb2⟩
   have hbz2 := hb2.size
   have hbl := lt_of_cell hcell
   have hcell2 := (hb2.cell (p := ⟨w.heap.size, 2, none⟩) (by simp; omega)).trans hcell
   have hb3 := hb.trans (hb2.mono hbz)
   have hcell4 := (hb2.cell (p := ⟨w.heap.size, 3, none⟩) (by simp; omega)).trans hcell3
   rcases beq0 q with ⟨he, k1, k2⟩ | ⟨he, k1, k2⟩
   ·go_wp2
    go_ret
    exact ⟨by rw [HYK.out he]; rfl, hb3⟩
   ·go_wp2
    go_roundw
    case rel => exact ⟨k + 1, by omega, by omega, by go_num, Lib.hid (HNX.out he), hb3, hcell2, hcell4⟩
    case measure => simp [intOf]; omega
  ·have HR : Hid (R = false) := Lib.hid (HNO.out (fun j hj h1 => HJ.out j hj h1 (by omega)))
   go_wp2
   go_ret
   exact ⟨by rw [HR.out]; rfl, hb⟩
theorem tails20_c : ∀ (x : Ty) (B : Nat) (w : World) (c0 c1 c2 c3 : Value), TyIn w B x c0 c1 c2 c3 → B ≤ w.heap.size → True →
 Calls Tryz.prog 44 #[.agg #[c0, c1, c2, c3]] w fun e w' => e = .returned (.bool (!x.full)) ∧ Below w.heap.size w w' := by
 intro x
 induction x using Ty.ind with
 | h ki s l ta ih =>
  intro B w c0 c1 c2 c3 h hB _
  obtain ⟨rfl, rfl, rfl, hki, hsi, hta, hs, A, cap, rfl, hcap, hcm, hsub⟩ := h
  have IH := Lib.hid ih
  have HS := Lib.hid hsub
  have HKI := Lib.hid hki
  have HSI := Lib.hid hsi
  have HTA := Lib.hid hta
  unfold okI at hki hsi hta
  obtain ⟨hki1, hki2⟩ := hki
  obtain ⟨hsi1, hsi2⟩ := hsi
  obtain ⟨hta1, hta2⟩ := hta
  clear ih hsub
  obtain ⟨R, HR⟩ : ∃ R, Hid ((!(Ty.mk ki s l ta).full) = R) := ⟨_, Lib.hid rfl⟩
  rw [HR.out]
  by_cases ht0 : ta = 0
  ·subst ht0
   have HX : Hid (R = !(fullL l)) := Lib.hid (by rw [← HR.out]; rfl)
   go_enter Tryz.func44, Tryz.ntmps44
   go_wp2_with fail
   go_loopw [3] (fun i wr => ∃ k : Nat, k ≤ l.length ∧ i = .int .i64 k ∧ Hid (fullL (l.take k) = true) ∧ Below w.heap.size w wr ∧ wr.cell? ⟨w.heap.size, 2, none⟩ = some (.slice A l.length cap)) (fun i _ => l.length - (intOf i).toNat)
   case atStart => exact ⟨0, by omega, rfl, Lib.hid (by simp [fullL]), (by repeat (first | exact Below.refl _ _ | assumption | with_reducible refine Below.drewN' ?_ _ | with_reducible refine Below.drew ?_ | ((with_reducible refine Below.alloc' ?_ ?_ _); · (first | omega | (simp <;> omega))))), by simp⟩
   case round =>
    obtain ⟨k, hk, rfl, hm, hb, hcell⟩ := hrel
    by_cases hlt : k < l.length
    ·obtain ⟨b, o, d0, d1, d2, d3, rfl, hbB, e0, e1, e2, e3, hi⟩ := HS.out.at_ k hlt
     simp only [Nat.zero_add] at e0 e1 e2 e3
     replace e0 := (hb.cell (p := ⟨b, o + k * 4, none⟩) (by simp; omega)).trans e0
     replace e1 := (hb.cell (p := ⟨b, o + k * 4 + 1, none⟩) (by simp; omega)).trans e1
     replace e2 := (hb.cell (p := ⟨b, o + k * 4 + 2, none⟩) (by simp; omega)).trans e2
     replace e3 := (hb.cell (p := ⟨b, o + k * 4 + 3, none⟩) (by simp; omega)).trans e3
     have hbz := hb.size
     have hmem := List.getElem_mem hlt
     have hiw := hi.below (hb.mono hB)
     have HC := Lib.hid (IH.out _ hmem B wr d0 d1 d2 d3 hiw (by omega) trivial)
     cases hf : l[k].full with
     | true =>
      rw [hf] at HC
      have HN : Hid (fullL (l.take (k + 1)) = true) := Lib.hid (by rw [fullL_take hlt, hm.out, hf]; rfl)
      clear hf hi hiw
      go_wp2_with fail
      refine HC.out.mono ?_
      rintro e w2 ⟨rfl, hb2⟩
      have hbz2 := hb2.size
      have hbl := lt_of_cell hcell
      have hcell2 := (hb2.cell (p := ⟨w.heap.size, 2, none⟩) (by simp; omega)).trans hcell
      have hb3 := hb.trans (hb2.mono hbz)
      go_wp2
      go_roundw
      case rel => exact ⟨k + 1, by omega, by go_num, HN, hb3, hcell2⟩
      case measure => simp [intOf]; omega
     | false =>
      rw [hf] at HC
      have HN : Hid (fullL l = false) := Lib.hid (fullL_no hlt hf)
      clear hf hi hiw
      go_wp2_with fail
      refine HC.out.mono ?_
      rintro e w2 ⟨rfl, hb2⟩
      have hbz2 := hb2.size
      have hbl := lt_of_cell hcell
      have hcell2 := (hb2.cell (p := ⟨w.heap.size, 2, none⟩) (by simp; omega)).trans hcell
      have hb3 := hb.trans (hb2.mono hbz)
      go_wp2
      go_ret
      exact ⟨by rw [HX.out, HN.out]; rfl, hb3⟩
    ·have hm1 := hm.out
     rw [List.take_of_length_le (by omega)] at hm1
     have HM := Lib.hid hm1
     clear hm1
     go_wp2
     go_ret
     exact ⟨by rw [HX.out, HM.out]; rfl, hb⟩
  ·have e1 : (ta != 0) = true := bne_iff_ne.2 ht0
   have HX : Hid (R = true) := Lib.hid (by rw [← HR.out, full_is, Ty.tail_mk, decide_eq_false ht0]; rfl)
   clear ht0
   go_enter Tryz.func44, Tryz.ntmps44
   go_wp2
   go_ret
   exact ⟨by rw [HX.out]; rfl, (by repeat (first | exact Below.refl _ _ | assumption | with_reducible refine Below.drewN' ?_ _ | with_reducible refine Below.drew ?_ | ((with_reducible refine Below.alloc' ?_ ?_ _); · (first | omega | (simp <;> omega)))))⟩
theorem refFlat_c (x : Ty) (B : Nat) (w : World) (c0 c1 c2 c3 : Value) (h : TyIn w B x c0 c1 c2 c3) (hB : B ≤ w.heap.size) (hc : x.count ≤ 4611686018427387904) :
 Calls Tryz.prog 21 #[.agg #[c0, c1, c2, c3]] w fun e w' => e = .returned (.bool x.flat) ∧ Below w.heap.size w w' := by
 have HMY := Lib.hid (fun V (hV : Below w.heap.size w V) => may20_c x B V c0 c1 c2 c3 (h.below (hV.mono hB)) (by have := hV.size; omega) hc)
 obtain ⟨ki, s, l, ta⟩ := x
 obtain ⟨rfl, rfl, rfl, hki, hsi, hta, hs, A, cap, rfl, hcap, hcm, hsub⟩ := h
 have HS := Lib.hid hsub
 have IH : Hid (∀ y ∈ l, ∀ (B : Nat) (w : World) (c0 c1 c2 c3 : Value), TyIn w B y c0 c1 c2 c3 → B ≤ w.heap.size → True → Calls Tryz.prog 44 #[.agg #[c0, c1, c2, c3]] w fun e w' => e = .returned (.bool (!y.full)) ∧ Below w.heap.size w w') := Lib.hid (fun y _ => tails20_c y)
 have HFL : Hid ((Ty.mk ki s l ta).flat = ((Ty.mk ki s l ta).may && fullL l)) := Lib.hid rfl
 unfold okI at hki hsi hta
 clear hsub hc
 generalize (Ty.mk ki s l ta).flat = R at *
 generalize (Ty.mk ki s l ta).may = MY at *
 have HX : Hid (R = (MY && fullL l)) := HFL
 clear HFL
 go_enter Tryz.func21, Tryz.ntmps21
 go_wp2_with fail
 go_loopw [3] (fun i wr => ∃ k : Nat, k ≤ l.length ∧ i = .int .i64 k ∧ Hid (fullL (l.take k) = true) ∧ Below w.heap.size w wr ∧ wr.cell? ⟨w.heap.size, 2, none⟩ = some (.slice A l.length cap) ∧ Below (w.heap.size + 1) (w.alloc (.cells #[.int .i64 ki, .int .i64 s, .slice A l.length cap, .int .i64 ta] 24)) wr) (fun i _ => l.length - (intOf i).toNat)
 case atStart => exact ⟨0, by omega, rfl, Lib.hid (by simp [fullL]), (by repeat (first | exact Below.refl _ _ | assumption | with_reducible refine Below.drewN' ?_ _ | with_reducible refine Below.drew ?_ | ((with_reducible refine Below.alloc' ?_ ?_ _); · (first | omega | (simp <;> omega))))), by simp, Below.refl _ _⟩
 case round =>
  obtain ⟨k, hk, rfl, hm, hb, hcell, hbox⟩ := hrel
  by_cases hlt : k < l.length
  ·obtain ⟨b, o, d0, d1, d2, d3, rfl, hbB, e0, e1, e2, e3, hi⟩ := HS.out.at_ k hlt
   simp only [Nat.zero_add] at e0 e1 e2 e3
   replace e0 := (hb.cell (p := ⟨b, o + k * 4, none⟩) (by simp; omega)).trans e0
   replace e1 := (hb.cell (p := ⟨b, o + k * 4 + 1, none⟩) (by simp; omega)).trans e1
   replace e2 := (hb.cell (p := ⟨b, o + k * 4 + 2, none⟩) (by simp; omega)).trans e2
   replace e3 := (hb.cell (p := ⟨b, o + k * 4 + 3, none⟩) (by simp; omega)).trans e3
   have hbz := hb.size
   have hmem := List.getElem_mem hlt
   have hiw := hi.below (hb.mono hB)
   have HC := Lib.hid (IH.out _ hmem B wr d0 d1 d2 d3 hiw (by omega) trivial)
   have hbxz := hbox.size
   cases hf : l[k].full with
   | true =>
    rw [hf] at HC
    have HN : Hid (fullL (l.take (k + 1)) = true) := Lib.hid (by rw [fullL_take hlt, hm.out, hf]; rfl)
    clear hf hi hiw
    go_wp2_with fail
    refine HC.out.mono ?_
    rintro e w2 ⟨rfl, hb2⟩
    have hbox2 := hbox.trans (hb2.mono (by simpa using hbxz))
    have hbz2 := hb2.size
    have hbl := lt_of_cell hcell
    have hcell2 := (hb2.cell (p := ⟨w.heap.size, 2, none⟩) (by simp; omega)).trans hcell
    have hb3 := hb.trans (hb2.mono hbz)
    go_wp2
    go_roundw
    case rel => exact ⟨k + 1, by omega, by go_num, HN, hb3, hcell2, hbox2⟩
    case measure => simp [intOf]; omega
   | false =>
    rw [hf] at HC
    have HN : Hid (fullL l = false) := Lib.hid (fullL_no hlt hf)
    clear hf hi hiw
    go_wp2_with fail
    refine HC.out.mono ?_
    rintro e w2 ⟨rfl, hb2⟩
    have hbz2 := hb2.size
    have hbl := lt_of_cell hcell
    have hcell2 := (hb2.cell (p := ⟨w.heap.size, 2, none⟩) (by simp; omega)).trans hcell
    have hb3 := hb.trans (hb2.mono hbz)
    go_wp2
    go_ret
    exact ⟨by rw [HX.out, HN.out, Bool.and_false]; rfl, hb3⟩
  ·have hm1 := hm.out
   rw [List.take_of_length_le (by omega)] at hm1
   have HM := Lib.hid hm1
   obtain ⟨q0, q1, q2, q3⟩ := box4 hbox
   have hbz := hb.size
   have HM2 := Lib.hid (HMY.out wr hb)
   have HB := Lib.hid hb
   clear hm1
   go_wp2_with fail
   refine HM2.out.mono ?_
   rintro e w2 ⟨rfl, hb2⟩
   have hb3 := HB.out.trans (hb2.mono hbz)
   go_wp2
   go_ret
   exact ⟨by rw [HX.out, HM.out, Bool.and_true]; rfl, hb3⟩
end Go.Proofs.YtcppbdbbgakfcaaGreatDoor
