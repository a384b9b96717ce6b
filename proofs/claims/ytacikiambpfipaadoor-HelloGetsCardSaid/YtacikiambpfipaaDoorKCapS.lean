/- hatchwayref32.Same, hatchwaylaw32.great, hello.Offset. -/
import Derived.Test.YtacikiambpfipaaDoorKCapMay
import Derived.Test.YtacikiambpfipaaDoorKA9
import Derived.Test.YtacikiambpfipaaDoorKA8
namespace Go.Proofs.YtacikiambpfipaaDoor
set_option linter.unusedVariables false
set_option linter.unusedSimpArgs false
open Go.RowKit

set_option maxRecDepth 100000 in
set_option maxHeartbeats 1600000 in
theorem sameC_c (a b : List Cp) (va vb : Value) (B : Nat) (w : World) (ha : CpR w B va a) (hb : CpR w B vb b) (hB : B ≤ w.heap.size) (hla : a.length ≤ 100000) (hlb : b.length ≤ 100000) :
    Calls Tryd.prog 93 #[va, vb] w fun e w' => e = .returned (.bool (decide (a = b))) ∧ Below w.heap.size w w' := by
  obtain ⟨A, n, cap, rfl, hn, hnc, hcm⟩ := ha.form'
  obtain ⟨A', n', cap', rfl, hn', hnc', hcm'⟩ := hb.form'
  have hn1 : n ≤ 100000 := by rw [hn.out]; exact hla
  have hn2 : n' ≤ 100000 := by rw [hn'.out]; exact hlb
  obtain ⟨D, HD⟩ : ∃ D, Hid (decide (a = b) = D) := ⟨_, Lib.hid rfl⟩
  rw [HD.out]
  have HA := Lib.hid ha
  have HB := Lib.hid hb
  clear ha hb
  by_cases hne : n = n'
  · subst hne
    have q0 : ((n : Int) != (n : Int)) = false := by simp
    have hEG := eqg_rcap
    go_enter Tryd.func93, Tryd.ntmps93
    go_wp2_with fail
    go_loopw [5] (fun i wr => ∃ k : Nat, k ≤ n ∧ i = .int .i64 k ∧ Hid (∀ j (h1 : j < a.length) (h2 : j < b.length), j < k → a[j] = b[j]) ∧ Below w.heap.size w wr) (fun i _ => n - (intOf i).toNat)
    case atStart => exact ⟨0, by omega, rfl, Lib.hid (by omega), Below.refl _ _⟩
    case round =>
      obtain ⟨k, hk, rfl, He, hbw⟩ := hrel
      by_cases hlt : k < n
      · have h1 : k < a.length := by rw [← hn.out]; exact hlt
        have h2 : k < b.length := by rw [← hn'.out]; exact hlt
        obtain ⟨g, o, rfl, hg, e0, e1⟩ := (HA.out.below (hbw.mono hB)).at_ h1
        obtain ⟨g', o', rfl, hg', e2, e3⟩ := (HB.out.below (hbw.mono hB)).at_ h2
        have j0 : (k : Int) < (n : Int) := by omega
        by_cases hq : a[k] = b[k]
        · have HE : Hid (∀ j (h1 : j < a.length) (h2 : j < b.length), j < k + 1 → a[j] = b[j]) := Lib.hid (fun j q1 q2 q3 => by
            by_cases h : j = k
            · subst h; exact hq
            · exact He.out j q1 q2 (by omega))
          rw [hq] at e0 e1
          obtain ⟨y, hy⟩ : ∃ y, b[k] = y := ⟨_, rfl⟩
          rw [hy] at e0 e1 e2 e3
          obtain ⟨y1, y2⟩ := y
          simp only at e0 e1 e2 e3
          have hEQ : ∀ w : World, (Op.equalIn 10000 111 (.agg #[.string y1, .int .i64 y2]) (.agg #[.string y1, .int .i64 y2])).run Tryd.prog w = .ok true w := fun w => by rw [eqRCap_run, decide_eq_true rfl]
          clear hq hy h1 h2
          go_wp2_with fail
          go_quiet (fail)
          go_wp2
          go_roundw
          case rel => exact ⟨k + 1, by omega, by go_num, HE, hbw.drewN' _⟩
          case measure => simp [intOf]; omega
        · have HF : Hid (D = false) := Lib.hid (by
            rw [← HD.out]
            exact decide_eq_false (fun e => hq (by subst e; rfl)))
          obtain ⟨x, hx⟩ : ∃ x, a[k] = x := ⟨_, rfl⟩
          obtain ⟨y, hy⟩ : ∃ y, b[k] = y := ⟨_, rfl⟩
          rw [hx, hy] at hq
          rw [hx] at e0 e1
          rw [hy] at e2 e3
          obtain ⟨x1, x2⟩ := x
          obtain ⟨y1, y2⟩ := y
          simp only at e0 e1 e2 e3
          have hEQ : ∀ w : World, (Op.equalIn 10000 111 (.agg #[.string x1, .int .i64 x2]) (.agg #[.string y1, .int .i64 y2])).run Tryd.prog w = .ok false w := fun w => by rw [eqRCap_run, decide_eq_false hq]
          clear hq hx hy h1 h2
          go_wp2_with fail
          go_quiet (fail)
          go_wp2
          go_ret
          exact ⟨by rw [HF.out]; rfl, hbw.drewN' _⟩
      · have HF : Hid (D = true) := Lib.hid (by
          rw [← HD.out]
          exact decide_eq_true (List.ext_getElem (by rw [← hn.out, ← hn'.out]) (fun j q1 q2 => He.out j q1 q2 (by rw [← hn.out] at q1; omega))))
        go_wp2
        go_ret
        exact ⟨by rw [HF.out]; rfl, hbw⟩
  · have HF : Hid (D = false) := Lib.hid (by
      rw [← HD.out]
      exact decide_eq_false (fun e => hne (by have := hn.out; have := hn'.out; subst e; omega)))
    have q0 : ((n : Int) != (n' : Int)) = true := bne_iff_ne.2 (by omega)
    have q1 : (n != n') = true := bne_iff_ne.2 hne
    go_enter Tryd.func93, Tryd.ntmps93
    go_wp2
    go_ret
    exact ⟨by rw [HF.out]; rfl, Below.refl _ _⟩
/-- Greater than statements look at. -/
def grB (l : List Cp) : Bool := decide (40 < l.length) || l.any fun c => decide (100 < c.1.size)
theorem gr_go {l : List Cp} {k : Nat} (hk : k < l.length) (h : (l.take k).any (fun c => decide (100 < c.1.size)) = false) (hc : ¬ 100 < l[k].1.size) : (l.take (k + 1)).any (fun c => decide (100 < c.1.size)) = false := by
  rw [List.take_succ_eq_append_getElem hk, List.any_append, h]; simp [hc]
set_option maxRecDepth 100000 in
set_option maxHeartbeats 1600000 in
theorem great32_c (least most : Int) (l : List Cp) (v : Value) (B : Nat) (w : World) (h : CpR w B v l) (hB : B ≤ w.heap.size) :
    Calls Tryd.prog 28 #[.agg #[.int .i64 least, .int .i64 most, v]] w fun e w' => e = .returned (.bool (grB l)) ∧ Below w.heap.size w w' := by
  obtain ⟨A, n, cap, rfl, hn, hnc, hcm⟩ := h.form'
  obtain ⟨W0, hW0⟩ : ∃ W0, w.alloc (.cells #[.int .i64 least, .int .i64 most, .slice A n cap] 63) = W0 := ⟨_, rfl⟩
  have HW0 : Hid (Below w.heap.size w W0) := Lib.hid (by rw [← hW0]; exact (Below.refl _ w).alloc (Nat.le_refl _) _)
  have HZ0 : Hid (W0.heap.size = w.heap.size + 1) := Lib.hid (by rw [← hW0]; simp)
  have HK0 : Hid (Blk W0 w.heap.size 63 #[.int .i64 least, .int .i64 most, .slice A n cap]) := Lib.hid (by rw [← hW0]; exact Blk.new w _ _)
  have HR0 : Hid (CpR W0 B (.slice A n cap) l) := Lib.hid (h.below (HW0.out.mono hB))
  have FX : Hid (∀ V, Below (w.heap.size + 1) W0 V → V.cell? ⟨w.heap.size, 0, none⟩ = some (.int .i64 least) ∧ V.cell? ⟨w.heap.size, 1, none⟩ = some (.int .i64 most) ∧ V.cell? ⟨w.heap.size, 2, none⟩ = some (.slice A n cap) ∧ Hid (CpR V B (.slice A n cap) l ∧ w.heap.size + 1 ≤ V.heap.size)) := Lib.hid (fun V hV => by
    obtain ⟨a0, a1, a2, _⟩ := blk3 (HK0.out.keep hV (by omega))
    exact ⟨a0, a1, a2, Lib.hid ⟨HR0.out.below (hV.mono (by omega)), by have := hV.size; have := HZ0.out; omega⟩⟩)
  have HWW := Lib.hid hW0
  clear hW0 h
  obtain ⟨m0, m1, m2, HI0⟩ := FX.out W0 (Below.refl _ _)
  obtain ⟨D, HD⟩ : ∃ D, Hid (grB l = D) := ⟨_, Lib.hid rfl⟩
  rw [HD.out]
  by_cases h40 : 40 < n
  · have HE : Hid (D = true) := Lib.hid (by rw [← HD.out]; unfold grB; rw [decide_eq_true (by rw [← hn.out]; exact h40)]; rfl)
    go_enter Tryd.func28, Tryd.ntmps28
    go_wp2_with fail
    rw [HWW.out]
    go_wp2
    go_ret
    exact ⟨by rw [HE.out]; rfl, HW0.out⟩
  · go_enter Tryd.func28, Tryd.ntmps28
    go_wp2_with fail
    rw [HWW.out]
    go_wp2_with fail
    go_loop [3] (fun i => ∃ k : Nat, k ≤ n ∧ i = .int .i64 k ∧ Hid ((l.take k).any (fun c => decide (100 < c.1.size)) = false)) (fun i => n - (intOf i).toNat)
    case atStart => exact ⟨0, by omega, rfl, Lib.hid (by simp)⟩
    case round =>
      obtain ⟨k, hk, rfl, Hk⟩ := hrel
      by_cases hlt : k < n
      · have hkl : k < l.length := by rw [← hn.out]; exact hlt
        obtain ⟨g, o, rfl, hg, e0, e1⟩ := HI0.out.1.at_ hkl
        by_cases hc : 100 < l[k].1.size
        · have HE : Hid (D = true) := Lib.hid (by
            rw [← HD.out]
            unfold grB
            rw [List.any_eq_true.2 ⟨l[k], List.getElem_mem hkl, decide_eq_true hc⟩, Bool.or_true])
          obtain ⟨y, hy⟩ : ∃ y, l[k] = y := ⟨_, rfl⟩
          rw [hy] at e0 e1 hc
          clear hy
          obtain ⟨y1, y2⟩ := y
          simp only at e0 e1 hc
          go_wp2
          go_ret
          exact ⟨by rw [HE.out]; rfl, HW0.out⟩
        · have HGO := Lib.hid (gr_go hkl Hk.out hc)
          obtain ⟨y, hy⟩ : ∃ y, l[k] = y := ⟨_, rfl⟩
          rw [hy] at e0 e1 hc
          clear hy
          obtain ⟨y1, y2⟩ := y
          simp only at e0 e1 hc
          go_wp2
          go_round
          case rel => exact ⟨k + 1, by omega, by go_num, HGO⟩
          case measure => simp [intOf]; omega
      · have HE : Hid (D = false) := Lib.hid (by
          rw [← HD.out]
          unfold grB
          have hk' := Hk.out
          rw [List.take_of_length_le (by rw [← hn.out]; omega)] at hk'
          rw [hk', decide_eq_false (by rw [← hn.out]; exact h40)]; rfl)
        go_wp2
        go_ret
        exact ⟨by rw [HE.out]; rfl, HW0.out⟩
/-- Where a name stands first. -/
def offI (l : List Cp) (nm : ByteArray) : Option Nat := l.findIdx? fun c => decide (c.1 = nm)
theorem off_at {l : List Cp} {nm : ByteArray} {k : Nat} (hk : k < l.length) (h : ∀ j (hj : j < l.length), j < k → l[j].1 ≠ nm) (he : l[k].1 = nm) : offI l nm = some k := by
  unfold offI
  rw [List.findIdx?_eq_some_iff_getElem]
  exact ⟨hk, decide_eq_true he, fun j hj => by simpa using h j (by omega) hj⟩
theorem off_no {l : List Cp} {nm : ByteArray} (h : ∀ j (hj : j < l.length), l[j].1 ≠ nm) : offI l nm = none := by
  unfold offI
  rw [List.findIdx?_eq_none_iff]
  intro c hc
  obtain ⟨j, hj, rfl⟩ := List.getElem_of_mem hc
  exact decide_eq_false (h j hj)
def offEnd : Option Nat → Ending
  | some k => .returned (.tuple #[.int .i64 (16 + 16 * k : Nat), .bool true])
  | none => .returned (.tuple #[.int .i64 0, .bool false])
set_option maxRecDepth 100000 in
set_option maxHeartbeats 1600000 in
theorem offset_c (ver : Int) (l : List Cp) (v : Value) (nm : ByteArray) (B : Nat) (w : World) (h : CpR w B v l) (hB : B ≤ w.heap.size) (hl : l.length ≤ 100000) :
    Calls Tryd.prog 81 #[.agg #[.int .i64 ver, v], .string nm] w fun e w' => e = offEnd (offI l nm) ∧ Below w.heap.size w w' := by
  obtain ⟨A, n, cap, rfl, hn, hnc, hcm⟩ := h.form'
  have hn1 : n ≤ 100000 := by rw [hn.out]; exact hl
  obtain ⟨W0, hW0⟩ : ∃ W0, w.alloc (.cells #[.int .i64 ver, .slice A n cap] 106) = W0 := ⟨_, rfl⟩
  have HW0 : Hid (Below w.heap.size w W0) := Lib.hid (by rw [← hW0]; exact (Below.refl _ w).alloc (Nat.le_refl _) _)
  have HK0 : Hid (Blk W0 w.heap.size 106 #[.int .i64 ver, .slice A n cap]) := Lib.hid (by rw [← hW0]; exact Blk.new w _ _)
  have HC := Lib.hid h
  have HWW := Lib.hid hW0
  obtain ⟨D, HD⟩ : ∃ D, Hid (offI l nm = D) := ⟨_, Lib.hid rfl⟩
  rw [HD.out]
  have m1 : W0.cell? ⟨w.heap.size, 1, none⟩ = some (.slice A n cap) := HK0.out.cell 1
  clear hW0 h
  go_enter Tryd.func81, Tryd.ntmps81
  go_wp2_with fail
  rw [HWW.out]
  go_wp2_with fail
  clear m1
  go_loopw [11] (fun i wr => ∃ k : Nat, k ≤ n ∧ i = .int .i64 k ∧ Hid (∀ j (hj : j < l.length), j < k → l[j].1 ≠ nm) ∧ Below w.heap.size w wr) (fun i _ => n - (intOf i).toNat)
  case atStart => exact ⟨0, by omega, rfl, Lib.hid (by omega), HW0.out⟩
  case round =>
    obtain ⟨k, hk, rfl, Hk, hbw⟩ := hrel
    by_cases hlt : k < n
    · have hkl : k < l.length := by rw [← hn.out]; exact hlt
      obtain ⟨g, o, rfl, hg, e0, e1⟩ := (HC.out.below (hbw.mono hB)).at_ hkl
      have hgw : g < wr.heap.size := by have := hbw.size; omega
      rcases str_ways l[k].1 nm with ⟨hq, q1, q2⟩ | ⟨hq, q1, q2⟩
      · have HE : Hid (D = some k) := Lib.hid (by rw [← HD.out]; exact off_at hkl Hk.out hq)
        obtain ⟨y, hy⟩ : ∃ y, l[k] = y := ⟨_, rfl⟩
        rw [hy] at e0 e1 q1 q2
        clear hy hq
        obtain ⟨y1, y2⟩ := y
        simp only at e0 e1 q1 q2
        have HBN : Hid (Below w.heap.size w (wr.alloc (.cells #[.string y1, .int .i64 y2] 104))) := Lib.hid (hbw.alloc hbw.size _)
        go_wp2
        go_ret2
        exact ⟨by rw [HE.out, offEnd]; simp, HBN.out⟩
      · have HGO : Hid (∀ j (hj : j < l.length), j < k + 1 → l[j].1 ≠ nm) := Lib.hid (fun j hj hjk => by
          by_cases h : j = k
          · subst h; exact hq
          · exact Hk.out j hj (by omega))
        obtain ⟨y, hy⟩ : ∃ y, l[k] = y := ⟨_, rfl⟩
        rw [hy] at e0 e1 q1 q2
        clear hy hq
        obtain ⟨y1, y2⟩ := y
        simp only at e0 e1 q1 q2
        have HBN : Hid (Below w.heap.size w (wr.alloc (.cells #[.string y1, .int .i64 y2] 104))) := Lib.hid (hbw.alloc hbw.size _)
        go_wp2
        go_roundw
        case rel => exact ⟨k + 1, by omega, by go_num, HGO, HBN.out⟩
        case measure => simp [intOf]; omega
    · have HE : Hid (D = none) := Lib.hid (by rw [← HD.out]; exact off_no (fun j hj => Hk.out j hj (by rw [← hn.out] at hj; omega)))
      go_wp2
      go_ret2
      exact ⟨by rw [HE.out]; rfl, hbw⟩
end Go.Proofs.YtacikiambpfipaaDoor
