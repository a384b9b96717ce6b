/- hello.both: the iterator over what stands in both rows. -/
import Derived.Test.YtacikiambpfipaaDoorKCapMay
import Derived.Test.YtacikiambpfipaaDoorKA8
import Derived.Sort.QuietIn
import Derived.Sort.CutIn
import Derived.WalkSpells
namespace Go.Proofs.YtacikiambpfipaaDoor
set_option linter.unusedVariables false
set_option linter.unusedSimpArgs false
open Go.RowKit Go.Shelf

theorem bothF_c (va vb : Value) (w : World) (A : Option Addr) (n c : Nat) (A' : Option Addr) (n' c' : Nat) (hv : va = .slice A n c) (hv' : vb = .slice A' n' c') :
    Calls Tryd.prog 124 #[va, vb] w fun e w' => e = .returned (.func (.func 157) #[] #[.pointer (some ⟨w.heap.size, 0, none⟩), .pointer (some ⟨w.heap.size + 1, 0, none⟩)]) ∧ w' = (w.alloc (.cells #[va] 66)).alloc (.cells #[vb] 66) := by
  subst hv; subst hv'
  go_enter Tryd.func124, Tryd.ntmps124
  go_wp2
  go_ret
  exact ⟨rfl, rfl⟩
def encC (c : Cp) : Array Value := #[.agg #[.string c.1, .int .i64 c.2]]
/-- What lies below d0, and the two boxes, stand. -/
def KeepC (d0 bb : Nat) (W W' : World) : Prop := (∀ k, k < d0 → W'.heap[k]? = W.heap[k]?) ∧ W'.heap[bb]? = W.heap[bb]? ∧ W'.heap[bb + 1]? = W.heap[bb + 1]?
theorem KeepC.trans {d0 bb : Nat} {A B C : World} (h : KeepC d0 bb A B) (k : KeepC d0 bb B C) : KeepC d0 bb A C := ⟨fun i hi => (k.1 i hi).trans (h.1 i hi), k.2.1.trans h.2.1, k.2.2.trans h.2.2⟩
theorem KeepC.below {d0 bb B : Nat} {W W' : World} (h : Below B W W') (hd : d0 ≤ B) (hb : bb + 1 < B) : KeepC d0 bb W W' := ⟨fun k hk => h.block k (by omega), h.block _ (by omega), h.block _ hb⟩
theorem CpR.keepC {w w' : World} {d0 bb : Nat} {v : Value} {l : List Cp} (h : CpR w d0 v l) (hk : KeepC d0 bb w w') : CpR w' d0 v l := h.keep (Nat.le_refl _) (fun p hp => World.cell?_of_block (hk.1 _ hp))
theorem grown_of_below {w w' : World} (hb : Below w.heap.size w w') : w.grownBy w' none := ⟨hb.os, hb.tape, hb.output, hb.size, fun k hk _ => hb.block k hk⟩
set_option maxRecDepth 100000 in
set_option maxHeartbeats 3200000 in
theorem both_stops (n bb d0 : Nat) (a b : List Cp) (va vb : Value) (w : World) (hb0 : Blk w bb 66 #[va]) (hb1 : Blk w (bb + 1) 66 #[vb]) (ha : CpR w d0 va a) (hb : CpR w d0 vb b) (hla : a.length ≤ 1000) (hlb : b.length ≤ 1000) (hd0 : d0 ≤ bb) :
    SeqStopsK Fence.wide n Tryd.prog 157 #[.pointer (some ⟨bb, 0, none⟩), .pointer (some ⟨bb + 1, 0, none⟩)] encC (KeepC d0 bb) (fun xs => xs = bothL a b) (fun _ => True) 1001 w := by
  intro l J Jx W hW hJ hJx hY h0
  have HJ := Lib.hid hJ
  have HY := Lib.hid hY
  clear hJ hY hJx
  have hB0 := hb0.keep hW hb0.lt
  have hB1 := hb1.keep hW hb1.lt
  have hA0 := ha.below (hW.mono (by have := hb0.lt; omega))
  have hA1 := hb.below (hW.mono (by have := hb0.lt; omega))
  obtain ⟨A, la, ca, rfl, hna, hca, hcma⟩ := ha.form'
  obtain ⟨A', lb, cb', rfl, hnb, hcb, hcmb⟩ := hb.form'
  have hla' : la ≤ 1000 := by rw [hna.out]; exact hla
  have hlb' : lb ≤ 1000 := by rw [hnb.out]; exact hlb
  refine callsIn_of_wp Tryd.func157 rfl trivial ?_ rfl
  simp only [Tryd.ntmps157, List.size_toArray, List.length_cons, List.length_nil, Nat.reduceAdd, Nat.reduceSub, Array.replicate_succ, Array.replicate_zero, List.push_toArray, List.append_toArray, List.nil_append, List.cons_append]
  gi_wp2
  gi_loopw [4, 5] (fun i j wr => ∃ p q : Nat, p ≤ la ∧ q ≤ lb ∧ i = .int .i64 p ∧ j = .int .i64 q ∧ ∃ pre, Hid (bothL a b = pre ++ bothL (a.drop p) (b.drop q)) ∧ Hid (pre.length ≤ p) ∧ Hid (J pre wr) ∧ Blk wr bb 66 #[.slice A la ca] ∧ Blk wr (bb + 1) 66 #[.slice A' lb cb'] ∧ Hid (CpR wr d0 (.slice A la ca) a ∧ CpR wr d0 (.slice A' lb cb') b)) (fun i j _ => la + lb - (intOf i).toNat - (intOf j).toNat)
  case atStart => exact ⟨0, 0, by omega, by omega, rfl, rfl, [], Lib.hid (by simp), Lib.hid (by simp), Lib.hid h0, hB0, hB1, Lib.hid ⟨hA0, hA1⟩⟩
  case round =>
    obtain ⟨p, q, hp, hq, rfl, rfl, pre, Hpre, Hpl, HJk, hblk0, hblk1, HC⟩ := hrel
    have c0 : wr.cell? ⟨bb, 0, none⟩ = some (.slice A la ca) := hblk0.cell 0
    have c1 : wr.cell? ⟨bb + 1, 0, none⟩ = some (.slice A' lb cb') := hblk1.cell 0
    have hbw := hblk1.lt
    have HBL := Lib.hid (And.intro hblk0 hblk1)
    clear hblk0 hblk1 hB0 hB1 hb0 hb1 hA0 hA1 ha hb
    by_cases hpa : p < la
    · by_cases hqb : q < lb
      · have hpl : p < a.length := by rw [← hna.out]; exact hpa
        have hql : q < b.length := by rw [← hnb.out]; exact hqb
        obtain ⟨g, o, rfl, hg, e0, e1⟩ := HC.out.1.at_ hpl
        obtain ⟨g', o', rfl, hg', e2, e3⟩ := HC.out.2.at_ hql
        have HDA : Hid (a.drop p = a[p] :: a.drop (p + 1)) := Lib.hid (List.drop_eq_getElem_cons hpl)
        have HDB : Hid (b.drop q = b[q] :: b.drop (q + 1)) := Lib.hid (List.drop_eq_getElem_cons hql)
        obtain ⟨x, hx⟩ : ∃ x, a[p] = x := ⟨_, rfl⟩
        obtain ⟨y, hy⟩ : ∃ y, b[q] = y := ⟨_, rfl⟩
        rw [hx] at e0 e1 HDA
        rw [hy] at e2 e3 HDB
        have HXL : Hid (bothL a b = pre ++ (if x = y then x :: bothL (a.drop (p + 1)) (b.drop (q + 1)) else if cpLt x y = true then bothL (a.drop (p + 1)) (b.drop q) else bothL (a.drop p) (b.drop (q + 1)))) := Lib.hid (by
          rw [Hpre.out, HDA.out, HDB.out, bothL_cons])
        clear hx hy HDA HDB Hpre
        obtain ⟨x1, x2⟩ := x
        obtain ⟨y1, y2⟩ := y
        simp only at e0 e1 e2 e3
        have hEG := eqg_cap
        by_cases hxy : (x1, x2) = (y1, y2)
        · have hEQ : ∀ w : World, (Op.equalIn 10000 104 (.agg #[.string x1, .int .i64 x2]) (.agg #[.string y1, .int .i64 y2])).run Tryd.prog w = .ok true w := fun w => by rw [eqCap_run, decide_eq_true hxy]
          have HXE : Hid (bothL a b = (pre ++ [(x1, x2)]) ++ bothL (a.drop (p + 1)) (b.drop (q + 1))) := Lib.hid (by rw [HXL.out, if_pos hxy]; simp)
          clear hxy
          gi_wp2
          gi_quiet (fail)
          obtain ⟨wq, hwq⟩ : ∃ wq, wr.drewN nq = wq := ⟨_, rfl⟩
          have c0 : wq.cell? ⟨bb, 0, none⟩ = some (.slice (some ⟨g, o, none⟩) la ca) := by rw [← hwq]; exact c0
          have c1 : wq.cell? ⟨bb + 1, 0, none⟩ = some (.slice (some ⟨g', o', none⟩) lb cb') := by rw [← hwq]; exact c1
          have e0 : wq.cell? ⟨g, o + p * 2, none⟩ = some (.string x1) := by rw [← hwq]; exact e0
          have e1 : wq.cell? ⟨g, o + p * 2 + 1, none⟩ = some (.int .i64 x2) := by rw [← hwq]; exact e1
          have e2 : wq.cell? ⟨g', o' + q * 2, none⟩ = some (.string y1) := by rw [← hwq]; exact e2
          have e3 : wq.cell? ⟨g', o' + q * 2 + 1, none⟩ = some (.int .i64 y2) := by rw [← hwq]; exact e3
          have HBQ : Hid (Blk wq bb 66 #[.slice (some ⟨g, o, none⟩) la ca] ∧ Blk wq (bb + 1) 66 #[.slice (some ⟨g', o', none⟩) lb cb']) := by rw [← hwq]; exact HBL
          have HCQ : Hid (CpR wq d0 (.slice (some ⟨g, o, none⟩) la ca) a ∧ CpR wq d0 (.slice (some ⟨g', o', none⟩) lb cb') b) := by rw [← hwq]; exact HC
          have HJQ : Hid (J pre wq) := Lib.hid (by rw [← hwq]; exact HJ.out _ _ _ none HJk.out ⟨rfl, rfl, rfl, Nat.le_refl _, fun _ _ _ => rfl⟩ (fun r e => by cases e))
          rw [hwq]
          clear hwq HBL HJk HC
          have HYQ := Lib.hid (HY.out pre (x1, x2) wq HJQ.out (by have := Hpl.out; omega))
          clear HY HJQ
          obtain ⟨fn, tmps, assign, body, hy, hR⟩ := HYQ.out
          simp only [encC] at hy
          have HRR := Lib.hid hR
          clear hR HYQ
          gi_wp2
          refine ⟨(fun h => by cases h), HRR.out.mono ?_⟩
          rintro e W3 (⟨rfl, hJ3, hk3⟩ | ⟨rfl, hJx3⟩)
          · have HB3 : Hid (Blk W3 bb 66 #[.slice (some ⟨g, o, none⟩) la ca] ∧ Blk W3 (bb + 1) 66 #[.slice (some ⟨g', o', none⟩) lb cb']) := Lib.hid ⟨hk3.2.1.trans HBQ.out.1, hk3.2.2.trans HBQ.out.2⟩
            have HC3 := Lib.hid (And.intro (HCQ.out.1.keepC hk3) (HCQ.out.2.keepC hk3))
            have HJ3 := Lib.hid hJ3
            clear hk3 hJ3
            gi_wp2
            go_roundw
            case rel => exact ⟨p + 1, q + 1, by omega, by omega, by go_num, by go_num, _, HXE, Lib.hid (by have := Hpl.out; simp; omega), HJ3, HB3.out.1, HB3.out.2, HC3⟩
            case measure => simp [intOf]; omega
          · gi_wp2
            (try simp only [Exit.inBlock, Exit.then])
            refine bodyPost_ret (results_none rfl _ _ _) rfl ?_
            exact ⟨⟨_, rfl⟩, .inr ⟨_, trivial, hJx3⟩⟩
        · have hEQ : ∀ w : World, (Op.equalIn 10000 104 (.agg #[.string x1, .int .i64 x2]) (.agg #[.string y1, .int .i64 y2])).run Tryd.prog w = .ok false w := fun w => by rw [eqCap_run, decide_eq_false hxy]
          have HXE : Hid (bothL a b = pre ++ (if cpLt (x1, x2) (y1, y2) = true then bothL (a.drop (p + 1)) (b.drop q) else bothL (a.drop p) (b.drop (q + 1)))) := Lib.hid (by rw [HXL.out, if_neg hxy])
          clear hxy
          gi_wp2
          gi_quiet (fail)
          obtain ⟨wq, hwq⟩ : ∃ wq, wr.drewN nq = wq := ⟨_, rfl⟩
          have c0 : wq.cell? ⟨bb, 0, none⟩ = some (.slice (some ⟨g, o, none⟩) la ca) := by rw [← hwq]; exact c0
          have c1 : wq.cell? ⟨bb + 1, 0, none⟩ = some (.slice (some ⟨g', o', none⟩) lb cb') := by rw [← hwq]; exact c1
          have e0 : wq.cell? ⟨g, o + p * 2, none⟩ = some (.string x1) := by rw [← hwq]; exact e0
          have e1 : wq.cell? ⟨g, o + p * 2 + 1, none⟩ = some (.int .i64 x2) := by rw [← hwq]; exact e1
          have e2 : wq.cell? ⟨g', o' + q * 2, none⟩ = some (.string y1) := by rw [← hwq]; exact e2
          have e3 : wq.cell? ⟨g', o' + q * 2 + 1, none⟩ = some (.int .i64 y2) := by rw [← hwq]; exact e3
          have HBQ : Hid (Blk wq bb 66 #[.slice (some ⟨g, o, none⟩) la ca] ∧ Blk wq (bb + 1) 66 #[.slice (some ⟨g', o', none⟩) lb cb']) := by rw [← hwq]; exact HBL
          have HCQ : Hid (CpR wq d0 (.slice (some ⟨g, o, none⟩) la ca) a ∧ CpR wq d0 (.slice (some ⟨g', o', none⟩) lb cb') b) := by rw [← hwq]; exact HC
          have HJQ : Hid (J pre wq) := Lib.hid (by rw [← hwq]; exact HJ.out _ _ _ none HJk.out ⟨rfl, rfl, rfl, Nat.le_refl _, fun _ _ _ => rfl⟩ (fun r e => by cases e))
          rw [hwq]
          clear hwq HBL HJk HC
          clear HY
          have hwq : bb + 1 < wq.heap.size := HBQ.out.2.lt
          have HKP : Hid (∀ V, Below wq.heap.size wq V → V.cell? ⟨bb, 0, none⟩ = some (.slice (some ⟨g, o, none⟩) la ca) ∧ V.cell? ⟨bb + 1, 0, none⟩ = some (.slice (some ⟨g', o', none⟩) lb cb') ∧ V.cell? ⟨g, o + p * 2, none⟩ = some (.string x1) ∧ V.cell? ⟨g, o + p * 2 + 1, none⟩ = some (.int .i64 x2) ∧ V.cell? ⟨g', o' + q * 2, none⟩ = some (.string y1) ∧ V.cell? ⟨g', o' + q * 2 + 1, none⟩ = some (.int .i64 y2) ∧ Below wq.heap.size wq V) := Lib.hid (fun V hV =>
            ⟨(hV.cell (p := ⟨bb, 0, none⟩) (by simp; omega)).trans c0, (hV.cell (p := ⟨bb + 1, 0, none⟩) (by simp; omega)).trans c1, (hV.cell (p := ⟨g, o + p * 2, none⟩) (by simp; omega)).trans e0, (hV.cell (p := ⟨g, o + p * 2 + 1, none⟩) (by simp; omega)).trans e1, (hV.cell (p := ⟨g', o' + q * 2, none⟩) (by simp; omega)).trans e2, (hV.cell (p := ⟨g', o' + q * 2 + 1, none⟩) (by simp; omega)).trans e3, hV⟩)
          have HCM : Hid (∀ V, Below wq.heap.size wq V → Calls Tryd.prog 88 #[.agg #[.string x1, .int .i64 x2], .agg #[.string y1, .int .i64 y2]] V fun e w' => e = .returned (.int .i64 (cpCmp (x1, x2) (y1, y2))) ∧ Below wq.heap.size wq w') := Lib.hid (fun V hV => (compare_c (x1, x2) (y1, y2) V).mono fun e w' ⟨he, hb⟩ => ⟨he, hV.trans (hb.mono hV.size)⟩)
          have HLT := Lib.hid (cpCmp_lt (x1, x2) (y1, y2))
          generalize cpCmp (x1, x2) (y1, y2) = Z at *
          have hV5 : Below wq.heap.size wq wq := Below.refl _ _
          clear hEQ hEG
          gi_upto_region 7 with (fail)
          refine wpIn_wide.2 ?_
          go_region_held3 (fun V => V.cell? ⟨bb, 0, none⟩ = some (.slice (some ⟨g, o, none⟩) la ca) ∧ V.cell? ⟨bb + 1, 0, none⟩ = some (.slice (some ⟨g', o', none⟩) lb cb') ∧ V.cell? ⟨g, o + p * 2, none⟩ = some (.string x1) ∧ V.cell? ⟨g, o + p * 2 + 1, none⟩ = some (.int .i64 x2) ∧ V.cell? ⟨g', o' + q * 2, none⟩ = some (.string y1) ∧ V.cell? ⟨g', o' + q * 2 + 1, none⟩ = some (.int .i64 y2) ∧ Below wq.heap.size wq V)
            (first | exact HKP.out _ hV5 | exact HKP.out _ hv | exact HKP.out _ hv.drew | exact HKP.out _ hV5.drew | exact HKP.out _ (by assumption) | exact HKP.out _ (Below.drew (by assumption)))
            (first | (go_at_call 88; ((with_reducible refine (HCM.out _ (by first | assumption | exact Below.drew (by assumption) | exact Below.drewN' (by assumption) _)).mono ?_); rintro e w' ⟨rfl, hv⟩)))
          all_goals
            have HJW : Hid (J pre w') := Lib.hid (HJ.out _ _ _ none HJQ.out (grown_of_below hv) (fun r e => by cases e))
            have HBW : Hid (Blk w' bb 66 #[.slice (some ⟨g, o, none⟩) la ca] ∧ Blk w' (bb + 1) 66 #[.slice (some ⟨g', o', none⟩) lb cb']) := Lib.hid ⟨HBQ.out.1.keep hv HBQ.out.1.lt, HBQ.out.2.keep hv HBQ.out.2.lt⟩
            have HCW : Hid (CpR w' d0 (.slice (some ⟨g, o, none⟩) la ca) a ∧ CpR w' d0 (.slice (some ⟨g', o', none⟩) lb cb') b) := Lib.hid ⟨HCQ.out.1.below (hv.mono (by omega)), HCQ.out.2.below (hv.mono (by omega))⟩
            cases hz : cpLt (x1, x2) (y1, y2) with
            | true =>
              have hZ : decide (Z < 0) = true := by rw [HLT.out, hz]
              have hZ2 : Z < 0 := of_decide_eq_true hZ
              have HXF : Hid (bothL a b = pre ++ bothL (a.drop (p + 1)) (b.drop q)) := Lib.hid (by rw [HXE.out, hz, if_pos rfl])
              clear hz
              gi_wp2
              go_roundw
              case rel => exact ⟨p + 1, q, by omega, by omega, by go_num, rfl, pre, HXF, Lib.hid (by have := Hpl.out; omega), HJW, HBW.out.1, HBW.out.2, HCW⟩
              case measure => simp [intOf]; omega
            | false =>
              have hZ : decide (Z < 0) = false := by rw [HLT.out, hz]
              have hZ2 : ¬ Z < 0 := of_decide_eq_false hZ
              have HXF : Hid (bothL a b = pre ++ bothL (a.drop p) (b.drop (q + 1))) := Lib.hid (by rw [HXE.out, hz, if_neg (by simp)])
              clear hz
              gi_wp2
              go_roundw
              case rel => exact ⟨p, q + 1, by omega, by omega, rfl, by go_num, pre, HXF, Hpl, HJW, HBW.out.1, HBW.out.2, HCW⟩
              case measure => simp [intOf]; omega
      · have HE : Hid (pre = bothL a b) := Lib.hid (by
        have hz : b.drop q = [] := List.drop_eq_nil_of_le (by rw [← hnb.out]; omega)
        rw [Hpre.out, hz, bothL_nil, List.append_nil])
        gi_wp2
        go_end0
        exact ⟨⟨_, rfl⟩, .inl ⟨_, HE.out, HJk.out⟩⟩
    · have HE : Hid (pre = bothL a b) := Lib.hid (by
        have : bothL [] (b.drop q) = [] := by rw [bothL]
        have hz : a.drop p = [] := List.drop_eq_nil_of_le (by rw [← hna.out]; omega)
        rw [Hpre.out, hz, this, List.append_nil])
      gi_wp2
      go_end0
      exact ⟨⟨_, rfl⟩, .inl ⟨_, HE.out, HJk.out⟩⟩
end Go.Proofs.YtacikiambpfipaaDoor
