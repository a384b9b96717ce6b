/- hatchwayref32.Agree. -/
import Derived.Test.YtcidcjghglgkhaaCapOwn
import Derived.Test.YtcidcjghglgkhaaCapEq
import Derived.Test.YtcidcjghglgkhaaCapMay
import Derived.Deep.AppendLies
namespace Go.Proofs.Ytcidcjghglgkhaa
set_option linter.unusedVariables false
set_option linter.unusedSimpArgs false
open Go.RowKit

theorem memB_take {b : List Cp} {j : Nat} (hj : j < b.length) (c : Cp) : memB (b.take (j + 1)) c = (memB (b.take j) c || decide (b[j] = c)) := by
  unfold memB; rw [List.take_succ_eq_append_getElem hj, List.any_append]; simp
theorem later_take {r : List Cp} (b : List Cp) {t : Nat} (ht : t < r.length) (c : Cp) : laterB ((r.take (t + 1)).filter (memB b)) c = (laterB ((r.take t).filter (memB b)) c || (decide (r[t].1 = c.1) && memB b r[t])) := by
  unfold laterB
  rw [List.take_succ_eq_append_getElem ht, List.filter_append, List.any_append]
  congr 1
  cases h : memB b r[t] with
  | true => simp [List.filter_cons, h]
  | false => simp [List.filter_cons, h]
/-- The best version so far, all below x looked at. -/
def bestV (la lb mb x : Int) : Int := if max la lb ≤ min (x - 1) mb then min (x - 1) mb else 0
theorem bestV_in {la lb mb x : Int} (h1 : la ≤ x) (h2 : lb ≤ x) (h3 : x ≤ mb) : bestV la lb mb (x + 1) = x := by unfold bestV; rw [if_pos (by omega)]; omega
theorem bestV_out {la lb mb x : Int} (h1 : la ≤ x) (h : ¬ (lb ≤ x ∧ x ≤ mb)) : bestV la lb mb (x + 1) = bestV la lb mb x := by
  unfold bestV
  by_cases h2 : lb ≤ x
  · have h3 : mb < x := by omega
    rw [show min (x + 1 - 1) mb = min (x - 1) mb by omega]
  · rw [if_neg (by omega), if_neg (by omega)]
/-- How the document's Agree ends. -/
def RaEnd (la ma : Int) (a : List Cp) (lb mb : Int) (b : List Cp) (w : World) (e : Ending) (w' : World) : Prop :=
  Below w.heap.size w w' ∧
    if min ma mb < max la lb then e = .returned (.tuple #[.agg #[.int .i64 0, .slice none 0 0], .bool false])
    else ∃ v, e = .returned (.tuple #[.agg #[.int .i64 (min ma mb), v], .bool true]) ∧ CpR w' w'.heap.size v (refL b a)
theorem dealRetR {R : Ending → World → Prop} {tmps : Array Value} {V : World} {g : Nat} (a b : Value) (e : Bool) (hp : tmps.getD 4 undef = .pointer (some ⟨g, 0, none⟩)) (he : tmps.getD 5 undef = .bool e) (hB : Blk V g 48 #[a, b])
    (hR : R (.returned (.tuple #[.agg #[a, b], .bool e])) V) : bodyPost Try.prog Try.f28 R .ret { tmps := tmps, defers := [] } V := by
  have r0 : V.cell? ⟨g, 0, none⟩ = some a := hB.cell 0
  have r1 : V.cell? ⟨g, 1, none⟩ = some b := hB.cell 1
  simp only [Array.getD_eq_getD_getElem?] at hp he
  exact bodyPost_ret (v := .tuple #[.agg #[a, b], .bool e]) (by simp [results, Try.results28, go_sem, hp, he, r0, r1]) rfl hR
set_option maxRecDepth 100000 in
set_option maxHeartbeats 6400000 in
theorem refAgree_c (la ma : Int) (a : List Cp) (va : Value) (lb mb : Int) (b : List Cp) (vb : Value) (B : Nat) (w : World) (ha : CpR w B va a) (hb : CpR w B vb b) (hB : B ≤ w.heap.size) (ala : a.length ≤ 1000) (alb : b.length ≤ 1000)
    (h1 : 1 ≤ la) (h2 : la ≤ ma) (h3 : ma ≤ 65535) (h4 : 1 ≤ lb) (h5 : lb ≤ mb) (h6 : mb ≤ 65535) :
    Calls Try.prog 28 #[.agg #[.int .i64 la, .int .i64 ma, va], .agg #[.int .i64 lb, .int .i64 mb, vb]] w (RaEnd la ma a lb mb b w) := by
  obtain ⟨i0, hi, hz0, hz1, hz2⟩ := info_parts info_rcap
  obtain ⟨A, n, cap, rfl, hn, hnc, hcm⟩ := ha.form'
  obtain ⟨A', n', cap', rfl, hn', hnc', hcm'⟩ := hb.form'
  have hn1 : n ≤ 1000 := by rw [hn.out]; exact ala
  have hn2 : n' ≤ 1000 := by rw [hn'.out]; exact alb
  have HA := Lib.hid ha
  have HB := Lib.hid hb
  obtain ⟨W3, hW3⟩ : ∃ W3, ((w.alloc (.cells #[.int .i64 la, .int .i64 ma, .slice A n cap] 34)).alloc (.cells #[.int .i64 lb, .int .i64 mb, .slice A' n' cap'] 34)).alloc (.cells #[.int .i64 0, .slice none 0 0] 48) = W3 := ⟨_, rfl⟩
  have HZ3 : Hid (W3.heap.size = w.heap.size + 3) := Lib.hid (by rw [← hW3]; simp)
  have HB3 : Hid (Below w.heap.size w W3) := Lib.hid (by rw [← hW3]; exact (((Below.refl _ w).alloc (Nat.le_refl _) _).alloc (by simp) _).alloc (by simp; omega) _)
  have HK0 : Hid (Blk W3 w.heap.size 34 #[.int .i64 la, .int .i64 ma, .slice A n cap]) := Lib.hid (by rw [← hW3]; exact ((Blk.new w _ _).alloc _).alloc _)
  have HK1 : Hid (Blk W3 (w.heap.size + 1) 34 #[.int .i64 lb, .int .i64 mb, .slice A' n' cap']) := Lib.hid (by
    rw [← hW3]
    have := Blk.new (w.alloc (.cells #[.int .i64 la, .int .i64 ma, .slice A n cap] 34)) 34 #[.int .i64 lb, .int .i64 mb, .slice A' n' cap']
    rw [World.size_alloc] at this
    exact this.alloc _)
  have HK2 : Hid (Blk W3 (w.heap.size + 2) 48 #[.int .i64 0, .slice none 0 0]) := Lib.hid (by
    rw [← hW3]
    have := Blk.new ((w.alloc (.cells #[.int .i64 la, .int .i64 ma, .slice A n cap] 34)).alloc (.cells #[.int .i64 lb, .int .i64 mb, .slice A' n' cap'] 34)) 48 #[.int .i64 0, .slice none 0 0]
    rw [World.size_alloc, World.size_alloc] at this
    exact this)
  have HWW := Lib.hid hW3
  obtain ⟨a0, a1, a2, _⟩ := blk3 HK0.out
  obtain ⟨p0, p1, p2, _⟩ := blk3 HK1.out
  clear hW3 ha hb
  go_enter Try.func28, Try.ntmps28
  go_wp2_with fail
  rw [HWW.out]
  go_wp2_with fail
  go_loop [6, 7] (fun y x => ∃ X Y : Int, la ≤ X ∧ X ≤ ma + 1 ∧ x = .int .i64 X ∧ y = .int .i64 Y ∧ 0 ≤ Y ∧ Y ≤ 65535 ∧ Hid (Y = bestV la lb mb X)) (fun _ x => (ma + 1 - intOf x).toNat)
  case atStart => exact ⟨la, 0, by omega, by omega, rfl, rfl, by omega, by omega, Lib.hid (by unfold bestV; rw [if_neg (by omega)])⟩
  case round =>
    obtain ⟨X, Y, hX1, hX2, rfl, rfl, hY1, hY2, HY⟩ := hrel
    by_cases hXm : X ≤ ma
    · by_cases hin : lb ≤ X ∧ X ≤ mb
      · obtain ⟨hi1, hi2⟩ := hin
        go_wp2
        go_round
        case rel => exact ⟨X + 1, X, by omega, by omega, by go_num, rfl, by omega, by omega, Lib.hid (bestV_in hX1 hi1 hi2).symm⟩
        case measure => simp [intOf]; omega
      · have HO := Lib.hid (bestV_out (mb := mb) hX1 hin)
        by_cases hi1 : lb ≤ X
        all_goals
          go_wp2
          go_round
          case rel => exact ⟨X + 1, Y, by omega, by omega, by go_num, rfl, hY1, hY2, Lib.hid (by rw [HO.out]; exact HY.out)⟩
          case measure => simp [intOf]; omega
    · obtain rfl : X = ma + 1 := by omega
      by_cases hmin : min ma mb < max la lb
      · have hY0 : Y = 0 := by rw [HY.out]; unfold bestV; rw [if_neg (by omega)]
        subst hY0
        obtain ⟨g0, g1⟩ : W3.cell? ⟨w.heap.size + 2, 0, none⟩ = some (.int .i64 0) ∧ W3.cell? ⟨w.heap.size + 2, 1, none⟩ = some (.slice none 0 0) := ⟨HK2.out.cell 0, HK2.out.cell 1⟩
        have f0 := HK2.out.frozen 0
        have f1 := HK2.out.frozen 1
        go_wp2
        refine dealRetR _ _ _ (g := w.heap.size + 2) rfl rfl ((HK2.out.set 0 (.int .i64 0)).set 1 (.slice none 0 0)) ⟨(HB3.out.setCell (p := ⟨w.heap.size + 2, 0, none⟩) (by simp) _).setCell (p := ⟨w.heap.size + 2, 1, none⟩) (by simp) _, ?_⟩
        rw [if_pos hmin]
      · have HYE : Hid (Y = min ma mb) := Lib.hid (by rw [HY.out]; unfold bestV; rw [if_pos (by omega)]; omega)
        have hYp : 1 ≤ Y := by rw [HYE.out]; omega
        have qy : (Y == 0) = false := beq_eq_false_iff_ne.2 (by omega)
        have HRE : Hid (∀ (W : World) (e : Ending), RaEnd la ma a lb mb b w e W ↔ (Below w.heap.size w W ∧ ∃ v, e = .returned (.tuple #[.agg #[.int .i64 Y, v], .bool true]) ∧ CpR W W.heap.size v (refL b a))) := Lib.hid (by
          intro W e
          unfold RaEnd
          rw [if_neg hmin, HYE.out])
        clear HY hmin
        go_wp2_with fail
        obtain ⟨s0, hs0⟩ : ∃ s0, W3.heap.size = s0 := ⟨_, rfl⟩
        obtain ⟨W4, hW4⟩ : ∃ W4, W3.alloc (.cells #[.int .i64 Y, .slice none 0 0] 48) = W4 := ⟨_, rfl⟩
        have HD4 : Hid (Blk W4 s0 48 #[.int .i64 Y, .slice none 0 0]) := Lib.hid (by rw [← hW4, ← hs0]; exact Blk.new W3 _ _)
        have HB4 : Hid (Below s0 W3 W4) := Lib.hid (by rw [← hW4, ← hs0]; exact (Below.refl _ W3).alloc (Nat.le_refl _) _)
        have HZ4 : Hid (W4.heap.size = s0 + 1) := Lib.hid (by rw [← hW4, World.size_alloc, hs0])
        have hsw : w.heap.size + 3 = s0 := by rw [← HZ3.out, hs0]
        have hsw1 : w.heap.size + 3 ≤ s0 := by omega
        rw [hW4, hs0]
        have HSW := Lib.hid hsw
        clear hs0 hW4 hsw
        go_loopw [9] (fun i wr => ∃ k : Nat, k ≤ n ∧ i = .int .i64 k ∧ ∃ acc v, Hid (refL b a = acc ++ refL b (a.drop k)) ∧ Hid (acc.length ≤ k) ∧ Blk wr s0 48 #[.int .i64 Y, v] ∧ wr.ownsRow (s0 + 1) 54 2 v acc.length (cc acc) ∧ Below s0 W3 wr) (fun i _ => n - (intOf i).toNat)
        case atStart => exact ⟨0, by omega, rfl, [], .slice none 0 0, Lib.hid (by simp), Lib.hid (by simp), HD4.out, World.ownsRow_nil _ _ _ _, HB4.out⟩
        case round =>
          obtain ⟨k, hk, rfl, acc, v, Hacc, Hal, hd, hown, hbw⟩ := hrel
          generalize wr = we at *
          have hz := hbw.size
          have hdl := hd.lt
          obtain ⟨AD, capD, rfl, hkc, hcD, _⟩ := own_form' hown
          have c0 := (hbw.cell (p := ⟨w.heap.size, 2, none⟩) (by simp; omega)).trans a2
          by_cases hlt : k < n
          · have hkl : k < a.length := by rw [← hn.out]; exact hlt
            have HAw : Hid (CpR we B (.slice A n cap) a) := Lib.hid ((HA.out.below (HB3.out.mono hB)).below (hbw.mono (by omega)))
            have HBw : Hid (CpR we B (.slice A' n' cap') b) := Lib.hid ((HB.out.below (HB3.out.mono hB)).below (hbw.mono (by omega)))
            obtain ⟨g, o, rfl, hg, e0, e1⟩ := HAw.out.at_ hkl
            have HDR : Hid (a.drop k = a[k] :: a.drop (k + 1)) := Lib.hid (List.drop_eq_getElem_cons hkl)
            obtain ⟨c, hc⟩ : ∃ c, a[k] = c := ⟨_, rfl⟩
            rw [hc] at e0 e1 HDR
            obtain ⟨x1, x2⟩ := c
            simp only at e0 e1
            have hgw : g < we.heap.size := by omega
            have HOW := Lib.hid hown
            have HDD := Lib.hid hd
            have HBW := Lib.hid hbw
            clear hc hown hd
            obtain ⟨hc0, HHC⟩ : ∃ hc0, Hid (we.heap.size = hc0) := ⟨_, Lib.hid rfl⟩
            obtain ⟨Wc, hWc⟩ : ∃ Wc, we.alloc (.cells #[.string x1, .int .i64 x2] 54) = Wc := ⟨_, rfl⟩
            have HCB : Hid (Blk Wc we.heap.size 54 #[.string x1, .int .i64 x2]) := Lib.hid (by rw [← hWc]; exact Blk.new we _ _)
            have HBC : Hid (Below we.heap.size we Wc) := Lib.hid (by rw [← hWc]; exact (Below.refl _ we).alloc (Nat.le_refl _) _)
            have HZC : Hid (Wc.heap.size = we.heap.size + 1) := Lib.hid (by rw [← hWc]; simp)
            have HWC := Lib.hid hWc
            have p2w := (hbw.cell (p := ⟨w.heap.size + 1, 2, none⟩) (by simp; omega)).trans p2
            have FX : Hid (∀ V, Below Wc.heap.size Wc V → V.cell? ⟨w.heap.size, 2, none⟩ = some (.slice (some ⟨g, o, none⟩) n cap) ∧ V.cell? ⟨w.heap.size + 1, 2, none⟩ = some (.slice A' n' cap') ∧ V.cell? ⟨we.heap.size, 0, none⟩ = some (.string x1) ∧ V.cell? ⟨we.heap.size, 1, none⟩ = some (.int .i64 x2) ∧ Hid (CpR V B (.slice (some ⟨g, o, none⟩) n cap) a ∧ CpR V B (.slice A' n' cap') b)) := Lib.hid (fun V hV => by
              have hZC := HZC.out
              have hwV : Below we.heap.size we V := HBC.out.trans (hV.mono (by omega))
              have hcb := HCB.out.keep hV (by omega)
              exact ⟨(hwV.cell (p := ⟨w.heap.size, 2, none⟩) (by simp; omega)).trans c0, (hwV.cell (p := ⟨w.heap.size + 1, 2, none⟩) (by simp; omega)).trans p2w, hcb.cell 0, hcb.cell 1, Lib.hid ⟨HAw.out.below (hwV.mono (by omega)), HBw.out.below (hwV.mono (by omega))⟩⟩)
            clear hWc
            go_wp2_with fail
            rw [HWC.out]
            have hEG := eqg_rcap
            clear c0 p2w hbw
            go_loopw [11, 13] (fun sh i V => ∃ j : Nat, j ≤ n' ∧ i = .int .i64 j ∧ sh = .bool (memB (b.take j) (x1, x2)) ∧ Below Wc.heap.size Wc V) (fun _ i _ => n' - (intOf i).toNat)
            case atStart => exact ⟨0, by omega, rfl, by simp [memB], Below.refl _ _⟩
            case round =>
              obtain ⟨j, hj, rfl, rfl, hV⟩ := hrel
              obtain ⟨f0, f1, f2, f3, HFC⟩ := FX.out wr hV
              by_cases hjn : j < n'
              · have hjb : j < b.length := by rw [← hn'.out]; exact hjn
                have HMT := Lib.hid (memB_take hjb (x1, x2))
                obtain ⟨g', o', rfl, hg', e2, e3⟩ := HFC.out.2.at_ hjb
                have j0 : (j : Int) < (n' : Int) := by omega
                generalize hS : memB (b.take j) (x1, x2) = S0 at *
                cases S0 with
                | true =>
                  have HN : Hid (memB (b.take (j + 1)) (x1, x2) = true) := Lib.hid (by rw [HMT.out]; rfl)
                  clear hS e2 e3
                  go_wp2_with fail
                  go_quiet (fail)
                  go_wp2
                  go_roundw
                  case rel => exact ⟨j + 1, by omega, by go_num, by rw [HN.out], hV.drewN' _⟩
                  case measure => simp [intOf]; omega
                | false =>
                  have HN : Hid (memB (b.take (j + 1)) (x1, x2) = decide (b[j] = (x1, x2))) := Lib.hid (by rw [HMT.out]; rfl)
                  obtain ⟨y, hy⟩ : ∃ y, b[j] = y := ⟨_, rfl⟩
                  rw [hy] at e2 e3 HN
                  obtain ⟨y1, y2⟩ := y
                  simp only at e2 e3
                  obtain ⟨E, hE⟩ : ∃ E, decide ((y1, y2) = (x1, x2)) = E := ⟨_, rfl⟩
                  rw [hE] at HN
                  have hEQ : ∀ w : World, (Op.equalIn 10000 54 (.agg #[.string y1, .int .i64 y2]) (.agg #[.string x1, .int .i64 x2])).run Try.prog w = .ok E w := fun w => by rw [eqRCap_run, hE]
                  clear hS hjb hy hE HMT
                  go_wp2_with fail
                  go_quiet (fail)
                  go_wp2
                  go_roundw
                  case rel => exact ⟨j + 1, by omega, by go_num, by rw [HN.out], hV.drewN' _⟩
                  case measure => simp [intOf]; omega
              · have hSA : memB (b.take j) (x1, x2) = memB b (x1, x2) := by rw [List.take_of_length_le (by rw [← hn'.out]; omega)]
                rw [hSA]
                obtain ⟨SH, HSH⟩ : ∃ SH, Hid (memB b (x1, x2) = SH) := ⟨_, Lib.hid rfl⟩
                rw [HSH.out]
                clear hSA
                generalize wr = w3 at *
                go_wp2_with fail
                clear f0 f1 f2 f3 HFC
                go_loopw [12, 14] (fun gr i V => ∃ t : Nat, k + 1 + t ≤ n ∧ i = .int .i64 ((k + 1 + t : Nat) : Int) ∧ gr = .bool (laterB (((a.drop (k + 1)).take t).filter (memB b)) (x1, x2)) ∧ Below Wc.heap.size Wc V) (fun _ i _ => n - (intOf i).toNat)
                case atStart => exact ⟨0, by omega, by go_num, by simp [laterB], hV⟩
                case round =>
                  obtain ⟨t, ht, rfl, rfl, hV⟩ := hrel
                  obtain ⟨f0, f1, f2, f3, HFC⟩ := FX.out wr hV
                  generalize wr = w4 at *
                  by_cases htn : k + 1 + t < n
                  · have hta : k + 1 + t < a.length := by rw [← hn.out]; exact htn
                    have htd : t < (a.drop (k + 1)).length := by rw [List.length_drop]; omega
                    have HLT := Lib.hid (later_take b htd (x1, x2))
                    obtain ⟨g1, o1, hgo, _, r0, r1⟩ := HFC.out.1.at_ hta
                    injection hgo with hgo
                    injection hgo with hgo1 hgo2
                    subst hgo1; subst hgo2
                    have hra : (a.drop (k + 1))[t] = a[k + 1 + t] := List.getElem_drop ..
                    obtain ⟨r, hr⟩ : ∃ r, a[k + 1 + t] = r := ⟨_, rfl⟩
                    rw [hra, hr] at HLT
                    rw [hr] at r0 r1
                    obtain ⟨z1, z2⟩ := r
                    simp only at r0 r1
                    have HRQ : Hid (∀ h : k + 1 + t < a.length, a[k + 1 + t] = (z1, z2)) := Lib.hid (fun _ => hr)
                    clear hr hra htd hta
                    generalize hG : laterB (((a.drop (k + 1)).take t).filter (memB b)) (x1, x2) = G0 at *
                    clear hG
                    generalize hq : k + 1 + t = q at *
                    have HQ := Lib.hid hq
                    clear hq
                    go_wp2_with fail
                    clear f0 f1 f2 f3 HFC r0 r1
                    go_loopw [12, 15] (fun gr i V => ∃ m : Nat, m ≤ n' ∧ i = .int .i64 m ∧ gr = .bool (G0 || (decide (z1 = x1) && memB (b.take m) (z1, z2))) ∧ Below Wc.heap.size Wc V) (fun _ i _ => n' - (intOf i).toNat)
                    case atStart => exact ⟨0, by omega, rfl, by simp [memB], hV⟩
                    case round =>
                      obtain ⟨m, hm, rfl, rfl, hV⟩ := hrel
                      obtain ⟨f0, f1, f2, f3, HFC⟩ := FX.out wr hV
                      generalize wr = w5 at *
                      by_cases hmn : m < n'
                      · have hmb : m < b.length := by rw [← hn'.out]; exact hmn
                        have hqa : q < a.length := by rw [← hn.out]; exact htn
                        have HMT := Lib.hid (memB_take hmb (z1, z2))
                        obtain ⟨g', o', rfl, hg', e2, e3⟩ := HFC.out.2.at_ hmb
                        obtain ⟨g1, o1, hgo, _, r0, r1⟩ := HFC.out.1.at_ hqa
                        injection hgo with hgo
                        injection hgo with hgo1 hgo2
                        subst hgo1; subst hgo2
                        have hr : a[q] = (z1, z2) := HRQ.out hqa
                        rw [hr] at r0 r1
                        simp only at r0 r1
                        have m0 : (m : Int) < (n' : Int) := by omega
                        have m00 : (q : Int) < (n : Int) := by omega
                        generalize hM : memB (b.take m) (z1, z2) = M0 at *
                        rcases str_ways z1 x1 with ⟨hzx, q1, q2⟩ | ⟨hzx, q1, q2⟩
                        · have HDZ : Hid (decide (z1 = x1) = true) := Lib.hid (decide_eq_true hzx)
                          rw [HDZ.out]
                          cases hGM : (G0 || (true && M0)) with
                          | true =>
                            have HN : Hid ((G0 || (decide (z1 = x1) && memB (b.take (m + 1)) (z1, z2))) = true) := Lib.hid (by
                              rw [HDZ.out, HMT.out]
                              cases G0 <;> cases M0 <;> simp_all)
                            clear hM hGM hzx hr e2 e3 r0 r1
                            go_wp2_with fail
                            go_quiet (fail)
                            go_wp2
                            go_roundw
                            case rel => exact ⟨m + 1, by omega, by go_num, by have h := HN.out; rw [HDZ.out] at h; rw [h], hV.drewN' _⟩
                            case measure => simp [intOf]; omega
                          | false =>
                            obtain ⟨y, hy⟩ : ∃ y, b[m] = y := ⟨_, rfl⟩
                            rw [hy] at e2 e3
                            obtain ⟨y1, y2⟩ := y
                            simp only at e2 e3
                            obtain ⟨E, hE⟩ : ∃ E, decide ((y1, y2) = (z1, z2)) = E := ⟨_, rfl⟩
                            have HN : Hid ((G0 || (decide (z1 = x1) && memB (b.take (m + 1)) (z1, z2))) = E) := Lib.hid (by
                              rw [HDZ.out, HMT.out, hy, hE]
                              cases G0 <;> cases M0 <;> simp_all)
                            have hEQ : ∀ w : World, (Op.equalIn 10000 54 (.agg #[.string y1, .int .i64 y2]) (.agg #[.string z1, .int .i64 z2])).run Try.prog w = .ok E w := fun w => by rw [eqRCap_run, hE]
                            clear hM hGM hzx hr hy hE
                            go_wp2_with fail
                            go_quiet (fail)
                            go_wp2
                            go_roundw
                            case rel => exact ⟨m + 1, by omega, by go_num, by have h := HN.out; rw [HDZ.out] at h; rw [h], hV.drewN' _⟩
                            case measure => simp [intOf]; omega
                        · have HDZ : Hid (decide (z1 = x1) = false) := Lib.hid (decide_eq_false hzx)
                          rw [HDZ.out]
                          have HN : Hid ((G0 || (decide (z1 = x1) && memB (b.take (m + 1)) (z1, z2))) = G0) := Lib.hid (by rw [HDZ.out]; simp)
                          have hg0 : (G0 || (false && M0)) = G0 := by simp
                          rw [hg0]
                          clear hM hzx hr e2 e3 hg0
                          cases G0 with
                          | true =>
                            clear r0 r1
                            go_wp2_with fail
                            go_quiet (fail)
                            go_wp2
                            go_roundw
                            case rel => exact ⟨m + 1, by omega, by go_num, by have h := HN.out; rw [HDZ.out] at h; rw [h], hV.drewN' _⟩
                            case measure => simp [intOf]; omega
                          | false =>
                            go_wp2_with fail
                            go_quiet (fail)
                            go_wp2
                            go_roundw
                            case rel => exact ⟨m + 1, by omega, by go_num, by have h := HN.out; rw [HDZ.out] at h; rw [h], hV.drewN' _⟩
                            case measure => simp [intOf]; omega
                      · have HGN : Hid ((G0 || (decide (z1 = x1) && memB (b.take m) (z1, z2))) = laterB (((a.drop (k + 1)).take (t + 1)).filter (memB b)) (x1, x2)) := Lib.hid (by
                          rw [HLT.out, List.take_of_length_le (by rw [← hn'.out]; omega)])
                        obtain ⟨G1, HG1⟩ : ∃ G1, Hid (laterB (((a.drop (k + 1)).take (t + 1)).filter (memB b)) (x1, x2) = G1) := ⟨_, Lib.hid rfl⟩
                        rw [HGN.out, HG1.out]
                        go_wp2
                        go_roundw
                        case rel => exact ⟨t + 1, by have := HQ.out; omega, by rw [show k + 1 + (t + 1) = q + 1 by have := HQ.out; omega]; go_num, by rw [HG1.out], hV⟩
                        case measure => simp [intOf]; omega
                  · have hGA : laterB (((a.drop (k + 1)).take t).filter (memB b)) (x1, x2) = laterB ((a.drop (k + 1)).filter (memB b)) (x1, x2) := by
                      rw [List.take_of_length_le (by rw [List.length_drop, ← hn.out]; omega)]
                    rw [hGA]
                    obtain ⟨GR, HGR⟩ : ∃ GR, Hid (laterB ((a.drop (k + 1)).filter (memB b)) (x1, x2) = GR) := ⟨_, Lib.hid rfl⟩
                    rw [HGR.out]
                    have HRF : Hid (refL b (a.drop k) = if SH = true ∧ GR = false then (x1, x2) :: refL b (a.drop (k + 1)) else refL b (a.drop (k + 1))) := Lib.hid (by rw [HDR.out, refL, HSH.out, HGR.out])
                    have hb4 : Below we.heap.size we w4 := HBC.out.trans (hV.mono (by have := HZC.out; omega))
                    have HDW : Hid (Blk w4 s0 48 #[.int .i64 Y, .slice AD acc.length capD]) := Lib.hid (HDD.out.keep hb4 HDD.out.lt)
                    have HOW4 : Hid (w4.ownsRow (s0 + 1) 54 2 (.slice AD acc.length capD) acc.length (cc acc)) := Lib.hid (own_block HOW.out (fun k _ hk => hb4.block k hk))
                    have HBW4 : Hid (Below s0 W3 w4) := Lib.hid (HBW.out.trans (hb4.mono (by omega)))
                    have hz4 : s0 < w4.heap.size := by have := hb4.size; omega
                    generalize k + 1 + t = q at *
                    clear hGA hb4 HFC
                    cases SH with
                    | false =>
                      have HNX : Hid (refL b a = acc ++ refL b (a.drop (k + 1))) := Lib.hid (by rw [Hacc.out, HRF.out, if_neg (by simp)])
                      go_wp2
                      go_roundw
                      case rel => exact ⟨k + 1, by omega, by go_num, acc, _, HNX, Lib.hid (by have := Hal.out; omega), HDW.out, HOW4.out, HBW4.out⟩
                      case measure => simp [intOf]; omega
                    | true =>
                      cases GR with
                      | true =>
                        have HNX : Hid (refL b a = acc ++ refL b (a.drop (k + 1))) := Lib.hid (by rw [Hacc.out, HRF.out, if_neg (by simp)])
                        go_wp2
                        go_roundw
                        case rel => exact ⟨k + 1, by omega, by go_num, acc, _, HNX, Lib.hid (by have := Hal.out; omega), HDW.out, HOW4.out, HBW4.out⟩
                        case measure => simp [intOf]; omega
                      | false =>
                        have HNX : Hid (refL b a = (acc ++ [(x1, x2)]) ++ refL b (a.drop (k + 1))) := Lib.hid (by rw [Hacc.out, HRF.out, if_pos ⟨rfl, rfl⟩]; simp)
                        have m1 : w4.cell? ⟨s0, 1, none⟩ = some (.slice AD acc.length capD) := HDW.out.cell 1
                        have hal := Hal.out
                        obtain ⟨la0, HLA⟩ : ∃ la0, Hid (acc.length = la0) := ⟨_, Lib.hid rfl⟩
                        rw [HLA.out] at m1 HDW HOW4 hal
                        have HO5 := Lib.hid (HOW4.out.alloc (.cells #[.string x1, .int .i64 x2] 54))
                        have HD5 := Lib.hid (HDW.out.alloc (.cells #[.string x1, .int .i64 x2] 54))
                        have HB5 := Lib.hid (HBW4.out.alloc (by omega) (.cells #[.string x1, .int .i64 x2] 54))
                        go_wp2_with (at_builtin; refine Hid.out ?_)
                        refine Lib.hid ?_
                        refine wpList_append_lies _ (by rfl) (.tmp 116) (.tmp 118) 32 (by rfl) (s0 + 1) 54 i0 _ 2 24 Try.underlying32 hi hz0 hz1 hz2 (by rfl) (by decide) _ la0 (cc acc) (by rfl) HO5.out ⟨w4.heap.size, 0, none⟩ 1 1 [.string x1, .int .i64 x2] (by rfl) (by rfl) (World.news_of_block (heap_alloc_new w4 (.cells #[.string x1, .int .i64 x2] 54))) (by simp [Value.oneCell']) (by omega) (by simp only [maxLen]; omega) (by omega) (by simp; omega) _ rfl ?_
                        intro g1 cap1 w6 hown6 hgrow6 hat6 hlt6
                        have hd6 : Blk w6 s0 48 _ := HD5.out.grown hgrow6 (by
                          intro e
                          have := own_ge HO5.out s0 e
                          omega)
                        have f9 := hd6.frozen 1
                        have m9 := hd6.cell 1
                        have hg1 := own_ge hown6 g1 rfl
                        have HFIN : Hid (Blk (w6.setCell ⟨s0, 1, none⟩ (.slice (some ⟨g1, 0, none⟩) (la0 + 1) cap1)) s0 48 #[.int .i64 Y, .slice (some ⟨g1, 0, none⟩) (la0 + 1) cap1] ∧ (w6.setCell ⟨s0, 1, none⟩ (.slice (some ⟨g1, 0, none⟩) (la0 + 1) cap1)).ownsRow (s0 + 1) 54 2 (.slice (some ⟨g1, 0, none⟩) (la0 + 1) cap1) (acc ++ [(x1, x2)]).length (cc (acc ++ [(x1, x2)])) ∧ Below s0 W3 (w6.setCell ⟨s0, 1, none⟩ (.slice (some ⟨g1, 0, none⟩) (la0 + 1) cap1))) := Lib.hid (by
                          refine ⟨hd6.set 1 _, ?_, ?_⟩
                          · rw [cc_append, cc_one, List.length_append, HLA.out]
                            exact own_block hown6 (fun j hj _ => Below.heap_setCell _ _ _ _ (by show j ≠ s0; omega))
                          · refine Below.setCell ?_ (p := ⟨s0, 1, none⟩) (by simp) _
                            exact HB5.out.grown hgrow6 (by simp; omega) (fun r e => by have := own_ge HO5.out r e; omega))
                        clear hown6 hgrow6 hat6 hd6
                        go_wp2
                        go_roundw
                        case rel => exact ⟨k + 1, by omega, by go_num, acc ++ [(x1, x2)], _, HNX, Lib.hid (by rw [List.length_append, HLA.out]; simp; omega), HFIN.out.1, HFIN.out.2.1, HFIN.out.2.2⟩
                        case measure => simp [intOf]; omega
          · have HE : Hid (refL b a = acc) := Lib.hid (by
              have hdn : a.drop k = [] := List.drop_eq_nil_of_le (by rw [← hn.out]; omega)
              rw [Hacc.out, hdn, refL, List.append_nil])
            have m0 : we.cell? ⟨s0, 0, none⟩ = some (.int .i64 Y) := hd.cell 0
            have m1 : we.cell? ⟨s0, 1, none⟩ = some (.slice AD acc.length capD) := hd.cell 1
            have hr := HK2.out.keep (hbw) (by omega)
            have g0 : we.cell? ⟨w.heap.size + 2, 0, none⟩ = some (.int .i64 0) := hr.cell 0
            have g1 : we.cell? ⟨w.heap.size + 2, 1, none⟩ = some (.slice none 0 0) := hr.cell 1
            have f0 := hr.frozen 0
            have f1 := hr.frozen 1
            have HR := Lib.hid hr
            have HOW := Lib.hid hown
            have HBW := Lib.hid hbw
            clear hr hown hbw hd
            go_wp2
            refine dealRetR _ _ _ (g := w.heap.size + 2) rfl rfl ((HR.out.set 0 _).set 1 _) ((HRE.out _ _).2 ⟨?_, _, rfl, ?_⟩)
            · exact ((HB3.out.trans (HBW.out.mono (by omega))).setCell (p := ⟨w.heap.size + 2, 0, none⟩) (by simp) _).setCell (p := ⟨w.heap.size + 2, 1, none⟩) (by simp) _
            · rw [HE.out]
              exact CpR.of_own (own_block HOW.out (fun j hj _ => (Below.heap_setCell _ _ _ _ (by show j ≠ w.heap.size + 1 + 1; omega)).trans (Below.heap_setCell _ _ _ _ (by show j ≠ w.heap.size + 1 + 1; omega))))
end Go.Proofs.Ytcidcjghglgkhaa
