/- The document's Put of an item. -/
import Derived.Test.YtacikiambpfipaaDoorKItemRef
import Derived.Test.YtacikiambpfipaaDoorKRlpRP
import Derived.Test.YtacikiambpfipaaDoorKA6
import Derived.Test.YtacikiambpfipaaDoorKA11
namespace Go.Proofs.YtacikiambpfipaaDoor
set_option linter.unusedVariables false
set_option linter.unusedSimpArgs false
open Go.RowKit

theorem rlpL_take_le (s : List It) (k : Nat) : (rlpL (s.take k)).length ≤ (rlpL s).length := by
  have h := congrArg List.length (rlpL_append (s.take k) (s.drop k))
  rw [List.take_append_drop, List.length_append] at h
  omega
theorem rlpL_take (s : List It) (k : Nat) (h : k < s.length) : rlpL (s.take (k + 1)) = rlpL (s.take k) ++ s[k].rlp := by
  rw [take_succ_it s k h, rlpL_append]; simp [rlpL]
theorem rHead_size (b n : Nat) (h : n ≤ 1099511627776) : (⟨(rHead b n).toArray⟩ : ByteArray).size ≤ 9 := by
  rw [size_of, rHead_length]
  split
  · omega
  · have := minL_length 8 n (by omega); omega
theorem rHead_pos (b n : Nat) : 1 ≤ (rHead b n).length := by rw [rHead_length]; split <;> omega
set_option maxRecDepth 100000 in
set_option maxHeartbeats 1000000 in
theorem refHead_c (b n : Nat) (w : World) (hb : b ≤ 192) (hn : n ≤ 1099511627776) :
    Calls Tryd.prog 117 #[.int .i64 b, .int .i64 n] w fun e w' => e = .returned (.string ⟨(rHead b n).toArray⟩) ∧ Below w.heap.size w w' := by
  have k1 := fun (w : World) (a : Int) => run_str1 Tryd.underlying54 Tryd.underlying5 Tryd.underlying9 w a
  by_cases h : n ≤ 55
  · have HR : Hid (rHead b n = [ub ((b : Int) + n)]) := Lib.hid (by unfold rHead; rw [if_pos h]; simp)
    go_enter Tryd.func117, Tryd.ntmps117
    go_wp2
    go_ret
    exact ⟨by rw [HR.out]; rfl, (by repeat (first | exact Below.refl _ _ | assumption | with_reducible refine Below.drewN' ?_ _ | with_reducible refine Below.drew ?_ | ((with_reducible refine Below.alloc' ?_ ?_ _); · (first | omega | (simp <;> omega)))))⟩
  · obtain ⟨T, hT⟩ : ∃ T : ByteArray, (⟨(minL n).toArray⟩ : ByteArray) = T := ⟨_, rfl⟩
    have hTL : T.data.toList = minL n := by rw [← hT]
    have hTz : T.size ≤ 8 := by rw [← hT, size_of]; exact minL_length 8 n (by omega)
    have HR : Hid ((⟨(rHead b n).toArray⟩ : ByteArray) = ⟨#[ub ((b : Int) + 55 + T.size)]⟩ ++ T) := Lib.hid (by
      apply bytes_ext
      rw [toList_app]
      unfold rHead; rw [if_neg h, hTL, ← hTL, toList_size]; simp)
    have HL := Lib.hid (fun w => refLeast_c n w (by omega))
    rw [hT] at HL
    clear hT hTL
    go_enter Tryd.func117, Tryd.ntmps117
    go_wp2_with fail
    refine (HL.out _).mono ?_
    rintro e w1 ⟨rfl, hb1⟩
    have hw1 := hb1.size
    go_wp2
    go_ret
    exact ⟨by rw [HR.out]; rfl, hb1.alloc hw1 _⟩
set_option maxRecDepth 100000 in
set_option maxHeartbeats 1600000 in
theorem ref09Put_c : ∀ (x : It) (B : Nat) (w : World) (c0 c1 c2 : Value), ItIn w B x c0 c1 c2 → B ≤ w.heap.size → x.rlp.length ≤ 1099511627776 →
    Calls Tryd.prog 72 #[.agg #[c0, c1, c2]] w fun e w' => e = .returned (.string ⟨x.rlp.toArray⟩) ∧ Below w.heap.size w w' := by
  intro x
  induction x using It.ind with
  | h t l s ih =>
    intro B w c0 c1 c2 h hB hlen
    obtain ⟨rfl, rfl, ht, hs, A, cap, rfl, hcap, hcm, hsub⟩ := h
    have IH := Lib.hid ih
    have HS := Lib.hid hsub
    clear ih hsub
    cases l with
    | true =>
      have HX : Hid ((It.mk t true s).rlp = rHead 192 (rlpL s).length ++ rlpL s) := Lib.hid (by simp [It.rlp])
      have hlen2 : (rlpL s).length ≤ 1099511627776 := by rw [HX.out] at hlen; simp only [List.length_append] at hlen; omega
      generalize (It.mk t true s).rlp = X at *
      clear hlen
      have HHD := Lib.hid (fun w => refHead_c 192 (rlpL s).length w (by omega) hlen2)
      go_enter Tryd.func72, Tryd.ntmps72
      go_wp2_with fail
      go_loopw [3, 4] (fun y i wr => ∃ k : Nat, k ≤ s.length ∧ i = .int .i64 k ∧ ∃ z : ByteArray, y = .string z ∧ Hid (z.data.toList = rlpL (s.take k)) ∧ Below w.heap.size w wr ∧ wr.cell? ⟨w.heap.size, 2, none⟩ = some (.slice A s.length cap)) (fun _ i _ => s.length - (intOf i).toNat)
      case atStart => exact ⟨0, by omega, rfl, _, rfl, Lib.hid (by simp [rlpL]), (by repeat (first | exact Below.refl _ _ | assumption | with_reducible refine Below.drewN' ?_ _ | with_reducible refine Below.drew ?_ | ((with_reducible refine Below.alloc' ?_ ?_ _); · (first | omega | (simp <;> omega))))), by simp⟩
      case round =>
        obtain ⟨k, hk, rfl, z, rfl, Hz, hb, hcell⟩ := hrel
        have hzs : z.size = (rlpL (s.take k)).length := by rw [← toList_size, Hz.out]
        have htk := rlpL_take_le s k
        have hzl : z.size ≤ 1099511627776 := by omega
        by_cases hlt : k < s.length
        · obtain ⟨b, o, d0, d1, d2, rfl, hbB, e0, e1, e2, hi⟩ := HS.out.at_ k hlt
          simp only [Nat.zero_add] at e0 e1 e2
          replace e0 := (hb.cell (p := ⟨b, o + k * 3, none⟩) (by simp; omega)).trans e0
          replace e1 := (hb.cell (p := ⟨b, o + k * 3 + 1, none⟩) (by simp; omega)).trans e1
          replace e2 := (hb.cell (p := ⟨b, o + k * 3 + 2, none⟩) (by simp; omega)).trans e2
          have hbz := hb.size
          have hmem := List.getElem_mem hlt
          have hiw := hi.below (hb.mono hB)
          have hst := rlpL_take s k hlt
          have htk1 := rlpL_take_le s (k + 1)
          have hT : s[k].rlp.length ≤ 1099511627776 := by rw [hst] at htk1; simp at htk1; omega
          have HC := Lib.hid (IH.out _ hmem B wr d0 d1 d2 hiw (by omega) hT)
          rw [← size_of] at hT
          have HT : Hid ((z ++ (⟨s[k].rlp.toArray⟩ : ByteArray)).data.toList = rlpL (s.take (k + 1))) := Lib.hid (by rw [toList_app, Hz.out, hst])
          generalize (⟨s[k].rlp.toArray⟩ : ByteArray) = T at *
          clear hst htk1 hi hiw hzs htk
          go_wp2_with fail
          refine HC.out.mono ?_
          rintro e w2 ⟨rfl, hb2⟩
          have hbz2 := hb2.size
          have hbl := lt_of_cell hcell
          have hcell2 := (hb2.cell (p := ⟨w.heap.size, 2, none⟩) (by simp; omega)).trans hcell
          have hb3 := hb.trans (hb2.mono hbz)
          go_wp2
          go_roundw
          case rel => exact ⟨k + 1, by omega, by go_num, _, rfl, HT, hb3, hcell2⟩
          case measure => simp [intOf]; omega
        · have HZ : Hid (z.data.toList = rlpL s) := Lib.hid (by rw [Hz.out, List.take_of_length_le (by omega)])
          have hzz : z.size = (rlpL s).length := by rw [← toList_size, HZ.out]
          rw [← hzz] at HHD
          have HT : Hid ((⟨X.toArray⟩ : ByteArray) = ⟨(rHead 192 z.size).toArray⟩ ++ z) := Lib.hid (bytes_ext (by rw [toList_app, HX.out, HZ.out, hzz]))
          have hDz := rHead_size 192 z.size hzl
          generalize hq : (⟨(rHead 192 z.size).toArray⟩ : ByteArray) = D at *
          clear hzs htk hzz hq
          go_wp2_with fail
          refine (HHD.out _).mono ?_
          rintro e w2 ⟨rfl, hb2⟩
          go_wp2
          go_ret
          exact ⟨by rw [HT.out]; rfl, hb.trans (hb2.mono hb.size)⟩
    | false =>
      by_cases hs1 : t.size = 1 ∧ (t.data.toList.getD 0 0).toNat < 128
      · have HX : Hid ((It.mk t false s).rlp = t.data.toList) := Lib.hid (by rw [It.rlp, if_neg (by simp), if_pos hs1])
        generalize (It.mk t false s).rlp = X at *
        obtain ⟨hs1, hs4⟩ := hs1
        have hs3 : ((t.size : Int) == 1) = true := by simp [hs1]
        have hs0 : 0 < t.size := by omega
        rw [List.getD_eq_getElem?_getD, byte_at t 0 hs0] at hs4
        replace hs4 : t[0].toNat < 128 := hs4
        clear hlen
        go_enter Tryd.func72, Tryd.ntmps72
        go_wp2
        go_ret
        exact ⟨ret_str (bytes_ext (by rw [HX.out])), (by repeat (first | exact Below.refl _ _ | assumption | with_reducible refine Below.drewN' ?_ _ | with_reducible refine Below.drew ?_ | ((with_reducible refine Below.alloc' ?_ ?_ _); · (first | omega | (simp <;> omega)))))⟩
      · have HX : Hid ((It.mk t false s).rlp = rHead 128 t.size ++ t.data.toList) := Lib.hid (by rw [It.rlp, if_neg (by simp), if_neg hs1])
        have hlt : t.size ≤ 1099511627776 := by rw [HX.out] at hlen; simp at hlen; omega
        generalize (It.mk t false s).rlp = X at *
        have HHD := Lib.hid (fun w => refHead_c 128 t.size w (by omega) hlt)
        have HT : Hid ((⟨X.toArray⟩ : ByteArray) = ⟨(rHead 128 t.size).toArray⟩ ++ t) := Lib.hid (bytes_ext (by rw [toList_app, HX.out]))
        have hDz := rHead_size 128 t.size hlt
        generalize (⟨(rHead 128 t.size).toArray⟩ : ByteArray) = D at *
        clear hlen
        by_cases hs2 : t.size = 1
        · have hs3 : ((t.size : Int) == 1) = true := by simp [hs2]
          have hs0 : 0 < t.size := by omega
          have hs4 : ¬ t[0].toNat < 128 := fun h => hs1 ⟨hs2, by rw [List.getD_eq_getElem?_getD, byte_at t 0 hs0]; exact h⟩
          clear hs1
          go_enter Tryd.func72, Tryd.ntmps72
          go_wp2_with fail
          have c0 : (w.alloc (.cells #[.string t, .bool false, .slice A s.length cap] 27)).cell? ⟨w.heap.size, 0, none⟩ = some (.string t) := by simp
          refine wp_region_below (by kernel_rfl) (by kernel_rfl) ?_
          refine wpQuiet_run (.pointer (some ⟨w.heap.size, 0, none⟩)) (by rfl) (fun _ _ => by first | rfl | (go_simp; done) | (go_simp; omega)) ?_
          simp only [Act.put, List.setIfInBounds_toArray, List.set_cons_zero, List.set_cons_succ]
          refine wpQuiet_run (.string t) (by rfl) (fun w' hw' => by have q := (hw'.cell (p := ⟨w.heap.size, 0, none⟩) (by simp)).trans c0; go_simp) ?_
          simp only [Act.put, List.setIfInBounds_toArray, List.set_cons_zero, List.set_cons_succ]
          refine wpQuiet_run (.int .i64 t.size) (by rfl) (fun _ _ => by first | rfl | (go_simp; done) | (go_simp; omega)) ?_
          simp only [Act.put, List.setIfInBounds_toArray, List.set_cons_zero, List.set_cons_succ]
          refine wpQuiet_callB 117 _ _ (by rfl) (fun _ => by first | rfl | go_simp) (fun w _ => HHD.out _) ?_
          simp only [Act.put, List.setIfInBounds_toArray, List.set_cons_zero, List.set_cons_succ]
          refine wpQuiet_run (.pointer (some ⟨w.heap.size, 0, none⟩)) (by rfl) (fun _ _ => by first | rfl | (go_simp; done) | (go_simp; omega)) ?_
          simp only [Act.put, List.setIfInBounds_toArray, List.set_cons_zero, List.set_cons_succ]
          refine wpQuiet_run (.string t) (by rfl) (fun w' hw' => by have q := (hw'.cell (p := ⟨w.heap.size, 0, none⟩) (by simp)).trans c0; go_simp) ?_
          simp only [Act.put, List.setIfInBounds_toArray, List.set_cons_zero, List.set_cons_succ]
          refine wpQuiet_run (.string (D ++ t)) (by rfl) (fun _ _ => by first | rfl | (go_simp; done) | (go_simp; omega)) ?_
          simp only [Act.put, List.setIfInBounds_toArray, List.set_cons_zero, List.set_cons_succ]
          refine wpQuiet_run (.string (D ++ t)) (by rfl) (fun _ _ => by first | rfl | (go_simp; done) | (go_simp; omega)) ?_
          simp only [Act.put, List.setIfInBounds_toArray, List.set_cons_zero, List.set_cons_succ]
          refine wpQuiet_nil ?_
          intro w2 hw2
          go_wp2
          go_ret
          exact ⟨by rw [HT.out]; rfl, ((Below.refl w.heap.size w).alloc (Nat.le_refl _) _).trans (hw2.mono (by simp))⟩
        · have hs3 : ((t.size : Int) == 1) = false := by simp; omega
          clear hs1
          go_enter Tryd.func72, Tryd.ntmps72
          go_wp2_with fail
          have c0 : (w.alloc (.cells #[.string t, .bool false, .slice A s.length cap] 27)).cell? ⟨w.heap.size, 0, none⟩ = some (.string t) := by simp
          refine wp_region_below (by kernel_rfl) (by kernel_rfl) ?_
          refine wpQuiet_run (.pointer (some ⟨w.heap.size, 0, none⟩)) (by rfl) (fun _ _ => by first | rfl | (go_simp; done) | (go_simp; omega)) ?_
          simp only [Act.put, List.setIfInBounds_toArray, List.set_cons_zero, List.set_cons_succ]
          refine wpQuiet_run (.string t) (by rfl) (fun w' hw' => by have q := (hw'.cell (p := ⟨w.heap.size, 0, none⟩) (by simp)).trans c0; go_simp) ?_
          simp only [Act.put, List.setIfInBounds_toArray, List.set_cons_zero, List.set_cons_succ]
          refine wpQuiet_run (.int .i64 t.size) (by rfl) (fun _ _ => by first | rfl | (go_simp; done) | (go_simp; omega)) ?_
          simp only [Act.put, List.setIfInBounds_toArray, List.set_cons_zero, List.set_cons_succ]
          refine wpQuiet_callB 117 _ _ (by rfl) (fun _ => by first | rfl | go_simp) (fun w _ => HHD.out _) ?_
          simp only [Act.put, List.setIfInBounds_toArray, List.set_cons_zero, List.set_cons_succ]
          refine wpQuiet_run (.pointer (some ⟨w.heap.size, 0, none⟩)) (by rfl) (fun _ _ => by first | rfl | (go_simp; done) | (go_simp; omega)) ?_
          simp only [Act.put, List.setIfInBounds_toArray, List.set_cons_zero, List.set_cons_succ]
          refine wpQuiet_run (.string t) (by rfl) (fun w' hw' => by have q := (hw'.cell (p := ⟨w.heap.size, 0, none⟩) (by simp)).trans c0; go_simp) ?_
          simp only [Act.put, List.setIfInBounds_toArray, List.set_cons_zero, List.set_cons_succ]
          refine wpQuiet_run (.string (D ++ t)) (by rfl) (fun _ _ => by first | rfl | (go_simp; done) | (go_simp; omega)) ?_
          simp only [Act.put, List.setIfInBounds_toArray, List.set_cons_zero, List.set_cons_succ]
          refine wpQuiet_run (.string (D ++ t)) (by rfl) (fun _ _ => by first | rfl | (go_simp; done) | (go_simp; omega)) ?_
          simp only [Act.put, List.setIfInBounds_toArray, List.set_cons_zero, List.set_cons_succ]
          refine wpQuiet_nil ?_
          intro w2 hw2
          go_wp2
          go_ret
          exact ⟨by rw [HT.out]; rfl, ((Below.refl w.heap.size w).alloc (Nat.le_refl _) _).trans (hw2.mono (by simp))⟩
end Go.Proofs.YtacikiambpfipaaDoor
