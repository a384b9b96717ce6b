/- The document's Put of a hello. -/
import Derived.Test.YtacikiambpfipaaDoorKHelPut
import Derived.Test.YtacikiambpfipaaDoorKRlpRef
import Derived.Test.YtacikiambpfipaaDoorKA10
namespace Go.Proofs.YtacikiambpfipaaDoor
set_option linter.unusedVariables false
set_option linter.unusedSimpArgs false
open Go.RowKit

theorem two_S {w : World} {g base : Nat} {t1 t2 : ByteArray} (h : Blk w g 27 #[.string t1, .bool false, .slice none 0 0, .string t2, .bool false, .slice none 0 0]) (hg : base ≤ g) (h1 : t1.size ≤ 9223372036854775807) (h2 : t2.size ≤ 9223372036854775807) {S : Nat → Prop} (hS : S g) :
    ItS w S (.mk ⟨#[]⟩ true [.mk t1 false [], .mk t2 false []]) (.string ⟨#[]⟩) (.bool true) (.slice (some ⟨g, 0, none⟩) 2 2) :=
  ⟨rfl, rfl, by simp [ByteArray.size], by simp, _, 2, rfl, by simp, by simp, ⟨⟨_, _, _, _, _, rfl, hS, h.cell 0, h.cell 1, h.cell 2, ItS.text false h1⟩, ⟨_, _, _, _, _, rfl, hS, h.cell 3, h.cell 4, h.cell 5, ItS.text false h2⟩, trivial⟩⟩
set_option maxRecDepth 100000 in
set_option maxHeartbeats 16000000 in
theorem refHelPut_c (least most : Int) (l : List Cp) (v : Value) (B : Nat) (w : World) (h : CpR w B v l) (hB : B ≤ w.heap.size) (hnm : NmOk l) (hh : helB least most l = true) :
    Calls Tryd.prog 34 #[.agg #[.int .i64 least, .int .i64 most, v]] w fun e w' => e = .returned (.string ⟨(helIt least most l).rlp.toArray⟩) ∧ Below w.heap.size w w' := by
  obtain ⟨W0, hW0⟩ : ∃ W0, w.alloc (.cells #[.int .i64 least, .int .i64 most, v] 63) = W0 := ⟨_, rfl⟩
  have hb0 : Below w.heap.size w W0 := by rw [← hW0]; exact (Below.refl _ w).alloc (Nat.le_refl _) _
  have hz0 : W0.heap.size = w.heap.size + 1 := by rw [← hW0]; simp
  have hk0 : Blk W0 w.heap.size 63 #[.int .i64 least, .int .i64 most, v] := by rw [← hW0]; exact Blk.new _ _ _
  obtain ⟨W1, hW1⟩ : ∃ W1, W0.alloc (.cells #[.string ⟨#[]⟩, .bool true, .slice none 0 0] 27) = W1 := ⟨_, rfl⟩
  have hb1 : Below W0.heap.size W0 W1 := by rw [← hW1]; exact (Below.refl _ W0).alloc (Nat.le_refl _) _
  have hz1 : W1.heap.size = w.heap.size + 2 := by rw [← hW1]; simp [hz0]
  have hk1 : Blk W1 (w.heap.size + 1) 27 #[.string ⟨#[]⟩, .bool true, .slice none 0 0] := by rw [← hz0, ← hW1]; exact Blk.new _ _ _
  obtain ⟨A, n, cap, rfl, hn, hnc, hcm⟩ := h.form'
  have HR : Hid (CpR W1 B (.slice A n cap) l) := Lib.hid ((h.below (hb0.mono hB)).below (hb1.mono (by omega)))
  have HK0 := Lib.hid (hk0.keep hb1 (by omega))
  have HK1 := Lib.hid hk1
  have HB1 := Lib.hid (hb0.trans (hb1.mono (by omega)))
  have HZ1 := Lib.hid hz1
  have HW0 := Lib.hid hW0
  have HW1 := Lib.hid hW1
  have HP := Lib.hid (helB_parts hh)
  have HHH := Lib.hid hh
  obtain ⟨S, hS⟩ : ∃ S, (⟨(helIt least most l).rlp.toArray⟩ : ByteArray) = S := ⟨_, rfl⟩
  rw [hS]
  have HS := Lib.hid hS
  clear h hk0 hb0 hz0 hW0 hk1 hb1 hz1 hW1 hh hS
  go_enter Tryd.func34, Tryd.ntmps34
  go_wp2_with fail
  rw [HW0.out]
  first | rw [HW1.out] | skip
  go_loopw [4] (fun i wr => ∃ (k : Nat) (v5 : Value), k ≤ n ∧ i = .int .i64 k ∧ Hid (Acc wr (w.heap.size + 2) ((l.take k).map capIt) v5) ∧ Hid (Blk wr (w.heap.size + 1) 27 #[.string ⟨#[]⟩, .bool true, v5]) ∧ Hid (Only [w.heap.size + 1] W1 wr)) (fun i _ => n - (intOf i).toNat)
  case atStart => exact ⟨0, _, by omega, rfl, Lib.hid (Acc.nil _ _), HK1, Lib.hid (Only.refl _ _)⟩
  case round =>
    obtain ⟨k, v5, hk, rfl, HA, HKX, HON⟩ := hrel
    obtain ⟨A5, n5, cap5, rfl, hn5, hc5, hm5⟩ := HA.out.form'
    have hzw := HON.out.size
    have hz1 := HZ1.out
    have HWZ : Hid (w.heap.size + 2 ≤ wr.heap.size) := Lib.hid (by omega)
    have HBR : Hid (Below w.heap.size w wr) := Lib.hid (HB1.out.trans (HON.out.below (by omega) (by simp)))
    have HKR := Lib.hid (HK0.out.only HON.out (by simp))
    have HRR := Lib.hid (HR.out.below (HON.out.below (by omega) (by simp; omega)))
    obtain ⟨q0, q1, q2, _⟩ := blk3 HKR.out
    obtain ⟨p0, p1, p2, pf0, pf1, pf2⟩ := blk3 HKX.out
    clear hzw hz1
    by_cases hlt : k < n
    · have hlt2 : k < l.length := by have := hn.out; omega
      obtain ⟨g, o, rfl, hgB, e0, e1⟩ := HRR.out.at_ hlt2
      have hmem := List.getElem_mem hlt2
      obtain ⟨m1, m2, m3⟩ := HP.out.2.2.2.2 _ hmem
      have hns := hnm _ hmem
      obtain ⟨⟨nm, ver⟩, hc⟩ : ∃ c, l[k] = c := ⟨_, rfl⟩
      rw [hc] at e0 e1 m1 m2 m3 hns
      dsimp only at e0 e1 m1 m2 m3 hns
      have HTK : Hid ((l.take (k + 1)).map capIt = (l.take k).map capIt ++ [capIt (nm, ver)]) := Lib.hid (by rw [List.take_succ_eq_append_getElem hlt2, List.map_append, hc]; rfl)
      have HNC : Hid (∀ V, Below wr.heap.size wr V → Calls Tryd.prog 92 #[.int .i64 ver] V fun e w' => e = .returned (.agg #[.string (numT ver.toNat), .bool false, .slice none 0 0]) ∧ Below wr.heap.size wr w') := Lib.hid (fun V hV => (refNumI_c ver V (by omega) (by omega)).mono fun e w' ⟨h1, h2⟩ => ⟨h1, hV.trans (h2.mono hV.size)⟩)
      have hTz := numT_size ver.toNat (by omega)
      obtain ⟨T, hT⟩ : ∃ T, numT ver.toNat = T := ⟨_, rfl⟩
      rw [hT] at HNC hTz
      have HCI : Hid (capIt (nm, ver) = .mk ⟨#[]⟩ true [.mk nm false [], .mk T false []]) := Lib.hid (by rw [← hT]; rfl)
      have HKP : Hid (∀ V, Below (w.heap.size + 2) wr V → V.cell? ⟨w.heap.size, 2, none⟩ = some (.slice (some ⟨g, o, none⟩) n cap) ∧ V.cell? ⟨g, o + k * 2, none⟩ = some (.string nm) ∧ V.cell? ⟨g, o + k * 2 + 1, none⟩ = some (.int .i64 ver) ∧ V.cell? ⟨w.heap.size + 1, 2, none⟩ = some (.slice A5 n5 cap5) ∧ V.frozen? ⟨w.heap.size + 1, 2, none⟩ = false) := Lib.hid (fun V hV => by
        have := HWZ.out
        exact ⟨(hV.cell (by simp)).trans q2, (hV.cell (by simp; omega)).trans e0, (hV.cell (by simp; omega)).trans e1, (hV.cell (by simp)).trans p2, (hV.frozen (by simp)).trans pf2⟩)
      have hl1000 : ((l.take k).map capIt).length ≤ 1000000 := by rw [List.length_map, List.length_take]; have := HP.out.2.2.2.1; omega
      have HLN := Lib.hid hl1000
      have HY : Hid (∀ V, Below wr.heap.size wr V → ItS ((V.alloc (.cells #[.string nm, .bool false, .slice none 0 0, .string T, .bool false, .slice none 0 0] 27)).alloc (.cells #[.string ⟨#[]⟩, .bool true, .slice (some ⟨V.heap.size, 0, none⟩) 2 2] 27)) (fun j => w.heap.size + 2 ≤ j ∧ (Value.slice A5 n5 cap5).ownBlock ≠ some j) (capIt (nm, ver)) (.string ⟨#[]⟩) (.bool true) (.slice (some ⟨V.heap.size, 0, none⟩) 2 2)) := Lib.hid (fun V hV => by
        rw [HCI.out]
        have h1 := hV.size
        have h2 := HWZ.out
        exact two_S ((Blk.new V _ _).alloc _) (base := 0) (by omega) hns (by omega) ⟨by omega, fun e => by have := (HA.out.ge _ e).2; omega⟩)
      have HA3 : Hid (∀ V o o', Below wr.heap.size wr V → Acc ((V.alloc o).alloc o') (w.heap.size + 2) ((l.take k).map capIt) (.slice A5 n5 cap5)) := Lib.hid (fun V o o' hV => ((HA.out.below hV).below ((Below.refl _ V).alloc (Nat.le_refl _) o)).below ((Below.refl _ _).alloc (Nat.le_refl _) o'))
      clear hc hT hmem m1 hl1000
      go_wp2_with fail
      refine wp_region_last 21 (fun V => V.cell? ⟨w.heap.size, 2, none⟩ = some (.slice (some ⟨g, o, none⟩) n cap) ∧ V.cell? ⟨g, o + k * 2, none⟩ = some (.string nm) ∧ V.cell? ⟨g, o + k * 2 + 1, none⟩ = some (.int .i64 ver) ∧ V.cell? ⟨w.heap.size + 1, 2, none⟩ = some (.slice A5 n5 cap5) ∧ V.frozen? ⟨w.heap.size + 1, 2, none⟩ = false) (by kernel_rfl) (by kernel_rfl) ?_
      have hHeld := HKP.out wr.drew (Below.refl _ _).drew
      refine GT.take (i := 0) (v := ?_) (by simp only [List.getElem?_toArray, List.getElem?_cons_zero, List.getElem?_cons_succ]; rfl) (by kernel_rfl) (by kernel_rfl) (by kernel_rfl) (by kernel_rfl) (by intro _ _ _ h; exact h) (Or.inl ⟨by rfl, ?_⟩) hHeld ?_
      rotate_left
      · intro V hV
        (try dsimp only at hV)
        (first | (go_simp; done) | (go_simp; with_reducible rfl))
      try simp only [Act.put, List.setIfInBounds_toArray, List.set_cons_zero, List.set_cons_succ]
      refine GT.take (i := 1) (v := ?_) (by simp only [List.getElem?_toArray, List.getElem?_cons_zero, List.getElem?_cons_succ]; rfl) (by kernel_rfl) (by kernel_rfl) (by kernel_rfl) (by kernel_rfl) (by intro _ _ _ h; exact h) (Or.inl ⟨by rfl, ?_⟩) hHeld ?_
      rotate_left
      · intro V hV
        (try dsimp only at hV)
        (first | (go_simp; done) | (go_simp; with_reducible rfl))
      try simp only [Act.put, List.setIfInBounds_toArray, List.set_cons_zero, List.set_cons_succ]
      refine GT.take (i := 2) (v := ?_) (by simp only [List.getElem?_toArray, List.getElem?_cons_zero, List.getElem?_cons_succ]; rfl) (by kernel_rfl) (by kernel_rfl) (by kernel_rfl) (by kernel_rfl) (by intro _ _ _ h; exact h) (Or.inl ⟨by rfl, ?_⟩) hHeld ?_
      rotate_left
      · intro V hV
        (try dsimp only at hV)
        (first | (go_simp; done) | (go_simp; with_reducible rfl))
      try simp only [Act.put, List.setIfInBounds_toArray, List.set_cons_zero, List.set_cons_succ]
      refine GT.take (i := 3) (v := ?_) (by simp only [List.getElem?_toArray, List.getElem?_cons_zero, List.getElem?_cons_succ]; rfl) (by kernel_rfl) (by kernel_rfl) (by kernel_rfl) (by kernel_rfl) (by intro _ _ _ h; exact h) (Or.inl ⟨by rfl, ?_⟩) hHeld ?_
      rotate_left
      · intro V hV
        (try dsimp only at hV)
        (first | (go_simp; done) | (go_simp; with_reducible rfl))
      try simp only [Act.put, List.setIfInBounds_toArray, List.set_cons_zero, List.set_cons_succ]
      refine GT.take (i := 4) (v := ?_) (by simp only [List.getElem?_toArray, List.getElem?_cons_zero, List.getElem?_cons_succ]; rfl) (by kernel_rfl) (by kernel_rfl) (by kernel_rfl) (by kernel_rfl) (by intro _ _ _ h; exact h) (Or.inl ⟨by rfl, ?_⟩) hHeld ?_
      rotate_left
      · intro V hV
        (try dsimp only at hV)
        (first | (go_simp; done) | (go_simp; with_reducible rfl))
      try simp only [Act.put, List.setIfInBounds_toArray, List.set_cons_zero, List.set_cons_succ]
      refine GT.take (i := 5) (v := ?_) (by simp only [List.getElem?_toArray, List.getElem?_cons_zero, List.getElem?_cons_succ]; rfl) (by kernel_rfl) (by kernel_rfl) (by kernel_rfl) (by kernel_rfl) (by intro _ _ _ h; exact h) (Or.inl ⟨by rfl, ?_⟩) hHeld ?_
      rotate_left
      · intro V hV
        (try dsimp only at hV)
        (first | (go_simp; done) | (go_simp; with_reducible rfl))
      try simp only [Act.put, List.setIfInBounds_toArray, List.set_cons_zero, List.set_cons_succ]
      refine GT.take (i := 6) (v := ?_) (by simp only [List.getElem?_toArray, List.getElem?_cons_zero, List.getElem?_cons_succ]; rfl) (by kernel_rfl) (by kernel_rfl) (by kernel_rfl) (by kernel_rfl) (by intro _ _ _ h; exact h) (Or.inl ⟨by rfl, ?_⟩) hHeld ?_
      rotate_left
      · intro V hV
        (try dsimp only at hV)
        (first | (go_simp; done) | (go_simp; with_reducible rfl))
      try simp only [Act.put, List.setIfInBounds_toArray, List.set_cons_zero, List.set_cons_succ]
      refine GT.take (i := 7) (v := ?_) (by simp only [List.getElem?_toArray, List.getElem?_cons_zero, List.getElem?_cons_succ]; rfl) (by kernel_rfl) (by kernel_rfl) (by kernel_rfl) (by kernel_rfl) (by intro _ _ _ h; exact h) (Or.inl ⟨by rfl, ?_⟩) hHeld ?_
      rotate_left
      · intro V hV
        (try dsimp only at hV)
        (first | (go_simp; done) | (go_simp; with_reducible rfl))
      try simp only [Act.put, List.setIfInBounds_toArray, List.set_cons_zero, List.set_cons_succ]
      refine GT.take (i := 8) (v := ?_) (by simp only [List.getElem?_toArray, List.getElem?_cons_zero, List.getElem?_cons_succ]; rfl) (by kernel_rfl) (by kernel_rfl) (by kernel_rfl) (by kernel_rfl) (by intro _ _ _ h; exact h) (Or.inl ⟨by rfl, ?_⟩) hHeld ?_
      rotate_left
      · intro V hV
        (try dsimp only at hV)
        (first | (go_simp; done) | (go_simp; with_reducible rfl))
      try simp only [Act.put, List.setIfInBounds_toArray, List.set_cons_zero, List.set_cons_succ]
      refine GT.take (i := 9) (v := ?_) (by simp only [List.getElem?_toArray, List.getElem?_cons_zero, List.getElem?_cons_succ]; rfl) (by kernel_rfl) (by kernel_rfl) (by kernel_rfl) (by kernel_rfl) (by intro _ _ _ h; exact h) (Or.inl ⟨by rfl, ?_⟩) hHeld ?_
      rotate_left
      · intro V hV
        (try dsimp only at hV)
        (first | (go_simp; done) | (go_simp; with_reducible rfl))
      try simp only [Act.put, List.setIfInBounds_toArray, List.set_cons_zero, List.set_cons_succ]
      refine GT.take (i := 10) (v := ?_) (by simp only [List.getElem?_toArray, List.getElem?_cons_zero, List.getElem?_cons_succ]; rfl) (by kernel_rfl) (by kernel_rfl) (by kernel_rfl) (by kernel_rfl) (by intro _ _ _ h; exact h) (Or.inl ⟨by rfl, ?_⟩) hHeld ?_
      rotate_left
      · intro V hV
        (try dsimp only at hV)
        (first | (go_simp; done) | (go_simp; with_reducible rfl))
      try simp only [Act.put, List.setIfInBounds_toArray, List.set_cons_zero, List.set_cons_succ]
      refine GT.take (i := 11) (v := ?_) (by simp only [List.getElem?_toArray, List.getElem?_cons_zero, List.getElem?_cons_succ]; rfl) (by kernel_rfl) (by kernel_rfl) (by kernel_rfl) (by kernel_rfl) (by intro _ _ _ h; exact h) (Or.inl ⟨by rfl, ?_⟩) hHeld ?_
      rotate_left
      · intro V hV
        (try dsimp only at hV)
        (first | (go_simp; done) | (go_simp; with_reducible rfl))
      try simp only [Act.put, List.setIfInBounds_toArray, List.set_cons_zero, List.set_cons_succ]
      refine GT.take (i := 12) (v := ?_) (by simp only [List.getElem?_toArray, List.getElem?_cons_zero, List.getElem?_cons_succ]; rfl) (by kernel_rfl) (by kernel_rfl) (by kernel_rfl) (by kernel_rfl) (by intro _ _ _ h; exact h) (Or.inl ⟨by rfl, ?_⟩) hHeld ?_
      rotate_left
      · intro V hV
        (try dsimp only at hV)
        (first | (go_simp; done) | (go_simp; with_reducible rfl))
      try simp only [Act.put, List.setIfInBounds_toArray, List.set_cons_zero, List.set_cons_succ]
      refine GT.take (i := 13) (v := ?_) (by simp only [List.getElem?_toArray, List.getElem?_cons_zero, List.getElem?_cons_succ]; rfl) (by kernel_rfl) (by kernel_rfl) (by kernel_rfl) (by kernel_rfl) (by intro _ _ _ h; exact h) (Or.inl ⟨by rfl, ?_⟩) hHeld ?_
      rotate_left
      · intro V hV
        (try dsimp only at hV)
        (first | (go_simp; done) | (go_simp; with_reducible rfl))
      try simp only [Act.put, List.setIfInBounds_toArray, List.set_cons_zero, List.set_cons_succ]
      refine GT.take (i := 14) (v := ?_) (by simp only [List.getElem?_toArray, List.getElem?_cons_zero, List.getElem?_cons_succ]; rfl) (by kernel_rfl) (by kernel_rfl) (by kernel_rfl) (by kernel_rfl) (by intro _ _ _ h; exact h) (Or.inl ⟨by rfl, ?_⟩) hHeld ?_
      rotate_left
      · intro V hV
        (try dsimp only at hV)
        (first | (go_simp; done) | (go_simp; with_reducible rfl))
      try simp only [Act.put, List.setIfInBounds_toArray, List.set_cons_zero, List.set_cons_succ]
      refine GT.step (i := 15) (by simp only [List.getElem?_toArray, List.getElem?_cons_zero, List.getElem?_cons_succ]; rfl) (by kernel_rfl) (by kernel_rfl) (fun K hK => ?_)
      go_simp
      go_at_call 92
      refine (HNC.out _ (Below.refl _ _).drew).mono ?_
      rintro e wv ⟨rfl, hv⟩
      have hvz := hv.size
      have hwz := HWZ.out
      go_wp2_with fail
      refine hK.out _ _ (HKP.out wv (hv.mono HWZ.out)) (fun hHeld => ?_)
      clear hK K
      try simp only [Act.put, List.setIfInBounds_toArray, List.set_cons_zero, List.set_cons_succ]
      refine GT.step (i := 16) (by simp only [List.getElem?_toArray, List.getElem?_cons_zero, List.getElem?_cons_succ]; rfl) (by kernel_rfl) (by kernel_rfl) (fun K hK => ?_)
      go_simp
      refine hK.out _ _ (HKP.out _ ((hv.mono HWZ.out).alloc (by omega) _)) (fun hHeld => ?_)
      clear hK K
      try simp only [Act.put, List.setIfInBounds_toArray, List.set_cons_zero, List.set_cons_succ]
      refine GT.take (i := 17) (v := ?_) (by simp only [List.getElem?_toArray, List.getElem?_cons_zero, List.getElem?_cons_succ]; rfl) (by kernel_rfl) (by kernel_rfl) (by kernel_rfl) (by kernel_rfl) (by intro _ _ _ h; exact h) (Or.inl ⟨by rfl, ?_⟩) hHeld ?_
      rotate_left
      · intro V hV
        (try dsimp only at hV)
        (first | (go_simp; done) | (go_simp; with_reducible rfl))
      try simp only [Act.put, List.setIfInBounds_toArray, List.set_cons_zero, List.set_cons_succ]
      refine GT.step (i := 18) (by simp only [List.getElem?_toArray, List.getElem?_cons_zero, List.getElem?_cons_succ]; rfl) (by kernel_rfl) (by kernel_rfl) (fun K hK => ?_)
      go_simp
      refine hK.out _ _ (HKP.out _ (((hv.mono HWZ.out).alloc (by omega) _).alloc (by simp; omega) _)) (fun hHeld => ?_)
      clear hK K
      try simp only [Act.put, List.setIfInBounds_toArray, List.set_cons_zero, List.set_cons_succ]
      refine GT.step (i := 19) (by simp only [List.getElem?_toArray, List.getElem?_cons_zero, List.getElem?_cons_succ]; rfl) (by kernel_rfl) (by kernel_rfl) (fun K hK => ?_)
      refine step_append_itemR (by rfl) (.tmp 14) (.tmp 31) (by rfl) (w.heap.size + 2) ((l.take k).map capIt) (by rfl) (HA3.out _ _ _ hv) (capIt (nm, ver)) (HY.out _ hv) _ (by rfl) (by simp) (by simp) (by simp) HLN.out (by simp; omega) ?_
      intro g' n' cap' w5 hn' hacc5 hgr hlo5
      have hv5 : Below (w.heap.size + 2) wr w5 := ((((hv.mono HWZ.out).alloc (by omega) _).alloc (by simp; omega) _).grown hgr (by simp; omega) (fun j hj => (HA.out.ge j hj).1))
      refine hK.out _ _ (HKP.out w5 hv5) (fun hHeld => ?_)
      clear hK K
      try simp only [Act.put, List.setIfInBounds_toArray, List.set_cons_zero, List.set_cons_succ]
      have hlw : w.heap.size + 1 < w5.heap.size := by have := hv5.size; omega
      refine GT.take (i := 20) (v := ?_) (by simp only [List.getElem?_toArray, List.getElem?_cons_zero, List.getElem?_cons_succ]; rfl) (by kernel_rfl) (by kernel_rfl) (by kernel_rfl) (by kernel_rfl) (by intro _ _ _ h; exact h) (Or.inl ⟨by rfl, ?_⟩) hHeld ?_
      rotate_left
      · intro V hV
        (try dsimp only at hV)
        (first | (go_simp; done) | (go_simp; with_reducible rfl))
      try simp only [Act.put, List.setIfInBounds_toArray, List.set_cons_zero, List.set_cons_succ]
      refine GT.last (i := 21) (by simp only [List.getElem?_toArray, List.getElem?_cons_zero, List.getElem?_cons_succ]; rfl) (by kernel_rfl) (by kernel_rfl) (by kernel_rfl) ?_
      obtain ⟨z0, z1, z2, z3, z4⟩ := hHeld
      go_simp
      all_goals
        have HA5 := Lib.hid hacc5
        have HON5 : Hid (Only [w.heap.size + 1] W1 w5) := Lib.hid ((((HON.out.trans ((Only.of_below hv (Nat.le_refl _)).mono (by simp))).alloc _).alloc _).grown hgr (fun j hj => .inr (by have := (HA.out.ge j hj).1; have := HZ1.out; omega)))
        have HK5 := Lib.hid (HKX.out.keep hv5 (by omega))
        clear hacc5 hgr hv5 hv
        go_wp2
        go_roundw
        case rel => exact ⟨k + 1, .slice (some ⟨g', 0, none⟩) n' cap', by omega, by go_num, Lib.hid (by rw [HTK.out]; exact HA5.out.only (L := [w.heap.size + 1]) ((Only.refl _ _).setCell (by simp) _) (by simp)), Lib.hid (HK5.out.set 2 _), Lib.hid (HON5.out.setCell (by simp) _)⟩
        case measure => simp [intOf]; omega
    · obtain rfl : k = n := by omega
      have hk1 := HP.out
      have hacl : ((l.take k).map capIt) = l.map capIt := by rw [List.take_of_length_le (by have := hn.out; omega)]
      rw [hacl] at HA hn5
      have hn16 : n5 ≤ 16 := by rw [hn5.out, List.length_map]; exact hk1.2.2.2.1
      have HIT := Lib.hid (HA.out.list (by rw [List.length_map]; omega)).toIn
      obtain ⟨X, hX⟩ : ∃ X, l.map capIt = X := ⟨_, rfl⟩
      rw [hX] at HA HIT hn5
      obtain ⟨T1, hT1⟩ : ∃ T1, numT least.toNat = T1 := ⟨_, rfl⟩
      obtain ⟨T2, hT2⟩ : ∃ T2, numT most.toNat = T2 := ⟨_, rfl⟩
      have hz1 : T1.size ≤ 8 := by rw [← hT1]; exact numT_size _ (by omega)
      have hz2 : T2.size ≤ 8 := by rw [← hT2]; exact numT_size _ (by omega)
      have HHI : Hid (helIt least most l = .mk ⟨#[]⟩ true [.mk T1 false [], .mk T2 false [], .mk ⟨#[]⟩ true X]) := Lib.hid (by rw [← hT1, ← hT2, ← hX]; rfl)
      have HN1 : Hid (∀ V, Below wr.heap.size wr V → Calls Tryd.prog 92 #[.int .i64 least] V fun e w' => e = .returned (.agg #[.string T1, .bool false, .slice none 0 0]) ∧ Below wr.heap.size wr w') := Lib.hid (fun V hV => by
        have := refNumI_c least V (by omega) (by omega)
        rw [hT1] at this
        exact this.mono fun e w' ⟨h1, h2⟩ => ⟨h1, hV.trans (h2.mono hV.size)⟩)
      have HN2 : Hid (∀ V, Below wr.heap.size wr V → Calls Tryd.prog 92 #[.int .i64 most] V fun e w' => e = .returned (.agg #[.string T2, .bool false, .slice none 0 0]) ∧ Below wr.heap.size wr w') := Lib.hid (fun V hV => by
        have := refNumI_c most V (by omega) (by omega)
        rw [hT2] at this
        exact this.mono fun e w' ⟨h1, h2⟩ => ⟨h1, hV.trans (h2.mono hV.size)⟩)
      have HPUT : Hid (∀ V, Below wr.heap.size wr V → Calls Tryd.prog 72 #[.agg #[.string ⟨#[]⟩, .bool true, .slice (some ⟨V.heap.size, 0, none⟩) 3 3]] (V.alloc (.cells #[.string T1, .bool false, .slice none 0 0, .string T2, .bool false, .slice none 0 0, .string ⟨#[]⟩, .bool true, .slice A5 n5 cap5] 27)) fun e w' => e = .returned (.string S) ∧ Below wr.heap.size wr w') := Lib.hid (fun V hV => by
        have hk := Blk.new V 27 #[.string T1, .bool false, .slice none 0 0, .string T2, .bool false, .slice none 0 0, .string ⟨#[]⟩, .bool true, .slice A5 n5 cap5]
        have hb : Below V.heap.size V (V.alloc (.cells #[.string T1, .bool false, .slice none 0 0, .string T2, .bool false, .slice none 0 0, .string ⟨#[]⟩, .bool true, .slice A5 n5 cap5] 27)) := (Below.refl _ V).alloc (Nat.le_refl _) _
        have hVz := hV.size
        have hi : ItIn (V.alloc (.cells #[.string T1, .bool false, .slice none 0 0, .string T2, .bool false, .slice none 0 0, .string ⟨#[]⟩, .bool true, .slice A5 n5 cap5] 27)) (V.heap.size + 1) (helIt least most l) (.string ⟨#[]⟩) (.bool true) (.slice (some ⟨V.heap.size, 0, none⟩) 3 3) := by
          rw [HHI.out]
          exact ⟨rfl, rfl, by simp [ByteArray.size], by simp, _, 3, rfl, by simp, by simp, ⟨_, _, _, _, _, rfl, by omega, hk.cell 0, hk.cell 1, hk.cell 2, ⟨rfl, rfl, by omega, by simp, none, 0, rfl, by simp, by simp, trivial⟩⟩, ⟨_, _, _, _, _, rfl, by omega, hk.cell 3, hk.cell 4, hk.cell 5, ⟨rfl, rfl, by omega, by simp, none, 0, rfl, by simp, by simp, trivial⟩⟩, ⟨_, _, _, _, _, rfl, by omega, hk.cell 6, hk.cell 7, hk.cell 8, ((HIT.out.below hV).below (hb.mono hVz)).mono (by omega)⟩, trivial⟩
        have := ref09Put_c (helIt least most l) (V.heap.size + 1) _ _ _ _ hi (by simp) (by have := helIt_rlp HHH.out; omega)
        rw [HS.out] at this
        exact this.mono fun e w' ⟨h1, h2⟩ => ⟨h1, (hV.trans (hb.mono hVz)).trans (h2.mono (by simp; omega))⟩)
      have HKQ : Hid (∀ V, Below wr.heap.size wr V → V.cell? ⟨w.heap.size, 0, none⟩ = some (.int .i64 least) ∧ V.cell? ⟨w.heap.size, 1, none⟩ = some (.int .i64 most) ∧ V.cell? ⟨w.heap.size + 1, 0, none⟩ = some (.string ⟨#[]⟩) ∧ V.cell? ⟨w.heap.size + 1, 1, none⟩ = some (.bool true) ∧ V.cell? ⟨w.heap.size + 1, 2, none⟩ = some (.slice A5 n5 cap5)) := Lib.hid (fun V hV => by
        have := HWZ.out
        exact ⟨(hV.cell (by simp; omega)).trans q0, (hV.cell (by simp; omega)).trans q1, (hV.cell (by simp; omega)).trans p0, (hV.cell (by simp; omega)).trans p1, (hV.cell (by simp; omega)).trans p2⟩)
      clear hacl hX hT1 hT2 hk1
      go_wp2_with fail
      obtain ⟨x0, x1, x2, x3, x4⟩ := HKQ.out wr (Below.refl _ _)
      go_region_held3 (fun V => V.cell? ⟨w.heap.size, 0, none⟩ = some (.int .i64 least) ∧ V.cell? ⟨w.heap.size, 1, none⟩ = some (.int .i64 most) ∧ V.cell? ⟨w.heap.size + 1, 0, none⟩ = some (.string ⟨#[]⟩) ∧ V.cell? ⟨w.heap.size + 1, 1, none⟩ = some (.bool true) ∧ V.cell? ⟨w.heap.size + 1, 2, none⟩ = some (.slice A5 n5 cap5))
        (first | exact HKQ.out _ (Below.refl _ _) | exact HKQ.out _ (Below.refl _ _).drew | exact HKQ.out _ hv3 | exact HKQ.out _ hv2 | exact HKQ.out _ hv | exact HKQ.out _ (hv2.alloc hv2.size _))
        (first | (go_at_call 92; ((with_reducible refine (HN1.out _ (by first | exact (Below.refl _ _).drew | exact Below.refl _ _)).mono ?_); rintro e w' ⟨rfl, hv⟩)) | (go_at_call 92; ((with_reducible refine (HN2.out _ hv).mono ?_); rintro e w2 ⟨rfl, hv2⟩)) | (go_at_call 72; ((with_reducible refine (HPUT.out _ hv2).mono ?_); rintro e w3 ⟨rfl, hv3⟩)))
      all_goals
        have HBE := Lib.hid (HBR.out.trans (hv3.mono HBR.out.size))
        go_wp2
        go_ret
        exact ⟨rfl, HBE.out⟩
end Go.Proofs.YtacikiambpfipaaDoor
