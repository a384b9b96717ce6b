/- hatchwaylaw27.HexesMessages: the line of any message, and the message of any line, or the errors, are the document's; both go back. -/
import Derived.Test.YtcidcjghglgkhaaMsgRead
import Derived.Test.YtcidcjghglgkhaaItemReads
import Derived.Test.YtcidcjghglgkhaaHexAlive
namespace Go.Proofs.Ytcidcjghglgkhaa
set_option linter.unusedVariables false
set_option linter.unusedSimpArgs false
open Go.RowKit

theorem name_sp {n : ByteArray} (h : nmMay n = true) : ∀ j (hj : j < n.data.toList.length), n.data.toList[j] ≠ 32 := by
  intro j hj e
  simp only [nmMay, Bool.and_eq_true, nameL, List.all_eq_true] at h
  have := h.1 _ (List.getElem_mem hj)
  rw [e] at this
  exact absurd this (by decide)
theorem msgL_list (n : ByteArray) (x : It) : (msgL n x).data.toList = n.data.toList ++ 32 :: x.show := by
  rw [msgL, toList_app, toList_app]; simp
theorem msgOf_line {n : ByteArray} {x : It} (hn : nmMay n = true) (hx : x.may = true) : msgOf (msgL n x) = some (n, x) := by
  have hl := msgL_list n x
  have hsz : (msgL n x).size = n.size + 1 + x.show.length := by rw [← toList_size, hl, List.length_append, toList_size, List.length_cons]; omega
  have hsp : spAt (msgL n x).data.toList = n.size := by
    rw [hl]
    refine spAt_stop (fun j hj hjk => ?_) (by simp) ?_
    · rw [List.getElem_append_left (by rw [toList_size]; exact hjk)]
      exact name_sp hn j _
    · rw [List.getElem_append_right (by simp)]; simp
  have h1 : (msgL n x).extract 0 n.size = n := bytes_ext (by rw [toList_cut, hl, List.drop_zero, ← toList_size, List.take_left])
  have h2 : ((msgL n x).extract (n.size + 1) (msgL n x).size).data.toList = x.show := by
    rw [toList_cut, take_all, hl, ← toList_size, List.drop_append, List.drop_eq_nil_of_le (by omega)]
    simp
  unfold msgOf
  rw [hsp, h1, h2, if_pos ⟨by omega, hn⟩, readIt_back x hx]
  rfl
theorem msgOf_back {s n : ByteArray} {x : It} (h : msgOf s = some (n, x)) : nmMay n = true ∧ x.may = true ∧ msgL n x = s := by
  unfold msgOf at h
  split at h
  · rename_i hc
    obtain ⟨y, hy, he⟩ := Option.map_eq_some_iff.1 h
    injection he with he1 he2
    subst he1; subst he2
    obtain ⟨h1, h2⟩ := readIt_show _ _ hy
    refine ⟨hc.2, h2, bytes_ext ?_⟩
    rw [msgL_list, ← h1, toList_cut, toList_cut, take_all, List.drop_zero]
    have hlt := hc.1
    have key : ∀ l : List UInt8, spAt l < l.length → l.take (spAt l) ++ 32 :: l.drop (spAt l + 1) = l := by
      intro l
      induction l with
      | nil => intro h; simp at h
      | cons c l ih =>
        intro h
        unfold spAt at h ⊢
        split
        · rename_i hc; subst hc; rfl
        · rename_i hc
          rw [if_neg hc] at h
          have := ih (by simpa using h)
          simp [this]
    exact key _ (by rw [toList_size]; exact hlt)
  · cases h
set_option maxRecDepth 100000 in
set_option maxHeartbeats 800000 in
theorem refSameM_yes (n : ByteArray) (x : It) (B : Nat) (w : World) (c0 c1 c2 d0 d1 d2 : Value) (h : ItIn w B x c0 c1 c2) (h' : ItIn w B x d0 d1 d2) (hB : B ≤ w.heap.size) :
    Calls Try.prog 45 #[.agg #[.string n, c0, c1, c2], .agg #[.string n, d0, d1, d2]] w fun e w' => e = .returned (.bool true) ∧ Below w.heap.size w w' := by
  obtain ⟨A, cap, rfl, rfl, rfl, _⟩ := h.open_
  obtain ⟨A', cap', rfl, rfl, rfl, _⟩ := h'.open_
  have hb0 : Below w.heap.size w ((w.alloc (.cells #[.string n, .string x.text, .bool x.list, .slice A x.sub.length cap] 65)).alloc (.cells #[.string n, .string x.text, .bool x.list, .slice A' x.sub.length cap'] 65)) := ((Below.refl _ w).alloc (Nat.le_refl _) _).alloc (by simp) _
  have HS := Lib.hid (refSame_c x B _ _ _ _ (h.below (hb0.mono hB)) (by simp; omega) x _ _ _ (h'.below (hb0.mono hB)))
  have HB0 := Lib.hid hb0
  have q1 : (n.toList == n.toList) = true := by simp
  clear hb0
  go_enter Try.func45, Try.ntmps45
  go_wp2_with fail
  refine HS.out.mono ?_
  rintro e w4 ⟨⟨r, rfl, hr⟩, hb4⟩
  obtain rfl : r = true := hr.2 rfl
  have HB4 : Hid (Below w.heap.size w w4) := Lib.hid (HB0.out.trans (hb4.mono (by simp; omega)))
  clear hr hb4
  go_wp2
  go_ret
  exact ⟨rfl, HB4.out⟩
set_option maxRecDepth 100000 in
set_option maxHeartbeats 6400000 in
theorem hexesMessages_w (n : ByteArray) (x : It) (c0 c1 c2 : Value) (s : ByteArray) (w : World) (hn : n.size ≤ maxLen) (h : ItIn w w.heap.size x c0 c1 c2) (hs : s.size ≤ maxLen) :
    Calls Try.prog 11 #[.agg #[.string n, c0, c1, c2], .string s] w fun e w' => e = .returned (.bool true) ∧ Below w.heap.size w w' := by
  unfold maxLen at hs hn
  obtain ⟨A, cap, rfl, rfl, rfl, _⟩ := h.open_
  obtain ⟨W0, hW0⟩ : ∃ W0, w.alloc (.cells #[.string n, .string x.text, .bool x.list, .slice A x.sub.length cap] 65) = W0 := ⟨_, rfl⟩
  have HA := Lib.hid (hexAlive_c W0)
  have HWW := Lib.hid hW0
  have HZ0 : Hid (W0.heap.size = w.heap.size + 1) := Lib.hid (by rw [← hW0]; simp)
  have HW0 : Hid (Below w.heap.size w W0) := Lib.hid (by rw [← hW0]; exact (Below.refl _ w).alloc (Nat.le_refl _) _)
  have HK0 : Hid (Blk W0 w.heap.size 65 #[.string n, .string x.text, .bool x.list, .slice A x.sub.length cap]) := Lib.hid (by rw [← hW0]; exact Blk.new w _ _)
  have HIN0 : Hid (ItIn W0 w.heap.size x (.string x.text) (.bool x.list) (.slice A x.sub.length cap)) := Lib.hid (h.below HW0.out)
  have FX : Hid (∀ V, Below (w.heap.size + 1) W0 V → V.cell? ⟨w.heap.size, 0, none⟩ = some (.string n) ∧ V.cell? ⟨w.heap.size, 1, none⟩ = some (.string x.text) ∧ V.cell? ⟨w.heap.size, 2, none⟩ = some (.bool x.list) ∧ V.cell? ⟨w.heap.size, 3, none⟩ = some (.slice A x.sub.length cap) ∧ Hid (ItIn V w.heap.size x (.string x.text) (.bool x.list) (.slice A x.sub.length cap) ∧ w.heap.size + 1 ≤ V.heap.size)) := Lib.hid (fun V hV => by
    obtain ⟨a0, a1, a2, a3⟩ := blk4 (HK0.out.keep hV (by omega))
    exact ⟨a0, a1, a2, a3, Lib.hid ⟨HIN0.out.below (hV.mono (by omega)), by have := hV.size; have := HZ0.out; omega⟩⟩)
  clear hW0 h
  by_cases h1 : 100 < n.size
  · go_enter Try.func11, Try.ntmps11
    go_wp2_with fail
    rw [HWW.out]
    refine HA.out.mono ?_
    rintro e w1 ⟨rfl, hb1⟩
    have K1 : Hid (Below (w.heap.size + 1) W0 w1) := Lib.hid (hb1.mono (by rw [HZ0.out]; exact Nat.le_refl _))
    clear hb1
    obtain ⟨m0, m1, m2, m3, HI1⟩ := FX.out w1 K1.out
    go_wp2
    go_ret
    exact ⟨rfl, HW0.out.trans (K1.out.mono (by omega))⟩
  · cases hg : x.great with
    | true =>
      go_enter Try.func11, Try.ntmps11
      go_wp2_with fail
      rw [HWW.out]
      refine HA.out.mono ?_
      rintro e w1 ⟨rfl, hb1⟩
      have K1 : Hid (Below (w.heap.size + 1) W0 w1) := Lib.hid (hb1.mono (by rw [HZ0.out]; exact Nat.le_refl _))
      clear hb1
      obtain ⟨m0, m1, m2, m3, HI1⟩ := FX.out w1 K1.out
      have HG := Lib.hid (great_c x w.heap.size w1 _ _ _ HI1.out.1 (by have := HI1.out.2; omega))
      rw [hg] at HG
      go_wp2_with fail
      refine HG.out.mono ?_
      rintro e w2 ⟨rfl, hb2⟩
      have K2 : Hid (Below (w.heap.size + 1) W0 w2) := Lib.hid (K1.out.trans (hb2.mono HI1.out.2))
      clear hb2
      go_wp2
      go_ret
      exact ⟨rfl, HW0.out.trans (K2.out.mono (by omega))⟩
    | false =>
      have hgs := great_show x hg
      have hgc := great_count x hg
      by_cases h2 : 2000 < s.size
      · go_enter Try.func11, Try.ntmps11
        go_wp2_with fail
        rw [HWW.out]
        refine HA.out.mono ?_
        rintro e w1 ⟨rfl, hb1⟩
        have K1 : Hid (Below (w.heap.size + 1) W0 w1) := Lib.hid (hb1.mono (by rw [HZ0.out]; exact Nat.le_refl _))
        clear hb1
        obtain ⟨m0, m1, m2, m3, HI1⟩ := FX.out w1 K1.out
        have HG := Lib.hid (great_c x w.heap.size w1 _ _ _ HI1.out.1 (by have := HI1.out.2; omega))
        rw [hg] at HG
        go_wp2_with fail
        refine HG.out.mono ?_
        rintro e w2 ⟨rfl, hb2⟩
        have K2 : Hid (Below (w.heap.size + 1) W0 w2) := Lib.hid (K1.out.trans (hb2.mono HI1.out.2))
        clear hb2
        go_wp2
        go_ret
        exact ⟨rfl, HW0.out.trans (K2.out.mono (by omega))⟩
      · have HML := Lib.hid (fun w => message_c s w (by omega))
        have HRL := Lib.hid (fun w => refMessage_c s w (by omega))
        have HBK := Lib.hid (fun n x => msgOf_back (s := s) (n := n) (x := x))
        have qs : (s.toList == s.toList) = true := by simp
        generalize msgOf s = R at *
        cases R with
        | none =>
          cases hnm : nmMay n with
          | false =>
            have HE0 : Hid (msgEnd n x = .returned (.tuple #[.string ⟨#[]⟩, .int .i64 11])) := Lib.hid (by simp [msgEnd, hnm])
            clear hnm
            go_enter Try.func11, Try.ntmps11
            go_wp2_with fail
            rw [HWW.out]
            refine HA.out.mono ?_
            rintro e w1 ⟨rfl, hb1⟩
            have K1 : Hid (Below (w.heap.size + 1) W0 w1) := Lib.hid (hb1.mono (by rw [HZ0.out]; exact Nat.le_refl _))
            clear hb1
            obtain ⟨m0, m1, m2, m3, HI1⟩ := FX.out w1 K1.out
            have HG := Lib.hid (great_c x w.heap.size w1 _ _ _ HI1.out.1 (by have := HI1.out.2; omega))
            rw [hg] at HG
            go_wp2_with fail
            refine HG.out.mono ?_
            rintro e w2 ⟨rfl, hb2⟩
            have K2 : Hid (Below (w.heap.size + 1) W0 w2) := Lib.hid (K1.out.trans (hb2.mono HI1.out.2))
            clear hb2 m0 m1 m2 m3
            obtain ⟨m0, m1, m2, m3, HI2⟩ := FX.out w2 K2.out
            have HS1 := Lib.hid (msgShow_c n x w.heap.size w2 _ _ _ HI2.out.1 (by have := HI2.out.2; omega) (by omega) (by omega))
            rw [HE0.out] at HS1
            go_wp2_with fail
            refine HS1.out.mono ?_
            rintro e w3 ⟨rfl, hb3⟩
            have K3 : Hid (Below (w.heap.size + 1) W0 w3) := Lib.hid (K2.out.trans (hb3.mono HI2.out.2))
            clear hb3 m0 m1 m2 m3
            obtain ⟨m0, m1, m2, m3, HI3⟩ := FX.out w3 K3.out
            have HS2 := Lib.hid (refShowM_c n x w.heap.size w3 _ _ _ HI3.out.1 (by have := HI3.out.2; omega) (by omega) (by omega) (by omega))
            rw [HE0.out] at HS2
            go_wp2_with fail
            refine HS2.out.mono ?_
            rintro e w4 ⟨rfl, hb4⟩
            have K4 : Hid (Below (w.heap.size + 1) W0 w4) := Lib.hid (K3.out.trans (hb4.mono HI3.out.2))
            clear hb4 m0 m1 m2 m3
            obtain ⟨m0, m1, m2, m3, HI4⟩ := FX.out w4 K4.out
            go_wp2_with fail
            refine (HML.out _).mono ?_
            rintro e wy ⟨hby, hend⟩
            have hend : e = _ := hend
            subst hend
            have KY : Hid (Below (w.heap.size + 1) W0 wy) := Lib.hid (K4.out.trans (hby.mono (by have := K4.out.size; have := HZ0.out; omega)))
            clear hby
            go_wp2_with fail
            refine (HRL.out _).mono ?_
            rintro e wz ⟨hbz, hend⟩
            have hend : e = _ := hend
            subst hend
            have hzz : wy.heap.size + 1 ≤ wz.heap.size := by have := hbz.size; simpa using this
            have KZ : Hid (Below (w.heap.size + 1) W0 wz) := Lib.hid ((KY.out.alloc (by have := KY.out.size; have := HZ0.out; omega) _).trans (hbz.mono (by have := KY.out.size; have := HZ0.out; simp; omega)))
            obtain ⟨y0, y1, y2, y3⟩ := blk4 ((Blk.new wy 65 #[.string ⟨#[]⟩, .string ⟨#[]⟩, .bool false, .slice none 0 0]).keep hbz (by simp))
            have HSM := Lib.hid (refSameM_yes ⟨#[]⟩ _ 0 (wz.alloc (.cells #[.string ⟨#[]⟩, .string ⟨#[]⟩, .bool false, .slice none 0 0] 65)) _ _ _ _ _ _ (zero_in _ _) (zero_in _ _) (Nat.zero_le _))
            have hlz : wy.heap.size < wz.heap.size := by omega
            clear hbz
            go_wp2_with fail
            refine HSM.out.mono ?_
            rintro e wt ⟨rfl, hbt⟩
            have KT : Hid (Below (w.heap.size + 1) W0 wt) := Lib.hid ((KZ.out.alloc (by have := KZ.out.size; have := HZ0.out; omega) _).trans (hbt.mono (by have := KZ.out.size; have := HZ0.out; simp; omega)))
            clear hbt
            go_wp2
            go_ret
            exact ⟨rfl, HW0.out.trans (KT.out.mono (by omega))⟩
          | true =>
            cases hxm : x.may with
            | false =>
              have HE0 : Hid (msgEnd n x = .returned (.tuple #[.string ⟨#[]⟩, .int .i64 1])) := Lib.hid (by simp [msgEnd, hnm, hxm])
              clear hnm hxm
              go_enter Try.func11, Try.ntmps11
              go_wp2_with fail
              rw [HWW.out]
              refine HA.out.mono ?_
              rintro e w1 ⟨rfl, hb1⟩
              have K1 : Hid (Below (w.heap.size + 1) W0 w1) := Lib.hid (hb1.mono (by rw [HZ0.out]; exact Nat.le_refl _))
              clear hb1
              obtain ⟨m0, m1, m2, m3, HI1⟩ := FX.out w1 K1.out
              have HG := Lib.hid (great_c x w.heap.size w1 _ _ _ HI1.out.1 (by have := HI1.out.2; omega))
              rw [hg] at HG
              go_wp2_with fail
              refine HG.out.mono ?_
              rintro e w2 ⟨rfl, hb2⟩
              have K2 : Hid (Below (w.heap.size + 1) W0 w2) := Lib.hid (K1.out.trans (hb2.mono HI1.out.2))
              clear hb2 m0 m1 m2 m3
              obtain ⟨m0, m1, m2, m3, HI2⟩ := FX.out w2 K2.out
              have HS1 := Lib.hid (msgShow_c n x w.heap.size w2 _ _ _ HI2.out.1 (by have := HI2.out.2; omega) (by omega) (by omega))
              rw [HE0.out] at HS1
              go_wp2_with fail
              refine HS1.out.mono ?_
              rintro e w3 ⟨rfl, hb3⟩
              have K3 : Hid (Below (w.heap.size + 1) W0 w3) := Lib.hid (K2.out.trans (hb3.mono HI2.out.2))
              clear hb3 m0 m1 m2 m3
              obtain ⟨m0, m1, m2, m3, HI3⟩ := FX.out w3 K3.out
              have HS2 := Lib.hid (refShowM_c n x w.heap.size w3 _ _ _ HI3.out.1 (by have := HI3.out.2; omega) (by omega) (by omega) (by omega))
              rw [HE0.out] at HS2
              go_wp2_with fail
              refine HS2.out.mono ?_
              rintro e w4 ⟨rfl, hb4⟩
              have K4 : Hid (Below (w.heap.size + 1) W0 w4) := Lib.hid (K3.out.trans (hb4.mono HI3.out.2))
              clear hb4 m0 m1 m2 m3
              obtain ⟨m0, m1, m2, m3, HI4⟩ := FX.out w4 K4.out
              go_wp2_with fail
              refine (HML.out _).mono ?_
              rintro e wy ⟨hby, hend⟩
              have hend : e = _ := hend
              subst hend
              have KY : Hid (Below (w.heap.size + 1) W0 wy) := Lib.hid (K4.out.trans (hby.mono (by have := K4.out.size; have := HZ0.out; omega)))
              clear hby
              go_wp2_with fail
              refine (HRL.out _).mono ?_
              rintro e wz ⟨hbz, hend⟩
              have hend : e = _ := hend
              subst hend
              have hzz : wy.heap.size + 1 ≤ wz.heap.size := by have := hbz.size; simpa using this
              have KZ : Hid (Below (w.heap.size + 1) W0 wz) := Lib.hid ((KY.out.alloc (by have := KY.out.size; have := HZ0.out; omega) _).trans (hbz.mono (by have := KY.out.size; have := HZ0.out; simp; omega)))
              obtain ⟨y0, y1, y2, y3⟩ := blk4 ((Blk.new wy 65 #[.string ⟨#[]⟩, .string ⟨#[]⟩, .bool false, .slice none 0 0]).keep hbz (by simp))
              have HSM := Lib.hid (refSameM_yes ⟨#[]⟩ _ 0 (wz.alloc (.cells #[.string ⟨#[]⟩, .string ⟨#[]⟩, .bool false, .slice none 0 0] 65)) _ _ _ _ _ _ (zero_in _ _) (zero_in _ _) (Nat.zero_le _))
              have hlz : wy.heap.size < wz.heap.size := by omega
              clear hbz
              go_wp2_with fail
              refine HSM.out.mono ?_
              rintro e wt ⟨rfl, hbt⟩
              have KT : Hid (Below (w.heap.size + 1) W0 wt) := Lib.hid ((KZ.out.alloc (by have := KZ.out.size; have := HZ0.out; omega) _).trans (hbt.mono (by have := KZ.out.size; have := HZ0.out; simp; omega)))
              clear hbt
              go_wp2
              go_ret
              exact ⟨rfl, HW0.out.trans (KT.out.mono (by omega))⟩
            | true =>
              have HE0 : Hid (msgEnd n x = .returned (.tuple #[.string (msgL n x), .int .i64 0])) := Lib.hid (by simp [msgEnd, hnm, hxm])
              have hml : (msgL n x).size ≤ 30000 := by
                rw [← toList_size, msgL_list, List.length_append, List.length_cons, toList_size]; omega
              have HM0 := Lib.hid (fun w => message_c (msgL n x) w (by omega))
              rw [msgOf_line hnm hxm] at HM0
              generalize msgL n x = Y at *
              have qy1 : (Y.toList == Y.toList) = true := by simp
              have qy2 : (Y.toList != Y.toList) = false := by simp
              clear hnm hxm
              go_enter Try.func11, Try.ntmps11
              go_wp2_with fail
              rw [HWW.out]
              refine HA.out.mono ?_
              rintro e w1 ⟨rfl, hb1⟩
              have K1 : Hid (Below (w.heap.size + 1) W0 w1) := Lib.hid (hb1.mono (by rw [HZ0.out]; exact Nat.le_refl _))
              clear hb1
              obtain ⟨m0, m1, m2, m3, HI1⟩ := FX.out w1 K1.out
              have HG := Lib.hid (great_c x w.heap.size w1 _ _ _ HI1.out.1 (by have := HI1.out.2; omega))
              rw [hg] at HG
              go_wp2_with fail
              refine HG.out.mono ?_
              rintro e w2 ⟨rfl, hb2⟩
              have K2 : Hid (Below (w.heap.size + 1) W0 w2) := Lib.hid (K1.out.trans (hb2.mono HI1.out.2))
              clear hb2 m0 m1 m2 m3
              obtain ⟨m0, m1, m2, m3, HI2⟩ := FX.out w2 K2.out
              have HS1 := Lib.hid (msgShow_c n x w.heap.size w2 _ _ _ HI2.out.1 (by have := HI2.out.2; omega) (by omega) (by omega))
              rw [HE0.out] at HS1
              go_wp2_with fail
              refine HS1.out.mono ?_
              rintro e w3 ⟨rfl, hb3⟩
              have K3 : Hid (Below (w.heap.size + 1) W0 w3) := Lib.hid (K2.out.trans (hb3.mono HI2.out.2))
              clear hb3 m0 m1 m2 m3
              obtain ⟨m0, m1, m2, m3, HI3⟩ := FX.out w3 K3.out
              have HS2 := Lib.hid (refShowM_c n x w.heap.size w3 _ _ _ HI3.out.1 (by have := HI3.out.2; omega) (by omega) (by omega) (by omega))
              rw [HE0.out] at HS2
              go_wp2_with fail
              refine HS2.out.mono ?_
              rintro e w4 ⟨rfl, hb4⟩
              have K4 : Hid (Below (w.heap.size + 1) W0 w4) := Lib.hid (K3.out.trans (hb4.mono HI3.out.2))
              clear hb4 m0 m1 m2 m3
              obtain ⟨m0, m1, m2, m3, HI4⟩ := FX.out w4 K4.out
              go_wp2_with fail
              refine (HM0.out _).mono ?_
              rintro e w5 ⟨hb5, hend5⟩
              obtain ⟨q0, q1', q2', rfl, hq⟩ := hend5
              have HQ := Lib.hid hq
              obtain ⟨AQ, capQ, rfl, rfl, rfl, _⟩ := hq.open_
              have K5 : Hid (Below (w.heap.size + 1) W0 w5) := Lib.hid (K4.out.trans (hb5.mono HI4.out.2))
              clear hb5 hq m0 m1 m2 m3
              obtain ⟨m0, m1, m2, m3, HI5⟩ := FX.out w5 K5.out
              have hl5 : w.heap.size < w5.heap.size := by have := HI5.out.2; omega
              have HSQ := Lib.hid (refSameM_yes n x _ (w5.alloc (.cells #[.string n, .string x.text, .bool x.list, .slice AQ x.sub.length capQ] 65)) _ _ _ _ _ _ (HQ.out.below ((Below.refl _ _).alloc (Nat.le_refl _) _)).toIn (((HI5.out.1.below ((Below.refl _ _).alloc (by omega) _)).mono (by simp; omega))) (Nat.le_refl _))
              go_wp2_with fail
              refine HSQ.out.mono ?_
              rintro e w6 ⟨rfl, hb6⟩
              have K6 : Hid (Below (w.heap.size + 1) W0 w6) := Lib.hid ((K5.out.alloc (by have := K5.out.size; have := HZ0.out; omega) _).trans (hb6.mono (by have := K5.out.size; have := HZ0.out; simp; omega)))
              clear hb6
              go_wp2_with fail
              refine (HML.out _).mono ?_
              rintro e wy ⟨hby, hend⟩
              have hend : e = _ := hend
              subst hend
              have KY : Hid (Below (w.heap.size + 1) W0 wy) := Lib.hid (K6.out.trans (hby.mono (by have := K6.out.size; have := HZ0.out; omega)))
              clear hby
              go_wp2_with fail
              refine (HRL.out _).mono ?_
              rintro e wz ⟨hbz, hend⟩
              have hend : e = _ := hend
              subst hend
              have hzz : wy.heap.size + 1 ≤ wz.heap.size := by have := hbz.size; simpa using this
              have KZ : Hid (Below (w.heap.size + 1) W0 wz) := Lib.hid ((KY.out.alloc (by have := KY.out.size; have := HZ0.out; omega) _).trans (hbz.mono (by have := KY.out.size; have := HZ0.out; simp; omega)))
              obtain ⟨y0, y1, y2, y3⟩ := blk4 ((Blk.new wy 65 #[.string ⟨#[]⟩, .string ⟨#[]⟩, .bool false, .slice none 0 0]).keep hbz (by simp))
              have HSM := Lib.hid (refSameM_yes ⟨#[]⟩ _ 0 (wz.alloc (.cells #[.string ⟨#[]⟩, .string ⟨#[]⟩, .bool false, .slice none 0 0] 65)) _ _ _ _ _ _ (zero_in _ _) (zero_in _ _) (Nat.zero_le _))
              have hlz : wy.heap.size < wz.heap.size := by omega
              clear hbz
              go_wp2_with fail
              refine HSM.out.mono ?_
              rintro e wt ⟨rfl, hbt⟩
              have KT : Hid (Below (w.heap.size + 1) W0 wt) := Lib.hid ((KZ.out.alloc (by have := KZ.out.size; have := HZ0.out; omega) _).trans (hbt.mono (by have := KZ.out.size; have := HZ0.out; simp; omega)))
              clear hbt
              go_wp2
              go_ret
              exact ⟨rfl, HW0.out.trans (KT.out.mono (by omega))⟩
        | some z =>
          obtain ⟨N, X⟩ := z
          obtain ⟨b1, b2, b3⟩ := HBK.out N X rfl
          have hbl := congrArg (fun t : ByteArray => t.data.toList.length) b3
          simp only [msgL_list, List.length_append, List.length_cons, toList_size] at hbl
          have HNX : Hid (N.size ≤ 2000 ∧ X.show.length ≤ 2000) := Lib.hid ⟨by omega, by omega⟩
          have HME : Hid (msgEnd N X = .returned (.tuple #[.string s, .int .i64 0])) := Lib.hid (by simp [msgEnd, b1, b2, b3])
          clear b1 b2 b3 hbl HBK
          cases hnm : nmMay n with
          | false =>
            have HE0 : Hid (msgEnd n x = .returned (.tuple #[.string ⟨#[]⟩, .int .i64 11])) := Lib.hid (by simp [msgEnd, hnm])
            clear hnm
            go_enter Try.func11, Try.ntmps11
            go_wp2_with fail
            rw [HWW.out]
            refine HA.out.mono ?_
            rintro e w1 ⟨rfl, hb1⟩
            have K1 : Hid (Below (w.heap.size + 1) W0 w1) := Lib.hid (hb1.mono (by rw [HZ0.out]; exact Nat.le_refl _))
            clear hb1
            obtain ⟨m0, m1, m2, m3, HI1⟩ := FX.out w1 K1.out
            have HG := Lib.hid (great_c x w.heap.size w1 _ _ _ HI1.out.1 (by have := HI1.out.2; omega))
            rw [hg] at HG
            go_wp2_with fail
            refine HG.out.mono ?_
            rintro e w2 ⟨rfl, hb2⟩
            have K2 : Hid (Below (w.heap.size + 1) W0 w2) := Lib.hid (K1.out.trans (hb2.mono HI1.out.2))
            clear hb2 m0 m1 m2 m3
            obtain ⟨m0, m1, m2, m3, HI2⟩ := FX.out w2 K2.out
            have HS1 := Lib.hid (msgShow_c n x w.heap.size w2 _ _ _ HI2.out.1 (by have := HI2.out.2; omega) (by omega) (by omega))
            rw [HE0.out] at HS1
            go_wp2_with fail
            refine HS1.out.mono ?_
            rintro e w3 ⟨rfl, hb3⟩
            have K3 : Hid (Below (w.heap.size + 1) W0 w3) := Lib.hid (K2.out.trans (hb3.mono HI2.out.2))
            clear hb3 m0 m1 m2 m3
            obtain ⟨m0, m1, m2, m3, HI3⟩ := FX.out w3 K3.out
            have HS2 := Lib.hid (refShowM_c n x w.heap.size w3 _ _ _ HI3.out.1 (by have := HI3.out.2; omega) (by omega) (by omega) (by omega))
            rw [HE0.out] at HS2
            go_wp2_with fail
            refine HS2.out.mono ?_
            rintro e w4 ⟨rfl, hb4⟩
            have K4 : Hid (Below (w.heap.size + 1) W0 w4) := Lib.hid (K3.out.trans (hb4.mono HI3.out.2))
            clear hb4 m0 m1 m2 m3
            obtain ⟨m0, m1, m2, m3, HI4⟩ := FX.out w4 K4.out
            go_wp2_with fail
            refine (HML.out _).mono ?_
            rintro e wy ⟨hby, hend⟩
            obtain ⟨p0, p1, p2, rfl, hy⟩ := hend
            have HY := Lib.hid hy
            obtain ⟨AY, capY, rfl, rfl, rfl, _⟩ := hy.open_
            have KY : Hid (Below (w.heap.size + 1) W0 wy) := Lib.hid (K4.out.trans (hby.mono (by have := K4.out.size; have := HZ0.out; omega)))
            clear hby hy
            go_wp2_with fail
            refine (HRL.out _).mono ?_
            rintro e wz ⟨hbz, hend⟩
            obtain ⟨r0, r1, r2, rfl, hz⟩ := hend
            have HZ := Lib.hid hz
            obtain ⟨AZ, capZ, rfl, rfl, rfl, _⟩ := hz.open_
            have hzz : wy.heap.size + 1 ≤ wz.heap.size := by have := hbz.size; simpa using this
            have KZ : Hid (Below (w.heap.size + 1) W0 wz) := Lib.hid ((KY.out.alloc (by have := KY.out.size; have := HZ0.out; omega) _).trans (hbz.mono (by have := KY.out.size; have := HZ0.out; simp; omega)))
            have HBY : Hid (Blk wz wy.heap.size 65 #[.string N, .string X.text, .bool X.list, .slice AY X.sub.length capY]) := Lib.hid ((Blk.new wy 65 #[.string N, .string X.text, .bool X.list, .slice AY X.sub.length capY]).keep hbz (by simp))
            obtain ⟨y0, y1, y2, y3⟩ := blk4 HBY.out
            have HYZ : Hid (ItS wz (w4.heap.size ≤ ·) X (.string X.text) (.bool X.list) (.slice AY X.sub.length capY)) := Lib.hid ((HY.out.below ((Below.refl _ _).alloc (Nat.le_refl _) _)).below hbz)
            have HSM := Lib.hid (refSameM_yes N X _ (wz.alloc (.cells #[.string N, .string X.text, .bool X.list, .slice AZ X.sub.length capZ] 65)) _ _ _ _ _ _ (HYZ.out.below ((Below.refl _ _).alloc (Nat.le_refl _) _)).toIn (HZ.out.below ((Below.refl _ _).alloc (Nat.le_refl _) _)).toIn (Nat.le_refl _))
            have hlz : wy.heap.size < wz.heap.size := by omega
            clear hbz hz
            go_wp2_with fail
            refine HSM.out.mono ?_
            rintro e wt ⟨rfl, hbt⟩
            have KT : Hid (Below (w.heap.size + 1) W0 wt) := Lib.hid ((KZ.out.alloc (by have := KZ.out.size; have := HZ0.out; omega) _).trans (hbt.mono (by have := KZ.out.size; have := HZ0.out; simp; omega)))
            have HSH := Lib.hid (msgShow_c N X wt.heap.size wt _ _ _ ((HYZ.out.below ((Below.refl _ _).alloc (Nat.le_refl _) _)).below hbt).toIn (Nat.le_refl _) (by have := HNX.out; omega) (by have := HNX.out; omega))
            rw [HME.out] at HSH
            clear y0 y1 y2 y3
            obtain ⟨y0, y1, y2, y3⟩ := blk4 ((HBY.out.alloc _).keep hbt (by simp; omega))
            clear hbt
            go_wp2_with fail
            refine HSH.out.mono ?_
            rintro e wu ⟨rfl, hbu⟩
            have KU : Hid (Below (w.heap.size + 1) W0 wu) := Lib.hid (KT.out.trans (hbu.mono (by have := KT.out.size; have := HZ0.out; omega)))
            clear hbu
            go_wp2
            go_ret
            exact ⟨rfl, HW0.out.trans (KU.out.mono (by omega))⟩
          | true =>
            cases hxm : x.may with
            | false =>
              have HE0 : Hid (msgEnd n x = .returned (.tuple #[.string ⟨#[]⟩, .int .i64 1])) := Lib.hid (by simp [msgEnd, hnm, hxm])
              clear hnm hxm
              go_enter Try.func11, Try.ntmps11
              go_wp2_with fail
              rw [HWW.out]
              refine HA.out.mono ?_
              rintro e w1 ⟨rfl, hb1⟩
              have K1 : Hid (Below (w.heap.size + 1) W0 w1) := Lib.hid (hb1.mono (by rw [HZ0.out]; exact Nat.le_refl _))
              clear hb1
              obtain ⟨m0, m1, m2, m3, HI1⟩ := FX.out w1 K1.out
              have HG := Lib.hid (great_c x w.heap.size w1 _ _ _ HI1.out.1 (by have := HI1.out.2; omega))
              rw [hg] at HG
              go_wp2_with fail
              refine HG.out.mono ?_
              rintro e w2 ⟨rfl, hb2⟩
              have K2 : Hid (Below (w.heap.size + 1) W0 w2) := Lib.hid (K1.out.trans (hb2.mono HI1.out.2))
              clear hb2 m0 m1 m2 m3
              obtain ⟨m0, m1, m2, m3, HI2⟩ := FX.out w2 K2.out
              have HS1 := Lib.hid (msgShow_c n x w.heap.size w2 _ _ _ HI2.out.1 (by have := HI2.out.2; omega) (by omega) (by omega))
              rw [HE0.out] at HS1
              go_wp2_with fail
              refine HS1.out.mono ?_
              rintro e w3 ⟨rfl, hb3⟩
              have K3 : Hid (Below (w.heap.size + 1) W0 w3) := Lib.hid (K2.out.trans (hb3.mono HI2.out.2))
              clear hb3 m0 m1 m2 m3
              obtain ⟨m0, m1, m2, m3, HI3⟩ := FX.out w3 K3.out
              have HS2 := Lib.hid (refShowM_c n x w.heap.size w3 _ _ _ HI3.out.1 (by have := HI3.out.2; omega) (by omega) (by omega) (by omega))
              rw [HE0.out] at HS2
              go_wp2_with fail
              refine HS2.out.mono ?_
              rintro e w4 ⟨rfl, hb4⟩
              have K4 : Hid (Below (w.heap.size + 1) W0 w4) := Lib.hid (K3.out.trans (hb4.mono HI3.out.2))
              clear hb4 m0 m1 m2 m3
              obtain ⟨m0, m1, m2, m3, HI4⟩ := FX.out w4 K4.out
              go_wp2_with fail
              refine (HML.out _).mono ?_
              rintro e wy ⟨hby, hend⟩
              obtain ⟨p0, p1, p2, rfl, hy⟩ := hend
              have HY := Lib.hid hy
              obtain ⟨AY, capY, rfl, rfl, rfl, _⟩ := hy.open_
              have KY : Hid (Below (w.heap.size + 1) W0 wy) := Lib.hid (K4.out.trans (hby.mono (by have := K4.out.size; have := HZ0.out; omega)))
              clear hby hy
              go_wp2_with fail
              refine (HRL.out _).mono ?_
              rintro e wz ⟨hbz, hend⟩
              obtain ⟨r0, r1, r2, rfl, hz⟩ := hend
              have HZ := Lib.hid hz
              obtain ⟨AZ, capZ, rfl, rfl, rfl, _⟩ := hz.open_
              have hzz : wy.heap.size + 1 ≤ wz.heap.size := by have := hbz.size; simpa using this
              have KZ : Hid (Below (w.heap.size + 1) W0 wz) := Lib.hid ((KY.out.alloc (by have := KY.out.size; have := HZ0.out; omega) _).trans (hbz.mono (by have := KY.out.size; have := HZ0.out; simp; omega)))
              have HBY : Hid (Blk wz wy.heap.size 65 #[.string N, .string X.text, .bool X.list, .slice AY X.sub.length capY]) := Lib.hid ((Blk.new wy 65 #[.string N, .string X.text, .bool X.list, .slice AY X.sub.length capY]).keep hbz (by simp))
              obtain ⟨y0, y1, y2, y3⟩ := blk4 HBY.out
              have HYZ : Hid (ItS wz (w4.heap.size ≤ ·) X (.string X.text) (.bool X.list) (.slice AY X.sub.length capY)) := Lib.hid ((HY.out.below ((Below.refl _ _).alloc (Nat.le_refl _) _)).below hbz)
              have HSM := Lib.hid (refSameM_yes N X _ (wz.alloc (.cells #[.string N, .string X.text, .bool X.list, .slice AZ X.sub.length capZ] 65)) _ _ _ _ _ _ (HYZ.out.below ((Below.refl _ _).alloc (Nat.le_refl _) _)).toIn (HZ.out.below ((Below.refl _ _).alloc (Nat.le_refl _) _)).toIn (Nat.le_refl _))
              have hlz : wy.heap.size < wz.heap.size := by omega
              clear hbz hz
              go_wp2_with fail
              refine HSM.out.mono ?_
              rintro e wt ⟨rfl, hbt⟩
              have KT : Hid (Below (w.heap.size + 1) W0 wt) := Lib.hid ((KZ.out.alloc (by have := KZ.out.size; have := HZ0.out; omega) _).trans (hbt.mono (by have := KZ.out.size; have := HZ0.out; simp; omega)))
              have HSH := Lib.hid (msgShow_c N X wt.heap.size wt _ _ _ ((HYZ.out.below ((Below.refl _ _).alloc (Nat.le_refl _) _)).below hbt).toIn (Nat.le_refl _) (by have := HNX.out; omega) (by have := HNX.out; omega))
              rw [HME.out] at HSH
              clear y0 y1 y2 y3
              obtain ⟨y0, y1, y2, y3⟩ := blk4 ((HBY.out.alloc _).keep hbt (by simp; omega))
              clear hbt
              go_wp2_with fail
              refine HSH.out.mono ?_
              rintro e wu ⟨rfl, hbu⟩
              have KU : Hid (Below (w.heap.size + 1) W0 wu) := Lib.hid (KT.out.trans (hbu.mono (by have := KT.out.size; have := HZ0.out; omega)))
              clear hbu
              go_wp2
              go_ret
              exact ⟨rfl, HW0.out.trans (KU.out.mono (by omega))⟩
            | true =>
              have HE0 : Hid (msgEnd n x = .returned (.tuple #[.string (msgL n x), .int .i64 0])) := Lib.hid (by simp [msgEnd, hnm, hxm])
              have hml : (msgL n x).size ≤ 30000 := by
                rw [← toList_size, msgL_list, List.length_append, List.length_cons, toList_size]; omega
              have HM0 := Lib.hid (fun w => message_c (msgL n x) w (by omega))
              rw [msgOf_line hnm hxm] at HM0
              generalize msgL n x = Y at *
              have qy1 : (Y.toList == Y.toList) = true := by simp
              have qy2 : (Y.toList != Y.toList) = false := by simp
              clear hnm hxm
              go_enter Try.func11, Try.ntmps11
              go_wp2_with fail
              rw [HWW.out]
              refine HA.out.mono ?_
              rintro e w1 ⟨rfl, hb1⟩
              have K1 : Hid (Below (w.heap.size + 1) W0 w1) := Lib.hid (hb1.mono (by rw [HZ0.out]; exact Nat.le_refl _))
              clear hb1
              obtain ⟨m0, m1, m2, m3, HI1⟩ := FX.out w1 K1.out
              have HG := Lib.hid (great_c x w.heap.size w1 _ _ _ HI1.out.1 (by have := HI1.out.2; omega))
              rw [hg] at HG
              go_wp2_with fail
              refine HG.out.mono ?_
              rintro e w2 ⟨rfl, hb2⟩
              have K2 : Hid (Below (w.heap.size + 1) W0 w2) := Lib.hid (K1.out.trans (hb2.mono HI1.out.2))
              clear hb2 m0 m1 m2 m3
              obtain ⟨m0, m1, m2, m3, HI2⟩ := FX.out w2 K2.out
              have HS1 := Lib.hid (msgShow_c n x w.heap.size w2 _ _ _ HI2.out.1 (by have := HI2.out.2; omega) (by omega) (by omega))
              rw [HE0.out] at HS1
              go_wp2_with fail
              refine HS1.out.mono ?_
              rintro e w3 ⟨rfl, hb3⟩
              have K3 : Hid (Below (w.heap.size + 1) W0 w3) := Lib.hid (K2.out.trans (hb3.mono HI2.out.2))
              clear hb3 m0 m1 m2 m3
              obtain ⟨m0, m1, m2, m3, HI3⟩ := FX.out w3 K3.out
              have HS2 := Lib.hid (refShowM_c n x w.heap.size w3 _ _ _ HI3.out.1 (by have := HI3.out.2; omega) (by omega) (by omega) (by omega))
              rw [HE0.out] at HS2
              go_wp2_with fail
              refine HS2.out.mono ?_
              rintro e w4 ⟨rfl, hb4⟩
              have K4 : Hid (Below (w.heap.size + 1) W0 w4) := Lib.hid (K3.out.trans (hb4.mono HI3.out.2))
              clear hb4 m0 m1 m2 m3
              obtain ⟨m0, m1, m2, m3, HI4⟩ := FX.out w4 K4.out
              go_wp2_with fail
              refine (HM0.out _).mono ?_
              rintro e w5 ⟨hb5, hend5⟩
              obtain ⟨q0, q1', q2', rfl, hq⟩ := hend5
              have HQ := Lib.hid hq
              obtain ⟨AQ, capQ, rfl, rfl, rfl, _⟩ := hq.open_
              have K5 : Hid (Below (w.heap.size + 1) W0 w5) := Lib.hid (K4.out.trans (hb5.mono HI4.out.2))
              clear hb5 hq m0 m1 m2 m3
              obtain ⟨m0, m1, m2, m3, HI5⟩ := FX.out w5 K5.out
              have hl5 : w.heap.size < w5.heap.size := by have := HI5.out.2; omega
              have HSQ := Lib.hid (refSameM_yes n x _ (w5.alloc (.cells #[.string n, .string x.text, .bool x.list, .slice AQ x.sub.length capQ] 65)) _ _ _ _ _ _ (HQ.out.below ((Below.refl _ _).alloc (Nat.le_refl _) _)).toIn (((HI5.out.1.below ((Below.refl _ _).alloc (by omega) _)).mono (by simp; omega))) (Nat.le_refl _))
              go_wp2_with fail
              refine HSQ.out.mono ?_
              rintro e w6 ⟨rfl, hb6⟩
              have K6 : Hid (Below (w.heap.size + 1) W0 w6) := Lib.hid ((K5.out.alloc (by have := K5.out.size; have := HZ0.out; omega) _).trans (hb6.mono (by have := K5.out.size; have := HZ0.out; simp; omega)))
              clear hb6
              go_wp2_with fail
              refine (HML.out _).mono ?_
              rintro e wy ⟨hby, hend⟩
              obtain ⟨p0, p1, p2, rfl, hy⟩ := hend
              have HY := Lib.hid hy
              obtain ⟨AY, capY, rfl, rfl, rfl, _⟩ := hy.open_
              have KY : Hid (Below (w.heap.size + 1) W0 wy) := Lib.hid (K6.out.trans (hby.mono (by have := K6.out.size; have := HZ0.out; omega)))
              clear hby hy
              go_wp2_with fail
              refine (HRL.out _).mono ?_
              rintro e wz ⟨hbz, hend⟩
              obtain ⟨r0, r1, r2, rfl, hz⟩ := hend
              have HZ := Lib.hid hz
              obtain ⟨AZ, capZ, rfl, rfl, rfl, _⟩ := hz.open_
              have hzz : wy.heap.size + 1 ≤ wz.heap.size := by have := hbz.size; simpa using this
              have KZ : Hid (Below (w.heap.size + 1) W0 wz) := Lib.hid ((KY.out.alloc (by have := KY.out.size; have := HZ0.out; omega) _).trans (hbz.mono (by have := KY.out.size; have := HZ0.out; simp; omega)))
              have HBY : Hid (Blk wz wy.heap.size 65 #[.string N, .string X.text, .bool X.list, .slice AY X.sub.length capY]) := Lib.hid ((Blk.new wy 65 #[.string N, .string X.text, .bool X.list, .slice AY X.sub.length capY]).keep hbz (by simp))
              obtain ⟨y0, y1, y2, y3⟩ := blk4 HBY.out
              have HYZ : Hid (ItS wz (w6.heap.size ≤ ·) X (.string X.text) (.bool X.list) (.slice AY X.sub.length capY)) := Lib.hid ((HY.out.below ((Below.refl _ _).alloc (Nat.le_refl _) _)).below hbz)
              have HSM := Lib.hid (refSameM_yes N X _ (wz.alloc (.cells #[.string N, .string X.text, .bool X.list, .slice AZ X.sub.length capZ] 65)) _ _ _ _ _ _ (HYZ.out.below ((Below.refl _ _).alloc (Nat.le_refl _) _)).toIn (HZ.out.below ((Below.refl _ _).alloc (Nat.le_refl _) _)).toIn (Nat.le_refl _))
              have hlz : wy.heap.size < wz.heap.size := by omega
              clear hbz hz
              go_wp2_with fail
              refine HSM.out.mono ?_
              rintro e wt ⟨rfl, hbt⟩
              have KT : Hid (Below (w.heap.size + 1) W0 wt) := Lib.hid ((KZ.out.alloc (by have := KZ.out.size; have := HZ0.out; omega) _).trans (hbt.mono (by have := KZ.out.size; have := HZ0.out; simp; omega)))
              have HSH := Lib.hid (msgShow_c N X wt.heap.size wt _ _ _ ((HYZ.out.below ((Below.refl _ _).alloc (Nat.le_refl _) _)).below hbt).toIn (Nat.le_refl _) (by have := HNX.out; omega) (by have := HNX.out; omega))
              rw [HME.out] at HSH
              clear y0 y1 y2 y3
              obtain ⟨y0, y1, y2, y3⟩ := blk4 ((HBY.out.alloc _).keep hbt (by simp; omega))
              clear hbt
              go_wp2_with fail
              refine HSH.out.mono ?_
              rintro e wu ⟨rfl, hbu⟩
              have KU : Hid (Below (w.heap.size + 1) W0 wu) := Lib.hid (KT.out.trans (hbu.mono (by have := KT.out.size; have := HZ0.out; omega)))
              clear hbu
              go_wp2
              go_ret
              exact ⟨rfl, HW0.out.trans (KU.out.mono (by omega))⟩
theorem hexesMessages_w2 (n : ByteArray) (x : It) (c0 c1 c2 : Value) (s : ByteArray) (w : World) (h : n.size ≤ maxLen ∧ ItIn w w.heap.size x c0 c1 c2) (hs : s.size ≤ maxLen) :
    Calls Try.prog 11 #[.agg #[.string n, c0, c1, c2], .string s] w fun e w' => e = .returned (.bool true) ∧ Below w.heap.size w w' := hexesMessages_w n x c0 c1 c2 s w h.1 h.2 hs
end Go.Proofs.Ytcidcjghglgkhaa
