/- hello.Put. -/
import Derived.Test.YtacikiambpfipaaDoorKA10
import Derived.Test.YtacikiambpfipaaDoorKA5
import Derived.Test.YtacikiambpfipaaDoorKCapMay
import Derived.Test.YtacikiambpfipaaDoorKRlpPut
import Derived.Test.YtacikiambpfipaaDoorKItemS
import Derived.Deep.RegionHeld3
namespace Go.Proofs.YtacikiambpfipaaDoor
set_option linter.unusedVariables false
set_option linter.unusedSimpArgs false
open Go.RowKit

theorem helNumI_c (n : Int) (w : World) (h0 : 0 ≤ n) (hk : n ≤ 4611686018427387904) :
    Calls Tryd.prog 82 #[.int .i64 n] w fun e w' => e = .returned (.agg #[.string (numT n.toNat), .bool false, .slice none 0 0]) ∧ Below w.heap.size w w' := by
  have := helNum_c n.toNat w (by omega)
  rwa [show ((n.toNat : Nat) : Int) = n from by omega] at this
theorem refNumI_c (n : Int) (w : World) (h0 : 0 ≤ n) (hk : n ≤ 4611686018427387904) :
    Calls Tryd.prog 92 #[.int .i64 n] w fun e w' => e = .returned (.agg #[.string (numT n.toNat), .bool false, .slice none 0 0]) ∧ Below w.heap.size w w' := by
  have := refNum_c n.toNat w (by omega)
  rwa [show ((n.toNat : Nat) : Int) = n from by omega] at this
/-- A text in memory has no blocks. -/
theorem leafS {w : World} {B : Nat} {S : Nat → Prop} {y : It} {c0 c1 c2 : Value} (h : ItIn w B y c0 c1 c2) (hs : y.sub = []) : ItS w S y c0 c1 c2 := by
  obtain ⟨t, l, s⟩ := y
  simp only [It.sub_mk] at hs
  subst hs
  obtain ⟨h1, h2, h3, h4, A, cap, h5, h6, h7, _⟩ := h
  exact ⟨h1, h2, h3, h4, A, cap, h5, h6, h7, trivial⟩
/-- A list of texts whose row lies beyond base. -/
theorem leavesS {w : World} {base : Nat} {s : List It} {c2 : Value} (h : ItIn w w.heap.size (.mk ⟨#[]⟩ true s) (.string ⟨#[]⟩) (.bool true) c2) (ho : ∃ cs, w.ownsRow base 27 3 c2 s.length cs) (hs : ∀ y ∈ s, y.sub = []) : ItS w (base ≤ ·) (.mk ⟨#[]⟩ true s) (.string ⟨#[]⟩) (.bool true) c2 := by
  obtain ⟨h1, h2, h3, h4, A, cap, rfl, h6, h7, h8⟩ := h
  refine ⟨h1, h2, h3, h4, A, cap, rfl, h6, h7, ItsS.mk_ fun j hj => ?_⟩
  obtain ⟨b, o, d0, d1, d2, rfl, hb, e0, e1, e2, hi⟩ := h8.at_ j hj
  obtain ⟨cs, ho⟩ := ho
  refine ⟨b, o, d0, d1, d2, rfl, ?_, e0, e1, e2, leafS hi (hs _ (List.getElem_mem hj))⟩
  exact own_ge ho b (by
    rcases ho.2 with ⟨e, _⟩ | ⟨g, cap', cur, e, _⟩
    · cases e
    · injection e with e1
      injection e1 with e1
      injection e1 with e1 e3
      subst e1
      simp [Value.ownBlock, e3])
theorem ItsIn.two {w : World} {B g : Nat} {t1 t2 : ByteArray} (h : Blk w g 27 #[.string t1, .bool false, .slice none 0 0, .string t2, .bool false, .slice none 0 0]) (hg : g < B) (h1 : t1.size ≤ 9223372036854775807) (h2 : t2.size ≤ 9223372036854775807) : ItsIn w B [.mk t1 false [], .mk t2 false []] (some ⟨g, 0, none⟩) 0 :=
  ⟨⟨_, _, _, _, _, rfl, hg, h.cell 0, h.cell 1, h.cell 2, ⟨rfl, rfl, h1, by simp, none, 0, rfl, by simp, by simp, trivial⟩⟩, ⟨_, _, _, _, _, rfl, hg, h.cell 3, h.cell 4, h.cell 5, ⟨rfl, rfl, h2, by simp, none, 0, rfl, by simp, by simp, trivial⟩⟩, trivial⟩
/-- How Put ends. -/
def hPutS (l m : Int) (cs : List Cp) : ByteArray := if helB l m cs = true then ⟨(helIt l m cs).rlp.toArray⟩ else ⟨#[]⟩
def hPutE (l m : Int) (cs : List Cp) : Int := if helB l m cs = true then 0 else 1
set_option maxRecDepth 100000 in
set_option maxHeartbeats 4000000 in
theorem helPut_c (least most : Int) (l : List Cp) (v : Value) (B : Nat) (w : World) (h : CpR w B v l) (hB : B ≤ w.heap.size) (hnm : NmOk l) (hl : l.length ≤ 1000) :
    Calls Tryd.prog 29 #[.agg #[.int .i64 least, .int .i64 most, v]] w fun e w' => e = .returned (.tuple #[.string (hPutS least most l), .int .i64 (hPutE least most l)]) ∧ Below w.heap.size w w' := by
  obtain ⟨W0, hW0⟩ : ∃ W0, w.alloc (.cells #[.int .i64 least, .int .i64 most, v] 68) = W0 := ⟨_, rfl⟩
  have hb0 : Below w.heap.size w W0 := by rw [← hW0]; exact (Below.refl _ w).alloc (Nat.le_refl _) _
  have hz0 : W0.heap.size = w.heap.size + 1 := by rw [← hW0]; simp
  have hk0 : Blk W0 w.heap.size 68 #[.int .i64 least, .int .i64 most, v] := by rw [← hW0]; exact Blk.new _ _ _
  have HM := Lib.hid (helMay_c least most l v B W0 (h.below (hb0.mono hB)) (by omega) hnm hl)
  obtain ⟨A, n, cap, rfl, hn, hnc, hcm⟩ := h.form'
  have HR : Hid (CpR W0 B (.slice A n cap) l) := Lib.hid (h.below (hb0.mono hB))
  obtain ⟨q0, q1, q2, _⟩ := blk3 hk0
  have HK0 := Lib.hid hk0
  have HB0 := Lib.hid hb0
  have HZ0 := Lib.hid hz0
  have HW0 := Lib.hid hW0
  clear h hk0 hb0 hz0 hW0
  cases hh : helB least most l with
  | false =>
    rw [hh] at HM
    have HE : Hid (hPutS least most l = ⟨#[]⟩ ∧ hPutE least most l = 1) := Lib.hid (by unfold hPutS hPutE; rw [hh]; simp)
    clear hh
    generalize hPutS least most l = S at *
    generalize hPutE least most l = E at *
    go_enter Tryd.func29, Tryd.ntmps29
    go_wp2_with fail
    rw [HW0.out]
    refine HM.out.mono ?_
    rintro e w1 ⟨rfl, hb⟩
    have HB1 := Lib.hid (HB0.out.trans (hb.mono (by have := HZ0.out; omega)))
    clear hb
    go_wp2
    go_ret2
    rw [HE.out.1, HE.out.2]
    exact ⟨rfl, HB1.out⟩
  | true =>
    rw [hh] at HM
    have HE : Hid (hPutS least most l = ⟨(helIt least most l).rlp.toArray⟩ ∧ hPutE least most l = 0) := Lib.hid (by unfold hPutS hPutE; rw [hh]; simp)
    have HP := Lib.hid (helB_parts hh)
    have HHH := Lib.hid hh
    clear hh
    generalize hPutS least most l = S at *
    generalize hPutE least most l = E at *
    go_enter Tryd.func29, Tryd.ntmps29
    go_wp2_with fail
    rw [HW0.out]
    refine HM.out.mono ?_
    rintro e w1 ⟨rfl, hb⟩
    have hz1 := hb.size
    have hz0 := HZ0.out
    obtain ⟨r0, r1, r2, _⟩ := blk3 (HK0.out.keep hb (by omega))
    have HK1 := Lib.hid (HK0.out.keep hb (by omega))
    have HR1 := Lib.hid (HR.out.below (hb.mono (by omega)))
    have HB1 := Lib.hid (HB0.out.trans (hb.mono (by omega)))
    have HZ1 : Hid (w.heap.size + 1 ≤ w1.heap.size) := Lib.hid (by omega)
    clear hb q0 q1 q2 hz1 hz0
    go_wp2_with fail
    go_loopw [5, 14] (fun v5 i wr => ∃ k : Nat, k ≤ n ∧ i = .int .i64 k ∧ Hid (Acc wr w1.heap.size ((l.take k).map capIt) v5) ∧ Hid (Below w1.heap.size w1 wr)) (fun _ i _ => n - (intOf i).toNat)
    case atStart => exact ⟨0, by omega, rfl, Lib.hid (Acc.nil _ _), Lib.hid (Below.refl _ _)⟩
    case round =>
      obtain ⟨k, hk, rfl, HA, HBW⟩ := hrel
      obtain ⟨A5, n5, cap5, rfl, hn5, hc5, hm5⟩ := HA.out.form'
      have hzw := HBW.out.size
      by_cases hlt : k < n
      · have hlt2 : k < l.length := by have := hn.out; omega
        obtain ⟨g, o, rfl, hgB, e0, e1⟩ := (HR1.out.below (HBW.out.mono (by have := HZ1.out; omega))).at_ hlt2
        have hmem := List.getElem_mem hlt2
        obtain ⟨m1, m2, m3⟩ := HP.out.2.2.2.2 _ hmem
        have hns := hnm _ hmem
        obtain ⟨⟨nm, ver⟩, hc⟩ : ∃ c, l[k] = c := ⟨_, rfl⟩
        rw [hc] at e0 e1 m1 m2 m3 hns
        dsimp only at e0 e1 m1 m2 m3 hns
        have HTK : Hid ((l.take (k + 1)).map capIt = (l.take k).map capIt ++ [capIt (nm, ver)]) := Lib.hid (by rw [List.take_succ_eq_append_getElem hlt2, List.map_append, hc]; rfl)
        have HNC := Lib.hid (fun w => helNumI_c ver w (by omega) (by omega))
        have HTC := Lib.hid (fun w => text_c nm w)
        have hTz := numT_size ver.toNat (by omega)
        obtain ⟨T, hT⟩ : ∃ T, numT ver.toNat = T := ⟨_, rfl⟩
        rw [hT] at HNC hTz
        have HCI : Hid (capIt (nm, ver) = .mk ⟨#[]⟩ true [.mk nm false [], .mk T false []]) := Lib.hid (by rw [← hT]; rfl)
        clear hc hT hmem m1
        go_wp2_with fail
        have c0 : (wr.alloc (.cells #[.string nm, .int .i64 ver] 104)).drew.cell? ⟨wr.heap.size, 0, none⟩ = some (.string nm) := by simp
        have c1 : (wr.alloc (.cells #[.string nm, .int .i64 ver] 104)).drew.cell? ⟨wr.heap.size, 1, none⟩ = some (.int .i64 ver) := by simp
        have HBX : Hid (Below wr.heap.size wr (wr.alloc (.cells #[.string nm, .int .i64 ver] 104)).drew ∧ (wr.alloc (.cells #[.string nm, .int .i64 ver] 104)).drew.heap.size = wr.heap.size + 1) := Lib.hid ⟨((Below.refl wr.heap.size wr).alloc (Nat.le_refl _) _).drew, by simp⟩
        have HLC2 : Hid (∀ V, Below wr.heap.size wr V → Calls Tryd.prog 84 #[.slice (some ⟨V.heap.size, 0, none⟩) 2 2] (V.alloc (.cells #[.string nm, .bool false, .slice none 0 0, .string T, .bool false, .slice none 0 0] 27)) fun e w' => ∃ A4 cap4, e = .returned (.agg #[.string ⟨#[]⟩, .bool true, .slice A4 2 cap4]) ∧ (∀ o, ItS (w'.alloc o) (fun j => w1.heap.size ≤ j ∧ (Value.slice A5 n5 cap5).ownBlock ≠ some j) (capIt (nm, ver)) (.string ⟨#[]⟩) (.bool true) (.slice A4 2 cap4)) ∧ Below wr.heap.size wr w') := Lib.hid (fun V hV => by
          have hI := ItsIn.two (Blk.new V 27 #[.string nm, .bool false, .slice none 0 0, .string T, .bool false, .slice none 0 0]) (Nat.lt_succ_self _) hns (by omega)
          refine (list_own [.mk nm false [], .mk T false []] (some ⟨V.heap.size, 0, none⟩) (V.heap.size + 1) 2 (V.alloc (.cells #[.string nm, .bool false, .slice none 0 0, .string T, .bool false, .slice none 0 0] 27)) hI (by simp) (by simp)).mono ?_
          rintro e w4 ⟨⟨c2, rfl, hli, hlo⟩, hb4⟩
          have hls := leavesS hli hlo (by simp)
          obtain ⟨_, _, _, _, A4, cap4, rfl, _⟩ := hli
          simp only [World.size_alloc] at hls
          have hVz := hV.size
          have hge := HA.out.ge
          have h1 := HZ1.out
          refine ⟨A4, cap4, rfl, fun o => ?_, (hV.trans (((Below.refl V.heap.size V).alloc (Nat.le_refl _) _).mono hVz)).trans (hb4.mono (by simp; omega))⟩
          rw [HCI.out]
          refine ItS.keep (fun j hj hS => ?_) (fun p hp _ => World.cell?_alloc_lt _ _ _ hp) _ hls
          have hS : V.heap.size + 1 ≤ j := hS
          exact ⟨by omega, fun e => by have := (hge j e).2; omega⟩)
        have hl1000 : ((l.take k).map capIt).length ≤ 1000000 := by rw [List.length_map, List.length_take]; omega
        have HLN := Lib.hid hl1000
        clear e0 e1 hl1000
        go_region_law (first
          | (go_simp; go_at_call 85; refine (HTC.out _).mono ?_; rintro e wa ⟨rfl, hba⟩; have ca1 : wa.cell? ⟨wr.heap.size, 1, none⟩ = some (.int .i64 ver) := (hba.cell (by have := HBX.out.2; simp)).trans c1; have HVA : Hid (Below wr.heap.size wr wa) := Lib.hid (HBX.out.1.trans (hba.mono (by have := HBX.out.2; omega))))
          | (go_simp; go_at_call 82; refine (HNC.out _).mono ?_; rintro e wb ⟨rfl, hbb⟩; have HVB : Hid (Below wr.heap.size wr wb) := Lib.hid (HVA.out.trans (hbb.mono HVA.out.size)))
          | (go_simp; go_at_call 84; refine (HLC2.out wb HVB.out).mono ?_; rintro e w4 ⟨A4, cap4, rfl, hy4, hb4⟩; have HY4 := Lib.hid hy4; have HV4 := Lib.hid hb4; have HA4 := Lib.hid ((HA.out.below hb4).below ((Below.refl _ w4).alloc (Nat.le_refl _) (.cells #[.string ⟨#[]⟩, .bool true, .slice A4 2 cap4] 27))))
          | (refine step_append_itemR (by rfl) (.tmp 18) (.tmp 28) (by rfl) w1.heap.size ((l.take k).map capIt) (by rfl) HA4.out (capIt (nm, ver)) (HY4.out _) _ (by rfl) (by simp) (by simp) (by simp) HLN.out (by have := HV4.out.size; have := HZ1.out; simp; omega) ?_; intro g' n' cap' w5 hn' hacc5 hgr hlo5))
        all_goals
          have HB5 : Hid (Below w1.heap.size w1 w5) := Lib.hid ((((HBW.out.trans (HV4.out.mono hzw)).alloc (by have := HV4.out.size; omega) _)).grown hgr (by have := HV4.out.size; simp; omega) (fun j hj => (HA.out.ge j hj).1))
          have HA5 := Lib.hid hacc5
          clear hacc5 hgr
          go_wp2
          go_roundw
          case rel => exact ⟨k + 1, by omega, by go_num, Lib.hid (by rw [HTK.out]; exact HA5.out), HB5⟩
          case measure => simp [intOf]; omega
      · obtain rfl : k = n := by omega
        have hk1 := HP.out
        have hacl : ((l.take k).map capIt) = l.map capIt := by rw [List.take_of_length_le (by have := hn.out; omega)]
        rw [hacl] at HA hn5
        have hn16 : n5 ≤ 16 := by rw [hn5.out, List.length_map]; exact hk1.2.2.2.1
        have HIT := Lib.hid (HA.out.list (by rw [List.length_map]; omega))
        obtain ⟨X, hX⟩ : ∃ X, l.map capIt = X := ⟨_, rfl⟩
        rw [hX] at HA HIT hn5
        obtain ⟨T1, hT1⟩ : ∃ T1, numT least.toNat = T1 := ⟨_, rfl⟩
        obtain ⟨T2, hT2⟩ : ∃ T2, numT most.toNat = T2 := ⟨_, rfl⟩
        have hz1 : T1.size ≤ 8 := by rw [← hT1]; exact numT_size _ (by omega)
        have hz2 : T2.size ≤ 8 := by rw [← hT2]; exact numT_size _ (by omega)
        have HHI : Hid (helIt least most l = .mk ⟨#[]⟩ true [.mk T1 false [], .mk T2 false [], .mk ⟨#[]⟩ true X]) := Lib.hid (by rw [← hT1, ← hT2, ← hX]; rfl)
        have HN1 := Lib.hid (fun w => helNumI_c least w (by omega) (by omega))
        have HN2 := Lib.hid (fun w => helNumI_c most w (by omega) (by omega))
        rw [hT1] at HN1
        rw [hT2] at HN2
        have HPUT : Hid (∀ V c2, ItIn V V.heap.size (helIt least most l) (.string ⟨#[]⟩) (.bool true) c2 → Calls Tryd.prog 47 #[.agg #[.string ⟨#[]⟩, .bool true, c2]] V fun e w' => e = .returned (.tuple #[.string S, .int .i64 0]) ∧ Below V.heap.size V w') := Lib.hid (fun V c2 hV => by
          have := rlpPut_c (helIt least most l) V.heap.size V _ _ _ hV (Nat.le_refl _) (helIt_may hk1.2.2.2.1).1 (by have := helIt_rlp HHH.out; omega)
          rwa [← HE.out.1] at this)
        have HL1 : Hid (∀ V, Below wr.heap.size wr V → Calls Tryd.prog 84 #[.slice A5 n5 cap5] V fun e w' => ∃ A6 cap6, e = .returned (.agg #[.string ⟨#[]⟩, .bool true, .slice A6 n5 cap6]) ∧ ItIn w' w'.heap.size (.mk ⟨#[]⟩ true X) (.string ⟨#[]⟩) (.bool true) (.slice A6 n5 cap6) ∧ Below wr.heap.size wr w') := Lib.hid (fun V hV => by
          obtain ⟨_, _, _, _, _, _, e6, _, _, hi⟩ := HIT.out.toIn
          injection e6 with e7 e8 e9
          subst e7
          rw [hn5.out]
          refine (list_c X A5 wr.heap.size cap5 V (hi.below hV) hV.size (by rw [← hn5.out]; omega)).mono ?_
          rintro e w' ⟨⟨c2, rfl, hli⟩, hb⟩
          obtain ⟨_, _, _, _, A6, cap6, rfl, r⟩ := hli
          exact ⟨A6, cap6, rfl, ⟨rfl, rfl, by simp [ByteArray.size], by rw [← hn5.out]; omega, A6, cap6, rfl, r⟩, hV.trans (hb.mono hV.size)⟩)
        have HL2 : Hid (∀ V A6 cap6, ItIn V V.heap.size (.mk ⟨#[]⟩ true X) (.string ⟨#[]⟩) (.bool true) (.slice A6 n5 cap6) → Below wr.heap.size wr V → Calls Tryd.prog 84 #[.slice (some ⟨V.heap.size, 0, none⟩) 3 3] (V.alloc (.cells #[.string T1, .bool false, .slice none 0 0, .string T2, .bool false, .slice none 0 0, .string ⟨#[]⟩, .bool true, .slice A6 n5 cap6] 27)) fun e w' => ∃ c2, e = .returned (.agg #[.string ⟨#[]⟩, .bool true, c2]) ∧ ItIn w' w'.heap.size (helIt least most l) (.string ⟨#[]⟩) (.bool true) c2 ∧ Below wr.heap.size wr w') := Lib.hid (fun V A6 cap6 hi hV => by
          have hk := Blk.new V 27 #[.string T1, .bool false, .slice none 0 0, .string T2, .bool false, .slice none 0 0, .string ⟨#[]⟩, .bool true, .slice A6 n5 cap6]
          have hb : Below V.heap.size V (V.alloc (.cells #[.string T1, .bool false, .slice none 0 0, .string T2, .bool false, .slice none 0 0, .string ⟨#[]⟩, .bool true, .slice A6 n5 cap6] 27)) := (Below.refl _ V).alloc (Nat.le_refl _) _
          rw [HHI.out]
          refine (list_c [.mk T1 false [], .mk T2 false [], .mk ⟨#[]⟩ true X] (some ⟨V.heap.size, 0, none⟩) (V.heap.size + 1) 3 _ ⟨⟨_, _, _, _, _, rfl, by omega, hk.cell 0, hk.cell 1, hk.cell 2, ⟨rfl, rfl, by omega, by simp, none, 0, rfl, by simp, by simp, trivial⟩⟩, ⟨_, _, _, _, _, rfl, by omega, hk.cell 3, hk.cell 4, hk.cell 5, ⟨rfl, rfl, by omega, by simp, none, 0, rfl, by simp, by simp, trivial⟩⟩, ⟨_, _, _, _, _, rfl, by omega, hk.cell 6, hk.cell 7, hk.cell 8, (hi.below hb).mono (by omega)⟩, trivial⟩ (by simp) (by simp)).mono ?_
          rintro e w' ⟨⟨c2, rfl, hli⟩, hb2⟩
          have hVz := hV.size
          exact ⟨c2, rfl, hli, (hV.trans (hb.mono hVz)).trans (hb2.mono (by simp; omega))⟩)
        obtain ⟨x0, x1, x2, _⟩ := blk3 (HK1.out.keep HBW.out (by have := HZ1.out; omega))
        have hd0 : wr.drew.cell? ⟨w.heap.size, 0, none⟩ = some (.int .i64 least) := x0
        have hd1 : wr.drew.cell? ⟨w.heap.size, 1, none⟩ = some (.int .i64 most) := x1
        have HWZ : Hid (w.heap.size < wr.heap.size) := Lib.hid (by have := HZ1.out; omega)
        clear hacl hX hT1 hT2 hk1 x0 x1 x2
        go_wp2_with fail
        go_region_law (first
          | (go_simp; go_at_call 82; refine (HN1.out _).mono ?_; rintro e wa ⟨rfl, hba⟩; have xa1 : wa.cell? ⟨w.heap.size, 1, none⟩ = some (.int .i64 most) := (hba.cell (by have := HWZ.out; simpa using this)).trans hd1; have HVA : Hid (Below wr.heap.size wr wa) := Lib.hid ((Below.refl _ wr).drew.trans hba))
          | (go_simp; go_at_call 82; refine (HN2.out _).mono ?_; rintro e wb ⟨rfl, hbb⟩; have HVB : Hid (Below wr.heap.size wr wb) := Lib.hid (HVA.out.trans (hbb.mono HVA.out.size)))
          | (go_simp; go_at_call 84; refine (HL1.out _ HVB.out).mono ?_; rintro e wc ⟨A6, cap6, rfl, hi6, hbc⟩; have HI6 := Lib.hid hi6; have HVC := Lib.hid hbc)
          | (go_simp; go_at_call 84; refine (HL2.out wc A6 cap6 HI6.out HVC.out).mono ?_; rintro e wd ⟨c2, rfl, hi7, hbd⟩; have HI7 := Lib.hid hi7; have HVD := Lib.hid hbd)
          | (go_simp; go_at_call 47; refine (HPUT.out wd c2 HI7.out).mono ?_; rintro e we ⟨rfl, hbe⟩))
        all_goals
          have HBE : Hid (Below w.heap.size w we) := Lib.hid (HB1.out.trans ((HBW.out.trans ((HVD.out.trans (hbe.mono HVD.out.size)).mono hzw)).mono (by have := HZ1.out; omega)))
          clear hbe
          go_wp2
          go_ret2
          rw [HE.out.2]
          exact ⟨rfl, HBE.out⟩
end Go.Proofs.YtacikiambpfipaaDoor
