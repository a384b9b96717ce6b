/- The document's parse of types: a Struct. -/
import Derived.Test.YtcppbdbbgakfcaaGreatDoorKA24
set_option linter.unusedVariables false
set_option linter.unusedSimpArgs false
set_option maxRecDepth 100000
set_option maxHeartbeats 3200000
namespace Go.Proofs.YtcppbdbbgakfcaaGreatDoor
open Go.RowKit
theorem tyParse_struct (f deep : Nat) (hd8 : deep ≤ 8) (IH : Hid (∀ (s : ByteArray) (at_ : Nat) (w : World), at_ ≤ s.size → s.size ≤ 100000 →
 Calls Tryz.prog 42 #[.string s, .int .i64 at_, .int .i64 ((deep + 1 : Nat) : Int)] w fun e w' => TyEnd s w (tItem f (s.data.toList.drop at_)) e w')) (s : ByteArray) (at_ : Nat) (w : World) (hat : at_ ≤ s.size) (hs : s.size ≤ 100000)
 (R : Option (Ty × List UInt8)) (HR : Hid (tItem (f + 1) (s.data.toList.drop at_) = R)) (hlt : at_ < s.size) (htt : s[at_].toNat = 123) :
 Calls Tryz.prog 42 #[.string s, .int .i64 at_, .int .i64 deep] w fun e w' => TyEnd s w R e w' := by
 have d1 : decide (s.size ≤ at_) = false := by simp; omega
 have d2 : decide ((8 : Int) < (deep : Int)) = false := by simp; omega
 have hb256 := s[at_].toNat_lt
 have HC : Hid (tItem (f + 1) (s[at_] :: s.data.toList.drop (at_ + 1)) = R) := Lib.hid (by rw [← drop_cons s at_ hlt]; exact HR.out)
 have HD := Lib.hid (fun w => digits20_c s (at_ + 1) w (by omega) hs)
 have E8 : Hid (((at_ + 1 : Nat) : Int) = (at_ : Int) + 1) := Lib.hid (by omega)
 obtain ⟨N, HN⟩ : ∃ N, Hid (numR (s.data.toList.drop (at_ + 1)) = N) := ⟨_, Lib.hid rfl⟩
 rw [HN.out, E8.out] at HD
 clear HR
 have e1 : ((s[at_].toNat : Int) == 117) = false := beq_eq_false_iff_ne.2 (by omega)
 have e2 : ((s[at_].toNat : Int) == 98) = false := beq_eq_false_iff_ne.2 (by omega)
 have e3 : ((s[at_].toNat : Int) == 115) = false := beq_eq_false_iff_ne.2 (by omega)
 have e4 : ((s[at_].toNat : Int) == 91) = false := beq_eq_false_iff_ne.2 (by omega)
 have e5 : ((s[at_].toNat : Int) != 123) = false := by simp [htt]
 have HREL : Hid (TLoop f s R (at_ + 1) [] 0) := Lib.hid ⟨_, by
  have h1 := HC.out
  rw [show s[at_] = 123 from UInt8.toNat_inj.1 htt, tItem_t] at h1
  exact h1, by omega⟩
 clear htt HC HD HN
 go_enter Tryz.func42, Tryz.ntmps42
 go_wp2_with fail
 go_loopw [1] (fun i wr => ∃ (p : Nat) (acc : List Ty) (tl : Nat) (vv : Value), p ≤ s.size ∧ i = .int .i64 p ∧ Hid (TLoop f s R p acc tl) ∧ acc.length ≤ p ∧ tl ≤ p ∧ Blk wr w.heap.size 24 #[.int .i64 0, .int .i64 0, .slice none 0 0, .int .i64 0] ∧ Blk wr (w.heap.size + 1) 24 #[.int .i64 5, .int .i64 0, vv, .int .i64 tl] ∧ AccT wr (w.heap.size + 2) acc vv ∧ Below w.heap.size w wr ∧ w.heap.size + 2 ≤ wr.heap.size) (fun i _ => s.size - (intOf i).toNat)
 case atStart =>
  have hb1 := Blk.new (w.alloc (.cells #[.int .i64 0, .int .i64 0, .slice none 0 0, .int .i64 0] 24)) 24 #[.int .i64 5, .int .i64 0, .slice none 0 0, .int .i64 0]
  exact ⟨at_ + 1, [], 0, .slice none 0 0, by omega, by go_num, HREL, by simp, by omega, (Blk.new _ _ _).alloc _, by simpa using hb1, AccT.nil _ _, (by repeat (first | exact Below.refl _ _ | assumption | with_reducible refine Below.drewN' ?_ _ | with_reducible refine Below.drew ?_ | ((with_reducible refine Below.alloc' ?_ ?_ _); · (first | omega | (simp <;> omega))))), by simp⟩
 case round =>
  obtain ⟨p, acc, tl, vv, hp, rfl, hrel, hlen, htl, hbr, hbx, hacc, hbel, hrz⟩ := hrel
  have HBR := Lib.hid hbr
  have HBX := Lib.hid hbx
  have HACC := Lib.hid hacc
  have HB := Lib.hid hbel
  obtain ⟨A2, n2, cap2, rfl, hn2, hc3, hc4⟩ := hacc.form'
  obtain ⟨r0, r1, r2', r3, rf0, rf1, rf2, rf3⟩ := blk4 hbr
  obtain ⟨b0, b1, b2, b3, bf0, bf1, bf2, bf3⟩ := blk4 hbx
  clear hbr hbx hacc hbel HREL
  by_cases hlp : p < s.size
  ·by_cases h125 : s[p].toNat = 125
   ·have e6 : ((s[p].toNat : Int) != 125) = false := by simp [h125]
    have HE := Lib.hid (hrel.out.ends hlp h125)
    have HDP := Lib.hid (dropT s (p + 1) (by omega))
    clear h125
    go_wp2
    refine bodyPost_ret (v := .tuple #[.agg #[.int .i64 5, .int .i64 0, .slice A2 n2 cap2, .int .i64 tl], .int .i64 ((p : Int) + 1)]) (by simp [results, Tryz.results42, go_sem, r0, r1, r2', r3]) rfl ?_
    rw [HE.out]
    refine ⟨(((HB.out.setCell (by simp) _).setCell (by simp) _).setCell (by simp) _).setCell (by simp) _, _, _, _, _, by rw [HDP.out]; go_num, ?_⟩
    have ha3 : AccT _ (w.heap.size + 2) acc (.slice A2 n2 cap2) := HACC.out.only (L := [w.heap.size]) (w' := (((wr.setCell ⟨w.heap.size, 0, none⟩ (.int .i64 5)).setCell ⟨w.heap.size, 1, none⟩ (.int .i64 0)).setCell ⟨w.heap.size, 2, none⟩ (.slice A2 n2 cap2)).setCell ⟨w.heap.size, 3, none⟩ (.int .i64 tl)) (((((Only.refl _ _).setCell (by simp) _).setCell (by simp) _).setCell (by simp) _).setCell (by simp) _) (by simp)
    refine TyS.weak (ha3.ty (by omega) (okI_small (by omega) (by omega)) (okI_small (by omega) (by omega)) (okI_small (by omega) (by omega))) fun k _ hk => ?_
    have hk : w.heap.size + 2 ≤ k := hk
    show w.heap.size ≤ k
    omega
   ·have e6 : ((s[p].toNat : Int) != 125) = true := by simp; omega
    by_cases ha : acc = []
    ·subst ha
     have HSEP := Lib.hid (hrel.out.first hlp h125)
     obtain rfl : n2 = 0 := hn2.out
     clear h125
     have hqs := hlp
     by_cases h63 : s[p].toNat = 63
     ·have e8 : ((s[p].toNat : Int) == 63) = true := by simp [h63]
      have HAT := Lib.hid (HSEP.out.mark hqs h63)
      obtain ⟨W, hW⟩ : ∃ W, wr.setCell ⟨w.heap.size + 1, 3, none⟩ (.int .i64 ((tl : Int) + 1)) = W := ⟨_, rfl⟩
      have HWX : Hid (Blk W (w.heap.size + 1) 24 #[.int .i64 5, .int .i64 0, .slice A2 0 cap2, .int .i64 ((tl : Int) + 1)]) := Lib.hid (by rw [← hW]; exact HBX.out.store rfl)
      have HWR : Hid (Blk W w.heap.size 24 #[.int .i64 0, .int .i64 0, .slice none 0 0, .int .i64 0]) := Lib.hid (by rw [← hW]; exact HBR.out.far (by simp) _)
      have HWA : Hid (AccT W (w.heap.size + 2) [] (.slice A2 0 cap2)) := Lib.hid (by rw [← hW]; exact HACC.out.only ((Only.refl [w.heap.size + 1] wr).setCell (by simp) _) (by simp))
      have HWB : Hid (Below w.heap.size w W) := Lib.hid (by rw [← hW]; exact HB.out.setCell (by simp) _)
      have HWZ : Hid (W.heap.size = wr.heap.size) := Lib.hid (by rw [← hW]; simp [World.setCell])
      have HW := Lib.hid hW
      have hq : p + 1 ≤ s.size := by omega
      have ETL : Hid (((tl + 1 : Nat) : Int) = (tl : Int) + 1) := Lib.hid (by omega)
      clear h63 hW HSEP
      have HI : Hid (∀ (V : World) (i : Int), i = (((p + 1) : Nat) : Int) → Calls Tryz.prog 42 #[.string s, .int .i64 i, .int .i64 ((deep + 1 : Nat) : Int)] V fun e w' => TyEnd s V (tItem f (s.data.toList.drop ((p + 1)))) e w') := Lib.hid (fun V i hi => by subst hi; exact IH.out s ((p + 1)) V hq hs)
      have E9 : Hid ((deep : Int) + 1 = ((deep + 1 : Nat) : Int)) := Lib.hid (by omega)
      go_wp2_with fail
      rw [E9.out]
      refine (HI.out _ _ (by first | rfl | omega)).mono ?_
      rintro e w4 hend
      rw [HW.out] at hend
      obtain ⟨T, HT⟩ : ∃ T, Hid (tItem f (s.data.toList.drop ((p + 1))) = T) := ⟨_, Lib.hid rfl⟩
      rw [HT.out] at hend
      have hWz := HWZ.out
      cases T with
      | none =>
       obtain ⟨hb4, v0, v1, rfl⟩ := hend
       have HE := Lib.hid (HAT.out.none HT.out)
       have hz4 := hb4.size
       have hlw : w.heap.size < w4.heap.size := by omega
       have HB4 := Lib.hid (HWB.out.trans (hb4.mono (by omega)))
       clear r0 r1 r2' r3 rf0 rf1 rf2 rf3 b0 b1 b2 b3 bf0 bf1 bf2 bf3
       obtain ⟨r0, r1, r2', r3, rf0, rf1, rf2, rf3⟩ := blk4 (HWR.out.keep hb4 (by omega))
       clear hb4 hWz
       go_wp2
       refine bodyPost_ret (v := badTy 0 0) (by simp [badTy, results, Tryz.results42, go_sem, r0, r1, r2', r3, World.cell?_alloc_lt, hlw]) rfl ?_
       rw [HE.out]
       refine ⟨?_, 0, 0, rfl⟩
       exact (((((HB4.out.setCell (by simp) _).setCell (by simp) _).setCell (by simp) _).setCell (by simp) _).alloc (by simp [World.setCell]; omega) _)
      | some z =>
       obtain ⟨y, r⟩ := z
       obtain ⟨hb4, c0, c1, c2, c3, rfl, hy⟩ := hend
       obtain ⟨HN, hn1, hn2'⟩ := HAT.out.some hq HT.out
       have HREL := Lib.hid HN
       have hz4 := hb4.size
       have HX4 := Lib.hid (HWX.out.keep hb4 (by omega))
       have HR4 := Lib.hid (HWR.out.keep hb4 (by omega))
       have HA4 := Lib.hid (HWA.out.below hb4)
       have HB4 := Lib.hid (HWB.out.trans (hb4.mono (by omega)))
       have hge := HWA.out.ge
       have HY : Hid (∀ o o', TyS ((w4.alloc o).alloc o') (fun k => w.heap.size + 2 ≤ k ∧ (Value.slice A2 0 cap2).ownBlock ≠ some k) y c0 c1 c2 c3) := Lib.hid (by
        intro o o'
        refine TyS.keep ?_ ?_ y hy
        ·intro k hk hS
         have hS : W.heap.size ≤ k := hS
         exact ⟨by omega, fun e => by have := (hge k e).2; omega⟩
        ·intro q hq _
         rw [World.cell?_alloc_lt _ _ _ (by rw [World.size_alloc]; omega), World.cell?_alloc_lt _ _ _ hq])
       have hlw : w.heap.size < w4.heap.size := by omega
       have hlw1 : w.heap.size + 1 < w4.heap.size := by omega
       have HGE := Lib.hid hge
       obtain ⟨AA, ccap, rfl, rfl, rfl, rfl, _⟩ := hy.open_
       clear r0 r1 r2' r3 rf0 rf1 rf2 rf3 b0 b1 b2 b3 bf0 bf1 bf2 bf3 hy HN hge hb4 hWz
       obtain ⟨b0, b1, b2, b3, bf0, bf1, bf2, bf3⟩ := blk4 HX4.out
       have hqn : ¬ ((s.size - r.length : Nat) : Int) < 0 := by omega
       have hqd : s.size - r.length ≤ s.size := by omega
       generalize s.size - r.length = pq at *
       go_wp2_with (at_builtin; refine wpList_append_type (by rfl) (.tmp 181) (.tmp 183) (by rfl) (w.heap.size + 2) [] (by rfl) ((HA4.out.below ((Below.refl _ _).alloc (Nat.le_refl _) _)).below ((Below.refl _ _).alloc (Nat.le_refl _) _)) y (HY.out _ _) _ (by rfl) (by simp) (by simp) (by simp) (by simp) (by first | omega | simp) (by simp only [World.size_alloc]; omega) ?_)
       intro g' n' cap' w5 hn' hacc5 hgr hlo
       have hno : ∀ k, k < w.heap.size + 2 → (Value.slice A2 0 cap2).ownBlock ≠ some k := fun k hk e => by
        have := (HGE.out k e).1
        omega
       have HX5 := Lib.hid (((HX4.out.alloc _).alloc _).grown hgr (hno _ (by omega)))
       have HR5 := Lib.hid (((HR4.out.alloc _).alloc _).grown hgr (hno _ (by omega)))
       have HB5 : Hid (Below w.heap.size w w5) := Lib.hid (((HB4.out.alloc (by omega) _).alloc (by simp; omega) _).grown hgr (by simp; omega) (fun k hk => by have := (HGE.out k hk).1; omega))
       have hz5 := hgr.size
       simp only [World.size_alloc] at hz5
       have HA5 := Lib.hid hacc5
       clear b0 b1 b2 b3 bf0 bf1 bf2 bf3 hgr hacc5 hno
       obtain ⟨b0, b1, b2, b3, bf0, bf1, bf2, bf3⟩ := blk4 HX5.out
       go_wp2
       go_roundw
       case rel =>
        have key : ∃ (p : Nat) (acc : List Ty) (tl : Nat) (vv : Value), p ≤ s.size ∧ Value.int .i64 (pq : Int) = .int .i64 p ∧ Hid (TLoop f s R p acc tl) ∧ acc.length ≤ p ∧ tl ≤ p ∧ Blk (w5.setCell ⟨w.heap.size + 1, 2, none⟩ (.slice (some ⟨g', 0, none⟩) n' cap')) w.heap.size 24 #[.int .i64 0, .int .i64 0, .slice none 0 0, .int .i64 0] ∧ Blk (w5.setCell ⟨w.heap.size + 1, 2, none⟩ (.slice (some ⟨g', 0, none⟩) n' cap')) (w.heap.size + 1) 24 #[.int .i64 5, .int .i64 0, vv, .int .i64 tl] ∧ AccT (w5.setCell ⟨w.heap.size + 1, 2, none⟩ (.slice (some ⟨g', 0, none⟩) n' cap')) (w.heap.size + 2) acc vv ∧ Below w.heap.size w (w5.setCell ⟨w.heap.size + 1, 2, none⟩ (.slice (some ⟨g', 0, none⟩) n' cap')) ∧ w.heap.size + 2 ≤ (w5.setCell ⟨w.heap.size + 1, 2, none⟩ (.slice (some ⟨g', 0, none⟩) n' cap')).heap.size := by
         refine ⟨pq, [] ++ [y], (tl + 1), .slice (some ⟨g', 0, none⟩) n' cap', hn2', rfl, HREL, ?_, by omega, HR5.out.far (by simp) _, ?_, ?_, HB5.out.setCell (by simp) _, ?_⟩
         ·simp only [List.length_append, List.length_cons, List.length_nil] at hlen ⊢; omega
         ·rw [ETL.out]; exact HX5.out.store rfl
         ·exact HA5.out.only ((Only.refl [w.heap.size + 1] w5).setCell (p := ⟨w.heap.size + 1, 2, none⟩) (by simp) _) (by simp)
         ·simp [World.setCell]; omega
        first | exact key | ((repeat apply Exists.intro); exact ⟨key, rfl⟩)
       case measure => simp [intOf]; omega
     ·have e8 : ((s[p].toNat : Int) == 63) = false := beq_eq_false_iff_ne.2 (by omega)
      have HN63 : Hid (∀ hq : p < s.size, s[p].toNat ≠ 63) := Lib.hid (fun _ => h63)
      clear h63
      by_cases htl0 : 0 < tl
      ·have HE := Lib.hid (HSEP.out.none_ HN63.out htl0)
       go_wp2
       refine bodyPost_ret (v := badTy 0 0) (by simp [badTy, results, Tryz.results42, go_sem, r0, r1, r2', r3]) rfl ?_
       rw [HE.out]
       exact ⟨(((HB.out.setCell (by simp) _).setCell (by simp) _).setCell (by simp) _).setCell (by simp) _, 0, 0, rfl⟩
      ·obtain rfl : tl = 0 := by omega
       have HAT := Lib.hid (HSEP.out.plain HN63.out)
       obtain ⟨W, hW⟩ : ∃ W, wr = W := ⟨_, rfl⟩
       have HWX : Hid (Blk W (w.heap.size + 1) 24 #[.int .i64 5, .int .i64 0, .slice A2 0 cap2, .int .i64 0]) := Lib.hid (by rw [← hW]; exact HBX.out)
       have HWR : Hid (Blk W w.heap.size 24 #[.int .i64 0, .int .i64 0, .slice none 0 0, .int .i64 0]) := Lib.hid (by rw [← hW]; exact HBR.out)
       have HWA : Hid (AccT W (w.heap.size + 2) [] (.slice A2 0 cap2)) := Lib.hid (by rw [← hW]; exact HACC.out)
       have HWB : Hid (Below w.heap.size w W) := Lib.hid (by rw [← hW]; exact HB.out)
       have HWZ : Hid (W.heap.size = wr.heap.size) := Lib.hid (by rw [← hW])
       have HW := Lib.hid hW
       have hq : p ≤ s.size := by omega
       have ETL : Hid (((0 : Nat) : Int) = (0 : Int)) := Lib.hid rfl
       clear hW HSEP HN63
       have HI : Hid (∀ (V : World) (i : Int), i = (((p) : Nat) : Int) → Calls Tryz.prog 42 #[.string s, .int .i64 i, .int .i64 ((deep + 1 : Nat) : Int)] V fun e w' => TyEnd s V (tItem f (s.data.toList.drop ((p)))) e w') := Lib.hid (fun V i hi => by subst hi; exact IH.out s ((p)) V hq hs)
       have E9 : Hid ((deep : Int) + 1 = ((deep + 1 : Nat) : Int)) := Lib.hid (by omega)
       go_wp2_with fail
       rw [E9.out]
       refine (HI.out _ _ (by first | rfl | omega)).mono ?_
       rintro e w4 hend
       rw [HW.out] at hend
       obtain ⟨T, HT⟩ : ∃ T, Hid (tItem f (s.data.toList.drop ((p))) = T) := ⟨_, Lib.hid rfl⟩
       rw [HT.out] at hend
       have hWz := HWZ.out
       cases T with
       | none =>
        obtain ⟨hb4, v0, v1, rfl⟩ := hend
        have HE := Lib.hid (HAT.out.none HT.out)
        have hz4 := hb4.size
        have hlw : w.heap.size < w4.heap.size := by omega
        have HB4 := Lib.hid (HWB.out.trans (hb4.mono (by omega)))
        clear r0 r1 r2' r3 rf0 rf1 rf2 rf3 b0 b1 b2 b3 bf0 bf1 bf2 bf3
        obtain ⟨r0, r1, r2', r3, rf0, rf1, rf2, rf3⟩ := blk4 (HWR.out.keep hb4 (by omega))
        clear hb4 hWz
        go_wp2
        refine bodyPost_ret (v := badTy 0 0) (by simp [badTy, results, Tryz.results42, go_sem, r0, r1, r2', r3, World.cell?_alloc_lt, hlw]) rfl ?_
        rw [HE.out]
        refine ⟨?_, 0, 0, rfl⟩
        exact (((((HB4.out.setCell (by simp) _).setCell (by simp) _).setCell (by simp) _).setCell (by simp) _).alloc (by simp [World.setCell]; omega) _)
       | some z =>
        obtain ⟨y, r⟩ := z
        obtain ⟨hb4, c0, c1, c2, c3, rfl, hy⟩ := hend
        obtain ⟨HN, hn1, hn2'⟩ := HAT.out.some hq HT.out
        have HREL := Lib.hid HN
        have hz4 := hb4.size
        have HX4 := Lib.hid (HWX.out.keep hb4 (by omega))
        have HR4 := Lib.hid (HWR.out.keep hb4 (by omega))
        have HA4 := Lib.hid (HWA.out.below hb4)
        have HB4 := Lib.hid (HWB.out.trans (hb4.mono (by omega)))
        have hge := HWA.out.ge
        have HY : Hid (∀ o o', TyS ((w4.alloc o).alloc o') (fun k => w.heap.size + 2 ≤ k ∧ (Value.slice A2 0 cap2).ownBlock ≠ some k) y c0 c1 c2 c3) := Lib.hid (by
         intro o o'
         refine TyS.keep ?_ ?_ y hy
         ·intro k hk hS
          have hS : W.heap.size ≤ k := hS
          exact ⟨by omega, fun e => by have := (hge k e).2; omega⟩
         ·intro q hq _
          rw [World.cell?_alloc_lt _ _ _ (by rw [World.size_alloc]; omega), World.cell?_alloc_lt _ _ _ hq])
        have hlw : w.heap.size < w4.heap.size := by omega
        have hlw1 : w.heap.size + 1 < w4.heap.size := by omega
        have HGE := Lib.hid hge
        obtain ⟨AA, ccap, rfl, rfl, rfl, rfl, _⟩ := hy.open_
        clear r0 r1 r2' r3 rf0 rf1 rf2 rf3 b0 b1 b2 b3 bf0 bf1 bf2 bf3 hy HN hge hb4 hWz
        obtain ⟨b0, b1, b2, b3, bf0, bf1, bf2, bf3⟩ := blk4 HX4.out
        have hqn : ¬ ((s.size - r.length : Nat) : Int) < 0 := by omega
        have hqd : s.size - r.length ≤ s.size := by omega
        generalize s.size - r.length = pq at *
        go_wp2_with (at_builtin; refine wpList_append_type (by rfl) (.tmp 181) (.tmp 183) (by rfl) (w.heap.size + 2) [] (by rfl) ((HA4.out.below ((Below.refl _ _).alloc (Nat.le_refl _) _)).below ((Below.refl _ _).alloc (Nat.le_refl _) _)) y (HY.out _ _) _ (by rfl) (by simp) (by simp) (by simp) (by simp) (by first | omega | simp) (by simp only [World.size_alloc]; omega) ?_)
        intro g' n' cap' w5 hn' hacc5 hgr hlo
        have hno : ∀ k, k < w.heap.size + 2 → (Value.slice A2 0 cap2).ownBlock ≠ some k := fun k hk e => by
         have := (HGE.out k e).1
         omega
        have HX5 := Lib.hid (((HX4.out.alloc _).alloc _).grown hgr (hno _ (by omega)))
        have HR5 := Lib.hid (((HR4.out.alloc _).alloc _).grown hgr (hno _ (by omega)))
        have HB5 : Hid (Below w.heap.size w w5) := Lib.hid (((HB4.out.alloc (by omega) _).alloc (by simp; omega) _).grown hgr (by simp; omega) (fun k hk => by have := (HGE.out k hk).1; omega))
        have hz5 := hgr.size
        simp only [World.size_alloc] at hz5
        have HA5 := Lib.hid hacc5
        clear b0 b1 b2 b3 bf0 bf1 bf2 bf3 hgr hacc5 hno
        obtain ⟨b0, b1, b2, b3, bf0, bf1, bf2, bf3⟩ := blk4 HX5.out
        go_wp2
        go_roundw
        case rel =>
         have key : ∃ (p : Nat) (acc : List Ty) (tl : Nat) (vv : Value), p ≤ s.size ∧ Value.int .i64 (pq : Int) = .int .i64 p ∧ Hid (TLoop f s R p acc tl) ∧ acc.length ≤ p ∧ tl ≤ p ∧ Blk (w5.setCell ⟨w.heap.size + 1, 2, none⟩ (.slice (some ⟨g', 0, none⟩) n' cap')) w.heap.size 24 #[.int .i64 0, .int .i64 0, .slice none 0 0, .int .i64 0] ∧ Blk (w5.setCell ⟨w.heap.size + 1, 2, none⟩ (.slice (some ⟨g', 0, none⟩) n' cap')) (w.heap.size + 1) 24 #[.int .i64 5, .int .i64 0, vv, .int .i64 tl] ∧ AccT (w5.setCell ⟨w.heap.size + 1, 2, none⟩ (.slice (some ⟨g', 0, none⟩) n' cap')) (w.heap.size + 2) acc vv ∧ Below w.heap.size w (w5.setCell ⟨w.heap.size + 1, 2, none⟩ (.slice (some ⟨g', 0, none⟩) n' cap')) ∧ w.heap.size + 2 ≤ (w5.setCell ⟨w.heap.size + 1, 2, none⟩ (.slice (some ⟨g', 0, none⟩) n' cap')).heap.size := by
          refine ⟨pq, [] ++ [y], 0, .slice (some ⟨g', 0, none⟩) n' cap', hn2', rfl, HREL, ?_, by omega, HR5.out.far (by simp) _, ?_, ?_, HB5.out.setCell (by simp) _, ?_⟩
          ·simp only [List.length_append, List.length_cons, List.length_nil] at hlen ⊢; omega
          ·rw [ETL.out]; exact HX5.out.store rfl
          ·exact HA5.out.only ((Only.refl [w.heap.size + 1] w5).setCell (p := ⟨w.heap.size + 1, 2, none⟩) (by simp) _) (by simp)
          ·simp [World.setCell]; omega
         first | exact key | ((repeat apply Exists.intro); exact ⟨key, rfl⟩)
        case measure => simp [intOf]; omega
    ·have hn0 : 0 < n2 := by
      rw [hn2.out]
      cases acc with
      | nil => exact absurd rfl ha
      | cons a b => simp
     by_cases h44 : s[p].toNat = 44
     ·have e7 : ((s[p].toNat : Int) != 44) = false := by simp [h44]
      have HSEP := Lib.hid (hrel.out.more hlp h44 ha)
      clear h125 ha h44
      by_cases hqs : (p + 1) < s.size
      ·by_cases h63 : s[(p + 1)].toNat = 63
       ·have e8 : ((s[(p + 1)].toNat : Int) == 63) = true := by simp [h63]
        have HAT := Lib.hid (HSEP.out.mark hqs h63)
        obtain ⟨W, hW⟩ : ∃ W, wr.setCell ⟨w.heap.size + 1, 3, none⟩ (.int .i64 ((tl : Int) + 1)) = W := ⟨_, rfl⟩
        have HWX : Hid (Blk W (w.heap.size + 1) 24 #[.int .i64 5, .int .i64 0, .slice A2 n2 cap2, .int .i64 ((tl : Int) + 1)]) := Lib.hid (by rw [← hW]; exact HBX.out.store rfl)
        have HWR : Hid (Blk W w.heap.size 24 #[.int .i64 0, .int .i64 0, .slice none 0 0, .int .i64 0]) := Lib.hid (by rw [← hW]; exact HBR.out.far (by simp) _)
        have HWA : Hid (AccT W (w.heap.size + 2) acc (.slice A2 n2 cap2)) := Lib.hid (by rw [← hW]; exact HACC.out.only ((Only.refl [w.heap.size + 1] wr).setCell (by simp) _) (by simp))
        have HWB : Hid (Below w.heap.size w W) := Lib.hid (by rw [← hW]; exact HB.out.setCell (by simp) _)
        have HWZ : Hid (W.heap.size = wr.heap.size) := Lib.hid (by rw [← hW]; simp [World.setCell])
        have HW := Lib.hid hW
        have hq : (p + 1) + 1 ≤ s.size := by omega
        have ETL : Hid (((tl + 1 : Nat) : Int) = (tl : Int) + 1) := Lib.hid (by omega)
        clear h63 hW HSEP
        have HI : Hid (∀ (V : World) (i : Int), i = ((((p + 1) + 1) : Nat) : Int) → Calls Tryz.prog 42 #[.string s, .int .i64 i, .int .i64 ((deep + 1 : Nat) : Int)] V fun e w' => TyEnd s V (tItem f (s.data.toList.drop (((p + 1) + 1)))) e w') := Lib.hid (fun V i hi => by subst hi; exact IH.out s (((p + 1) + 1)) V hq hs)
        have E9 : Hid ((deep : Int) + 1 = ((deep + 1 : Nat) : Int)) := Lib.hid (by omega)
        go_wp2_with fail
        rw [E9.out]
        refine (HI.out _ _ (by first | rfl | omega)).mono ?_
        rintro e w4 hend
        rw [HW.out] at hend
        obtain ⟨T, HT⟩ : ∃ T, Hid (tItem f (s.data.toList.drop (((p + 1) + 1))) = T) := ⟨_, Lib.hid rfl⟩
        rw [HT.out] at hend
        have hWz := HWZ.out
        cases T with
        | none =>
         obtain ⟨hb4, v0, v1, rfl⟩ := hend
         have HE := Lib.hid (HAT.out.none HT.out)
         have hz4 := hb4.size
         have hlw : w.heap.size < w4.heap.size := by omega
         have HB4 := Lib.hid (HWB.out.trans (hb4.mono (by omega)))
         clear r0 r1 r2' r3 rf0 rf1 rf2 rf3 b0 b1 b2 b3 bf0 bf1 bf2 bf3
         obtain ⟨r0, r1, r2', r3, rf0, rf1, rf2, rf3⟩ := blk4 (HWR.out.keep hb4 (by omega))
         clear hb4 hWz
         go_wp2
         refine bodyPost_ret (v := badTy 0 0) (by simp [badTy, results, Tryz.results42, go_sem, r0, r1, r2', r3, World.cell?_alloc_lt, hlw]) rfl ?_
         rw [HE.out]
         refine ⟨?_, 0, 0, rfl⟩
         exact (((((HB4.out.setCell (by simp) _).setCell (by simp) _).setCell (by simp) _).setCell (by simp) _).alloc (by simp [World.setCell]; omega) _)
        | some z =>
         obtain ⟨y, r⟩ := z
         obtain ⟨hb4, c0, c1, c2, c3, rfl, hy⟩ := hend
         obtain ⟨HN, hn1, hn2'⟩ := HAT.out.some hq HT.out
         have HREL := Lib.hid HN
         have hz4 := hb4.size
         have HX4 := Lib.hid (HWX.out.keep hb4 (by omega))
         have HR4 := Lib.hid (HWR.out.keep hb4 (by omega))
         have HA4 := Lib.hid (HWA.out.below hb4)
         have HB4 := Lib.hid (HWB.out.trans (hb4.mono (by omega)))
         have hge := HWA.out.ge
         have HY : Hid (∀ o o', TyS ((w4.alloc o).alloc o') (fun k => w.heap.size + 2 ≤ k ∧ (Value.slice A2 n2 cap2).ownBlock ≠ some k) y c0 c1 c2 c3) := Lib.hid (by
          intro o o'
          refine TyS.keep ?_ ?_ y hy
          ·intro k hk hS
           have hS : W.heap.size ≤ k := hS
           exact ⟨by omega, fun e => by have := (hge k e).2; omega⟩
          ·intro q hq _
           rw [World.cell?_alloc_lt _ _ _ (by rw [World.size_alloc]; omega), World.cell?_alloc_lt _ _ _ hq])
         have hlw : w.heap.size < w4.heap.size := by omega
         have hlw1 : w.heap.size + 1 < w4.heap.size := by omega
         have HGE := Lib.hid hge
         obtain ⟨AA, ccap, rfl, rfl, rfl, rfl, _⟩ := hy.open_
         clear r0 r1 r2' r3 rf0 rf1 rf2 rf3 b0 b1 b2 b3 bf0 bf1 bf2 bf3 hy HN hge hb4 hWz
         obtain ⟨b0, b1, b2, b3, bf0, bf1, bf2, bf3⟩ := blk4 HX4.out
         have hqn : ¬ ((s.size - r.length : Nat) : Int) < 0 := by omega
         have hqd : s.size - r.length ≤ s.size := by omega
         generalize s.size - r.length = pq at *
         go_wp2_with (at_builtin; refine wpList_append_type (by rfl) (.tmp 181) (.tmp 183) (by rfl) (w.heap.size + 2) acc (by rfl) ((HA4.out.below ((Below.refl _ _).alloc (Nat.le_refl _) _)).below ((Below.refl _ _).alloc (Nat.le_refl _) _)) y (HY.out _ _) _ (by rfl) (by simp) (by simp) (by simp) (by simp) (by first | omega | simp) (by simp only [World.size_alloc]; omega) ?_)
         intro g' n' cap' w5 hn' hacc5 hgr hlo
         have hno : ∀ k, k < w.heap.size + 2 → (Value.slice A2 n2 cap2).ownBlock ≠ some k := fun k hk e => by
          have := (HGE.out k e).1
          omega
         have HX5 := Lib.hid (((HX4.out.alloc _).alloc _).grown hgr (hno _ (by omega)))
         have HR5 := Lib.hid (((HR4.out.alloc _).alloc _).grown hgr (hno _ (by omega)))
         have HB5 : Hid (Below w.heap.size w w5) := Lib.hid (((HB4.out.alloc (by omega) _).alloc (by simp; omega) _).grown hgr (by simp; omega) (fun k hk => by have := (HGE.out k hk).1; omega))
         have hz5 := hgr.size
         simp only [World.size_alloc] at hz5
         have HA5 := Lib.hid hacc5
         clear b0 b1 b2 b3 bf0 bf1 bf2 bf3 hgr hacc5 hno
         obtain ⟨b0, b1, b2, b3, bf0, bf1, bf2, bf3⟩ := blk4 HX5.out
         go_wp2
         go_roundw
         case rel =>
          have key : ∃ (p : Nat) (acc : List Ty) (tl : Nat) (vv : Value), p ≤ s.size ∧ Value.int .i64 (pq : Int) = .int .i64 p ∧ Hid (TLoop f s R p acc tl) ∧ acc.length ≤ p ∧ tl ≤ p ∧ Blk (w5.setCell ⟨w.heap.size + 1, 2, none⟩ (.slice (some ⟨g', 0, none⟩) n' cap')) w.heap.size 24 #[.int .i64 0, .int .i64 0, .slice none 0 0, .int .i64 0] ∧ Blk (w5.setCell ⟨w.heap.size + 1, 2, none⟩ (.slice (some ⟨g', 0, none⟩) n' cap')) (w.heap.size + 1) 24 #[.int .i64 5, .int .i64 0, vv, .int .i64 tl] ∧ AccT (w5.setCell ⟨w.heap.size + 1, 2, none⟩ (.slice (some ⟨g', 0, none⟩) n' cap')) (w.heap.size + 2) acc vv ∧ Below w.heap.size w (w5.setCell ⟨w.heap.size + 1, 2, none⟩ (.slice (some ⟨g', 0, none⟩) n' cap')) ∧ w.heap.size + 2 ≤ (w5.setCell ⟨w.heap.size + 1, 2, none⟩ (.slice (some ⟨g', 0, none⟩) n' cap')).heap.size := by
           refine ⟨pq, acc ++ [y], (tl + 1), .slice (some ⟨g', 0, none⟩) n' cap', hn2', rfl, HREL, ?_, by omega, HR5.out.far (by simp) _, ?_, ?_, HB5.out.setCell (by simp) _, ?_⟩
           ·simp only [List.length_append, List.length_cons, List.length_nil] at hlen ⊢; omega
           ·rw [ETL.out]; exact HX5.out.store rfl
           ·exact HA5.out.only ((Only.refl [w.heap.size + 1] w5).setCell (p := ⟨w.heap.size + 1, 2, none⟩) (by simp) _) (by simp)
           ·simp [World.setCell]; omega
          first | exact key | ((repeat apply Exists.intro); exact ⟨key, rfl⟩)
         case measure => simp [intOf]; omega
       ·have e8 : ((s[(p + 1)].toNat : Int) == 63) = false := beq_eq_false_iff_ne.2 (by omega)
        have HN63 : Hid (∀ hq : (p + 1) < s.size, s[(p + 1)].toNat ≠ 63) := Lib.hid (fun _ => h63)
        clear h63
        by_cases htl0 : 0 < tl
        ·have HE := Lib.hid (HSEP.out.none_ HN63.out htl0)
         go_wp2
         refine bodyPost_ret (v := badTy 0 0) (by simp [badTy, results, Tryz.results42, go_sem, r0, r1, r2', r3]) rfl ?_
         rw [HE.out]
         exact ⟨(((HB.out.setCell (by simp) _).setCell (by simp) _).setCell (by simp) _).setCell (by simp) _, 0, 0, rfl⟩
        ·obtain rfl : tl = 0 := by omega
         have HAT := Lib.hid (HSEP.out.plain HN63.out)
         obtain ⟨W, hW⟩ : ∃ W, wr = W := ⟨_, rfl⟩
         have HWX : Hid (Blk W (w.heap.size + 1) 24 #[.int .i64 5, .int .i64 0, .slice A2 n2 cap2, .int .i64 0]) := Lib.hid (by rw [← hW]; exact HBX.out)
         have HWR : Hid (Blk W w.heap.size 24 #[.int .i64 0, .int .i64 0, .slice none 0 0, .int .i64 0]) := Lib.hid (by rw [← hW]; exact HBR.out)
         have HWA : Hid (AccT W (w.heap.size + 2) acc (.slice A2 n2 cap2)) := Lib.hid (by rw [← hW]; exact HACC.out)
         have HWB : Hid (Below w.heap.size w W) := Lib.hid (by rw [← hW]; exact HB.out)
         have HWZ : Hid (W.heap.size = wr.heap.size) := Lib.hid (by rw [← hW])
         have HW := Lib.hid hW
         have hq : (p + 1) ≤ s.size := by omega
         have ETL : Hid (((0 : Nat) : Int) = (0 : Int)) := Lib.hid rfl
         clear hW HSEP HN63
         have HI : Hid (∀ (V : World) (i : Int), i = ((((p + 1)) : Nat) : Int) → Calls Tryz.prog 42 #[.string s, .int .i64 i, .int .i64 ((deep + 1 : Nat) : Int)] V fun e w' => TyEnd s V (tItem f (s.data.toList.drop (((p + 1))))) e w') := Lib.hid (fun V i hi => by subst hi; exact IH.out s (((p + 1))) V hq hs)
         have E9 : Hid ((deep : Int) + 1 = ((deep + 1 : Nat) : Int)) := Lib.hid (by omega)
         go_wp2_with fail
         rw [E9.out]
         refine (HI.out _ _ (by first | rfl | omega)).mono ?_
         rintro e w4 hend
         rw [HW.out] at hend
         obtain ⟨T, HT⟩ : ∃ T, Hid (tItem f (s.data.toList.drop (((p + 1)))) = T) := ⟨_, Lib.hid rfl⟩
         rw [HT.out] at hend
         have hWz := HWZ.out
         cases T with
         | none =>
          obtain ⟨hb4, v0, v1, rfl⟩ := hend
          have HE := Lib.hid (HAT.out.none HT.out)
          have hz4 := hb4.size
          have hlw : w.heap.size < w4.heap.size := by omega
          have HB4 := Lib.hid (HWB.out.trans (hb4.mono (by omega)))
          clear r0 r1 r2' r3 rf0 rf1 rf2 rf3 b0 b1 b2 b3 bf0 bf1 bf2 bf3
          obtain ⟨r0, r1, r2', r3, rf0, rf1, rf2, rf3⟩ := blk4 (HWR.out.keep hb4 (by omega))
          clear hb4 hWz
          go_wp2
          refine bodyPost_ret (v := badTy 0 0) (by simp [badTy, results, Tryz.results42, go_sem, r0, r1, r2', r3, World.cell?_alloc_lt, hlw]) rfl ?_
          rw [HE.out]
          refine ⟨?_, 0, 0, rfl⟩
          exact (((((HB4.out.setCell (by simp) _).setCell (by simp) _).setCell (by simp) _).setCell (by simp) _).alloc (by simp [World.setCell]; omega) _)
         | some z =>
          obtain ⟨y, r⟩ := z
          obtain ⟨hb4, c0, c1, c2, c3, rfl, hy⟩ := hend
          obtain ⟨HN, hn1, hn2'⟩ := HAT.out.some hq HT.out
          have HREL := Lib.hid HN
          have hz4 := hb4.size
          have HX4 := Lib.hid (HWX.out.keep hb4 (by omega))
          have HR4 := Lib.hid (HWR.out.keep hb4 (by omega))
          have HA4 := Lib.hid (HWA.out.below hb4)
          have HB4 := Lib.hid (HWB.out.trans (hb4.mono (by omega)))
          have hge := HWA.out.ge
          have HY : Hid (∀ o o', TyS ((w4.alloc o).alloc o') (fun k => w.heap.size + 2 ≤ k ∧ (Value.slice A2 n2 cap2).ownBlock ≠ some k) y c0 c1 c2 c3) := Lib.hid (by
           intro o o'
           refine TyS.keep ?_ ?_ y hy
           ·intro k hk hS
            have hS : W.heap.size ≤ k := hS
            exact ⟨by omega, fun e => by have := (hge k e).2; omega⟩
           ·intro q hq _
            rw [World.cell?_alloc_lt _ _ _ (by rw [World.size_alloc]; omega), World.cell?_alloc_lt _ _ _ hq])
          have hlw : w.heap.size < w4.heap.size := by omega
          have hlw1 : w.heap.size + 1 < w4.heap.size := by omega
          have HGE := Lib.hid hge
          obtain ⟨AA, ccap, rfl, rfl, rfl, rfl, _⟩ := hy.open_
          clear r0 r1 r2' r3 rf0 rf1 rf2 rf3 b0 b1 b2 b3 bf0 bf1 bf2 bf3 hy HN hge hb4 hWz
          obtain ⟨b0, b1, b2, b3, bf0, bf1, bf2, bf3⟩ := blk4 HX4.out
          have hqn : ¬ ((s.size - r.length : Nat) : Int) < 0 := by omega
          have hqd : s.size - r.length ≤ s.size := by omega
          generalize s.size - r.length = pq at *
          go_wp2_with (at_builtin; refine wpList_append_type (by rfl) (.tmp 181) (.tmp 183) (by rfl) (w.heap.size + 2) acc (by rfl) ((HA4.out.below ((Below.refl _ _).alloc (Nat.le_refl _) _)).below ((Below.refl _ _).alloc (Nat.le_refl _) _)) y (HY.out _ _) _ (by rfl) (by simp) (by simp) (by simp) (by simp) (by first | omega | simp) (by simp only [World.size_alloc]; omega) ?_)
          intro g' n' cap' w5 hn' hacc5 hgr hlo
          have hno : ∀ k, k < w.heap.size + 2 → (Value.slice A2 n2 cap2).ownBlock ≠ some k := fun k hk e => by
           have := (HGE.out k e).1
           omega
          have HX5 := Lib.hid (((HX4.out.alloc _).alloc _).grown hgr (hno _ (by omega)))
          have HR5 := Lib.hid (((HR4.out.alloc _).alloc _).grown hgr (hno _ (by omega)))
          have HB5 : Hid (Below w.heap.size w w5) := Lib.hid (((HB4.out.alloc (by omega) _).alloc (by simp; omega) _).grown hgr (by simp; omega) (fun k hk => by have := (HGE.out k hk).1; omega))
          have hz5 := hgr.size
          simp only [World.size_alloc] at hz5
          have HA5 := Lib.hid hacc5
          clear b0 b1 b2 b3 bf0 bf1 bf2 bf3 hgr hacc5 hno
          obtain ⟨b0, b1, b2, b3, bf0, bf1, bf2, bf3⟩ := blk4 HX5.out
          go_wp2
          go_roundw
          case rel =>
           have key : ∃ (p : Nat) (acc : List Ty) (tl : Nat) (vv : Value), p ≤ s.size ∧ Value.int .i64 (pq : Int) = .int .i64 p ∧ Hid (TLoop f s R p acc tl) ∧ acc.length ≤ p ∧ tl ≤ p ∧ Blk (w5.setCell ⟨w.heap.size + 1, 2, none⟩ (.slice (some ⟨g', 0, none⟩) n' cap')) w.heap.size 24 #[.int .i64 0, .int .i64 0, .slice none 0 0, .int .i64 0] ∧ Blk (w5.setCell ⟨w.heap.size + 1, 2, none⟩ (.slice (some ⟨g', 0, none⟩) n' cap')) (w.heap.size + 1) 24 #[.int .i64 5, .int .i64 0, vv, .int .i64 tl] ∧ AccT (w5.setCell ⟨w.heap.size + 1, 2, none⟩ (.slice (some ⟨g', 0, none⟩) n' cap')) (w.heap.size + 2) acc vv ∧ Below w.heap.size w (w5.setCell ⟨w.heap.size + 1, 2, none⟩ (.slice (some ⟨g', 0, none⟩) n' cap')) ∧ w.heap.size + 2 ≤ (w5.setCell ⟨w.heap.size + 1, 2, none⟩ (.slice (some ⟨g', 0, none⟩) n' cap')).heap.size := by
            refine ⟨pq, acc ++ [y], 0, .slice (some ⟨g', 0, none⟩) n' cap', hn2', rfl, HREL, ?_, by omega, HR5.out.far (by simp) _, ?_, ?_, HB5.out.setCell (by simp) _, ?_⟩
            ·simp only [List.length_append, List.length_cons, List.length_nil] at hlen ⊢; omega
            ·rw [ETL.out]; exact HX5.out.store rfl
            ·exact HA5.out.only ((Only.refl [w.heap.size + 1] w5).setCell (p := ⟨w.heap.size + 1, 2, none⟩) (by simp) _) (by simp)
            ·simp [World.setCell]; omega
           first | exact key | ((repeat apply Exists.intro); exact ⟨key, rfl⟩)
          case measure => simp [intOf]; omega
      ·have HN63 : Hid (∀ hq : (p + 1) < s.size, s[(p + 1)].toNat ≠ 63) := Lib.hid (fun h => absurd h hqs)
       by_cases htl0 : 0 < tl
       ·have HE := Lib.hid (HSEP.out.none_ HN63.out htl0)
        go_wp2
        refine bodyPost_ret (v := badTy 0 0) (by simp [badTy, results, Tryz.results42, go_sem, r0, r1, r2', r3]) rfl ?_
        rw [HE.out]
        exact ⟨(((HB.out.setCell (by simp) _).setCell (by simp) _).setCell (by simp) _).setCell (by simp) _, 0, 0, rfl⟩
       ·obtain rfl : tl = 0 := by omega
        have HAT := Lib.hid (HSEP.out.plain HN63.out)
        obtain ⟨W, hW⟩ : ∃ W, wr = W := ⟨_, rfl⟩
        have HWX : Hid (Blk W (w.heap.size + 1) 24 #[.int .i64 5, .int .i64 0, .slice A2 n2 cap2, .int .i64 0]) := Lib.hid (by rw [← hW]; exact HBX.out)
        have HWR : Hid (Blk W w.heap.size 24 #[.int .i64 0, .int .i64 0, .slice none 0 0, .int .i64 0]) := Lib.hid (by rw [← hW]; exact HBR.out)
        have HWA : Hid (AccT W (w.heap.size + 2) acc (.slice A2 n2 cap2)) := Lib.hid (by rw [← hW]; exact HACC.out)
        have HWB : Hid (Below w.heap.size w W) := Lib.hid (by rw [← hW]; exact HB.out)
        have HWZ : Hid (W.heap.size = wr.heap.size) := Lib.hid (by rw [← hW])
        have HW := Lib.hid hW
        have hq : (p + 1) ≤ s.size := by omega
        have ETL : Hid (((0 : Nat) : Int) = (0 : Int)) := Lib.hid rfl
        clear hW HSEP HN63
        have HI : Hid (∀ (V : World) (i : Int), i = ((((p + 1)) : Nat) : Int) → Calls Tryz.prog 42 #[.string s, .int .i64 i, .int .i64 ((deep + 1 : Nat) : Int)] V fun e w' => TyEnd s V (tItem f (s.data.toList.drop (((p + 1))))) e w') := Lib.hid (fun V i hi => by subst hi; exact IH.out s (((p + 1))) V hq hs)
        have E9 : Hid ((deep : Int) + 1 = ((deep + 1 : Nat) : Int)) := Lib.hid (by omega)
        go_wp2_with fail
        rw [E9.out]
        refine (HI.out _ _ (by first | rfl | omega)).mono ?_
        rintro e w4 hend
        rw [HW.out] at hend
        have HT : Hid (tItem f (s.data.toList.drop (((p + 1)))) = none) := Lib.hid (by rw [List.drop_eq_nil_of_le (by simp; omega), tItem_nil])
        rw [HT.out] at hend
        have hWz := HWZ.out
        obtain ⟨hb4, v0, v1, rfl⟩ := hend
        have HE := Lib.hid (HAT.out.none HT.out)
        have hz4 := hb4.size
        have hlw : w.heap.size < w4.heap.size := by omega
        have HB4 := Lib.hid (HWB.out.trans (hb4.mono (by omega)))
        clear r0 r1 r2' r3 rf0 rf1 rf2 rf3 b0 b1 b2 b3 bf0 bf1 bf2 bf3
        obtain ⟨r0, r1, r2', r3, rf0, rf1, rf2, rf3⟩ := blk4 (HWR.out.keep hb4 (by omega))
        clear hb4 hWz
        go_wp2
        refine bodyPost_ret (v := badTy 0 0) (by simp [badTy, results, Tryz.results42, go_sem, r0, r1, r2', r3, World.cell?_alloc_lt, hlw]) rfl ?_
        rw [HE.out]
        refine ⟨?_, 0, 0, rfl⟩
        exact (((((HB4.out.setCell (by simp) _).setCell (by simp) _).setCell (by simp) _).setCell (by simp) _).alloc (by simp [World.setCell]; omega) _)
     ·have e7 : ((s[p].toNat : Int) != 44) = true := by simp; omega
      have HE := Lib.hid (hrel.out.bad hlp h125 h44 ha)
      clear h125 ha h44
      go_wp2
      refine bodyPost_ret (v := badTy 0 0) (by simp [badTy, results, Tryz.results42, go_sem, r0, r1, r2', r3]) rfl ?_
      rw [HE.out]
      exact ⟨(((HB.out.setCell (by simp) _).setCell (by simp) _).setCell (by simp) _).setCell (by simp) _, 0, 0, rfl⟩
  ·have HE := Lib.hid (hrel.out.stop (by omega))
   go_wp2
   refine bodyPost_ret (v := badTy 0 0) (by simp [badTy, results, Tryz.results42, go_sem, r0, r1, r2', r3]) rfl ?_
   rw [HE.out]
   exact ⟨(((HB.out.setCell (by simp) _).setCell (by simp) _).setCell (by simp) _).setCell (by simp) _, 0, 0, rfl⟩
end Go.Proofs.YtcppbdbbgakfcaaGreatDoor
