/- rlp.Next tells rdItem. -/
import Derived.Test.YtnfpgadegpmhkaaGreatDoorKA30
import Derived.Test.YtnfpgadegpmhkaaGreatDoorKA6
import Derived.Test.YtnfpgadegpmhkaaGreatDoorKA20
import Derived.Deep.LoopGhost
import Derived.Deep.RegionLaw
import Derived.Deep.DeepCutAuto
import Derived.BigQuiet
import Derived.Test.YtnfpgadegpmhkaaGreatDoorKA3
import Derived.Test.YtnfpgadegpmhkaaGreatDoorKA46
set_option linter.unusedVariables false
set_option linter.unusedSimpArgs false
set_option maxRecDepth 100000
set_option maxHeartbeats 4000000
namespace Go.Proofs.YtnfpgadegpmhkaaGreatDoor
open Go.RowKit
theorem info_rd : (Tryz.prog.info? 188).map (fun i => (i.zero, i.size, i.bytes)) = some (some (.agg #[.slice none 0 0, .int .i64 0]), 2, 32) := by kernel_rfl
theorem wpList_append_rd {w : World} {ops : Array Oper} {rest : List Oper} {o : Oper} {a : Act} {Q : Exit → Act → World → Prop} (hgd : o.guard = none) (s x : Operand)
 (ho : o.op = .call { callee := .builtin .append, args := #[s, x], argTypes := #[185, 185] }) {lo cp n : Nat} {A : Option Addr} {fs : List (List It × Nat)} (hL : StkW w lo A cp fs) (hnil : fs = [] → A = none ∧ cp = 0) (hlo : lo ≤ w.heap.size) (hn : n = fs.length)
 (hs : a.eval s = .slice A n cp) (en : Nat) (B : Nat) (hx : a.eval x = .slice (some ⟨B, 0, none⟩) 1 1) (hx0 : w.cell? ⟨B, 0, none⟩ = some (.slice none 0 0)) (hx1 : w.cell? ⟨B, 1, none⟩ = some (.int .i64 en)) (hlen : n ≤ 1024)
 (hK : ∀ g' cp' w', Hid (StkW w' lo (some ⟨g', 0, none⟩) cp' (([], en) :: fs)) → Hid (Below lo w w') → n + 1 ≤ cp' → cp' ≤ 9223372036854775807 → wpList Tryz.prog ops Q rest (a.put o.dst (.slice (some ⟨g', 0, none⟩) (n + 1) cp')) w') : wpList Tryz.prog ops Q (o :: rest) a w := by
 subst hn
 obtain ⟨i1, hi1, hzz0, hzz1, hzz2⟩ := info_parts info_rd
 have hsrc : ∀ (j : Nat) (u : Value), ([.slice none 0 0, .int .i64 en] : List Value)[j]? = some u → w.cell? ((⟨B, 0, none⟩ : Addr).add j) = some u := by
  intro j u hu
  have e1 : ∀ j, (⟨B, 0, none⟩ : Addr).add j = ⟨B, j, none⟩ := by intro j; unfold Addr.add; split <;> simp_all
  rw [e1]
  match j, hu with
  | 0, hu => simp at hu; subst hu; exact hx0
  | 1, hu => simp at hu; subst hu; exact hx1
 have h1c : ∀ u ∈ ([.slice none 0 0, .int .i64 en] : List Value), u.oneCell' = true := by
  intro u hu
  simp at hu
  rcases hu with rfl | rfl <;> rfl
 rcases hL with rfl | ⟨g, vs, rfl, hR⟩
 ·obtain ⟨rfl, rfl⟩ := hnil rfl
  refine wpList_append_lies w hgd s x 185 ho lo 188 i1 _ 2 32 Tryz.underlying185 hi1 hzz0 hzz1 hzz2 rfl (by decide) _ 0 [] hs (World.ownsRow_nil _ _ _ _) ⟨B, 0, none⟩ 1 1 [.slice none 0 0, .int .i64 en] hx rfl hsrc h1c (by decide) (by simp only [maxLen]; omega) (by omega) hlo w.heap.size rfl ?_
  intro g' cap' w' hown hgr hat hlt
  obtain ⟨_, _, hc1, hc2, _⟩ := ownsRow_block hown
  exact hK g' cap' w' (Lib.hid (.inr ⟨g', _, rfl, RdO.first en hown (Nat.le_trans hlo hgr.size)⟩)) (Lib.hid ((Below.refl lo w).grown hgr hlo (fun k hk => by cases hk))) hc1 hc2
 ·obtain ⟨hgS, hgl, _⟩ := hR.block
  refine wpList_append_lies w hgd s x 185 ho lo 188 i1 _ 2 32 Tryz.underlying185 hi1 hzz0 hzz1 hzz2 rfl (by decide) _ fs.length (flatV vs) hs hR.row ⟨B, 0, none⟩ 1 1 [.slice none 0 0, .int .i64 en] hx rfl hsrc h1c (by decide) (by simp only [maxLen]; omega) (by omega) hlo w.heap.size rfl ?_
  intro g' cap' w' hown hgr hat hlt
  obtain ⟨_, _, hc1, hc2, _⟩ := ownsRow_block hown
  exact hK g' cap' w' (Lib.hid (.inr ⟨g', _, rfl, hR.push en hown hgr hlo⟩)) (Lib.hid ((Below.refl lo w).grown hgr hlo (fun k hk => (show g = k by simpa [Value.ownBlock] using hk) ▸ hgS))) hc1 hc2
theorem qn {P : Program} {f : FuncId} {args : Array Value} {w : World} {n : Nat} {v : Value} (h : Calls P f args (w.drewN n) fun e w' => e = .returned v ∧ w.drewN n = w') :
 Calls P f args (w.drewN n) fun e w'' => e = .returned v ∧ ∃ m, w'' = w.drewN m := h.mono fun _ _ ⟨he, hw⟩ => ⟨he, n, hw.symm⟩
def NxEnd (w w' : World) (R : Rd) (e : Ending) : Prop :=
 Below w.heap.size w w' ∧ (R.e ≠ 0 → e = .returned (.tuple #[.agg #[.string ⟨#[]⟩, .bool false, .slice none 0 0], .int .i64 0, .int .i64 R.e])) ∧
 (R.e = 0 → ∃ c0 c1 c2, e = .returned (.tuple #[.agg #[c0, c1, c2], .int .i64 R.size, .int .i64 0]) ∧ ItS w' (w.heap.size ≤ ·) R.x c0 c1 c2)
theorem rlpNext_c (s : ByteArray) (D M : Int) (w : World) (hs : s.size ≤ 4611686018427387904) :
 Calls Tryz.prog 105 #[.string s, .int .i64 D, .int .i64 M] w fun e w' => NxEnd w w' (rdItem D M s 1 0) e := by
 obtain ⟨R, hR⟩ : ∃ R, rdItem D M s 1 0 = R := ⟨_, rfl⟩
 rw [hR]
 have HR := Lib.hid hR
 clear hR
 go_enter Tryz.func105, Tryz.ntmps105
 go_upto_region 4 with fail
 go_cut [1, 2] (fun d m wx => ∃ D' M' : Int, d = .int .i64 D' ∧ m = .int .i64 M' ∧ Hid (D' = min D 16) ∧ Hid (M' = min M 1024) ∧ wx = ((w.alloc (.cells #[.string ⟨#[]⟩, .bool false, .slice none 0 0] 28)).alloc (.cells #[.slice none 0 0] 185)).alloc (.cells #[.string ⟨#[]⟩, .bool false, .slice none 0 0] 28))
 case first =>
  go_wp2_with fail
  all_goals
   go_meet
   case rel => exact ⟨_, _, rfl, rfl, Lib.hid (by omega), Lib.hid (by omega), rfl⟩
 case rest =>
  obtain ⟨D', M', rfl, rfl, HD, HM, rfl⟩ := hcut
  obtain ⟨W0, hW0⟩ : ∃ W0, ((w.alloc (.cells #[.string ⟨#[]⟩, .bool false, .slice none 0 0] 28)).alloc (.cells #[.slice none 0 0] 185)).alloc (.cells #[.string ⟨#[]⟩, .bool false, .slice none 0 0] 28) = W0 := ⟨_, rfl⟩
  have HN0 : Hid (NxW w W0 none 0 0) := Lib.hid (by
   rw [← hW0]
   refine ⟨((Blk.new w _ _).alloc _).alloc _, ?_, ⟨.string ⟨#[]⟩, .bool false, .slice none 0 0, ?_⟩, (((Below.refl _ w).alloc (Nat.le_refl _) _).alloc (by simp) _).alloc (by simp; omega) _, by simp, Nat.le_refl _, by omega⟩
   ·have := (Blk.new (w.alloc (.cells #[.string ⟨#[]⟩, .bool false, .slice none 0 0] 28)) 185 #[.slice none 0 0]).alloc (.cells #[.string ⟨#[]⟩, .bool false, .slice none 0 0] 28)
    simpa using this
   ·have := Blk.new ((w.alloc (.cells #[.string ⟨#[]⟩, .bool false, .slice none 0 0] 28)).alloc (.cells #[.slice none 0 0] 185)) 28 #[.string ⟨#[]⟩, .bool false, .slice none 0 0]
    simpa using this)
  rw [hW0]
  clear hW0
  go_wp2_with fail
  go_loopg [12, 13, 14] (s.size + 1) (fun k vat vct vfst wr => ∃ (at_ count : Nat) (b : Bool) (fs : List (List It × Nat)) (r : Nat) (A : Option Addr) (cp : Nat), vat = .int .i64 at_ ∧ vct = .int .i64 count ∧ vfst = .bool b ∧ Hid (r = fs.length) ∧ Hid (NxW w wr A r cp) ∧ Hid (StkW wr (w.heap.size + 3) A cp fs) ∧ Hid ((PosP D M s R b fs at_ count ∧ (fs = [] → A = none ∧ cp = 0)) ∨ (b = false ∧ fs = [] ∧ MidP D M s R [] at_ count ∧ DoneW w wr R.x)) ∧ Hid (s.size + 1 ≤ at_ + k ∧ at_ ≤ s.size))
  case atStart => exact ⟨0, 0, true, [], 0, none, 0, rfl, rfl, rfl, Lib.hid rfl, HN0, Lib.hid (.inl rfl), Lib.hid (.inl ⟨⟨rfl, rfl, rfl, HR.out⟩, fun _ => ⟨rfl, rfl⟩⟩), Lib.hid (by omega)⟩
  case round =>
   obtain ⟨at_, count, b, fs, r, A, cp, rfl, rfl, rfl, HRF, HN, HK, HP, HSZ⟩ := hrel
   have q6 : wr.cell? ⟨w.heap.size + 1, 0, none⟩ = some (.slice A r cp) := HN.out.opn.cell 0
   have hwz := HN.out.siz
   have hcp := HN.out.mx
   have hrc := HN.out.le
   rcases HP.out with ⟨hpos, hnil⟩ | ⟨rfl, rfl, hm, hd⟩
   ·obtain ⟨hp1, hp2, hp3, hp4, hp5⟩ := hpos.le
    rw [← HRF.out] at hp4
    have HPOS := Lib.hid hpos
    have HNIL := Lib.hid hnil
    have HB5 := Lib.hid hp5
    obtain ⟨en, hen⟩ : ∃ en, topE s.size fs = en := ⟨_, rfl⟩
    rw [hen] at hp1 hp2
    have HEN := Lib.hid hen
    obtain ⟨⟨l, z, n, e⟩, hH⟩ : ∃ H, hd (s.extract at_ en) (tooDeep D (r + 1)) (tooMany M count) = H := ⟨_, rfl⟩
    have hzz : (s.extract at_ en).size ≤ 4611686018427387904 := by rw [size_cut _ _ _ hp2]; omega
    have HHD : Hid (∀ w, Calls Tryz.prog 146 #[.string (s.extract at_ en), .bool (decide (D' ≤ r)), .bool (decide (M' ≤ count))] w fun e' w' => e' = .returned (.tuple #[.bool l, .int .i64 z, .int .i64 n, .int .i64 e]) ∧ w = w') := Lib.hid (fun w => by
     have h1 : decide (D' ≤ r) = tooDeep D (r + 1) := by
      have := HD.out
      unfold tooDeep
      rw [Bool.eq_iff_iff]
      simp only [decide_eq_true_eq, Bool.or_eq_true]
      omega
     have h2 : decide (M' ≤ count) = tooMany M count := by
      have := HM.out
      unfold tooMany
      rw [Bool.eq_iff_iff]
      simp only [decide_eq_true_eq, Bool.or_eq_true]
      omega
     rw [h1, h2]
     have := rlpHead_c (s.extract at_ en) (tooDeep D (r + 1)) (tooMany M count) w hzz
     rwa [hH] at this)
    have HH := Lib.hid hH
    clear hpos hnil hp5 hen hH HP hzz
    go_upto_region 7 with fail
    go_cut [31] (fun v wx => v = .bool true ∧ wx = wr)
    case first =>
     cases b with
     | true =>
      go_wp2_with fail
      go_meet
      case rel => exact ⟨rfl, rfl⟩
     | false =>
      have hr0 : 0 < r := by
       have h1 := HB5.out
       have h2 := HRF.out
       cases fs with
       | nil => simp at h1
       | cons f fs => simp at h2; omega
      go_wp2_with fail
      go_meet
      case rel => exact ⟨rfl, rfl⟩
    case rest =>
     obtain ⟨rfl, rfl⟩ := hcut
     go_upto_if 35 with fail
     go_cut [15] (fun v wx => v = .int .i64 en ∧ wx = wc)
     case first =>
      cases b with
      | true =>
       obtain rfl := HB5.out.1 rfl
       obtain rfl : s.size = en := HEN.out
       go_wp2_with fail
       go_meet
       case rel => exact ⟨rfl, rfl⟩
      | false =>
       match fs, HK, HEN, HB5, HRF with
       | [], _, _, h5, _ => have h6 := h5.out.2 rfl; cases h6
       | (acc, en0) :: fs', HK, HEN, HB5, HRF =>
        obtain rfl : en0 = en := HEN.out
        obtain ⟨r, rfl⟩ : ∃ r', r = r' + 1 := ⟨r - 1, by have := HRF.out; simp at this; omega⟩
        rcases HK.out with h | ⟨g, vs, rfl, hR⟩
        ·cases h
        ·match vs, hR with
         | [], hR => exact absurd hR.rds.length (by simp)
         | (v0, v1) :: vs, hR =>
          obtain ⟨_, t1, _, _⟩ := hR.top
          rw [show fs'.length = r from by have := HRF.out; simp at this; omega] at t1
          dsimp only at t1
          clear hR
          go_wp2_with fail
          go_meet
          case rel => exact ⟨rfl, rfl⟩
     case rest =>
      obtain ⟨rfl, rfl⟩ := hcut
      go_wp2_with fail
      go_quiet ((go_at_call 146; exact qn (HHD.out _)))
      obtain ⟨wq, hwq⟩ : ∃ wq, wc.drewN nq = wq := ⟨_, rfl⟩
      have HN2 : Hid (NxW w wq A r cp) := Lib.hid (by rw [← hwq]; exact HN.out.below (Below.drewN' (Below.refl _ _) _))
      have HK2 : Hid (StkW wq (w.heap.size + 3) A cp fs) := Lib.hid (by rw [← hwq]; exact HK.out.below (Below.drewN' (Below.refl _ _) _))
      have q7 : wq.cell? ⟨w.heap.size + 1, 0, none⟩ = some (.slice A r cp) := HN2.out.opn.cell 0
      have q7f : wq.frozen? ⟨w.heap.size + 1, 0, none⟩ = false := HN2.out.opn.frozen 0
      have hwz2 := HN2.out.siz
      obtain ⟨p0, p1, p2, pf0, pf1, pf2⟩ := blk3 HN2.out.res
      rw [hwq]
      clear q6 hwz HN HK hwq
      have HERR : Hid (e ≠ 0 → R = Rd.bad (if b then e else within e)) := Lib.hid (fun he => HPOS.out.err (by rw [HEN.out, ← HRF.out]; exact HH.out) he)
      by_cases he2 : e = 2
      ·subst he2
       cases b with
       | true =>
        have HE : Hid (R = Rd.bad 2) := Lib.hid (HERR.out (by omega))
        clear HERR
        go_wp2
        obtain ⟨d0, d1, d2, _⟩ := blk3 (put3 HN2.out.res (.string ⟨#[]⟩) (.bool false) (.slice none 0 0))
        refine bodyPost_ret (v := .tuple #[.agg #[.string ⟨#[]⟩, .bool false, .slice none 0 0], .int .i64 0, .int .i64 2]) (by simp [results, Tryz.results105, go_sem, d0, d1, d2]) rfl ?_
        refine ⟨((HN2.out.bel.setCell (by simp) _).setCell (by simp) _).setCell (by simp) _, fun _ => ?_, fun h => ?_⟩
        ·rw [HE.out]; rfl
        ·rw [HE.out] at h
         simp [Rd.bad] at h
         try first | omega | exact absurd h he0
       | false =>
        have HE : Hid (R = Rd.bad 3) := Lib.hid (HERR.out (by omega))
        clear HERR
        go_wp2
        obtain ⟨d0, d1, d2, _⟩ := blk3 (put3 HN2.out.res (.string ⟨#[]⟩) (.bool false) (.slice none 0 0))
        refine bodyPost_ret (v := .tuple #[.agg #[.string ⟨#[]⟩, .bool false, .slice none 0 0], .int .i64 0, .int .i64 3]) (by simp [results, Tryz.results105, go_sem, d0, d1, d2]) rfl ?_
        refine ⟨((HN2.out.bel.setCell (by simp) _).setCell (by simp) _).setCell (by simp) _, fun _ => ?_, fun h => ?_⟩
        ·rw [HE.out]; rfl
        ·rw [HE.out] at h
         simp [Rd.bad] at h
         try first | omega | exact absurd h he0
      ·by_cases he0 : e = 0
       ·subst he0
        clear HERR
        have HQ : Hid (hd (s.extract at_ (topE s.size fs)) (tooDeep D (fs.length + 1)) (tooMany M count) = (l, z, n, 0)) := Lib.hid (by rw [HEN.out, ← HRF.out]; exact HH.out)
        have hzs : at_ + z + n ≤ s.size ∧ 1 ≤ z + n ∧ count + 1 ≤ 1024 ∧ (l = true → 1 ≤ z) := by
         cases l with
         | true => obtain ⟨_, h2, h3, h4⟩ := HPOS.out.list HQ.out; exact ⟨h2, by omega, h4, fun _ => h3⟩
         | false => obtain ⟨h2, h3, h4, _⟩ := HPOS.out.text HQ.out; exact ⟨h2, h3, h4, (fun h => by cases h)⟩
        obtain ⟨hz1, hz2, hz3, hz4⟩ := hzs
        have HZ4 := Lib.hid hz4
        clear HHD HH hz4 hp1 hp2
        go_upto_if 75 with fail
        go_cut [12] (fun v wx => ∃ (at2 : Nat) (fs2 : List (List It × Nat)) (r2 : Nat) (A2 : Option Addr) (cp2 : Nat), v = .int .i64 at2 ∧ Hid (r2 = fs2.length) ∧ Hid (NxW w wx A2 r2 cp2) ∧ Hid (StkW wx (w.heap.size + 3) A2 cp2 fs2) ∧ Hid (MidP D M s R fs2 at2 (count + 1) ∧ (fs2 = [] → DoneW w wx R.x)) ∧ Hid (at_ < at2 ∧ at2 ≤ s.size))
        case first =>
         cases l with
         | true =>
          have hcast : ((at_ + z + n : Nat) : Int) = (at_ : Int) + z + n := by omega
          have HCX : Hid (Blk (wq.alloc (.cells #[.slice none 0 0, .int .i64 ((at_ : Int) + z + n)] 188)) wq.heap.size 188 #[.slice none 0 0, .int .i64 ((at_ : Int) + z + n)]) := Lib.hid (Blk.new wq _ _)
          have HCA := Lib.hid hcast
          have HK3 : Hid (∀ o, StkW (wq.alloc o) (w.heap.size + 3) A cp fs) := Lib.hid (fun o => HK2.out.below ((Below.refl _ _).alloc (Nat.le_refl _) o))
          clear hcast
          go_wp2_with (at_builtin; refine Hid.out ?_)
          refine Lib.hid ?_
          refine wpList_append_rd (by rfl) (.tmp 76) (.tmp 81) (by rfl) (HK3.out _) HNIL.out (by simp; omega) HRF.out (by rfl) (at_ + z + n) wq.heap.size (by rfl) (HCX.out.cell 0) (by rw [HCA.out]; exact HCX.out.cell 1) hp4 ?_
          intro g' cp' w3 hk3 hb3 hc3 hm3
          have HN3 : Hid (NxW w w3 A r cp) := Lib.hid (HN2.out.below (((Below.refl _ wq).alloc hwz2 _).trans hb3.out))
          have q8 : w3.cell? ⟨w.heap.size + 1, 0, none⟩ = some (.slice A r cp) := HN3.out.opn.cell 0
          have q8f : w3.frozen? ⟨w.heap.size + 1, 0, none⟩ = false := HN3.out.opn.frozen 0
          have HL := Lib.hid (HPOS.out.list HQ.out)
          clear hb3 HK3 HCX HK2 HN2 HPOS HQ
          go_wp2_with fail
          go_meet
          case rel =>
           refine ⟨at_ + z, ([], at_ + z + n) :: fs, r + 1, some ⟨g', 0, none⟩, cp', by go_num, Lib.hid (by rw [HRF.out]; rfl), Lib.hid (HN3.out.store hc3 hm3), Lib.hid (hk3.out.only ((Only.refl [w.heap.size + 1] w3).setCell (by simp) _) (by simp)), Lib.hid ⟨HL.out.1, (fun h => by cases h)⟩, Lib.hid ⟨?_, ?_⟩⟩
           ·have := HL.out.2.2.1; omega
           ·omega
         | false =>
          obtain ⟨_, _, _, ht1, ht2⟩ := HPOS.out.text HQ.out
          have HT1 := Lib.hid ht1
          have HT2 := Lib.hid ht2
          have htz : (s.extract (at_ + z) (at_ + z + n)).size ≤ 9223372036854775807 := by rw [size_cut _ _ _ hz1]; omega
          have HTS : Hid (∀ (W : World) (S : Nat → Prop), ItS W S (.mk (s.extract (at_ + z) (at_ + z + n)) false []) (.string (s.extract (at_ + z) (at_ + z + n))) (.bool false) (.slice none 0 0)) := Lib.hid (fun W S => ItS.text false htz)
          have e1 : ((at_ : Int) + z).toNat = at_ + z := by omega
          have e2 : ((at_ : Int) + z + n).toNat = at_ + z + n := by omega
          clear ht1 ht2 HQ htz
          cases b with
          | true =>
           obtain rfl := HB5.out.1 rfl
           obtain rfl : r = 0 := HRF.out
           obtain ⟨rfl, rfl⟩ := HNIL.out rfl
           obtain ⟨z0, z1, z2, hz10⟩ := HN2.out.who
           have HA := Lib.hid (add_none wq (w.heap.size + 1) (w.heap.size + 2) none 0 (s.extract (at_ + z) (at_ + z + n)) false none 0 0 z0 z1 z2 (by omega) HN2.out.opn hz10 (by omega))
           clear hz10 p0 p1 p2 pf0 pf1 pf2 HK2
           go_wp2_with fail
           refine HA.out.mono ?_
           rintro e' w3 ⟨rfl, hbk, ho⟩
           go_wp2_with fail
           go_meet
           case rel =>
            have hR0 := HT1.out (by simp)
            refine ⟨at_ + z + n, [], 0, none, 0, by go_num, Lib.hid rfl, Lib.hid (HN2.out.only ho hbk), Lib.hid (.inl rfl), Lib.hid ⟨?_, fun _ => ?_⟩, Lib.hid ⟨?_, ?_⟩⟩
            ·rw [hR0]; exact ⟨rfl, rfl⟩
            ·rw [hR0]; exact ⟨_, _, _, hbk, HTS.out _ _⟩
            ·omega
            ·omega
          | false =>
           match fs, HK2, HB5, HRF, HT2 with
           | [], _, h5, _, _ => have h6 := h5.out.2 rfl; cases h6
           | (acc, en0) :: fs', HK2, HB5, HRF, HT2 =>
            rcases HK2.out with h | ⟨g, vs, rfl, hR⟩
            ·cases h
            ·match vs, hR with
             | [], hR => exact absurd hR.rds.length (by simp)
             | (v0, v1) :: vs, hR =>
              obtain rfl : r = fs'.length + 1 := HRF.out
              have hm := (HT2.out acc en0 fs' rfl)
              have hml : acc.length ≤ 1024 := by
               obtain ⟨_, _, _, h4, h5⟩ := hm
               simp only [tally, List.length_append, List.length_singleton] at h4
               omega
              have HMM := Lib.hid hm
              have HA := Lib.hid (add_some wq (w.heap.size + 3) wq.heap.size g cp (w.heap.size + 1) (w.heap.size + 2) acc en0 fs' v0 v1 vs _ _ _ _ HN2.out.opn hR (HTS.out wq _) (by omega))
              clear hR hm p0 p1 p2 pf0 pf1 pf2 HK2 HTS HT1 HT2
              go_wp2_with fail
              refine HA.out.mono ?_
              rintro e' w3 ⟨rfl, hb3, v0', hR3⟩
              go_wp2_with fail
              go_meet
              case rel => exact ⟨at_ + z + n, (acc ++ [_], en0) :: fs', fs'.length + 1, some ⟨g, 0, none⟩, cp, by go_num, Lib.hid rfl, Lib.hid (HN2.out.below hb3), Lib.hid (.inr ⟨g, _, rfl, hR3⟩), Lib.hid ⟨HMM.out, (fun h => by cases h)⟩, Lib.hid ⟨by omega, by omega⟩⟩
        case rest =>
         obtain ⟨at2, fs2, r2, A2, cp2, rfl, HR2, HN3, HK3, HP3, HZ3⟩ := hcut
         have HMZ : Hid (s.size + 1 ≤ at2 + (gk - 1) ∧ at2 ≤ s.size ∧ 1 ≤ gk) := Lib.hid (by have := HZ3.out; have := HSZ.out; omega)
         clear q7 q7f hwz2 p0 p1 p2 pf0 pf1 pf2 HN2 HK2 HQ HPOS HNIL HB5 HEN HSZ HZ3 HRF HZ4 hcp hrc hp3 hp4 hz1 hz2
         obtain ⟨ct, hct⟩ : ∃ ct, count + 1 = ct := ⟨_, rfl⟩
         have HCC : Hid ((count : Int) + 1 = ct) := Lib.hid (by omega)
         rw [hct] at HP3 hz3
         clear hct
         go_wp2_with fail
         obtain ⟨gO, rfl⟩ : ∃ g : Nat, g = gk := ⟨_, rfl⟩
         go_loopg [] (fs2.length) (fun k wr => ∃ (fs2 : List (List It × Nat)) (r2 : Nat) (A2 : Option Addr) (cp2 : Nat), Hid (r2 = fs2.length) ∧ Hid (NxW w wr A2 r2 cp2) ∧ Hid (StkW wr (w.heap.size + 3) A2 cp2 fs2) ∧ Hid (MidP D M s R fs2 at2 ct ∧ (fs2 = [] → DoneW w wr R.x)) ∧ Hid (fs2.length ≤ k))
         case atStart => exact ⟨fs2, r2, A2, cp2, HR2, HN3, HK3, HP3, Lib.hid (Nat.le_refl _)⟩
         case round =>
          clear HR2 HN3 HK3 HP3
          obtain ⟨fs2, r2, A2, cp2, HR2, HN3, HK3, HP3, HZ3⟩ := hrel
          have q6 : wr.cell? ⟨w.heap.size + 1, 0, none⟩ = some (.slice A2 r2 cp2) := HN3.out.opn.cell 0
          have q6f : wr.frozen? ⟨w.heap.size + 1, 0, none⟩ = false := HN3.out.opn.frozen 0
          have hcp := HN3.out.mx
          have hrc := HN3.out.le
          have hwz := HN3.out.siz
          have hgO : gO - 1 < gO := by have := HMZ.out; omega
          match fs2, HR2, HK3, HP3, HZ3 with
          | [], HR2, HK3, HP3, HZ3 =>
           obtain rfl : r2 = 0 := HR2.out
           go_wp2
           go_roundg (gO - 1)
           case measure => exact hgO
           case rel => exact ⟨at2, ct, false, [], 0, A2, cp2, rfl, by rw [HCC.out], rfl, Lib.hid rfl, HN3, HK3, Lib.hid (.inr ⟨rfl, rfl, HP3.out.1, HP3.out.2 (by simp)⟩), Lib.hid ⟨HMZ.out.1, HMZ.out.2.1⟩⟩
          | (acc, en2) :: fs3, HR2, HK3, HP3, HZ3 =>
           obtain ⟨r3, hr3⟩ : ∃ r3, fs3.length = r3 := ⟨_, rfl⟩
           obtain rfl : r2 = r3 + 1 := by rw [← hr3]; exact HR2.out
           rcases HK3.out with h | ⟨g, vs, rfl, hR⟩
           ·cases h
           match vs, hR with
           | [], hR => exact absurd hR.rds.length (by simp)
           | (v0, v1) :: vs, hR =>
            have HRO := Lib.hid hR
            obtain ⟨t0, t1, _, _⟩ := hR.top
            rw [hr3] at t0 t1
            dsimp only at t0 t1
            have HR3 := Lib.hid hr3
            clear hR hr3
            by_cases hen : en2 = at2
            ·subst hen
             obtain ⟨m, hm1, hm2, hF, hRm⟩ := HRO.out.pop
             have hln := HP3.out.1.len
             obtain ⟨A4, cap4, rfl, hc4, hm4, hit⟩ := hF.list (by omega)
             obtain ⟨n4, hn4⟩ : ∃ n4, acc.length = n4 := ⟨_, rfl⟩
             rw [hn4] at t0 hc4
             have HN4 := Lib.hid hn4
             have HMD := Lib.hid HP3.out.1
             have HO3 : Hid (Only [w.heap.size + 1] wr (wr.setCell ⟨w.heap.size + 1, 0, none⟩ (.slice (some ⟨g, 0, none⟩) r3 cp2))) := Lib.hid ((Only.refl [w.heap.size + 1] wr).setCell (by simp) _)
             have HN5 : Hid (NxW w (wr.setCell ⟨w.heap.size + 1, 0, none⟩ (.slice (some ⟨g, 0, none⟩) r3 cp2)) (some ⟨g, 0, none⟩) r3 cp2) := Lib.hid (HN3.out.store (by omega) hcp)
             have HIT : Hid (ItS (wr.setCell ⟨w.heap.size + 1, 0, none⟩ (.slice (some ⟨g, 0, none⟩) r3 cp2)) (fun k => m ≤ k ∧ NoRd (wr.setCell ⟨w.heap.size + 1, 0, none⟩ (.slice (some ⟨g, 0, none⟩) r3 cp2)) k) (listIt acc) (.string ⟨#[]⟩) (.bool true) (.slice A4 n4 n4)) := Lib.hid (by
              have h1 := hit n4 (by omega) (by omega)
              rw [hn4] at h1
              refine ItS.keep (fun k hk hS => ⟨hS.1, hS.2.of_eq (HO3.out.block k hk (by simp; omega))⟩) (fun p hp hS => HO3.out.cell hp (by simp; omega)) _ h1)
             have HM1 := Lib.hid hm1
             clear hit hF hn4 hm1 hm2
             match fs3, vs, hRm, HR3, HMD with
             | [], vs, hRm, HR3, HMD =>
              obtain rfl : r3 = 0 := HR3.out.symm
              obtain ⟨z0, z1, z2, hz10⟩ := HN5.out.who
              have HA := Lib.hid (add_none _ (w.heap.size + 1) (w.heap.size + 2) (some ⟨g, 0, none⟩) cp2 ⟨#[]⟩ true A4 n4 n4 z0 z1 z2 hcp HN5.out.opn hz10 (by omega))
              have HRD := Lib.hid HMD.out.done
              clear hz10 hRm
              go_wp2_with fail
              refine HA.out.mono ?_
              rintro e' w3 ⟨rfl, hbk, ho⟩
              go_wp2
              go_roundg (gk - 1)
              case measure => have := HZ3.out; simp at this; omega
              case rel =>
               refine ⟨[], 0, some ⟨g, 0, none⟩, cp2, Lib.hid rfl, Lib.hid (HN5.out.only ho hbk), Lib.hid (.inl rfl), Lib.hid ⟨?_, fun _ => ?_⟩, Lib.hid (by simp)⟩
               ·rw [HRD.out]; exact ⟨rfl, rfl⟩
               ·rw [HRD.out]
                refine ⟨_, _, _, hbk, HIT.out.only ho (fun k hk hS => ?_) (fun k _ h => ?_)⟩
                ·have h1 := HM1.out
                 have h2 := hS.1
                 simp at hk
                 omega
                have := HM1.out
                exact Nat.le_trans this h.1
             | (acc', en') :: fs4, [], hRm, _, _ => exact absurd hRm.rds.length (by simp)
             | (acc', en') :: fs4, (u0, u1) :: vs4, hRm, HR3, HMD =>
              obtain rfl : r3 = fs4.length + 1 := HR3.out.symm
              have hcl := HMD.out.close
              have hl4 := hcl.len
              simp only [List.length_append, List.length_singleton] at hl4
              have HCL := Lib.hid hcl
              have hR5 := hRm.only HO3.out (by simp)
              have HA := Lib.hid (add_some _ (w.heap.size + 3) m g cp2 (w.heap.size + 1) (w.heap.size + 2) acc' en' fs4 u0 u1 vs4 _ _ _ _ HN5.out.opn hR5 HIT.out (by omega))
              clear hcl hl4 hR5 hRm
              go_wp2_with fail
              refine HA.out.mono ?_
              rintro e' w3 ⟨rfl, hb3, v0', hR6⟩
              go_wp2
              go_roundg (gk - 1)
              case measure => have := HZ3.out; simp at this; omega
              case rel => exact ⟨(acc' ++ [listIt acc], en') :: fs4, fs4.length + 1, some ⟨g, 0, none⟩, cp2, Lib.hid rfl, Lib.hid (HN5.out.below hb3), Lib.hid (.inr ⟨g, _, rfl, hR6⟩), Lib.hid ⟨HCL.out, (fun h => by cases h)⟩, Lib.hid (by have := HZ3.out; simp at this ⊢; omega)⟩
            ·have k1 : ((en2 : Int) == (at2 : Int)) = false := beq_eq_false_iff_ne.2 (by omega)
             have k2 : (en2 == at2) = false := beq_eq_false_iff_ne.2 hen
             have HNX := Lib.hid (HP3.out.1.next hen)
             clear hen
             go_wp2
             go_roundg (gO - 1)
             case measure => exact hgO
             case rel => exact ⟨at2, ct, false, (acc, en2) :: fs3, r3 + 1, some ⟨g, 0, none⟩, cp2, rfl, by rw [HCC.out], rfl, HR2, HN3, HK3, Lib.hid (.inl ⟨HNX.out, (fun h => by cases h)⟩), Lib.hid ⟨HMZ.out.1, HMZ.out.2.1⟩⟩
       ·have k2 : (e == 2) = false := beq_eq_false_iff_ne.2 he2
        have k0 : (e != 0) = true := by simp [he0]
        have HE : Hid (R = Rd.bad e) := Lib.hid (by
         have := HERR.out he0
         rw [this]
         cases b
         ·simp [within, he2]
         ·simp)
        clear HERR
        go_wp2
        obtain ⟨d0, d1, d2, _⟩ := blk3 (put3 HN2.out.res (.string ⟨#[]⟩) (.bool false) (.slice none 0 0))
        refine bodyPost_ret (v := .tuple #[.agg #[.string ⟨#[]⟩, .bool false, .slice none 0 0], .int .i64 0, .int .i64 e]) (by simp [results, Tryz.results105, go_sem, d0, d1, d2]) rfl ?_
        refine ⟨((HN2.out.bel.setCell (by simp) _).setCell (by simp) _).setCell (by simp) _, fun _ => ?_, fun h => ?_⟩
        ·rw [HE.out]; rfl
        ·rw [HE.out] at h
         simp [Rd.bad] at h
         try first | omega | exact absurd h he0
   ·obtain rfl : r = 0 := HRF.out
    obtain ⟨he, rfl⟩ := hm
    obtain ⟨c0, c1, c2, hb10, hit⟩ := hd
    obtain ⟨A2, k2, rfl, rfl, rfl, _⟩ := hit.open_
    obtain ⟨g0, g1, g2, _⟩ := blk3 hb10
    obtain ⟨p0, p1, p2, pf0, pf1, pf2⟩ := blk3 HN.out.res
    clear HP
    go_wp2
    obtain ⟨d0, d1, d2, _⟩ := blk3 (put3 HN.out.res (.string R.x.text) (.bool R.x.list) (.slice A2 R.x.sub.length k2))
    refine bodyPost_ret (v := .tuple #[.agg #[.string R.x.text, .bool R.x.list, .slice A2 R.x.sub.length k2], .int .i64 R.size, .int .i64 0]) (by simp [results, Tryz.results105, go_sem, d0, d1, d2]) rfl ?_
    refine ⟨((HN.out.bel.setCell (by simp) _).setCell (by simp) _).setCell (by simp) _, fun h => absurd he h, fun _ => ⟨_, _, _, rfl, ?_⟩⟩
    exact hit.only ((((Only.refl [w.heap.size] wr).setCell (by simp) _).setCell (by simp) _).setCell (by simp) _) (by simp) (fun k _ h => by omega)
theorem rlpGet_c (s : ByteArray) (D M : Int) (w : World) (hs : s.size ≤ 4611686018427387904) :
 Calls Tryz.prog 74 #[.string s, .int .i64 D, .int .i64 M] w fun e w' => GtEnd w w' (getX D M s) (getE D M s) e := by
 obtain ⟨W0, hW0⟩ : ∃ W0, w.alloc (.cells #[.string ⟨#[]⟩, .bool false, .slice none 0 0] 28) = W0 := ⟨_, rfl⟩
 obtain ⟨b1, b2, b3⟩ := box3 hW0.symm
 have HC := Lib.hid (rlpNext_c s D M W0 hs)
 have HGE : Hid (getE D M s = if (rdItem D M s 1 0).e ≠ 0 then (rdItem D M s 1 0).e else if (rdItem D M s 1 0).size < s.size then 3 else 0) := Lib.hid rfl
 have HGX : Hid (getX D M s = if getE D M s ≠ 0 then noIt else (rdItem D M s 1 0).x) := Lib.hid rfl
 generalize getX D M s = X at *
 generalize getE D M s = E at *
 generalize rdItem D M s 1 0 = R at *
 obtain ⟨x, size, items, re⟩ := R
 have HB1 := Lib.hid b1
 have HB2 := Lib.hid b2
 have HB3 := Lib.hid b3
 have HW0 := Lib.hid hW0
 clear b1 b2 b3 hW0
 by_cases h0 : re = 0
 ·subst h0
  by_cases h1 : size < s.size
  ·have HE : Hid (E = 3 ∧ X = noIt) := Lib.hid (by
    have h2 : E = 3 := by rw [HGE.out, if_neg (by simp), if_pos h1]
    exact ⟨h2, by rw [HGX.out, if_pos (by omega)]⟩)
   clear HGE HGX
   go_enter Tryz.func74, Tryz.ntmps74
   go_wp2_with fail
   rw [HW0.out]
   refine HC.out.mono ?_
   rintro e w1 ⟨hb, _, hx⟩
   obtain ⟨c0, c1, c2, rfl, hit⟩ := hx rfl
   obtain ⟨A, k, rfl, rfl, rfl, _⟩ := hit.open_
   have HIT := Lib.hid hit
   clear hit
   have h6 := HB3.out.keep hb (by have := HB2.out; omega)
   have hz := hb.size
   have hz0 := HB2.out
   obtain ⟨p0, p1, p2, pf0, pf1, pf2⟩ := blk3 h6
   have HB6 := Lib.hid h6
   have HBB : Hid (Below w.heap.size w w1) := Lib.hid (HB1.out.trans (hb.mono (by omega)))
   have hlt : w.heap.size < w1.heap.size := by omega
   clear h6 hb hx hz hz0
   go_wp2
   obtain ⟨d0, d1, d2, _⟩ := blk3 ((put3 HB6.out (.string ⟨#[]⟩) (.bool false) (.slice none 0 0)).alloc (.cells #[.string x.text, .bool x.list, .slice A x.sub.length k] 28))
   refine bodyPost_ret (v := .tuple #[.agg #[(.string ⟨#[]⟩), (.bool false), (.slice none 0 0)], .int .i64 3]) (by simp [results, Tryz.results74, go_sem, d0, d1, d2]) rfl ?_
   rw [HE.out.1, HE.out.2]
   refine ⟨(((HBB.out.setCell (by simp) _).setCell (by simp) _).setCell (by simp) _).alloc (by simp [World.setCell]; omega) _, _, _, _, rfl, ?_⟩
   exact noIt_S _ _
  ·have HE : Hid (E = 0 ∧ X = x) := Lib.hid (by
    have h2 : E = 0 := by rw [HGE.out, if_neg (by simp), if_neg h1]
    exact ⟨h2, by rw [HGX.out, if_neg (by omega)]⟩)
   clear HGE HGX
   go_enter Tryz.func74, Tryz.ntmps74
   go_wp2_with fail
   rw [HW0.out]
   refine HC.out.mono ?_
   rintro e w1 ⟨hb, _, hx⟩
   obtain ⟨c0, c1, c2, rfl, hit⟩ := hx rfl
   obtain ⟨A, k, rfl, rfl, rfl, _⟩ := hit.open_
   have HIT := Lib.hid hit
   clear hit
   have h6 := HB3.out.keep hb (by have := HB2.out; omega)
   have hz := hb.size
   have hz0 := HB2.out
   obtain ⟨p0, p1, p2, pf0, pf1, pf2⟩ := blk3 h6
   have HB6 := Lib.hid h6
   have HBB : Hid (Below w.heap.size w w1) := Lib.hid (HB1.out.trans (hb.mono (by omega)))
   have hlt : w.heap.size < w1.heap.size := by omega
   clear h6 hb hx hz hz0
   go_wp2
   obtain ⟨d0, d1, d2, _⟩ := blk3 ((put3 HB6.out (.string x.text) (.bool x.list) (.slice A x.sub.length k)).alloc (.cells #[.string x.text, .bool x.list, .slice A x.sub.length k] 28))
   refine bodyPost_ret (v := .tuple #[.agg #[(.string x.text), (.bool x.list), (.slice A x.sub.length k)], .int .i64 0]) (by simp [results, Tryz.results74, go_sem, d0, d1, d2]) rfl ?_
   rw [HE.out.1, HE.out.2]
   refine ⟨(((HBB.out.setCell (by simp) _).setCell (by simp) _).setCell (by simp) _).alloc (by simp [World.setCell]; omega) _, _, _, _, rfl, ?_⟩
   have := HB2.out
   exact HIT.out.only (((((Only.refl [w.heap.size] w1).setCell (by simp) _).setCell (by simp) _).setCell (by simp) _).alloc _) (by simp; omega) (fun k _ h => by omega)
 ·have HE : Hid (E = re ∧ X = noIt) := Lib.hid (by
   have h2 : E = re := by rw [HGE.out, if_pos h0]
   exact ⟨h2, by rw [HGX.out, if_pos (by omega)]⟩)
  have k0 : (re == 0) = false := beq_eq_false_iff_ne.2 h0
  have k1 : (re != 0) = true := by simp [h0]
  have H0 := Lib.hid h0
  clear HGE HGX h0
  go_enter Tryz.func74, Tryz.ntmps74
  go_wp2_with fail
  rw [HW0.out]
  refine HC.out.mono ?_
  rintro e w1 ⟨hb, hx, _⟩
  obtain rfl := hx H0.out
  dsimp only
  have h6 := HB3.out.keep hb (by have := HB2.out; omega)
  have hz := hb.size
  have hz0 := HB2.out
  obtain ⟨p0, p1, p2, pf0, pf1, pf2⟩ := blk3 h6
  have HB6 := Lib.hid h6
  have HBB : Hid (Below w.heap.size w w1) := Lib.hid (HB1.out.trans (hb.mono (by omega)))
  have hlt : w.heap.size < w1.heap.size := by omega
  clear h6 hb hx hz hz0
  go_wp2
  obtain ⟨d0, d1, d2, _⟩ := blk3 ((put3 HB6.out (.string ⟨#[]⟩) (.bool false) (.slice none 0 0)).alloc (.cells #[.string ⟨#[]⟩, .bool false, .slice none 0 0] 28))
  refine bodyPost_ret (v := .tuple #[.agg #[.string ⟨#[]⟩, .bool false, .slice none 0 0], .int .i64 re]) (by simp [results, Tryz.results74, go_sem, d0, d1, d2]) rfl ?_
  rw [HE.out.1, HE.out.2]
  refine ⟨(((HBB.out.setCell (by simp) _).setCell (by simp) _).setCell (by simp) _).alloc (by simp [World.setCell]; omega) _, _, _, _, rfl, ?_⟩
  exact noIt_S _ _
end Go.Proofs.YtnfpgadegpmhkaaGreatDoor
