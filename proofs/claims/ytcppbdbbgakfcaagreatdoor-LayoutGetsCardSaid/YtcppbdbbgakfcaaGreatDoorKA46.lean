/- The document's read of a value: a List. -/
import Derived.Test.YtcppbdbbgakfcaaGreatDoorKA44
import Derived.Test.YtcppbdbbgakfcaaGreatDoorKA36
set_option linter.unusedVariables false
set_option linter.unusedSimpArgs false
set_option maxRecDepth 100000
set_option maxHeartbeats 4000000
namespace Go.Proofs.YtcppbdbbgakfcaaGreatDoor
open Go.RowKit
theorem size_of_R {w W3 : World} {a b : Obj} (h : (w.alloc a).alloc b = W3) : W3.heap.size = w.heap.size + 1 + 1 := by rw [← h]; simp
theorem read_four (a : Ty) (zn : Nat) (B : Nat) (A : Option Addr) (cap : Nat) (w : World) (g : Nat) (s : ByteArray) (kp n : Nat) (M : Int) (hS : Rd1 w g s kp 0) (hk : kp ≤ s.size) (hs : s.size ≤ 1099511627776) (hM : ¬ min M 1024 ≤ n) (hz8 : zn ≤ 1024)
 (hT : TysIn w B [a] A 0) (hB : B ≤ w.heap.size) (hBg : B ≤ g) (hra : a.right = true)
 (IH : Hid (∀ V c0 c1 c2 c3 kp (n : Nat), TyIn V B a c0 c1 c2 c3 → B ≤ V.heap.size → Rd1 V g s kp 0 → kp ≤ s.size → n ≤ 1024 → Calls Tryz.prog 41 #[.pointer (some ⟨g, 0, none⟩), .agg #[c0, c1, c2, c3], .int .i64 n, .int .i64 M] V fun e w' => RedEnd V g s (a.rd (min M 1024) n (s.data.toList.drop kp)) e w')) :
 Calls Tryz.prog 41 #[.pointer (some ⟨g, 0, none⟩), .agg #[.int .i64 4, .int .i64 zn, .slice A [a].length cap, .int .i64 0], .int .i64 n, .int .i64 M] w fun e w' => RedEnd w g s ((Ty.mk 4 zn [a] 0).rd (min M 1024) n (s.data.toList.drop kp)) e w' := by
 have hlt := hS.lt
 have d0 : decide (M < (n : Int) + 1) = false := decide_eq_false (by omega)
 have d1 : decide ((1024 : Int) < (n : Int) + 1) = false := decide_eq_false (by omega)
 rw [rd_four hM]
 have HNC := Lib.hid (fun V (hV : Rd1 V g s kp 0) => refCpRead_c g s kp zn V hV hk (by omega) (by omega))
 have hback := fun (h0 : (cpNext (s.data.toList.drop kp)).2.2 = 0) => (cpNext_back (s.data.toList.drop kp) (cpNext (s.data.toList.drop kp)).1 (cpNext (s.data.toList.drop kp)).2.1 (by rw [← h0])).2.1
 rw [List.length_drop, toList_size] at hback
 have HWY := cpRd_ways (cpNext (s.data.toList.drop kp)) zn kp
 have ez1 : IntKind.u64.wrap (zn : Int) = zn := IntWalk.u64_in _ (by omega)
 obtain ⟨b, o, t0, t1, t2, t3, rfl, hbB, e0, e1, e2, e3, hta⟩ := hT.at_ 0 (by simp)
 simp only [Nat.zero_add, Nat.zero_mul, Nat.add_zero, List.getElem_cons_zero] at e0 e1 e2 e3 hta
 obtain ⟨dA, dc, rfl, rfl, rfl, rfl, _⟩ := hta.open_
 have HTA := Lib.hid hta
 have HE := Lib.hid (And.intro e0 (And.intro e1 (And.intro e2 e3)))
 obtain ⟨na, hna⟩ : ∃ na, a.sub.length = na := ⟨_, rfl⟩
 rw [hna] at HTA HE
 obtain ⟨z, ta, tl, ez, et, el⟩ : ∃ (z ta : Int) (tl : List Ty), z = zn ∧ ta = 0 ∧ tl = [a] := ⟨_, _, _, rfl, rfl, rfl⟩
 rw [← et, ← ez]
 obtain ⟨A, hA⟩ : ∃ A, (some (⟨b, o, none⟩ : Addr)) = A := ⟨_, rfl⟩
 rw [hA]
 rw [show [a].length = tl.length from by rw [el]]
 clear hT hta e0 e1 e2 e3 hna
 have HV0 := Lib.hid (ReW.start (tc := #[.int .i64 (4), .int .i64 z, .slice A tl.length cap, .int .i64 ta]) hS)
 generalize hW3 : ((w.alloc (.cells #[.int .i64 (4), .int .i64 z, .slice A tl.length cap, .int .i64 ta] 24)).alloc (.cells #[.string ⟨#[]⟩, .bool false, .slice none 0 0] 27)) = W3 at *
 obtain ⟨q0, q1, q2, q3, _⟩ := blk4 HV0.out.ty
 have r2 : W3.cell? ⟨g, 2, none⟩ = some (.int .i64 0) := HV0.out.rd.cell 2
 subst ez et
 have hlen : tl.length = 1 := by rw [el]; rfl
 rw [hlen] at hW3 HV0 ⊢
 clear el hlen
 subst hA
 have HVX := Lib.hid (ReL.start HV0.out (size_of_R hW3) hlt)
 have hz3 : W3.heap.size = w.heap.size + 1 + 1 := size_of_R hW3
 have hlw0 : w.heap.size < W3.heap.size := by omega
 have hlw1 : g < W3.heap.size := by omega
 clear hS
 have key : ∃ (E : Int) (R : RdS), (cpRdE (cpNext (s.data.toList.drop kp)) zn = 0 → R = rdN (fun n r => a.rd (min M 1024) n r) (cpRdN (cpNext (s.data.toList.drop kp)) zn) (n + 1) (s.data.toList.drop (cpRdK (cpNext (s.data.toList.drop kp)) zn kp)) ∧ E = R.e) ∧ (cpRdE (cpNext (s.data.toList.drop kp)) zn ≠ 0 → E = cpRdE (cpNext (s.data.toList.drop kp)) zn) ∧ cpRdN (cpNext (s.data.toList.drop kp)) zn ≤ 1024 ∧ cpRdK (cpNext (s.data.toList.drop kp)) zn kp ≤ s.size ∧
  ∀ e w', RedEnd w g s ⟨E, .mk ⟨#[]⟩ true R.xs, R.n, R.q⟩ e w' → RedEnd w g s (if (cpNext (s.data.toList.drop kp)).2.2 ≠ 0 then .bad (cpNext (s.data.toList.drop kp)).2.2 (n + 1) (s.data.toList.drop kp) else if (zn : Int) < (cpNext (s.data.toList.drop kp)).1 then .bad 5 (n + 1) (s.data.toList.drop kp) else (rdF (min M 1024) [a] (cpNext (s.data.toList.drop kp)).1 (n + 1) ((s.data.toList.drop kp).drop (cpNext (s.data.toList.drop kp)).2.1)).list) e w' := by
  generalize cpNext (s.data.toList.drop kp) = N at *
  obtain ⟨Nm, Nz, Ne⟩ := N
  simp only at hback HWY ⊢
  rcases HWY with ⟨h1, hE, hNN, hK⟩ | ⟨h1, h2, hE, hNN, hK⟩ | ⟨h1, h2, hE, hNN, hK⟩
  ·rw [hE, hNN, hK]
   exact ⟨Ne, ⟨0, [], 0, []⟩, fun h => absurd h h1, fun _ => rfl, by omega, hk, fun e w' h => by rw [if_pos h1]; exact h.same rfl (fun h => absurd h h1)⟩
  ·rw [hE, hNN, hK]
   exact ⟨5, ⟨0, [], 0, []⟩, fun h => absurd h (by decide), fun _ => rfl, by omega, hk, fun e w' h => by rw [if_neg (by rw [h1]; simp), if_pos (by omega)]; exact h.same rfl (fun h => absurd h (by decide))⟩
  ·rw [hE, hNN, hK]
   have hb2 := hback h1
   exact ⟨_, _, fun _ => ⟨rfl, rfl⟩, fun h => absurd rfl h, by omega, by omega, fun e w' h => by rw [if_neg (by rw [h1]; simp), if_neg (by omega), List.drop_drop]; exact h⟩
 generalize cpRdE (cpNext (s.data.toList.drop kp)) zn = F0 at *
 generalize cpRdN (cpNext (s.data.toList.drop kp)) zn = c at *
 generalize cpRdK (cpNext (s.data.toList.drop kp)) zn kp = kq at *
 obtain ⟨E, R, hE0, hE1, hc, hkq, hfin⟩ := key
 have HFIN := Lib.hid hfin
 have H0 := Lib.hid (And.intro hE0 hE1)
 clear hE0 hE1 hfin hback HWY
 refine Calls.mono ?_ (fun e w' h => HFIN.out e w' h)
 go_enter Tryz.func41, Tryz.ntmps41
 go_wp2_with fail
 refine (HNC.out _ HVX.out.rd).mono ?_
 rintro e w1 ⟨rfl, hr, ho⟩
 have HV5 := Lib.hid (HVX.out.turn ho hr)
 clear hr ho
 go_wp2_with fail
 go_loopw [10, 13] (fun nw i wr => ∃ (j kj : Nat) (F nv : Int) (acc : List It) (v : Value), j ≤ c ∧ i = .int .i64 j ∧ nw = .int .i64 nv ∧ Hid (ReL w g s kj F #[.int .i64 4, .int .i64 zn, .slice (some ⟨b, o, none⟩) 1 cap, .int .i64 0] acc v wr) ∧ kj ≤ s.size ∧ acc.length ≤ j ∧ Hid ((F = 0 → ∃ nj : Nat, nv = nj ∧ nj ≤ 1024 ∧ R = (rdN (fun n r => a.rd (min M 1024) n r) (c - j) nj (s.data.toList.drop kj)).pre acc ∧ E = R.e) ∧ (F ≠ 0 → E = F))) (fun _ i _ => c - (intOf i).toNat)
 case atStart => exact ⟨0, kq, F0, _, [], _, by omega, rfl, rfl, HV5, hkq, by simp, Lib.hid ⟨fun h => ⟨n + 1, by simp, by omega, by rw [(H0.out.1 h).1]; rfl, (H0.out.1 h).2⟩, H0.out.2⟩⟩
 case round =>
  obtain ⟨j, kj, F, nv, acc, v, hj, rfl, rfl, HW, hkj, hacc, HI⟩ := hrel
  obtain ⟨A5, n5, cap5, rfl, hn5, hc5, hm5⟩ := HW.out.its.form'
  have r2 : wr.cell? ⟨g, 2, none⟩ = some (.int .i64 F) := HW.out.rd.cell 2
  by_cases hlt : j < c
  ·by_cases hF : F = 0
   ·subst hF
    obtain ⟨nj, rfl, hnj, hR, hE⟩ := HI.out.1 (by simp)
    have HRE := Lib.hid (And.intro hR hE)
    have hbw : Below B w wr := HW.out.only.below hB (by simp; omega)
    have HCC := Lib.hid (IH.out wr _ _ _ _ kj nj (HTA.out.below hbw) (by have := hbw.size; omega) HW.out.rd hkj hnj)
    have HNX := Lib.hid ((LiR.ofN (min M 1024) c s a).next j nj kj hlt hkj rfl)
    have HRB := Lib.hid (fun h => (rd_back (min M 1024) (by omega) a nj (s.data.toList.drop kj) hra h).many)
    obtain ⟨Rj, hRj⟩ : ∃ Rj, a.rd (min M 1024) nj (s.data.toList.drop kj) = Rj := ⟨_, rfl⟩
    simp only [hRj] at HCC HNX HRB
    obtain ⟨e0, e1, e2, e3⟩ := HE.out
    replace e0 := (hbw.cell (p := ⟨b, o, none⟩) hbB).trans e0
    replace e1 := (hbw.cell (p := ⟨b, o + 1, none⟩) hbB).trans e1
    replace e2 := (hbw.cell (p := ⟨b, o + 2, none⟩) hbB).trans e2
    replace e3 := (hbw.cell (p := ⟨b, o + 3, none⟩) hbB).trans e3
    have t2 : wr.cell? ⟨w.heap.size, 2, none⟩ = some (.slice (some ⟨b, o, none⟩) 1 cap) := HW.out.ty.cell 2
    clear hR hE hbw hRj
    go_wp2_with fail
    refine HCC.out.mono ?_
    rintro e w3 ⟨X, c0, c1, c2, k', m', rfl, hX, hly, ho, hk', hcond⟩
    obtain ⟨ax, bx, rfl, rfl, rfl, _⟩ := hX.open_
    have HW3 := Lib.hid (HW.out.turn ho hly)
    have HCD := Lib.hid hcond
    have HX := Lib.hid hX
    have HO3 : Hid (wr.heap.size ≤ w3.heap.size) := Lib.hid ho.size
    clear hX hly ho hcond
    have hb3 : Below w3.heap.size w3 ((w3.alloc (.cells #[.string X.text, .bool X.list, .slice ax X.sub.length bx] 27)).alloc (.cells #[.string X.text, .bool X.list, .slice ax X.sub.length bx] 27)) := ((Below.refl _ w3).alloc (Nat.le_refl _) _).alloc (by simp) _
    have HW4 := Lib.hid (HW3.out.below hb3)
    have HYY : Hid (ItS ((w3.alloc (.cells #[.string X.text, .bool X.list, .slice ax X.sub.length bx] 27)).alloc (.cells #[.string X.text, .bool X.list, .slice ax X.sub.length bx] 27)) (fun q => w.heap.size + 3 ≤ q ∧ (Value.slice A5 n5 cap5).ownBlock ≠ some q) X (.string X.text) (.bool X.list) (.slice ax X.sub.length bx)) := Lib.hid ((HX.out.below hb3).weak (fun q _ hq => ⟨by have := HW.out.siz; omega, fun e => by have := (HW.out.its.ge _ e).2; omega⟩))
    have hl1000 : acc.length ≤ 1000000 := by omega
    have hlo3 : w.heap.size + 3 ≤ ((w3.alloc (.cells #[.string X.text, .bool X.list, .slice ax X.sub.length bx] 27)).alloc (.cells #[.string X.text, .bool X.list, .slice ax X.sub.length bx] 27)).heap.size := HW4.out.siz
    have x2 : w3.cell? ⟨w.heap.size + 1 + 1, 2, none⟩ = some (.slice A5 n5 cap5) := HW3.out.xb.cell 2
    have x3 := HW3.out.xb.frozen 2
    have hz3 := HW3.out.siz
    have hlL : w.heap.size + 1 + 1 < w3.heap.size := by omega
    clear hb3
    go_wp2_with (at_builtin; refine wpList_append_item (by rfl) (.tmp 106) (.tmp 108) (by rfl) (w.heap.size + 3) acc (by rfl) HW4.out.its X HYY.out (w3.heap.size + 1) (by rfl) (by simp) (by simp) (by simp) hl1000 hlo3 ?_; intro g' n' cap' w5 hn' hacc5 hgr hlo5; have hlx5 : w.heap.size + 1 + 1 < w5.heap.size := (by have := hgr.size; have := HW4.out.siz; omega); have x5 := (HW4.out.cells hgr); have HW5 := Lib.hid (HW4.out.more hgr hacc5); clear hacc5 hgr)
    go_wp2
    go_roundw
    case rel =>
     refine ⟨j + 1, k', Rj.e, m', acc ++ [X], _, by omega, by go_num, rfl, HW5, hk', by simp; omega, Lib.hid ⟨fun h0 => ?_, fun h0 => ?_⟩⟩
     ·obtain ⟨g1, g2, g3⟩ := HCD.out h0
      have e1 := HNX.out
      rw [if_neg (by simp [h0])] at e1
      have hmn := HRB.out h0
      refine ⟨Rj.n, g3, by omega, ?_, HRE.out.2⟩
      rw [HRE.out.1, e1, RdS.pre_cons, g1, g2]
     ·have e1 := HNX.out
      rw [if_pos h0] at e1
      rw [HRE.out.2, HRE.out.1, e1]
      rfl
    case measure => simp [intOf]; omega
   ·have hF1 : (F == 0) = false := beq_eq_false_iff_ne.2 hF
    obtain rfl : F = E := (HI.out.2 hF).symm
    obtain ⟨n0, n1, n2, m0, m1, m2⟩ := blk3f HW.out.res
    obtain ⟨x0, x1, x2, _, _, _⟩ := blk3f HW.out.xb
    obtain ⟨e1, e2, y0, y1, y2, ha⟩ := HW.out.ends (.string ⟨#[]⟩) (.bool true)
    have E1 := Lib.hid e1
    have E2 := Lib.hid e2
    have HA := Lib.hid (ha.list (by omega))
    clear e1 e2 ha
    go_wp2
    have e1 := E1.out
    refine bodyPost_ret (v := .tuple #[.agg #[.string ⟨#[]⟩, .bool true, .slice A5 n5 cap5], .int .i64 nv]) (by simp [results, Tryz.results41, go_sem, y0, y1, y2]) rfl ?_
    refine ⟨.mk ⟨#[]⟩ true acc, _, _, _, kj, nv, rfl, HA.out.weak (fun _ _ h => by omega), e1, E2.out, hkj, fun h => ?_⟩
    exact absurd h hF
  ·have HEF : Hid (E = F ∧ (E = 0 → R.xs = acc ∧ R.q = s.data.toList.drop kj ∧ nv = R.n)) := Lib.hid (by
    by_cases hF : F = 0
    ·obtain ⟨nj, h1, _, h2, h3⟩ := HI.out.1 hF
     rw [show c - j = 0 from by omega, rdN] at h2
     subst h2
     exact ⟨by rw [h3, hF]; rfl, fun _ => ⟨by simp [RdS.pre], rfl, h1⟩⟩
    ·exact ⟨HI.out.2 hF, fun h => absurd ((HI.out.2 hF).symm.trans h) hF⟩)
   obtain rfl : F = E := HEF.out.1.symm
   obtain ⟨n0, n1, n2, m0, m1, m2⟩ := blk3f HW.out.res
   obtain ⟨x0, x1, x2, _, _, _⟩ := blk3f HW.out.xb
   obtain ⟨e1, e2, y0, y1, y2, ha⟩ := HW.out.ends (.string ⟨#[]⟩) (.bool true)
   have E1 := Lib.hid e1
   have E2 := Lib.hid e2
   have HA := Lib.hid (ha.list (by omega))
   clear e1 e2 ha
   go_wp2
   have e1 := E1.out
   refine bodyPost_ret (v := .tuple #[.agg #[.string ⟨#[]⟩, .bool true, .slice A5 n5 cap5], .int .i64 nv]) (by simp [results, Tryz.results41, go_sem, y0, y1, y2]) rfl ?_
   refine ⟨.mk ⟨#[]⟩ true acc, _, _, _, kj, nv, rfl, HA.out.weak (fun _ _ h => by omega), e1, E2.out, hkj, fun h => ?_⟩
   obtain ⟨h1, h2, h3⟩ := HEF.out.2 h
   exact ⟨by rw [h1], h2, h3⟩
theorem read_five (l : List Ty) (ta : Int) (B : Nat) (A : Option Addr) (cap : Nat) (w : World) (g : Nat) (s : ByteArray) (kp n : Nat) (M : Int) (hS : Rd1 w g s kp 0) (hk : kp ≤ s.size) (hs : s.size ≤ 1099511627776) (hM : ¬ min M 1024 ≤ n) (hl : l.length ≤ 16) (hta : 0 ≤ ta) (hta2 : ta ≤ l.length)
 (hT : TysIn w B l A 0) (hB : B ≤ w.heap.size) (hBg : B ≤ g) (hra : rightT l = true)
 (IH : Hid (∀ a ∈ l, ∀ V c0 c1 c2 c3 kp (n : Nat), TyIn V B a c0 c1 c2 c3 → B ≤ V.heap.size → Rd1 V g s kp 0 → kp ≤ s.size → n ≤ 1024 → Calls Tryz.prog 41 #[.pointer (some ⟨g, 0, none⟩), .agg #[c0, c1, c2, c3], .int .i64 n, .int .i64 M] V fun e w' => RedEnd V g s (a.rd (min M 1024) n (s.data.toList.drop kp)) e w')) :
 Calls Tryz.prog 41 #[.pointer (some ⟨g, 0, none⟩), .agg #[.int .i64 5, .int .i64 0, .slice A l.length cap, .int .i64 ta], .int .i64 n, .int .i64 M] w fun e w' => RedEnd w g s ((Ty.mk 5 0 l ta).rd (min M 1024) n (s.data.toList.drop kp)) e w' := by
 have hlt := hS.lt
 have d0 : decide (M < (n : Int) + 1) = false := decide_eq_false (by omega)
 have d1 : decide ((1024 : Int) < (n : Int) + 1) = false := decide_eq_false (by omega)
 rw [rd_five hM]
 obtain ⟨p, hp⟩ := tys_cells hT
 have HP := Lib.hid hp
 have HIN := Lib.hid hT
 show Calls _ _ _ _ fun e w' => RedEnd w g s ⟨(rdT (min M 1024) l ((l.length : Int) - ta).toNat (n + 1) (s.data.toList.drop kp)).e, .mk ⟨#[]⟩ true (rdT (min M 1024) l ((l.length : Int) - ta).toNat (n + 1) (s.data.toList.drop kp)).xs, (rdT (min M 1024) l ((l.length : Int) - ta).toNat (n + 1) (s.data.toList.drop kp)).n, (rdT (min M 1024) l ((l.length : Int) - ta).toNat (n + 1) (s.data.toList.drop kp)).q⟩ e w'
 obtain ⟨R, hR⟩ : ∃ R, rdT (min M 1024) l ((l.length : Int) - ta).toNat (n + 1) (s.data.toList.drop kp) = R := ⟨_, rfl⟩
 rw [hR]
 have HRR := Lib.hid hR
 have HLR := Lib.hid (LiR.ofT (min M 1024) s l ta hta)
 clear hR hp hT
 obtain ⟨z, tl, ez, el⟩ : ∃ (z : Int) (tl : List Ty), z = 0 ∧ tl = l := ⟨_, _, rfl, rfl⟩
 rw [← ez]
 rw [show l.length = tl.length from by rw [el]]
 have HV0 := Lib.hid (ReW.start (tc := #[.int .i64 (5), .int .i64 z, .slice A tl.length cap, .int .i64 ta]) hS)
 generalize hW3 : ((w.alloc (.cells #[.int .i64 (5), .int .i64 z, .slice A tl.length cap, .int .i64 ta] 24)).alloc (.cells #[.string ⟨#[]⟩, .bool false, .slice none 0 0] 27)) = W3 at *
 obtain ⟨q0, q1, q2, q3, _⟩ := blk4 HV0.out.ty
 have r2 : W3.cell? ⟨g, 2, none⟩ = some (.int .i64 0) := HV0.out.rd.cell 2
 subst ez
 obtain ⟨c, hc0⟩ : ∃ c, tl.length = c := ⟨_, rfl⟩
 have hlc : l.length = c := by rw [← hc0, el]
 have HLC := Lib.hid hlc
 rw [hc0] at hW3 HV0 ⊢
 rw [hlc] at hl hta2
 clear hc0 el hlc
 have HVX := Lib.hid (ReL.start HV0.out (size_of_R hW3) hlt)
 have hz3 : W3.heap.size = w.heap.size + 1 + 1 := size_of_R hW3
 have hlw0 : w.heap.size < W3.heap.size := by omega
 have hlw1 : g < W3.heap.size := by omega
 clear hS
 generalize hE : R.e = E
 have HE0 := Lib.hid hE
 clear hE
 go_enter Tryz.func41, Tryz.ntmps41
 go_wp2_with fail
 go_loopw [10, 16] (fun nw i wr => ∃ (j kj : Nat) (F nv : Int) (acc : List It) (v : Value), j ≤ c ∧ i = .int .i64 j ∧ nw = .int .i64 nv ∧ Hid (ReL w g s kj F #[.int .i64 5, .int .i64 0, .slice A c cap, .int .i64 ta] acc v wr) ∧ kj ≤ s.size ∧ acc.length ≤ j ∧ Hid ((F = 0 → ∃ nj : Nat, nv = nj ∧ nj ≤ 1024 ∧ R = (rdT (min M 1024) (l.drop j) (((l.length : Int) - ta).toNat - j) nj (s.data.toList.drop kj)).pre acc ∧ E = R.e) ∧ (F ≠ 0 → E = F))) (fun _ i _ => c - (intOf i).toNat)
 case atStart => exact ⟨0, kp, 0, _, [], _, by omega, rfl, rfl, HVX, hk, by simp, Lib.hid ⟨fun h => ⟨n + 1, by simp, by omega, by rw [← HRR.out]; simp [RdS.pre_nil], HE0.out.symm⟩, fun h => absurd (Eq.refl (0 : Int)) h⟩⟩
 case round =>
  obtain ⟨j, kj, F, nv, acc, v, hj, rfl, rfl, HW, hkj, hacc, HI⟩ := hrel
  obtain ⟨A5, n5, cap5, rfl, hn5, hc5, hm5⟩ := HW.out.its.form'
  have r2 : wr.cell? ⟨g, 2, none⟩ = some (.int .i64 F) := HW.out.rd.cell 2
  have t2 : wr.cell? ⟨w.heap.size, 2, none⟩ = some (.slice A c cap) := HW.out.ty.cell 2
  have t3 : wr.cell? ⟨w.heap.size, 3, none⟩ = some (.int .i64 ta) := HW.out.ty.cell 3
  by_cases hlt2 : j < c
  ·by_cases hF : F = 0
   ·subst hF
    have hjl : j < l.length := by rw [HLC.out]; exact hlt2
    obtain ⟨nj, rfl, hnj, hR, hE⟩ := HI.out.1 (by simp)
    have HRE := Lib.hid (And.intro hR hE)
    have hbw : Below B w wr := HW.out.only.below hB (by simp; omega)
    obtain ⟨b, o, rfl, hbB, e0, e1, e2, e3, hti⟩ := HP.out j hjl
    have HTI := Lib.hid hti
    have hmem := List.getElem_mem hjl
    have hrj := rightT_at hra j hjl
    have HNX := Lib.hid (HLR.out.next j nj kj hjl hkj)
    have HLK := Lib.hid (HLR.out.lack j nj kj hjl hkj)
    simp only [getD_at hjl] at HNX
    have HIH := Lib.hid (IH.out _ hmem)
    have HRB := Lib.hid (fun (h : ((l[j]).rd (min M 1024) nj (s.data.toList.drop kj)).e = 0) => (rd_back (min M 1024) (by omega) l[j] nj (s.data.toList.drop kj) hrj h).many)
    generalize l[j] = a at *
    obtain ⟨Rj, hRj⟩ : ∃ Rj, a.rd (min M 1024) nj (s.data.toList.drop kj) = Rj := ⟨_, rfl⟩
    obtain ⟨dA, dc⟩ := p j
    obtain ⟨na, hna⟩ : ∃ na, a.sub.length = na := ⟨_, rfl⟩
    simp only [hna] at e2 HTI
    replace e0 := (hbw.cell (p := ⟨b, o + j * 4, none⟩) hbB).trans e0
    replace e1 := (hbw.cell (p := ⟨b, o + j * 4 + 1, none⟩) hbB).trans e1
    replace e2 := (hbw.cell (p := ⟨b, o + j * 4 + 2, none⟩) hbB).trans e2
    replace e3 := (hbw.cell (p := ⟨b, o + j * 4 + 3, none⟩) hbB).trans e3
    have ew : IntKind.i64.wrap ((c : Int) - ta) = (c : Int) - ta := IntWalk.i64_in _ (by omega)
    by_cases hfx : (j : Int) < (c : Int) - ta
    ·have dge : decide ((c : Int) - ta ≤ (j : Int)) = false := decide_eq_false (by omega)
     have HCC := Lib.hid (HIH.out wr _ _ _ _ kj nj (HTI.out.below hbw) (by have := hbw.size; omega) HW.out.rd hkj hnj)
     replace HNX := Lib.hid (HNX.out (by rw [HLC.out, decide_eq_true hfx]; rfl))
     simp only [hRj] at HCC HNX HRB
     clear hti hmem hna HIH HLK hR hE
     clear hRj hbw
     go_wp2_with fail
     refine HCC.out.mono ?_
     rintro e w3 ⟨X, c0, c1, c2, k', m', rfl, hX, hly, ho, hk', hcond⟩
     obtain ⟨ax, bx, rfl, rfl, rfl, _⟩ := hX.open_
     have HW3 := Lib.hid (HW.out.turn ho hly)
     have HCD := Lib.hid hcond
     have HX := Lib.hid hX
     have HO3 : Hid (wr.heap.size ≤ w3.heap.size) := Lib.hid ho.size
     clear hX hly ho hcond
     have hb3 : Below w3.heap.size w3 ((w3.alloc (.cells #[.string X.text, .bool X.list, .slice ax X.sub.length bx] 27)).alloc (.cells #[.string X.text, .bool X.list, .slice ax X.sub.length bx] 27)) := ((Below.refl _ w3).alloc (Nat.le_refl _) _).alloc (by simp) _
     have HW4 := Lib.hid (HW3.out.below hb3)
     have HYY : Hid (ItS ((w3.alloc (.cells #[.string X.text, .bool X.list, .slice ax X.sub.length bx] 27)).alloc (.cells #[.string X.text, .bool X.list, .slice ax X.sub.length bx] 27)) (fun q => w.heap.size + 3 ≤ q ∧ (Value.slice A5 n5 cap5).ownBlock ≠ some q) X (.string X.text) (.bool X.list) (.slice ax X.sub.length bx)) := Lib.hid ((HX.out.below hb3).weak (fun q _ hq => ⟨by have := HW.out.siz; omega, fun e => by have := (HW.out.its.ge _ e).2; omega⟩))
     have hl1000 : acc.length ≤ 1000000 := by omega
     have hlo3 : w.heap.size + 3 ≤ ((w3.alloc (.cells #[.string X.text, .bool X.list, .slice ax X.sub.length bx] 27)).alloc (.cells #[.string X.text, .bool X.list, .slice ax X.sub.length bx] 27)).heap.size := HW4.out.siz
     have x2 : w3.cell? ⟨w.heap.size + 1 + 1, 2, none⟩ = some (.slice A5 n5 cap5) := HW3.out.xb.cell 2
     have x3 := HW3.out.xb.frozen 2
     have hz3 := HW3.out.siz
     have hlL : w.heap.size + 1 + 1 < w3.heap.size := by omega
     clear hb3
     go_wp2_with (at_builtin; refine wpList_append_item (by rfl) (.tmp 154) (.tmp 156) (by rfl) (w.heap.size + 3) acc (by rfl) HW4.out.its X HYY.out (w3.heap.size + 1) (by rfl) (by simp) (by simp) (by simp) hl1000 hlo3 ?_; intro g' n' cap' w5 hn' hacc5 hgr hlo5; have hlx5 : w.heap.size + 1 + 1 < w5.heap.size := (by have := hgr.size; have := HW4.out.siz; omega); have x5 := (HW4.out.cells hgr); have HW5 := Lib.hid (HW4.out.more hgr hacc5); clear hacc5 hgr)
     go_wp2
     go_roundw
     case rel =>
      refine ⟨j + 1, k', Rj.e, m', acc ++ [X], _, by omega, by go_num, rfl, HW5, hk', by simp; omega, Lib.hid ⟨fun h0 => ?_, fun h0 => ?_⟩⟩
      ·obtain ⟨g1, g2, g3⟩ := HCD.out h0
       have e1 := HNX.out
       rw [if_neg (by simp [h0])] at e1
       have hmn := HRB.out h0
       refine ⟨Rj.n, g3, by omega, ?_, HRE.out.2⟩
       rw [HRE.out.1, e1, RdS.pre_cons, g1, g2]
      ·have e1 := HNX.out
       rw [if_pos h0] at e1
       rw [HRE.out.2, HRE.out.1, e1]
       rfl
     case measure => simp [intOf]; omega
    ·have dge : decide ((c : Int) - ta ≤ (j : Int)) = true := decide_eq_true (by omega)
     by_cases hks : kj < s.size
     ·have hqe : (((s.size : Int) - kj) == 0) = false := beq_eq_false_iff_ne.2 (by omega)
      replace HNX := Lib.hid (HNX.out (by rw [decide_eq_true hks]; simp))
      simp only [hRj] at HNX HRB
      have hbq0 := fun nq => (Below.refl B wr).drewN' nq
      clear hR hE
      go_wp2_with fail
      refine (left1_c g s kj 0 wr HW.out.rd hkj (by omega)).mono ?_
      rintro e wq ⟨rfl, nq, hq⟩
      have HWQ := Lib.hid (HW.out.below (V' := wq) (by rw [← hq]; exact (Below.refl _ wr).drewN' nq))
      have hbq : Below B wr wq := by rw [← hq]; exact hbq0 nq
      replace e0 := (show wq.cell? ⟨b, o + j * 4, none⟩ = wr.cell? ⟨b, o + j * 4, none⟩ from by rw [← hq]; rfl).trans e0
      replace e1 := (show wq.cell? ⟨b, o + j * 4 + 1, none⟩ = wr.cell? ⟨b, o + j * 4 + 1, none⟩ from by rw [← hq]; rfl).trans e1
      replace e2 := (show wq.cell? ⟨b, o + j * 4 + 2, none⟩ = wr.cell? ⟨b, o + j * 4 + 2, none⟩ from by rw [← hq]; rfl).trans e2
      replace e3 := (show wq.cell? ⟨b, o + j * 4 + 3, none⟩ = wr.cell? ⟨b, o + j * 4 + 3, none⟩ from by rw [← hq]; rfl).trans e3
      replace t2 := (show wq.cell? ⟨w.heap.size, 2, none⟩ = wr.cell? ⟨w.heap.size, 2, none⟩ from by rw [← hq]; rfl).trans t2
      replace t3 := (show wq.cell? ⟨w.heap.size, 3, none⟩ = wr.cell? ⟨w.heap.size, 3, none⟩ from by rw [← hq]; rfl).trans t3
      replace r2 := (show wq.cell? ⟨g, 2, none⟩ = wr.cell? ⟨g, 2, none⟩ from by rw [← hq]; rfl).trans r2
      clear hbq0
      have HCC := Lib.hid (HIH.out wq _ _ _ _ kj nj ((HTI.out.below hbw).below hbq) (by have := hbw.size; have := hbq.size; omega) HWQ.out.rd hkj hnj)
      simp only [hRj] at HCC
      clear hti hmem hna HIH HLK hq hbq
      clear hRj hbw
      go_wp2_with fail
      refine HCC.out.mono ?_
      rintro e w3 ⟨X, c0, c1, c2, k', m', rfl, hX, hly, ho, hk', hcond⟩
      obtain ⟨ax, bx, rfl, rfl, rfl, _⟩ := hX.open_
      have HW3 := Lib.hid (HWQ.out.turn ho hly)
      have HCD := Lib.hid hcond
      have HX := Lib.hid hX
      have HO3 : Hid (wq.heap.size ≤ w3.heap.size) := Lib.hid ho.size
      clear hX hly ho hcond
      have hb3 : Below w3.heap.size w3 ((w3.alloc (.cells #[.string X.text, .bool X.list, .slice ax X.sub.length bx] 27)).alloc (.cells #[.string X.text, .bool X.list, .slice ax X.sub.length bx] 27)) := ((Below.refl _ w3).alloc (Nat.le_refl _) _).alloc (by simp) _
      have HW4 := Lib.hid (HW3.out.below hb3)
      have HYY : Hid (ItS ((w3.alloc (.cells #[.string X.text, .bool X.list, .slice ax X.sub.length bx] 27)).alloc (.cells #[.string X.text, .bool X.list, .slice ax X.sub.length bx] 27)) (fun q => w.heap.size + 3 ≤ q ∧ (Value.slice A5 n5 cap5).ownBlock ≠ some q) X (.string X.text) (.bool X.list) (.slice ax X.sub.length bx)) := Lib.hid ((HX.out.below hb3).weak (fun q _ hq => ⟨by have := HWQ.out.siz; omega, fun e => by have := (HWQ.out.its.ge _ e).2; omega⟩))
      have hl1000 : acc.length ≤ 1000000 := by omega
      have hlo3 : w.heap.size + 3 ≤ ((w3.alloc (.cells #[.string X.text, .bool X.list, .slice ax X.sub.length bx] 27)).alloc (.cells #[.string X.text, .bool X.list, .slice ax X.sub.length bx] 27)).heap.size := HW4.out.siz
      have x2 : w3.cell? ⟨w.heap.size + 1 + 1, 2, none⟩ = some (.slice A5 n5 cap5) := HW3.out.xb.cell 2
      have x3 := HW3.out.xb.frozen 2
      have hz3 := HW3.out.siz
      have hlL : w.heap.size + 1 + 1 < w3.heap.size := by omega
      clear hb3
      go_wp2_with (at_builtin; refine wpList_append_item (by rfl) (.tmp 154) (.tmp 156) (by rfl) (w.heap.size + 3) acc (by rfl) HW4.out.its X HYY.out (w3.heap.size + 1) (by rfl) (by simp) (by simp) (by simp) hl1000 hlo3 ?_; intro g' n' cap' w5 hn' hacc5 hgr hlo5; have hlx5 : w.heap.size + 1 + 1 < w5.heap.size := (by have := hgr.size; have := HW4.out.siz; omega); have x5 := (HW4.out.cells hgr); have HW5 := Lib.hid (HW4.out.more hgr hacc5); clear hacc5 hgr)
      go_wp2
      go_roundw
      case rel =>
       refine ⟨j + 1, k', Rj.e, m', acc ++ [X], _, by omega, by go_num, rfl, HW5, hk', by simp; omega, Lib.hid ⟨fun h0 => ?_, fun h0 => ?_⟩⟩
       ·obtain ⟨g1, g2, g3⟩ := HCD.out h0
        have e1 := HNX.out
        rw [if_neg (by simp [h0])] at e1
        have hmn := HRB.out h0
        refine ⟨Rj.n, g3, by omega, ?_, HRE.out.2⟩
        rw [HRE.out.1, e1, RdS.pre_cons, g1, g2]
       ·have e1 := HNX.out
        rw [if_pos h0] at e1
        rw [HRE.out.2, HRE.out.1, e1]
        rfl
      case measure => simp [intOf]; omega
     ·have hqe : (((s.size : Int) - kj) == 0) = true := beq_iff_eq.2 (by omega)
      have hlk := HLK.out (by rw [HLC.out, decide_eq_false hfx, decide_eq_false hks]; rfl)
      rw [hlk] at hR
      have HEF : Hid (E = 0 ∧ R.xs = acc ∧ R.q = s.data.toList.drop kj ∧ (nj : Int) = R.n) := Lib.hid (by
       subst hR
       exact ⟨by rw [hE]; rfl, by simp [RdS.pre], rfl, rfl⟩)
      obtain rfl : E = 0 := HEF.out.1
      clear HNX HRB hRj
      have hbq0 := fun nq => (Below.refl B wr).drewN' nq
      clear hR hE
      go_wp2_with fail
      refine (left1_c g s kj 0 wr HW.out.rd hkj (by omega)).mono ?_
      rintro e wq ⟨rfl, nq, hq⟩
      have HWQ := Lib.hid (HW.out.below (V' := wq) (by rw [← hq]; exact (Below.refl _ wr).drewN' nq))
      have hbq : Below B wr wq := by rw [← hq]; exact hbq0 nq
      replace e0 := (show wq.cell? ⟨b, o + j * 4, none⟩ = wr.cell? ⟨b, o + j * 4, none⟩ from by rw [← hq]; rfl).trans e0
      replace e1 := (show wq.cell? ⟨b, o + j * 4 + 1, none⟩ = wr.cell? ⟨b, o + j * 4 + 1, none⟩ from by rw [← hq]; rfl).trans e1
      replace e2 := (show wq.cell? ⟨b, o + j * 4 + 2, none⟩ = wr.cell? ⟨b, o + j * 4 + 2, none⟩ from by rw [← hq]; rfl).trans e2
      replace e3 := (show wq.cell? ⟨b, o + j * 4 + 3, none⟩ = wr.cell? ⟨b, o + j * 4 + 3, none⟩ from by rw [← hq]; rfl).trans e3
      replace t2 := (show wq.cell? ⟨w.heap.size, 2, none⟩ = wr.cell? ⟨w.heap.size, 2, none⟩ from by rw [← hq]; rfl).trans t2
      replace t3 := (show wq.cell? ⟨w.heap.size, 3, none⟩ = wr.cell? ⟨w.heap.size, 3, none⟩ from by rw [← hq]; rfl).trans t3
      replace r2 := (show wq.cell? ⟨g, 2, none⟩ = wr.cell? ⟨g, 2, none⟩ from by rw [← hq]; rfl).trans r2
      clear hbq0
      have HW := HWQ
      obtain ⟨nv, hnv⟩ : ∃ nv, (nj : Int) = nv := ⟨_, rfl⟩
      rw [hnv] at HEF ⊢
      clear hti hmem hna HIH HLK hq hbq HRE hlk hnv
      obtain ⟨n0, n1, n2, m0, m1, m2⟩ := blk3f HW.out.res
      obtain ⟨x0, x1, x2, _, _, _⟩ := blk3f HW.out.xb
      obtain ⟨e1, e2, y0, y1, y2, ha⟩ := HW.out.ends (.string ⟨#[]⟩) (.bool true)
      have E1 := Lib.hid e1
      have E2 := Lib.hid e2
      have HA := Lib.hid (ha.list (by omega))
      clear e1 e2 ha
      go_wp2
      have e1 := E1.out
      refine bodyPost_ret (v := .tuple #[.agg #[.string ⟨#[]⟩, .bool true, .slice A5 n5 cap5], .int .i64 nv]) (by simp [results, Tryz.results41, go_sem, y0, y1, y2]) rfl ?_
      refine ⟨.mk ⟨#[]⟩ true acc, _, _, _, kj, nv, rfl, HA.out.weak (fun _ _ h => by omega), e1, E2.out, hkj, fun h => ?_⟩
      obtain ⟨_, h1, h2, h3⟩ := HEF.out
      exact ⟨by rw [h1], h2, h3⟩
   ·have hF1 : (F == 0) = false := beq_eq_false_iff_ne.2 hF
    obtain rfl : F = E := (HI.out.2 hF).symm
    obtain ⟨n0, n1, n2, m0, m1, m2⟩ := blk3f HW.out.res
    obtain ⟨x0, x1, x2, _, _, _⟩ := blk3f HW.out.xb
    obtain ⟨e1, e2, y0, y1, y2, ha⟩ := HW.out.ends (.string ⟨#[]⟩) (.bool true)
    have E1 := Lib.hid e1
    have E2 := Lib.hid e2
    have HA := Lib.hid (ha.list (by omega))
    clear e1 e2 ha
    go_wp2
    have e1 := E1.out
    refine bodyPost_ret (v := .tuple #[.agg #[.string ⟨#[]⟩, .bool true, .slice A5 n5 cap5], .int .i64 nv]) (by simp [results, Tryz.results41, go_sem, y0, y1, y2]) rfl ?_
    refine ⟨.mk ⟨#[]⟩ true acc, _, _, _, kj, nv, rfl, HA.out.weak (fun _ _ h => by omega), e1, E2.out, hkj, fun h => ?_⟩
    exact absurd h hF
  ·have HEF : Hid (E = F ∧ (E = 0 → R.xs = acc ∧ R.q = s.data.toList.drop kj ∧ nv = R.n)) := Lib.hid (by
    by_cases hF : F = 0
    ·obtain ⟨nj, h1, _, h2, h3⟩ := HI.out.1 hF
     rw [HLR.out.done _ _ _ (by rw [HLC.out]; omega)] at h2
     subst h2
     exact ⟨by rw [h3, hF]; rfl, fun _ => ⟨by simp [RdS.pre], rfl, h1⟩⟩
    ·exact ⟨HI.out.2 hF, fun h => absurd ((HI.out.2 hF).symm.trans h) hF⟩)
   obtain rfl : F = E := HEF.out.1.symm
   obtain ⟨n0, n1, n2, m0, m1, m2⟩ := blk3f HW.out.res
   obtain ⟨x0, x1, x2, _, _, _⟩ := blk3f HW.out.xb
   obtain ⟨e1, e2, y0, y1, y2, ha⟩ := HW.out.ends (.string ⟨#[]⟩) (.bool true)
   have E1 := Lib.hid e1
   have E2 := Lib.hid e2
   have HA := Lib.hid (ha.list (by omega))
   clear e1 e2 ha
   go_wp2
   have e1 := E1.out
   refine bodyPost_ret (v := .tuple #[.agg #[.string ⟨#[]⟩, .bool true, .slice A5 n5 cap5], .int .i64 nv]) (by simp [results, Tryz.results41, go_sem, y0, y1, y2]) rfl ?_
   refine ⟨.mk ⟨#[]⟩ true acc, _, _, _, kj, nv, rfl, HA.out.weak (fun _ _ h => by omega), e1, E2.out, hkj, fun h => ?_⟩
   obtain ⟨h1, h2, h3⟩ := HEF.out.2 h
   exact ⟨by rw [h1], h2, h3⟩
theorem red_c : ∀ (x : Ty) (B : Nat) (w : World) (c0 c1 c2 c3 : Value) (g : Nat) (s : ByteArray) (kp n : Nat) (M : Int), TyIn w B x c0 c1 c2 c3 → B ≤ w.heap.size → B ≤ g → x.right = true → Rd1 w g s kp 0 → kp ≤ s.size → s.size ≤ 1099511627776 → n ≤ 1024 →
 Calls Tryz.prog 41 #[.pointer (some ⟨g, 0, none⟩), .agg #[c0, c1, c2, c3], .int .i64 n, .int .i64 M] w fun e w' => RedEnd w g s (x.rd (min M 1024) n (s.data.toList.drop kp)) e w' := by
 intro x
 induction x using Ty.ind with
 | h ki z l ta ih =>
  intro B w c0 c1 c2 c3 g s kp n M h hB hBg hr hS hk hs hn
  obtain ⟨rfl, rfl, rfl, _, _, _, hll, A, cap, rfl, hcap, hcm, hsub⟩ := h
  obtain ⟨hok, hrl⟩ := right_ok hr
  by_cases hM : min M 1024 ≤ n
  ·rw [rd_many hM]
   exact read_many ki z ta l A cap w g s kp n M hS hk hM hn
  rcases ok_ways hok with ⟨rfl, h3, hn0, rfl⟩ | ⟨rfl, h3, h4, hn0, rfl⟩ | ⟨rfl, h3, h4, hn0, rfl⟩ | ⟨rfl, h3, h4, hn0, rfl⟩ | ⟨rfl, rfl, h4, h5, h6⟩
  ·obtain rfl : l = [] := List.eq_nil_of_length_eq_zero hn0
   obtain ⟨zn, rfl⟩ : ∃ zn : Nat, z = zn := ⟨z.toNat, by omega⟩
   exact read_one zn A cap w g s kp n M hS hk hs hM (by omega) (by omega)
  ·obtain rfl : l = [] := List.eq_nil_of_length_eq_zero hn0
   obtain ⟨zn, rfl⟩ : ∃ zn : Nat, z = zn := ⟨z.toNat, by omega⟩
   exact read_two zn A cap w g s kp n M hS hk hs hM (by omega)
  ·obtain rfl : l = [] := List.eq_nil_of_length_eq_zero hn0
   obtain ⟨zn, rfl⟩ : ∃ zn : Nat, z = zn := ⟨z.toNat, by omega⟩
   exact read_three zn A cap w g s kp n M hS hk hs hM (by omega)
  ·obtain ⟨a, rfl⟩ := List.length_eq_one_iff.1 hn0
   obtain ⟨zn, rfl⟩ : ∃ zn : Nat, z = zn := ⟨z.toNat, by omega⟩
   have hra : a.right = true := by simpa [rightT] using hrl
   exact read_four a zn B A cap w g s kp n M hS hk hs hM (by omega) hsub hB hBg hra (Lib.hid fun V d0 d1 d2 d3 kp n hV hB2 hS2 hk2 hn2 => ih a (by simp) B V d0 d1 d2 d3 g s kp n M hV hB2 hBg hra hS2 hk2 hs hn2)
  ·exact read_five l ta B A cap w g s kp n M hS hk hs hM (by omega) (by omega) (by omega) hsub hB hBg hrl (Lib.hid fun a ha V d0 d1 d2 d3 kp n hV hB2 hS2 hk2 hn2 => by
    obtain ⟨j, hj, rfl⟩ := List.getElem_of_mem ha
    exact ih _ ha B V d0 d1 d2 d3 g s kp n M hV hB2 hBg (rightT_at hrl j hj) hS2 hk2 hs hn2)
end Go.Proofs.YtcppbdbbgakfcaaGreatDoor
