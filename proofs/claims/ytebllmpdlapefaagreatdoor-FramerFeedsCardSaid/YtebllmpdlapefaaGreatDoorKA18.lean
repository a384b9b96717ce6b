/- sha.Sum: the digest. -/
/- twice.Sum, Check, Fits. -/
import Derived.Test.YtebllmpdlapefaaGreatDoorKShaM
import Derived.Test.YtebllmpdlapefaaGreatDoorKA4
import Derived.Test.YtebllmpdlapefaaGreatDoorKA17
import Derived.Test.YtebllmpdlapefaaGreatDoorKA2
namespace Go.Proofs.YtebllmpdlapefaaGreatDoor
set_option linter.unusedVariables false
set_option linter.unusedSimpArgs false
open Go.RowKit

theorem firstRet {tmps : Array Value} {V : World} {g : Nat} (u : Sh) (hp : tmps.getD 0 undef = .pointer (some ⟨g, 0, none⟩)) (hB : Blk V g 30 (shCells u)) :
    (results Tryz.f162 tmps).run Tryz.prog V = .ok (shAgg u) V := by
  have r0 : V.cell? ⟨g, 0, none⟩ = some (.int .u32 u.a) := hB.cell 0
  have r1 : V.cell? ⟨g, 1, none⟩ = some (.int .u32 u.b) := hB.cell 1
  have r2 : V.cell? ⟨g, 2, none⟩ = some (.int .u32 u.c) := hB.cell 2
  have r3 : V.cell? ⟨g, 3, none⟩ = some (.int .u32 u.d) := hB.cell 3
  have r4 : V.cell? ⟨g, 4, none⟩ = some (.int .u32 u.e) := hB.cell 4
  have r5 : V.cell? ⟨g, 5, none⟩ = some (.int .u32 u.f) := hB.cell 5
  have r6 : V.cell? ⟨g, 6, none⟩ = some (.int .u32 u.g) := hB.cell 6
  have r7 : V.cell? ⟨g, 7, none⟩ = some (.int .u32 u.h) := hB.cell 7
  simp only [Array.getD_eq_getD_getElem?] at hp
  simp [results, Tryz.results162, go_sem, hp, r0, r1, r2, r3, r4, r5, r6, r7, shAgg]
theorem first_c (w : World) : Calls Tryz.prog 162 #[] w fun e w' => e = .returned (shAgg shV) ∧ Below w.heap.size w w' := by
  go_enter Tryz.func162, Tryz.ntmps162
  go_wp2
  refine bodyPost_ret (v := shAgg shV) ?_ rfl ?_
  · exact firstRet shV (g := w.heap.size) rfl (Blk.new w _ _)
  · exact ⟨rfl, (by repeat (first | exact Below.refl _ _ | assumption | with_reducible refine Below.drewN' ?_ _ | with_reducible refine Below.drew ?_ | ((with_reducible refine Below.alloc' ?_ ?_ _); · (first | omega | (simp <;> omega)))))⟩
theorem Only.kept {E : TypeId} {w W W' : World} (h : Only [] w W) (hk : Kept E w.heap.size W W') : Only [] w W' :=
  ⟨hk.below.os.trans h.os, hk.below.tape.trans h.tape, hk.below.output.trans h.output, Nat.le_trans h.size hk.below.size, fun k hlt hn => (hk.below.block k hlt).trans (h.block k hlt hn)⟩
theorem src_litN {P : Program} {tx e' : TypeId} (hk : P.underlying tx = some (.slice e')) (w : World) (E : TypeId) (cs : Array Value) (m : List UInt8) (n c g : Nat) (hn : m.length = n) (hg : g = w.heap.size) (hcs : cs.toList = cb m) : Src P 1 tx (.slice (some ⟨g, 0, none⟩) n c) m.length (cb m) (w.alloc (.cells cs E)) := by
  subst hn; exact src_lit hk w E cs m c g hg hcs
theorem word_cells (x : Nat) (hx : x < 4294967296) : (#[Value.int .u8 ((x : Int) / 16777216), .int .u8 ((x : Int) / 65536 % 256), .int .u8 ((x : Int) / 256 % 256), .int .u8 ((x : Int) % 256)] : Array Value).toList = cb (wB x) := by
  simp [cb, wB]
  omega
theorem SumInv.next {w w2 wr : World} {B i a nq : Nat} {v u : Sh} {s : ByteArray} {top : Nat} {x : Value} (ha : a = 64 * i) (hx : x = .int .i64 ((a + 64 : Nat) : Int)) (ht : a + 64 ≤ top) (hu : shRun v s i = u) (hon : Only [] w wr) (ho : Only [] (wr.drewN nq) w2)
    (hst : Blk wr B 30 (shCells u)) (hB : w.heap.size ≤ B) (hs : top ≤ s.size) : SumInv w B v s top x (putRes w2 B (shMix shK u (s.extract a (a + 64)))) := by
  have h2 : Blk w2 B 30 (shCells u) := (hst.drewN nq).only ho (by simp)
  refine ⟨i + 1, a + 64, by omega, hx, ht, ?_, putRes_only _ ((hon.drewN nq).trans ho) hB⟩
  rw [shRun, hu, ← ha]
  exact putRes_any _ h2
set_option maxRecDepth 100000 in
set_option maxHeartbeats 4000000 in
theorem sum_c (s : ByteArray) (w : World) (hs : s.size ≤ 100000) :
    Calls Tryz.prog 151 #[.string s] w fun e w' => e = .returned (.string (shaB s)) ∧ Below w.heap.size w w' := by
  obtain ⟨W, hW⟩ : ∃ W, 64 * (s.size / 64) = W := ⟨_, rfl⟩
  have e1 : (s.size : Int) - (s.size : Int) % 64 = (W : Int) := by omega
  have hWs : W ≤ s.size := by omega
  have HW := Lib.hid hW
  clear hW
  go_enter Tryz.func151, Tryz.ntmps151
  go_wp2_with fail
  refine (first_c _).mono ?_
  rintro e w1 ⟨rfl, hb1⟩
  unfold shAgg
  go_wp2
  obtain ⟨W0, hW0⟩ : ∃ W0, w1.alloc (.cells #[.int .u32 shV.a, .int .u32 shV.b, .int .u32 shV.c, .int .u32 shV.d, .int .u32 shV.e, .int .u32 shV.f, .int .u32 shV.g, .int .u32 shV.h] 30) = W0 := ⟨_, rfl⟩
  obtain ⟨B, hB⟩ : ∃ B, w1.heap.size = B := ⟨_, rfl⟩
  have hwB : w.heap.size ≤ B := by have := hb1.size; omega
  have HS0 : Hid (Blk W0 B 30 (shCells (shRun shV s 0))) := Lib.hid (by rw [← hW0, ← hB]; exact Blk.new w1 _ _)
  have HO0 : Hid (Only [] w W0) := Lib.hid (by rw [← hW0]; exact (Only.of_below hb1 (Nat.le_refl _)).alloc _)
  rw [hW0, hB]
  clear hW0 hB hb1
  go_loopw [5] (fun v wr => SumInv w B shV s W v wr) (fun v _ => W - (intOf v).toNat)
  case atStart => exact ⟨0, 0, rfl, rfl, Nat.zero_le _, HS0.out, HO0.out⟩
  case round =>
    obtain ⟨i, a, hia, rfl, hat, hst, hon⟩ := hrel.ex
    have hok := shRun_ok shV_ok s i
    obtain ⟨u, hu⟩ : ∃ u, shRun shV s i = u := ⟨_, rfl⟩
    rw [hu] at hst hok
    have HU := Lib.hid hu
    have HIA := Lib.hid hia
    have HST := Lib.hid hst
    have HON := Lib.hid hon
    have hBl := hst.lt
    by_cases hlt : a < W
    · have h64 : a + 64 ≤ W := by omega
      have h64s : a + 64 ≤ s.size := by omega
      have g1 : IntKind.i64.wrap ((a : Int) + 64) = (a : Int) + 64 := IntWalk.i64_in _ (by omega)
      have g2 : ((a : Int) + 64).toNat = a + 64 := by omega
      have g3 : (0 : Int) ≤ (a : Int) + 64 := by omega
      have g4 : (a : Int) ≤ (a : Int) + 64 := by omega
      have g5 : (a : Int) + 64 ≤ (s.size : Int) := by omega
      have HM := Lib.hid (fun w => mix_c u hok (s.extract a (a + 64)) (by rw [size_cut _ _ _ h64s]; omega) w)
      obtain ⟨r0, r1, r2, r3, r4, r5, r6, r7⟩ := hst.cells8
      have HNX := Lib.hid (fun (w2 : World) (nq : Nat) (ho : Only [] (wr.drewN nq) w2) => SumInv.next (x := .int .i64 ((a + 64 : Nat) : Int)) hia rfl h64 hu hon ho hst hwB hWs)
      obtain ⟨nu, hnu⟩ : ∃ nu, shMix shK u (s.extract a (a + 64)) = nu := ⟨_, rfl⟩
      rw [hnu] at HM HNX
      unfold shAgg at HM
      clear hia hu hst hon hnu hok
      go_wp2
      refine wp_region_quiet_tail 6 (by kernel_rfl) (by kernel_rfl) ?_
      simp only [List.take_succ_cons, List.take_zero, List.drop_succ_cons, List.drop_zero]
      repeat (go_big_quiet_step (fail))
      refine wpQuiet_nil ?_
      intro nq
      clear r0 r1 r2 r3 r4 r5 r6 r7
      go_wp2_with fail
      refine (HM.out _).mono ?_
      rintro e w2 ⟨rfl, ho⟩
      have h2 := (HST.out.drewN nq).only ho (by simp)
      obtain ⟨r0, r1, r2, r3, r4, r5, r6, r7⟩ := h2.cells8
      obtain ⟨f0, f1, f2, f3, f4, f5, f6, f7⟩ := h2.free8
      have HN := Lib.hid (HNX.out w2 nq ho)
      clear h2 ho
      go_wp2
      go_roundw
      case rel => exact HN.out
      case measure => simp [intOf]; omega
    · have HW' : Hid (i = s.size / 64) := Lib.hid (by have := HW.out; omega)
      have hp := fun w => pad_c s.size w hs
      have HP := Lib.hid hp
      have hpz := shPad_size s.size
      have hpl := shNought_lt s.size
      have hcz : (s.extract W s.size).size ≤ 64 := by rw [size_cut _ _ _ (Nat.le_refl _)]; have := HW.out; omega
      have HL : Hid (shaB s = ⟨(shOut (shRun (shRun shV s i) (s.extract W s.size ++ shPad s.size) ((s.extract W s.size ++ shPad s.size).size / 64))).toArray⟩) := Lib.hid (by
        rw [shaB, shLast_two s (s.extract W s.size ++ shPad s.size) (by rw [HW.out]), ← HW'.out])
      have HRZ : Hid ((s.extract W s.size ++ shPad s.size).size = s.size - W + (shNought s.size + 9)) := Lib.hid (by rw [size_app, size_cut _ _ _ (Nat.le_refl _), hpz])
      have HRM : Hid ((s.size - W + (shNought s.size + 9)) % 64 = 0) := Lib.hid (by have := shNought_mod s.size; have := HW.out; omega)
      rw [HU.out] at HL
      have haW : a = W := by omega
      subst haW
      generalize shPad s.size = pd at *
      have hpd : pd.size ≤ 72 := by omega
      clear hia hu hst hon hpz
      go_wp2_with fail
      refine (HP.out _).mono ?_
      rintro e w2 ⟨rfl, hb2⟩
      have HST2 : Hid (Blk w2 B 30 (shCells u)) := Lib.hid ((hb2.block _ hBl).trans HST.out)
      have HON2 : Hid (Only [] w w2) := Lib.hid (HON.out.trans (Only.of_below hb2 (Nat.le_refl _)))
      clear hb2
      go_wp2
      obtain ⟨r, hr⟩ : ∃ r, s.extract a s.size ++ pd = r := ⟨_, rfl⟩
      rw [hr] at HL HRZ ⊢
      have hrs : r.size ≤ 200 := by have := HRZ.out; omega
      obtain ⟨v0, rfl⟩ : ∃ v0, v0 = u := ⟨u, rfl⟩
      have HW0 := HW
      have hwr : r.size ≤ r.size := Nat.le_refl _
      obtain ⟨i0, hi, hz0, hz1, hz2⟩ := info_parts info_byte'
      clear hr
      go_loopw [9] (fun v wr => SumInv w B v0 r r.size v wr) (fun v _ => r.size - (intOf v).toNat)
      case atStart => exact ⟨0, 0, rfl, rfl, Nat.zero_le _, HST2.out, HON2.out⟩
      case round =>
        obtain ⟨i, a, hia, rfl, hat, hst, hon⟩ := hrel.ex
        have hok := shRun_ok hok r i
        obtain ⟨u, hu⟩ : ∃ u, shRun v0 r i = u := ⟨_, rfl⟩
        rw [hu] at hst hok
        have HU := Lib.hid hu
        have HIA := Lib.hid hia
        have HST := Lib.hid hst
        have HON := Lib.hid hon
        have hBl := hst.lt
        by_cases hlt : a + 64 ≤ r.size
        · have h64 : a + 64 ≤ r.size := by omega
          have h64s : a + 64 ≤ r.size := by omega
          have g1 : IntKind.i64.wrap ((a : Int) + 64) = (a : Int) + 64 := IntWalk.i64_in _ (by omega)
          have g2 : ((a : Int) + 64).toNat = a + 64 := by omega
          have g3 : (0 : Int) ≤ (a : Int) + 64 := by omega
          have g4 : (a : Int) ≤ (a : Int) + 64 := by omega
          have g5 : (a : Int) + 64 ≤ (r.size : Int) := by omega
          have HM := Lib.hid (fun w => mix_c u hok (r.extract a (a + 64)) (by rw [size_cut _ _ _ h64s]; omega) w)
          obtain ⟨r0, r1, r2, r3, r4, r5, r6, r7⟩ := hst.cells8
          have HNX := Lib.hid (fun (w2 : World) (nq : Nat) (ho : Only [] (wr.drewN nq) w2) => SumInv.next (x := .int .i64 ((a + 64 : Nat) : Int)) hia rfl h64 hu hon ho hst hwB hwr)
          obtain ⟨nu, hnu⟩ : ∃ nu, shMix shK u (r.extract a (a + 64)) = nu := ⟨_, rfl⟩
          rw [hnu] at HM HNX
          unfold shAgg at HM
          clear hia hu hst hon hnu hok
          go_wp2
          refine wp_region_quiet_tail 6 (by kernel_rfl) (by kernel_rfl) ?_
          simp only [List.take_succ_cons, List.take_zero, List.drop_succ_cons, List.drop_zero]
          repeat (go_big_quiet_step (fail))
          refine wpQuiet_nil ?_
          intro nq
          clear r0 r1 r2 r3 r4 r5 r6 r7
          go_wp2_with fail
          refine (HM.out _).mono ?_
          rintro e w2 ⟨rfl, ho⟩
          have h2 := (HST.out.drewN nq).only ho (by simp)
          obtain ⟨r0, r1, r2, r3, r4, r5, r6, r7⟩ := h2.cells8
          obtain ⟨f0, f1, f2, f3, f4, f5, f6, f7⟩ := h2.free8
          have HN := Lib.hid (HNX.out w2 nq ho)
          clear h2 ho
          go_wp2
          go_roundw
          case rel => exact HN.out
          case measure => simp [intOf]; omega
        · have HIR : Hid (i = r.size / 64) := Lib.hid (by have := HRZ.out; have := HRM.out; omega)
          have HLL : Hid (shaB s = ⟨(shOut u).toArray⟩) := Lib.hid (by rw [HL.out, ← HIR.out, hu])
          obtain ⟨r0, r1, r2, r3, r4, r5, r6, r7⟩ := hst.cells8
          have HT := Lib.hid (fun (k : Nat) (hk : k < 8) (w' : World) => index8 u w' k _ (cells8_at u k hk))
          have HTO := Lib.hid (Sh.ok_at hok)
          have hwl := HON.out.size
          have d0 : decide ((a : Int) + 64 ≤ (r.size : Int)) = false := decide_eq_false (by omega)
          clear hia hu hst hon hok
          go_wp2_with (at_make; refine wpList_make_buf _ (by rfl) _ _ 104 (by rfl) w.heap.size 5 i0 Tryz.underlying104 hi hz0 hz1 hz2 .i64 .i64 0 32 (by rfl) (by rfl) (by omega) (by omega) hwl ?_; intro w3 hb3 hk3 hbl3; have q0 := (hbl3.cell (p := ⟨B, 0, none⟩) hBl).trans r0; have q1 := (hbl3.cell (p := ⟨B, 1, none⟩) hBl).trans r1; have q2 := (hbl3.cell (p := ⟨B, 2, none⟩) hBl).trans r2; have q3 := (hbl3.cell (p := ⟨B, 3, none⟩) hBl).trans r3; have q4 := (hbl3.cell (p := ⟨B, 4, none⟩) hBl).trans r4; have q5 := (hbl3.cell (p := ⟨B, 5, none⟩) hBl).trans r5; have q6 := (hbl3.cell (p := ⟨B, 6, none⟩) hBl).trans r6; have q7 := (hbl3.cell (p := ⟨B, 7, none⟩) hBl).trans r7)
          have HON3 : Hid (Only [] w w3) := Lib.hid (HON.out.trans (Only.of_below hbl3 (Nat.le_refl _)))
          have hz3 := hbl3.size
          clear r0 r1 r2 r3 r4 r5 r6 r7 q0 q1 q2 q3 q4 q5 q6 q7 hk3 hbl3
          go_loopw [10, 59] (fun v x wr => ∃ k : Nat, k ≤ 8 ∧ x = .int .i64 k ∧ Buf wr w.heap.size 5 v (shTo k u) ∧ Only [] w wr) (fun _ x _ => 8 - (intOf x).toNat)
          case atStart => exact ⟨0, by omega, rfl, hb3, HON3.out⟩
          case round =>
            obtain ⟨k, hk, rfl, hbuf, hon⟩ := hrel
            obtain ⟨A, L, cap, rfl, hL, hLc, hcap⟩ := hbuf.form'
            have HK := Lib.hid hon
            have hsz := hon.size
            have hlen := shTo_length u k hk
            clear hon
            by_cases hk8 : k < 8
            · have hi8 := HT.out k hk8
              have hx := HTO.out k
              have HSU := Lib.hid (shTo_succ u k hk8)
              obtain ⟨x, hxx⟩ : ∃ x, u.list.getD k 0 = x := ⟨_, rfl⟩
              rw [hxx] at hi8 hx HSU
              have HCL := Lib.hid (word_cells x hx)
              have hwz : (wB x).length = 4 := rfl
              generalize wB x = wb at *
              generalize shTo k u = LL at *
              have hll : LL.length ≤ 32 := by omega
              clear hxx
              go_wp2_with (at_builtin; refine wpList_append_buf (by rfl) (.tmp 62) (.tmp 74) 104 104 (by rfl) w.heap.size 5 i0 Tryz.underlying104 hi hz0 hz1 hz2 (by rfl) (hbuf.alloc _) _ wb (by rfl) (src_litN Tryz.underlying104 _ 5 _ wb 4 4 _ hwz (by rfl) HCL.out) (by simp only [World.size_alloc]; omega) (by omega) ?_; intro A3 n3 cap3 w4 hb4 hk4; have HB4 := Lib.hid hb4; have HK4 : Hid (Only [] w w4) := Lib.hid ((HK.out.alloc _).kept hk4); clear hb4 hk4 hbuf)
              go_roundw
              case rel => exact ⟨k + 1, by omega, by go_num, by rw [HSU.out]; exact HB4.out, HK4.out⟩
              case measure => simp [intOf]; omega
            · have e8 : k = 8 := by omega
              subst e8
              rw [shTo_8] at hbuf
              have hst := hbuf.str' (P := Tryz.prog) Tryz.underlying104 Tryz.underlying5 Tryz.underlying9
              rw [← HLL.out] at hst
              obtain ⟨X, HX⟩ : ∃ X, Hid (shaB s = X) := ⟨_, Lib.hid rfl⟩
              rw [HX.out] at hst
              clear hbuf
              go_wp2
              go_ret
              exact ⟨by rw [HX.out]; rfl, HK.out.below (Nat.le_refl _) (by simp)⟩
end Go.Proofs.YtebllmpdlapefaaGreatDoor
namespace Go.Proofs.YtebllmpdlapefaaGreatDoor
set_option linter.unusedVariables false
set_option linter.unusedSimpArgs false
open Go.RowKit

def twI (s : ByteArray) : Nat → ByteArray
  | 0 => s
  | n + 1 => shaB (twI s n)
theorem twI_size (s : ByteArray) (h : s.size ≤ 100000) : ∀ n, (twI s n).size ≤ 100000
  | 0 => h
  | n + 1 => by rw [twI, shaB_size]; omega
set_option maxRecDepth 100000 in
theorem twiceSum_c (s : ByteArray) (w : World) (hs : s.size ≤ 100000) :
    Calls Tryz.prog 132 #[.string s] w fun e w' => e = .returned (.string (sha2 s)) ∧ Below w.heap.size w w' := by
  have H2 : Hid (twI s 2 = sha2 s) := Lib.hid rfl
  go_enter Tryz.func132, Tryz.ntmps132
  go_wp2
  go_loopw [0, 3] (fun v i wr => ∃ k : Nat, k ≤ 2 ∧ i = .int .i64 k ∧ v = .string (twI s k) ∧ Below w.heap.size w wr) (fun _ i _ => 2 - (intOf i).toNat)
  case atStart => exact ⟨0, by omega, rfl, rfl, Below.refl _ _⟩
  case round =>
    obtain ⟨k, hk, rfl, rfl, hb⟩ := hrel
    by_cases h2 : k < 2
    · have HS := Lib.hid (fun w => sum_c (twI s k) w (twI_size s hs k))
      have HN : Hid (twI s (k + 1) = shaB (twI s k)) := Lib.hid rfl
      generalize twI s k = t at *
      generalize shaB t = u at *
      go_wp2_with fail
      refine (HS.out _).mono ?_
      rintro e w2 ⟨rfl, hb2⟩
      have HB := Lib.hid (hb.trans (hb2.mono hb.size))
      clear hb2
      go_wp2
      go_roundw
      case rel => exact ⟨k + 1, by omega, by go_num, by rw [HN.out], HB.out⟩
      case measure => simp [intOf]; omega
    · obtain rfl : k = 2 := by omega
      rw [H2.out]
      go_wp2
      go_ret
      exact ⟨rfl, hb⟩
set_option maxRecDepth 100000 in
theorem check_c (s : ByteArray) (w : World) (hs : s.size ≤ 100000) :
    Calls Tryz.prog 98 #[.string s] w fun e w' => e = .returned (.string (shChk s)) ∧ Below w.heap.size w w' := by
  have HS := Lib.hid (fun w => twiceSum_c s w hs)
  have HC : Hid (shChk s = (sha2 s).extract 0 4) := Lib.hid rfl
  have hz := sha2_size s
  have hz4 : 4 ≤ (sha2 s).size := by omega
  clear hz
  generalize sha2 s = t at *
  go_enter Tryz.func98, Tryz.ntmps98
  go_wp2_with fail
  refine (HS.out _).mono ?_
  rintro e w2 ⟨rfl, hb2⟩
  go_wp2
  go_ret
  exact ⟨by rw [HC.out]; rfl, hb2⟩
theorem chkFits_c (s t : ByteArray) (w : World) (hs : s.size ≤ 100000) :
    Calls Tryz.prog 110 #[.string s, .string t] w fun e w' => e = .returned (.bool (decide (shChk s = t))) ∧ Below w.heap.size w w' := by
  have HS := Lib.hid (fun w => check_c s w hs)
  generalize shChk s = u at *
  rcases str_ways t u with ⟨h1, h2, h3⟩ | ⟨h1, h2, h3⟩
  · have HD : Hid (decide (u = t) = true) := Lib.hid (decide_eq_true h1.symm)
    clear h1
    generalize decide (u = t) = d at *
    go_enter Tryz.func110, Tryz.ntmps110
    go_wp2_with fail
    refine (HS.out _).mono ?_
    rintro e w2 ⟨rfl, hb2⟩
    go_wp2
    go_ret
    exact ⟨by rw [HD.out]; rfl, hb2⟩
  · have HD : Hid (decide (u = t) = false) := Lib.hid (decide_eq_false (fun e => h1 e.symm))
    clear h1
    generalize decide (u = t) = d at *
    go_enter Tryz.func110, Tryz.ntmps110
    go_wp2_with fail
    refine (HS.out _).mono ?_
    rintro e w2 ⟨rfl, hb2⟩
    go_wp2
    go_ret
    exact ⟨by rw [HD.out]; rfl, hb2⟩
end Go.Proofs.YtebllmpdlapefaaGreatDoor
