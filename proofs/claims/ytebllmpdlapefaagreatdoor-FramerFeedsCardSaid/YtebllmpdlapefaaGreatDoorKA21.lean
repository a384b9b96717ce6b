/- The document's Mix. -/
/- The document's padding, digest, checksum. -/
/- The document's checksum. -/
import Derived.Test.YtebllmpdlapefaaGreatDoorKA4
import Derived.Test.YtebllmpdlapefaaGreatDoorKA18
import Derived.Test.YtebllmpdlapefaaGreatDoorKA11
namespace Go.Proofs.YtebllmpdlapefaaGreatDoor
set_option linter.unusedVariables false
set_option linter.unusedSimpArgs false
open Go.RowKit

theorem info8 : (Tryz.prog.info? 30).map (·.size) = some 8 := by kernel_rfl
set_option maxRecDepth 100000 in
set_option maxHeartbeats 4000000 in
theorem refMix_c (s : Sh) (hs : s.ok) (blk : ByteArray) (hb : blk.size = 64) (w : World) :
    Calls Tryz.prog 147 #[keyV, shAgg s, .string blk] w fun e w' => e = .returned (shAgg (shMix shK s blk)) ∧ Only [] w w' := by
  obtain ⟨i0, hi, hz0, hz1, hz2⟩ := info_parts info_u32
  unfold shAgg keyV
  obtain ⟨KC, hKC⟩ : ∃ KC, kC 64 = KC := ⟨_, rfl⟩
  rw [hKC]
  have HKC := Lib.hid hKC
  clear hKC
  go_enter Tryz.func147, Tryz.ntmps147
  go_wp2_with (at_make; refine wpList_make_row _ (by rfl) _ _ 181 (by rfl) 22 i0 (.int .u32 0) Tryz.underlying181 hi hz0 hz1 (by rfl) .i64 .i64 64 (by rfl) (by rfl) (by rw [hz2]; omega) (by omega) ?_)
  obtain ⟨g, hg⟩ : ∃ g, w.heap.size + 1 + 1 + 1 = g := ⟨_, rfl⟩
  obtain ⟨W1, hW1⟩ : ∃ W1, (((w.alloc (.cells KC 32)).alloc (.cells #[.int .u32 s.a, .int .u32 s.b, .int .u32 s.c, .int .u32 s.d, .int .u32 s.e, .int .u32 s.f, .int .u32 s.g, .int .u32 s.h] 30)).alloc (.cells #[.int .u32 0, .int .u32 0, .int .u32 0, .int .u32 0, .int .u32 0, .int .u32 0, .int .u32 0, .int .u32 0] 30)).alloc (.cells (madeCells #[Value.int .u32 0] 64) 22) = W1 := ⟨_, rfl⟩
  have HK1 : Hid (Blk W1 w.heap.size 32 KC) := Lib.hid (by rw [← hW1]; exact (((Blk.new w _ _).alloc _).alloc _).alloc _)
  have HS1 : Hid (Blk W1 (w.heap.size + 1) 30 (shCells s)) := Lib.hid (by
    rw [← hW1]
    have := Blk.new (w.alloc (.cells KC 32)) 30 (shCells s)
    rw [World.size_alloc] at this
    exact (this.alloc _).alloc _)
  have HZ1 : Hid (Blk W1 (w.heap.size + 1 + 1) 30 #[.int .u32 0, .int .u32 0, .int .u32 0, .int .u32 0, .int .u32 0, .int .u32 0, .int .u32 0, .int .u32 0]) := Lib.hid (by
    rw [← hW1]
    have := Blk.new ((w.alloc (.cells KC 32)).alloc (.cells (shCells s) 30)) 30 #[.int .u32 0, .int .u32 0, .int .u32 0, .int .u32 0, .int .u32 0, .int .u32 0, .int .u32 0, .int .u32 0]
    rw [World.size_alloc, World.size_alloc] at this
    exact this.alloc _)
  have HG1 : Hid (Blk W1 g 22 (nu (wl blk 0))) := Lib.hid (by
    rw [← hW1, wl_zero, ← made_words]
    have := Blk.new (((w.alloc (.cells KC 32)).alloc (.cells #[.int .u32 s.a, .int .u32 s.b, .int .u32 s.c, .int .u32 s.d, .int .u32 s.e, .int .u32 s.f, .int .u32 s.g, .int .u32 s.h] 30)).alloc (.cells #[.int .u32 0, .int .u32 0, .int .u32 0, .int .u32 0, .int .u32 0, .int .u32 0, .int .u32 0, .int .u32 0] 30)) 22 (madeCells #[Value.int .u32 0] 64)
    simp only [World.size_alloc] at this
    rw [← hg]; exact this)
  have HO1 : Hid (Only [] w W1) := Lib.hid (by rw [← hW1]; exact ((((Only.refl [] w).alloc _).alloc _).alloc _).alloc _)
  have hz1 : W1.heap.size = g + 1 := by rw [← hW1, ← hg]; simp
  have hgw : g = w.heap.size + 3 := by omega
  have HGW := Lib.hid hgw
  have HZ := Lib.hid hz1
  have hgl : w.heap.size + 2 < g := by omega
  have hwl := HK1.out.lt
  rw [hW1, hg]
  clear hW1 hg hgw
  go_loopw [8] (fun i wr => RM1 W1 g blk i wr) (fun i _ => 64 - (intOf i).toNat)
  case atStart => exact ⟨0, by omega, rfl, HG1.out, Only.refl _ _⟩
  case round =>
    obtain ⟨k, hk, rfl, hwd, hon⟩ := hrel.ex
    have HWD := Lib.hid hwd
    have HON := Lib.hid hon
    by_cases hk64 : k < 64
    · have HNX := Lib.hid (fun (nq : Nat) => (show RM1 W1 g blk (.int .i64 ((k : Int) + 1)) ((wr.drewN nq).setCell ⟨g, k, none⟩ (.int .u32 (wAt blk k : Nat))) from ⟨k + 1, by omega, by go_num, (HWD.out.drewN nq).putWord hk64, (HON.out.drewN nq).setCell (.inl (by simp)) _⟩))
      have fK := hwd.frozen k
      have i1 : (0 : Int) ≤ (k : Int) := by omega
      have i2 : (k : Int) < 64 := by omega
      by_cases hk16 : k < 16
      · obtain ⟨cv, cK⟩ := hwd.wordAny (j := k) hk64
        obtain ⟨q0, h0⟩ : ∃ q, 4 * k = q := ⟨_, rfl⟩
        obtain ⟨q1, h1⟩ : ∃ q, q0 + 1 = q := ⟨_, rfl⟩
        obtain ⟨q2, h2⟩ : ∃ q, q0 + 2 = q := ⟨_, rfl⟩
        obtain ⟨q3, h3⟩ : ∃ q, q0 + 3 = q := ⟨_, rfl⟩
        have a0 : (4 : Int) * (k : Int) = (q0 : Int) := by omega
        have a1 : (q0 : Int) + 1 = (q1 : Int) := by omega
        have a2 : (q0 : Int) + 2 = (q2 : Int) := by omega
        have a3 : (q0 : Int) + 3 = (q3 : Int) := by omega
        have w0 : IntKind.i64.wrap ((4 : Int) * (k : Int)) = (q0 : Int) := by rw [a0]; exact IntWalk.i64_in _ (by omega)
        have w1 : IntKind.i64.wrap ((q0 : Int) + 1) = (q1 : Int) := by rw [a1]; exact IntWalk.i64_in _ (by omega)
        have w2 : IntKind.i64.wrap ((q0 : Int) + 2) = (q2 : Int) := by rw [a2]; exact IntWalk.i64_in _ (by omega)
        have w3 : IntKind.i64.wrap ((q0 : Int) + 3) = (q3 : Int) := by rw [a3]; exact IntWalk.i64_in _ (by omega)
        have l0 : q0 < blk.size := by omega
        have l1 : q1 < blk.size := by omega
        have l2 : q2 < blk.size := by omega
        have l3 : q3 < blk.size := by omega
        have v0 := blk[q0].toNat_lt
        have v1 := blk[q1].toNat_lt
        have v2 := blk[q2].toNat_lt
        have v3 := blk[q3].toNat_lt
        have HV : Hid (wAt blk k = blk[q0].toNat * 16777216 + blk[q1].toNat * 65536 + blk[q2].toNat * 256 + blk[q3].toNat) := Lib.hid (by
          rw [wAt_first blk k hk16]
          have hg : ∀ j (hj : j < blk.size), blk.data.toList.getD j 0 = blk[j] := fun j hj => by rw [List.getD_eq_getElem?_getD, byte_at blk j hj]; rfl
          unfold wordAt
          rw [h0, h1, h2, h3, hg q0 l0, hg q1 l1, hg q2 l2, hg q3 l3])
        obtain ⟨wk, hwk⟩ : ∃ r, wAt blk k = r := ⟨_, rfl⟩
        rw [hwk] at HNX HV
        have EV : Hid ((blk[q0].toNat : Int) * 16777216 + (blk[q1].toNat : Int) * 65536 + (blk[q2].toNat : Int) * 256 + (blk[q3].toNat : Int) = (wk : Int)) := Lib.hid (by rw [HV.out]; simp)
        have z0 : (0 : Int) ≤ (q0 : Int) := by omega
        have z1 : (0 : Int) ≤ (q1 : Int) := by omega
        have z2 : (0 : Int) ≤ (q2 : Int) := by omega
        have z3 : (0 : Int) ≤ (q3 : Int) := by omega
        have y0 : (q0 : Int) < (blk.size : Int) := by omega
        have y1 : (q1 : Int) < (blk.size : Int) := by omega
        have y2 : (q2 : Int) < (blk.size : Int) := by omega
        have y3 : (q3 : Int) < (blk.size : Int) := by omega
        clear hwd hon h0 h1 h2 h3 hwk hb
        go_wp2
        refine wp_region_quiet_tail 32 (by kernel_rfl) (by kernel_rfl) ?_
        simp only [List.take_succ_cons, List.take_zero, List.drop_succ_cons, List.drop_zero]
        repeat (go_big_quiet_step (fail))
        refine wpQuiet_nil ?_
        intro nq2
        go_wp2
        rw [EV.out]
        go_roundw
        case rel => exact HNX.out nq2
        case measure => simp [intOf]; omega
      · have c15 := hwd.word (j := k - 15) (by omega) (by omega)
        have c2 := hwd.word (j := k - 2) (by omega) (by omega)
        have c16 := hwd.word (j := k - 16) (by omega) (by omega)
        have c7 := hwd.word (j := k - 7) (by omega) (by omega)
        obtain ⟨cv, cK⟩ := hwd.wordAny (j := k) hk64
        have HR := Lib.hid (wAt_rec blk k (by omega) hk64)
        have b15 := wAt_lt blk (k - 15)
        have b2 := wAt_lt blk (k - 2)
        have b16 := wAt_lt blk (k - 16)
        have b7 := wAt_lt blk (k - 7)
        obtain ⟨x, hx⟩ : ∃ x, wAt blk (k - 15) = x := ⟨_, rfl⟩
        obtain ⟨y, hy⟩ : ∃ y, wAt blk (k - 2) = y := ⟨_, rfl⟩
        obtain ⟨u, hu⟩ : ∃ u, wAt blk (k - 16) = u := ⟨_, rfl⟩
        obtain ⟨v, hv⟩ : ∃ v, wAt blk (k - 7) = v := ⟨_, rfl⟩
        rw [hx] at c15 b15 HR
        rw [hy] at c2 b2 HR
        rw [hu] at c16 b16 HR
        rw [hv] at c7 b7 HR
        obtain ⟨j15, h15⟩ : ∃ j, k - 15 = j := ⟨_, rfl⟩
        obtain ⟨j2, h2⟩ : ∃ j, k - 2 = j := ⟨_, rfl⟩
        obtain ⟨j16, h16⟩ : ∃ j, k - 16 = j := ⟨_, rfl⟩
        obtain ⟨j7, h7⟩ : ∃ j, k - 7 = j := ⟨_, rfl⟩
        rw [h15] at c15
        rw [h2] at c2
        rw [h16] at c16
        rw [h7] at c7
        have a15 : (k : Int) - 15 = (j15 : Int) := by omega
        have a2 : (k : Int) - 2 = (j2 : Int) := by omega
        have a16 : (k : Int) - 16 = (j16 : Int) := by omega
        have a7 : (k : Int) - 7 = (j7 : Int) := by omega
        have w15 : IntKind.i64.wrap ((k : Int) - 15) = (j15 : Int) := by rw [a15]; exact IntWalk.i64_in _ (by omega)
        have w2 : IntKind.i64.wrap ((k : Int) - 2) = (j2 : Int) := by rw [a2]; exact IntWalk.i64_in _ (by omega)
        have w16 : IntKind.i64.wrap ((k : Int) - 16) = (j16 : Int) := by rw [a16]; exact IntWalk.i64_in _ (by omega)
        have w7 : IntKind.i64.wrap ((k : Int) - 7) = (j7 : Int) := by rw [a7]; exact IntWalk.i64_in _ (by omega)
        have l15 : (j15 : Int) < 64 := by omega
        have l2 : (j2 : Int) < 64 := by omega
        have l16 : (j16 : Int) < 64 := by omega
        have l7 : (j7 : Int) < 64 := by omega
        have P7 := Lib.hid (fun w => refSpin_c x 7 w b15 (by omega) (by omega))
        have P18 := Lib.hid (fun w => refSpin_c x 18 w b15 (by omega) (by omega))
        have P17 := Lib.hid (fun w => refSpin_c y 17 w b2 (by omega) (by omega))
        have P19 := Lib.hid (fun w => refSpin_c y 19 w b2 (by omega) (by omega))
        have s7 := rotr_lt 7 b15
        have s18 := rotr_lt 18 b15
        have s17 := rotr_lt 17 b2
        have s19 := rotr_lt 19 b2
        have HS0 : Hid (sg0 x = rotr x 7 ^^^ rotr x 18 ^^^ x / 2 ^ 3) := Lib.hid rfl
        have HS1' : Hid (sg1 y = rotr y 17 ^^^ rotr y 19 ^^^ y / 2 ^ 10) := Lib.hid rfl
        obtain ⟨r7, hr7⟩ : ∃ r, rotr x 7 = r := ⟨_, rfl⟩
        obtain ⟨r18, hr18⟩ : ∃ r, rotr x 18 = r := ⟨_, rfl⟩
        obtain ⟨r17, hr17⟩ : ∃ r, rotr y 17 = r := ⟨_, rfl⟩
        obtain ⟨r19, hr19⟩ : ∃ r, rotr y 19 = r := ⟨_, rfl⟩
        rw [hr7] at P7 s7 HS0
        rw [hr18] at P18 s18 HS0
        rw [hr17] at P17 s17 HS1'
        rw [hr19] at P19 s19 HS1'
        have x1 := xor_val s7 s18
        have x2 := xor_val s17 s19
        have y1 := xor_lt32 s7 s18
        have y2 := xor_lt32 s17 s19
        obtain ⟨p1, hp1⟩ : ∃ r, r7 ^^^ r18 = r := ⟨_, rfl⟩
        obtain ⟨p2, hp2⟩ : ∃ r, r17 ^^^ r19 = r := ⟨_, rfl⟩
        rw [hp1] at x1 y1 HS0
        rw [hp2] at x2 y2 HS1'
        have x3 := xor_val y1 (div_lt32 3 b15)
        have x4 := xor_val y2 (div_lt32 10 b2)
        have e3 : ((x / 2 ^ 3 : Nat) : Int) = (x : Int) / 8 := by omega
        have e4 : ((y / 2 ^ 10 : Nat) : Int) = (y : Int) / 1024 := by omega
        rw [e3] at x3
        rw [e4] at x4
        have y3 := xor_lt32 y1 (div_lt32 3 b15)
        have y4 := xor_lt32 y2 (div_lt32 10 b2)
        rw [← HS0.out] at x3 y3
        rw [← HS1'.out] at x4 y4
        generalize sg0 x = sx at *
        generalize sg1 y = sy at *
        obtain ⟨wk, hwk⟩ : ∃ r, wAt blk k = r := ⟨_, rfl⟩
        rw [hwk] at HNX HR
        have EV : Hid (((u : Int) + sx + v + sy) % 4294967296 = (wk : Int)) := Lib.hid (by have := HR.out; omega)
        clear hwd hon hx hy hu hv h15 h2 h16 h7 hr7 hr18 hr17 hr19 hp1 hp2 hwk e3 e4 HS0 HS1'
        go_wp2
        go_quiet (fail)
        obtain ⟨wq, hwq⟩ : ∃ wq, wr.drewN nq = wq := ⟨_, rfl⟩
        replace c16 : wq.cell? ⟨g, j16, none⟩ = some (.int .u32 (u : Nat)) := by rw [← hwq]; exact c16
        replace c7 : wq.cell? ⟨g, j7, none⟩ = some (.int .u32 (v : Nat)) := by rw [← hwq]; exact c7
        replace cK : wq.cell? ⟨g, k, none⟩ = some cv := by rw [← hwq]; exact cK
        replace fK : wq.frozen? ⟨g, k, none⟩ = false := by rw [← hwq]; exact fK
        have HNQ : Hid (∀ n2, RM1 W1 g blk (.int .i64 ((k : Int) + 1)) ((wq.drewN n2).setCell ⟨g, k, none⟩ (.int .u32 (wk : Nat)))) := Lib.hid (fun n2 => by rw [← hwq, World.drewN_drewN]; exact HNX.out (nq + n2))
        rw [hwq]
        clear hwq c15 c2
        go_wp2
        refine wp_region_quiet_tail 32 (by kernel_rfl) (by kernel_rfl) ?_
        simp only [List.take_succ_cons, List.take_zero, List.drop_succ_cons, List.drop_zero]
        repeat (go_big_quiet_step (first | (with_reducible exact Calls.quiet_of_same' (P7.out _)) | (with_reducible exact Calls.quiet_of_same' (P18.out _)) | (with_reducible exact Calls.quiet_of_same' (P17.out _)) | (with_reducible exact Calls.quiet_of_same' (P19.out _))))
        refine wpQuiet_nil ?_
        intro nq2
        go_wp2
        rw [EV.out]
        go_roundw
        case rel => exact HNQ.out nq2
        case measure => simp [intOf]; omega
    · have hk4 : k = 64 := by omega
      subst hk4
      have hon' := hon
      have HKw : Hid (Blk wr w.heap.size 32 KC) := Lib.hid (HK1.out.only hon' (by simp; omega))
      have HSw : Hid (Blk wr (w.heap.size + 1) 30 (shCells s)) := Lib.hid (HS1.out.only hon' (by simp; omega))
      have HZw : Hid (Blk wr (w.heap.size + 1 + 1) 30 #[.int .u32 0, .int .u32 0, .int .u32 0, .int .u32 0, .int .u32 0, .int .u32 0, .int .u32 0, .int .u32 0]) := Lib.hid (HZ1.out.only hon' (by simp; omega))
      have HOw : Hid (Only [] w wr) := Lib.hid (HO1.out.trans' hon' (fun i hi => .inr (by simp at hi; omega)))
      have hwz := hon'.size
      obtain ⟨c0, c1, c2, c3, c4, c5, c6, c7⟩ := HSw.out.cells8
      clear hwd hon hon'
      go_wp2
      clear c0 c1 c2 c3 c4 c5 c6 c7
      obtain ⟨W2, hW2⟩ : ∃ W2, wr.alloc (.cells #[.int .u32 s.a, .int .u32 s.b, .int .u32 s.c, .int .u32 s.d, .int .u32 s.e, .int .u32 s.f, .int .u32 s.g, .int .u32 s.h] 30) = W2 := ⟨_, rfl⟩
      obtain ⟨m, hm⟩ : ∃ m, wr.heap.size = m := ⟨_, rfl⟩
      have HK2 : Hid (Blk W2 w.heap.size 32 KC) := Lib.hid (by rw [← hW2]; exact HKw.out.alloc _)
      have HS2 : Hid (Blk W2 (w.heap.size + 1) 30 (shCells s)) := Lib.hid (by rw [← hW2]; exact HSw.out.alloc _)
      have HZ2 : Hid (Blk W2 (w.heap.size + 1 + 1) 30 #[.int .u32 0, .int .u32 0, .int .u32 0, .int .u32 0, .int .u32 0, .int .u32 0, .int .u32 0, .int .u32 0]) := Lib.hid (by rw [← hW2]; exact HZw.out.alloc _)
      have HG2 : Hid (Blk W2 g 22 (nu (wl blk 64))) := Lib.hid (by rw [← hW2]; exact HWD.out.alloc _)
      have HM2 : Hid (Blk W2 m 30 (shCells s)) := Lib.hid (by rw [← hW2, ← hm]; exact Blk.new wr _ _)
      have HO2 : Hid (Only [] w W2) := Lib.hid (by rw [← hW2]; exact HOw.out.alloc _)
      have hmg : g < m := by omega
      have hz2 : W2.heap.size = m + 1 := by rw [← hW2, ← hm]; simp
      rw [hW2, hm]
      clear hW2 hm hwz hz1
      go_loopw [12] (fun i wr => RM2 W2 (w.heap.size + 1) blk s i wr) (fun i _ => 64 - (intOf i).toNat)
      case atStart => exact ⟨0, by omega, rfl, HS2.out, Only.refl _ _⟩
      case round =>
        obtain ⟨k, hk, rfl, hst, hon⟩ := hrel.ex
        have HON := Lib.hid hon
        by_cases hk64 : k < 64
        · have HSTP : Hid (shRounds shK blk (k + 1) s = shStep (shK.getD k 0) (wAt blk k) (shRounds shK blk k s)) := Lib.hid rfl
          have hto := shRounds_ok shK blk k hs
          obtain ⟨t, ht⟩ : ∃ t, shRounds shK blk k s = t := ⟨_, rfl⟩
          rw [ht] at hst HSTP hto
          obtain ⟨ta, tb, tc, td, te, tf, tg, th⟩ := hto
          obtain ⟨c0, c1, c2, c3, c4, c5, c6, c7⟩ := hst.cells8
          obtain ⟨f0, f1, f2, f3, f4, f5, f6, f7⟩ := hst.free8
          have cw : wr.cell? ⟨g, k, none⟩ = some (.int .u32 (wAt blk k : Nat)) := (HG2.out.only hon (by simp; omega)).word hk64 hk64
          have ck : wr.cell? ⟨w.heap.size, k, none⟩ = some (.int .u32 (shK.getD k 0 : Nat)) := by
            have h1 := (HK2.out.only hon (by simp)).cell k
            rw [← HKC.out, kC_at 64 k (by omega)] at h1
            have h2 : kNum shK shH 64 k = shK.getD k 0 := by unfold kNum; rw [if_pos hk64, if_pos hk64]
            rw [h2] at h1; exact h1
          have wl2 := wAt_lt blk k
          have kl2 := shK_lt k
          have HST := Lib.hid hst
          have HT := Lib.hid ht
          clear hst hon ht
          generalize wAt blk k = wk at *
          generalize shK.getD k 0 = kc at *
          have P6 := Lib.hid (fun w => refSpin_c t.e 6 w te (by omega) (by omega))
          have P11 := Lib.hid (fun w => refSpin_c t.e 11 w te (by omega) (by omega))
          have P25 := Lib.hid (fun w => refSpin_c t.e 25 w te (by omega) (by omega))
          have P2 := Lib.hid (fun w => refSpin_c t.a 2 w ta (by omega) (by omega))
          have P13 := Lib.hid (fun w => refSpin_c t.a 13 w ta (by omega) (by omega))
          have P22 := Lib.hid (fun w => refSpin_c t.a 22 w ta (by omega) (by omega))
          have PC := Lib.hid (fun w => refChoice_c t.e t.f t.g w te tf tg)
          have PV := Lib.hid (fun w => refVote_c t.a t.b t.c w ta tb tc)
          have s6 := rotr_lt 6 te
          have s11 := rotr_lt 11 te
          have s25 := rotr_lt 25 te
          have s2 := rotr_lt 2 ta
          have s13 := rotr_lt 13 ta
          have s22 := rotr_lt 22 ta
          have HG1' : Hid (Sg1 t.e = rotr t.e 6 ^^^ rotr t.e 11 ^^^ rotr t.e 25) := Lib.hid rfl
          have HG0' : Hid (Sg0 t.a = rotr t.a 2 ^^^ rotr t.a 13 ^^^ rotr t.a 22) := Lib.hid rfl
          have hch := shCh_lt (f := t.f) (g := t.g) te
          have hvo := shMaj_lt (c := t.c) ta tb
          have g1l := Sg1_lt te
          have g0l := Sg0_lt ta
          have HSS : Hid (shStep kc wk t = ⟨(((t.h + Sg1 t.e + kc + wk + shCh t.e t.f t.g) % 4294967296) + ((Sg0 t.a + shMaj t.a t.b t.c) % 4294967296)) % 4294967296, t.a, t.b, t.c, (t.d + (t.h + Sg1 t.e + kc + wk + shCh t.e t.f t.g) % 4294967296) % 4294967296, t.e, t.f, t.g⟩) := Lib.hid rfl
          generalize shCh t.e t.f t.g = cv at *
          generalize shMaj t.a t.b t.c = mv at *
          generalize Sg1 t.e = g1 at *
          generalize Sg0 t.a = g0 at *
          obtain ⟨r6, hr6⟩ : ∃ r, rotr t.e 6 = r := ⟨_, rfl⟩
          obtain ⟨r11, hr11⟩ : ∃ r, rotr t.e 11 = r := ⟨_, rfl⟩
          obtain ⟨r25, hr25⟩ : ∃ r, rotr t.e 25 = r := ⟨_, rfl⟩
          obtain ⟨r2, hr2⟩ : ∃ r, rotr t.a 2 = r := ⟨_, rfl⟩
          obtain ⟨r13, hr13⟩ : ∃ r, rotr t.a 13 = r := ⟨_, rfl⟩
          obtain ⟨r22, hr22⟩ : ∃ r, rotr t.a 22 = r := ⟨_, rfl⟩
          rw [hr6] at P6 s6 HG1'
          rw [hr11] at P11 s11 HG1'
          rw [hr25] at P25 s25 HG1'
          rw [hr2] at P2 s2 HG0'
          rw [hr13] at P13 s13 HG0'
          rw [hr22] at P22 s22 HG0'
          have x1 := xor_val s6 s11
          have x3 := xor_val s2 s13
          have y1 := xor_lt32 s6 s11
          have y3 := xor_lt32 s2 s13
          have x2 := xor_val y1 s25
          have x4 := xor_val y3 s22
          rw [← HG1'.out] at x2
          rw [← HG0'.out] at x4
          obtain ⟨p1, hp1⟩ : ∃ r, r6 ^^^ r11 = r := ⟨_, rfl⟩
          obtain ⟨p3, hp3⟩ : ∃ r, r2 ^^^ r13 = r := ⟨_, rfl⟩
          rw [hp1] at x1 y1 x2
          rw [hp3] at x3 y3 x4
          obtain ⟨pv, hpv⟩ : ∃ pv, (t.h + g1 + kc + wk + cv) % 4294967296 = pv := ⟨_, rfl⟩
          have HPV : Hid ((((t.h : Int) + g1 + kc + wk) % 4294967296 + cv) % 4294967296 = (pv : Int)) := Lib.hid (by omega)
          have HPV2 : Hid (((t.h : Int) + g1 + kc + wk + cv) % 4294967296 = (pv : Int)) := Lib.hid (by omega)
          have hpl : pv < 4294967296 := by omega
          rw [hpv] at HSS
          clear hpv hr6 hr11 hr25 hr2 hr13 hr22 hp1 hp3 HG1' HG0'
          go_wp2
          go_quiet ((first | (with_reducible exact Calls.quiet_of_same' (P6.out _)) | (with_reducible exact Calls.quiet_of_same' (P11.out _)) | (with_reducible exact Calls.quiet_of_same' (P25.out _)) | (with_reducible exact Calls.quiet_of_same' (PC.out _))))
          rw [HPV.out]
          obtain ⟨wq, hwq⟩ : ∃ wq, wr.drewN nq = wq := ⟨_, rfl⟩
          rw [hwq]
          replace c0 : wq.cell? ⟨w.heap.size + 1, 0, none⟩ = some (.int .u32 t.a) := by rw [← hwq]; exact c0
          replace c1 : wq.cell? ⟨w.heap.size + 1, 1, none⟩ = some (.int .u32 t.b) := by rw [← hwq]; exact c1
          replace c2 : wq.cell? ⟨w.heap.size + 1, 2, none⟩ = some (.int .u32 t.c) := by rw [← hwq]; exact c2
          replace c3 : wq.cell? ⟨w.heap.size + 1, 3, none⟩ = some (.int .u32 t.d) := by rw [← hwq]; exact c3
          replace c4 : wq.cell? ⟨w.heap.size + 1, 4, none⟩ = some (.int .u32 t.e) := by rw [← hwq]; exact c4
          replace c5 : wq.cell? ⟨w.heap.size + 1, 5, none⟩ = some (.int .u32 t.f) := by rw [← hwq]; exact c5
          replace c6 : wq.cell? ⟨w.heap.size + 1, 6, none⟩ = some (.int .u32 t.g) := by rw [← hwq]; exact c6
          replace c7 : wq.cell? ⟨w.heap.size + 1, 7, none⟩ = some (.int .u32 t.h) := by rw [← hwq]; exact c7
          replace f0 : wq.frozen? ⟨w.heap.size + 1, 0, none⟩ = false := by rw [← hwq]; exact f0
          replace f1 : wq.frozen? ⟨w.heap.size + 1, 1, none⟩ = false := by rw [← hwq]; exact f1
          replace f2 : wq.frozen? ⟨w.heap.size + 1, 2, none⟩ = false := by rw [← hwq]; exact f2
          replace f3 : wq.frozen? ⟨w.heap.size + 1, 3, none⟩ = false := by rw [← hwq]; exact f3
          replace f4 : wq.frozen? ⟨w.heap.size + 1, 4, none⟩ = false := by rw [← hwq]; exact f4
          replace f5 : wq.frozen? ⟨w.heap.size + 1, 5, none⟩ = false := by rw [← hwq]; exact f5
          replace f6 : wq.frozen? ⟨w.heap.size + 1, 6, none⟩ = false := by rw [← hwq]; exact f6
          replace f7 : wq.frozen? ⟨w.heap.size + 1, 7, none⟩ = false := by rw [← hwq]; exact f7
          obtain ⟨n1, hn1⟩ : ∃ n1, wr.drewN n1 = wq := ⟨nq, hwq⟩
          have HWQ := Lib.hid hn1
          clear hn1
          clear hwq cw ck P6 P11 P25 PC HPV HPV2 x1 x2 y1 s6 s11 s25
          go_wp2
          go_quiet ((first | (with_reducible exact Calls.quiet_of_same' (P2.out _)) | (with_reducible exact Calls.quiet_of_same' (P13.out _)) | (with_reducible exact Calls.quiet_of_same' (P22.out _)) | (with_reducible exact Calls.quiet_of_same' (PV.out _))))
          obtain ⟨wz, hwz2⟩ : ∃ wz, wq.drewN nq = wz := ⟨_, rfl⟩
          rw [hwz2]
          replace c0 : wz.cell? ⟨w.heap.size + 1, 0, none⟩ = some (.int .u32 t.a) := by rw [← hwz2]; exact c0
          replace c1 : wz.cell? ⟨w.heap.size + 1, 1, none⟩ = some (.int .u32 t.b) := by rw [← hwz2]; exact c1
          replace c2 : wz.cell? ⟨w.heap.size + 1, 2, none⟩ = some (.int .u32 t.c) := by rw [← hwz2]; exact c2
          replace c3 : wz.cell? ⟨w.heap.size + 1, 3, none⟩ = some (.int .u32 t.d) := by rw [← hwz2]; exact c3
          replace c4 : wz.cell? ⟨w.heap.size + 1, 4, none⟩ = some (.int .u32 t.e) := by rw [← hwz2]; exact c4
          replace c5 : wz.cell? ⟨w.heap.size + 1, 5, none⟩ = some (.int .u32 t.f) := by rw [← hwz2]; exact c5
          replace c6 : wz.cell? ⟨w.heap.size + 1, 6, none⟩ = some (.int .u32 t.g) := by rw [← hwz2]; exact c6
          replace c7 : wz.cell? ⟨w.heap.size + 1, 7, none⟩ = some (.int .u32 t.h) := by rw [← hwz2]; exact c7
          replace f0 : wz.frozen? ⟨w.heap.size + 1, 0, none⟩ = false := by rw [← hwz2]; exact f0
          replace f1 : wz.frozen? ⟨w.heap.size + 1, 1, none⟩ = false := by rw [← hwz2]; exact f1
          replace f2 : wz.frozen? ⟨w.heap.size + 1, 2, none⟩ = false := by rw [← hwz2]; exact f2
          replace f3 : wz.frozen? ⟨w.heap.size + 1, 3, none⟩ = false := by rw [← hwz2]; exact f3
          replace f4 : wz.frozen? ⟨w.heap.size + 1, 4, none⟩ = false := by rw [← hwz2]; exact f4
          replace f5 : wz.frozen? ⟨w.heap.size + 1, 5, none⟩ = false := by rw [← hwz2]; exact f5
          replace f6 : wz.frozen? ⟨w.heap.size + 1, 6, none⟩ = false := by rw [← hwz2]; exact f6
          replace f7 : wz.frozen? ⟨w.heap.size + 1, 7, none⟩ = false := by rw [← hwz2]; exact f7
          obtain ⟨av, hav⟩ : ∃ av, (pv + (g0 + mv) % 4294967296) % 4294967296 = av := ⟨_, rfl⟩
          obtain ⟨ev, hev⟩ : ∃ ev, (t.d + pv) % 4294967296 = ev := ⟨_, rfl⟩
          have HAV : Hid (((pv : Int) + ((g0 : Int) + mv)) % 4294967296 = (av : Int)) := Lib.hid (by omega)
          have HEV : Hid (((t.d : Int) + pv) % 4294967296 = (ev : Int)) := Lib.hid (by omega)
          rw [hav, hev] at HSS
          have hnx : RM2 W2 (w.heap.size + 1) blk s (.int .i64 ((k : Int) + 1)) (putRes wz (w.heap.size + 1) ⟨av, t.a, t.b, t.c, ev, t.e, t.f, t.g⟩) := by
            have e1 : wz = (wr.drewN n1).drewN nq := by rw [← hwz2, HWQ.out]
            have hst := HST.out
            rw [e1]
            refine ⟨k + 1, by omega, by go_num, ?_, ?_⟩
            · rw [HSTP.out, HSS.out]
              exact putRes_any _ ((HST.out.drewN n1).drewN nq)
            · have ho := (HON.out.drewN n1).drewN nq
              unfold putRes
              exact (((((((ho.setCell (.inl (by simp)) _).setCell (.inl (by simp)) _).setCell (.inl (by simp)) _).setCell (.inl (by simp)) _).setCell (.inl (by simp)) _).setCell (.inl (by simp)) _).setCell (.inl (by simp)) _).setCell (.inl (by simp)) _
          unfold putRes at hnx
          have HNX := Lib.hid hnx
          clear hwz2 hnx hav hev P2 P13 P22 PV x3 x4 y3 s2 s13 s22
          go_wp2
          rw [HAV.out, HEV.out]
          go_roundw
          case rel => exact HNX.out
          case measure => simp [intOf]; omega
        · have hk4 : k = 64 := by omega
          subst hk4
          obtain ⟨t, ht⟩ : ∃ t, shRounds shK blk 64 s = t := ⟨_, rfl⟩
          rw [ht] at hst
          have HT := Lib.hid ht
          have HM3 : Hid (Blk wr m 30 (shCells s)) := Lib.hid (HM2.out.only hon (by simp; omega))
          have HZ3 : Hid (Blk wr (w.heap.size + 1 + 1) 30 #[.int .u32 0, .int .u32 0, .int .u32 0, .int .u32 0, .int .u32 0, .int .u32 0, .int .u32 0, .int .u32 0]) := Lib.hid (HZ2.out.only hon (by simp))
          have HO3 : Hid (Only [] w wr) := Lib.hid (HO2.out.trans' hon (fun i hi => .inr (by simp at hi; omega)))
          have HST3 : Hid (Blk wr (w.heap.size + 1) 30 (shCells (shMid 0 t s))) := Lib.hid hst
          have hto := Lib.hid (shRounds_ok shK blk 64 hs)
          rw [ht] at hto
          have HSO := Lib.hid hs
          clear hst hon ht
          go_wp2
          obtain ⟨W3, rfl⟩ : ∃ W3, W3 = wr := ⟨wr, rfl⟩
          go_loopw [15] (fun i wr => RM3 W3 (w.heap.size + 1) t s i wr) (fun i _ => 8 - (intOf i).toNat)
          case atStart => exact ⟨0, by omega, rfl, HST3.out, Only.refl _ _⟩
          case round =>
            obtain ⟨k, hk, rfl, hst, hon⟩ := hrel.ex
            have HON := Lib.hid hon
            by_cases hk8 : k < 8
            · have cv := (hst.cell k).trans (shMid_at t s k hk8)
              have cs : wr.cell? ⟨m, k, none⟩ = some (.int .u32 (s.list.getD k 0 : Nat)) := ((HM3.out.only hon (by simp; omega)).cell k).trans (cells8_at s k hk8)
              have fv := hst.frozen k
              have lt := Sh.ok_at hto.out k
              have ls := Sh.ok_at HSO.out k
              have HN := Lib.hid (fun (n : Nat) => (show RM3 W3 (w.heap.size + 1) t s (.int .i64 ((k : Int) + 1)) ((wr.drewN n).setCell ⟨w.heap.size + 1, k, none⟩ (.int .u32 ((t.list.getD k 0 + s.list.getD k 0) % 4294967296 : Nat))) from
                ⟨k + 1, by omega, by go_num, by rw [← shMid_set t s k hk8]; exact (hst.drewN n).set k _, (hon.drewN n).setCell (.inl (by simp)) _⟩))
              obtain ⟨x, hx⟩ : ∃ x, t.list.getD k 0 = x := ⟨_, rfl⟩
              obtain ⟨y, hy⟩ : ∃ y, s.list.getD k 0 = y := ⟨_, rfl⟩
              rw [hx] at cv lt HN
              rw [hy] at cs ls HN
              obtain ⟨z, hz⟩ : ∃ z, (x + y) % 4294967296 = z := ⟨_, rfl⟩
              have EZ : Hid (((x : Int) + y) % 4294967296 = (z : Int)) := Lib.hid (by omega)
              rw [hz] at HN
              have i1 : (0 : Int) ≤ (k : Int) := by omega
              have i2 : (k : Int) < 8 := by omega
              clear hst hon hx hy hz
              go_wp2
              refine wp_region_quiet_tail 9 (by kernel_rfl) (by kernel_rfl) ?_
              simp only [List.take_succ_cons, List.take_zero, List.drop_succ_cons, List.drop_zero]
              repeat (go_big_quiet_step (fail))
              refine wpQuiet_nil ?_
              intro nq2
              go_wp2
              rw [EZ.out]
              go_roundw
              case rel => exact HN.out nq2
              case measure => simp [intOf]; omega
            · have hk9 : k = 8 := by omega
              subst hk9
              rw [shMid_end] at hst
              have HMX : Hid (shMix shK s blk = shAdd s t) := Lib.hid (by rw [← HT.out]; rfl)
              obtain ⟨R, hR⟩ : ∃ R, shAdd s t = R := ⟨_, rfl⟩
              rw [hR] at hst HMX
              have HZR : Hid (Blk wr (w.heap.size + 1 + 1) 30 #[.int .u32 0, .int .u32 0, .int .u32 0, .int .u32 0, .int .u32 0, .int .u32 0, .int .u32 0, .int .u32 0]) := Lib.hid (HZ3.out.only hon (by simp))
              have HOR : Hid (Only [] w wr) := Lib.hid (HO3.out.trans' hon (fun i hi => .inr (by simp at hi; omega)))
              obtain ⟨q0, q1, q2, q3, q4, q5, q6, q7⟩ := Blk.cells8 hst
              have r0 := HZR.out.cell 0
              have r1 := HZR.out.cell 1
              have r2 := HZR.out.cell 2
              have r3 := HZR.out.cell 3
              have r4 := HZR.out.cell 4
              have r5 := HZR.out.cell 5
              have r6 := HZR.out.cell 6
              have r7 := HZR.out.cell 7
              simp at r0 r1 r2 r3 r4 r5 r6 r7
              have f0 := HZR.out.frozen 0
              have f1 := HZR.out.frozen 1
              have f2 := HZR.out.frozen 2
              have f3 := HZR.out.frozen 3
              have f4 := HZR.out.frozen 4
              have f5 := HZR.out.frozen 5
              have f6 := HZR.out.frozen 6
              have f7 := HZR.out.frozen 7
              clear hst hon hR
              have hblk := putRes_blk R HZR.out
              have honl := putRes_only R HOR.out (show w.heap.size ≤ w.heap.size + 1 + 1 by omega)
              unfold putRes at hblk honl
              have HBL := Lib.hid hblk
              have HOL := Lib.hid honl
              clear hblk honl
              go_wp2
              refine bodyPost_ret (v := shAgg R) (results_cell_row (by rfl) _ _ (w.heap.size + 1 + 1) 30 (shCells R) (0, 0) _ (by rfl) HBL.out Tryz.underlying30 rfl info8) rfl ?_
              refine ⟨?_, HOL.out⟩
              rw [HMX.out]; rfl
end Go.Proofs.YtebllmpdlapefaaGreatDoor
namespace Go.Proofs.YtebllmpdlapefaaGreatDoor
set_option linter.unusedVariables false
set_option linter.unusedSimpArgs false
open Go.RowKit

structure RPad (n : Nat) (v : Value) : Prop where
  ex : ∃ (z : Nat) (s : ByteArray), v = .string s ∧ z ≤ shNought n ∧ s.size = 1 + z ∧ s.data.toList = 128 :: List.replicate z 0
structure RTail (M : Nat) (w : World) (x v i : Value) (wr : World) : Prop where
  ex : ∃ (k m : Nat) (t : ByteArray), k ≤ 8 ∧ x = .int .u64 m ∧ v = .string t ∧ i = .int .i64 k ∧ m = M / 256 ^ k ∧ t.size = k ∧ t.data.toList = refTail M k ∧ Below w.heap.size w wr
theorem tail_next {M k : Nat} {t : ByteArray} (h : t.data.toList = refTail M k) : (⟨#[ub (((M / 256 ^ k : Nat) : Int) % 256)]⟩ ++ t : ByteArray).data.toList = refTail M (k + 1) := by
  rw [toList_app, h, refTail_succ]
  have : ub (((M / 256 ^ k : Nat) : Int) % 256) = UInt8.ofNat (M / 256 ^ k) := by
    apply UInt8.toNat_inj.1
    have e : ((M / 256 ^ k : Nat) : Int) % 256 = ((M / 256 ^ k % 256 : Nat) : Int) := by simp
    rw [e, ub_toNat _ (by omega)]
    simp
  rw [this]; rfl
theorem pad_str {n : Nat} {s t : ByteArray} (hs : s.data.toList = 128 :: List.replicate (shNought n) 0) (ht : t.data.toList = refTail (n * 8) 8) : s ++ t = shPad n := by
  apply bytes_ext
  rw [toList_app, hs, ht, refTail_8]
  simp [shPad, shPadL]
set_option maxRecDepth 100000 in
set_option maxHeartbeats 4000000 in
theorem refPad_c (n : Nat) (w : World) (hn : n ≤ 100000) :
    Calls Tryz.prog 146 #[.int .i64 n] w fun e w' => e = .returned (.string (shPad n)) ∧ Below w.heap.size w w' := by
  have k1 := fun (w : World) (a : Int) => run_str1 Tryz.underlying104 Tryz.underlying5 Tryz.underlying9 w a
  have hnl := shNought_lt n
  go_enter Tryz.func146, Tryz.ntmps146
  go_wp2
  go_loop [3] (fun v => RPad n v) (fun v => 65 - strOf v)
  case atStart => exact ⟨0, _, rfl, by omega, by decide, rfl⟩
  case round =>
    obtain ⟨z, s, rfl, hz, hsz, hs⟩ := hrel.ex
    have HS := Lib.hid hs
    have HSZ := Lib.hid hsz
    obtain ⟨q, hq⟩ : ∃ q, s.size = q := ⟨_, rfl⟩
    have hql : q ≤ 64 := by omega
    by_cases hlt : z < shNought n
    · have hne := shNought_least n z hlt
      have d1 : (((n : Int) + (s.size : Int) + 8) % 64 != 0) = true := bne_iff_ne.2 (by omega)
      have hsl : s.size ≤ 64 := by omega
      have hs0 : 0 ≤ s.size := by omega
      clear hsz hs hq
      go_wp2
      go_round
      case rel => exact ⟨z + 1, _, rfl, by omega, by rw [size_app, HSZ.out]; rfl, by rw [toList_app, HS.out, List.replicate_succ']; rfl⟩
      case measure =>
        simp only [strOf_string, size_app]
        have : (⟨#[0]⟩ : ByteArray).size = 1 := rfl
        omega
    · have hzz : z = shNought n := by omega
      have hat := shNought_at n
      have d1 : (((n : Int) + (s.size : Int) + 8) % 64 != 0) = false := by
        rw [bne_eq_false_iff_eq]; omega
      have HZZ := Lib.hid hzz
      have hsl : s.size ≤ 64 := by omega
      clear hsz hs hq hzz
      go_wp2
      go_loopw [4, 5, 6] (fun x v i wr => RTail (n * 8) w x v i wr) (fun _ _ i _ => 8 - (intOf i).toNat)
      case atStart => exact ⟨0, n * 8, _, by omega, by go_num, rfl, rfl, by simp, rfl, rfl, Below.refl _ _⟩
      case round =>
        obtain ⟨k, m, t, hk, rfl, rfl, rfl, hm, htz, ht, hb⟩ := hrel.ex
        have HM := Lib.hid hm
        have HT := Lib.hid ht
        have HTZ := Lib.hid htz
        have htl : t.size ≤ 8 := by omega
        have hml : m ≤ 800000 := by rw [hm]; exact Nat.le_trans (Nat.div_le_self _ _) (by omega)
        clear hm ht htz
        by_cases hk8 : k < 8
        · go_wp2
          go_roundw
          case rel => exact ⟨k + 1, m / 256, _, by omega, by go_num, rfl, by go_num, by rw [HM.out, Nat.div_div_eq_div_mul, Nat.pow_succ], by rw [size_app, HTZ.out]; show 1 + k = k + 1; omega, by have := tail_next HT.out; rw [← HM.out] at this; exact this, hb.alloc hb.size _⟩
          case measure => simp [intOf]; omega
        · have hk9 : k = 8 := by omega
          subst hk9
          go_wp2
          go_ret
          exact ⟨ret_str (pad_str (by rw [HS.out, HZZ.out]) HT.out).symm, hb⟩
theorem wpQuiet_load {P : Program} {ops : Array Oper} {C : World → Prop} {Q : Act → Prop} {o : Oper} {rest : List Oper} {a : Act} (hg : o.guard = none) (ty : TypeId) (x : Operand) (ho : o.op = .load ty x) (g : Nat) (hx : a.eval x = .pointer (some ⟨g, 0, none⟩))
    (t : TypeId) (cs : Array Value) (fr : Nat × Nat) (d : TypeDesc) (hC : ∀ w', C w' → w'.heap[g]? = some (.cells cs t fr)) (hu : P.underlying ty = some d) (hd : (match d with | .struct _ | .array _ _ => true | _ => false) = true) (hi : (P.info? ty).map (·.size) = some cs.size)
    (h : wpQuiet P ops C Q rest (a.put o.dst (.agg cs))) : wpQuiet P ops C Q (o :: rest) a := by
  unfold wpQuiet
  have hw : Region.wanted o (yielded ops a.tmps) = true := by simp [Region.wanted, hg]
  rw [if_pos hw]
  refine ⟨.agg cs, fun w hw' => ?_, h⟩
  unfold Oper.quietAt execOp
  simp only [ho, hx, Instr.loadAt, Instr.sureAddr, Sem.run_bind, Sem.run_pure, Result.andThen_ok, run_loadVar_row w g t ty cs fr d (hC w hw') hu hd hi]
  simp [Oper.quietUpon, Result.andThen]
theorem shH_at (j : Nat) (h : j < 8) : kNum shK shH 64 (64 + j) = shV.list.getD j 0 := by
  unfold kNum
  rw [if_neg (by omega), if_pos (by omega), show 64 + j - 64 = j from by omega, shH_lit]
  rfl
structure RDig (w : World) (b b5 : Nat) (KC : Array Value) (t : ByteArray) (v : Value) (wr : World) : Prop where
  ex : ∃ (i : Nat) (u : ByteArray), v = .string u ∧ u = t.extract (64 * i) t.size ∧ 64 * i ≤ t.size ∧ Blk wr b5 30 (shCells (shRun shV t i)) ∧ Blk wr b 32 KC ∧ Only [] w wr
set_option maxRecDepth 100000 in
set_option maxHeartbeats 4000000 in
theorem refDigest_c (s : ByteArray) (w : World) (hs : s.size ≤ 90000) :
    Calls Tryz.prog 122 #[keyV, .string s] w fun e w' => e = .returned (.string (shaB s)) ∧ Below w.heap.size w w' := by
  obtain ⟨i0, hi, hz0, hz1, hz2⟩ := info_parts info_byte'
  have HKI := Lib.hid (info_key' 64)
  unfold keyV
  obtain ⟨KC, hKC⟩ : ∃ KC, kC 64 = KC := ⟨_, rfl⟩
  rw [hKC] at HKI ⊢
  have HKC := Lib.hid hKC
  have HP := Lib.hid (fun w => refPad_c s.size w (by omega))
  have hpz := shPad_size s.size
  have hnl := shNought_lt s.size
  have hnm := shNought_mod s.size
  have hps : (shPad s.size).size ≤ 72 := by omega
  have HTZ : Hid ((s ++ shPad s.size).size % 64 = 0 ∧ (s ++ shPad s.size).size ≤ 90100) := Lib.hid (by rw [size_app]; omega)
  have HSB : Hid (shaB s = ⟨(shOut (shRun shV (s ++ shPad s.size) ((s ++ shPad s.size).size / 64))).toArray⟩) := Lib.hid rfl
  generalize shPad s.size = pd at *
  clear hKC hpz hnl hnm
  go_enter Tryz.func122, Tryz.ntmps122
  go_wp2_with fail
  obtain ⟨W0, hW0⟩ : ∃ W0, w.alloc (.cells KC 32) = W0 := ⟨_, rfl⟩
  have HK0 : Hid (Blk W0 w.heap.size 32 KC) := Lib.hid (by rw [← hW0]; exact Blk.new w _ _)
  have HO0 : Hid (Only [] w W0) := Lib.hid (by rw [← hW0]; exact (Only.refl [] w).alloc _)
  have hwl := HK0.out.lt
  rw [hW0]
  clear hW0
  refine (HP.out _).mono ?_
  rintro e w1 ⟨rfl, hb1⟩
  have HK1 : Hid (Blk w1 w.heap.size 32 KC) := Lib.hid ((hb1.block _ hwl).trans HK0.out)
  have HO1 : Hid (Only [] w w1) := Lib.hid (HO0.out.trans (Only.of_below hb1 (Nat.le_refl _)))
  have hw1 := HK1.out.lt
  have hk : ∀ j, j < 8 → w1.cell? ⟨w.heap.size, 64 + j, none⟩ = some (.int .u32 (shV.list.getD j 0 : Nat)) := fun j hj => by
    have h1 := HK1.out.cell (64 + j)
    rw [← HKC.out, kC_at 64 (64 + j) (by omega), shH_at j hj] at h1
    exact h1
  have k0 : w1.cell? ⟨w.heap.size, 64, none⟩ = some (.int .u32 shV.a) := hk 0 (by omega)
  have k1 : w1.cell? ⟨w.heap.size, 65, none⟩ = some (.int .u32 shV.b) := hk 1 (by omega)
  have k2 : w1.cell? ⟨w.heap.size, 66, none⟩ = some (.int .u32 shV.c) := hk 2 (by omega)
  have k3 : w1.cell? ⟨w.heap.size, 67, none⟩ = some (.int .u32 shV.d) := hk 3 (by omega)
  have k4 : w1.cell? ⟨w.heap.size, 68, none⟩ = some (.int .u32 shV.e) := hk 4 (by omega)
  have k5 : w1.cell? ⟨w.heap.size, 69, none⟩ = some (.int .u32 shV.f) := hk 5 (by omega)
  have k6 : w1.cell? ⟨w.heap.size, 70, none⟩ = some (.int .u32 shV.g) := hk 6 (by omega)
  have k7 : w1.cell? ⟨w.heap.size, 71, none⟩ = some (.int .u32 shV.h) := hk 7 (by omega)
  clear hk hb1
  go_wp2
  clear k0 k1 k2 k3 k4 k5 k6 k7
  obtain ⟨t, ht⟩ : ∃ t, s ++ pd = t := ⟨_, rfl⟩
  rw [ht] at HSB HTZ ⊢
  clear ht
  obtain ⟨b5, hb5⟩ : ∃ b5, w1.heap.size = b5 := ⟨_, rfl⟩
  obtain ⟨W2, hW2⟩ : ∃ W2, w1.alloc (.cells #[.int .u32 shV.a, .int .u32 shV.b, .int .u32 shV.c, .int .u32 shV.d, .int .u32 shV.e, .int .u32 shV.f, .int .u32 shV.g, .int .u32 shV.h] 30) = W2 := ⟨_, rfl⟩
  have HS0 : Hid (RDig w w.heap.size b5 KC t (.string t) W2) := Lib.hid (by
    rw [← hW2, ← hb5]
    exact ⟨0, t, rfl, by rw [Nat.mul_zero, cut_all], by omega, Blk.new w1 _ _, HK1.out.alloc _, HO1.out.alloc _⟩)
  have hwb : w.heap.size < b5 := by omega
  rw [hW2, hb5]
  clear hW2 hb5
  go_loopw [1] (fun v wr => RDig w w.heap.size b5 KC t v wr) (fun v _ => strOf v)
  case atStart => exact HS0.out
  case round =>
    obtain ⟨i, u, rfl, hu, hi64, hst, hkey, hon⟩ := hrel.ex
    have hok := shRun_ok shV_ok t i
    have hus : u.size = t.size - 64 * i := by rw [hu, size_cut _ _ _ (Nat.le_refl _)]
    have HU := Lib.hid hu
    have hb5l := hst.lt
    have hkl := hkey.lt
    by_cases hpos : 0 < u.size
    · have h64 : 64 ≤ u.size := by have := HTZ.out; omega
      have hux : u.size ≤ 90100 := by have := HTZ.out; omega
      obtain ⟨v, hv⟩ : ∃ v, shRun shV t i = v := ⟨_, rfl⟩
      rw [hv] at hst hok
      have HV := Lib.hid hv
      have HM := Lib.hid (fun w => refMix_c v hok (u.extract 0 64) (by rw [size_cut _ _ _ h64]) w)
      have hc1 : u.extract 0 64 = t.extract (64 * i) (64 * i + 64) := by rw [hu, cut_cut t _ _ _ (by omega)]; rfl
      have hc2 : u.extract 64 u.size = t.extract (64 * (i + 1)) t.size := by
        rw [hus, hu, cut_cut t _ _ _ (by omega), show 64 * i + 64 = 64 * (i + 1) by omega, show 64 * i + (t.size - 64 * i) = t.size by omega]
      have HC1 := Lib.hid hc1
      have HC2 := Lib.hid hc2
      obtain ⟨nv, hnv⟩ : ∃ nv, shMix shK v (u.extract 0 64) = nv := ⟨_, rfl⟩
      rw [hnv] at HM
      have HNV := Lib.hid hnv
      have HRN : Hid (shRun shV t (i + 1) = nv) := Lib.hid (by rw [shRun, HV.out, ← HC1.out, HNV.out])
      unfold shAgg keyV at HM
      rw [HKC.out] at HM
      have HST := Lib.hid hst
      have HKE := Lib.hid hkey
      have HON := Lib.hid hon
      have HUS := Lib.hid hus
      obtain ⟨c0, c1, c2, c3, c4, c5, c6, c7⟩ := Blk.cells8 hst
      clear hu hv hc1 hc2 hnv hst hkey hon hus hok
      go_wp2
      refine wp_region_quiet_tail 4 (by kernel_rfl) (by kernel_rfl) ?_
      simp only [List.take_succ_cons, List.take_zero, List.drop_succ_cons, List.drop_zero]
      refine wpQuiet_load (by rfl) 32 (.tmp 2) (by rfl) w.heap.size (by rfl) 32 KC (0, 0) _ (by rintro w' ⟨k, rfl⟩; exact HKE.out) Tryz.underlying32 rfl HKI.out ?_
      simp only [Act.put, List.setIfInBounds_toArray, List.set_cons_zero, List.set_cons_succ]
      repeat (go_big_quiet_step (fail))
      refine wpQuiet_nil ?_
      intro nq
      clear c0 c1 c2 c3 c4 c5 c6 c7
      go_wp2_with fail
      refine (HM.out _).mono ?_
      rintro e w2 ⟨rfl, ho⟩
      have h2 := (HST.out.drewN nq).only ho (by simp)
      obtain ⟨r0, r1, r2, r3, r4, r5, r6, r7⟩ := Blk.cells8 h2
      obtain ⟨f0, f1, f2, f3, f4, f5, f6, f7⟩ := Blk.free8 h2
      have hk2 := (HKE.out.drewN nq).only ho (by simp)
      have hnx : RDig w w.heap.size b5 KC t (.string (u.extract 64 u.size)) (putRes w2 b5 nv) := by
        refine ⟨i + 1, _, rfl, HC2.out, by have := HUS.out; omega, by rw [HRN.out]; exact putRes_any _ h2, (putRes_heap w2 b5 nv w.heap.size (by omega)).trans hk2, putRes_only _ ((HON.out.drewN nq).trans ho) (by omega)⟩
      unfold putRes at hnx
      have HNX := Lib.hid hnx
      have hzz : (u.extract 64 u.size).size < u.size := by rw [size_cut _ _ _ (Nat.le_refl _)]; omega
      have HZZ := Lib.hid hzz
      clear hnx h2 hk2 ho hzz
      go_wp2
      go_roundw
      case rel => exact HNX.out
      case measure => simp only [strOf_string]; exact HZZ.out
    · have hi9 : i = t.size / 64 := by have := HTZ.out; omega
      obtain ⟨v, hv⟩ : ∃ v, shRun shV t i = v := ⟨_, rfl⟩
      rw [hv] at hst hok
      have HLL : Hid (shaB s = ⟨(shOut v).toArray⟩) := Lib.hid (by rw [HSB.out, ← hi9, hv])
      have HST := Lib.hid hst
      have HON := Lib.hid hon
      have HOK := Lib.hid hok
      have hwl2 := hon.size
      have hu0 : u.size = 0 := by omega
      have HU0 := Lib.hid hu0
      have hu1 : u.size ≤ 0 := by omega
      clear hu hi9 hv hst hkey hon hus hok hu0
      obtain ⟨W3, rfl⟩ : ∃ W3, W3 = wr := ⟨wr, rfl⟩
      go_wp2
      go_loopw [6, 7] (fun x j wr => ∃ k : Nat, k ≤ 8 ∧ j = .int .i64 k ∧ Buf wr W3.heap.size 5 x (shTo k v) ∧ Below W3.heap.size W3 wr) (fun _ j _ => 8 - (intOf j).toNat)
      case atStart => exact ⟨0, by omega, rfl, Buf.nil _ _ _, Below.refl _ _⟩
      case round =>
        obtain ⟨k, hk, rfl, hbuf, hbe⟩ := hrel
        obtain ⟨A, L, cap, rfl, hL, hLc, hcap⟩ := hbuf.form'
        have HBE := Lib.hid hbe
        have hsz := hbe.size
        have hlen := shTo_length v k hk
        by_cases hk8 : k < 8
        · have cX : wr.cell? ⟨b5, k, none⟩ = some (.int .u32 (v.list.getD k 0 : Nat)) := (hbe.cell (p := ⟨b5, k, none⟩) hb5l).trans ((HST.out.cell k).trans (cells8_at v k hk8))
          have hx := Sh.ok_at HOK.out k
          have HSU := Lib.hid (shTo_succ v k hk8)
          obtain ⟨x, hxx⟩ : ∃ x, v.list.getD k 0 = x := ⟨_, rfl⟩
          rw [hxx] at cX hx HSU
          have HCL := Lib.hid (word_cells x hx)
          have hwz : (wB x).length = 4 := rfl
          generalize wB x = wb at *
          generalize shTo k v = LL at *
          have hll : LL.length ≤ 32 := by omega
          have i1 : (0 : Int) ≤ (k : Int) := by omega
          have i2 : (k : Int) < 8 := by omega
          clear hxx hbe
          go_wp2_with (at_builtin; refine wpList_append_buf (by rfl) (.tmp 33) (.tmp 48) 104 104 (by rfl) W3.heap.size 5 i0 Tryz.underlying104 hi hz0 hz1 hz2 (by rfl) (hbuf.alloc _) _ wb (by rfl) (src_litN Tryz.underlying104 _ 5 _ wb 4 4 _ hwz (by rfl) HCL.out) (by simp only [World.size_alloc]; omega) (by omega) ?_; intro A3 n3 cap3 w4 hb4 hk4; have HB4 := Lib.hid hb4; have HK4 : Hid (Below W3.heap.size W3 w4) := Lib.hid ((HBE.out.alloc hsz _).trans hk4.below); clear hb4 hk4 hbuf)
          go_roundw
          case rel => exact ⟨k + 1, by omega, by go_num, by rw [HSU.out]; exact HB4.out, HK4.out⟩
          case measure => simp [intOf]; omega
        · have e8 : k = 8 := by omega
          subst e8
          rw [shTo_8] at hbuf
          have hst := hbuf.str' (P := Tryz.prog) Tryz.underlying104 Tryz.underlying5 Tryz.underlying9
          rw [← HLL.out] at hst
          obtain ⟨X, HX⟩ : ∃ X, Hid (shaB s = X) := ⟨_, Lib.hid rfl⟩
          rw [HX.out] at hst
          clear hbuf hbe
          go_wp2
          go_ret
          exact ⟨by rw [HX.out]; rfl, (HON.out.below (Nat.le_refl _) (by simp)).trans (HBE.out.mono hwl2)⟩
end Go.Proofs.YtebllmpdlapefaaGreatDoor
namespace Go.Proofs.YtebllmpdlapefaaGreatDoor
set_option linter.unusedVariables false
set_option linter.unusedSimpArgs false
open Go.RowKit

def ckSlot (i : Nat) : Nat := if i = 6 then 4 else i + 5
theorem ckSlot_inj {i j : Nat} (hi : i < 7) (hj : j < 7) (h : ckSlot i = ckSlot j) : i = j := by
  unfold ckSlot at h; split at h <;> split at h <;> omega
def ckVal (KL : Array Value) (s d1 d2 : ByteArray) (i : Nat) : Value :=
  if i = 0 then .agg KL else if i = 1 then .agg KL else if i = 2 then .string s else if i = 3 then .string d1 else if i = 4 then .string d2 else .string (d2.extract 0 4)
def ckFr (KL : Array Value) (s : ByteArray) (g : Nat) (x : Nat → Value) : Act := { tmps := #[.agg KL, .string s, .pointer (some ⟨g, 0, none⟩), undef, x 4, x 5, x 6, x 7, x 8, x 9, x 10], defers := [] }
structure CkJ (KL : Array Value) (s d1 d2 : ByteArray) (listed : Array Bool) (x : Nat → Value) : Prop where
  at_ : ∀ i, i < 7 → listed.getD i false = true → x (ckSlot i) = ckVal KL s d1 d2 i
theorem CkJ.put {KL : Array Value} {s d1 d2 : ByteArray} {listed : Array Bool} {x : Nat → Value} (h : CkJ KL s d1 d2 listed x) (i : Nat) (hi : i < 7) : CkJ KL s d1 d2 (listed.setIfInBounds i true) (upd x (ckSlot i) (ckVal KL s d1 d2 i)) := ⟨fun j hj hl => by
  unfold upd
  by_cases e : ckSlot j = ckSlot i
  · rw [if_pos e, ckSlot_inj hj hi e]
  · rw [if_neg e]
    rcases listed_or hl with h1 | h1
    · subst h1; exact absurd rfl e
    · exact h.at_ j hj h1⟩
def CkI (KL : Array Value) (s d1 d2 : ByteArray) (g : Nat) (W0 : World) (listed : Array Bool) (a : Act) (w : World) : Prop := ∃ x, a = ckFr KL s g x ∧ CkJ KL s d1 d2 listed x ∧ Below W0.heap.size W0 w
set_option maxRecDepth 100000 in
set_option maxHeartbeats 4000000 in
theorem refCheck_c (s : ByteArray) (w : World) (hs : s.size ≤ 90000) :
    Calls Tryz.prog 80 #[keyV, .string s] w fun e w' => e = .returned (.string (shChk s)) ∧ Below w.heap.size w w' := by
  have HC : Hid (shChk s = (shaB (shaB s)).extract 0 4) := Lib.hid rfl
  have HA := Lib.hid (fun w => refDigest_c s w hs)
  have HB := Lib.hid (fun w => refDigest_c (shaB s) w (by rw [shaB_size]; omega))
  have hz := shaB_size (shaB s)
  have hz4 : (4 : Int) ≤ ((shaB (shaB s)).size : Int) := by omega
  have HI := Lib.hid (info_key' 64)
  unfold keyV at HA HB ⊢
  generalize kC 64 = KL at *
  generalize shaB (shaB s) = d2 at *
  generalize shaB s = d1 at *
  clear hz
  go_enter Tryz.func80, Tryz.ntmps80
  go_wp2
  obtain ⟨W0, hW0⟩ : ∃ W0, w.alloc (.cells KL 32) = W0 := ⟨_, rfl⟩
  have HBK : Hid (Blk W0 w.heap.size 32 KL) := Lib.hid (by rw [← hW0]; exact Blk.new w _ _)
  have HWL := Lib.hid HBK.out.lt
  have HBW : Hid (Below w.heap.size w W0) := Lib.hid (by rw [← hW0]; exact (Below.refl _ w).alloc (Nat.le_refl _) _)
  rw [hW0]
  clear hW0
  refine wp_region_inv (by kernel_rfl) (by kernel_rfl) (CkI KL s d1 d2 w.heap.size W0.drew) ?start ?step ?done
  case start => exact ⟨fun k => if k = 4 then .string ⟨#[]⟩ else undef, rfl, ⟨fun i _ h => by rw [getD_replicate_false] at h; cases h⟩, Below.refl _ _⟩
  case step =>
    rintro listed a w' i hi ⟨x, rfl, hJ, hbl⟩ hr
    obtain ⟨hun, o, ho, hall⟩ := mem_ready.1 hr
    have hbk : Blk w' w.heap.size 32 KL := (hbl.block _ HWL.out).trans HBK.out
    have h7 : i = 0 ∨ i = 1 ∨ i = 2 ∨ i = 3 ∨ i = 4 ∨ i = 5 ∨ i = 6 := by simp at hi; omega
    clear hr
    rcases h7 with rfl | rfl | rfl | rfl | rfl | rfl | rfl
    · refine wpOp_some rfl rfl ?_
      exact wp_load_row 32 (.tmp 2) rfl w.heap.size rfl 32 KL (0, 0) _ hbk Tryz.underlying32 rfl HI.out ⟨_, rfl, hJ.put 0 (by omega), hbl⟩
    · refine wpOp_some rfl rfl ?_
      exact wp_load_row 32 (.tmp 2) rfl w.heap.size rfl 32 KL (0, 0) _ hbk Tryz.underlying32 rfl HI.out ⟨_, rfl, hJ.put 1 (by omega), hbl⟩
    · refine wpOp_some rfl rfl ?_
      unfold ckFr
      go_simp
      exact ⟨_, rfl, hJ.put 2 (by omega), hbl⟩
    · obtain rfl := Option.some.inj ho
      have a1 : x 6 = .agg KL := hJ.at_ 1 (by omega) (hall ⟨1, .data⟩ (by simp) rfl)
      have a2 : x 7 = .string s := hJ.at_ 2 (by omega) (hall ⟨2, .data⟩ (by simp) rfl)
      refine wpOp_some rfl rfl ?_
      unfold ckFr
      simp only [a1, a2]
      go_simp
      refine (HA.out _).mono ?_
      rintro e w2 ⟨rfl, hb2⟩
      refine ⟨_, ?_, hJ.put 3 (by omega), hbl.trans (hb2.mono hbl.size)⟩
      simp [ckFr, upd, ckSlot, ckVal, a1, a2]
    · obtain rfl := Option.some.inj ho
      have a1 : x 5 = .agg KL := hJ.at_ 0 (by omega) (hall ⟨0, .data⟩ (by simp) rfl)
      have a2 : x 8 = .string d1 := hJ.at_ 3 (by omega) (hall ⟨3, .data⟩ (by simp) rfl)
      refine wpOp_some rfl rfl ?_
      unfold ckFr
      simp only [a1, a2]
      go_simp
      refine (HB.out _).mono ?_
      rintro e w2 ⟨rfl, hb2⟩
      refine ⟨_, ?_, hJ.put 4 (by omega), hbl.trans (hb2.mono hbl.size)⟩
      simp [ckFr, upd, ckSlot, ckVal, a1, a2]
    · obtain rfl := Option.some.inj ho
      have a1 : x 9 = .string d2 := hJ.at_ 4 (by omega) (hall ⟨4, .data⟩ (by simp) rfl)
      refine wpOp_some rfl rfl ?_
      unfold ckFr
      simp only [a1]
      go_simp
      refine ⟨_, ?_, hJ.put 5 (by omega), hbl⟩
      simp [ckFr, upd, ckSlot, ckVal, a1]
    · obtain rfl := Option.some.inj ho
      have a1 : x 10 = .string (d2.extract 0 4) := hJ.at_ 5 (by omega) (hall ⟨5, .data⟩ (by simp) rfl)
      refine wpOp_some rfl rfl ?_
      unfold ckFr
      simp only [a1]
      go_simp
      refine ⟨_, ?_, hJ.put 6 (by omega), hbl⟩
      simp [ckFr, upd, ckSlot, ckVal, a1]
  case done =>
    rintro listed a w1 hall ⟨x, rfl, hJ, hbl⟩
    have a4 : x 4 = .string (d2.extract 0 4) := hJ.at_ 6 (by omega) (hall 6 (by simp))
    unfold ckFr
    simp only [a4]
    go_wp2
    go_ret
    exact ⟨by rw [HC.out]; rfl, HBW.out.drew.trans (hbl.mono HBW.out.drew.size)⟩
end Go.Proofs.YtebllmpdlapefaaGreatDoor
