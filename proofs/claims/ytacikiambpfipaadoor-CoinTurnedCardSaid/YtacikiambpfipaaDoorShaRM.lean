/- The document's Mix. -/
import Derived.Test.YtacikiambpfipaaDoorShaRM0
namespace Go.Proofs.YtacikiambpfipaaDoor
set_option linter.unusedVariables false
set_option linter.unusedSimpArgs false
open Go.RowKit

theorem info8 : (Tryd.prog.info? 46).map (·.size) = some 8 := by kernel_rfl
set_option maxRecDepth 100000 in
set_option maxHeartbeats 4000000 in
theorem refMix_c (s : Sh) (hs : s.ok) (blk : ByteArray) (hb : blk.size = 64) (w : World) :
    Calls Tryd.prog 151 #[keyV, shAgg s, .string blk] w fun e w' => e = .returned (shAgg (shMix shK s blk)) ∧ Only [] w w' := by
  obtain ⟨i0, hi, hz0, hz1, hz2⟩ := info_parts info_u32
  unfold shAgg keyV
  obtain ⟨KC, hKC⟩ : ∃ KC, kC 64 = KC := ⟨_, rfl⟩
  rw [hKC]
  have HKC := Lib.hid hKC
  clear hKC
  go_enter Tryd.func151, Tryd.ntmps151
  go_wp2_with (at_make; refine wpList_make_row _ (by rfl) _ _ 211 (by rfl) 36 i0 (.int .u32 0) Tryd.underlying211 hi hz0 hz1 (by rfl) .i64 .i64 64 (by rfl) (by rfl) (by rw [hz2]; omega) (by omega) ?_)
  obtain ⟨g, hg⟩ : ∃ g, w.heap.size + 1 + 1 + 1 = g := ⟨_, rfl⟩
  obtain ⟨W1, hW1⟩ : ∃ W1, (((w.alloc (.cells KC 48)).alloc (.cells #[.int .u32 s.a, .int .u32 s.b, .int .u32 s.c, .int .u32 s.d, .int .u32 s.e, .int .u32 s.f, .int .u32 s.g, .int .u32 s.h] 46)).alloc (.cells #[.int .u32 0, .int .u32 0, .int .u32 0, .int .u32 0, .int .u32 0, .int .u32 0, .int .u32 0, .int .u32 0] 46)).alloc (.cells (madeCells #[Value.int .u32 0] 64) 36) = W1 := ⟨_, rfl⟩
  have HK1 : Hid (Blk W1 w.heap.size 48 KC) := Lib.hid (by rw [← hW1]; exact (((Blk.new w _ _).alloc _).alloc _).alloc _)
  have HS1 : Hid (Blk W1 (w.heap.size + 1) 46 (shCells s)) := Lib.hid (by
    rw [← hW1]
    have := Blk.new (w.alloc (.cells KC 48)) 46 (shCells s)
    rw [World.size_alloc] at this
    exact (this.alloc _).alloc _)
  have HZ1 : Hid (Blk W1 (w.heap.size + 1 + 1) 46 #[.int .u32 0, .int .u32 0, .int .u32 0, .int .u32 0, .int .u32 0, .int .u32 0, .int .u32 0, .int .u32 0]) := Lib.hid (by
    rw [← hW1]
    have := Blk.new ((w.alloc (.cells KC 48)).alloc (.cells (shCells s) 46)) 46 #[.int .u32 0, .int .u32 0, .int .u32 0, .int .u32 0, .int .u32 0, .int .u32 0, .int .u32 0, .int .u32 0]
    rw [World.size_alloc, World.size_alloc] at this
    exact this.alloc _)
  have HG1 : Hid (Blk W1 g 36 (nu (wl blk 0))) := Lib.hid (by
    rw [← hW1, wl_zero, ← made_words]
    have := Blk.new (((w.alloc (.cells KC 48)).alloc (.cells #[.int .u32 s.a, .int .u32 s.b, .int .u32 s.c, .int .u32 s.d, .int .u32 s.e, .int .u32 s.f, .int .u32 s.g, .int .u32 s.h] 46)).alloc (.cells #[.int .u32 0, .int .u32 0, .int .u32 0, .int .u32 0, .int .u32 0, .int .u32 0, .int .u32 0, .int .u32 0] 46)) 36 (madeCells #[Value.int .u32 0] 64)
    simp only [World.size_alloc] at this
    rw [← hg]; exact this)
  have HO1 : Hid (Only [] w W1) := Lib.hid (by rw [← hW1]; exact ((((Only.refl [] w).alloc _).alloc _).alloc _).alloc _)
  have hz1 : W1.heap.size = g + 1 := by rw [← hW1, ← hg]; simp
  have hgw : g = w.heap.size + 3 := by omega
  have HGW := Lib.hid hgw
  have HZ := Lib.hid hz1
  have hgl : w.heap.size + 2 < g := by omega
  have hwl := HK1.out.lt
  rw [hW1, hg]
  clear hW1 hg hgw
  go_loopw [8] (fun i wr => RM1 W1 g blk i wr) (fun i _ => 64 - (intOf i).toNat)
  case atStart => exact ⟨0, by omega, rfl, HG1.out, Only.refl _ _⟩
  case round =>
    obtain ⟨k, hk, rfl, hwd, hon⟩ := hrel.ex
    have HWD := Lib.hid hwd
    have HON := Lib.hid hon
    by_cases hk64 : k < 64
    · have HNX := Lib.hid (fun (nq : Nat) => (show RM1 W1 g blk (.int .i64 ((k : Int) + 1)) ((wr.drewN nq).setCell ⟨g, k, none⟩ (.int .u32 (wAt blk k : Nat))) from ⟨k + 1, by omega, by go_num, (HWD.out.drewN nq).putWord hk64, (HON.out.drewN nq).setCell (.inl (by simp)) _⟩))
      have fK := hwd.frozen k
      have i1 : (0 : Int) ≤ (k : Int) := by omega
      have i2 : (k : Int) < 64 := by omega
      by_cases hk16 : k < 16
      · obtain ⟨cv, cK⟩ := hwd.wordAny (j := k) hk64
        obtain ⟨q0, h0⟩ : ∃ q, 4 * k = q := ⟨_, rfl⟩
        obtain ⟨q1, h1⟩ : ∃ q, q0 + 1 = q := ⟨_, rfl⟩
        obtain ⟨q2, h2⟩ : ∃ q, q0 + 2 = q := ⟨_, rfl⟩
        obtain ⟨q3, h3⟩ : ∃ q, q0 + 3 = q := ⟨_, rfl⟩
        have a0 : (4 : Int) * (k : Int) = (q0 : Int) := by omega
        have a1 : (q0 : Int) + 1 = (q1 : Int) := by omega
        have a2 : (q0 : Int) + 2 = (q2 : Int) := by omega
        have a3 : (q0 : Int) + 3 = (q3 : Int) := by omega
        have w0 : IntKind.i64.wrap ((4 : Int) * (k : Int)) = (q0 : Int) := by rw [a0]; exact IntWalk.i64_in _ (by omega)
        have w1 : IntKind.i64.wrap ((q0 : Int) + 1) = (q1 : Int) := by rw [a1]; exact IntWalk.i64_in _ (by omega)
        have w2 : IntKind.i64.wrap ((q0 : Int) + 2) = (q2 : Int) := by rw [a2]; exact IntWalk.i64_in _ (by omega)
        have w3 : IntKind.i64.wrap ((q0 : Int) + 3) = (q3 : Int) := by rw [a3]; exact IntWalk.i64_in _ (by omega)
        have l0 : q0 < blk.size := by omega
        have l1 : q1 < blk.size := by omega
        have l2 : q2 < blk.size := by omega
        have l3 : q3 < blk.size := by omega
        have v0 := blk[q0].toNat_lt
        have v1 := blk[q1].toNat_lt
        have v2 := blk[q2].toNat_lt
        have v3 := blk[q3].toNat_lt
        have HV : Hid (wAt blk k = blk[q0].toNat * 16777216 + blk[q1].toNat * 65536 + blk[q2].toNat * 256 + blk[q3].toNat) := Lib.hid (by
          rw [wAt_first blk k hk16]
          have hg : ∀ j (hj : j < blk.size), blk.data.toList.getD j 0 = blk[j] := fun j hj => by rw [List.getD_eq_getElem?_getD, byte_at blk j hj]; rfl
          unfold wordAt
          rw [h0, h1, h2, h3, hg q0 l0, hg q1 l1, hg q2 l2, hg q3 l3])
        obtain ⟨wk, hwk⟩ : ∃ r, wAt blk k = r := ⟨_, rfl⟩
        rw [hwk] at HNX HV
        have EV : Hid ((blk[q0].toNat : Int) * 16777216 + (blk[q1].toNat : Int) * 65536 + (blk[q2].toNat : Int) * 256 + (blk[q3].toNat : Int) = (wk : Int)) := Lib.hid (by rw [HV.out]; simp)
        have z0 : (0 : Int) ≤ (q0 : Int) := by omega
        have z1 : (0 : Int) ≤ (q1 : Int) := by omega
        have z2 : (0 : Int) ≤ (q2 : Int) := by omega
        have z3 : (0 : Int) ≤ (q3 : Int) := by omega
        have y0 : (q0 : Int) < (blk.size : Int) := by omega
        have y1 : (q1 : Int) < (blk.size : Int) := by omega
        have y2 : (q2 : Int) < (blk.size : Int) := by omega
        have y3 : (q3 : Int) < (blk.size : Int) := by omega
        clear hwd hon h0 h1 h2 h3 hwk hb
        go_wp2
        refine wp_region_quiet_tail 32 (by kernel_rfl) (by kernel_rfl) ?_
        simp only [List.take_succ_cons, List.take_zero, List.drop_succ_cons, List.drop_zero]
        repeat (go_big_quiet_step (fail))
        refine wpQuiet_nil ?_
        intro nq2
        go_wp2
        rw [EV.out]
        go_roundw
        case rel => exact HNX.out nq2
        case measure => simp [intOf]; omega
      · have c15 := hwd.word (j := k - 15) (by omega) (by omega)
        have c2 := hwd.word (j := k - 2) (by omega) (by omega)
        have c16 := hwd.word (j := k - 16) (by omega) (by omega)
        have c7 := hwd.word (j := k - 7) (by omega) (by omega)
        obtain ⟨cv, cK⟩ := hwd.wordAny (j := k) hk64
        have HR := Lib.hid (wAt_rec blk k (by omega) hk64)
        have b15 := wAt_lt blk (k - 15)
        have b2 := wAt_lt blk (k - 2)
        have b16 := wAt_lt blk (k - 16)
        have b7 := wAt_lt blk (k - 7)
        obtain ⟨x, hx⟩ : ∃ x, wAt blk (k - 15) = x := ⟨_, rfl⟩
        obtain ⟨y, hy⟩ : ∃ y, wAt blk (k - 2) = y := ⟨_, rfl⟩
        obtain ⟨u, hu⟩ : ∃ u, wAt blk (k - 16) = u := ⟨_, rfl⟩
        obtain ⟨v, hv⟩ : ∃ v, wAt blk (k - 7) = v := ⟨_, rfl⟩
        rw [hx] at c15 b15 HR
        rw [hy] at c2 b2 HR
        rw [hu] at c16 b16 HR
        rw [hv] at c7 b7 HR
        obtain ⟨j15, h15⟩ : ∃ j, k - 15 = j := ⟨_, rfl⟩
        obtain ⟨j2, h2⟩ : ∃ j, k - 2 = j := ⟨_, rfl⟩
        obtain ⟨j16, h16⟩ : ∃ j, k - 16 = j := ⟨_, rfl⟩
        obtain ⟨j7, h7⟩ : ∃ j, k - 7 = j := ⟨_, rfl⟩
        rw [h15] at c15
        rw [h2] at c2
        rw [h16] at c16
        rw [h7] at c7
        have a15 : (k : Int) - 15 = (j15 : Int) := by omega
        have a2 : (k : Int) - 2 = (j2 : Int) := by omega
        have a16 : (k : Int) - 16 = (j16 : Int) := by omega
        have a7 : (k : Int) - 7 = (j7 : Int) := by omega
        have w15 : IntKind.i64.wrap ((k : Int) - 15) = (j15 : Int) := by rw [a15]; exact IntWalk.i64_in _ (by omega)
        have w2 : IntKind.i64.wrap ((k : Int) - 2) = (j2 : Int) := by rw [a2]; exact IntWalk.i64_in _ (by omega)
        have w16 : IntKind.i64.wrap ((k : Int) - 16) = (j16 : Int) := by rw [a16]; exact IntWalk.i64_in _ (by omega)
        have w7 : IntKind.i64.wrap ((k : Int) - 7) = (j7 : Int) := by rw [a7]; exact IntWalk.i64_in _ (by omega)
        have l15 : (j15 : Int) < 64 := by omega
        have l2 : (j2 : Int) < 64 := by omega
        have l16 : (j16 : Int) < 64 := by omega
        have l7 : (j7 : Int) < 64 := by omega
        have P7 := Lib.hid (fun w => refSpin_c x 7 w b15 (by omega) (by omega))
        have P18 := Lib.hid (fun w => refSpin_c x 18 w b15 (by omega) (by omega))
        have P17 := Lib.hid (fun w => refSpin_c y 17 w b2 (by omega) (by omega))
        have P19 := Lib.hid (fun w => refSpin_c y 19 w b2 (by omega) (by omega))
        have s7 := rotr_lt 7 b15
        have s18 := rotr_lt 18 b15
        have s17 := rotr_lt 17 b2
        have s19 := rotr_lt 19 b2
        have HS0 : Hid (sg0 x = rotr x 7 ^^^ rotr x 18 ^^^ x / 2 ^ 3) := Lib.hid rfl
        have HS1' : Hid (sg1 y = rotr y 17 ^^^ rotr y 19 ^^^ y / 2 ^ 10) := Lib.hid rfl
        obtain ⟨r7, hr7⟩ : ∃ r, rotr x 7 = r := ⟨_, rfl⟩
        obtain ⟨r18, hr18⟩ : ∃ r, rotr x 18 = r := ⟨_, rfl⟩
        obtain ⟨r17, hr17⟩ : ∃ r, rotr y 17 = r := ⟨_, rfl⟩
        obtain ⟨r19, hr19⟩ : ∃ r, rotr y 19 = r := ⟨_, rfl⟩
        rw [hr7] at P7 s7 HS0
        rw [hr18] at P18 s18 HS0
        rw [hr17] at P17 s17 HS1'
        rw [hr19] at P19 s19 HS1'
        have x1 := xor_val s7 s18
        have x2 := xor_val s17 s19
        have y1 := xor_lt32 s7 s18
        have y2 := xor_lt32 s17 s19
        obtain ⟨p1, hp1⟩ : ∃ r, r7 ^^^ r18 = r := ⟨_, rfl⟩
        obtain ⟨p2, hp2⟩ : ∃ r, r17 ^^^ r19 = r := ⟨_, rfl⟩
        rw [hp1] at x1 y1 HS0
        rw [hp2] at x2 y2 HS1'
        have x3 := xor_val y1 (div_lt32 3 b15)
        have x4 := xor_val y2 (div_lt32 10 b2)
        have e3 : ((x / 2 ^ 3 : Nat) : Int) = (x : Int) / 8 := by omega
        have e4 : ((y / 2 ^ 10 : Nat) : Int) = (y : Int) / 1024 := by omega
        rw [e3] at x3
        rw [e4] at x4
        have y3 := xor_lt32 y1 (div_lt32 3 b15)
        have y4 := xor_lt32 y2 (div_lt32 10 b2)
        rw [← HS0.out] at x3 y3
        rw [← HS1'.out] at x4 y4
        generalize sg0 x = sx at *
        generalize sg1 y = sy at *
        obtain ⟨wk, hwk⟩ : ∃ r, wAt blk k = r := ⟨_, rfl⟩
        rw [hwk] at HNX HR
        have EV : Hid (((u : Int) + sx + v + sy) % 4294967296 = (wk : Int)) := Lib.hid (by have := HR.out; omega)
        clear hwd hon hx hy hu hv h15 h2 h16 h7 hr7 hr18 hr17 hr19 hp1 hp2 hwk e3 e4 HS0 HS1'
        go_wp2
        go_quiet (fail)
        obtain ⟨wq, hwq⟩ : ∃ wq, wr.drewN nq = wq := ⟨_, rfl⟩
        replace c16 : wq.cell? ⟨g, j16, none⟩ = some (.int .u32 (u : Nat)) := by rw [← hwq]; exact c16
        replace c7 : wq.cell? ⟨g, j7, none⟩ = some (.int .u32 (v : Nat)) := by rw [← hwq]; exact c7
        replace cK : wq.cell? ⟨g, k, none⟩ = some cv := by rw [← hwq]; exact cK
        replace fK : wq.frozen? ⟨g, k, none⟩ = false := by rw [← hwq]; exact fK
        have HNQ : Hid (∀ n2, RM1 W1 g blk (.int .i64 ((k : Int) + 1)) ((wq.drewN n2).setCell ⟨g, k, none⟩ (.int .u32 (wk : Nat)))) := Lib.hid (fun n2 => by rw [← hwq, World.drewN_drewN]; exact HNX.out (nq + n2))
        rw [hwq]
        clear hwq c15 c2
        go_wp2
        refine wp_region_quiet_tail 32 (by kernel_rfl) (by kernel_rfl) ?_
        simp only [List.take_succ_cons, List.take_zero, List.drop_succ_cons, List.drop_zero]
        repeat (go_big_quiet_step (first | (with_reducible exact Calls.quiet_of_same' (P7.out _)) | (with_reducible exact Calls.quiet_of_same' (P18.out _)) | (with_reducible exact Calls.quiet_of_same' (P17.out _)) | (with_reducible exact Calls.quiet_of_same' (P19.out _))))
        refine wpQuiet_nil ?_
        intro nq2
        go_wp2
        rw [EV.out]
        go_roundw
        case rel => exact HNQ.out nq2
        case measure => simp [intOf]; omega
    · have hk4 : k = 64 := by omega
      subst hk4
      have hon' := hon
      have HKw : Hid (Blk wr w.heap.size 48 KC) := Lib.hid (HK1.out.only hon' (by simp; omega))
      have HSw : Hid (Blk wr (w.heap.size + 1) 46 (shCells s)) := Lib.hid (HS1.out.only hon' (by simp; omega))
      have HZw : Hid (Blk wr (w.heap.size + 1 + 1) 46 #[.int .u32 0, .int .u32 0, .int .u32 0, .int .u32 0, .int .u32 0, .int .u32 0, .int .u32 0, .int .u32 0]) := Lib.hid (HZ1.out.only hon' (by simp; omega))
      have HOw : Hid (Only [] w wr) := Lib.hid (HO1.out.trans' hon' (fun i hi => .inr (by simp at hi; omega)))
      have hwz := hon'.size
      obtain ⟨c0, c1, c2, c3, c4, c5, c6, c7⟩ := HSw.out.cells8
      clear hwd hon hon'
      go_wp2
      clear c0 c1 c2 c3 c4 c5 c6 c7
      obtain ⟨W2, hW2⟩ : ∃ W2, wr.alloc (.cells #[.int .u32 s.a, .int .u32 s.b, .int .u32 s.c, .int .u32 s.d, .int .u32 s.e, .int .u32 s.f, .int .u32 s.g, .int .u32 s.h] 46) = W2 := ⟨_, rfl⟩
      obtain ⟨m, hm⟩ : ∃ m, wr.heap.size = m := ⟨_, rfl⟩
      have HK2 : Hid (Blk W2 w.heap.size 48 KC) := Lib.hid (by rw [← hW2]; exact HKw.out.alloc _)
      have HS2 : Hid (Blk W2 (w.heap.size + 1) 46 (shCells s)) := Lib.hid (by rw [← hW2]; exact HSw.out.alloc _)
      have HZ2 : Hid (Blk W2 (w.heap.size + 1 + 1) 46 #[.int .u32 0, .int .u32 0, .int .u32 0, .int .u32 0, .int .u32 0, .int .u32 0, .int .u32 0, .int .u32 0]) := Lib.hid (by rw [← hW2]; exact HZw.out.alloc _)
      have HG2 : Hid (Blk W2 g 36 (nu (wl blk 64))) := Lib.hid (by rw [← hW2]; exact HWD.out.alloc _)
      have HM2 : Hid (Blk W2 m 46 (shCells s)) := Lib.hid (by rw [← hW2, ← hm]; exact Blk.new wr _ _)
      have HO2 : Hid (Only [] w W2) := Lib.hid (by rw [← hW2]; exact HOw.out.alloc _)
      have hmg : g < m := by omega
      have hz2 : W2.heap.size = m + 1 := by rw [← hW2, ← hm]; simp
      rw [hW2, hm]
      clear hW2 hm hwz hz1
      go_loopw [12] (fun i wr => RM2 W2 (w.heap.size + 1) blk s i wr) (fun i _ => 64 - (intOf i).toNat)
      case atStart => exact ⟨0, by omega, rfl, HS2.out, Only.refl _ _⟩
      case round =>
        obtain ⟨k, hk, rfl, hst, hon⟩ := hrel.ex
        have HON := Lib.hid hon
        by_cases hk64 : k < 64
        · have HSTP : Hid (shRounds shK blk (k + 1) s = shStep (shK.getD k 0) (wAt blk k) (shRounds shK blk k s)) := Lib.hid rfl
          have hto := shRounds_ok shK blk k hs
          obtain ⟨t, ht⟩ : ∃ t, shRounds shK blk k s = t := ⟨_, rfl⟩
          rw [ht] at hst HSTP hto
          obtain ⟨ta, tb, tc, td, te, tf, tg, th⟩ := hto
          obtain ⟨c0, c1, c2, c3, c4, c5, c6, c7⟩ := hst.cells8
          obtain ⟨f0, f1, f2, f3, f4, f5, f6, f7⟩ := hst.free8
          have cw : wr.cell? ⟨g, k, none⟩ = some (.int .u32 (wAt blk k : Nat)) := (HG2.out.only hon (by simp; omega)).word hk64 hk64
          have ck : wr.cell? ⟨w.heap.size, k, none⟩ = some (.int .u32 (shK.getD k 0 : Nat)) := by
            have h1 := (HK2.out.only hon (by simp)).cell k
            rw [← HKC.out, kC_at 64 k (by omega)] at h1
            have h2 : kNum shK shH 64 k = shK.getD k 0 := by unfold kNum; rw [if_pos hk64, if_pos hk64]
            rw [h2] at h1; exact h1
          have wl2 := wAt_lt blk k
          have kl2 := shK_lt k
          have HST := Lib.hid hst
          have HT := Lib.hid ht
          clear hst hon ht
          generalize wAt blk k = wk at *
          generalize shK.getD k 0 = kc at *
          have P6 := Lib.hid (fun w => refSpin_c t.e 6 w te (by omega) (by omega))
          have P11 := Lib.hid (fun w => refSpin_c t.e 11 w te (by omega) (by omega))
          have P25 := Lib.hid (fun w => refSpin_c t.e 25 w te (by omega) (by omega))
          have P2 := Lib.hid (fun w => refSpin_c t.a 2 w ta (by omega) (by omega))
          have P13 := Lib.hid (fun w => refSpin_c t.a 13 w ta (by omega) (by omega))
          have P22 := Lib.hid (fun w => refSpin_c t.a 22 w ta (by omega) (by omega))
          have PC := Lib.hid (fun w => refChoice_c t.e t.f t.g w te tf tg)
          have PV := Lib.hid (fun w => refVote_c t.a t.b t.c w ta tb tc)
          have s6 := rotr_lt 6 te
          have s11 := rotr_lt 11 te
          have s25 := rotr_lt 25 te
          have s2 := rotr_lt 2 ta
          have s13 := rotr_lt 13 ta
          have s22 := rotr_lt 22 ta
          have HG1' : Hid (Sg1 t.e = rotr t.e 6 ^^^ rotr t.e 11 ^^^ rotr t.e 25) := Lib.hid rfl
          have HG0' : Hid (Sg0 t.a = rotr t.a 2 ^^^ rotr t.a 13 ^^^ rotr t.a 22) := Lib.hid rfl
          have hch := shCh_lt (f := t.f) (g := t.g) te
          have hvo := shMaj_lt (c := t.c) ta tb
          have g1l := Sg1_lt te
          have g0l := Sg0_lt ta
          have HSS : Hid (shStep kc wk t = ⟨(((t.h + Sg1 t.e + kc + wk + shCh t.e t.f t.g) % 4294967296) + ((Sg0 t.a + shMaj t.a t.b t.c) % 4294967296)) % 4294967296, t.a, t.b, t.c, (t.d + (t.h + Sg1 t.e + kc + wk + shCh t.e t.f t.g) % 4294967296) % 4294967296, t.e, t.f, t.g⟩) := Lib.hid rfl
          generalize shCh t.e t.f t.g = cv at *
          generalize shMaj t.a t.b t.c = mv at *
          generalize Sg1 t.e = g1 at *
          generalize Sg0 t.a = g0 at *
          obtain ⟨r6, hr6⟩ : ∃ r, rotr t.e 6 = r := ⟨_, rfl⟩
          obtain ⟨r11, hr11⟩ : ∃ r, rotr t.e 11 = r := ⟨_, rfl⟩
          obtain ⟨r25, hr25⟩ : ∃ r, rotr t.e 25 = r := ⟨_, rfl⟩
          obtain ⟨r2, hr2⟩ : ∃ r, rotr t.a 2 = r := ⟨_, rfl⟩
          obtain ⟨r13, hr13⟩ : ∃ r, rotr t.a 13 = r := ⟨_, rfl⟩
          obtain ⟨r22, hr22⟩ : ∃ r, rotr t.a 22 = r := ⟨_, rfl⟩
          rw [hr6] at P6 s6 HG1'
          rw [hr11] at P11 s11 HG1'
          rw [hr25] at P25 s25 HG1'
          rw [hr2] at P2 s2 HG0'
          rw [hr13] at P13 s13 HG0'
          rw [hr22] at P22 s22 HG0'
          have x1 := xor_val s6 s11
          have x3 := xor_val s2 s13
          have y1 := xor_lt32 s6 s11
          have y3 := xor_lt32 s2 s13
          have x2 := xor_val y1 s25
          have x4 := xor_val y3 s22
          rw [← HG1'.out] at x2
          rw [← HG0'.out] at x4
          obtain ⟨p1, hp1⟩ : ∃ r, r6 ^^^ r11 = r := ⟨_, rfl⟩
          obtain ⟨p3, hp3⟩ : ∃ r, r2 ^^^ r13 = r := ⟨_, rfl⟩
          rw [hp1] at x1 y1 x2
          rw [hp3] at x3 y3 x4
          obtain ⟨pv, hpv⟩ : ∃ pv, (t.h + g1 + kc + wk + cv) % 4294967296 = pv := ⟨_, rfl⟩
          have HPV : Hid ((((t.h : Int) + g1 + kc + wk) % 4294967296 + cv) % 4294967296 = (pv : Int)) := Lib.hid (by omega)
          have HPV2 : Hid (((t.h : Int) + g1 + kc + wk + cv) % 4294967296 = (pv : Int)) := Lib.hid (by omega)
          have hpl : pv < 4294967296 := by omega
          rw [hpv] at HSS
          clear hpv hr6 hr11 hr25 hr2 hr13 hr22 hp1 hp3 HG1' HG0'
          go_wp2
          go_quiet ((first | (with_reducible exact Calls.quiet_of_same' (P6.out _)) | (with_reducible exact Calls.quiet_of_same' (P11.out _)) | (with_reducible exact Calls.quiet_of_same' (P25.out _)) | (with_reducible exact Calls.quiet_of_same' (PC.out _))))
          rw [HPV.out]
          obtain ⟨wq, hwq⟩ : ∃ wq, wr.drewN nq = wq := ⟨_, rfl⟩
          rw [hwq]
          replace c0 : wq.cell? ⟨w.heap.size + 1, 0, none⟩ = some (.int .u32 t.a) := by rw [← hwq]; exact c0
          replace c1 : wq.cell? ⟨w.heap.size + 1, 1, none⟩ = some (.int .u32 t.b) := by rw [← hwq]; exact c1
          replace c2 : wq.cell? ⟨w.heap.size + 1, 2, none⟩ = some (.int .u32 t.c) := by rw [← hwq]; exact c2
          replace c3 : wq.cell? ⟨w.heap.size + 1, 3, none⟩ = some (.int .u32 t.d) := by rw [← hwq]; exact c3
          replace c4 : wq.cell? ⟨w.heap.size + 1, 4, none⟩ = some (.int .u32 t.e) := by rw [← hwq]; exact c4
          replace c5 : wq.cell? ⟨w.heap.size + 1, 5, none⟩ = some (.int .u32 t.f) := by rw [← hwq]; exact c5
          replace c6 : wq.cell? ⟨w.heap.size + 1, 6, none⟩ = some (.int .u32 t.g) := by rw [← hwq]; exact c6
          replace c7 : wq.cell? ⟨w.heap.size + 1, 7, none⟩ = some (.int .u32 t.h) := by rw [← hwq]; exact c7
          replace f0 : wq.frozen? ⟨w.heap.size + 1, 0, none⟩ = false := by rw [← hwq]; exact f0
          replace f1 : wq.frozen? ⟨w.heap.size + 1, 1, none⟩ = false := by rw [← hwq]; exact f1
          replace f2 : wq.frozen? ⟨w.heap.size + 1, 2, none⟩ = false := by rw [← hwq]; exact f2
          replace f3 : wq.frozen? ⟨w.heap.size + 1, 3, none⟩ = false := by rw [← hwq]; exact f3
          replace f4 : wq.frozen? ⟨w.heap.size + 1, 4, none⟩ = false := by rw [← hwq]; exact f4
          replace f5 : wq.frozen? ⟨w.heap.size + 1, 5, none⟩ = false := by rw [← hwq]; exact f5
          replace f6 : wq.frozen? ⟨w.heap.size + 1, 6, none⟩ = false := by rw [← hwq]; exact f6
          replace f7 : wq.frozen? ⟨w.heap.size + 1, 7, none⟩ = false := by rw [← hwq]; exact f7
          obtain ⟨n1, hn1⟩ : ∃ n1, wr.drewN n1 = wq := ⟨nq, hwq⟩
          have HWQ := Lib.hid hn1
          clear hn1
          clear hwq cw ck P6 P11 P25 PC HPV HPV2 x1 x2 y1 s6 s11 s25
          go_wp2
          go_quiet ((first | (with_reducible exact Calls.quiet_of_same' (P2.out _)) | (with_reducible exact Calls.quiet_of_same' (P13.out _)) | (with_reducible exact Calls.quiet_of_same' (P22.out _)) | (with_reducible exact Calls.quiet_of_same' (PV.out _))))
          obtain ⟨wz, hwz2⟩ : ∃ wz, wq.drewN nq = wz := ⟨_, rfl⟩
          rw [hwz2]
          replace c0 : wz.cell? ⟨w.heap.size + 1, 0, none⟩ = some (.int .u32 t.a) := by rw [← hwz2]; exact c0
          replace c1 : wz.cell? ⟨w.heap.size + 1, 1, none⟩ = some (.int .u32 t.b) := by rw [← hwz2]; exact c1
          replace c2 : wz.cell? ⟨w.heap.size + 1, 2, none⟩ = some (.int .u32 t.c) := by rw [← hwz2]; exact c2
          replace c3 : wz.cell? ⟨w.heap.size + 1, 3, none⟩ = some (.int .u32 t.d) := by rw [← hwz2]; exact c3
          replace c4 : wz.cell? ⟨w.heap.size + 1, 4, none⟩ = some (.int .u32 t.e) := by rw [← hwz2]; exact c4
          replace c5 : wz.cell? ⟨w.heap.size + 1, 5, none⟩ = some (.int .u32 t.f) := by rw [← hwz2]; exact c5
          replace c6 : wz.cell? ⟨w.heap.size + 1, 6, none⟩ = some (.int .u32 t.g) := by rw [← hwz2]; exact c6
          replace c7 : wz.cell? ⟨w.heap.size + 1, 7, none⟩ = some (.int .u32 t.h) := by rw [← hwz2]; exact c7
          replace f0 : wz.frozen? ⟨w.heap.size + 1, 0, none⟩ = false := by rw [← hwz2]; exact f0
          replace f1 : wz.frozen? ⟨w.heap.size + 1, 1, none⟩ = false := by rw [← hwz2]; exact f1
          replace f2 : wz.frozen? ⟨w.heap.size + 1, 2, none⟩ = false := by rw [← hwz2]; exact f2
          replace f3 : wz.frozen? ⟨w.heap.size + 1, 3, none⟩ = false := by rw [← hwz2]; exact f3
          replace f4 : wz.frozen? ⟨w.heap.size + 1, 4, none⟩ = false := by rw [← hwz2]; exact f4
          replace f5 : wz.frozen? ⟨w.heap.size + 1, 5, none⟩ = false := by rw [← hwz2]; exact f5
          replace f6 : wz.frozen? ⟨w.heap.size + 1, 6, none⟩ = false := by rw [← hwz2]; exact f6
          replace f7 : wz.frozen? ⟨w.heap.size + 1, 7, none⟩ = false := by rw [← hwz2]; exact f7
          obtain ⟨av, hav⟩ : ∃ av, (pv + (g0 + mv) % 4294967296) % 4294967296 = av := ⟨_, rfl⟩
          obtain ⟨ev, hev⟩ : ∃ ev, (t.d + pv) % 4294967296 = ev := ⟨_, rfl⟩
          have HAV : Hid (((pv : Int) + ((g0 : Int) + mv)) % 4294967296 = (av : Int)) := Lib.hid (by omega)
          have HEV : Hid (((t.d : Int) + pv) % 4294967296 = (ev : Int)) := Lib.hid (by omega)
          rw [hav, hev] at HSS
          have hnx : RM2 W2 (w.heap.size + 1) blk s (.int .i64 ((k : Int) + 1)) (putRes wz (w.heap.size + 1) ⟨av, t.a, t.b, t.c, ev, t.e, t.f, t.g⟩) := by
            have e1 : wz = (wr.drewN n1).drewN nq := by rw [← hwz2, HWQ.out]
            have hst := HST.out
            rw [e1]
            refine ⟨k + 1, by omega, by go_num, ?_, ?_⟩
            · rw [HSTP.out, HSS.out]
              exact putRes_any _ ((HST.out.drewN n1).drewN nq)
            · have ho := (HON.out.drewN n1).drewN nq
              unfold putRes
              exact (((((((ho.setCell (.inl (by simp)) _).setCell (.inl (by simp)) _).setCell (.inl (by simp)) _).setCell (.inl (by simp)) _).setCell (.inl (by simp)) _).setCell (.inl (by simp)) _).setCell (.inl (by simp)) _).setCell (.inl (by simp)) _
          unfold putRes at hnx
          have HNX := Lib.hid hnx
          clear hwz2 hnx hav hev P2 P13 P22 PV x3 x4 y3 s2 s13 s22
          go_wp2
          rw [HAV.out, HEV.out]
          go_roundw
          case rel => exact HNX.out
          case measure => simp [intOf]; omega
        · have hk4 : k = 64 := by omega
          subst hk4
          obtain ⟨t, ht⟩ : ∃ t, shRounds shK blk 64 s = t := ⟨_, rfl⟩
          rw [ht] at hst
          have HT := Lib.hid ht
          have HM3 : Hid (Blk wr m 46 (shCells s)) := Lib.hid (HM2.out.only hon (by simp; omega))
          have HZ3 : Hid (Blk wr (w.heap.size + 1 + 1) 46 #[.int .u32 0, .int .u32 0, .int .u32 0, .int .u32 0, .int .u32 0, .int .u32 0, .int .u32 0, .int .u32 0]) := Lib.hid (HZ2.out.only hon (by simp))
          have HO3 : Hid (Only [] w wr) := Lib.hid (HO2.out.trans' hon (fun i hi => .inr (by simp at hi; omega)))
          have HST3 : Hid (Blk wr (w.heap.size + 1) 46 (shCells (shMid 0 t s))) := Lib.hid hst
          have hto := Lib.hid (shRounds_ok shK blk 64 hs)
          rw [ht] at hto
          have HSO := Lib.hid hs
          clear hst hon ht
          go_wp2
          obtain ⟨W3, rfl⟩ : ∃ W3, W3 = wr := ⟨wr, rfl⟩
          go_loopw [15] (fun i wr => RM3 W3 (w.heap.size + 1) t s i wr) (fun i _ => 8 - (intOf i).toNat)
          case atStart => exact ⟨0, by omega, rfl, HST3.out, Only.refl _ _⟩
          case round =>
            obtain ⟨k, hk, rfl, hst, hon⟩ := hrel.ex
            have HON := Lib.hid hon
            by_cases hk8 : k < 8
            · have cv := (hst.cell k).trans (shMid_at t s k hk8)
              have cs : wr.cell? ⟨m, k, none⟩ = some (.int .u32 (s.list.getD k 0 : Nat)) := ((HM3.out.only hon (by simp; omega)).cell k).trans (cells8_at s k hk8)
              have fv := hst.frozen k
              have lt := Sh.ok_at hto.out k
              have ls := Sh.ok_at HSO.out k
              have HN := Lib.hid (fun (n : Nat) => (show RM3 W3 (w.heap.size + 1) t s (.int .i64 ((k : Int) + 1)) ((wr.drewN n).setCell ⟨w.heap.size + 1, k, none⟩ (.int .u32 ((t.list.getD k 0 + s.list.getD k 0) % 4294967296 : Nat))) from
                ⟨k + 1, by omega, by go_num, by rw [← shMid_set t s k hk8]; exact (hst.drewN n).set k _, (hon.drewN n).setCell (.inl (by simp)) _⟩))
              obtain ⟨x, hx⟩ : ∃ x, t.list.getD k 0 = x := ⟨_, rfl⟩
              obtain ⟨y, hy⟩ : ∃ y, s.list.getD k 0 = y := ⟨_, rfl⟩
              rw [hx] at cv lt HN
              rw [hy] at cs ls HN
              obtain ⟨z, hz⟩ : ∃ z, (x + y) % 4294967296 = z := ⟨_, rfl⟩
              have EZ : Hid (((x : Int) + y) % 4294967296 = (z : Int)) := Lib.hid (by omega)
              rw [hz] at HN
              have i1 : (0 : Int) ≤ (k : Int) := by omega
              have i2 : (k : Int) < 8 := by omega
              clear hst hon hx hy hz
              go_wp2
              refine wp_region_quiet_tail 9 (by kernel_rfl) (by kernel_rfl) ?_
              simp only [List.take_succ_cons, List.take_zero, List.drop_succ_cons, List.drop_zero]
              repeat (go_big_quiet_step (fail))
              refine wpQuiet_nil ?_
              intro nq2
              go_wp2
              rw [EZ.out]
              go_roundw
              case rel => exact HN.out nq2
              case measure => simp [intOf]; omega
            · have hk9 : k = 8 := by omega
              subst hk9
              rw [shMid_end] at hst
              have HMX : Hid (shMix shK s blk = shAdd s t) := Lib.hid (by rw [← HT.out]; rfl)
              obtain ⟨R, hR⟩ : ∃ R, shAdd s t = R := ⟨_, rfl⟩
              rw [hR] at hst HMX
              have HZR : Hid (Blk wr (w.heap.size + 1 + 1) 46 #[.int .u32 0, .int .u32 0, .int .u32 0, .int .u32 0, .int .u32 0, .int .u32 0, .int .u32 0, .int .u32 0]) := Lib.hid (HZ3.out.only hon (by simp))
              have HOR : Hid (Only [] w wr) := Lib.hid (HO3.out.trans' hon (fun i hi => .inr (by simp at hi; omega)))
              obtain ⟨q0, q1, q2, q3, q4, q5, q6, q7⟩ := Blk.cells8 hst
              have r0 := HZR.out.cell 0
              have r1 := HZR.out.cell 1
              have r2 := HZR.out.cell 2
              have r3 := HZR.out.cell 3
              have r4 := HZR.out.cell 4
              have r5 := HZR.out.cell 5
              have r6 := HZR.out.cell 6
              have r7 := HZR.out.cell 7
              simp at r0 r1 r2 r3 r4 r5 r6 r7
              have f0 := HZR.out.frozen 0
              have f1 := HZR.out.frozen 1
              have f2 := HZR.out.frozen 2
              have f3 := HZR.out.frozen 3
              have f4 := HZR.out.frozen 4
              have f5 := HZR.out.frozen 5
              have f6 := HZR.out.frozen 6
              have f7 := HZR.out.frozen 7
              clear hst hon hR
              have hblk := putRes_blk R HZR.out
              have honl := putRes_only R HOR.out (show w.heap.size ≤ w.heap.size + 1 + 1 by omega)
              unfold putRes at hblk honl
              have HBL := Lib.hid hblk
              have HOL := Lib.hid honl
              clear hblk honl
              go_wp2
              refine bodyPost_ret (v := shAgg R) (results_cell_row (by rfl) _ _ (w.heap.size + 1 + 1) 46 (shCells R) (0, 0) _ (by rfl) HBL.out Tryd.underlying46 rfl info8) rfl ?_
              refine ⟨?_, HOL.out⟩
              rw [HMX.out]; rfl
end Go.Proofs.YtacikiambpfipaaDoor
