/- The document's padding, digest, checksum. -/
import Derived.Test.YtacikiambpfipaaDoorShaRM
import Derived.Test.YtacikiambpfipaaDoorShaSum
import Derived.Test.YtacikiambpfipaaDoorLeastR
namespace Go.Proofs.YtacikiambpfipaaDoor
set_option linter.unusedVariables false
set_option linter.unusedSimpArgs false
open Go.RowKit

structure RPad (n : Nat) (v : Value) : Prop where
  ex : ∃ (z : Nat) (s : ByteArray), v = .string s ∧ z ≤ shNought n ∧ s.size = 1 + z ∧ s.data.toList = 128 :: List.replicate z 0
structure RTail (M : Nat) (w : World) (x v i : Value) (wr : World) : Prop where
  ex : ∃ (k m : Nat) (t : ByteArray), k ≤ 8 ∧ x = .int .u64 m ∧ v = .string t ∧ i = .int .i64 k ∧ m = M / 256 ^ k ∧ t.size = k ∧ t.data.toList = refTail M k ∧ Below w.heap.size w wr
theorem tail_next {M k : Nat} {t : ByteArray} (h : t.data.toList = refTail M k) : (⟨#[ub (((M / 256 ^ k : Nat) : Int) % 256)]⟩ ++ t : ByteArray).data.toList = refTail M (k + 1) := by
  rw [toList_app, h, refTail_succ]
  have : ub (((M / 256 ^ k : Nat) : Int) % 256) = UInt8.ofNat (M / 256 ^ k) := by
    apply UInt8.toNat_inj.1
    have e : ((M / 256 ^ k : Nat) : Int) % 256 = ((M / 256 ^ k % 256 : Nat) : Int) := by simp
    rw [e, ub_toNat _ (by omega)]
    simp
  rw [this]; rfl
theorem pad_str {n : Nat} {s t : ByteArray} (hs : s.data.toList = 128 :: List.replicate (shNought n) 0) (ht : t.data.toList = refTail (n * 8) 8) : s ++ t = shPad n := by
  apply bytes_ext
  rw [toList_app, hs, ht, refTail_8]
  simp [shPad, shPadL]
set_option maxRecDepth 100000 in
set_option maxHeartbeats 4000000 in
theorem refPad_c (n : Nat) (w : World) (hn : n ≤ 100000) :
    Calls Tryd.prog 150 #[.int .i64 n] w fun e w' => e = .returned (.string (shPad n)) ∧ Below w.heap.size w w' := by
  have k1 := fun (w : World) (a : Int) => run_str1 Tryd.underlying54 Tryd.underlying5 Tryd.underlying9 w a
  have hnl := shNought_lt n
  go_enter Tryd.func150, Tryd.ntmps150
  go_wp2
  go_loop [3] (fun v => RPad n v) (fun v => 65 - strOf v)
  case atStart => exact ⟨0, _, rfl, by omega, by decide, rfl⟩
  case round =>
    obtain ⟨z, s, rfl, hz, hsz, hs⟩ := hrel.ex
    have HS := Lib.hid hs
    have HSZ := Lib.hid hsz
    obtain ⟨q, hq⟩ : ∃ q, s.size = q := ⟨_, rfl⟩
    have hql : q ≤ 64 := by omega
    by_cases hlt : z < shNought n
    · have hne := shNought_least n z hlt
      have d1 : (((n : Int) + (s.size : Int) + 8) % 64 != 0) = true := bne_iff_ne.2 (by omega)
      have hsl : s.size ≤ 64 := by omega
      have hs0 : 0 ≤ s.size := by omega
      clear hsz hs hq
      go_wp2
      go_round
      case rel => exact ⟨z + 1, _, rfl, by omega, by rw [size_app, HSZ.out]; rfl, by rw [toList_app, HS.out, List.replicate_succ']; rfl⟩
      case measure =>
        simp only [strOf_string, size_app]
        have : (⟨#[0]⟩ : ByteArray).size = 1 := rfl
        omega
    · have hzz : z = shNought n := by omega
      have hat := shNought_at n
      have d1 : (((n : Int) + (s.size : Int) + 8) % 64 != 0) = false := by
        rw [bne_eq_false_iff_eq]; omega
      have HZZ := Lib.hid hzz
      have hsl : s.size ≤ 64 := by omega
      clear hsz hs hq hzz
      go_wp2
      go_loopw [4, 5, 6] (fun x v i wr => RTail (n * 8) w x v i wr) (fun _ _ i _ => 8 - (intOf i).toNat)
      case atStart => exact ⟨0, n * 8, _, by omega, by go_num, rfl, rfl, by simp, rfl, rfl, Below.refl _ _⟩
      case round =>
        obtain ⟨k, m, t, hk, rfl, rfl, rfl, hm, htz, ht, hb⟩ := hrel.ex
        have HM := Lib.hid hm
        have HT := Lib.hid ht
        have HTZ := Lib.hid htz
        have htl : t.size ≤ 8 := by omega
        have hml : m ≤ 800000 := by rw [hm]; exact Nat.le_trans (Nat.div_le_self _ _) (by omega)
        clear hm ht htz
        by_cases hk8 : k < 8
        · go_wp2
          go_roundw
          case rel => exact ⟨k + 1, m / 256, _, by omega, by go_num, rfl, by go_num, by rw [HM.out, Nat.div_div_eq_div_mul, Nat.pow_succ], by rw [size_app, HTZ.out]; show 1 + k = k + 1; omega, by have := tail_next HT.out; rw [← HM.out] at this; exact this, hb.alloc hb.size _⟩
          case measure => simp [intOf]; omega
        · have hk9 : k = 8 := by omega
          subst hk9
          go_wp2
          go_ret
          exact ⟨ret_str (pad_str (by rw [HS.out, HZZ.out]) HT.out).symm, hb⟩
theorem wpQuiet_load {P : Program} {ops : Array Oper} {C : World → Prop} {Q : Act → Prop} {o : Oper} {rest : List Oper} {a : Act} (hg : o.guard = none) (ty : TypeId) (x : Operand) (ho : o.op = .load ty x) (g : Nat) (hx : a.eval x = .pointer (some ⟨g, 0, none⟩))
    (t : TypeId) (cs : Array Value) (fr : Nat × Nat) (d : TypeDesc) (hC : ∀ w', C w' → w'.heap[g]? = some (.cells cs t fr)) (hu : P.underlying ty = some d) (hd : (match d with | .struct _ | .array _ _ => true | _ => false) = true) (hi : (P.info? ty).map (·.size) = some cs.size)
    (h : wpQuiet P ops C Q rest (a.put o.dst (.agg cs))) : wpQuiet P ops C Q (o :: rest) a := by
  unfold wpQuiet
  have hw : Region.wanted o (yielded ops a.tmps) = true := by simp [Region.wanted, hg]
  rw [if_pos hw]
  refine ⟨.agg cs, fun w hw' => ?_, h⟩
  unfold Oper.quietAt execOp
  simp only [ho, hx, Instr.loadAt, Instr.sureAddr, Sem.run_bind, Sem.run_pure, Result.andThen_ok, run_loadVar_row w g t ty cs fr d (hC w hw') hu hd hi]
  simp [Oper.quietUpon, Result.andThen]
theorem shH_at (j : Nat) (h : j < 8) : kNum shK shH 64 (64 + j) = shV.list.getD j 0 := by
  unfold kNum
  rw [if_neg (by omega), if_pos (by omega), show 64 + j - 64 = j from by omega, shH_lit]
  rfl
structure RDig (w : World) (b b5 : Nat) (KC : Array Value) (t : ByteArray) (v : Value) (wr : World) : Prop where
  ex : ∃ (i : Nat) (u : ByteArray), v = .string u ∧ u = t.extract (64 * i) t.size ∧ 64 * i ≤ t.size ∧ Blk wr b5 46 (shCells (shRun shV t i)) ∧ Blk wr b 48 KC ∧ Only [] w wr
set_option maxRecDepth 100000 in
set_option maxHeartbeats 4000000 in
theorem refDigest_c (s : ByteArray) (w : World) (hs : s.size ≤ 90000) :
    Calls Tryd.prog 111 #[keyV, .string s] w fun e w' => e = .returned (.string (shaB s)) ∧ Below w.heap.size w w' := by
  obtain ⟨i0, hi, hz0, hz1, hz2⟩ := info_parts info_byte'
  have HKI := Lib.hid (info_key' 64)
  unfold keyV
  obtain ⟨KC, hKC⟩ : ∃ KC, kC 64 = KC := ⟨_, rfl⟩
  rw [hKC] at HKI ⊢
  have HKC := Lib.hid hKC
  have HP := Lib.hid (fun w => refPad_c s.size w (by omega))
  have hpz := shPad_size s.size
  have hnl := shNought_lt s.size
  have hnm := shNought_mod s.size
  have hps : (shPad s.size).size ≤ 72 := by omega
  have HTZ : Hid ((s ++ shPad s.size).size % 64 = 0 ∧ (s ++ shPad s.size).size ≤ 90100) := Lib.hid (by rw [size_app]; omega)
  have HSB : Hid (shaB s = ⟨(shOut (shRun shV (s ++ shPad s.size) ((s ++ shPad s.size).size / 64))).toArray⟩) := Lib.hid rfl
  generalize shPad s.size = pd at *
  clear hKC hpz hnl hnm
  go_enter Tryd.func111, Tryd.ntmps111
  go_wp2_with fail
  obtain ⟨W0, hW0⟩ : ∃ W0, w.alloc (.cells KC 48) = W0 := ⟨_, rfl⟩
  have HK0 : Hid (Blk W0 w.heap.size 48 KC) := Lib.hid (by rw [← hW0]; exact Blk.new w _ _)
  have HO0 : Hid (Only [] w W0) := Lib.hid (by rw [← hW0]; exact (Only.refl [] w).alloc _)
  have hwl := HK0.out.lt
  rw [hW0]
  clear hW0
  refine (HP.out _).mono ?_
  rintro e w1 ⟨rfl, hb1⟩
  have HK1 : Hid (Blk w1 w.heap.size 48 KC) := Lib.hid ((hb1.block _ hwl).trans HK0.out)
  have HO1 : Hid (Only [] w w1) := Lib.hid (HO0.out.trans (Only.of_below hb1 (Nat.le_refl _)))
  have hw1 := HK1.out.lt
  have hk : ∀ j, j < 8 → w1.cell? ⟨w.heap.size, 64 + j, none⟩ = some (.int .u32 (shV.list.getD j 0 : Nat)) := fun j hj => by
    have h1 := HK1.out.cell (64 + j)
    rw [← HKC.out, kC_at 64 (64 + j) (by omega), shH_at j hj] at h1
    exact h1
  have k0 : w1.cell? ⟨w.heap.size, 64, none⟩ = some (.int .u32 shV.a) := hk 0 (by omega)
  have k1 : w1.cell? ⟨w.heap.size, 65, none⟩ = some (.int .u32 shV.b) := hk 1 (by omega)
  have k2 : w1.cell? ⟨w.heap.size, 66, none⟩ = some (.int .u32 shV.c) := hk 2 (by omega)
  have k3 : w1.cell? ⟨w.heap.size, 67, none⟩ = some (.int .u32 shV.d) := hk 3 (by omega)
  have k4 : w1.cell? ⟨w.heap.size, 68, none⟩ = some (.int .u32 shV.e) := hk 4 (by omega)
  have k5 : w1.cell? ⟨w.heap.size, 69, none⟩ = some (.int .u32 shV.f) := hk 5 (by omega)
  have k6 : w1.cell? ⟨w.heap.size, 70, none⟩ = some (.int .u32 shV.g) := hk 6 (by omega)
  have k7 : w1.cell? ⟨w.heap.size, 71, none⟩ = some (.int .u32 shV.h) := hk 7 (by omega)
  clear hk hb1
  go_wp2
  clear k0 k1 k2 k3 k4 k5 k6 k7
  obtain ⟨t, ht⟩ : ∃ t, s ++ pd = t := ⟨_, rfl⟩
  rw [ht] at HSB HTZ ⊢
  clear ht
  obtain ⟨b5, hb5⟩ : ∃ b5, w1.heap.size = b5 := ⟨_, rfl⟩
  obtain ⟨W2, hW2⟩ : ∃ W2, w1.alloc (.cells #[.int .u32 shV.a, .int .u32 shV.b, .int .u32 shV.c, .int .u32 shV.d, .int .u32 shV.e, .int .u32 shV.f, .int .u32 shV.g, .int .u32 shV.h] 46) = W2 := ⟨_, rfl⟩
  have HS0 : Hid (RDig w w.heap.size b5 KC t (.string t) W2) := Lib.hid (by
    rw [← hW2, ← hb5]
    exact ⟨0, t, rfl, by rw [Nat.mul_zero, cut_all], by omega, Blk.new w1 _ _, HK1.out.alloc _, HO1.out.alloc _⟩)
  have hwb : w.heap.size < b5 := by omega
  rw [hW2, hb5]
  clear hW2 hb5
  go_loopw [1] (fun v wr => RDig w w.heap.size b5 KC t v wr) (fun v _ => strOf v)
  case atStart => exact HS0.out
  case round =>
    obtain ⟨i, u, rfl, hu, hi64, hst, hkey, hon⟩ := hrel.ex
    have hok := shRun_ok shV_ok t i
    have hus : u.size = t.size - 64 * i := by rw [hu, size_cut _ _ _ (Nat.le_refl _)]
    have HU := Lib.hid hu
    have hb5l := hst.lt
    have hkl := hkey.lt
    by_cases hpos : 0 < u.size
    · have h64 : 64 ≤ u.size := by have := HTZ.out; omega
      have hux : u.size ≤ 90100 := by have := HTZ.out; omega
      obtain ⟨v, hv⟩ : ∃ v, shRun shV t i = v := ⟨_, rfl⟩
      rw [hv] at hst hok
      have HV := Lib.hid hv
      have HM := Lib.hid (fun w => refMix_c v hok (u.extract 0 64) (by rw [size_cut _ _ _ h64]) w)
      have hc1 : u.extract 0 64 = t.extract (64 * i) (64 * i + 64) := by rw [hu, cut_cut t _ _ _ (by omega)]; rfl
      have hc2 : u.extract 64 u.size = t.extract (64 * (i + 1)) t.size := by
        rw [hus, hu, cut_cut t _ _ _ (by omega), show 64 * i + 64 = 64 * (i + 1) by omega, show 64 * i + (t.size - 64 * i) = t.size by omega]
      have HC1 := Lib.hid hc1
      have HC2 := Lib.hid hc2
      obtain ⟨nv, hnv⟩ : ∃ nv, shMix shK v (u.extract 0 64) = nv := ⟨_, rfl⟩
      rw [hnv] at HM
      have HNV := Lib.hid hnv
      have HRN : Hid (shRun shV t (i + 1) = nv) := Lib.hid (by rw [shRun, HV.out, ← HC1.out, HNV.out])
      unfold shAgg keyV at HM
      rw [HKC.out] at HM
      have HST := Lib.hid hst
      have HKE := Lib.hid hkey
      have HON := Lib.hid hon
      have HUS := Lib.hid hus
      obtain ⟨c0, c1, c2, c3, c4, c5, c6, c7⟩ := Blk.cells8 hst
      clear hu hv hc1 hc2 hnv hst hkey hon hus hok
      go_wp2
      refine wp_region_quiet_tail 4 (by kernel_rfl) (by kernel_rfl) ?_
      simp only [List.take_succ_cons, List.take_zero, List.drop_succ_cons, List.drop_zero]
      refine wpQuiet_load (by rfl) 48 (.tmp 2) (by rfl) w.heap.size (by rfl) 48 KC (0, 0) _ (by rintro w' ⟨k, rfl⟩; exact HKE.out) Tryd.underlying48 rfl HKI.out ?_
      simp only [Act.put, List.setIfInBounds_toArray, List.set_cons_zero, List.set_cons_succ]
      repeat (go_big_quiet_step (fail))
      refine wpQuiet_nil ?_
      intro nq
      clear c0 c1 c2 c3 c4 c5 c6 c7
      go_wp2_with fail
      refine (HM.out _).mono ?_
      rintro e w2 ⟨rfl, ho⟩
      have h2 := (HST.out.drewN nq).only ho (by simp)
      obtain ⟨r0, r1, r2, r3, r4, r5, r6, r7⟩ := Blk.cells8 h2
      obtain ⟨f0, f1, f2, f3, f4, f5, f6, f7⟩ := Blk.free8 h2
      have hk2 := (HKE.out.drewN nq).only ho (by simp)
      have hnx : RDig w w.heap.size b5 KC t (.string (u.extract 64 u.size)) (putRes w2 b5 nv) := by
        refine ⟨i + 1, _, rfl, HC2.out, by have := HUS.out; omega, by rw [HRN.out]; exact putRes_any _ h2, (putRes_heap w2 b5 nv w.heap.size (by omega)).trans hk2, putRes_only _ ((HON.out.drewN nq).trans ho) (by omega)⟩
      unfold putRes at hnx
      have HNX := Lib.hid hnx
      have hzz : (u.extract 64 u.size).size < u.size := by rw [size_cut _ _ _ (Nat.le_refl _)]; omega
      have HZZ := Lib.hid hzz
      clear hnx h2 hk2 ho hzz
      go_wp2
      go_roundw
      case rel => exact HNX.out
      case measure => simp only [strOf_string]; exact HZZ.out
    · have hi9 : i = t.size / 64 := by have := HTZ.out; omega
      obtain ⟨v, hv⟩ : ∃ v, shRun shV t i = v := ⟨_, rfl⟩
      rw [hv] at hst hok
      have HLL : Hid (shaB s = ⟨(shOut v).toArray⟩) := Lib.hid (by rw [HSB.out, ← hi9, hv])
      have HST := Lib.hid hst
      have HON := Lib.hid hon
      have HOK := Lib.hid hok
      have hwl2 := hon.size
      have hu0 : u.size = 0 := by omega
      have HU0 := Lib.hid hu0
      have hu1 : u.size ≤ 0 := by omega
      clear hu hi9 hv hst hkey hon hus hok hu0
      obtain ⟨W3, rfl⟩ : ∃ W3, W3 = wr := ⟨wr, rfl⟩
      go_wp2
      go_loopw [6, 7] (fun x j wr => ∃ k : Nat, k ≤ 8 ∧ j = .int .i64 k ∧ Buf wr W3.heap.size 5 x (shTo k v) ∧ Below W3.heap.size W3 wr) (fun _ j _ => 8 - (intOf j).toNat)
      case atStart => exact ⟨0, by omega, rfl, Buf.nil _ _ _, Below.refl _ _⟩
      case round =>
        obtain ⟨k, hk, rfl, hbuf, hbe⟩ := hrel
        obtain ⟨A, L, cap, rfl, hL, hLc, hcap⟩ := hbuf.form'
        have HBE := Lib.hid hbe
        have hsz := hbe.size
        have hlen := shTo_length v k hk
        by_cases hk8 : k < 8
        · have cX : wr.cell? ⟨b5, k, none⟩ = some (.int .u32 (v.list.getD k 0 : Nat)) := (hbe.cell (p := ⟨b5, k, none⟩) hb5l).trans ((HST.out.cell k).trans (cells8_at v k hk8))
          have hx := Sh.ok_at HOK.out k
          have HSU := Lib.hid (shTo_succ v k hk8)
          obtain ⟨x, hxx⟩ : ∃ x, v.list.getD k 0 = x := ⟨_, rfl⟩
          rw [hxx] at cX hx HSU
          have HCL := Lib.hid (word_cells x hx)
          have hwz : (wB x).length = 4 := rfl
          generalize wB x = wb at *
          generalize shTo k v = LL at *
          have hll : LL.length ≤ 32 := by omega
          have i1 : (0 : Int) ≤ (k : Int) := by omega
          have i2 : (k : Int) < 8 := by omega
          clear hxx hbe
          go_wp2_with (at_builtin; refine wpList_append_buf (by rfl) (.tmp 33) (.tmp 48) 54 54 (by rfl) W3.heap.size 5 i0 Tryd.underlying54 hi hz0 hz1 hz2 (by rfl) (hbuf.alloc _) _ wb (by rfl) (src_litN Tryd.underlying54 _ 5 _ wb 4 4 _ hwz (by rfl) HCL.out) (by simp only [World.size_alloc]; omega) (by omega) ?_; intro A3 n3 cap3 w4 hb4 hk4; have HB4 := Lib.hid hb4; have HK4 : Hid (Below W3.heap.size W3 w4) := Lib.hid ((HBE.out.alloc hsz _).trans hk4.below); clear hb4 hk4 hbuf)
          go_roundw
          case rel => exact ⟨k + 1, by omega, by go_num, by rw [HSU.out]; exact HB4.out, HK4.out⟩
          case measure => simp [intOf]; omega
        · have e8 : k = 8 := by omega
          subst e8
          rw [shTo_8] at hbuf
          have hst := hbuf.str' (P := Tryd.prog) Tryd.underlying54 Tryd.underlying5 Tryd.underlying9
          rw [← HLL.out] at hst
          obtain ⟨X, HX⟩ : ∃ X, Hid (shaB s = X) := ⟨_, Lib.hid rfl⟩
          rw [HX.out] at hst
          clear hbuf hbe
          go_wp2
          go_ret
          exact ⟨by rw [HX.out]; rfl, (HON.out.below (Nat.le_refl _) (by simp)).trans (HBE.out.mono hwl2)⟩
end Go.Proofs.YtacikiambpfipaaDoor
