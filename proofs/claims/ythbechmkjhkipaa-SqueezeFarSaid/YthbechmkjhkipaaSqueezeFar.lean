/- hatchwaylaw12.SqueezeFar: what stands far behind its like is copied from there. -/
import Derived.Test.YthbechmkjhkipaaSqueezePacks
import Derived.Test.YthbechmkjhkipaaSqueezeFarP
namespace Go.Proofs.Ythbechmkjhkipaa
set_option linter.unusedVariables false
set_option linter.unusedSimpArgs false
open Go.RowKit

def likeL : Nat → List UInt8
  | 0 => []
  | i + 1 => likeL i ++ [ub (128 + i : Nat)]
def noiseL : Nat → List UInt8
  | 0 => []
  | q + 1 => noiseL q ++ [ub (121 : Nat), ub (q / 120 : Nat), ub (q % 120 : Nat)]
theorem likeL_length (i : Nat) : (likeL i).length = i := by
  induction i with
  | zero => rfl
  | succ i ih => simp [likeL, ih]
theorem noiseL_length (i : Nat) : (noiseL i).length = 3 * i := by
  induction i with
  | zero => rfl
  | succ i ih => simp [noiseL, ih]; omega
theorem likeL_at (i : Nat) : ∀ x, x < i → (likeL i)[x]? = some (ub (128 + x : Nat)) := by
  induction i with
  | zero => intro x h; omega
  | succ i ih =>
    intro x h
    rw [likeL]
    by_cases hx : x < i
    · rw [List.getElem?_append_left (by rw [likeL_length]; exact hx)]; exact ih x hx
    · obtain rfl : x = i := by omega
      rw [List.getElem?_append_right (by rw [likeL_length]; exact Nat.le_refl _), likeL_length, Nat.sub_self]; rfl
theorem noiseL_at (i : Nat) : ∀ q, q < i → (noiseL i)[3 * q]? = some (ub (121 : Nat)) ∧ (noiseL i)[3 * q + 1]? = some (ub (q / 120 : Nat)) ∧ (noiseL i)[3 * q + 2]? = some (ub (q % 120 : Nat)) := by
  induction i with
  | zero => intro q h; omega
  | succ i ih =>
    intro q h
    have hl := noiseL_length i
    rw [noiseL]
    by_cases hq : q < i
    · rw [List.getElem?_append_left (by omega), List.getElem?_append_left (by omega), List.getElem?_append_left (by omega)]; exact ih q hq
    · obtain rfl : q = i := by omega
      rw [List.getElem?_append_right (by omega), List.getElem?_append_right (by omega), List.getElem?_append_right (by omega), hl, show 3 * q - 3 * q = 0 from by omega, show 3 * q + 1 - 3 * q = 1 from by omega, show 3 * q + 2 - 3 * q = 2 from by omega]
      exact ⟨rfl, rfl, rfl⟩
theorem far_of (n k : Nat) (h4 : 4 ≤ n) (h64 : n ≤ 64) (hk : k < 3000) : Far (likeL n ++ noiseL k ++ likeL n) n k := by
  have h1 := likeL_length n
  have h2 := noiseL_length k
  refine ⟨by simp only [List.length_append]; omega, fun x hx => ?_, h4, h64, hk⟩
  by_cases hx1 : x < n
  · rw [List.getElem?_append_left (by rw [List.length_append]; omega), List.getElem?_append_left (by omega), likeL_at n x hx1, fb_head hx1]
  · by_cases hx2 : x < n + 3 * k
    · rw [List.getElem?_append_left (by rw [List.length_append]; omega), List.getElem?_append_right (by omega), h1]
      obtain ⟨q, r, hr, rfl⟩ : ∃ q r, r < 3 ∧ x = n + 3 * q + r := ⟨(x - n) / 3, (x - n) % 3, by omega, by omega⟩
      have hq : q < k := by omega
      obtain ⟨a0, a1, a2⟩ := noiseL_at k q hq
      have R : r = 0 ∨ r = 1 ∨ r = 2 := by omega
      rcases R with rfl | rfl | rfl
      · rw [show n + 3 * q + 0 - n = 3 * q from by omega, a0, Nat.add_zero, fb_0 hq]
      · rw [show n + 3 * q + 1 - n = 3 * q + 1 from by omega, a1, fb_1 hq]
      · rw [show n + 3 * q + 2 - n = 3 * q + 2 from by omega, a2, fb_2 hq]
    · rw [List.getElem?_append_right (by rw [List.length_append]; omega), List.length_append, h1, h2]
      obtain ⟨y, rfl⟩ : ∃ y, x = n + 3 * k + y := ⟨x - (n + 3 * k), by omega⟩
      rw [show n + 3 * k + y - (n + 3 * k) = y from by omega, likeL_at n y (by omega), fb_tail]
/-- The last bytes of the packing. -/
theorem far_last (T : ByteArray) (n d : Nat) (pre : List UInt8) (hT : T.data.toList = pre ++ cpyE n d) : T.extract (T.size - (cpyE n d).length) T.size = ⟨(cpyE n d).toArray⟩ ∧ (cpyE n d).length ≤ T.size := by
  have hz : T.size = pre.length + (cpyE n d).length := by rw [← toList_size, hT, List.length_append]
  refine ⟨bytes_ext ?_, by omega⟩
  rw [toList_cut, take_all, hT, hz, show pre.length + (cpyE n d).length - (cpyE n d).length = pre.length from by omega, List.drop_append_of_le_length (Nat.le_refl _), List.drop_length]; rfl

def LikeInv (n : Nat) (w : World) (v i : Value) (wr : World) : Prop := ∃ (k : Nat) (y : ByteArray), k ≤ n ∧ i = .int .i64 k ∧ v = .string y ∧ y.data.toList = likeL k ∧ y.size ≤ 64 ∧ Below w.heap.size w wr
def NoiseInv (k : Nat) (w : World) (v i : Value) (wr : World) : Prop := ∃ (q : Nat) (A : Option Addr) (n cap : Nat), q ≤ k ∧ i = .int .i64 q ∧ v = .slice A n cap ∧ Buf wr w.heap.size 5 (.slice A n cap) (noiseL q) ∧ Kept 5 w.heap.size w wr
theorem like_next {k n : Nat} {y : ByteArray} (hk : k < n) (hn : n ≤ 64) (h : y.data.toList = likeL k) (v : Int) (hv : v = ((128 + k : Nat) : Int)) : (y ++ ⟨#[ub v]⟩).data.toList = likeL (k + 1) ∧ (y ++ ⟨#[ub v]⟩).size ≤ 64 := by
  subst hv
  have e : (y ++ ⟨#[ub ((128 + k : Nat) : Int)]⟩).data.toList = likeL (k + 1) := by rw [toList_app, h]; rfl
  refine ⟨e, ?_⟩
  rw [← toList_size, e, likeL_length]; omega
theorem cb_ub3 {a b c : Int} {x y z : Nat} (h : a = x) (hx : x < 256) (h' : b = y) (hy : y < 256) (h'' : c = z) (hz : z < 256) : (#[Value.int .u8 a, .int .u8 b, .int .u8 c] : Array Value).toList = cb [ub x, ub y, ub z] := by
  subst h; subst h'; subst h''; simp [cb, ub_toNat x hx, ub_toNat y hy, ub_toNat z hz]

set_option maxRecDepth 100000 in
set_option maxHeartbeats 2000000 in
theorem squeezeFar_w (g p : Nat) (w : World) (hg : g ≤ 65535) (hp : p ≤ 255) :
    Calls Try.prog 3 #[.int .u16 g, .int .u8 p] w fun e w' => e = .returned (.bool true) ∧ Below w.heap.size w w' := by
  obtain ⟨i0, hi, hz0, hz1, hz2⟩ := info_parts info_byte
  have k1 := fun (w : World) (a : Int) => run_str1 Try.underlying24 Try.underlying5 Try.underlying9 w a
  obtain ⟨n, hn⟩ : ∃ n : Nat, 4 + (p : Int) % 61 = (n : Int) := ⟨4 + p % 61, by omega⟩
  obtain ⟨k, hk⟩ : ∃ k : Nat, (g : Int) % 3000 = (k : Int) := ⟨g % 3000, by omega⟩
  have hn4 : 4 ≤ n := by omega
  have hn64 : n ≤ 64 := by omega
  have hk3 : k < 3000 := by omega
  have HN := Lib.hid hn
  have HK := Lib.hid hk
  go_enter Try.func3, Try.ntmps3
  go_wp2_with fail
  refine (squeezeAlive w).mono ?_
  rintro e w1 ⟨rfl, hb⟩
  have hzb := hb.size
  go_wp2
  go_loopw [6, 7] (fun v i wr => LikeInv n w1 v i wr) (fun _ i _ => n - (intOf i).toNat)
  case atStart => exact ⟨0, _, by omega, rfl, rfl, rfl, by simp [ByteArray.size], Below.refl _ _⟩
  case round =>
    obtain ⟨q, y, hq, rfl, rfl, hy, hyz, hby⟩ := hrel
    have HY := Lib.hid hy
    have hbyz := hby.size
    clear hy
    by_cases hlt : q < n
    · go_wp2
      go_roundw
      case rel => exact ⟨q + 1, _, by omega, by go_num, rfl, (like_next hlt hn64 HY.out _ (by omega)).1, (like_next hlt hn64 HY.out _ (by omega)).2, hby.alloc hbyz _⟩
      case measure => simp [intOf]; omega
    · go_wp2_with (at_make; refine wpList_make_own _ rfl _ _ 24 rfl wr.heap.size 5 i0 (.int .u8 0) 1 Try.underlying24 hi hz0 hz1 .i64 .i64 _ (3 * k) rfl rfl (by omega) (by rw [hz2]; omega) (by simp only [maxLen]; omega) (by omega) ?_; intro w2 hown1 hgrow1)
      have hb1 : Buf w2 wr.heap.size 5 (.slice (some ⟨wr.heap.size, 0, none⟩) 0 (3 * k)) [] := Buf.own hown1
      have hk1 : Kept 5 wr.heap.size wr w2 := Kept.of_none hgrow1 (Nat.le_refl _)
      clear hown1 hgrow1
      obtain ⟨wo, hwo⟩ : ∃ wo : World, wo = wr := ⟨_, rfl⟩
      subst hwo
      go_loopw [9, 10] (fun v i wr => NoiseInv k wo v i wr) (fun _ i _ => k - (intOf i).toNat)
      case atStart => exact ⟨0, _, _, _, by omega, rfl, rfl, hb1, hk1⟩
      case round =>
        obtain ⟨r, A, m, cap, hr, rfl, rfl, hbuf, hkept⟩ := hrel
        have hlen := noiseL_length r
        have hml := hbuf.len
        have hkz := hkept.size
        clear hb1 hk1
        by_cases hlt2 : r < k
        · go_wp2_with (at_builtin; refine wpList_append_buf (by rfl) (.tmp 47) (.tmp 54) 24 24 (by rfl) wo.heap.size 5 i0 Try.underlying24 hi hz0 hz1 hz2 (by rfl) (hbuf.alloc _) _ [ub (121 : Nat), ub (r / 120 : Nat), ub (r % 120 : Nat)] (by rfl) (src_new Try.underlying24 _ 5 _ [ub (121 : Nat), ub (r / 120 : Nat), ub (r % 120 : Nat)] 3 (cb_ub3 (by omega) (by omega) (by omega) (by omega) (by omega) (by omega))) (by rw [World.size_alloc]; omega) (by simp only [List.length_cons, List.length_nil]; omega) ?_; intro A1 n1 c1 w3 hb3 hk3)
          have HB3 := Lib.hid hb3
          have HK3 := Lib.hid ((hkept.alloc hkz _).trans hk3)
          clear hb3 hk3
          go_wp2
          go_roundw
          case rel => exact ⟨r + 1, A1, n1, c1, by omega, by go_num, rfl, HB3.out, HK3.out⟩
          case measure => simp [intOf]; omega
        · obtain rfl : k = r := by omega
          obtain rfl : n = q := by omega
          have hstr := hbuf.str' (P := Try.prog) Try.underlying24 Try.underlying5 Try.underlying9
          have hm3 : m = 3 * k := by omega
          subst hm3
          have hNz : (⟨(noiseL k).toArray⟩ : ByteArray).size ≤ 9000 := by rw [size_of]; omega
          have HS : Hid ((y ++ ⟨(noiseL k).toArray⟩ ++ y).data.toList = likeL n ++ noiseL k ++ likeL n) := Lib.hid (by rw [toList_app, toList_app, HY.out])
          have hSz : (y ++ ⟨(noiseL k).toArray⟩ ++ y).size = n + 3 * k + n := by rw [← toList_size, HS.out]; simp only [List.length_append, likeL_length, noiseL_length]
          generalize (⟨(noiseL k).toArray⟩ : ByteArray) = N at *
          obtain ⟨T, hT, hTz, hTu⟩ := packed_of (y ++ N ++ y) (by omega) w
          obtain ⟨pre, hpre⟩ := far_pack (far_of n k hn4 hn64 hk3)
          have hTl : T.data.toList = pre ++ cpyE n (n + 3 * k) := by rw [← hT, ← hpre, ← HS.out]
          have HP := Lib.hid (fun w => pack_c (y ++ N ++ y) w (by omega))
          have HU := Lib.hid (fun w => unpack_nil T (y ++ N ++ y).size w (by omega))
          rw [hTu] at HU
          rw [hT] at HP
          simp only [bytes_of] at HU
          obtain ⟨hlast, hll⟩ := far_last T n (n + 3 * k) pre hTl
          have HLAST := Lib.hid hlast
          have HBF := Lib.hid hbuf.len
          have HBE := Lib.hid hkept.below
          have n2 := str_ways (y ++ N ++ y) (y ++ N ++ y)
          simp only [ne_eq, not_true_eq_false, false_and, or_false, true_and] at n2
          obtain ⟨n2, n4⟩ := n2
          have hyn : y.size = n := by rw [← toList_size, HY.out, likeL_length]
          have hNn : N.size = 3 * k := by rw [size_app, size_app] at hSz; omega
          have hNz' : N.size ≤ 9000 := by omega
          have HSS := Lib.hid hSz
          have hTbig : T.size ≤ 20000 := by omega
          generalize hY3 : y ++ N ++ y = Z at *
          have HY3 := Lib.hid hY3
          clear hT hTu hTl hpre hlast hbuf hkept hSz hY3 hml hlen
          by_cases hc : n ≤ 11 ∧ n + 3 * k < 2048
          · obtain ⟨hc1, hc2⟩ := hc
            have d1 : decide ((n : Int) + ((3 * k : Nat) : Int) < 2048) = true := decide_eq_true (by omega)
            rw [cpyE_1 hc1 hc2] at HLAST hll
            simp only [List.length_cons, List.length_nil, Nat.zero_add, Nat.reduceAdd] at HLAST hll
            obtain ⟨E, hEz, HE, HV0, HV1⟩ : ∃ E : ByteArray, ∃ hEz : E.size = 2, Hid (T.extract (T.size - 2) T.size = E) ∧ Hid (E[0].toNat = 1 + 4 * (n - 4) + 32 * ((n + 3 * k) / 256)) ∧ Hid (E[1].toNat = (n + 3 * k) % 256) :=
              ⟨_, rfl, HLAST, Lib.hid (ub_toNat _ (by omega)), Lib.hid (ub_toNat _ (by omega))⟩
            have hlast := HE.out
            have hY3 := HY3.out
            go_wp2_with fail
            refine (HP.out _).mono ?_
            rintro e w4 ⟨rfl, hb4⟩
            have hz4 := hb4.size
            go_wp2_with fail
            refine (HU.out _).mono ?_
            rintro e w5 ⟨rfl, hb5⟩
            have HB := Lib.hid ((hb.trans (hby.mono hzb)).trans ((HBE.out.mono (by omega)).trans ((hb4.mono (by omega)).trans (hb5.mono (by omega)))))
            go_wp2
            have v0 := HV0.out
            have v1 := HV1.out
            obtain ⟨D, hD⟩ : ∃ D : Nat, n + 3 * k = D := ⟨_, rfl⟩
            obtain ⟨q, hq⟩ : ∃ q : Nat, D / 256 = q := ⟨_, rfl⟩
            have h0E : 0 < E.size := by omega
            have h1E : 1 < E.size := by omega
            have e1 : ((E[0].toNat : Nat) : Int).tmod 4 = 1 := by rw [Int.tmod_eq_emod_of_nonneg (by omega)]; omega
            have e2 : ((E[0].toNat : Nat) : Int).tdiv 32 = (q : Int) := by rw [Int.tdiv_eq_ediv_of_nonneg (by omega)]; omega
            have e3 : IntKind.i64.wrap ((q : Int) * 256) = (q : Int) * 256 := IntWalk.i64_in _ (by omega)
            have e4 : IntKind.i64.wrap ((q : Int) * 256 + (E[1].toNat : Nat)) = (D : Int) := by rw [IntWalk.i64_in _ (by omega)]; omega
            have e5 : IntKind.i64.wrap ((n : Int) + 3 * (k : Int)) = (D : Int) := by rw [IntWalk.i64_in _ (by omega)]; omega
            have e6 : IntKind.i64.wrap (q : Int) = (q : Int) := IntWalk.i64_in _ (by omega)
            have f0 : IntKind.i64.wrap ((E[0].toNat : Nat) : Int) = ((E[0].toNat : Nat) : Int) := IntWalk.i64_in _ (by omega)
            have f1 : IntKind.i64.wrap ((E[1].toNat : Nat) : Int) = ((E[1].toNat : Nat) : Int) := IntWalk.i64_in _ (by omega)
            have HFIN : Hid ((wrap64 ((q : Int) * 256 + ((E[1].toNat : Nat) : Int)) == (D : Int)) = true) := Lib.hid (by rw [IntWalk.wrap64_in _ ⟨by omega, by omega⟩]; simp; omega)
            clear v0 v1 hD hq
            go_quiet (fail)
            go_wp2
            go_ret
            exact ⟨ret_bool HFIN.out.symm, HB.out.drewN' _⟩
          · rw [cpyE_2 hc (by omega)] at HLAST hll
            simp only [leD, List.nil_append, List.cons_append, List.length_cons, List.length_nil, Nat.zero_add, Nat.reduceAdd] at HLAST hll
            obtain ⟨E, hEz, HE, HV0, HV1, HV2⟩ : ∃ E : ByteArray, ∃ hEz : E.size = 3, Hid (T.extract (T.size - 3) T.size = E) ∧ Hid (E[0].toNat = 2 + 4 * (n - 1)) ∧ Hid (E[1].toNat = (n + 3 * k) % 256) ∧ Hid (E[2].toNat = (n + 3 * k) / 256 % 256) :=
              ⟨_, rfl, HLAST, Lib.hid (ub_toNat _ (by omega)), Lib.hid (show (ub ((n + 3 * k) / 2 ^ (8 * 0) % 256 : Nat)).toNat = (n + 3 * k) % 256 by rw [ub_toNat _ (by omega)]; simp), Lib.hid (show (ub ((n + 3 * k) / 2 ^ (8 * 1) % 256 : Nat)).toNat = (n + 3 * k) / 256 % 256 by rw [ub_toNat _ (by omega)])⟩
            have hlast := HE.out
            have hY3 := HY3.out
            have hways : 11 < n ∨ (n ≤ 11 ∧ 2048 ≤ n + 3 * k) := by omega
            clear hc
            rcases hways with hc1 | ⟨hc1, hc2⟩
            all_goals
              go_wp2_with fail
              refine (HP.out _).mono ?_
              rintro e w4 ⟨rfl, hb4⟩
              have hz4 := hb4.size
              go_wp2_with fail
              refine (HU.out _).mono ?_
              rintro e w5 ⟨rfl, hb5⟩
              have HB := Lib.hid ((hb.trans (hby.mono hzb)).trans ((HBE.out.mono (by omega)).trans ((hb4.mono (by omega)).trans (hb5.mono (by omega)))))
              go_wp2
              have v0 := HV0.out
              have v1 := HV1.out
              have v2 := HV2.out
              obtain ⟨D, hD⟩ : ∃ D : Nat, n + 3 * k = D := ⟨_, rfl⟩
              have h0E : 0 < E.size := by omega
              have h1E : 1 < E.size := by omega
              have h2E : 2 < E.size := by omega
              have e1 : ((E[0].toNat : Nat) : Int).tmod 4 = 2 := by rw [Int.tmod_eq_emod_of_nonneg (by omega)]; omega
              have e2 : ((E[0].toNat : Nat) : Int).tdiv 4 = (n : Int) - 1 := by rw [Int.tdiv_eq_ediv_of_nonneg (by omega)]; omega
              have e2' : IntKind.i64.wrap ((n : Int) - 1) = (n : Int) - 1 := IntWalk.i64_in _ (by omega)
              have e3 : IntKind.i64.wrap ((n : Int) - 1 + 1) = (n : Int) := by rw [IntWalk.i64_in _ (by omega)]; omega
              have e3' : IntKind.i64.wrap (n : Int) = (n : Int) := IntWalk.i64_in _ (by omega)
              have e4 : IntKind.i64.wrap (256 * ((E[2].toNat : Nat) : Int)) = 256 * ((E[2].toNat : Nat) : Int) := IntWalk.i64_in _ (by omega)
              have e5 : IntKind.i64.wrap (((E[1].toNat : Nat) : Int) + 256 * ((E[2].toNat : Nat) : Int)) = (D : Int) := by rw [IntWalk.i64_in _ (by omega)]; omega
              have e6 : IntKind.i64.wrap ((n : Int) + 3 * (k : Int)) = (D : Int) := by rw [IntWalk.i64_in _ (by omega)]; omega
              have f0 : IntKind.i64.wrap ((E[0].toNat : Nat) : Int) = ((E[0].toNat : Nat) : Int) := IntWalk.i64_in _ (by omega)
              have f1 : IntKind.i64.wrap ((E[1].toNat : Nat) : Int) = ((E[1].toNat : Nat) : Int) := IntWalk.i64_in _ (by omega)
              have f2 : IntKind.i64.wrap ((E[2].toNat : Nat) : Int) = ((E[2].toNat : Nat) : Int) := IntWalk.i64_in _ (by omega)
              have HFIN : Hid ((wrap64 (((E[1].toNat : Nat) : Int) + wrap64 (256 * ((E[2].toNat : Nat) : Int))) == (D : Int)) = true) := Lib.hid (by rw [IntWalk.wrap64_in (256 * ((E[2].toNat : Nat) : Int)) ⟨by omega, by omega⟩, IntWalk.wrap64_in _ ⟨by omega, by omega⟩]; simp; omega)
              clear v0 v1 v2 hD
              go_quiet (fail)
              go_wp2
              go_ret
              exact ⟨ret_bool HFIN.out.symm, HB.out.drewN' _⟩
theorem squeezeFar_row (g p : Int) (w : World) (hg : (Lit.int .u16 g).wf = true) (hp : (Lit.int .u8 p).wf = true) :
    Calls Try.prog 3 #[.int .u16 g, .int .u8 p] w fun e w' => e = .returned (.bool true) ∧ Below w.heap.size w w' := by
  have h1 : 0 ≤ g ∧ g ≤ 65535 := by simpa [Lit.wf, IntKind.min, IntKind.max, IntKind.signed, IntKind.bits] using hg
  have h2 := bounds_u8 hp
  obtain ⟨x, rfl⟩ : ∃ x : Nat, g = (x : Int) := ⟨g.toNat, by omega⟩
  obtain ⟨y, rfl⟩ : ∃ y : Nat, p = (y : Int) := ⟨p.toNat, by omega⟩
  exact squeezeFar_w x y w (by omega) (by omega)
end Go.Proofs.Ythbechmkjhkipaa
