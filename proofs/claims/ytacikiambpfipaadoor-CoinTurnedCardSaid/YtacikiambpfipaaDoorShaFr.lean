/- The document's fraction of a prime's root. -/
import Derived.Test.YtacikiambpfipaaDoorShaPr
namespace Go.Proofs.YtacikiambpfipaaDoor
set_option linter.unusedVariables false
set_option linter.unusedSimpArgs false
open Go.RowKit

theorem dig3 (y : Nat) (hy : y < 68719476736) : digL [y % 65536, y / 65536 % 65536, y / 4294967296] ∧ valL [y % 65536, y / 65536 % 65536, y / 4294967296] = y := by
  constructor
  · intro d hd
    simp only [List.mem_cons, List.not_mem_nil, or_false] at hd
    rcases hd with rfl | rfl | rfl <;> omega
  · simp only [valL]; omega
theorem drop_val (l : List Nat) (j : Nat) (h : j < l.length) : valL (l.drop j) = l.getD j 0 + 65536 * valL (l.drop (j + 1)) := by
  rw [List.drop_eq_getElem_cons h, valL, List.getD_eq_getElem?_getD, List.getElem?_eq_getElem h]; rfl
theorem drop_bd (l : List Nat) (hl : digL l) (j d : Nat) (hd : l.length ≤ j + d) (hd3 : d ≤ 3) : valL (l.drop j) < 281474976710656 := by
  have h1 := valL_lt (l.drop j) (fun x hx => hl x (List.mem_of_mem_drop hx))
  have h2 : 65536 ^ (l.drop j).length ≤ 65536 ^ 3 := Nat.pow_le_pow_right (by omega) (by rw [List.length_drop]; omega)
  have h3 : (65536 : Nat) ^ 3 = 281474976710656 := by decide
  omega
/-- A product of so many digits. -/
def Pr (L V : Nat) (w : World) (e : Ending) (w' : World) : Prop :=
  ∃ P, e = .returned (.slice (some ⟨w.heap.size, 0, none⟩) L L) ∧ Blk w' w.heap.size 39 (nc P) ∧ P.length = L ∧ digL P ∧ valL P = V ∧ Below w.heap.size w w'
theorem product33 (d0 d1 d2 g : Nat) (w : World) (hd : digL [d0, d1, d2]) (h : Blk w g 39 #[.int .u64 d0, .int .u64 d1, .int .u64 d2]) :
    Calls Tryd.prog 112 #[.slice (some ⟨g, 0, none⟩) 3 3, .slice (some ⟨g, 0, none⟩) 3 3] w (Pr 6 (valL [d0, d1, d2] * valL [d0, d1, d2]) w) :=
  (product_c [d0, d1, d2] [d0, d1, d2] g g w hd hd (by simp) (by simp) h h).mono fun _ _ ⟨P, h1, h2, h3, h4, h5, h6⟩ => ⟨P, h1, h2, h3, h4, h5, h6⟩
theorem product63 (P : List Nat) (d0 d1 d2 g g' : Nat) (w : World) (hP : P.length = 6) (hPd : digL P) (hd : digL [d0, d1, d2]) (hg : Blk w g' 39 (nc P)) (h : Blk w g 39 #[.int .u64 d0, .int .u64 d1, .int .u64 d2]) :
    Calls Tryd.prog 112 #[.slice (some ⟨g', 0, none⟩) 6 6, .slice (some ⟨g, 0, none⟩) 3 3] w (Pr 9 (valL P * valL [d0, d1, d2]) w) := by
  have := product_c P [d0, d1, d2] g' g w hPd hd (by omega) (by simp) hg h
  rw [hP] at this
  exact this.mono fun _ _ ⟨Q, h1, h2, h3, h4, h5, h6⟩ => ⟨Q, by rw [hP] at h1; exact h1, h2, by rw [hP] at h3; exact h3, h4, h5, h6⟩
structure FrAt (p d : Nat) (w : World) (x b : Value) (wr : World) : Prop where
  ex : ∃ n xn bn : Nat, x = .int .u64 xn ∧ b = .int .u64 bn ∧ bn = 2 ^ n / 2 ∧ n ≤ 36 ∧ xn + 2 ^ n ≤ 68719476736 ∧ bitsDown p d n xn = bitsDown p d 36 0 ∧ Below w.heap.size w wr
set_option maxRecDepth 100000 in
set_option maxHeartbeats 4000000 in
theorem fraction2_c (p : Nat) (w : World) (hp : p < 100000) :
    Calls Tryd.prog 66 #[.int .u64 p, .int .i64 2] w fun e w' => e = .returned (.int .u32 (fracN p 2 : Nat)) ∧ Below w.heap.size w w' := by
  have HF : Hid (fracN p 2 = bitsDown p 2 36 0 % 4294967296) := Lib.hid rfl
  obtain ⟨F, hF⟩ : ∃ F, fracN p 2 = F := ⟨_, rfl⟩
  rw [hF] at HF ⊢
  clear hF
  go_enter Tryd.func66, Tryd.ntmps66
  go_wp2
  go_loopw [5, 6] (fun x b wr => FrAt p 2 w x b wr) (fun _ b _ => (intOf b).toNat)
  case atStart => exact ⟨36, 0, 34359738368, rfl, rfl, by decide, by omega, by decide, rfl, Below.refl _ _⟩
  case round =>
    obtain ⟨n, xn, bn, rfl, rfl, hbn, hn, hxn, hbd, hbw⟩ := hrel.ex
    have HBW := Lib.hid hbw
    have hsz := hbw.size
    cases n with
    | zero =>
      obtain rfl : bn = 0 := by simpa using hbn
      have HX : Hid (F = xn % 4294967296) := Lib.hid (by rw [HF.out, ← hbd]; rfl)
      have hxs : xn < 68719476736 := by simp at hxn; omega
      have e1 : ((F : Nat) : Int) = (xn : Int) % 4294967296 := by rw [HX.out]; simp
      have E1 := Lib.hid e1
      clear hbd hxn hbn e1 hbw
      go_wp2
      go_ret
      exact ⟨ret_int E1.out.symm, HBW.out⟩
    | succ m =>
      have hb2 : bn = 2 ^ m := by rw [hbn, Nat.pow_succ]; omega
      have hpw : 2 ^ m ≤ 2 ^ 35 := Nat.pow_le_pow_right (by omega) (by omega)
      have hpp : 0 < 2 ^ m := Nat.pow_pos (by omega)
      rw [Nat.pow_succ] at hxn
      have h35 : (2 : Nat) ^ 35 = 34359738368 := by decide
      obtain ⟨y, hy⟩ : ∃ y, xn + bn = y := ⟨_, rfl⟩
      have HBD : Hid (bitsDown p 2 m (if y ^ 2 / 65536 ^ (2 * 2) < p then y else xn) = bitsDown p 2 36 0) := Lib.hid (by rw [← hbd, ← hy, hb2]; rfl)
      obtain ⟨bh, hbh⟩ : ∃ bh, bn / 2 = bh := ⟨_, rfl⟩
      have HBIT : Hid (bh = 2 ^ m / 2) := Lib.hid (by rw [← hbh, hb2])
      have HY2 : Hid (y + 2 ^ m ≤ 68719476736) := Lib.hid (by omega)
      have HX2 : Hid (xn + 2 ^ m ≤ 68719476736) := Lib.hid (by omega)
      have hys : y < 68719476736 := by omega
      have hbp : 0 < bn := by omega
      have hbs : bn ≤ 34359738368 := by omega
      have hxs : xn < 68719476736 := by omega
      have hm35 : m ≤ 35 := by omega
      have e1 : (xn : Int) + (bn : Int) = (y : Int) := by omega
      have e2 : (bn : Int) / 2 = (bh : Int) := by omega
      have hbhl : bh < bn := by omega
      obtain ⟨hdd, hdv⟩ := dig3 y hys
      obtain ⟨d0, h0⟩ : ∃ k, y % 65536 = k := ⟨_, rfl⟩
      obtain ⟨yq, hyq⟩ : ∃ k, y / 65536 = k := ⟨_, rfl⟩
      obtain ⟨d2, h2⟩ : ∃ k, y / 4294967296 = k := ⟨_, rfl⟩
      have e3 : (y : Int) % 65536 = (d0 : Int) := by omega
      have e4 : (y : Int) / 65536 = (yq : Int) := by omega
      have e6 : (y : Int) / 4294967296 = (d2 : Int) := by omega
      rw [h0, hyq, h2] at hdd hdv
      obtain ⟨d1, h1⟩ : ∃ k, yq % 65536 = k := ⟨_, rfl⟩
      have e5 : (yq : Int) % 65536 = (d1 : Int) := by omega
      rw [h1] at hdd hdv
      have HDV := Lib.hid hdv
      have HDD := Lib.hid hdd
      have hpb : (0 : Int) < (bn : Int) := by omega
      clear hbn hbd hxn hb2 hpw hpp h35 hy hbh h0 hyq h2 h1 hdv hdd hbw
      go_wp2_with fail
      obtain ⟨W1, hW1⟩ : ∃ W1, wr.alloc (.cells #[.int .u64 d0, .int .u64 d1, .int .u64 d2] 39) = W1 := ⟨_, rfl⟩
      obtain ⟨g, hg⟩ : ∃ g, wr.heap.size = g := ⟨_, rfl⟩
      have HDB : Hid (Blk W1 g 39 #[.int .u64 d0, .int .u64 d1, .int .u64 d2]) := Lib.hid (by rw [← hW1, ← hg]; exact Blk.new wr _ _)
      have hz1 : W1.heap.size = g + 1 := by rw [← hW1, ← hg]; simp
      have HB1 : Hid (Below w.heap.size w W1) := Lib.hid (by rw [← hW1]; exact HBW.out.alloc hsz _)
      have HP3 := Lib.hid (product33 d0 d1 d2 g W1 HDD.out HDB.out)
      rw [HDV.out] at HP3
      rw [hW1, hg]
      rw [hg] at hsz
      clear hW1 hg
      refine HP3.out.mono ?_
      rintro e w2 ⟨P, rfl, hpb, hpl, hpd, hpv, hbw2⟩
      have hz2 := hbw2.size
      have HDB2 : Hid (Blk w2 g 39 #[.int .u64 d0, .int .u64 d1, .int .u64 d2]) := Lib.hid ((hbw2.block g (by omega)).trans HDB.out)
      have HPB := Lib.hid hpb
      have HPL := Lib.hid hpl
      have HPD := Lib.hid hpd
      have HPV0 := Lib.hid hpv
      have HBW := Lib.hid (HB1.out.trans (hbw2.mono HB1.out.size))
      rw [hz1]
      rw [hz1] at HPB
      clear hpb hpl hpd hpv hbw2
      have HPV : Hid (valL P = y ^ 2) := Lib.hid (by rw [HPV0.out, Nat.pow_two])
      -- the power lies at g + 1, of 6 digits; its value is y ^ d
      go_wp2
      go_loopw [10, 11] (fun v i wr => ∃ j wn : Nat, 2 * 2 ≤ j ∧ j ≤ 6 ∧ i = .int .i64 ((j : Int) - 1) ∧ v = .int .u64 wn ∧ Hid (wn = valL (P.drop j)) ∧ wr = w2) (fun _ i _ => (intOf i + 1).toNat)
      case atStart => exact ⟨6, 0, by omega, by omega, by go_num, rfl, Lib.hid (by rw [List.drop_of_length_le (by rw [HPL.out]; exact Nat.le_refl _)]; rfl), rfl⟩
      case round =>
        obtain ⟨j, wn, hj1, hj2, rfl, rfl, hwn, rfl⟩ := hrel
        by_cases hgt : 2 * 2 < j
        · obtain ⟨i, hij⟩ : ∃ i, j = i + 1 := ⟨j - 1, by omega⟩
          have e1 : (j : Int) - 1 = (i : Int) := by omega
          have hi3 : i < P.length := by rw [HPL.out]; omega
          have hcI := HPB.out.num hi3
          have hdv := drop_val P i hi3
          have hbd := drop_bd P HPD.out i 2 (by rw [HPL.out]; omega) (by omega)
          have hpv := digL_getD HPD.out i
          have hww := hwn.out
          rw [hij] at hww
          rw [← hww] at hdv
          obtain ⟨pv, hpvv⟩ : ∃ pv, P.getD i 0 = pv := ⟨_, rfl⟩
          rw [hpvv] at hcI hdv hpv
          obtain ⟨wn', hwn'⟩ : ∃ wn', valL (P.drop i) = wn' := ⟨_, rfl⟩
          rw [hwn'] at hdv hbd
          have HWN := Lib.hid hwn'
          obtain ⟨q, hq⟩ : ∃ q, wn * 65536 = q := ⟨_, rfl⟩
          have g1 : (wn : Int) * 65536 = (q : Int) := by omega
          have g2 : (q : Int) + (pv : Int) = (wn' : Int) := by omega
          have hql : q < 281474976710656 := by omega
          have hj1' : 2 * 2 ≤ i := by omega
          have hiL : i < 6 := by rw [← HPL.out]; exact hi3
          have HJ2 := Lib.hid hj2
          clear hdv hpvv hwn' hww hq hij hi3 hgt hj1 hj2
          go_wp2
          go_roundw
          case rel => exact ⟨i, wn', hj1', by have := HJ2.out; omega, by go_num, rfl, Lib.hid HWN.out.symm, by first | rfl | trivial⟩
          case measure => simp [intOf]; omega
        · have hj3 : j = 2 * 2 := by omega
          subst hj3
          have hwv : wn = y ^ 2 / 65536 ^ (2 * 2) := by rw [hwn.out, valL_drop _ _ HPD.out (by rw [HPL.out]; omega), HPV.out]
          have HWV := Lib.hid hwv
          clear hwv
          by_cases hlt : wn < p
          · have HNX : Hid (bitsDown p 2 m y = bitsDown p 2 36 0) := Lib.hid (by
              have := HBD.out
              rw [if_pos (by rw [← HWV.out]; exact hlt)] at this; exact this)
            go_wp2
            go_roundw
            case rel => exact ⟨m, y, _, rfl, rfl, HBIT.out, by omega, by have := HY2.out; omega, HNX.out, HBW.out⟩
            case measure => simp [intOf]; omega
          · have HNX : Hid (bitsDown p 2 m xn = bitsDown p 2 36 0) := Lib.hid (by
              have := HBD.out
              rw [if_neg (by rw [← HWV.out]; exact hlt)] at this; exact this)
            go_wp2
            go_roundw
            case rel => exact ⟨m, xn, _, rfl, rfl, HBIT.out, by omega, by have := HX2.out; omega, HNX.out, HBW.out⟩
            case measure => simp [intOf]; omega
set_option maxRecDepth 100000 in
set_option maxHeartbeats 4000000 in
theorem fraction3_c (p : Nat) (w : World) (hp : p < 100000) :
    Calls Tryd.prog 66 #[.int .u64 p, .int .i64 3] w fun e w' => e = .returned (.int .u32 (fracN p 3 : Nat)) ∧ Below w.heap.size w w' := by
  have HF : Hid (fracN p 3 = bitsDown p 3 36 0 % 4294967296) := Lib.hid rfl
  obtain ⟨F, hF⟩ : ∃ F, fracN p 3 = F := ⟨_, rfl⟩
  rw [hF] at HF ⊢
  clear hF
  go_enter Tryd.func66, Tryd.ntmps66
  go_wp2
  go_loopw [5, 6] (fun x b wr => FrAt p 3 w x b wr) (fun _ b _ => (intOf b).toNat)
  case atStart => exact ⟨36, 0, 34359738368, rfl, rfl, by decide, by omega, by decide, rfl, Below.refl _ _⟩
  case round =>
    obtain ⟨n, xn, bn, rfl, rfl, hbn, hn, hxn, hbd, hbw⟩ := hrel.ex
    have HBW := Lib.hid hbw
    have hsz := hbw.size
    cases n with
    | zero =>
      obtain rfl : bn = 0 := by simpa using hbn
      have HX : Hid (F = xn % 4294967296) := Lib.hid (by rw [HF.out, ← hbd]; rfl)
      have hxs : xn < 68719476736 := by simp at hxn; omega
      have e1 : ((F : Nat) : Int) = (xn : Int) % 4294967296 := by rw [HX.out]; simp
      have E1 := Lib.hid e1
      clear hbd hxn hbn e1 hbw
      go_wp2
      go_ret
      exact ⟨ret_int E1.out.symm, HBW.out⟩
    | succ m =>
      have hb2 : bn = 2 ^ m := by rw [hbn, Nat.pow_succ]; omega
      have hpw : 2 ^ m ≤ 2 ^ 35 := Nat.pow_le_pow_right (by omega) (by omega)
      have hpp : 0 < 2 ^ m := Nat.pow_pos (by omega)
      rw [Nat.pow_succ] at hxn
      have h35 : (2 : Nat) ^ 35 = 34359738368 := by decide
      obtain ⟨y, hy⟩ : ∃ y, xn + bn = y := ⟨_, rfl⟩
      have HBD : Hid (bitsDown p 3 m (if y ^ 3 / 65536 ^ (2 * 3) < p then y else xn) = bitsDown p 3 36 0) := Lib.hid (by rw [← hbd, ← hy, hb2]; rfl)
      obtain ⟨bh, hbh⟩ : ∃ bh, bn / 2 = bh := ⟨_, rfl⟩
      have HBIT : Hid (bh = 2 ^ m / 2) := Lib.hid (by rw [← hbh, hb2])
      have HY2 : Hid (y + 2 ^ m ≤ 68719476736) := Lib.hid (by omega)
      have HX2 : Hid (xn + 2 ^ m ≤ 68719476736) := Lib.hid (by omega)
      have hys : y < 68719476736 := by omega
      have hbp : 0 < bn := by omega
      have hbs : bn ≤ 34359738368 := by omega
      have hxs : xn < 68719476736 := by omega
      have hm35 : m ≤ 35 := by omega
      have e1 : (xn : Int) + (bn : Int) = (y : Int) := by omega
      have e2 : (bn : Int) / 2 = (bh : Int) := by omega
      have hbhl : bh < bn := by omega
      obtain ⟨hdd, hdv⟩ := dig3 y hys
      obtain ⟨d0, h0⟩ : ∃ k, y % 65536 = k := ⟨_, rfl⟩
      obtain ⟨yq, hyq⟩ : ∃ k, y / 65536 = k := ⟨_, rfl⟩
      obtain ⟨d2, h2⟩ : ∃ k, y / 4294967296 = k := ⟨_, rfl⟩
      have e3 : (y : Int) % 65536 = (d0 : Int) := by omega
      have e4 : (y : Int) / 65536 = (yq : Int) := by omega
      have e6 : (y : Int) / 4294967296 = (d2 : Int) := by omega
      rw [h0, hyq, h2] at hdd hdv
      obtain ⟨d1, h1⟩ : ∃ k, yq % 65536 = k := ⟨_, rfl⟩
      have e5 : (yq : Int) % 65536 = (d1 : Int) := by omega
      rw [h1] at hdd hdv
      have HDV := Lib.hid hdv
      have HDD := Lib.hid hdd
      have hpb : (0 : Int) < (bn : Int) := by omega
      clear hbn hbd hxn hb2 hpw hpp h35 hy hbh h0 hyq h2 h1 hdv hdd hbw
      go_wp2_with fail
      obtain ⟨W1, hW1⟩ : ∃ W1, wr.alloc (.cells #[.int .u64 d0, .int .u64 d1, .int .u64 d2] 39) = W1 := ⟨_, rfl⟩
      obtain ⟨g, hg⟩ : ∃ g, wr.heap.size = g := ⟨_, rfl⟩
      have HDB : Hid (Blk W1 g 39 #[.int .u64 d0, .int .u64 d1, .int .u64 d2]) := Lib.hid (by rw [← hW1, ← hg]; exact Blk.new wr _ _)
      have hz1 : W1.heap.size = g + 1 := by rw [← hW1, ← hg]; simp
      have HB1 : Hid (Below w.heap.size w W1) := Lib.hid (by rw [← hW1]; exact HBW.out.alloc hsz _)
      have HP3 := Lib.hid (product33 d0 d1 d2 g W1 HDD.out HDB.out)
      rw [HDV.out] at HP3
      rw [hW1, hg]
      rw [hg] at hsz
      clear hW1 hg
      refine HP3.out.mono ?_
      rintro e w2 ⟨P, rfl, hpb, hpl, hpd, hpv, hbw2⟩
      have hz2 := hbw2.size
      have HDB2 : Hid (Blk w2 g 39 #[.int .u64 d0, .int .u64 d1, .int .u64 d2]) := Lib.hid ((hbw2.block g (by omega)).trans HDB.out)
      have HPB := Lib.hid hpb
      have HPL := Lib.hid hpl
      have HPD := Lib.hid hpd
      have HPV0 := Lib.hid hpv
      have HBW := Lib.hid (HB1.out.trans (hbw2.mono HB1.out.size))
      rw [hz1]
      rw [hz1] at HPB
      clear hpb hpl hpd hpv hbw2
      have HP9 := Lib.hid (product63 P d0 d1 d2 g (g + 1) w2 HPL.out HPD.out HDD.out HPB.out HDB2.out)
      rw [HDV.out] at HP9
      go_wp2_with fail
      refine HP9.out.mono ?_
      rintro e w3 ⟨Q, rfl, hpb, hpl, hpd, hpv, hbw3⟩
      obtain ⟨g2, hg2⟩ : ∃ g2, w2.heap.size = g2 := ⟨_, rfl⟩
      have HPV : Hid (valL Q = y ^ 3) := Lib.hid (by rw [hpv, HPV0.out, Nat.pow_succ, Nat.pow_two])
      have HBW' := Lib.hid (HBW.out.trans (hbw3.mono HBW.out.size))
      rw [hg2] at hpb ⊢
      have HPB := Lib.hid hpb
      have HPL := Lib.hid hpl
      have HPD := Lib.hid hpd
      have HBW := HBW'
      clear hpb hpl hpd hpv hbw3 hg2
      -- the power lies at g2, of 9 digits; its value is y ^ d
      go_wp2
      go_loopw [10, 11] (fun v i wr => ∃ j wn : Nat, 2 * 3 ≤ j ∧ j ≤ 9 ∧ i = .int .i64 ((j : Int) - 1) ∧ v = .int .u64 wn ∧ Hid (wn = valL (Q.drop j)) ∧ wr = w3) (fun _ i _ => (intOf i + 1).toNat)
      case atStart => exact ⟨9, 0, by omega, by omega, by go_num, rfl, Lib.hid (by rw [List.drop_of_length_le (by rw [HPL.out]; exact Nat.le_refl _)]; rfl), rfl⟩
      case round =>
        obtain ⟨j, wn, hj1, hj2, rfl, rfl, hwn, rfl⟩ := hrel
        by_cases hgt : 2 * 3 < j
        · obtain ⟨i, hij⟩ : ∃ i, j = i + 1 := ⟨j - 1, by omega⟩
          have e1 : (j : Int) - 1 = (i : Int) := by omega
          have hi3 : i < Q.length := by rw [HPL.out]; omega
          have hcI := HPB.out.num hi3
          have hdv := drop_val Q i hi3
          have hbd := drop_bd Q HPD.out i 3 (by rw [HPL.out]; omega) (by omega)
          have hpv := digL_getD HPD.out i
          have hww := hwn.out
          rw [hij] at hww
          rw [← hww] at hdv
          obtain ⟨pv, hpvv⟩ : ∃ pv, Q.getD i 0 = pv := ⟨_, rfl⟩
          rw [hpvv] at hcI hdv hpv
          obtain ⟨wn', hwn'⟩ : ∃ wn', valL (Q.drop i) = wn' := ⟨_, rfl⟩
          rw [hwn'] at hdv hbd
          have HWN := Lib.hid hwn'
          obtain ⟨q, hq⟩ : ∃ q, wn * 65536 = q := ⟨_, rfl⟩
          have g1 : (wn : Int) * 65536 = (q : Int) := by omega
          have g2 : (q : Int) + (pv : Int) = (wn' : Int) := by omega
          have hql : q < 281474976710656 := by omega
          have hj1' : 2 * 3 ≤ i := by omega
          have hiL : i < 9 := by rw [← HPL.out]; exact hi3
          have HJ2 := Lib.hid hj2
          clear hdv hpvv hwn' hww hq hij hi3 hgt hj1 hj2
          go_wp2
          go_roundw
          case rel => exact ⟨i, wn', hj1', by have := HJ2.out; omega, by go_num, rfl, Lib.hid HWN.out.symm, by first | rfl | trivial⟩
          case measure => simp [intOf]; omega
        · have hj3 : j = 2 * 3 := by omega
          subst hj3
          have hwv : wn = y ^ 3 / 65536 ^ (2 * 3) := by rw [hwn.out, valL_drop _ _ HPD.out (by rw [HPL.out]; omega), HPV.out]
          have HWV := Lib.hid hwv
          clear hwv
          by_cases hlt : wn < p
          · have HNX : Hid (bitsDown p 3 m y = bitsDown p 3 36 0) := Lib.hid (by
              have := HBD.out
              rw [if_pos (by rw [← HWV.out]; exact hlt)] at this; exact this)
            go_wp2
            go_roundw
            case rel => exact ⟨m, y, _, rfl, rfl, HBIT.out, by omega, by have := HY2.out; omega, HNX.out, HBW.out⟩
            case measure => simp [intOf]; omega
          · have HNX : Hid (bitsDown p 3 m xn = bitsDown p 3 36 0) := Lib.hid (by
              have := HBD.out
              rw [if_neg (by rw [← HWV.out]; exact hlt)] at this; exact this)
            go_wp2
            go_roundw
            case rel => exact ⟨m, xn, _, rfl, rfl, HBIT.out, by omega, by have := HX2.out; omega, HNX.out, HBW.out⟩
            case measure => simp [intOf]; omega
end Go.Proofs.YtacikiambpfipaaDoor
