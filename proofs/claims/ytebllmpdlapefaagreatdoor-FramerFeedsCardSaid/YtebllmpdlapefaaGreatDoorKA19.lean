/- The document's product of two numbers, digit by digit. -/
/- The document's fraction of a prime's root. -/
import Derived.Test.YtebllmpdlapefaaGreatDoorKA13
import Derived.Test.YtebllmpdlapefaaGreatDoorKA1
import Derived.LoopTactic
import Derived.Deep.OwnRows
import Derived.Deep.QuietTactic
import Derived.BigQuiet
import Derived.IntWalk
namespace Go.Proofs.YtebllmpdlapefaaGreatDoor
set_option linter.unusedVariables false
set_option linter.unusedSimpArgs false
open Go.RowKit

/-- Numbers as cells. -/
def nc (l : List Nat) : Array Value := (l.map fun n => Value.int .u64 (n : Nat)).toArray
theorem nc_size (l : List Nat) : (nc l).size = l.length := by simp [nc]
theorem nc_at (l : List Nat) (i : Nat) (h : i < l.length) : (nc l)[i]? = some (.int .u64 (l.getD i 0 : Nat)) := by
  simp [nc, List.getD_eq_getElem?_getD, List.getElem?_eq_getElem h]
theorem nc_set (l : List Nat) (i v : Nat) : (nc l).setIfInBounds i (.int .u64 (v : Nat)) = nc (l.set i v) := by
  simp [nc]
theorem Blk.num {w : World} {g : Nat} {t : TypeId} {l : List Nat} (h : Blk w g t (nc l)) {i : Nat} (hi : i < l.length) : w.cell? ⟨g, i, none⟩ = some (.int .u64 (l.getD i 0 : Nat)) := (h.cell i).trans (nc_at l i hi)
theorem Blk.putNum {w : World} {g : Nat} {t : TypeId} {l : List Nat} (h : Blk w g t (nc l)) (i v : Nat) : Blk (w.setCell ⟨g, i, none⟩ (.int .u64 (v : Nat))) g t (nc (l.set i v)) := h.store (nc_set l i v)
theorem info_u64 : (Tryz.prog.info? 25).map (fun i => (i.zero, i.size, i.bytes)) = some (some (.int .u64 0), 1, 8) := by kernel_rfl
theorem made_nums (n : Nat) : madeCells #[Value.int .u64 0] n = nc (List.replicate n 0) := by
  apply Array.ext'
  apply List.ext_getElem
  · simp [nc, madeCells]
  · intro i h1 h2
    simp [nc, madeCells, show i % 1 = 0 by omega]
theorem valL_take_le (l : List Nat) (i : Nat) : valL (l.take i) ≤ valL l := by
  have := valL_append (l.take i) (l.drop i)
  rw [List.take_append_drop] at this
  omega
theorem digL_take {l : List Nat} (h : digL l) (i : Nat) : digL (l.take i) := fun d hd => h d (List.mem_of_mem_take hd)
theorem prod_bd (a b : List Nat) (ha : digL a) (hb : digL b) (i k : Nat) (hi : i < a.length) : valL (a.take i) * valL b + a.getD i 0 * 65536 ^ i * valL (b.take k) < 65536 ^ (a.length + b.length) := by
  have h1 := valL_take a i hi
  have h2 := valL_take_le b k
  have h3 := valL_take_le a (i + 1)
  have h4 := mul_lt_pow (valL_lt a ha) (valL_lt b hb)
  have h5 : a.getD i 0 * 65536 ^ i * valL (b.take k) ≤ a.getD i 0 * 65536 ^ i * valL b := Nat.mul_le_mul_left _ h2
  have h6 : valL (a.take (i + 1)) * valL b ≤ valL a * valL b := Nat.mul_le_mul_right _ h3
  rw [h1, Nat.add_mul] at h6
  omega
theorem prod_next (a b : List Nat) (i k : Nat) (hk : k < b.length) : valL (a.take i) * valL b + a.getD i 0 * 65536 ^ i * valL (b.take k) + a.getD i 0 * b.getD k 0 * 65536 ^ (i + k) = valL (a.take i) * valL b + a.getD i 0 * 65536 ^ i * valL (b.take (k + 1)) := by
  rw [valL_take b k hk, Nat.mul_add, Nat.pow_add]
  have : a.getD i 0 * b.getD k 0 * (65536 ^ i * 65536 ^ k) = a.getD i 0 * 65536 ^ i * (b.getD k 0 * 65536 ^ k) := by
    simp only [Nat.mul_assoc, Nat.mul_left_comm, Nat.mul_comm]
  omega
/-- What the product tells. -/
def PrEnd (a b : List Nat) (w : World) (e : Ending) (w' : World) : Prop :=
  ∃ p, e = .returned (.slice (some ⟨w.heap.size, 0, none⟩) (a.length + b.length) (a.length + b.length)) ∧ Blk w' w.heap.size 25 (nc p) ∧ p.length = a.length + b.length ∧ digL p ∧ valL p = valL a * valL b ∧ Below w.heap.size w w'
structure PrAt (w : World) (N V : Nat) (p : List Nat) (wr : World) : Prop where
  blk : Blk wr w.heap.size 25 (nc p)
  len : p.length = N
  dig : digL p
  below : Below w.heap.size w wr
  val : valL p = V
structure PrIn (w : World) (N T : Nat) (x m : Value) (wr : World) : Prop where
  ex : ∃ (p : List Nat) (xn mn : Nat), x = .int .u64 xn ∧ m = .int .i64 mn ∧ xn < 8589934592 ∧ mn ≤ N ∧ Blk wr w.heap.size 25 (nc p) ∧ p.length = N ∧ digL p ∧ Below w.heap.size w wr ∧ valL p + xn / 65536 * 65536 ^ mn = T
set_option maxRecDepth 100000 in
set_option maxHeartbeats 4000000 in
theorem product_c (a b : List Nat) (ga gb : Nat) (w : World) (ha : digL a) (hb : digL b) (hla : a.length ≤ 20) (hlb : b.length ≤ 20) (hA : Blk w ga 25 (nc a)) (hB : Blk w gb 25 (nc b)) :
    Calls Tryz.prog 61 #[.slice (some ⟨ga, 0, none⟩) a.length a.length, .slice (some ⟨gb, 0, none⟩) b.length b.length] w (PrEnd a b w) := by
  obtain ⟨i0, hi, hz0, hz1, hz2⟩ := info_parts info_u64
  obtain ⟨la, hea⟩ : ∃ la, a.length = la := ⟨_, rfl⟩
  obtain ⟨lb, heb⟩ : ∃ lb, b.length = lb := ⟨_, rfl⟩
  obtain ⟨N, hN⟩ : ∃ N, la + lb = N := ⟨_, rfl⟩
  have eN : (la : Int) + (lb : Int) = (N : Int) := by omega
  have HEA := Lib.hid hea
  have HEB := Lib.hid heb
  have HEN := Lib.hid hN
  rw [hea] at hla ⊢
  rw [heb] at hlb ⊢
  have hN40 : N ≤ 40 := by omega
  have HAA := Lib.hid hA
  have HBB := Lib.hid hB
  have hgal := hA.lt
  have hgbl := hB.lt
  clear hea heb hN hA hB
  go_enter Tryz.func61, Tryz.ntmps61
  go_wp2_with (at_make; refine wpList_make_row _ (by rfl) _ _ 115 (by rfl) 25 i0 (.int .u64 0) Tryz.underlying115 hi hz0 hz1 (by rfl) .i64 .i64 N (by rfl) (by rfl) (by rw [hz2]; omega) (by omega) ?_)
  obtain ⟨W0, hW0⟩ : ∃ W0, w.alloc (.cells (madeCells #[Value.int .u64 0] N) 25) = W0 := ⟨_, rfl⟩
  have HS0 : Hid (PrAt w N (valL (a.take 0) * valL b) (List.replicate N 0) W0) := Lib.hid (by
    rw [← hW0, made_nums]
    exact ⟨Blk.new w _ _, by simp, digL_rep N, (Below.refl _ w).alloc (Nat.le_refl _) _, by rw [valL_rep]; simp [valL]⟩)
  rw [hW0]
  clear hW0
  go_loopw [6] (fun i wr => ∃ (k : Nat) (p : List Nat), k ≤ la ∧ i = .int .i64 k ∧ PrAt w N (valL (a.take k) * valL b) p wr) (fun i _ => la - (intOf i).toNat)
  case atStart => exact ⟨0, _, by omega, rfl, HS0.out⟩
  case round =>
    obtain ⟨i, p, hi', rfl, hP⟩ := hrel
    have HP := Lib.hid hP
    clear hP
    by_cases hil : i < la
    · obtain ⟨T, hT⟩ : ∃ T, valL (a.take i) * valL b = T := ⟨_, rfl⟩
      have HT := Lib.hid hT
      obtain ⟨av, hav⟩ : ∃ av, a.getD i 0 = av := ⟨_, rfl⟩
      have HAV := Lib.hid hav
      have havl : av < 65536 := by rw [← hav]; exact digL_getD ha i
      have hcA : w.cell? ⟨ga, i, none⟩ = some (.int .u64 av) := by rw [← hav]; exact HAA.out.num (by rw [HEA.out]; exact hil)
      rw [hT] at HP
      have HP0 : Hid (PrAt w N (T + av * 65536 ^ i * valL (b.take 0)) p wr) := Lib.hid ⟨HP.out.blk, HP.out.len, HP.out.dig, HP.out.below, by rw [HP.out.val]; simp [valL]⟩
      clear hT hav HP
      go_wp2
      go_loopw [7] (fun j wr => ∃ (k : Nat) (p : List Nat), k ≤ lb ∧ j = .int .i64 k ∧ PrAt w N (T + av * 65536 ^ i * valL (b.take k)) p wr) (fun j _ => lb - (intOf j).toNat)
      case atStart => exact ⟨0, _, by omega, rfl, HP0.out⟩
      case round =>
        obtain ⟨k, p, hk', rfl, hP⟩ := hrel
        have HP := Lib.hid hP
        clear hP HP0
        by_cases hkl : k < lb
        · obtain ⟨bv, hbv⟩ : ∃ bv, b.getD k 0 = bv := ⟨_, rfl⟩
          obtain ⟨j, hj⟩ : ∃ j, i + k = j := ⟨_, rfl⟩
          obtain ⟨ov, hov⟩ : ∃ ov, p.getD j 0 = ov := ⟨_, rfl⟩
          obtain ⟨y, hy⟩ : ∃ y, av * bv = y := ⟨_, rfl⟩
          obtain ⟨x, hx⟩ : ∃ x, ov + y = x := ⟨_, rfl⟩
          have hbvl : bv < 65536 := by rw [← hbv]; exact digL_getD hb k
          have hovl : ov < 65536 := by rw [← hov]; exact digL_getD HP.out.dig j
          have hyl : y ≤ 65535 * 65535 := by rw [← hy]; exact Nat.mul_le_mul (by omega) (by omega)
          have hxl : x < 8589934592 := by omega
          have hjN : j < N := by have := HEN.out; omega
          have hjp : j < p.length := by rw [HP.out.len]; exact hjN
          have hb0 := HP.out.below
          have hcA' : wr.cell? ⟨ga, i, none⟩ = some (.int .u64 av) := (hb0.cell (p := ⟨ga, i, none⟩) hgal).trans hcA
          have hcB' : wr.cell? ⟨gb, k, none⟩ = some (.int .u64 bv) := (hb0.cell (p := ⟨gb, k, none⟩) hgbl).trans (by rw [← hbv]; exact HBB.out.num (by rw [HEB.out]; exact hkl))
          have hcO : wr.cell? ⟨w.heap.size, j, none⟩ = some (.int .u64 ov) := by rw [← hov]; exact HP.out.blk.num hjp
          have hfO := HP.out.blk.frozen j
          have g0 : (i : Int) + (k : Int) = (j : Int) := by omega
          have g1 : IntKind.i64.wrap ((i : Int) + (k : Int)) = (j : Int) := by rw [g0]; exact IntWalk.i64_in _ (by omega)
          have g2 : (av : Int) * (bv : Int) = (y : Int) := by rw [← hy]; simp
          have g3 : IntKind.u64.wrap ((av : Int) * (bv : Int)) = (y : Int) := by rw [g2]; exact IntWalk.u64_in _ (by omega)
          have g4 : (ov : Int) + (y : Int) = (x : Int) := by omega
          have g5 : IntKind.u64.wrap ((ov : Int) + (y : Int)) = (x : Int) := by rw [g4]; exact IntWalk.u64_in _ (by omega)
          obtain ⟨T', hT'⟩ : ∃ T', T + av * 65536 ^ i * valL (b.take (k + 1)) = T' := ⟨_, rfl⟩
          have HT'l : Hid (T' < 65536 ^ N) := Lib.hid (by
            have := prod_bd a b ha hb i (k + 1) (by rw [HEA.out]; exact hil)
            rw [HT.out, HAV.out, hT', HEA.out, HEB.out, HEN.out] at this; exact this)
          have ex : ((x % 65536 : Nat) : Int) = (x : Int) % 65536 := by simp
          have EX := Lib.hid ex
          clear ex
          have HI : Hid (∀ nq, PrIn w N T' (.int .u64 x) (.int .i64 ((j : Int) + 1)) ((wr.drewN nq).setCell ⟨w.heap.size, j, none⟩ (.int .u64 ((x : Int) % 65536)))) := Lib.hid (fun nq => by
            rw [← EX.out]
            refine ⟨p.set j (x % 65536), x, j + 1, rfl, rfl, hxl, by omega, (HP.out.blk.drewN nq).putNum j _, by rw [List.length_set]; exact HP.out.len, digL_set HP.out.dig _ _ (by omega), (HP.out.below.drewN' nq).setCell (by simp) _, ?_⟩
            have h1 := mul_step (y := y) hjp HP.out.val
            rw [hov, hx] at h1
            rw [h1, ← hT', ← hy]
            have h2 := prod_next a b i k (by rw [HEB.out]; exact hkl)
            rw [HT.out, HAV.out, hbv, hj] at h2
            exact h2)
          have HT' := Lib.hid hT'
          clear hT' hbv hov hy hx hj hcA hb0 HP
          go_wp2
          go_quiet (fail)
          go_wp2
          go_loopw [8, 9] (fun x m wr => PrIn w N T' x m wr) (fun _ m _ => N - (intOf m).toNat)
          case atStart => exact HI.out nq
          case round =>
            obtain ⟨p, xn, mn, rfl, rfl, hxn, hmn, hblk, hpl, hpd, hbel, hval⟩ := hrel.ex
            clear hcA' hcB' hcO hfO
            by_cases hge : 65536 ≤ xn
            · have hmN : mn < N := carry_in (by omega) hval HT'l.out
              have hcM : wr.cell? ⟨w.heap.size, mn, none⟩ = some (.int .u64 (p.getD mn 0 : Nat)) := hblk.num (by omega)
              have hfM := hblk.frozen mn
              have hpm := digL_getD hpd mn
              have HC := Lib.hid (carry_step (m := mn) (by omega : mn < p.length) hval)
              obtain ⟨pm, hpmm⟩ : ∃ pm, p.getD mn 0 = pm := ⟨_, rfl⟩
              rw [hpmm] at hcM hpm HC
              obtain ⟨q, hq⟩ : ∃ q, xn / 65536 = q := ⟨_, rfl⟩
              have e1 : (xn : Int) / 65536 = (q : Int) := by omega
              obtain ⟨x', hx'⟩ : ∃ x', q + pm = x' := ⟨_, rfl⟩
              have e2 : (q : Int) + (pm : Int) = (x' : Int) := by omega
              have hx'l : x' < 8589934592 := by omega
              rw [hq, hx'] at HC
              have ex : ((x' % 65536 : Nat) : Int) = (x' : Int) % 65536 := by simp
              have HN : Hid (PrIn w N T' (.int .u64 x') (.int .i64 ((mn : Int) + 1)) (wr.setCell ⟨w.heap.size, mn, none⟩ (.int .u64 ((x' : Int) % 65536)))) := Lib.hid (by
                rw [← ex]
                exact ⟨p.set mn (x' % 65536), x', mn + 1, rfl, rfl, hx'l, by omega, hblk.putNum mn _, by rw [List.length_set]; exact hpl, digL_set hpd _ _ (by omega), hbel.setCell (by simp) _, HC.out⟩)
              have d1 : decide ((65536 : Int) ≤ (xn : Int)) = true := decide_eq_true (by omega)
              have HGE := Lib.hid hge
              clear hblk hbel hval hq hx' ex hpmm HC hge hxn
              go_wp2
              go_roundw
              case rel => exact HN.out
              case measure => simp [intOf]; omega
            · have HN : Hid (PrAt w N (T + av * 65536 ^ i * valL (b.take (k + 1))) p wr) := Lib.hid ⟨hblk, hpl, hpd, hbel, by
                have : xn / 65536 = 0 := by omega
                rw [this, Nat.zero_mul, Nat.add_zero] at hval
                rw [hval, HT'.out]⟩
              have d1 : decide ((65536 : Int) ≤ (xn : Int)) = false := decide_eq_false (by omega)
              clear hblk hbel hval hge hxn
              go_wp2
              go_roundw
              case rel => exact ⟨k + 1, p, by omega, by go_num, HN.out⟩
              case measure => simp [intOf]; omega
        · have HN : Hid (PrAt w N (valL (a.take (i + 1)) * valL b) p wr) := Lib.hid ⟨HP.out.blk, HP.out.len, HP.out.dig, HP.out.below, by
            rw [HP.out.val, List.take_of_length_le (by rw [HEB.out]; omega), valL_take a i (by rw [HEA.out]; exact hil), Nat.add_mul, HT.out, HAV.out]⟩
          clear HP hcA
          go_wp2
          go_roundw
          case rel => exact ⟨i + 1, p, by omega, by go_num, HN.out⟩
          case measure => simp [intOf]; omega
    · have HN : Hid (valL p = valL a * valL b) := Lib.hid (by rw [HP.out.val, List.take_of_length_le (by rw [HEA.out]; omega)])
      go_wp2
      go_ret
      exact ⟨p, by rw [HEA.out, HEB.out, HEN.out]; rfl, HP.out.blk, by rw [HP.out.len, HEA.out, HEB.out, HEN.out], HP.out.dig, HN.out, HP.out.below⟩
end Go.Proofs.YtebllmpdlapefaaGreatDoor
namespace Go.Proofs.YtebllmpdlapefaaGreatDoor
set_option linter.unusedVariables false
set_option linter.unusedSimpArgs false
open Go.RowKit

theorem dig3 (y : Nat) (hy : y < 68719476736) : digL [y % 65536, y / 65536 % 65536, y / 4294967296] ∧ valL [y % 65536, y / 65536 % 65536, y / 4294967296] = y := by
  constructor
  · intro d hd
    simp only [List.mem_cons, List.not_mem_nil, or_false] at hd
    rcases hd with rfl | rfl | rfl <;> omega
  · simp only [valL]; omega
theorem drop_val (l : List Nat) (j : Nat) (h : j < l.length) : valL (l.drop j) = l.getD j 0 + 65536 * valL (l.drop (j + 1)) := by
  rw [List.drop_eq_getElem_cons h, valL, List.getD_eq_getElem?_getD, List.getElem?_eq_getElem h]; rfl
theorem drop_bd (l : List Nat) (hl : digL l) (j d : Nat) (hd : l.length ≤ j + d) (hd3 : d ≤ 3) : valL (l.drop j) < 281474976710656 := by
  have h1 := valL_lt (l.drop j) (fun x hx => hl x (List.mem_of_mem_drop hx))
  have h2 : 65536 ^ (l.drop j).length ≤ 65536 ^ 3 := Nat.pow_le_pow_right (by omega) (by rw [List.length_drop]; omega)
  have h3 : (65536 : Nat) ^ 3 = 281474976710656 := by decide
  omega
/-- A product of so many digits. -/
def Pr (L V : Nat) (w : World) (e : Ending) (w' : World) : Prop :=
  ∃ P, e = .returned (.slice (some ⟨w.heap.size, 0, none⟩) L L) ∧ Blk w' w.heap.size 25 (nc P) ∧ P.length = L ∧ digL P ∧ valL P = V ∧ Below w.heap.size w w'
theorem product33 (d0 d1 d2 g : Nat) (w : World) (hd : digL [d0, d1, d2]) (h : Blk w g 25 #[.int .u64 d0, .int .u64 d1, .int .u64 d2]) :
    Calls Tryz.prog 61 #[.slice (some ⟨g, 0, none⟩) 3 3, .slice (some ⟨g, 0, none⟩) 3 3] w (Pr 6 (valL [d0, d1, d2] * valL [d0, d1, d2]) w) :=
  (product_c [d0, d1, d2] [d0, d1, d2] g g w hd hd (by simp) (by simp) h h).mono fun _ _ ⟨P, h1, h2, h3, h4, h5, h6⟩ => ⟨P, h1, h2, h3, h4, h5, h6⟩
theorem product63 (P : List Nat) (d0 d1 d2 g g' : Nat) (w : World) (hP : P.length = 6) (hPd : digL P) (hd : digL [d0, d1, d2]) (hg : Blk w g' 25 (nc P)) (h : Blk w g 25 #[.int .u64 d0, .int .u64 d1, .int .u64 d2]) :
    Calls Tryz.prog 61 #[.slice (some ⟨g', 0, none⟩) 6 6, .slice (some ⟨g, 0, none⟩) 3 3] w (Pr 9 (valL P * valL [d0, d1, d2]) w) := by
  have := product_c P [d0, d1, d2] g' g w hPd hd (by omega) (by simp) hg h
  rw [hP] at this
  exact this.mono fun _ _ ⟨Q, h1, h2, h3, h4, h5, h6⟩ => ⟨Q, by rw [hP] at h1; exact h1, h2, by rw [hP] at h3; exact h3, h4, h5, h6⟩
structure FrAt (p d : Nat) (w : World) (x b : Value) (wr : World) : Prop where
  ex : ∃ n xn bn : Nat, x = .int .u64 xn ∧ b = .int .u64 bn ∧ bn = 2 ^ n / 2 ∧ n ≤ 36 ∧ xn + 2 ^ n ≤ 68719476736 ∧ bitsDown p d n xn = bitsDown p d 36 0 ∧ Below w.heap.size w wr
set_option maxRecDepth 100000 in
set_option maxHeartbeats 4000000 in
theorem fraction2_c (p : Nat) (w : World) (hp : p < 100000) :
    Calls Tryz.prog 44 #[.int .u64 p, .int .i64 2] w fun e w' => e = .returned (.int .u32 (fracN p 2 : Nat)) ∧ Below w.heap.size w w' := by
  have HF : Hid (fracN p 2 = bitsDown p 2 36 0 % 4294967296) := Lib.hid rfl
  obtain ⟨F, hF⟩ : ∃ F, fracN p 2 = F := ⟨_, rfl⟩
  rw [hF] at HF ⊢
  clear hF
  go_enter Tryz.func44, Tryz.ntmps44
  go_wp2
  go_loopw [5, 6] (fun x b wr => FrAt p 2 w x b wr) (fun _ b _ => (intOf b).toNat)
  case atStart => exact ⟨36, 0, 34359738368, rfl, rfl, by decide, by omega, by decide, rfl, Below.refl _ _⟩
  case round =>
    obtain ⟨n, xn, bn, rfl, rfl, hbn, hn, hxn, hbd, hbw⟩ := hrel.ex
    have HBW := Lib.hid hbw
    have hsz := hbw.size
    cases n with
    | zero =>
      obtain rfl : bn = 0 := by simpa using hbn
      have HX : Hid (F = xn % 4294967296) := Lib.hid (by rw [HF.out, ← hbd]; rfl)
      have hxs : xn < 68719476736 := by simp at hxn; omega
      have e1 : ((F : Nat) : Int) = (xn : Int) % 4294967296 := by rw [HX.out]; simp
      have E1 := Lib.hid e1
      clear hbd hxn hbn e1 hbw
      go_wp2
      go_ret
      exact ⟨ret_int E1.out.symm, HBW.out⟩
    | succ m =>
      have hb2 : bn = 2 ^ m := by rw [hbn, Nat.pow_succ]; omega
      have hpw : 2 ^ m ≤ 2 ^ 35 := Nat.pow_le_pow_right (by omega) (by omega)
      have hpp : 0 < 2 ^ m := Nat.pow_pos (by omega)
      rw [Nat.pow_succ] at hxn
      have h35 : (2 : Nat) ^ 35 = 34359738368 := by decide
      obtain ⟨y, hy⟩ : ∃ y, xn + bn = y := ⟨_, rfl⟩
      have HBD : Hid (bitsDown p 2 m (if y ^ 2 / 65536 ^ (2 * 2) < p then y else xn) = bitsDown p 2 36 0) := Lib.hid (by rw [← hbd, ← hy, hb2]; rfl)
      obtain ⟨bh, hbh⟩ : ∃ bh, bn / 2 = bh := ⟨_, rfl⟩
      have HBIT : Hid (bh = 2 ^ m / 2) := Lib.hid (by rw [← hbh, hb2])
      have HY2 : Hid (y + 2 ^ m ≤ 68719476736) := Lib.hid (by omega)
      have HX2 : Hid (xn + 2 ^ m ≤ 68719476736) := Lib.hid (by omega)
      have hys : y < 68719476736 := by omega
      have hbp : 0 < bn := by omega
      have hbs : bn ≤ 34359738368 := by omega
      have hxs : xn < 68719476736 := by omega
      have hm35 : m ≤ 35 := by omega
      have e1 : (xn : Int) + (bn : Int) = (y : Int) := by omega
      have e2 : (bn : Int) / 2 = (bh : Int) := by omega
      have hbhl : bh < bn := by omega
      obtain ⟨hdd, hdv⟩ := dig3 y hys
      obtain ⟨d0, h0⟩ : ∃ k, y % 65536 = k := ⟨_, rfl⟩
      obtain ⟨yq, hyq⟩ : ∃ k, y / 65536 = k := ⟨_, rfl⟩
      obtain ⟨d2, h2⟩ : ∃ k, y / 4294967296 = k := ⟨_, rfl⟩
      have e3 : (y : Int) % 65536 = (d0 : Int) := by omega
      have e4 : (y : Int) / 65536 = (yq : Int) := by omega
      have e6 : (y : Int) / 4294967296 = (d2 : Int) := by omega
      rw [h0, hyq, h2] at hdd hdv
      obtain ⟨d1, h1⟩ : ∃ k, yq % 65536 = k := ⟨_, rfl⟩
      have e5 : (yq : Int) % 65536 = (d1 : Int) := by omega
      rw [h1] at hdd hdv
      have HDV := Lib.hid hdv
      have HDD := Lib.hid hdd
      have hpb : (0 : Int) < (bn : Int) := by omega
      clear hbn hbd hxn hb2 hpw hpp h35 hy hbh h0 hyq h2 h1 hdv hdd hbw
      go_wp2_with fail
      obtain ⟨W1, hW1⟩ : ∃ W1, wr.alloc (.cells #[.int .u64 d0, .int .u64 d1, .int .u64 d2] 25) = W1 := ⟨_, rfl⟩
      obtain ⟨g, hg⟩ : ∃ g, wr.heap.size = g := ⟨_, rfl⟩
      have HDB : Hid (Blk W1 g 25 #[.int .u64 d0, .int .u64 d1, .int .u64 d2]) := Lib.hid (by rw [← hW1, ← hg]; exact Blk.new wr _ _)
      have hz1 : W1.heap.size = g + 1 := by rw [← hW1, ← hg]; simp
      have HB1 : Hid (Below w.heap.size w W1) := Lib.hid (by rw [← hW1]; exact HBW.out.alloc hsz _)
      have HP3 := Lib.hid (product33 d0 d1 d2 g W1 HDD.out HDB.out)
      rw [HDV.out] at HP3
      rw [hW1, hg]
      rw [hg] at hsz
      clear hW1 hg
      refine HP3.out.mono ?_
      rintro e w2 ⟨P, rfl, hpb, hpl, hpd, hpv, hbw2⟩
      have hz2 := hbw2.size
      have HDB2 : Hid (Blk w2 g 25 #[.int .u64 d0, .int .u64 d1, .int .u64 d2]) := Lib.hid ((hbw2.block g (by omega)).trans HDB.out)
      have HPB := Lib.hid hpb
      have HPL := Lib.hid hpl
      have HPD := Lib.hid hpd
      have HPV0 := Lib.hid hpv
      have HBW := Lib.hid (HB1.out.trans (hbw2.mono HB1.out.size))
      rw [hz1]
      rw [hz1] at HPB
      clear hpb hpl hpd hpv hbw2
      have HPV : Hid (valL P = y ^ 2) := Lib.hid (by rw [HPV0.out, Nat.pow_two])
      -- the power lies at g + 1, of 6 digits; its value is y ^ d
      go_wp2
      go_loopw [10, 11] (fun v i wr => ∃ j wn : Nat, 2 * 2 ≤ j ∧ j ≤ 6 ∧ i = .int .i64 ((j : Int) - 1) ∧ v = .int .u64 wn ∧ Hid (wn = valL (P.drop j)) ∧ wr = w2) (fun _ i _ => (intOf i + 1).toNat)
      case atStart => exact ⟨6, 0, by omega, by omega, by go_num, rfl, Lib.hid (by rw [List.drop_of_length_le (by rw [HPL.out]; exact Nat.le_refl _)]; rfl), rfl⟩
      case round =>
        obtain ⟨j, wn, hj1, hj2, rfl, rfl, hwn, rfl⟩ := hrel
        by_cases hgt : 2 * 2 < j
        · obtain ⟨i, hij⟩ : ∃ i, j = i + 1 := ⟨j - 1, by omega⟩
          have e1 : (j : Int) - 1 = (i : Int) := by omega
          have hi3 : i < P.length := by rw [HPL.out]; omega
          have hcI := HPB.out.num hi3
          have hdv := drop_val P i hi3
          have hbd := drop_bd P HPD.out i 2 (by rw [HPL.out]; omega) (by omega)
          have hpv := digL_getD HPD.out i
          have hww := hwn.out
          rw [hij] at hww
          rw [← hww] at hdv
          obtain ⟨pv, hpvv⟩ : ∃ pv, P.getD i 0 = pv := ⟨_, rfl⟩
          rw [hpvv] at hcI hdv hpv
          obtain ⟨wn', hwn'⟩ : ∃ wn', valL (P.drop i) = wn' := ⟨_, rfl⟩
          rw [hwn'] at hdv hbd
          have HWN := Lib.hid hwn'
          obtain ⟨q, hq⟩ : ∃ q, wn * 65536 = q := ⟨_, rfl⟩
          have g1 : (wn : Int) * 65536 = (q : Int) := by omega
          have g2 : (q : Int) + (pv : Int) = (wn' : Int) := by omega
          have hql : q < 281474976710656 := by omega
          have hj1' : 2 * 2 ≤ i := by omega
          have hiL : i < 6 := by rw [← HPL.out]; exact hi3
          have HJ2 := Lib.hid hj2
          clear hdv hpvv hwn' hww hq hij hi3 hgt hj1 hj2
          go_wp2
          go_roundw
          case rel => exact ⟨i, wn', hj1', by have := HJ2.out; omega, by go_num, rfl, Lib.hid HWN.out.symm, by first | rfl | trivial⟩
          case measure => simp [intOf]; omega
        · have hj3 : j = 2 * 2 := by omega
          subst hj3
          have hwv : wn = y ^ 2 / 65536 ^ (2 * 2) := by rw [hwn.out, valL_drop _ _ HPD.out (by rw [HPL.out]; omega), HPV.out]
          have HWV := Lib.hid hwv
          clear hwv
          by_cases hlt : wn < p
          · have HNX : Hid (bitsDown p 2 m y = bitsDown p 2 36 0) := Lib.hid (by
              have := HBD.out
              rw [if_pos (by rw [← HWV.out]; exact hlt)] at this; exact this)
            go_wp2
            go_roundw
            case rel => exact ⟨m, y, _, rfl, rfl, HBIT.out, by omega, by have := HY2.out; omega, HNX.out, HBW.out⟩
            case measure => simp [intOf]; omega
          · have HNX : Hid (bitsDown p 2 m xn = bitsDown p 2 36 0) := Lib.hid (by
              have := HBD.out
              rw [if_neg (by rw [← HWV.out]; exact hlt)] at this; exact this)
            go_wp2
            go_roundw
            case rel => exact ⟨m, xn, _, rfl, rfl, HBIT.out, by omega, by have := HX2.out; omega, HNX.out, HBW.out⟩
            case measure => simp [intOf]; omega
set_option maxRecDepth 100000 in
set_option maxHeartbeats 4000000 in
theorem fraction3_c (p : Nat) (w : World) (hp : p < 100000) :
    Calls Tryz.prog 44 #[.int .u64 p, .int .i64 3] w fun e w' => e = .returned (.int .u32 (fracN p 3 : Nat)) ∧ Below w.heap.size w w' := by
  have HF : Hid (fracN p 3 = bitsDown p 3 36 0 % 4294967296) := Lib.hid rfl
  obtain ⟨F, hF⟩ : ∃ F, fracN p 3 = F := ⟨_, rfl⟩
  rw [hF] at HF ⊢
  clear hF
  go_enter Tryz.func44, Tryz.ntmps44
  go_wp2
  go_loopw [5, 6] (fun x b wr => FrAt p 3 w x b wr) (fun _ b _ => (intOf b).toNat)
  case atStart => exact ⟨36, 0, 34359738368, rfl, rfl, by decide, by omega, by decide, rfl, Below.refl _ _⟩
  case round =>
    obtain ⟨n, xn, bn, rfl, rfl, hbn, hn, hxn, hbd, hbw⟩ := hrel.ex
    have HBW := Lib.hid hbw
    have hsz := hbw.size
    cases n with
    | zero =>
      obtain rfl : bn = 0 := by simpa using hbn
      have HX : Hid (F = xn % 4294967296) := Lib.hid (by rw [HF.out, ← hbd]; rfl)
      have hxs : xn < 68719476736 := by simp at hxn; omega
      have e1 : ((F : Nat) : Int) = (xn : Int) % 4294967296 := by rw [HX.out]; simp
      have E1 := Lib.hid e1
      clear hbd hxn hbn e1 hbw
      go_wp2
      go_ret
      exact ⟨ret_int E1.out.symm, HBW.out⟩
    | succ m =>
      have hb2 : bn = 2 ^ m := by rw [hbn, Nat.pow_succ]; omega
      have hpw : 2 ^ m ≤ 2 ^ 35 := Nat.pow_le_pow_right (by omega) (by omega)
      have hpp : 0 < 2 ^ m := Nat.pow_pos (by omega)
      rw [Nat.pow_succ] at hxn
      have h35 : (2 : Nat) ^ 35 = 34359738368 := by decide
      obtain ⟨y, hy⟩ : ∃ y, xn + bn = y := ⟨_, rfl⟩
      have HBD : Hid (bitsDown p 3 m (if y ^ 3 / 65536 ^ (2 * 3) < p then y else xn) = bitsDown p 3 36 0) := Lib.hid (by rw [← hbd, ← hy, hb2]; rfl)
      obtain ⟨bh, hbh⟩ : ∃ bh, bn / 2 = bh := ⟨_, rfl⟩
      have HBIT : Hid (bh = 2 ^ m / 2) := Lib.hid (by rw [← hbh, hb2])
      have HY2 : Hid (y + 2 ^ m ≤ 68719476736) := Lib.hid (by omega)
      have HX2 : Hid (xn + 2 ^ m ≤ 68719476736) := Lib.hid (by omega)
      have hys : y < 68719476736 := by omega
      have hbp : 0 < bn := by omega
      have hbs : bn ≤ 34359738368 := by omega
      have hxs : xn < 68719476736 := by omega
      have hm35 : m ≤ 35 := by omega
      have e1 : (xn : Int) + (bn : Int) = (y : Int) := by omega
      have e2 : (bn : Int) / 2 = (bh : Int) := by omega
      have hbhl : bh < bn := by omega
      obtain ⟨hdd, hdv⟩ := dig3 y hys
      obtain ⟨d0, h0⟩ : ∃ k, y % 65536 = k := ⟨_, rfl⟩
      obtain ⟨yq, hyq⟩ : ∃ k, y / 65536 = k := ⟨_, rfl⟩
      obtain ⟨d2, h2⟩ : ∃ k, y / 4294967296 = k := ⟨_, rfl⟩
      have e3 : (y : Int) % 65536 = (d0 : Int) := by omega
      have e4 : (y : Int) / 65536 = (yq : Int) := by omega
      have e6 : (y : Int) / 4294967296 = (d2 : Int) := by omega
      rw [h0, hyq, h2] at hdd hdv
      obtain ⟨d1, h1⟩ : ∃ k, yq % 65536 = k := ⟨_, rfl⟩
      have e5 : (yq : Int) % 65536 = (d1 : Int) := by omega
      rw [h1] at hdd hdv
      have HDV := Lib.hid hdv
      have HDD := Lib.hid hdd
      have hpb : (0 : Int) < (bn : Int) := by omega
      clear hbn hbd hxn hb2 hpw hpp h35 hy hbh h0 hyq h2 h1 hdv hdd hbw
      go_wp2_with fail
      obtain ⟨W1, hW1⟩ : ∃ W1, wr.alloc (.cells #[.int .u64 d0, .int .u64 d1, .int .u64 d2] 25) = W1 := ⟨_, rfl⟩
      obtain ⟨g, hg⟩ : ∃ g, wr.heap.size = g := ⟨_, rfl⟩
      have HDB : Hid (Blk W1 g 25 #[.int .u64 d0, .int .u64 d1, .int .u64 d2]) := Lib.hid (by rw [← hW1, ← hg]; exact Blk.new wr _ _)
      have hz1 : W1.heap.size = g + 1 := by rw [← hW1, ← hg]; simp
      have HB1 : Hid (Below w.heap.size w W1) := Lib.hid (by rw [← hW1]; exact HBW.out.alloc hsz _)
      have HP3 := Lib.hid (product33 d0 d1 d2 g W1 HDD.out HDB.out)
      rw [HDV.out] at HP3
      rw [hW1, hg]
      rw [hg] at hsz
      clear hW1 hg
      refine HP3.out.mono ?_
      rintro e w2 ⟨P, rfl, hpb, hpl, hpd, hpv, hbw2⟩
      have hz2 := hbw2.size
      have HDB2 : Hid (Blk w2 g 25 #[.int .u64 d0, .int .u64 d1, .int .u64 d2]) := Lib.hid ((hbw2.block g (by omega)).trans HDB.out)
      have HPB := Lib.hid hpb
      have HPL := Lib.hid hpl
      have HPD := Lib.hid hpd
      have HPV0 := Lib.hid hpv
      have HBW := Lib.hid (HB1.out.trans (hbw2.mono HB1.out.size))
      rw [hz1]
      rw [hz1] at HPB
      clear hpb hpl hpd hpv hbw2
      have HP9 := Lib.hid (product63 P d0 d1 d2 g (g + 1) w2 HPL.out HPD.out HDD.out HPB.out HDB2.out)
      rw [HDV.out] at HP9
      go_wp2_with fail
      refine HP9.out.mono ?_
      rintro e w3 ⟨Q, rfl, hpb, hpl, hpd, hpv, hbw3⟩
      obtain ⟨g2, hg2⟩ : ∃ g2, w2.heap.size = g2 := ⟨_, rfl⟩
      have HPV : Hid (valL Q = y ^ 3) := Lib.hid (by rw [hpv, HPV0.out, Nat.pow_succ, Nat.pow_two])
      have HBW' := Lib.hid (HBW.out.trans (hbw3.mono HBW.out.size))
      rw [hg2] at hpb ⊢
      have HPB := Lib.hid hpb
      have HPL := Lib.hid hpl
      have HPD := Lib.hid hpd
      have HBW := HBW'
      clear hpb hpl hpd hpv hbw3 hg2
      -- the power lies at g2, of 9 digits; its value is y ^ d
      go_wp2
      go_loopw [10, 11] (fun v i wr => ∃ j wn : Nat, 2 * 3 ≤ j ∧ j ≤ 9 ∧ i = .int .i64 ((j : Int) - 1) ∧ v = .int .u64 wn ∧ Hid (wn = valL (Q.drop j)) ∧ wr = w3) (fun _ i _ => (intOf i + 1).toNat)
      case atStart => exact ⟨9, 0, by omega, by omega, by go_num, rfl, Lib.hid (by rw [List.drop_of_length_le (by rw [HPL.out]; exact Nat.le_refl _)]; rfl), rfl⟩
      case round =>
        obtain ⟨j, wn, hj1, hj2, rfl, rfl, hwn, rfl⟩ := hrel
        by_cases hgt : 2 * 3 < j
        · obtain ⟨i, hij⟩ : ∃ i, j = i + 1 := ⟨j - 1, by omega⟩
          have e1 : (j : Int) - 1 = (i : Int) := by omega
          have hi3 : i < Q.length := by rw [HPL.out]; omega
          have hcI := HPB.out.num hi3
          have hdv := drop_val Q i hi3
          have hbd := drop_bd Q HPD.out i 3 (by rw [HPL.out]; omega) (by omega)
          have hpv := digL_getD HPD.out i
          have hww := hwn.out
          rw [hij] at hww
          rw [← hww] at hdv
          obtain ⟨pv, hpvv⟩ : ∃ pv, Q.getD i 0 = pv := ⟨_, rfl⟩
          rw [hpvv] at hcI hdv hpv
          obtain ⟨wn', hwn'⟩ : ∃ wn', valL (Q.drop i) = wn' := ⟨_, rfl⟩
          rw [hwn'] at hdv hbd
          have HWN := Lib.hid hwn'
          obtain ⟨q, hq⟩ : ∃ q, wn * 65536 = q := ⟨_, rfl⟩
          have g1 : (wn : Int) * 65536 = (q : Int) := by omega
          have g2 : (q : Int) + (pv : Int) = (wn' : Int) := by omega
          have hql : q < 281474976710656 := by omega
          have hj1' : 2 * 3 ≤ i := by omega
          have hiL : i < 9 := by rw [← HPL.out]; exact hi3
          have HJ2 := Lib.hid hj2
          clear hdv hpvv hwn' hww hq hij hi3 hgt hj1 hj2
          go_wp2
          go_roundw
          case rel => exact ⟨i, wn', hj1', by have := HJ2.out; omega, by go_num, rfl, Lib.hid HWN.out.symm, by first | rfl | trivial⟩
          case measure => simp [intOf]; omega
        · have hj3 : j = 2 * 3 := by omega
          subst hj3
          have hwv : wn = y ^ 3 / 65536 ^ (2 * 3) := by rw [hwn.out, valL_drop _ _ HPD.out (by rw [HPL.out]; omega), HPV.out]
          have HWV := Lib.hid hwv
          clear hwv
          by_cases hlt : wn < p
          · have HNX : Hid (bitsDown p 3 m y = bitsDown p 3 36 0) := Lib.hid (by
              have := HBD.out
              rw [if_pos (by rw [← HWV.out]; exact hlt)] at this; exact this)
            go_wp2
            go_roundw
            case rel => exact ⟨m, y, _, rfl, rfl, HBIT.out, by omega, by have := HY2.out; omega, HNX.out, HBW.out⟩
            case measure => simp [intOf]; omega
          · have HNX : Hid (bitsDown p 3 m xn = bitsDown p 3 36 0) := Lib.hid (by
              have := HBD.out
              rw [if_neg (by rw [← HWV.out]; exact hlt)] at this; exact this)
            go_wp2
            go_roundw
            case rel => exact ⟨m, xn, _, rfl, rfl, HBIT.out, by omega, by have := HX2.out; omega, HNX.out, HBW.out⟩
            case measure => simp [intOf]; omega
end Go.Proofs.YtebllmpdlapefaaGreatDoor
