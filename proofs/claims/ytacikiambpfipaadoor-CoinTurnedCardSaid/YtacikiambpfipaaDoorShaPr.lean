/- The document's product of two numbers, digit by digit. -/
import Derived.Test.YtacikiambpfipaaDoorSha
import Derived.Test.YtacikiambpfipaaDoorShaKP
import Derived.Test.YtacikiambpfipaaDoorBufR
import Derived.LoopTactic
import Derived.Deep.OwnRows
import Derived.Deep.QuietTactic
import Derived.BigQuiet
import Derived.IntWalk
namespace Go.Proofs.YtacikiambpfipaaDoor
set_option linter.unusedVariables false
set_option linter.unusedSimpArgs false
open Go.RowKit

/-- Numbers as cells. -/
def nc (l : List Nat) : Array Value := (l.map fun n => Value.int .u64 (n : Nat)).toArray
theorem nc_size (l : List Nat) : (nc l).size = l.length := by simp [nc]
theorem nc_at (l : List Nat) (i : Nat) (h : i < l.length) : (nc l)[i]? = some (.int .u64 (l.getD i 0 : Nat)) := by
  simp [nc, List.getD_eq_getElem?_getD, List.getElem?_eq_getElem h]
theorem nc_set (l : List Nat) (i v : Nat) : (nc l).setIfInBounds i (.int .u64 (v : Nat)) = nc (l.set i v) := by
  simp [nc]
theorem Blk.num {w : World} {g : Nat} {t : TypeId} {l : List Nat} (h : Blk w g t (nc l)) {i : Nat} (hi : i < l.length) : w.cell? ⟨g, i, none⟩ = some (.int .u64 (l.getD i 0 : Nat)) := (h.cell i).trans (nc_at l i hi)
theorem Blk.putNum {w : World} {g : Nat} {t : TypeId} {l : List Nat} (h : Blk w g t (nc l)) (i v : Nat) : Blk (w.setCell ⟨g, i, none⟩ (.int .u64 (v : Nat))) g t (nc (l.set i v)) := h.store (nc_set l i v)
theorem info_u64 : (Tryd.prog.info? 39).map (fun i => (i.zero, i.size, i.bytes)) = some (some (.int .u64 0), 1, 8) := by kernel_rfl
theorem made_nums (n : Nat) : madeCells #[Value.int .u64 0] n = nc (List.replicate n 0) := by
  apply Array.ext'
  apply List.ext_getElem
  · simp [nc, madeCells]
  · intro i h1 h2
    simp [nc, madeCells, show i % 1 = 0 by omega]
theorem valL_take_le (l : List Nat) (i : Nat) : valL (l.take i) ≤ valL l := by
  have := valL_append (l.take i) (l.drop i)
  rw [List.take_append_drop] at this
  omega
theorem digL_take {l : List Nat} (h : digL l) (i : Nat) : digL (l.take i) := fun d hd => h d (List.mem_of_mem_take hd)
theorem prod_bd (a b : List Nat) (ha : digL a) (hb : digL b) (i k : Nat) (hi : i < a.length) : valL (a.take i) * valL b + a.getD i 0 * 65536 ^ i * valL (b.take k) < 65536 ^ (a.length + b.length) := by
  have h1 := valL_take a i hi
  have h2 := valL_take_le b k
  have h3 := valL_take_le a (i + 1)
  have h4 := mul_lt_pow (valL_lt a ha) (valL_lt b hb)
  have h5 : a.getD i 0 * 65536 ^ i * valL (b.take k) ≤ a.getD i 0 * 65536 ^ i * valL b := Nat.mul_le_mul_left _ h2
  have h6 : valL (a.take (i + 1)) * valL b ≤ valL a * valL b := Nat.mul_le_mul_right _ h3
  rw [h1, Nat.add_mul] at h6
  omega
theorem prod_next (a b : List Nat) (i k : Nat) (hk : k < b.length) : valL (a.take i) * valL b + a.getD i 0 * 65536 ^ i * valL (b.take k) + a.getD i 0 * b.getD k 0 * 65536 ^ (i + k) = valL (a.take i) * valL b + a.getD i 0 * 65536 ^ i * valL (b.take (k + 1)) := by
  rw [valL_take b k hk, Nat.mul_add, Nat.pow_add]
  have : a.getD i 0 * b.getD k 0 * (65536 ^ i * 65536 ^ k) = a.getD i 0 * 65536 ^ i * (b.getD k 0 * 65536 ^ k) := by
    simp only [Nat.mul_assoc, Nat.mul_left_comm, Nat.mul_comm]
  omega
/-- What the product tells. -/
def PrEnd (a b : List Nat) (w : World) (e : Ending) (w' : World) : Prop :=
  ∃ p, e = .returned (.slice (some ⟨w.heap.size, 0, none⟩) (a.length + b.length) (a.length + b.length)) ∧ Blk w' w.heap.size 39 (nc p) ∧ p.length = a.length + b.length ∧ digL p ∧ valL p = valL a * valL b ∧ Below w.heap.size w w'
structure PrAt (w : World) (N V : Nat) (p : List Nat) (wr : World) : Prop where
  blk : Blk wr w.heap.size 39 (nc p)
  len : p.length = N
  dig : digL p
  below : Below w.heap.size w wr
  val : valL p = V
structure PrIn (w : World) (N T : Nat) (x m : Value) (wr : World) : Prop where
  ex : ∃ (p : List Nat) (xn mn : Nat), x = .int .u64 xn ∧ m = .int .i64 mn ∧ xn < 8589934592 ∧ mn ≤ N ∧ Blk wr w.heap.size 39 (nc p) ∧ p.length = N ∧ digL p ∧ Below w.heap.size w wr ∧ valL p + xn / 65536 * 65536 ^ mn = T
set_option maxRecDepth 100000 in
set_option maxHeartbeats 4000000 in
theorem product_c (a b : List Nat) (ga gb : Nat) (w : World) (ha : digL a) (hb : digL b) (hla : a.length ≤ 20) (hlb : b.length ≤ 20) (hA : Blk w ga 39 (nc a)) (hB : Blk w gb 39 (nc b)) :
    Calls Tryd.prog 112 #[.slice (some ⟨ga, 0, none⟩) a.length a.length, .slice (some ⟨gb, 0, none⟩) b.length b.length] w (PrEnd a b w) := by
  obtain ⟨i0, hi, hz0, hz1, hz2⟩ := info_parts info_u64
  obtain ⟨la, hea⟩ : ∃ la, a.length = la := ⟨_, rfl⟩
  obtain ⟨lb, heb⟩ : ∃ lb, b.length = lb := ⟨_, rfl⟩
  obtain ⟨N, hN⟩ : ∃ N, la + lb = N := ⟨_, rfl⟩
  have eN : (la : Int) + (lb : Int) = (N : Int) := by omega
  have HEA := Lib.hid hea
  have HEB := Lib.hid heb
  have HEN := Lib.hid hN
  rw [hea] at hla ⊢
  rw [heb] at hlb ⊢
  have hN40 : N ≤ 40 := by omega
  have HAA := Lib.hid hA
  have HBB := Lib.hid hB
  have hgal := hA.lt
  have hgbl := hB.lt
  clear hea heb hN hA hB
  go_enter Tryd.func112, Tryd.ntmps112
  go_wp2_with (at_make; refine wpList_make_row _ (by rfl) _ _ 146 (by rfl) 39 i0 (.int .u64 0) Tryd.underlying146 hi hz0 hz1 (by rfl) .i64 .i64 N (by rfl) (by rfl) (by rw [hz2]; omega) (by omega) ?_)
  obtain ⟨W0, hW0⟩ : ∃ W0, w.alloc (.cells (madeCells #[Value.int .u64 0] N) 39) = W0 := ⟨_, rfl⟩
  have HS0 : Hid (PrAt w N (valL (a.take 0) * valL b) (List.replicate N 0) W0) := Lib.hid (by
    rw [← hW0, made_nums]
    exact ⟨Blk.new w _ _, by simp, digL_rep N, (Below.refl _ w).alloc (Nat.le_refl _) _, by rw [valL_rep]; simp [valL]⟩)
  rw [hW0]
  clear hW0
  go_loopw [6] (fun i wr => ∃ (k : Nat) (p : List Nat), k ≤ la ∧ i = .int .i64 k ∧ PrAt w N (valL (a.take k) * valL b) p wr) (fun i _ => la - (intOf i).toNat)
  case atStart => exact ⟨0, _, by omega, rfl, HS0.out⟩
  case round =>
    obtain ⟨i, p, hi', rfl, hP⟩ := hrel
    have HP := Lib.hid hP
    clear hP
    by_cases hil : i < la
    · obtain ⟨T, hT⟩ : ∃ T, valL (a.take i) * valL b = T := ⟨_, rfl⟩
      have HT := Lib.hid hT
      obtain ⟨av, hav⟩ : ∃ av, a.getD i 0 = av := ⟨_, rfl⟩
      have HAV := Lib.hid hav
      have havl : av < 65536 := by rw [← hav]; exact digL_getD ha i
      have hcA : w.cell? ⟨ga, i, none⟩ = some (.int .u64 av) := by rw [← hav]; exact HAA.out.num (by rw [HEA.out]; exact hil)
      rw [hT] at HP
      have HP0 : Hid (PrAt w N (T + av * 65536 ^ i * valL (b.take 0)) p wr) := Lib.hid ⟨HP.out.blk, HP.out.len, HP.out.dig, HP.out.below, by rw [HP.out.val]; simp [valL]⟩
      clear hT hav HP
      go_wp2
      go_loopw [7] (fun j wr => ∃ (k : Nat) (p : List Nat), k ≤ lb ∧ j = .int .i64 k ∧ PrAt w N (T + av * 65536 ^ i * valL (b.take k)) p wr) (fun j _ => lb - (intOf j).toNat)
      case atStart => exact ⟨0, _, by omega, rfl, HP0.out⟩
      case round =>
        obtain ⟨k, p, hk', rfl, hP⟩ := hrel
        have HP := Lib.hid hP
        clear hP HP0
        by_cases hkl : k < lb
        · obtain ⟨bv, hbv⟩ : ∃ bv, b.getD k 0 = bv := ⟨_, rfl⟩
          obtain ⟨j, hj⟩ : ∃ j, i + k = j := ⟨_, rfl⟩
          obtain ⟨ov, hov⟩ : ∃ ov, p.getD j 0 = ov := ⟨_, rfl⟩
          obtain ⟨y, hy⟩ : ∃ y, av * bv = y := ⟨_, rfl⟩
          obtain ⟨x, hx⟩ : ∃ x, ov + y = x := ⟨_, rfl⟩
          have hbvl : bv < 65536 := by rw [← hbv]; exact digL_getD hb k
          have hovl : ov < 65536 := by rw [← hov]; exact digL_getD HP.out.dig j
          have hyl : y ≤ 65535 * 65535 := by rw [← hy]; exact Nat.mul_le_mul (by omega) (by omega)
          have hxl : x < 8589934592 := by omega
          have hjN : j < N := by have := HEN.out; omega
          have hjp : j < p.length := by rw [HP.out.len]; exact hjN
          have hb0 := HP.out.below
          have hcA' : wr.cell? ⟨ga, i, none⟩ = some (.int .u64 av) := (hb0.cell (p := ⟨ga, i, none⟩) hgal).trans hcA
          have hcB' : wr.cell? ⟨gb, k, none⟩ = some (.int .u64 bv) := (hb0.cell (p := ⟨gb, k, none⟩) hgbl).trans (by rw [← hbv]; exact HBB.out.num (by rw [HEB.out]; exact hkl))
          have hcO : wr.cell? ⟨w.heap.size, j, none⟩ = some (.int .u64 ov) := by rw [← hov]; exact HP.out.blk.num hjp
          have hfO := HP.out.blk.frozen j
          have g0 : (i : Int) + (k : Int) = (j : Int) := by omega
          have g1 : IntKind.i64.wrap ((i : Int) + (k : Int)) = (j : Int) := by rw [g0]; exact IntWalk.i64_in _ (by omega)
          have g2 : (av : Int) * (bv : Int) = (y : Int) := by rw [← hy]; simp
          have g3 : IntKind.u64.wrap ((av : Int) * (bv : Int)) = (y : Int) := by rw [g2]; exact IntWalk.u64_in _ (by omega)
          have g4 : (ov : Int) + (y : Int) = (x : Int) := by omega
          have g5 : IntKind.u64.wrap ((ov : Int) + (y : Int)) = (x : Int) := by rw [g4]; exact IntWalk.u64_in _ (by omega)
          obtain ⟨T', hT'⟩ : ∃ T', T + av * 65536 ^ i * valL (b.take (k + 1)) = T' := ⟨_, rfl⟩
          have HT'l : Hid (T' < 65536 ^ N) := Lib.hid (by
            have := prod_bd a b ha hb i (k + 1) (by rw [HEA.out]; exact hil)
            rw [HT.out, HAV.out, hT', HEA.out, HEB.out, HEN.out] at this; exact this)
          have ex : ((x % 65536 : Nat) : Int) = (x : Int) % 65536 := by simp
          have EX := Lib.hid ex
          clear ex
          have HI : Hid (∀ nq, PrIn w N T' (.int .u64 x) (.int .i64 ((j : Int) + 1)) ((wr.drewN nq).setCell ⟨w.heap.size, j, none⟩ (.int .u64 ((x : Int) % 65536)))) := Lib.hid (fun nq => by
            rw [← EX.out]
            refine ⟨p.set j (x % 65536), x, j + 1, rfl, rfl, hxl, by omega, (HP.out.blk.drewN nq).putNum j _, by rw [List.length_set]; exact HP.out.len, digL_set HP.out.dig _ _ (by omega), (HP.out.below.drewN' nq).setCell (by simp) _, ?_⟩
            have h1 := mul_step (y := y) hjp HP.out.val
            rw [hov, hx] at h1
            rw [h1, ← hT', ← hy]
            have h2 := prod_next a b i k (by rw [HEB.out]; exact hkl)
            rw [HT.out, HAV.out, hbv, hj] at h2
            exact h2)
          have HT' := Lib.hid hT'
          clear hT' hbv hov hy hx hj hcA hb0 HP
          go_wp2
          go_quiet (fail)
          go_wp2
          go_loopw [8, 9] (fun x m wr => PrIn w N T' x m wr) (fun _ m _ => N - (intOf m).toNat)
          case atStart => exact HI.out nq
          case round =>
            obtain ⟨p, xn, mn, rfl, rfl, hxn, hmn, hblk, hpl, hpd, hbel, hval⟩ := hrel.ex
            clear hcA' hcB' hcO hfO
            by_cases hge : 65536 ≤ xn
            · have hmN : mn < N := carry_in (by omega) hval HT'l.out
              have hcM : wr.cell? ⟨w.heap.size, mn, none⟩ = some (.int .u64 (p.getD mn 0 : Nat)) := hblk.num (by omega)
              have hfM := hblk.frozen mn
              have hpm := digL_getD hpd mn
              have HC := Lib.hid (carry_step (m := mn) (by omega : mn < p.length) hval)
              obtain ⟨pm, hpmm⟩ : ∃ pm, p.getD mn 0 = pm := ⟨_, rfl⟩
              rw [hpmm] at hcM hpm HC
              obtain ⟨q, hq⟩ : ∃ q, xn / 65536 = q := ⟨_, rfl⟩
              have e1 : (xn : Int) / 65536 = (q : Int) := by omega
              obtain ⟨x', hx'⟩ : ∃ x', q + pm = x' := ⟨_, rfl⟩
              have e2 : (q : Int) + (pm : Int) = (x' : Int) := by omega
              have hx'l : x' < 8589934592 := by omega
              rw [hq, hx'] at HC
              have ex : ((x' % 65536 : Nat) : Int) = (x' : Int) % 65536 := by simp
              have HN : Hid (PrIn w N T' (.int .u64 x') (.int .i64 ((mn : Int) + 1)) (wr.setCell ⟨w.heap.size, mn, none⟩ (.int .u64 ((x' : Int) % 65536)))) := Lib.hid (by
                rw [← ex]
                exact ⟨p.set mn (x' % 65536), x', mn + 1, rfl, rfl, hx'l, by omega, hblk.putNum mn _, by rw [List.length_set]; exact hpl, digL_set hpd _ _ (by omega), hbel.setCell (by simp) _, HC.out⟩)
              have d1 : decide ((65536 : Int) ≤ (xn : Int)) = true := decide_eq_true (by omega)
              have HGE := Lib.hid hge
              clear hblk hbel hval hq hx' ex hpmm HC hge hxn
              go_wp2
              go_roundw
              case rel => exact HN.out
              case measure => simp [intOf]; omega
            · have HN : Hid (PrAt w N (T + av * 65536 ^ i * valL (b.take (k + 1))) p wr) := Lib.hid ⟨hblk, hpl, hpd, hbel, by
                have : xn / 65536 = 0 := by omega
                rw [this, Nat.zero_mul, Nat.add_zero] at hval
                rw [hval, HT'.out]⟩
              have d1 : decide ((65536 : Int) ≤ (xn : Int)) = false := decide_eq_false (by omega)
              clear hblk hbel hval hge hxn
              go_wp2
              go_roundw
              case rel => exact ⟨k + 1, p, by omega, by go_num, HN.out⟩
              case measure => simp [intOf]; omega
        · have HN : Hid (PrAt w N (valL (a.take (i + 1)) * valL b) p wr) := Lib.hid ⟨HP.out.blk, HP.out.len, HP.out.dig, HP.out.below, by
            rw [HP.out.val, List.take_of_length_le (by rw [HEB.out]; omega), valL_take a i (by rw [HEA.out]; exact hil), Nat.add_mul, HT.out, HAV.out]⟩
          clear HP hcA
          go_wp2
          go_roundw
          case rel => exact ⟨i + 1, p, by omega, by go_num, HN.out⟩
          case measure => simp [intOf]; omega
    · have HN : Hid (valL p = valL a * valL b) := Lib.hid (by rw [HP.out.val, List.take_of_length_le (by rw [HEA.out]; omega)])
      go_wp2
      go_ret
      exact ⟨p, by rw [HEA.out, HEB.out, HEN.out]; rfl, HP.out.blk, by rw [HP.out.len, HEA.out, HEB.out, HEN.out], HP.out.dig, HN.out, HP.out.below⟩
end Go.Proofs.YtacikiambpfipaaDoor
