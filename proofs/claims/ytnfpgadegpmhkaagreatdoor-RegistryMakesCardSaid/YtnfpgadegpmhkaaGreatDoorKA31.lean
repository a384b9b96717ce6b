/- rlp.Put: its closure head. -/
import Derived.Test.YtnfpgadegpmhkaaGreatDoorKA30
import Derived.Test.YtnfpgadegpmhkaaGreatDoorKA18
import Derived.Test.YtnfpgadegpmhkaaGreatDoorKA3
set_option linter.unusedVariables false
set_option linter.unusedSimpArgs false
set_option maxRecDepth 100000
set_option maxHeartbeats 1000000
namespace Go.Proofs.YtnfpgadegpmhkaaGreatDoor
open Go.RowKit
theorem info_byteL : (Tryz.prog.info? 5).map (fun i => (i.zero, i.size, i.bytes)) = some (some (.int .u8 0), 1, 1) := by kernel_rfl
theorem info_lay : (Tryz.prog.info? 155).map (fun i => (i.zero, i.size, i.bytes)) = some (some (.agg #[.slice none 0 0, .slice none 0 0]), 2, 48) := by kernel_rfl
theorem head_c (b n base : Nat) (v : Value) (l : List UInt8) (w : World) (hv : Buf w base 5 v l) (hbw : base ≤ w.heap.size) (hb : b ≤ 192) (hn : n ≤ 1099511627776) (hl : l.length ≤ 2199023255552) :
 Calls Tryz.prog 103 #[v, .int .i64 b, .int .i64 n] w fun e w' => ∃ v', e = .returned v' ∧ Buf w' base 5 v' (l ++ rHead b n) ∧ GrB w w' v v' := by
 obtain ⟨i0, hi, hz0, hz1, hz2⟩ := info_parts info_byteL
 have HB := Lib.hid hv
 obtain ⟨A, k, cap, rfl, hk, hkc, hcm⟩ := hv.form'
 clear hv
 by_cases h : n ≤ 55
 ·have HR : Hid (rHead b n = [ub ((b + n : Nat) : Int)]) := Lib.hid (by unfold rHead; rw [if_pos h])
  go_enter Tryz.func103, Tryz.ntmps103
  go_wp2_with
   (at_builtin; refine wpList_append_bufO (by rfl) (.tmp 10) (.tmp 15) 117 117 (by rfl) base 5 i0 Tryz.underlying117 hi hz0 hz1 hz2 (by rfl) (HB.out.alloc _) _ [ub ((b + n : Nat) : Int)] (by rfl) (src_lit Tryz.underlying117 _ 5 _ _ 1 _ (by simp only [World.size_alloc]) (cb_ub1 (by omega) (by omega))) (by simp only [World.size_alloc]; omega) (by simp only [List.length_cons, List.length_nil]; omega) ?_)
  intro A1 n1 cap1 w1 hb1 hg1
  have HB1 := Lib.hid hb1
  have HG1 := Lib.hid hg1
  clear hb1 hg1
  go_wp2
  go_ret
  exact ⟨_, rfl, by rw [HR.out]; exact HB1.out, HG1.out.ahead blw⟩
 ·obtain ⟨T, hT⟩ : ∃ T : ByteArray, (⟨(minL n).toArray⟩ : ByteArray) = T := ⟨_, rfl⟩
  have hTL : T.data.toList = minL n := by rw [← hT]
  have hTz : T.size ≤ 8 := by rw [← hT, size_of]; exact minL_length 8 n (by omega)
  have HR : Hid (rHead b n = ub ((b + 55 + T.size : Nat) : Int) :: T.data.toList) := Lib.hid (by unfold rHead; rw [if_neg h, hTL, ← toList_size, hTL])
  have HL := Lib.hid (fun w => least_c n w (by omega))
  rw [hT] at HL
  clear hT hTL
  go_enter Tryz.func103, Tryz.ntmps103
  go_wp2_with fail
  refine (HL.out _).mono ?_
  rintro e w1 ⟨rfl, hb1⟩
  have hw1 := hb1.size
  have HB1 := Lib.hid (HB.out.below hb1)
  have HBL := Lib.hid hb1
  clear hb1
  go_wp2_with
   (at_builtin; refine wpList_append_bufO (by rfl) (.tmp 20) (.tmp 27) 117 117 (by rfl) base 5 i0 Tryz.underlying117 hi hz0 hz1 hz2 (by rfl) (HB1.out.alloc _) _ [ub ((b + 55 + T.size : Nat) : Int)] (by rfl) (src_lit Tryz.underlying117 _ 5 _ _ 1 _ (by simp only [World.size_alloc]) (cb_ub1 (by omega) (by omega))) (by simp only [World.size_alloc]; omega) (by simp only [List.length_cons, List.length_nil]; omega) ?_)
  intro A2 n2 cap2 w2 hb2 hg2
  have hz2' := hg2.size
  simp only [World.size_alloc] at hz2'
  have HB2 := Lib.hid hb2
  have HG2 := Lib.hid hg2
  clear hb2 hg2
  go_wp2_with
   (at_builtin; refine wpList_append_bufO (by rfl) (.tmp 28) (.tmp 29) 117 9 (by rfl) base 5 i0 Tryz.underlying117 hi hz0 hz1 hz2 (by rfl) HB2.out _ T.data.toList (by rfl) (src_str Tryz.underlying9 _ T) (by omega) (by rw [toList_size]; simp only [List.length_append, List.length_cons, List.length_nil]; omega) ?_)
  intro A3 n3 cap3 w3 hb3 hg3
  have HB3 := Lib.hid hb3
  have HG3 := Lib.hid hg3
  clear hb3 hg3
  go_wp2
  go_ret
  refine ⟨_, rfl, ?_, ?_⟩
  ·have := HB3.out
   rw [HR.out]
   simpa using this
  ·exact (HG2.out.ahead (HBL.out.trans (((Below.refl _ w1).alloc (Nat.le_refl _) _).mono hw1))).trans HG3.out
theorem wpList_append_lay {w : World} {ops : Array Oper} {rest : List Oper} {o : Oper} {a : Act} {Q : Exit → Act → World → Prop} (hgd : o.guard = none) (s x : Operand)
 (ho : o.op = .call { callee := .builtin .append, args := #[s, x], argTypes := #[156, 156] }) {S g cap n : Nat} {fs : List (List It × List UInt8)} {vs : List (Value × Value)} (hL : Lay w S g cap fs vs) (hS : S ≤ w.heap.size) (hn : n = fs.length) (hs : a.eval s = .slice (some ⟨g, 0, none⟩) n cap)
 {sub : List It} {A : Option Addr} {c : Nat} (hc : sub.length ≤ c) (hc2 : c ≤ 9223372036854775807) (hI : ItsIn w S sub A 0) (B : Nat) (hx : a.eval x = .slice (some ⟨B, 0, none⟩) 1 1) (hx0 : w.cell? ⟨B, 0, none⟩ = some (.slice A sub.length c)) (hx1 : w.cell? ⟨B, 1, none⟩ = some (.slice none 0 0)) (hlen : fs.length ≤ 1099511627777)
 (hK : ∀ g' n' cap' w', Hid (n' = fs.length + 1) → Hid (Lay w' S g' cap' ((sub, []) :: fs) ((.slice A sub.length c, .slice none 0 0) :: vs)) → Hid (w.grownBy w' (some g)) → wpList Tryz.prog ops Q rest (a.put o.dst (.slice (some ⟨g', 0, none⟩) n' cap')) w') : wpList Tryz.prog ops Q (o :: rest) a w := by
 subst hn
 obtain ⟨i1, hi1, hzz0, hzz1, hzz2⟩ := info_parts info_lay
 refine wpList_append_lies w hgd s x 156 ho S 155 i1 _ 2 48 Tryz.underlying156 hi1 hzz0 hzz1 hzz2 rfl (by decide) _ fs.length (flatV vs) hs hL.row ⟨B, 0, none⟩ 1 1 [.slice A sub.length c, .slice none 0 0] hx rfl ?_ ?_ (by decide) (by simp only [maxLen]; omega) (by omega) hS w.heap.size rfl ?_
 ·intro j u hu
  have e1 : ∀ j, (⟨B, 0, none⟩ : Addr).add j = ⟨B, j, none⟩ := by intro j; unfold Addr.add; split <;> simp_all
  rw [e1]
  match j, hu with
  | 0, hu => simp at hu; subst hu; exact hx0
  | 1, hu => simp at hu; subst hu; exact hx1
 ·intro u hu
  simp at hu
  rcases hu with rfl | rfl <;> rfl
 ·intro g' cap' w' hown hgr _ _
  exact hK g' _ cap' w' (Lib.hid rfl) (Lib.hid (hL.push hS hc hc2 hI hown hgr)) (Lib.hid hgr)
end Go.Proofs.YtnfpgadegpmhkaaGreatDoor
