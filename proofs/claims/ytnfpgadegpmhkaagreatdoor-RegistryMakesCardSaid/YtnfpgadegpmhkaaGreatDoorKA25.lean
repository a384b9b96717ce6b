/- Package typed: Fits. -/
import Derived.Test.YtnfpgadegpmhkaaGreatDoorKA20
import Derived.Test.YtnfpgadegpmhkaaGreatDoorKA22
import Derived.Test.YtnfpgadegpmhkaaGreatDoorKA5
import Derived.Deep.RegionHeld3
import Derived.Test.YtnfpgadegpmhkaaGreatDoorKA3
set_option linter.unusedVariables false
set_option linter.unusedSimpArgs false
set_option maxRecDepth 100000
set_option maxHeartbeats 3200000
namespace Go.Proofs.YtnfpgadegpmhkaaGreatDoor
open Go.RowKit
def atWay (k : Int) (i j : Nat) : Prop := (k = 4 ∧ j = 0) ∨ (k ≠ 4 ∧ j = i)
theorem within_c (k z ta : Int) (b o n cap i j : Nat) (k' z' ta' : Int) (A' : Option Addr) (n' cap' : Nat) (w : World) (hj : atWay k i j) (hjn : j < n) (hn : n ≤ 9223372036854775807) (hb : b < w.heap.size)
 (e0 : w.cell? ⟨b, o + j * 4, none⟩ = some (.int .i64 k')) (e1 : w.cell? ⟨b, o + j * 4 + 1, none⟩ = some (.int .i64 z')) (e2 : w.cell? ⟨b, o + j * 4 + 2, none⟩ = some (.slice A' n' cap')) (e3 : w.cell? ⟨b, o + j * 4 + 3, none⟩ = some (.int .i64 ta')) :
 Calls Tryz.prog 100 #[.agg #[.int .i64 k, .int .i64 z, .slice (some ⟨b, o, none⟩) n cap, .int .i64 ta], .int .i64 i] w fun e w' => e = .returned (.agg #[.int .i64 k', .int .i64 z', .slice A' n' cap', .int .i64 ta']) ∧ Below w.heap.size w w' := by
 rcases hj with ⟨rfl, rfl⟩ | ⟨hk, rfl⟩
 ·simp only [Nat.zero_mul, Nat.add_zero] at e0 e1 e2 e3
  go_enter Tryz.func100, Tryz.ntmps100
  go_wp2
  refine bodyPost_ret (v := .agg #[.int .i64 k', .int .i64 z', .slice A' n' cap', .int .i64 ta']) (by simp [results, Tryz.results100, go_sem]) rfl ⟨rfl, ?_⟩
  first | exact blw | trace_state
 ·have hk4 : (k == 4) = false := beq_eq_false_iff_ne.2 hk
  clear hk
  go_enter Tryz.func100, Tryz.ntmps100
  go_wp2
  refine bodyPost_ret (v := .agg #[.int .i64 k', .int .i64 z', .slice A' n' cap', .int .i64 ta']) (by simp [results, Tryz.results100, go_sem]) rfl ⟨rfl, ?_⟩
  first | exact blw | trace_state
def atI (k : Int) (i : Nat) : Nat := if k = 4 then 0 else i
structure FV (w : World) (ob fb g : Nat) : Prop where
 of_ : Blk w ob 145 #[.map (some g)]
 fn : Blk w fb 122 #[.func (.func 99) #[] #[.pointer (some ⟨ob, 0, none⟩), .pointer (some ⟨fb, 0, none⟩)]]
 mp : w.heap[g]? = some (.map kEs.toArray 5)
theorem FV.keep {w w' : World} {ob fb g B : Nat} (h : FV w ob fb g) (hb : Below B w w') (h1 : ob < B) (h2 : fb < B) (h3 : g < B) : FV w' ob fb g := ⟨h.of_.keep hb h1, h.fn.keep hb h2, (hb.block g h3).trans h.mp⟩
theorem FV.lt {w : World} {ob fb g : Nat} (h : FV w ob fb g) : ob < w.heap.size ∧ fb < w.heap.size ∧ g < w.heap.size := ⟨h.of_.lt, h.fn.lt, lt_of_block h.mp⟩
theorem FV.below {w w' : World} {ob fb g : Nat} (h : FV w ob fb g) (hb : Below w.heap.size w w') : FV w' ob fb g := h.keep hb h.lt.1 h.lt.2.1 h.lt.2.2
theorem itright_at {t : ByteArray} {l : Bool} {s : List It} (h : (It.mk t l s).right = true) (k : Nat) (hk : k < s.length) : s[k].right = true := by
 simp only [It.right, Bool.and_eq_true] at h
 have : ∀ s : List It, rightL s = true → ∀ (k : Nat) (hk : k < s.length), s[k].right = true := by
  intro s
  induction s with
  | nil => intro _ k hk; simp at hk
  | cons x xs ih =>
   intro h k hk
   simp only [rightL, Bool.and_eq_true] at h
   cases k with
   | zero => exact h.1
   | succ k => simpa using ih h.2 k (by simpa using hk)
 exact this s h.2 k hk
theorem is1_1 (z : Int) (l : List Ty) (ta : Int) (tx : ByteArray) (b : Bool) (m : Nat) : (!b && decide ((tx.size : Int) ≤ z) && !lead0 tx.data.toList) = is1 (Ty.mk 1 z l ta) tx b m := rfl
theorem is1_2 (z : Int) (l : List Ty) (ta : Int) (tx : ByteArray) (b : Bool) (m : Nat) : (!b && decide ((tx.size : Int) = z)) = is1 (Ty.mk 2 z l ta) tx b m := rfl
theorem is1_3 (z : Int) (l : List Ty) (ta : Int) (tx : ByteArray) (b : Bool) (m : Nat) : (!b && decide ((tx.size : Int) ≤ z)) = is1 (Ty.mk 3 z l ta) tx b m := rfl
theorem is1_4 (z : Int) (l : List Ty) (ta : Int) (tx : ByteArray) (b : Bool) (m : Nat) : (b && decide ((m : Int) ≤ z)) = is1 (Ty.mk 4 z l ta) tx b m := rfl
theorem is1_5 (z : Int) (l : List Ty) (ta : Int) (tx : ByteArray) (b : Bool) (m : Nat) : (b && decide (m ≤ l.length) && decide ((l.length : Int) - ta ≤ m)) = is1 (Ty.mk 5 z l ta) tx b m := rfl
theorem text_nil {k z : Int} {l : List Ty} {ta : Int} {tx : ByteArray} {b : Bool} {s : List It} (h1 : is1 (Ty.mk k z l ta) tx b s.length = true) (hr : (It.mk tx b s).right = true) (hk : k = 1 ∨ k = 2 ∨ k = 3) : s = [] := by
 have hb : b = false := by
  cases b with
  | false => rfl
  | true => rcases hk with rfl | rfl | rfl <;> simp [is1] at h1
 subst hb
 simp only [It.right, Bool.and_eq_true] at hr
 exact List.eq_nil_of_length_eq_zero (by simpa [formed] using hr.1)
theorem fitsC_c : ∀ (x : It) (B : Nat) (w : World) (c0 c1 c2 : Value), ItIn w B x c0 c1 c2 → B ≤ w.heap.size → x.right = true → ∀ (ty : Ty) (t0 t1 t2 t3 : Value), TyIn w B ty t0 t1 t2 t3 → ty.right = true → ∀ ob fb g, FV w ob fb g →
 Calls Tryz.prog 99 #[.agg #[t0, t1, t2, t3], .agg #[c0, c1, c2], .pointer (some ⟨ob, 0, none⟩), .pointer (some ⟨fb, 0, none⟩)] w fun e w' => e = .returned (.bool (x.isOf ty)) ∧ Below w.heap.size w w' := by
 intro x
 induction x using It.ind with
 | h t l s ih =>
  intro B w c0 c1 c2 h hB hr ty t0 t1 t2 t3 hT htr ob fb g hV
  obtain ⟨rfl, rfl, ht, hs, A, cap, rfl, hcap, hcm, hsub⟩ := h
  have IH := Lib.hid ih
  have HS := Lib.hid hsub
  clear ih hsub
  obtain ⟨k, z, tl, ta⟩ := ty
  obtain ⟨rfl, rfl, rfl, hk, hz, hta, htl, A', cap', rfl, htc, htm, htys⟩ := hT
  obtain ⟨hok, hrt⟩ := right_ok htr
  have HRT := Lib.hid hr
  have HTS := Lib.hid htys
  have HTR := Lib.hid hrt
  have HR : Hid ((It.mk t l s).isOf (Ty.mk k z tl ta) = (is1 (Ty.mk k z tl ta) t l s.length && isOfL s (Ty.mk k z tl ta) 0)) := Lib.hid (by simp only [It.isOf])
  generalize (It.mk t l s).isOf (Ty.mk k z tl ta) = R at *
  unfold okI at hk hz hta
  clear hr htys hrt htr
  rcases ok_ways hok with ⟨rfl, h3, hn, rfl⟩ | ⟨rfl, h3, h4, hn, rfl⟩ | ⟨rfl, h3, h4, hn, rfl⟩ | ⟨rfl, h3, h4, hn, rfl⟩ | ⟨rfl, rfl, h4, h5, h6⟩
  ·have HNL := Lib.hid hn
   clear hok IH HS hn
   have HLK := Lib.hid (run_getI (w := ((w.alloc (.cells #[.int .i64 1, .int .i64 z, .slice A' tl.length cap', .int .i64 0] 55)).alloc (.cells #[.string t, .bool l, .slice A s.length cap] 28))) (es := kEs) (c := 5) (((hV.below ((Below.refl _ _).alloc (Nat.le_refl _) _)).below ((Below.refl _ _).alloc (Nat.le_refl _) _)).mp) 1 _ _ rfl)
   have hlk := HLK.out
   simp only [kUint, kFixed, kBytes, kList, kStruct] at hlk
   have hf : ∀ w, (Instr.field 149 (.agg #[.func (.func 131) #[] #[], .func (.func 129) #[] #[]]) 0).run Tryz.prog w = .ok (.func (.func 131) #[] #[]) w := fun _ => by kernel_rfl
   have h0f : w.cell? ⟨ob, 0, none⟩ = some (.map (some g)) := hV.of_.cell 0
   have hl1 := hV.lt.1
   obtain ⟨b1, hb1⟩ : ∃ b1, is1 (Ty.mk 1 z tl 0) t l s.length = b1 := ⟨_, rfl⟩
   have HB1 := Lib.hid hb1
   have HV := Lib.hid hV
   clear hb1 hV HLK
   go_enter Tryz.func99, Tryz.ntmps99
   go_wp2_with fail
   refine (fitU_c 1 z 0 _ t l _ _ ht (by omega)).mono ?_
   rintro e w1 ⟨rfl, hb⟩
   have hbx := hb
   simp only [World.size_alloc] at hbx
   have HBW : Hid (Below w.heap.size w w1) := Lib.hid (((Below.refl w.heap.size w).alloc (Nat.le_refl _) _ |>.alloc (by simp) _).trans (hbx.mono (by omega)))
   have M1 : Hid (Blk w1 w.heap.size 55 #[.int .i64 1, .int .i64 z, .slice A' tl.length cap', .int .i64 0]) := Lib.hid (((Blk.new w _ _).alloc _).only (Only.of_below hb (Nat.le_refl _)) (by simp))
   have M2 : Hid (Blk w1 (w.heap.size + 1) 28 #[.string t, .bool l, .slice A s.length cap]) := Lib.hid ((show Blk _ (w.heap.size + 1) _ _ from by have := Blk.new (w.alloc (.cells #[.int .i64 1, .int .i64 z, .slice A' tl.length cap', .int .i64 0] 55)) 28 #[.string t, .bool l, .slice A s.length cap]; simpa using this).only (Only.of_below hb (Nat.le_refl _)) (by simp))
   have hz1 := hbx.size
   simp only [World.size_alloc] at hz1
   clear hb hbx hlk h0f
   rw [is1_1 z tl 0 t l s.length, HB1.out]
   obtain ⟨g0, g1, g2, _, _, _⟩ := blk3 M2.out
   cases b1 with
   | false =>
    have HX : Hid (R = false) := Lib.hid (by rw [HR.out, HB1.out]; rfl)
    go_wp2
    go_ret
    exact ⟨by rw [HX.out]; rfl, HBW.out⟩
   | true =>
    have hs0 := text_nil HB1.out HRT.out (by first | exact .inl rfl | exact .inr (.inl rfl) | exact .inr (.inr rfl))
    have HX : Hid (R = true) := Lib.hid (by rw [HR.out, HB1.out, hs0]; rfl)
    have hs00 : s.length = 0 := by rw [hs0]; rfl
    clear hs0
    rw [hs00] at g2
    go_wp2_with fail
    refine wp_loop_rounds 1 ?_
    rw [rounds_succ]
    go_wp2
    go_ret
    exact ⟨by rw [HX.out]; rfl, HBW.out⟩
  ·have HNL := Lib.hid hn
   clear hok IH HS hn
   have HLK := Lib.hid (run_getI (w := ((w.alloc (.cells #[.int .i64 2, .int .i64 z, .slice A' tl.length cap', .int .i64 0] 55)).alloc (.cells #[.string t, .bool l, .slice A s.length cap] 28))) (es := kEs) (c := 5) (((hV.below ((Below.refl _ _).alloc (Nat.le_refl _) _)).below ((Below.refl _ _).alloc (Nat.le_refl _) _)).mp) 2 _ _ rfl)
   have hlk := HLK.out
   simp only [kUint, kFixed, kBytes, kList, kStruct] at hlk
   have hf : ∀ w, (Instr.field 149 (.agg #[.func (.func 132) #[] #[], .func (.func 133) #[] #[]]) 0).run Tryz.prog w = .ok (.func (.func 132) #[] #[]) w := fun _ => by kernel_rfl
   have h0f : w.cell? ⟨ob, 0, none⟩ = some (.map (some g)) := hV.of_.cell 0
   have hl1 := hV.lt.1
   obtain ⟨b1, hb1⟩ : ∃ b1, is1 (Ty.mk 2 z tl 0) t l s.length = b1 := ⟨_, rfl⟩
   have HB1 := Lib.hid hb1
   have HV := Lib.hid hV
   clear hb1 hV HLK
   go_enter Tryz.func99, Tryz.ntmps99
   go_wp2_with fail
   refine (fitF_c 2 z 0 A' tl.length cap' t l A s.length cap _ ht htl hs (by omega) (by omega)).mono ?_
   rintro e w1 ⟨rfl, hb⟩
   have hbx := hb
   simp only [World.size_alloc] at hbx
   have HBW : Hid (Below w.heap.size w w1) := Lib.hid (((Below.refl w.heap.size w).alloc (Nat.le_refl _) _ |>.alloc (by simp) _).trans (hbx.mono (by omega)))
   have M1 : Hid (Blk w1 w.heap.size 55 #[.int .i64 2, .int .i64 z, .slice A' tl.length cap', .int .i64 0]) := Lib.hid (((Blk.new w _ _).alloc _).only (Only.of_below hb (Nat.le_refl _)) (by simp))
   have M2 : Hid (Blk w1 (w.heap.size + 1) 28 #[.string t, .bool l, .slice A s.length cap]) := Lib.hid ((show Blk _ (w.heap.size + 1) _ _ from by have := Blk.new (w.alloc (.cells #[.int .i64 2, .int .i64 z, .slice A' tl.length cap', .int .i64 0] 55)) 28 #[.string t, .bool l, .slice A s.length cap]; simpa using this).only (Only.of_below hb (Nat.le_refl _)) (by simp))
   have hz1 := hbx.size
   simp only [World.size_alloc] at hz1
   clear hb hbx hlk h0f
   rw [is1_2 z tl 0 t l s.length, HB1.out]
   obtain ⟨g0, g1, g2, _, _, _⟩ := blk3 M2.out
   cases b1 with
   | false =>
    have HX : Hid (R = false) := Lib.hid (by rw [HR.out, HB1.out]; rfl)
    go_wp2
    go_ret
    exact ⟨by rw [HX.out]; rfl, HBW.out⟩
   | true =>
    have hs0 := text_nil HB1.out HRT.out (by first | exact .inl rfl | exact .inr (.inl rfl) | exact .inr (.inr rfl))
    have HX : Hid (R = true) := Lib.hid (by rw [HR.out, HB1.out, hs0]; rfl)
    have hs00 : s.length = 0 := by rw [hs0]; rfl
    clear hs0
    rw [hs00] at g2
    go_wp2_with fail
    refine wp_loop_rounds 1 ?_
    rw [rounds_succ]
    go_wp2
    go_ret
    exact ⟨by rw [HX.out]; rfl, HBW.out⟩
  ·have HNL := Lib.hid hn
   clear hok IH HS hn
   have HLK := Lib.hid (run_getI (w := ((w.alloc (.cells #[.int .i64 3, .int .i64 z, .slice A' tl.length cap', .int .i64 0] 55)).alloc (.cells #[.string t, .bool l, .slice A s.length cap] 28))) (es := kEs) (c := 5) (((hV.below ((Below.refl _ _).alloc (Nat.le_refl _) _)).below ((Below.refl _ _).alloc (Nat.le_refl _) _)).mp) 3 _ _ rfl)
   have hlk := HLK.out
   simp only [kUint, kFixed, kBytes, kList, kStruct] at hlk
   have hf : ∀ w, (Instr.field 149 (.agg #[.func (.func 135) #[] #[], .func (.func 129) #[] #[]]) 0).run Tryz.prog w = .ok (.func (.func 135) #[] #[]) w := fun _ => by kernel_rfl
   have h0f : w.cell? ⟨ob, 0, none⟩ = some (.map (some g)) := hV.of_.cell 0
   have hl1 := hV.lt.1
   obtain ⟨b1, hb1⟩ : ∃ b1, is1 (Ty.mk 3 z tl 0) t l s.length = b1 := ⟨_, rfl⟩
   have HB1 := Lib.hid hb1
   have HV := Lib.hid hV
   clear hb1 hV HLK
   go_enter Tryz.func99, Tryz.ntmps99
   go_wp2_with fail
   refine (fitB_c 3 z 0 A' tl.length cap' t l A s.length cap _ ht htl hs (by omega) (by omega)).mono ?_
   rintro e w1 ⟨rfl, hb⟩
   have hbx := hb
   simp only [World.size_alloc] at hbx
   have HBW : Hid (Below w.heap.size w w1) := Lib.hid (((Below.refl w.heap.size w).alloc (Nat.le_refl _) _ |>.alloc (by simp) _).trans (hbx.mono (by omega)))
   have M1 : Hid (Blk w1 w.heap.size 55 #[.int .i64 3, .int .i64 z, .slice A' tl.length cap', .int .i64 0]) := Lib.hid (((Blk.new w _ _).alloc _).only (Only.of_below hb (Nat.le_refl _)) (by simp))
   have M2 : Hid (Blk w1 (w.heap.size + 1) 28 #[.string t, .bool l, .slice A s.length cap]) := Lib.hid ((show Blk _ (w.heap.size + 1) _ _ from by have := Blk.new (w.alloc (.cells #[.int .i64 3, .int .i64 z, .slice A' tl.length cap', .int .i64 0] 55)) 28 #[.string t, .bool l, .slice A s.length cap]; simpa using this).only (Only.of_below hb (Nat.le_refl _)) (by simp))
   have hz1 := hbx.size
   simp only [World.size_alloc] at hz1
   clear hb hbx hlk h0f
   rw [is1_3 z tl 0 t l s.length, HB1.out]
   obtain ⟨g0, g1, g2, _, _, _⟩ := blk3 M2.out
   cases b1 with
   | false =>
    have HX : Hid (R = false) := Lib.hid (by rw [HR.out, HB1.out]; rfl)
    go_wp2
    go_ret
    exact ⟨by rw [HX.out]; rfl, HBW.out⟩
   | true =>
    have hs0 := text_nil HB1.out HRT.out (by first | exact .inl rfl | exact .inr (.inl rfl) | exact .inr (.inr rfl))
    have HX : Hid (R = true) := Lib.hid (by rw [HR.out, HB1.out, hs0]; rfl)
    have hs00 : s.length = 0 := by rw [hs0]; rfl
    clear hs0
    rw [hs00] at g2
    go_wp2_with fail
    refine wp_loop_rounds 1 ?_
    rw [rounds_succ]
    go_wp2
    go_ret
    exact ⟨by rw [HX.out]; rfl, HBW.out⟩
  ·clear hok
   have hj : ∀ i : Nat, i < s.length → atI 4 i < tl.length := fun i _ => by show 0 < tl.length; omega
   have hjj : ∀ i : Nat, atWay 4 i (atI 4 i) := fun i => .inl ⟨rfl, rfl⟩
   have HJ := Lib.hid (fun (_ : is1 (Ty.mk 4 z tl 0) t l s.length = true) => hj)
   have HJJ := Lib.hid hjj
   clear hj hjj hn
   have HLK := Lib.hid (run_getI (w := ((w.alloc (.cells #[.int .i64 4, .int .i64 z, .slice A' tl.length cap', .int .i64 0] 55)).alloc (.cells #[.string t, .bool l, .slice A s.length cap] 28))) (es := kEs) (c := 5) (((hV.below ((Below.refl _ _).alloc (Nat.le_refl _) _)).below ((Below.refl _ _).alloc (Nat.le_refl _) _)).mp) 4 _ _ rfl)
   have hlk := HLK.out
   simp only [kUint, kFixed, kBytes, kList, kStruct] at hlk
   have hf : ∀ w, (Instr.field 149 (.agg #[.func (.func 136) #[] #[], .func (.func 137) #[] #[]]) 0).run Tryz.prog w = .ok (.func (.func 136) #[] #[]) w := fun _ => by kernel_rfl
   have h0f : w.cell? ⟨ob, 0, none⟩ = some (.map (some g)) := hV.of_.cell 0
   have hl1 := hV.lt.1
   obtain ⟨b1, hb1⟩ : ∃ b1, is1 (Ty.mk 4 z tl 0) t l s.length = b1 := ⟨_, rfl⟩
   have HB1 := Lib.hid hb1
   have HV := Lib.hid hV
   clear hb1 hV HLK
   go_enter Tryz.func99, Tryz.ntmps99
   go_wp2_with fail
   refine (fitL_c 4 z 0 A' tl.length cap' t l A s.length cap _ ht htl hs (by omega) (by omega)).mono ?_
   rintro e w1 ⟨rfl, hb⟩
   have hbx := hb
   simp only [World.size_alloc] at hbx
   have HBW : Hid (Below w.heap.size w w1) := Lib.hid (((Below.refl w.heap.size w).alloc (Nat.le_refl _) _ |>.alloc (by simp) _).trans (hbx.mono (by omega)))
   have M1 : Hid (Blk w1 w.heap.size 55 #[.int .i64 4, .int .i64 z, .slice A' tl.length cap', .int .i64 0]) := Lib.hid (((Blk.new w _ _).alloc _).only (Only.of_below hb (Nat.le_refl _)) (by simp))
   have M2 : Hid (Blk w1 (w.heap.size + 1) 28 #[.string t, .bool l, .slice A s.length cap]) := Lib.hid ((show Blk _ (w.heap.size + 1) _ _ from by have := Blk.new (w.alloc (.cells #[.int .i64 4, .int .i64 z, .slice A' tl.length cap', .int .i64 0] 55)) 28 #[.string t, .bool l, .slice A s.length cap]; simpa using this).only (Only.of_below hb (Nat.le_refl _)) (by simp))
   have hz1 := hbx.size
   simp only [World.size_alloc] at hz1
   clear hb hbx hlk h0f
   rw [is1_4 z tl 0 t l s.length, HB1.out]
   obtain ⟨g0, g1, g2, _, _, _⟩ := blk3 M2.out
   cases b1 with
   | false =>
    have HX : Hid (R = false) := Lib.hid (by rw [HR.out, HB1.out]; rfl)
    go_wp2
    go_ret
    exact ⟨by rw [HX.out]; rfl, HBW.out⟩
   | true =>
    have HX : Hid (R = isOfL s (Ty.mk 4 z tl 0) 0) := Lib.hid (by rw [HR.out, HB1.out]; rfl)
    have HJ2 := Lib.hid (HJ.out HB1.out)
    have HV1 := Lib.hid (HV.out.below HBW.out)
    clear HJ HR
    go_wp2_with fail
    go_loopw [21] (fun i wr => ∃ kk : Nat, kk ≤ s.length ∧ i = .int .i64 kk ∧ Hid (isOfL (s.take kk) (Ty.mk 4 z tl 0) 0 = true) ∧ Below (w.heap.size + 2) w1 wr) (fun i _ => s.length - (intOf i).toNat)
    case atStart => exact ⟨0, by omega, rfl, Lib.hid (by simp [isOfL]), Below.refl _ _⟩
    case round =>
     obtain ⟨kk, hkk, rfl, hm, hbw⟩ := hrel
     have HBR := Lib.hid hbw
     have hrz := hbw.size
     clear hbw g0 g1 g2
     obtain ⟨g0, g1, g2, _, _, _⟩ := blk3 (M2.out.keep HBR.out (by omega))
     by_cases hlt : kk < s.length
     ·have HVR := Lib.hid (HV1.out.keep HBR.out (by have := HV.out.lt; omega) (by have := HV.out.lt; omega) (by have := HV.out.lt; omega))
      have hbB : Below B w wr := (HBW.out.mono hB).trans (HBR.out.mono (by omega))
      obtain ⟨b, o, d0, d1, d2, rfl, hbl, e0, e1, e2, hi⟩ := HS.out.at_ kk hlt
      simp only [Nat.zero_add] at e0 e1 e2
      replace e0 := (hbB.cell (p := ⟨b, o + kk * 3, none⟩) hbl).trans e0
      replace e1 := (hbB.cell (p := ⟨b, o + kk * 3 + 1, none⟩) hbl).trans e1
      replace e2 := (hbB.cell (p := ⟨b, o + kk * 3 + 2, none⟩) hbl).trans e2
      obtain ⟨A3, cap3, rfl, rfl, rfl, _⟩ := hi.open_
      have HI1 := Lib.hid (hi.below hbB)
      obtain ⟨j, hj⟩ : ∃ j, atI 4 kk = j := ⟨_, rfl⟩
      have hjl := HJ2.out kk hlt
      have hjj := HJJ.out kk
      rw [hj] at hjl hjj
      have HJK := Lib.hid hjj
      obtain ⟨b', o', f0, f1, f2, f3, rfl, hbl', k0, k1, k2, k3, hti⟩ := HTS.out.at_ j hjl
      simp only [Nat.zero_add] at k0 k1 k2 k3
      have HAT : Hid ((Ty.mk 4 z tl 0).at kk = tl[j]) := Lib.hid (by show (tl[atI 4 kk]?).getD (.mk 0 0 [] 0) = tl[j]; rw [hj, List.getElem?_eq_getElem hjl]; rfl)
      have HTI := Lib.hid (hti.below hbB)
      obtain ⟨A4, cap4, rfl, rfl, rfl, rfl, _⟩ := hti.open_
      obtain ⟨W0, hW0⟩ : ∃ W0, wr.alloc (.cells #[.string s[kk].text, .bool s[kk].list, .slice A3 s[kk].sub.length cap3] 28) = W0 := ⟨_, rfl⟩
      have HW0 : Hid (Below wr.heap.size wr W0) := Lib.hid (by rw [← hW0]; exact (Below.refl _ wr).alloc (Nat.le_refl _) _)
      have HZ0 : Hid (W0.heap.size = wr.heap.size + 1) := Lib.hid (by rw [← hW0]; simp)
      have HK0 : Hid (Blk W0 wr.heap.size 28 #[.string s[kk].text, .bool s[kk].list, .slice A3 s[kk].sub.length cap3]) := Lib.hid (by rw [← hW0]; exact Blk.new wr _ _)
      have HWW := Lib.hid hW0
      have HWB : Hid (∀ V, Below (wr.heap.size + 1) W0 V → Below B w V ∧ Below (w.heap.size + 2) w1 V ∧ wr.heap.size + 1 ≤ V.heap.size) := Lib.hid (fun V hV => ⟨hbB.trans ((HW0.out.mono (by have := hbB.size; omega)).trans (hV.mono (by have := hbB.size; omega))), HBR.out.trans ((HW0.out.mono (by omega)).trans (hV.mono (by omega))), by have := hV.size; have := HZ0.out; omega⟩)
      have HKP : Hid (∀ V, Below (wr.heap.size + 1) W0 V → V.cell? ⟨fb, 0, none⟩ = some (.func (.func 99) #[] #[.pointer (some ⟨ob, 0, none⟩), .pointer (some ⟨fb, 0, none⟩)]) ∧
       V.cell? ⟨w.heap.size, 0, none⟩ = some (.int .i64 4) ∧ V.cell? ⟨w.heap.size, 1, none⟩ = some (.int .i64 z) ∧ V.cell? ⟨w.heap.size, 2, none⟩ = some (.slice (some ⟨b', o', none⟩) tl.length cap') ∧ V.cell? ⟨w.heap.size, 3, none⟩ = some (.int .i64 0) ∧
       V.cell? ⟨wr.heap.size, 0, none⟩ = some (.string s[kk].text) ∧ V.cell? ⟨wr.heap.size, 1, none⟩ = some (.bool s[kk].list) ∧ V.cell? ⟨wr.heap.size, 2, none⟩ = some (.slice A3 s[kk].sub.length cap3) ∧ Below (wr.heap.size + 1) W0 V) := Lib.hid (fun V hV => by
       have hh := HWB.out V hV
       have hvl := HVR.out.lt
       have m1 := ((HVR.out.keep HW0.out hvl.1 hvl.2.1 hvl.2.2).keep hV (by omega) (by omega) (by omega)).fn.cell 0
       have m2 := M1.out.keep hh.2.1 (by omega)
       have m3 := HK0.out.keep hV (by omega)
       exact ⟨m1, m2.cell 0, m2.cell 1, m2.cell 2, m2.cell 3, m3.cell 0, m3.cell 1, m3.cell 2, hV⟩)
      have HCW : Hid (∀ V, Below (wr.heap.size + 1) W0 V → Calls Tryz.prog 100 #[.agg #[.int .i64 4, .int .i64 z, .slice (some ⟨b', o', none⟩) tl.length cap', .int .i64 0], .int .i64 kk] V fun e w' => e = .returned (.agg #[.int .i64 tl[j].kind, .int .i64 tl[j].size, .slice A4 tl[j].sub.length cap4, .int .i64 tl[j].tail]) ∧ Below (wr.heap.size + 1) W0 w') := Lib.hid (fun V hV => by
       have hh := HWB.out V hV
       refine (within_c 4 z 0 b' o' tl.length cap' kk j _ _ _ A4 _ cap4 V HJK.out hjl htl (by omega) ((hh.1.cell (p := ⟨b', _, none⟩) hbl').trans k0) ((hh.1.cell (p := ⟨b', _, none⟩) hbl').trans k1) ((hh.1.cell (p := ⟨b', _, none⟩) hbl').trans k2) ((hh.1.cell (p := ⟨b', _, none⟩) hbl').trans k3)).mono ?_
       rintro e w' ⟨rfl, hx⟩
       exact ⟨rfl, hV.trans (hx.mono (by omega))⟩)
      obtain ⟨r, hr⟩ : ∃ r, s[kk].isOf tl[j] = r := ⟨_, rfl⟩
      have HCF : Hid (∀ V, Below (wr.heap.size + 1) W0 V → Calls Tryz.prog 99 #[.agg #[.int .i64 tl[j].kind, .int .i64 tl[j].size, .slice A4 tl[j].sub.length cap4, .int .i64 tl[j].tail], .agg #[.string s[kk].text, .bool s[kk].list, .slice A3 s[kk].sub.length cap3], .pointer (some ⟨ob, 0, none⟩), .pointer (some ⟨fb, 0, none⟩)] V fun e w' => e = .returned (.bool r) ∧ Below (wr.heap.size + 1) W0 w') := Lib.hid (fun V hV => by
       have hh := HWB.out V hV
       have hvl := HVR.out.lt
       have hbz := hbB.size
       refine (IH.out _ (List.getElem_mem hlt) B V _ _ _ (hi.below hh.1) (by omega) (itright_at HRT.out kk hlt) tl[j] _ _ _ _ (hti.below hh.1) (rightT_at HTR.out j hjl) ob fb g ((HVR.out.keep HW0.out hvl.1 hvl.2.1 hvl.2.2).keep hV (by omega) (by omega) (by omega))).mono ?_
       rintro e w' ⟨rfl, hx⟩
       exact ⟨by rw [hr], hV.trans (hx.mono (by omega))⟩)
      have HR1 : Hid (s[kk].isOf ((Ty.mk 4 z tl 0).at kk) = r) := Lib.hid (by rw [HAT.out, hr])
      clear hi hti k0 k1 k2 k3 hj hjj hr hW0 HTI HI1
      go_wp2_with fail
      rw [HWW.out]
      obtain ⟨x0, x1, x2, x3, x4, x5, x6, x7, x8⟩ := HKP.out W0 (Below.refl _ _)
      go_region_held3 (fun V => V.cell? ⟨fb, 0, none⟩ = some (.func (.func 99) #[] #[.pointer (some ⟨ob, 0, none⟩), .pointer (some ⟨fb, 0, none⟩)]) ∧
       V.cell? ⟨w.heap.size, 0, none⟩ = some (.int .i64 4) ∧ V.cell? ⟨w.heap.size, 1, none⟩ = some (.int .i64 z) ∧ V.cell? ⟨w.heap.size, 2, none⟩ = some (.slice (some ⟨b', o', none⟩) tl.length cap') ∧ V.cell? ⟨w.heap.size, 3, none⟩ = some (.int .i64 0) ∧
       V.cell? ⟨wr.heap.size, 0, none⟩ = some (.string s[kk].text) ∧ V.cell? ⟨wr.heap.size, 1, none⟩ = some (.bool s[kk].list) ∧ V.cell? ⟨wr.heap.size, 2, none⟩ = some (.slice A3 s[kk].sub.length cap3) ∧ Below (wr.heap.size + 1) W0 V)
       (first | exact HKP.out _ x8 | exact HKP.out _ hv | exact HKP.out _ hv.drew | exact HKP.out _ x8.drew | exact HKP.out _ (by assumption) | exact HKP.out _ (Below.drew (by assumption)))
       (first | (go_at_call 100; ((with_reducible refine (HCW.out _ (by first | assumption | exact Below.drew (by assumption) | exact Below.drewN' (by assumption) _)).mono ?_); rintro e w' ⟨rfl, hv⟩)) | (go_at_call 99; ((with_reducible refine (HCF.out _ (by first | assumption | exact Below.drew (by assumption) | exact Below.drewN' (by assumption) _)).mono ?_); rintro e w' ⟨rfl, hv⟩)))
      all_goals
       have HB2 : Hid (Below (w.heap.size + 2) w1 w') := Lib.hid (HBR.out.trans ((HW0.out.mono (by omega)).trans (hv.mono (by omega))))
       have hz0 := HZ0.out
       have hz9 := hv.size
       cases r with
       | true =>
        have HN : Hid (isOfL (s.take (kk + 1)) (Ty.mk 4 z tl 0) 0 = true) := Lib.hid (by rw [isOfL_take hlt, hm.out, HR1.out]; rfl)
        go_wp2
        go_roundw
        case rel => exact ⟨kk + 1, by omega, by go_num, HN, HB2.out⟩
        case measure => simp [intOf]; omega
       | false =>
        have HN : Hid (isOfL s (Ty.mk 4 z tl 0) 0 = false) := Lib.hid (isOfL_false hlt HR1.out)
        go_wp2
        go_ret
        exact ⟨by rw [HX.out, HN.out]; rfl, HBW.out.trans (HB2.out.mono (by omega))⟩
     ·have hm1 := hm.out
      rw [List.take_of_length_le (by omega)] at hm1
      have HM := Lib.hid hm1
      clear hm1
      go_wp2
      go_ret
      exact ⟨by rw [HX.out, HM.out]; rfl, HBW.out.trans (HBR.out.mono (by omega))⟩
  ·clear hok
   have HJ : Hid (is1 (Ty.mk 5 0 tl ta) t l s.length = true → ∀ i : Nat, i < s.length → atI 5 i < tl.length) := Lib.hid (fun h i hi => by
    show i < tl.length
    have h2 := Bool.and_eq_true_iff.1 h
    have h3 := of_decide_eq_true (Bool.and_eq_true_iff.1 h2.1).2
    simp at h3
    omega)
   have HJJ : Hid (∀ i : Nat, atWay 5 i (atI 5 i)) := Lib.hid (fun i => .inr ⟨by decide, rfl⟩)
   have HLK := Lib.hid (run_getI (w := ((w.alloc (.cells #[.int .i64 5, .int .i64 0, .slice A' tl.length cap', .int .i64 ta] 55)).alloc (.cells #[.string t, .bool l, .slice A s.length cap] 28))) (es := kEs) (c := 5) (((hV.below ((Below.refl _ _).alloc (Nat.le_refl _) _)).below ((Below.refl _ _).alloc (Nat.le_refl _) _)).mp) 5 _ _ rfl)
   have hlk := HLK.out
   simp only [kUint, kFixed, kBytes, kList, kStruct] at hlk
   have hf : ∀ w, (Instr.field 149 (.agg #[.func (.func 139) #[] #[], .func (.func 140) #[] #[]]) 0).run Tryz.prog w = .ok (.func (.func 139) #[] #[]) w := fun _ => by kernel_rfl
   have h0f : w.cell? ⟨ob, 0, none⟩ = some (.map (some g)) := hV.of_.cell 0
   have hl1 := hV.lt.1
   obtain ⟨b1, hb1⟩ : ∃ b1, is1 (Ty.mk 5 0 tl ta) t l s.length = b1 := ⟨_, rfl⟩
   have HB1 := Lib.hid hb1
   have HV := Lib.hid hV
   clear hb1 hV HLK
   go_enter Tryz.func99, Tryz.ntmps99
   go_wp2_with fail
   refine (fitS_c 5 0 ta A' tl.length cap' t l A s.length cap _ ht htl hs (by omega) (by omega)).mono ?_
   rintro e w1 ⟨rfl, hb⟩
   have hbx := hb
   simp only [World.size_alloc] at hbx
   have HBW : Hid (Below w.heap.size w w1) := Lib.hid (((Below.refl w.heap.size w).alloc (Nat.le_refl _) _ |>.alloc (by simp) _).trans (hbx.mono (by omega)))
   have M1 : Hid (Blk w1 w.heap.size 55 #[.int .i64 5, .int .i64 0, .slice A' tl.length cap', .int .i64 ta]) := Lib.hid (((Blk.new w _ _).alloc _).only (Only.of_below hb (Nat.le_refl _)) (by simp))
   have M2 : Hid (Blk w1 (w.heap.size + 1) 28 #[.string t, .bool l, .slice A s.length cap]) := Lib.hid ((show Blk _ (w.heap.size + 1) _ _ from by have := Blk.new (w.alloc (.cells #[.int .i64 5, .int .i64 0, .slice A' tl.length cap', .int .i64 ta] 55)) 28 #[.string t, .bool l, .slice A s.length cap]; simpa using this).only (Only.of_below hb (Nat.le_refl _)) (by simp))
   have hz1 := hbx.size
   simp only [World.size_alloc] at hz1
   clear hb hbx hlk h0f
   rw [is1_5 0 tl ta t l s.length, HB1.out]
   obtain ⟨g0, g1, g2, _, _, _⟩ := blk3 M2.out
   cases b1 with
   | false =>
    have HX : Hid (R = false) := Lib.hid (by rw [HR.out, HB1.out]; rfl)
    go_wp2
    go_ret
    exact ⟨by rw [HX.out]; rfl, HBW.out⟩
   | true =>
    have HX : Hid (R = isOfL s (Ty.mk 5 0 tl ta) 0) := Lib.hid (by rw [HR.out, HB1.out]; rfl)
    have HJ2 := Lib.hid (HJ.out HB1.out)
    have HV1 := Lib.hid (HV.out.below HBW.out)
    clear HJ HR
    go_wp2_with fail
    go_loopw [21] (fun i wr => ∃ kk : Nat, kk ≤ s.length ∧ i = .int .i64 kk ∧ Hid (isOfL (s.take kk) (Ty.mk 5 0 tl ta) 0 = true) ∧ Below (w.heap.size + 2) w1 wr) (fun i _ => s.length - (intOf i).toNat)
    case atStart => exact ⟨0, by omega, rfl, Lib.hid (by simp [isOfL]), Below.refl _ _⟩
    case round =>
     obtain ⟨kk, hkk, rfl, hm, hbw⟩ := hrel
     have HBR := Lib.hid hbw
     have hrz := hbw.size
     clear hbw g0 g1 g2
     obtain ⟨g0, g1, g2, _, _, _⟩ := blk3 (M2.out.keep HBR.out (by omega))
     by_cases hlt : kk < s.length
     ·have HVR := Lib.hid (HV1.out.keep HBR.out (by have := HV.out.lt; omega) (by have := HV.out.lt; omega) (by have := HV.out.lt; omega))
      have hbB : Below B w wr := (HBW.out.mono hB).trans (HBR.out.mono (by omega))
      obtain ⟨b, o, d0, d1, d2, rfl, hbl, e0, e1, e2, hi⟩ := HS.out.at_ kk hlt
      simp only [Nat.zero_add] at e0 e1 e2
      replace e0 := (hbB.cell (p := ⟨b, o + kk * 3, none⟩) hbl).trans e0
      replace e1 := (hbB.cell (p := ⟨b, o + kk * 3 + 1, none⟩) hbl).trans e1
      replace e2 := (hbB.cell (p := ⟨b, o + kk * 3 + 2, none⟩) hbl).trans e2
      obtain ⟨A3, cap3, rfl, rfl, rfl, _⟩ := hi.open_
      have HI1 := Lib.hid (hi.below hbB)
      obtain ⟨j, hj⟩ : ∃ j, atI 5 kk = j := ⟨_, rfl⟩
      have hjl := HJ2.out kk hlt
      have hjj := HJJ.out kk
      rw [hj] at hjl hjj
      have HJK := Lib.hid hjj
      obtain ⟨b', o', f0, f1, f2, f3, rfl, hbl', k0, k1, k2, k3, hti⟩ := HTS.out.at_ j hjl
      simp only [Nat.zero_add] at k0 k1 k2 k3
      have HAT : Hid ((Ty.mk 5 0 tl ta).at kk = tl[j]) := Lib.hid (by show (tl[atI 5 kk]?).getD (.mk 0 0 [] 0) = tl[j]; rw [hj, List.getElem?_eq_getElem hjl]; rfl)
      have HTI := Lib.hid (hti.below hbB)
      obtain ⟨A4, cap4, rfl, rfl, rfl, rfl, _⟩ := hti.open_
      obtain ⟨W0, hW0⟩ : ∃ W0, wr.alloc (.cells #[.string s[kk].text, .bool s[kk].list, .slice A3 s[kk].sub.length cap3] 28) = W0 := ⟨_, rfl⟩
      have HW0 : Hid (Below wr.heap.size wr W0) := Lib.hid (by rw [← hW0]; exact (Below.refl _ wr).alloc (Nat.le_refl _) _)
      have HZ0 : Hid (W0.heap.size = wr.heap.size + 1) := Lib.hid (by rw [← hW0]; simp)
      have HK0 : Hid (Blk W0 wr.heap.size 28 #[.string s[kk].text, .bool s[kk].list, .slice A3 s[kk].sub.length cap3]) := Lib.hid (by rw [← hW0]; exact Blk.new wr _ _)
      have HWW := Lib.hid hW0
      have HWB : Hid (∀ V, Below (wr.heap.size + 1) W0 V → Below B w V ∧ Below (w.heap.size + 2) w1 V ∧ wr.heap.size + 1 ≤ V.heap.size) := Lib.hid (fun V hV => ⟨hbB.trans ((HW0.out.mono (by have := hbB.size; omega)).trans (hV.mono (by have := hbB.size; omega))), HBR.out.trans ((HW0.out.mono (by omega)).trans (hV.mono (by omega))), by have := hV.size; have := HZ0.out; omega⟩)
      have HKP : Hid (∀ V, Below (wr.heap.size + 1) W0 V → V.cell? ⟨fb, 0, none⟩ = some (.func (.func 99) #[] #[.pointer (some ⟨ob, 0, none⟩), .pointer (some ⟨fb, 0, none⟩)]) ∧
       V.cell? ⟨w.heap.size, 0, none⟩ = some (.int .i64 5) ∧ V.cell? ⟨w.heap.size, 1, none⟩ = some (.int .i64 0) ∧ V.cell? ⟨w.heap.size, 2, none⟩ = some (.slice (some ⟨b', o', none⟩) tl.length cap') ∧ V.cell? ⟨w.heap.size, 3, none⟩ = some (.int .i64 ta) ∧
       V.cell? ⟨wr.heap.size, 0, none⟩ = some (.string s[kk].text) ∧ V.cell? ⟨wr.heap.size, 1, none⟩ = some (.bool s[kk].list) ∧ V.cell? ⟨wr.heap.size, 2, none⟩ = some (.slice A3 s[kk].sub.length cap3) ∧ Below (wr.heap.size + 1) W0 V) := Lib.hid (fun V hV => by
       have hh := HWB.out V hV
       have hvl := HVR.out.lt
       have m1 := ((HVR.out.keep HW0.out hvl.1 hvl.2.1 hvl.2.2).keep hV (by omega) (by omega) (by omega)).fn.cell 0
       have m2 := M1.out.keep hh.2.1 (by omega)
       have m3 := HK0.out.keep hV (by omega)
       exact ⟨m1, m2.cell 0, m2.cell 1, m2.cell 2, m2.cell 3, m3.cell 0, m3.cell 1, m3.cell 2, hV⟩)
      have HCW : Hid (∀ V, Below (wr.heap.size + 1) W0 V → Calls Tryz.prog 100 #[.agg #[.int .i64 5, .int .i64 0, .slice (some ⟨b', o', none⟩) tl.length cap', .int .i64 ta], .int .i64 kk] V fun e w' => e = .returned (.agg #[.int .i64 tl[j].kind, .int .i64 tl[j].size, .slice A4 tl[j].sub.length cap4, .int .i64 tl[j].tail]) ∧ Below (wr.heap.size + 1) W0 w') := Lib.hid (fun V hV => by
       have hh := HWB.out V hV
       refine (within_c 5 0 ta b' o' tl.length cap' kk j _ _ _ A4 _ cap4 V HJK.out hjl htl (by omega) ((hh.1.cell (p := ⟨b', _, none⟩) hbl').trans k0) ((hh.1.cell (p := ⟨b', _, none⟩) hbl').trans k1) ((hh.1.cell (p := ⟨b', _, none⟩) hbl').trans k2) ((hh.1.cell (p := ⟨b', _, none⟩) hbl').trans k3)).mono ?_
       rintro e w' ⟨rfl, hx⟩
       exact ⟨rfl, hV.trans (hx.mono (by omega))⟩)
      obtain ⟨r, hr⟩ : ∃ r, s[kk].isOf tl[j] = r := ⟨_, rfl⟩
      have HCF : Hid (∀ V, Below (wr.heap.size + 1) W0 V → Calls Tryz.prog 99 #[.agg #[.int .i64 tl[j].kind, .int .i64 tl[j].size, .slice A4 tl[j].sub.length cap4, .int .i64 tl[j].tail], .agg #[.string s[kk].text, .bool s[kk].list, .slice A3 s[kk].sub.length cap3], .pointer (some ⟨ob, 0, none⟩), .pointer (some ⟨fb, 0, none⟩)] V fun e w' => e = .returned (.bool r) ∧ Below (wr.heap.size + 1) W0 w') := Lib.hid (fun V hV => by
       have hh := HWB.out V hV
       have hvl := HVR.out.lt
       have hbz := hbB.size
       refine (IH.out _ (List.getElem_mem hlt) B V _ _ _ (hi.below hh.1) (by omega) (itright_at HRT.out kk hlt) tl[j] _ _ _ _ (hti.below hh.1) (rightT_at HTR.out j hjl) ob fb g ((HVR.out.keep HW0.out hvl.1 hvl.2.1 hvl.2.2).keep hV (by omega) (by omega) (by omega))).mono ?_
       rintro e w' ⟨rfl, hx⟩
       exact ⟨by rw [hr], hV.trans (hx.mono (by omega))⟩)
      have HR1 : Hid (s[kk].isOf ((Ty.mk 5 0 tl ta).at kk) = r) := Lib.hid (by rw [HAT.out, hr])
      clear hi hti k0 k1 k2 k3 hj hjj hr hW0 HTI HI1
      go_wp2_with fail
      rw [HWW.out]
      obtain ⟨x0, x1, x2, x3, x4, x5, x6, x7, x8⟩ := HKP.out W0 (Below.refl _ _)
      go_region_held3 (fun V => V.cell? ⟨fb, 0, none⟩ = some (.func (.func 99) #[] #[.pointer (some ⟨ob, 0, none⟩), .pointer (some ⟨fb, 0, none⟩)]) ∧
       V.cell? ⟨w.heap.size, 0, none⟩ = some (.int .i64 5) ∧ V.cell? ⟨w.heap.size, 1, none⟩ = some (.int .i64 0) ∧ V.cell? ⟨w.heap.size, 2, none⟩ = some (.slice (some ⟨b', o', none⟩) tl.length cap') ∧ V.cell? ⟨w.heap.size, 3, none⟩ = some (.int .i64 ta) ∧
       V.cell? ⟨wr.heap.size, 0, none⟩ = some (.string s[kk].text) ∧ V.cell? ⟨wr.heap.size, 1, none⟩ = some (.bool s[kk].list) ∧ V.cell? ⟨wr.heap.size, 2, none⟩ = some (.slice A3 s[kk].sub.length cap3) ∧ Below (wr.heap.size + 1) W0 V)
       (first | exact HKP.out _ x8 | exact HKP.out _ hv | exact HKP.out _ hv.drew | exact HKP.out _ x8.drew | exact HKP.out _ (by assumption) | exact HKP.out _ (Below.drew (by assumption)))
       (first | (go_at_call 100; ((with_reducible refine (HCW.out _ (by first | assumption | exact Below.drew (by assumption) | exact Below.drewN' (by assumption) _)).mono ?_); rintro e w' ⟨rfl, hv⟩)) | (go_at_call 99; ((with_reducible refine (HCF.out _ (by first | assumption | exact Below.drew (by assumption) | exact Below.drewN' (by assumption) _)).mono ?_); rintro e w' ⟨rfl, hv⟩)))
      all_goals
       have HB2 : Hid (Below (w.heap.size + 2) w1 w') := Lib.hid (HBR.out.trans ((HW0.out.mono (by omega)).trans (hv.mono (by omega))))
       have hz0 := HZ0.out
       have hz9 := hv.size
       cases r with
       | true =>
        have HN : Hid (isOfL (s.take (kk + 1)) (Ty.mk 5 0 tl ta) 0 = true) := Lib.hid (by rw [isOfL_take hlt, hm.out, HR1.out]; rfl)
        go_wp2
        go_roundw
        case rel => exact ⟨kk + 1, by omega, by go_num, HN, HB2.out⟩
        case measure => simp [intOf]; omega
       | false =>
        have HN : Hid (isOfL s (Ty.mk 5 0 tl ta) 0 = false) := Lib.hid (isOfL_false hlt HR1.out)
        go_wp2
        go_ret
        exact ⟨by rw [HX.out, HN.out]; rfl, HBW.out.trans (HB2.out.mono (by omega))⟩
     ·have hm1 := hm.out
      rw [List.take_of_length_le (by omega)] at hm1
      have HM := Lib.hid hm1
      clear hm1
      go_wp2
      go_ret
      exact ⟨by rw [HX.out, HM.out]; rfl, HBW.out.trans (HBR.out.mono (by omega))⟩
theorem fits_c (ty : Ty) (x : It) (B : Nat) (w : World) (t0 t1 t2 t3 c0 c1 c2 : Value) (hT : TyIn w B ty t0 t1 t2 t3) (hI : ItIn w B x c0 c1 c2) (hB : B ≤ w.heap.size) (hL : Laid w) :
 Calls Tryz.prog 67 #[.agg #[t0, t1, t2, t3], .agg #[c0, c1, c2]] w fun e w' => e = .returned (.int .i64 (fitE ty x)) ∧ Below w.heap.size w w' := by
 have hpos := hL.pos
 obtain ⟨W0, hW0⟩ : ∃ W0, (w.alloc (.cells #[t0, t1, t2, t3] 55)).alloc (.cells #[c0, c1, c2] 28) = W0 := ⟨_, rfl⟩
 have hb0 : Below w.heap.size w W0 := by rw [← hW0]; exact ((Below.refl _ w).alloc (Nat.le_refl _) _).alloc (by simp) _
 have hz0 : W0.heap.size = w.heap.size + 2 := by rw [← hW0]; simp
 have m1 : Blk W0 w.heap.size 55 #[t0, t1, t2, t3] := by rw [← hW0]; exact (Blk.new w _ _).alloc _
 have m2 : Blk W0 (w.heap.size + 1) 28 #[c0, c1, c2] := by rw [← hW0]; have := Blk.new (w.alloc (.cells #[t0, t1, t2, t3] 55)) 28 #[c0, c1, c2]; simpa using this
 have HC1 := Lib.hid (schemaMay_c ty B W0 t0 t1 t2 t3 (hT.below (hb0.mono hB)) (by omega) (hL.below hb0 hpos))
 have HC2 : Hid (∀ V, Below (w.heap.size + 2) W0 V → Calls Tryz.prog 97 #[.agg #[c0, c1, c2]] V fun e w' => e = .returned (.bool x.may) ∧ Below V.heap.size V w') := Lib.hid (fun V hV => may_c x B V c0 c1 c2 ((hI.below (hb0.mono hB)).below (hV.mono (by omega))) (by have := hV.size; omega))
 have HM1 := Lib.hid m1
 have HM2 := Lib.hid m2
 have HB0 := Lib.hid hb0
 have HT := Lib.hid hT
 have HI := Lib.hid hI
 have HW0 := Lib.hid hW0
 obtain ⟨a, ha⟩ : ∃ a, ty.may = a := ⟨_, rfl⟩
 obtain ⟨b, hb⟩ : ∃ b, x.may = b := ⟨_, rfl⟩
 obtain ⟨c, hc⟩ : ∃ c, x.isOf ty = c := ⟨_, rfl⟩
 have HE : Hid (fitE ty x = if a && b then (if c then 0 else 12) else 1) := Lib.hid (by rw [fitE, ha, hb, hc])
 have HA := Lib.hid ha
 have HBB := Lib.hid hb
 have HCC := Lib.hid hc
 rw [ha] at HC1
 rw [hb] at HC2
 obtain ⟨A, cap, rfl, rfl, rfl, rfl, _⟩ := hT.open_
 obtain ⟨A', cap', rfl, rfl, rfl, _⟩ := hI.open_
 generalize fitE ty x = R at *
 generalize ty.kind = ki at *
 generalize ty.size = si at *
 generalize ty.tail = ta at *
 clear ha hb hc hT hI hW0 m1 m2
 cases a with
 | false =>
  have HX : Hid (R = 1) := Lib.hid (by rw [HE.out]; rfl)
  go_enter Tryz.func67, Tryz.ntmps67
  go_wp2_with fail
  rw [HW0.out]
  refine HC1.out.mono ?_
  rintro e w1 ⟨rfl, hb1⟩
  go_wp2
  go_ret
  exact ⟨by rw [HX.out]; rfl, HB0.out.trans (hb1.mono (by omega))⟩
 | true =>
  cases b with
  | false =>
   have HX : Hid (R = 1) := Lib.hid (by rw [HE.out]; rfl)
   go_enter Tryz.func67, Tryz.ntmps67
   go_wp2_with fail
   rw [HW0.out]
   refine HC1.out.mono ?_
   rintro e w1 ⟨rfl, hb1⟩
   obtain ⟨g0, g1, g2, _, _, _⟩ := blk3 (HM2.out.keep hb1 (by omega))
   have hz1 := hb1.size
   go_wp2_with fail
   refine (HC2.out w1 (hb1.mono (by omega))).mono ?_
   rintro e w2 ⟨rfl, hb2⟩
   go_wp2
   go_ret
   exact ⟨by rw [HX.out]; rfl, HB0.out.trans ((hb1.trans (hb2.mono hz1)).mono (by omega))⟩
  | true =>
   have HX : Hid (R = if c then 0 else 12) := Lib.hid (by rw [HE.out]; rfl)
   go_enter Tryz.func67, Tryz.ntmps67
   go_wp2_with fail
   rw [HW0.out]
   refine HC1.out.mono ?_
   rintro e w1 ⟨rfl, hb1⟩
   obtain ⟨g0, g1, g2, _, _, _⟩ := blk3 (HM2.out.keep hb1 (by omega))
   have hz1 := hb1.size
   go_wp2_with fail
   refine (HC2.out w1 (hb1.mono (by omega))).mono ?_
   rintro e w2 ⟨rfl, hb2⟩
   have hz2 := hb2.size
   have HB2 : Hid (Below (w.heap.size + 2) W0 w2) := Lib.hid ((hb1.trans (hb2.mono hz1)).mono (by omega))
   clear g0 g1 g2 hb1 hb2
   go_wp2_with fail
   refine (kinds_c w2).mono ?_
   rintro e w3 ⟨rfl, rfl⟩
   obtain ⟨W5, hW5⟩ : ∃ W5, ((w2.alloc (.map kEs.toArray 5)).alloc (.cells #[.map (some w2.heap.size)] 145)).alloc (.cells #[.func (.func 99) #[] #[.pointer (some ⟨w2.heap.size + 1, 0, none⟩), .pointer (some ⟨w2.heap.size + 1 + 1, 0, none⟩)]] 122) = W5 := ⟨_, rfl⟩
   have hz5 : W5.heap.size = w2.heap.size + 3 := by rw [← hW5]; simp
   have hb5 : Below w2.heap.size w2 W5 := by rw [← hW5]; exact (((Below.refl _ _).alloc (Nat.le_refl _) _).alloc (by simp) _).alloc (by simp; omega) _
   have HFV : Hid (FV W5 (w2.heap.size + 1) (w2.heap.size + 1 + 1) w2.heap.size) := Lib.hid (by
    rw [← hW5]
    refine ⟨?_, ?_, ?_⟩
    ·have := (Blk.new (w2.alloc (.map kEs.toArray 5)) 145 #[.map (some w2.heap.size)])
     rw [World.size_alloc] at this
     exact this.alloc _
    ·have := Blk.new ((w2.alloc (.map kEs.toArray 5)).alloc (.cells #[.map (some w2.heap.size)] 145)) 122 #[.func (.func 99) #[] #[.pointer (some ⟨w2.heap.size + 1, 0, none⟩), .pointer (some ⟨w2.heap.size + 1 + 1, 0, none⟩)]]
     rw [World.size_alloc, World.size_alloc] at this
     exact this
    ·have h3 : (w2.alloc (.map kEs.toArray 5)).heap[w2.heap.size]? = some (.map kEs.toArray 5) := heap_alloc_new w2 _
     rw [Below.heap_alloc _ _ _ (by simp; omega), Below.heap_alloc _ _ _ (by simp)]
     exact h3)
   have HB5 : Hid (Below (w.heap.size + 2) W0 W5) := Lib.hid (HB2.out.trans (hb5.mono (by omega)))
   have hbB : Below B w W5 := (HB0.out.mono hB).trans (HB5.out.mono (by omega))
   obtain ⟨_, _, hrt⟩ := ty_may HA.out
   have hri : x.right = true := by
    have h := HBB.out
    unfold It.may at h
    simp only [Bool.and_eq_true] at h
    exact h.1.1
   have HF := Lib.hid (fitsC_c x B W5 _ _ _ (HI.out.below hbB) (by omega) hri ty _ _ _ _ (HT.out.below hbB) hrt _ _ _ HFV.out)
   rw [HCC.out] at HF
   have HW5 := Lib.hid hW5
   have n1 := HM1.out.keep HB5.out (by omega)
   have n2 := HM2.out.keep HB5.out (by omega)
   have q0 : W5.cell? ⟨w.heap.size, 0, none⟩ = some (.int .i64 ki) := n1.cell 0
   have q1 : W5.cell? ⟨w.heap.size, 1, none⟩ = some (.int .i64 si) := n1.cell 1
   have q2 : W5.cell? ⟨w.heap.size, 2, none⟩ = some (.slice A ty.sub.length cap) := n1.cell 2
   have q3 : W5.cell? ⟨w.heap.size, 3, none⟩ = some (.int .i64 ta) := n1.cell 3
   have r0 : W5.cell? ⟨w.heap.size + 1, 0, none⟩ = some (.string x.text) := n2.cell 0
   have r1 : W5.cell? ⟨w.heap.size + 1, 1, none⟩ = some (.bool x.list) := n2.cell 1
   have r2 : W5.cell? ⟨w.heap.size + 1, 2, none⟩ = some (.slice A' x.sub.length cap') := n2.cell 2
   have l0 : w.heap.size < w2.heap.size := by omega
   have l1 : w.heap.size + 1 < w2.heap.size := by omega
   rw [← hW5] at q0 q1 q2 q3 r0 r1 r2
   clear hW5 hb5 hbB hrt hri n1 n2
   go_wp2_with fail
   rw [HW5.out]
   refine HF.out.mono ?_
   rintro e w6 ⟨rfl, hb6⟩
   have HB6 : Hid (Below w.heap.size w w6) := Lib.hid (HB0.out.trans ((HB5.out.mono (by omega)).trans (hb6.mono (by omega))))
   clear hb6
   cases c with
   | true =>
    go_wp2
    go_ret
    exact ⟨by rw [HX.out]; rfl, HB6.out⟩
   | false =>
    go_wp2
    go_ret
    exact ⟨by rw [HX.out]; rfl, HB6.out⟩
theorem anything_c (t : ByteArray) (l : Bool) (A : Option Addr) (n cap : Nat) (w : World) :
 Calls Tryz.prog 106 #[.agg #[.string t, .bool l, .slice A n cap]] w fun e w' => e = .returned (.bool true) ∧ Below w.heap.size w w' := by
 go_enter Tryz.func106, Tryz.ntmps106
 go_wp2
 go_ret
 exact ⟨rfl, blw⟩
structure VarsA (w : World) (cb eb db vb c d : Nat) : Prop where
 cnt : Blk w cb 3 #[.int .i64 c]
 each : Blk w eb 33 #[.func (.func 106) #[] #[]]
 dp : Blk w db 3 #[.int .i64 d]
 vis : Blk w vb 181 #[.func (.func 141) #[] #[.pointer (some ⟨cb, 0, none⟩), .pointer (some ⟨eb, 0, none⟩), .pointer (some ⟨db, 0, none⟩), .pointer (some ⟨vb, 0, none⟩)]]
theorem VarsA.below {w w' : World} {cb eb db vb c d : Nat} (h : VarsA w cb eb db vb c d) (hb : Below w.heap.size w w') : VarsA w' cb eb db vb c d :=
 ⟨h.cnt.only (Only.of_below hb (Nat.le_refl _)) (by simp), h.each.only (Only.of_below hb (Nat.le_refl _)) (by simp), h.dp.only (Only.of_below hb (Nat.le_refl _)) (by simp), h.vis.only (Only.of_below hb (Nat.le_refl _)) (by simp)⟩
theorem VarsA.step {w : World} {cb eb db vb c d c' d' : Nat} {u v : Int} (h : VarsA w cb eb db vb c d) (hcd : cb ≠ db) (hu : u = (c' : Int)) (hv : v = (d' : Int)) : VarsA ((w.setCell ⟨cb, 0, none⟩ (.int .i64 u)).setCell ⟨db, 0, none⟩ (.int .i64 v)) cb eb db vb c' d' := by
 subst hu; subst hv
 have n1 := h.cnt.ne_ h.each (by decide)
 have n2 := h.cnt.ne_ h.vis (by decide)
 have n3 := h.dp.ne_ h.each (by decide)
 have n4 := h.dp.ne_ h.vis (by decide)
 exact ⟨Blk.far (show Blk _ _ _ _ from one_setCell h.cnt) (p := ⟨db, 0, none⟩) hcd _, (h.each.far (p := ⟨cb, 0, none⟩) n1.symm _).far (p := ⟨db, 0, none⟩) n3.symm _, one_setCell (h.dp.far (p := ⟨cb, 0, none⟩) hcd.symm _), (h.vis.far (p := ⟨cb, 0, none⟩) n2.symm _).far (p := ⟨db, 0, none⟩) n4.symm _⟩
theorem visitA_c : ∀ (x : It) (B : Nat) (w : World) (c0 c1 c2 : Value), ItIn w B x c0 c1 c2 → B ≤ w.heap.size → x.right = true → ∀ (cb eb db vb lv c d : Nat), VarsA w cb eb db vb c d → B ≤ cb → B ≤ db → cb ≠ db → 1 ≤ lv → lv ≤ 17 → c ≤ 1024 → d ≤ 17 →
 Calls Tryz.prog 141 #[.agg #[c0, c1, c2], .int .i64 lv, .pointer (some ⟨cb, 0, none⟩), .pointer (some ⟨eb, 0, none⟩), .pointer (some ⟨db, 0, none⟩), .pointer (some ⟨vb, 0, none⟩)] w fun e w' =>
  e = .returned (.bool (x.vis lv c d).1) ∧ VarsA w' cb eb db vb (x.vis lv c d).2.1 (x.vis lv c d).2.2 ∧ Only [cb, db] w w' := by
 intro x
 induction x using It.ind with
 | h t l s ih =>
  intro B w c0 c1 c2 h hB hrx cb eb db vb lv c d hV hcB hdB hcd hlv hlv2 hc hd
  obtain ⟨rfl, rfl, ht, hs, A, cap, rfl, hcap, hcm, hsub⟩ := h
  have IH := Lib.hid ih
  have HS := Lib.hid hsub
  clear ih hsub
  have hff : formed t l s.length = true := (right_parts hrx).1
  have HRT := Lib.hid hrx
  have n1 := hV.cnt.ne_ hV.each (by decide)
  have n2 := hV.cnt.ne_ hV.vis (by decide)
  have n3 := hV.dp.ne_ hV.each (by decide)
  have n4 := hV.dp.ne_ hV.vis (by decide)
  have q1 : w.cell? ⟨cb, 0, none⟩ = some (.int .i64 c) := cell_of_one hV.cnt
  have q2 : w.cell? ⟨eb, 0, none⟩ = some (.func (.func 106) #[] #[]) := cell_of_one hV.each
  have q3 : w.cell? ⟨db, 0, none⟩ = some (.int .i64 d) := cell_of_one hV.dp
  have HV := Lib.hid hV
  have l1 := hV.cnt.lt
  have l2 := hV.each.lt
  have l3 := hV.dp.lt
  have l4 := hV.vis.lt
  have HR : Hid ((It.mk t l s).vis lv c d = if 16 < lv ∨ c = 1024 ∨ formed t l s.length = false then (false, c, d) else visL s (lv + 1) (c + 1) (max d lv)) := Lib.hid (by simp only [It.vis])
  generalize (It.mk t l s).vis lv c d = R at *
  clear hV
  by_cases h1 : 16 < lv
  ·have HX : Hid (R = (false, c, d)) := Lib.hid (by rw [HR.out, if_pos (.inl h1)])
   clear HR
   go_enter Tryz.func141, Tryz.ntmps141
   go_wp2
   go_ret
   rw [HX.out]
   exact ⟨rfl, HV.out.below blw, onl⟩
  ·by_cases h2 : c = 1024
   ·have e1 : ((c : Int) == 1024) = true := by simp; omega
    have HX : Hid (R = (false, c, d)) := Lib.hid (by rw [HR.out, if_pos (.inr (.inl h2))])
    clear HR h2
    go_enter Tryz.func141, Tryz.ntmps141
    go_wp2
    go_ret
    rw [HX.out]
    exact ⟨rfl, HV.out.below blw, onl⟩
   ·have e1 : ((c : Int) == 1024) = false := beq_eq_false_iff_ne.2 (by omega)
    have HF := Lib.hid (anything_c t l A s.length cap (w.alloc (.cells #[.string t, .bool l, .slice A s.length cap] 28)))
    have hf := hff
    have HX : Hid (R = visL s (lv + 1) (c + 1) (max d lv)) := Lib.hid (by rw [HR.out, if_neg (by rw [hf]; simp; omega)])
    have hc2 : c ≤ 1023 := by omega
    clear HR hf h2 hff hrx
    rcases Nat.lt_trichotomy d lv with hx | hx | hx
    ·have HM : Hid (max d lv = lv) := Lib.hid (by omega)
     rw [HM.out] at HX
     go_enter Tryz.func141, Tryz.ntmps141
     go_wp2_with fail
     refine HF.out.mono ?_
     rintro e w1 ⟨rfl, hb0⟩
     obtain ⟨g0, g1, g2⟩ := box_cells w 28 _ _ _ w1 (by simpa using hb0)
     have hb2 : Below w.heap.size w w1 := (Below.alloc (Below.refl _ _) (Nat.le_refl _) _).trans (hb0.mono (by simp))
     have hV1 := HV.out.below hb2
     have p1 : w1.cell? ⟨cb, 0, none⟩ = some (.int .i64 c) := cell_of_one hV1.cnt
     have p1f : w1.frozen? ⟨cb, 0, none⟩ = false := free_of_one hV1.cnt
     have p3 : w1.cell? ⟨db, 0, none⟩ = some (.int .i64 d) := cell_of_one hV1.dp
     have p3f : w1.frozen? ⟨db, 0, none⟩ = false := free_of_one hV1.dp
     have HV1 := Lib.hid hV1
     have hbz := hb2.size
     clear hV1 hb0 q1 q2 q3 HF
     go_wp2_with fail
     all_goals
      go_loopw [31] (fun i wr => ∃ k c' d' : Nat, k ≤ s.length ∧ i = .int .i64 k ∧ Hid (visL (s.take k) (lv + 1) (c + 1) lv = (true, c', d')) ∧ VarsA wr cb eb db vb c' d' ∧ Only [cb, db] w wr ∧ c' ≤ 1024 ∧ d' ≤ 17) (fun i _ => s.length - (intOf i).toNat)
      case atStart =>
       refine ⟨0, c + 1, lv, by omega, rfl, Lib.hid (by simp [visL]), HV1.out.step hcd (by omega) (by omega), ?_, by omega, by omega⟩
       exact (((Only.of_below hb2 (Nat.le_refl _)).mono (by simp)).setCell (by simp) _).setCell (by simp) _
      case round =>
       obtain ⟨k, c', d', hk, rfl, hvs, hVr, hon, hc', hd'⟩ := hrel
       have q4 : wr.cell? ⟨vb, 0, none⟩ = some (.func (.func 141) #[] #[.pointer (some ⟨cb, 0, none⟩), .pointer (some ⟨eb, 0, none⟩), .pointer (some ⟨db, 0, none⟩), .pointer (some ⟨vb, 0, none⟩)]) := cell_of_one hVr.vis
       have hbr : Below B w wr := hon.below hB (by simp; omega)
       have hrz := hon.size
       have l4r : vb < wr.heap.size := by omega
       have HVR := Lib.hid hVr
       clear hVr
       by_cases hlt : k < s.length
       ·obtain ⟨b, o, d0, d1, d2, rfl, hbB, e0, e1', e2, hi⟩ := HS.out.at_ k hlt
        simp only [Nat.zero_add] at e0 e1' e2
        replace e0 := (hbr.cell (p := ⟨b, o + k * 3, none⟩) hbB).trans e0
        replace e1' := (hbr.cell (p := ⟨b, o + k * 3 + 1, none⟩) hbB).trans e1'
        replace e2 := (hbr.cell (p := ⟨b, o + k * 3 + 2, none⟩) hbB).trans e2
        obtain ⟨A2, cap2, rfl, rfl, rfl, _⟩ := hi.open_
        have hmem := List.getElem_mem hlt
        have hiw := hi.below hbr
        have hVa := HVR.out.below (Below.alloc (Below.refl _ wr) (Nat.le_refl _) (.cells #[.string s[k].text, .bool s[k].list, .slice A2 s[k].sub.length cap2] 28))
        have HC := Lib.hid (IH.out _ hmem B (wr.alloc (.cells #[.string s[k].text, .bool s[k].list, .slice A2 s[k].sub.length cap2] 28)) _ _ _ (hiw.below (Below.alloc (Below.refl _ _) (by omega) _)) (by simp; omega) (itright_at HRT.out k hlt) cb eb db vb (lv + 1) c' d' hVa hcB hdB hcd (by omega) (by omega) hc' hd')
        have hvb := (vis_is s[k] (lv + 1) c' d' (by omega) hc').2.2
        obtain ⟨⟨r, c2, dd⟩, hT⟩ : ∃ T, s[k].vis (lv + 1) c' d' = T := ⟨_, rfl⟩
        rw [hT] at HC hvb
        have hvb2 : c2 ≤ 1024 ∧ dd ≤ 17 := by simp at hvb; omega
        obtain ⟨hv1, hv2⟩ := hvb2
        have e9 : (lv : Int) + 1 = ((lv + 1 : Nat) : Int) := by omega
        have E9 := Lib.hid e9
        cases r with
        | true =>
         have HN : Hid (visL (s.take (k + 1)) (lv + 1) (c + 1) lv = (true, c2, dd)) := Lib.hid (by rw [visL_take hlt hvs.out, hT])
         clear hi hiw hVa hT hvb e9
         go_wp2_with fail
         rw [E9.out]
         refine HC.out.mono ?_
         rintro e w2 ⟨rfl, hV2, ho2⟩
         have hon2 : Only [cb, db] w w2 := (hon.alloc _).trans ho2
         clear ho2
         go_wp2
         go_roundw
         case rel => exact ⟨k + 1, c2, dd, by omega, by go_num, HN, hV2, hon2, hv1, hv2⟩
         case measure => simp [intOf]; omega
        | false =>
         have HN : Hid (visL s (lv + 1) (c + 1) lv = (false, c2, dd)) := Lib.hid (visL_stop hlt hvs.out hT)
         clear hi hiw hVa hT hvb e9
         go_wp2_with fail
         rw [E9.out]
         refine HC.out.mono ?_
         rintro e w2 ⟨rfl, hV2, ho2⟩
         have hon2 : Only [cb, db] w w2 := (hon.alloc _).trans ho2
         clear ho2
         go_wp2
         go_ret
         rw [HX.out, HN.out]
         exact ⟨rfl, hV2, hon2⟩
       ·have hvs1 := hvs.out
        rw [List.take_of_length_le (by omega)] at hvs1
        have HN := Lib.hid hvs1
        clear hvs1
        go_wp2
        go_ret
        rw [HX.out, HN.out]
        exact ⟨rfl, HVR.out, hon⟩
    ·have HM : Hid (max d lv = lv) := Lib.hid (by omega)
     rw [HM.out] at HX
     go_enter Tryz.func141, Tryz.ntmps141
     go_wp2_with fail
     refine HF.out.mono ?_
     rintro e w1 ⟨rfl, hb0⟩
     obtain ⟨g0, g1, g2⟩ := box_cells w 28 _ _ _ w1 (by simpa using hb0)
     have hb2 : Below w.heap.size w w1 := (Below.alloc (Below.refl _ _) (Nat.le_refl _) _).trans (hb0.mono (by simp))
     have hV1 := HV.out.below hb2
     have p1 : w1.cell? ⟨cb, 0, none⟩ = some (.int .i64 c) := cell_of_one hV1.cnt
     have p1f : w1.frozen? ⟨cb, 0, none⟩ = false := free_of_one hV1.cnt
     have p3 : w1.cell? ⟨db, 0, none⟩ = some (.int .i64 d) := cell_of_one hV1.dp
     have p3f : w1.frozen? ⟨db, 0, none⟩ = false := free_of_one hV1.dp
     have HV1 := Lib.hid hV1
     have hbz := hb2.size
     clear hV1 hb0 q1 q2 q3 HF
     go_wp2_with fail
     all_goals
      go_loopw [31] (fun i wr => ∃ k c' d' : Nat, k ≤ s.length ∧ i = .int .i64 k ∧ Hid (visL (s.take k) (lv + 1) (c + 1) lv = (true, c', d')) ∧ VarsA wr cb eb db vb c' d' ∧ Only [cb, db] w wr ∧ c' ≤ 1024 ∧ d' ≤ 17) (fun i _ => s.length - (intOf i).toNat)
      case atStart =>
       refine ⟨0, c + 1, lv, by omega, rfl, Lib.hid (by simp [visL]), HV1.out.step hcd (by omega) (by omega), ?_, by omega, by omega⟩
       exact (((Only.of_below hb2 (Nat.le_refl _)).mono (by simp)).setCell (by simp) _).setCell (by simp) _
      case round =>
       obtain ⟨k, c', d', hk, rfl, hvs, hVr, hon, hc', hd'⟩ := hrel
       have q4 : wr.cell? ⟨vb, 0, none⟩ = some (.func (.func 141) #[] #[.pointer (some ⟨cb, 0, none⟩), .pointer (some ⟨eb, 0, none⟩), .pointer (some ⟨db, 0, none⟩), .pointer (some ⟨vb, 0, none⟩)]) := cell_of_one hVr.vis
       have hbr : Below B w wr := hon.below hB (by simp; omega)
       have hrz := hon.size
       have l4r : vb < wr.heap.size := by omega
       have HVR := Lib.hid hVr
       clear hVr
       by_cases hlt : k < s.length
       ·obtain ⟨b, o, d0, d1, d2, rfl, hbB, e0, e1', e2, hi⟩ := HS.out.at_ k hlt
        simp only [Nat.zero_add] at e0 e1' e2
        replace e0 := (hbr.cell (p := ⟨b, o + k * 3, none⟩) hbB).trans e0
        replace e1' := (hbr.cell (p := ⟨b, o + k * 3 + 1, none⟩) hbB).trans e1'
        replace e2 := (hbr.cell (p := ⟨b, o + k * 3 + 2, none⟩) hbB).trans e2
        obtain ⟨A2, cap2, rfl, rfl, rfl, _⟩ := hi.open_
        have hmem := List.getElem_mem hlt
        have hiw := hi.below hbr
        have hVa := HVR.out.below (Below.alloc (Below.refl _ wr) (Nat.le_refl _) (.cells #[.string s[k].text, .bool s[k].list, .slice A2 s[k].sub.length cap2] 28))
        have HC := Lib.hid (IH.out _ hmem B (wr.alloc (.cells #[.string s[k].text, .bool s[k].list, .slice A2 s[k].sub.length cap2] 28)) _ _ _ (hiw.below (Below.alloc (Below.refl _ _) (by omega) _)) (by simp; omega) (itright_at HRT.out k hlt) cb eb db vb (lv + 1) c' d' hVa hcB hdB hcd (by omega) (by omega) hc' hd')
        have hvb := (vis_is s[k] (lv + 1) c' d' (by omega) hc').2.2
        obtain ⟨⟨r, c2, dd⟩, hT⟩ : ∃ T, s[k].vis (lv + 1) c' d' = T := ⟨_, rfl⟩
        rw [hT] at HC hvb
        have hvb2 : c2 ≤ 1024 ∧ dd ≤ 17 := by simp at hvb; omega
        obtain ⟨hv1, hv2⟩ := hvb2
        have e9 : (lv : Int) + 1 = ((lv + 1 : Nat) : Int) := by omega
        have E9 := Lib.hid e9
        cases r with
        | true =>
         have HN : Hid (visL (s.take (k + 1)) (lv + 1) (c + 1) lv = (true, c2, dd)) := Lib.hid (by rw [visL_take hlt hvs.out, hT])
         clear hi hiw hVa hT hvb e9
         go_wp2_with fail
         rw [E9.out]
         refine HC.out.mono ?_
         rintro e w2 ⟨rfl, hV2, ho2⟩
         have hon2 : Only [cb, db] w w2 := (hon.alloc _).trans ho2
         clear ho2
         go_wp2
         go_roundw
         case rel => exact ⟨k + 1, c2, dd, by omega, by go_num, HN, hV2, hon2, hv1, hv2⟩
         case measure => simp [intOf]; omega
        | false =>
         have HN : Hid (visL s (lv + 1) (c + 1) lv = (false, c2, dd)) := Lib.hid (visL_stop hlt hvs.out hT)
         clear hi hiw hVa hT hvb e9
         go_wp2_with fail
         rw [E9.out]
         refine HC.out.mono ?_
         rintro e w2 ⟨rfl, hV2, ho2⟩
         have hon2 : Only [cb, db] w w2 := (hon.alloc _).trans ho2
         clear ho2
         go_wp2
         go_ret
         rw [HX.out, HN.out]
         exact ⟨rfl, hV2, hon2⟩
       ·have hvs1 := hvs.out
        rw [List.take_of_length_le (by omega)] at hvs1
        have HN := Lib.hid hvs1
        clear hvs1
        go_wp2
        go_ret
        rw [HX.out, HN.out]
        exact ⟨rfl, HVR.out, hon⟩
    ·have HM : Hid (max d lv = d) := Lib.hid (by omega)
     rw [HM.out] at HX
     go_enter Tryz.func141, Tryz.ntmps141
     go_wp2_with fail
     refine HF.out.mono ?_
     rintro e w1 ⟨rfl, hb0⟩
     obtain ⟨g0, g1, g2⟩ := box_cells w 28 _ _ _ w1 (by simpa using hb0)
     have hb2 : Below w.heap.size w w1 := (Below.alloc (Below.refl _ _) (Nat.le_refl _) _).trans (hb0.mono (by simp))
     have hV1 := HV.out.below hb2
     have p1 : w1.cell? ⟨cb, 0, none⟩ = some (.int .i64 c) := cell_of_one hV1.cnt
     have p1f : w1.frozen? ⟨cb, 0, none⟩ = false := free_of_one hV1.cnt
     have p3 : w1.cell? ⟨db, 0, none⟩ = some (.int .i64 d) := cell_of_one hV1.dp
     have p3f : w1.frozen? ⟨db, 0, none⟩ = false := free_of_one hV1.dp
     have HV1 := Lib.hid hV1
     have hbz := hb2.size
     clear hV1 hb0 q1 q2 q3 HF
     go_wp2_with fail
     all_goals
      go_loopw [31] (fun i wr => ∃ k c' d' : Nat, k ≤ s.length ∧ i = .int .i64 k ∧ Hid (visL (s.take k) (lv + 1) (c + 1) d = (true, c', d')) ∧ VarsA wr cb eb db vb c' d' ∧ Only [cb, db] w wr ∧ c' ≤ 1024 ∧ d' ≤ 17) (fun i _ => s.length - (intOf i).toNat)
      case atStart =>
       refine ⟨0, c + 1, d, by omega, rfl, Lib.hid (by simp [visL]), HV1.out.step hcd (by omega) (by omega), ?_, by omega, by omega⟩
       exact (((Only.of_below hb2 (Nat.le_refl _)).mono (by simp)).setCell (by simp) _).setCell (by simp) _
      case round =>
       obtain ⟨k, c', d', hk, rfl, hvs, hVr, hon, hc', hd'⟩ := hrel
       have q4 : wr.cell? ⟨vb, 0, none⟩ = some (.func (.func 141) #[] #[.pointer (some ⟨cb, 0, none⟩), .pointer (some ⟨eb, 0, none⟩), .pointer (some ⟨db, 0, none⟩), .pointer (some ⟨vb, 0, none⟩)]) := cell_of_one hVr.vis
       have hbr : Below B w wr := hon.below hB (by simp; omega)
       have hrz := hon.size
       have l4r : vb < wr.heap.size := by omega
       have HVR := Lib.hid hVr
       clear hVr
       by_cases hlt : k < s.length
       ·obtain ⟨b, o, d0, d1, d2, rfl, hbB, e0, e1', e2, hi⟩ := HS.out.at_ k hlt
        simp only [Nat.zero_add] at e0 e1' e2
        replace e0 := (hbr.cell (p := ⟨b, o + k * 3, none⟩) hbB).trans e0
        replace e1' := (hbr.cell (p := ⟨b, o + k * 3 + 1, none⟩) hbB).trans e1'
        replace e2 := (hbr.cell (p := ⟨b, o + k * 3 + 2, none⟩) hbB).trans e2
        obtain ⟨A2, cap2, rfl, rfl, rfl, _⟩ := hi.open_
        have hmem := List.getElem_mem hlt
        have hiw := hi.below hbr
        have hVa := HVR.out.below (Below.alloc (Below.refl _ wr) (Nat.le_refl _) (.cells #[.string s[k].text, .bool s[k].list, .slice A2 s[k].sub.length cap2] 28))
        have HC := Lib.hid (IH.out _ hmem B (wr.alloc (.cells #[.string s[k].text, .bool s[k].list, .slice A2 s[k].sub.length cap2] 28)) _ _ _ (hiw.below (Below.alloc (Below.refl _ _) (by omega) _)) (by simp; omega) (itright_at HRT.out k hlt) cb eb db vb (lv + 1) c' d' hVa hcB hdB hcd (by omega) (by omega) hc' hd')
        have hvb := (vis_is s[k] (lv + 1) c' d' (by omega) hc').2.2
        obtain ⟨⟨r, c2, dd⟩, hT⟩ : ∃ T, s[k].vis (lv + 1) c' d' = T := ⟨_, rfl⟩
        rw [hT] at HC hvb
        have hvb2 : c2 ≤ 1024 ∧ dd ≤ 17 := by simp at hvb; omega
        obtain ⟨hv1, hv2⟩ := hvb2
        have e9 : (lv : Int) + 1 = ((lv + 1 : Nat) : Int) := by omega
        have E9 := Lib.hid e9
        cases r with
        | true =>
         have HN : Hid (visL (s.take (k + 1)) (lv + 1) (c + 1) d = (true, c2, dd)) := Lib.hid (by rw [visL_take hlt hvs.out, hT])
         clear hi hiw hVa hT hvb e9
         go_wp2_with fail
         rw [E9.out]
         refine HC.out.mono ?_
         rintro e w2 ⟨rfl, hV2, ho2⟩
         have hon2 : Only [cb, db] w w2 := (hon.alloc _).trans ho2
         clear ho2
         go_wp2
         go_roundw
         case rel => exact ⟨k + 1, c2, dd, by omega, by go_num, HN, hV2, hon2, hv1, hv2⟩
         case measure => simp [intOf]; omega
        | false =>
         have HN : Hid (visL s (lv + 1) (c + 1) d = (false, c2, dd)) := Lib.hid (visL_stop hlt hvs.out hT)
         clear hi hiw hVa hT hvb e9
         go_wp2_with fail
         rw [E9.out]
         refine HC.out.mono ?_
         rintro e w2 ⟨rfl, hV2, ho2⟩
         have hon2 : Only [cb, db] w w2 := (hon.alloc _).trans ho2
         clear ho2
         go_wp2
         go_ret
         rw [HX.out, HN.out]
         exact ⟨rfl, hV2, hon2⟩
       ·have hvs1 := hvs.out
        rw [List.take_of_length_le (by omega)] at hvs1
        have HN := Lib.hid hvs1
        clear hvs1
        go_wp2
        go_ret
        rw [HX.out, HN.out]
        exact ⟨rfl, HVR.out, hon⟩
def scanWA (w : World) (c0 c1 c2 : Value) : World :=
 ((((w.alloc (.cells #[c0, c1, c2] 28)).alloc (.cells #[.func (.func 106) #[] #[]] 33)).alloc (.cells #[.int .i64 0] 3)).alloc (.cells #[.int .i64 0] 3)).alloc
  (.cells #[.func (.func 141) #[] #[.pointer (some ⟨w.heap.size + 1 + 1, 0, none⟩), .pointer (some ⟨w.heap.size + 1, 0, none⟩), .pointer (some ⟨w.heap.size + 1 + 1 + 1, 0, none⟩), .pointer (some ⟨w.heap.size + 1 + 1 + 1 + 1, 0, none⟩)]] 181)
theorem scanA_vars (w : World) (c0 c1 c2 : Value) : VarsA (scanWA w c0 c1 c2) (w.heap.size + 1 + 1) (w.heap.size + 1) (w.heap.size + 1 + 1 + 1) (w.heap.size + 1 + 1 + 1 + 1) 0 0 := by
 unfold scanWA
 refine ⟨?_, ?_, ?_, ?_⟩
 ·refine Blk.alloc (Blk.alloc ?_ _) _
  have := Blk.new ((w.alloc (.cells #[c0, c1, c2] 28)).alloc (.cells #[.func (.func 106) #[] #[]] 33)) 3 #[.int .i64 0]
  simpa using this
 ·refine Blk.alloc (Blk.alloc (Blk.alloc ?_ _) _) _
  have := Blk.new (w.alloc (.cells #[c0, c1, c2] 28)) 33 #[.func (.func 106) #[] #[]]
  simpa using this
 ·refine Blk.alloc ?_ _
  have := Blk.new (((w.alloc (.cells #[c0, c1, c2] 28)).alloc (.cells #[.func (.func 106) #[] #[]] 33)).alloc (.cells #[.int .i64 0] 3)) 3 #[.int .i64 0]
  simpa using this
 ·have := Blk.new ((((w.alloc (.cells #[c0, c1, c2] 28)).alloc (.cells #[.func (.func 106) #[] #[]] 33)).alloc (.cells #[.int .i64 0] 3)).alloc (.cells #[.int .i64 0] 3)) 181 #[.func (.func 141) #[] #[.pointer (some ⟨w.heap.size + 1 + 1, 0, none⟩), .pointer (some ⟨w.heap.size + 1, 0, none⟩), .pointer (some ⟨w.heap.size + 1 + 1 + 1, 0, none⟩), .pointer (some ⟨w.heap.size + 1 + 1 + 1 + 1, 0, none⟩)]]
  simpa using this
theorem scanA_below (w : World) (c0 c1 c2 : Value) : Below w.heap.size w (scanWA w c0 c1 c2) := by
 unfold scanWA
 exact blw
theorem scanA_size (w : World) (c0 c1 c2 : Value) : (scanWA w c0 c1 c2).heap.size = w.heap.size + 5 := by
 unfold scanWA; simp
theorem scanA_c (x : It) (B : Nat) (w : World) (c0 c1 c2 : Value) (h : ItIn w B x c0 c1 c2) (hB : B ≤ w.heap.size) (hrx : x.right = true) :
 Calls Tryz.prog 101 #[.agg #[c0, c1, c2], .func (.func 106) #[] #[]] w fun e w' => e = .returned (scanV x) ∧ Below w.heap.size w w' := by
 have hsz := scanA_size w c0 c1 c2
 have HC := Lib.hid (visitA_c x B (scanWA w c0 c1 c2) c0 c1 c2 (h.below ((scanA_below w c0 c1 c2).mono hB)) (by omega) hrx _ _ _ _ 1 0 0 (scanA_vars w c0 c1 c2) (by omega) (by omega) (by omega) (by omega) (by omega) (by omega) (by omega))
 have hsb := scanA_below w c0 c1 c2
 have HB := Lib.hid hsb
 have hm : x.may = (x.vis 1 0 0).1 := (vis_may x).symm
 have hv : (x.vis 1 0 0).1 = true → (x.vis 1 0 0).2 = (0 + x.count, max 0 (1 - 1 + x.deep)) := (vis_is x 1 0 0 (by omega) (by omega)).2.1
 obtain ⟨⟨r, c, d⟩, hT⟩ : ∃ T, x.vis 1 0 0 = T := ⟨_, rfl⟩
 rw [hT] at HC hm hv
 have HM : Hid (scanV x = .tuple #[.int .i64 (if r then (c : Int) else 0), .int .i64 (if r then (d : Int) else 0), .bool r]) := Lib.hid (by
  dsimp only at hm hv
  unfold scanV
  rw [hm]
  cases r with
  | false => rfl
  | true =>
   have h2 := hv rfl
   injection h2 with h3 h4
   subst h3; subst h4
   simp)
 clear hm hv
 obtain ⟨A, cap, rfl, rfl, rfl, _⟩ := h.open_
 have HZ := Lib.hid hsz
 clear hT h hsb hsz
 cases r with
 | true =>
  go_enter Tryz.func101, Tryz.ntmps101
  go_wp2_with fail
  refine HC.out.mono ?_
  rintro e w2 ⟨rfl, hV, ho⟩
  have hb2 : Below w.heap.size w w2 := HB.out.trans (ho.below (by have := HZ.out; omega) (by simp; omega))
  have p1 : w2.cell? ⟨w.heap.size + 1 + 1, 0, none⟩ = some (.int .i64 c) := cell_of_one hV.cnt
  have p1f : w2.frozen? ⟨w.heap.size + 1 + 1, 0, none⟩ = false := free_of_one hV.cnt
  have p3 : w2.cell? ⟨w.heap.size + 1 + 1 + 1, 0, none⟩ = some (.int .i64 d) := cell_of_one hV.dp
  have p3f : w2.frozen? ⟨w.heap.size + 1 + 1 + 1, 0, none⟩ = false := free_of_one hV.dp
  clear ho hV
  go_wp2
  go_region
  all_goals go_wp2
  all_goals
   refine bodyPost_ret (v := .tuple #[.int .i64 c, .int .i64 d, .bool true]) (by simp [results, Tryz.results101, go_sem, p1, p3]) rfl ⟨by rw [HM.out]; rfl, ?_⟩
   exact (((hb2.setCell (by simp; omega) _).setCell (by simp; omega) _).drew)
 | false =>
  go_enter Tryz.func101, Tryz.ntmps101
  go_wp2_with fail
  refine HC.out.mono ?_
  rintro e w2 ⟨rfl, hV, ho⟩
  have hb2 : Below w.heap.size w w2 := HB.out.trans (ho.below (by have := HZ.out; omega) (by simp; omega))
  have p1 : w2.cell? ⟨w.heap.size + 1 + 1, 0, none⟩ = some (.int .i64 c) := cell_of_one hV.cnt
  have p1f : w2.frozen? ⟨w.heap.size + 1 + 1, 0, none⟩ = false := free_of_one hV.cnt
  have p3 : w2.cell? ⟨w.heap.size + 1 + 1 + 1, 0, none⟩ = some (.int .i64 d) := cell_of_one hV.dp
  have p3f : w2.frozen? ⟨w.heap.size + 1 + 1 + 1, 0, none⟩ = false := free_of_one hV.dp
  clear ho hV
  go_wp2
  refine bodyPost_ret (v := .tuple #[.int .i64 0, .int .i64 0, .bool false]) (by simp [results, Tryz.results101, go_sem, p1, p3]) rfl ⟨by rw [HM.out]; rfl, ?_⟩
  exact ((hb2.setCell (by simp; omega) _).setCell (by simp; omega) _)
theorem itCount_c (x : It) (B : Nat) (w : World) (c0 c1 c2 : Value) (h : ItIn w B x c0 c1 c2) (hB : B ≤ w.heap.size) (hm : x.may = true) (hrx : x.right = true) :
 Calls Tryz.prog 76 #[.agg #[c0, c1, c2]] w fun e w' => e = .returned (.int .i64 x.count) ∧ Below w.heap.size w w' := by
 have HC := Lib.hid (scanA_c x B (w.alloc (.cells #[c0, c1, c2] 28)) c0 c1 c2 (h.below blw) (by simp; omega) hrx)
 have hab : scanV x = .tuple #[.int .i64 x.count, .int .i64 x.deep, .bool true] := by unfold scanV; rw [hm]; rfl
 rw [hab] at HC
 obtain ⟨A, cap, rfl, rfl, rfl, _⟩ := h.open_
 clear h hab
 generalize x.deep = D at *
 generalize x.count = R at *
 go_enter Tryz.func76, Tryz.ntmps76
 go_wp2_with fail
 refine HC.out.mono ?_
 rintro e w2 ⟨rfl, hb⟩
 go_wp2
 go_ret
 exact ⟨rfl, (Below.alloc (Below.refl _ _) (Nat.le_refl _) _).trans (hb.mono (by simp))⟩
end Go.Proofs.YtnfpgadegpmhkaaGreatDoor
