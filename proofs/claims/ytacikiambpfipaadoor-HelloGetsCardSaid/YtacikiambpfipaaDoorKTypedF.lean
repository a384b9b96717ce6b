/- Package typed: Fits. -/
import Derived.Test.YtacikiambpfipaaDoorKTypedA
import Derived.Test.YtacikiambpfipaaDoorKTySchema
import Derived.Test.YtacikiambpfipaaDoorKA5
import Derived.Deep.RegionHeld3
namespace Go.Proofs.YtacikiambpfipaaDoor
set_option linter.unusedVariables false
set_option linter.unusedSimpArgs false
open Go.RowKit

def atWay (k : Int) (i j : Nat) : Prop := (k = 4 ∧ j = 0) ∨ (k ≠ 4 ∧ j = i)
set_option maxHeartbeats 400000 in
theorem within_c (k z ta : Int) (b o n cap i j : Nat) (k' z' ta' : Int) (A' : Option Addr) (n' cap' : Nat) (w : World) (hj : atWay k i j) (hjn : j < n) (hn : n ≤ 9223372036854775807) (hb : b < w.heap.size)
    (e0 : w.cell? ⟨b, o + j * 4, none⟩ = some (.int .i64 k')) (e1 : w.cell? ⟨b, o + j * 4 + 1, none⟩ = some (.int .i64 z')) (e2 : w.cell? ⟨b, o + j * 4 + 2, none⟩ = some (.slice A' n' cap')) (e3 : w.cell? ⟨b, o + j * 4 + 3, none⟩ = some (.int .i64 ta')) :
    Calls Tryd.prog 100 #[.agg #[.int .i64 k, .int .i64 z, .slice (some ⟨b, o, none⟩) n cap, .int .i64 ta], .int .i64 i] w fun e w' => e = .returned (.agg #[.int .i64 k', .int .i64 z', .slice A' n' cap', .int .i64 ta']) ∧ Below w.heap.size w w' := by
  rcases hj with ⟨rfl, rfl⟩ | ⟨hk, rfl⟩
  · simp only [Nat.zero_mul, Nat.add_zero] at e0 e1 e2 e3
    go_enter Tryd.func100, Tryd.ntmps100
    go_wp2
    refine bodyPost_ret (v := .agg #[.int .i64 k', .int .i64 z', .slice A' n' cap', .int .i64 ta']) (by simp [results, Tryd.results100, go_sem]) rfl ⟨rfl, ?_⟩
    first | exact (by repeat (first | exact Below.refl _ _ | assumption | with_reducible refine Below.drewN' ?_ _ | with_reducible refine Below.drew ?_ | ((with_reducible refine Below.alloc' ?_ ?_ _); · (first | omega | (simp <;> omega))))) | trace_state
  · have hk4 : (k == 4) = false := beq_eq_false_iff_ne.2 hk
    clear hk
    go_enter Tryd.func100, Tryd.ntmps100
    go_wp2
    refine bodyPost_ret (v := .agg #[.int .i64 k', .int .i64 z', .slice A' n' cap', .int .i64 ta']) (by simp [results, Tryd.results100, go_sem]) rfl ⟨rfl, ?_⟩
    first | exact (by repeat (first | exact Below.refl _ _ | assumption | with_reducible refine Below.drewN' ?_ _ | with_reducible refine Below.drew ?_ | ((with_reducible refine Below.alloc' ?_ ?_ _); · (first | omega | (simp <;> omega))))) | trace_state

/-- At which place the type within stands. -/
def atI (k : Int) (i : Nat) : Nat := if k = 4 then 0 else i
/-- The variables of the walk over a value: the table, the walk itself. -/
structure FV (w : World) (ob fb g : Nat) : Prop where
  of_ : Blk w ob 125 #[.map (some g)]
  fn : Blk w fb 127 #[.func (.func 99) #[] #[.pointer (some ⟨ob, 0, none⟩), .pointer (some ⟨fb, 0, none⟩)]]
  mp : w.heap[g]? = some (.map kEs.toArray 5)
theorem FV.keep {w w' : World} {ob fb g B : Nat} (h : FV w ob fb g) (hb : Below B w w') (h1 : ob < B) (h2 : fb < B) (h3 : g < B) : FV w' ob fb g := ⟨h.of_.keep hb h1, h.fn.keep hb h2, (hb.block g h3).trans h.mp⟩
theorem FV.lt {w : World} {ob fb g : Nat} (h : FV w ob fb g) : ob < w.heap.size ∧ fb < w.heap.size ∧ g < w.heap.size := ⟨h.of_.lt, h.fn.lt, lt_of_block h.mp⟩
theorem FV.below {w w' : World} {ob fb g : Nat} (h : FV w ob fb g) (hb : Below w.heap.size w w') : FV w' ob fb g := h.keep hb h.lt.1 h.lt.2.1 h.lt.2.2
theorem itright_at {t : ByteArray} {l : Bool} {s : List It} (h : (It.mk t l s).right = true) (k : Nat) (hk : k < s.length) : s[k].right = true := by
  simp only [It.right, Bool.and_eq_true] at h
  have : ∀ s : List It, rightL s = true → ∀ (k : Nat) (hk : k < s.length), s[k].right = true := by
    intro s
    induction s with
    | nil => intro _ k hk; simp at hk
    | cons x xs ih =>
      intro h k hk
      simp only [rightL, Bool.and_eq_true] at h
      cases k with
      | zero => exact h.1
      | succ k => simpa using ih h.2 k (by simpa using hk)
  exact this s h.2 k hk
theorem is1_1 (z : Int) (l : List Ty) (ta : Int) (tx : ByteArray) (b : Bool) (m : Nat) : (!b && decide ((tx.size : Int) ≤ z) && !lead0 tx.data.toList) = is1 (Ty.mk 1 z l ta) tx b m := rfl
theorem is1_2 (z : Int) (l : List Ty) (ta : Int) (tx : ByteArray) (b : Bool) (m : Nat) : (!b && decide ((tx.size : Int) = z)) = is1 (Ty.mk 2 z l ta) tx b m := rfl
theorem is1_3 (z : Int) (l : List Ty) (ta : Int) (tx : ByteArray) (b : Bool) (m : Nat) : (!b && decide ((tx.size : Int) ≤ z)) = is1 (Ty.mk 3 z l ta) tx b m := rfl
theorem is1_4 (z : Int) (l : List Ty) (ta : Int) (tx : ByteArray) (b : Bool) (m : Nat) : (b && decide ((m : Int) ≤ z)) = is1 (Ty.mk 4 z l ta) tx b m := rfl
theorem is1_5 (z : Int) (l : List Ty) (ta : Int) (tx : ByteArray) (b : Bool) (m : Nat) : (b && decide (m ≤ l.length) && decide ((l.length : Int) - ta ≤ m)) = is1 (Ty.mk 5 z l ta) tx b m := rfl
theorem text_nil {k z : Int} {l : List Ty} {ta : Int} {tx : ByteArray} {b : Bool} {s : List It} (h1 : is1 (Ty.mk k z l ta) tx b s.length = true) (hr : (It.mk tx b s).right = true) (hk : k = 1 ∨ k = 2 ∨ k = 3) : s = [] := by
  have hb : b = false := by
    cases b with
    | false => rfl
    | true => rcases hk with rfl | rfl | rfl <;> simp [is1] at h1
  subst hb
  simp only [It.right, Bool.and_eq_true] at hr
  exact List.eq_nil_of_length_eq_zero (by simpa [formed] using hr.1)
set_option maxRecDepth 100000 in
set_option maxHeartbeats 3200000 in
theorem fitsC_c : ∀ (x : It) (B : Nat) (w : World) (c0 c1 c2 : Value), ItIn w B x c0 c1 c2 → B ≤ w.heap.size → x.right = true → ∀ (ty : Ty) (t0 t1 t2 t3 : Value), TyIn w B ty t0 t1 t2 t3 → ty.right = true → ∀ ob fb g, FV w ob fb g →
    Calls Tryd.prog 99 #[.agg #[t0, t1, t2, t3], .agg #[c0, c1, c2], .pointer (some ⟨ob, 0, none⟩), .pointer (some ⟨fb, 0, none⟩)] w fun e w' => e = .returned (.bool (x.isOf ty)) ∧ Below w.heap.size w w' := by
  intro x
  induction x using It.ind with
  | h t l s ih =>
    intro B w c0 c1 c2 h hB hr ty t0 t1 t2 t3 hT htr ob fb g hV
    obtain ⟨rfl, rfl, ht, hs, A, cap, rfl, hcap, hcm, hsub⟩ := h
    have IH := Lib.hid ih
    have HS := Lib.hid hsub
    clear ih hsub
    obtain ⟨k, z, tl, ta⟩ := ty
    obtain ⟨rfl, rfl, rfl, hk, hz, hta, htl, A', cap', rfl, htc, htm, htys⟩ := hT
    obtain ⟨hok, hrt⟩ := right_ok htr
    have HRT := Lib.hid hr
    have HTS := Lib.hid htys
    have HTR := Lib.hid hrt
    have HR : Hid ((It.mk t l s).isOf (Ty.mk k z tl ta) = (is1 (Ty.mk k z tl ta) t l s.length && isOfL s (Ty.mk k z tl ta) 0)) := Lib.hid (by simp only [It.isOf])
    generalize (It.mk t l s).isOf (Ty.mk k z tl ta) = R at *
    unfold okI at hk hz hta
    clear hr htys hrt htr
    rcases ok_ways hok with ⟨rfl, h3, hn, rfl⟩ | ⟨rfl, h3, h4, hn, rfl⟩ | ⟨rfl, h3, h4, hn, rfl⟩ | ⟨rfl, h3, h4, hn, rfl⟩ | ⟨rfl, rfl, h4, h5, h6⟩
    · have HNL := Lib.hid hn
      clear hok IH HS hn
      have HLK := Lib.hid (run_getI (w := ((w.alloc (.cells #[.int .i64 1, .int .i64 z, .slice A' tl.length cap', .int .i64 0] 24)).alloc (.cells #[.string t, .bool l, .slice A s.length cap] 27))) (es := kEs) (c := 5) (((hV.below ((Below.refl _ _).alloc (Nat.le_refl _) _)).below ((Below.refl _ _).alloc (Nat.le_refl _) _)).mp) 1 _ _ rfl)
      have hlk := HLK.out
      simp only [kUint, kFixed, kBytes, kList, kStruct] at hlk
      have hf : ∀ w, (Instr.field 130 (.agg #[.func (.func 133) #[] #[], .func (.func 132) #[] #[]]) 0).run Tryd.prog w = .ok (.func (.func 133) #[] #[]) w := fun _ => by kernel_rfl
      have h0f : w.cell? ⟨ob, 0, none⟩ = some (.map (some g)) := hV.of_.cell 0
      have hl1 := hV.lt.1
      obtain ⟨b1, hb1⟩ : ∃ b1, is1 (Ty.mk 1 z tl 0) t l s.length = b1 := ⟨_, rfl⟩
      have HB1 := Lib.hid hb1
      have HV := Lib.hid hV
      clear hb1 hV HLK
      go_enter Tryd.func99, Tryd.ntmps99
      go_wp2_with fail
      refine (fitU_c 1 z 0 _ t l _ _ ht (by omega)).mono ?_
      rintro e w1 ⟨rfl, hb⟩
      have hbx := hb
      simp only [World.size_alloc] at hbx
      have HBW : Hid (Below w.heap.size w w1) := Lib.hid (((Below.refl w.heap.size w).alloc (Nat.le_refl _) _ |>.alloc (by simp) _).trans (hbx.mono (by omega)))
      have M1 : Hid (Blk w1 w.heap.size 24 #[.int .i64 1, .int .i64 z, .slice A' tl.length cap', .int .i64 0]) := Lib.hid (((Blk.new w _ _).alloc _).only (Only.of_below hb (Nat.le_refl _)) (by simp))
      have M2 : Hid (Blk w1 (w.heap.size + 1) 27 #[.string t, .bool l, .slice A s.length cap]) := Lib.hid ((show Blk _ (w.heap.size + 1) _ _ from by have := Blk.new (w.alloc (.cells #[.int .i64 1, .int .i64 z, .slice A' tl.length cap', .int .i64 0] 24)) 27 #[.string t, .bool l, .slice A s.length cap]; simpa using this).only (Only.of_below hb (Nat.le_refl _)) (by simp))
      have hz1 := hbx.size
      simp only [World.size_alloc] at hz1
      clear hb hbx hlk h0f
      rw [is1_1 z tl 0 t l s.length, HB1.out]
      obtain ⟨g0, g1, g2, _, _, _⟩ := blk3 M2.out
      cases b1 with
      | false =>
        have HX : Hid (R = false) := Lib.hid (by rw [HR.out, HB1.out]; rfl)
        go_wp2
        go_ret
        exact ⟨by rw [HX.out]; rfl, HBW.out⟩
      | true =>
        have hs0 := text_nil HB1.out HRT.out (by first | exact .inl rfl | exact .inr (.inl rfl) | exact .inr (.inr rfl))
        have HX : Hid (R = true) := Lib.hid (by rw [HR.out, HB1.out, hs0]; rfl)
        have hs00 : s.length = 0 := by rw [hs0]; rfl
        clear hs0
        rw [hs00] at g2
        go_wp2_with fail
        refine wp_loop_rounds 1 ?_
        rw [rounds_succ]
        go_wp2
        go_ret
        exact ⟨by rw [HX.out]; rfl, HBW.out⟩
    · have HNL := Lib.hid hn
      clear hok IH HS hn
      have HLK := Lib.hid (run_getI (w := ((w.alloc (.cells #[.int .i64 2, .int .i64 z, .slice A' tl.length cap', .int .i64 0] 24)).alloc (.cells #[.string t, .bool l, .slice A s.length cap] 27))) (es := kEs) (c := 5) (((hV.below ((Below.refl _ _).alloc (Nat.le_refl _) _)).below ((Below.refl _ _).alloc (Nat.le_refl _) _)).mp) 2 _ _ rfl)
      have hlk := HLK.out
      simp only [kUint, kFixed, kBytes, kList, kStruct] at hlk
      have hf : ∀ w, (Instr.field 130 (.agg #[.func (.func 134) #[] #[], .func (.func 135) #[] #[]]) 0).run Tryd.prog w = .ok (.func (.func 134) #[] #[]) w := fun _ => by kernel_rfl
      have h0f : w.cell? ⟨ob, 0, none⟩ = some (.map (some g)) := hV.of_.cell 0
      have hl1 := hV.lt.1
      obtain ⟨b1, hb1⟩ : ∃ b1, is1 (Ty.mk 2 z tl 0) t l s.length = b1 := ⟨_, rfl⟩
      have HB1 := Lib.hid hb1
      have HV := Lib.hid hV
      clear hb1 hV HLK
      go_enter Tryd.func99, Tryd.ntmps99
      go_wp2_with fail
      refine (fitF_c 2 z 0 A' tl.length cap' t l A s.length cap _ ht htl hs (by omega) (by omega)).mono ?_
      rintro e w1 ⟨rfl, hb⟩
      have hbx := hb
      simp only [World.size_alloc] at hbx
      have HBW : Hid (Below w.heap.size w w1) := Lib.hid (((Below.refl w.heap.size w).alloc (Nat.le_refl _) _ |>.alloc (by simp) _).trans (hbx.mono (by omega)))
      have M1 : Hid (Blk w1 w.heap.size 24 #[.int .i64 2, .int .i64 z, .slice A' tl.length cap', .int .i64 0]) := Lib.hid (((Blk.new w _ _).alloc _).only (Only.of_below hb (Nat.le_refl _)) (by simp))
      have M2 : Hid (Blk w1 (w.heap.size + 1) 27 #[.string t, .bool l, .slice A s.length cap]) := Lib.hid ((show Blk _ (w.heap.size + 1) _ _ from by have := Blk.new (w.alloc (.cells #[.int .i64 2, .int .i64 z, .slice A' tl.length cap', .int .i64 0] 24)) 27 #[.string t, .bool l, .slice A s.length cap]; simpa using this).only (Only.of_below hb (Nat.le_refl _)) (by simp))
      have hz1 := hbx.size
      simp only [World.size_alloc] at hz1
      clear hb hbx hlk h0f
      rw [is1_2 z tl 0 t l s.length, HB1.out]
      obtain ⟨g0, g1, g2, _, _, _⟩ := blk3 M2.out
      cases b1 with
      | false =>
        have HX : Hid (R = false) := Lib.hid (by rw [HR.out, HB1.out]; rfl)
        go_wp2
        go_ret
        exact ⟨by rw [HX.out]; rfl, HBW.out⟩
      | true =>
        have hs0 := text_nil HB1.out HRT.out (by first | exact .inl rfl | exact .inr (.inl rfl) | exact .inr (.inr rfl))
        have HX : Hid (R = true) := Lib.hid (by rw [HR.out, HB1.out, hs0]; rfl)
        have hs00 : s.length = 0 := by rw [hs0]; rfl
        clear hs0
        rw [hs00] at g2
        go_wp2_with fail
        refine wp_loop_rounds 1 ?_
        rw [rounds_succ]
        go_wp2
        go_ret
        exact ⟨by rw [HX.out]; rfl, HBW.out⟩
    · have HNL := Lib.hid hn
      clear hok IH HS hn
      have HLK := Lib.hid (run_getI (w := ((w.alloc (.cells #[.int .i64 3, .int .i64 z, .slice A' tl.length cap', .int .i64 0] 24)).alloc (.cells #[.string t, .bool l, .slice A s.length cap] 27))) (es := kEs) (c := 5) (((hV.below ((Below.refl _ _).alloc (Nat.le_refl _) _)).below ((Below.refl _ _).alloc (Nat.le_refl _) _)).mp) 3 _ _ rfl)
      have hlk := HLK.out
      simp only [kUint, kFixed, kBytes, kList, kStruct] at hlk
      have hf : ∀ w, (Instr.field 130 (.agg #[.func (.func 137) #[] #[], .func (.func 132) #[] #[]]) 0).run Tryd.prog w = .ok (.func (.func 137) #[] #[]) w := fun _ => by kernel_rfl
      have h0f : w.cell? ⟨ob, 0, none⟩ = some (.map (some g)) := hV.of_.cell 0
      have hl1 := hV.lt.1
      obtain ⟨b1, hb1⟩ : ∃ b1, is1 (Ty.mk 3 z tl 0) t l s.length = b1 := ⟨_, rfl⟩
      have HB1 := Lib.hid hb1
      have HV := Lib.hid hV
      clear hb1 hV HLK
      go_enter Tryd.func99, Tryd.ntmps99
      go_wp2_with fail
      refine (fitB_c 3 z 0 A' tl.length cap' t l A s.length cap _ ht htl hs (by omega) (by omega)).mono ?_
      rintro e w1 ⟨rfl, hb⟩
      have hbx := hb
      simp only [World.size_alloc] at hbx
      have HBW : Hid (Below w.heap.size w w1) := Lib.hid (((Below.refl w.heap.size w).alloc (Nat.le_refl _) _ |>.alloc (by simp) _).trans (hbx.mono (by omega)))
      have M1 : Hid (Blk w1 w.heap.size 24 #[.int .i64 3, .int .i64 z, .slice A' tl.length cap', .int .i64 0]) := Lib.hid (((Blk.new w _ _).alloc _).only (Only.of_below hb (Nat.le_refl _)) (by simp))
      have M2 : Hid (Blk w1 (w.heap.size + 1) 27 #[.string t, .bool l, .slice A s.length cap]) := Lib.hid ((show Blk _ (w.heap.size + 1) _ _ from by have := Blk.new (w.alloc (.cells #[.int .i64 3, .int .i64 z, .slice A' tl.length cap', .int .i64 0] 24)) 27 #[.string t, .bool l, .slice A s.length cap]; simpa using this).only (Only.of_below hb (Nat.le_refl _)) (by simp))
      have hz1 := hbx.size
      simp only [World.size_alloc] at hz1
      clear hb hbx hlk h0f
      rw [is1_3 z tl 0 t l s.length, HB1.out]
      obtain ⟨g0, g1, g2, _, _, _⟩ := blk3 M2.out
      cases b1 with
      | false =>
        have HX : Hid (R = false) := Lib.hid (by rw [HR.out, HB1.out]; rfl)
        go_wp2
        go_ret
        exact ⟨by rw [HX.out]; rfl, HBW.out⟩
      | true =>
        have hs0 := text_nil HB1.out HRT.out (by first | exact .inl rfl | exact .inr (.inl rfl) | exact .inr (.inr rfl))
        have HX : Hid (R = true) := Lib.hid (by rw [HR.out, HB1.out, hs0]; rfl)
        have hs00 : s.length = 0 := by rw [hs0]; rfl
        clear hs0
        rw [hs00] at g2
        go_wp2_with fail
        refine wp_loop_rounds 1 ?_
        rw [rounds_succ]
        go_wp2
        go_ret
        exact ⟨by rw [HX.out]; rfl, HBW.out⟩
    · clear hok
      have hj : ∀ i : Nat, i < s.length → atI 4 i < tl.length := fun i _ => by show 0 < tl.length; omega
      have hjj : ∀ i : Nat, atWay 4 i (atI 4 i) := fun i => .inl ⟨rfl, rfl⟩
      have HJ := Lib.hid (fun (_ : is1 (Ty.mk 4 z tl 0) t l s.length = true) => hj)
      have HJJ := Lib.hid hjj
      clear hj hjj hn
      have HLK := Lib.hid (run_getI (w := ((w.alloc (.cells #[.int .i64 4, .int .i64 z, .slice A' tl.length cap', .int .i64 0] 24)).alloc (.cells #[.string t, .bool l, .slice A s.length cap] 27))) (es := kEs) (c := 5) (((hV.below ((Below.refl _ _).alloc (Nat.le_refl _) _)).below ((Below.refl _ _).alloc (Nat.le_refl _) _)).mp) 4 _ _ rfl)
      have hlk := HLK.out
      simp only [kUint, kFixed, kBytes, kList, kStruct] at hlk
      have hf : ∀ w, (Instr.field 130 (.agg #[.func (.func 138) #[] #[], .func (.func 139) #[] #[]]) 0).run Tryd.prog w = .ok (.func (.func 138) #[] #[]) w := fun _ => by kernel_rfl
      have h0f : w.cell? ⟨ob, 0, none⟩ = some (.map (some g)) := hV.of_.cell 0
      have hl1 := hV.lt.1
      obtain ⟨b1, hb1⟩ : ∃ b1, is1 (Ty.mk 4 z tl 0) t l s.length = b1 := ⟨_, rfl⟩
      have HB1 := Lib.hid hb1
      have HV := Lib.hid hV
      clear hb1 hV HLK
      go_enter Tryd.func99, Tryd.ntmps99
      go_wp2_with fail
      refine (fitL_c 4 z 0 A' tl.length cap' t l A s.length cap _ ht htl hs (by omega) (by omega)).mono ?_
      rintro e w1 ⟨rfl, hb⟩
      have hbx := hb
      simp only [World.size_alloc] at hbx
      have HBW : Hid (Below w.heap.size w w1) := Lib.hid (((Below.refl w.heap.size w).alloc (Nat.le_refl _) _ |>.alloc (by simp) _).trans (hbx.mono (by omega)))
      have M1 : Hid (Blk w1 w.heap.size 24 #[.int .i64 4, .int .i64 z, .slice A' tl.length cap', .int .i64 0]) := Lib.hid (((Blk.new w _ _).alloc _).only (Only.of_below hb (Nat.le_refl _)) (by simp))
      have M2 : Hid (Blk w1 (w.heap.size + 1) 27 #[.string t, .bool l, .slice A s.length cap]) := Lib.hid ((show Blk _ (w.heap.size + 1) _ _ from by have := Blk.new (w.alloc (.cells #[.int .i64 4, .int .i64 z, .slice A' tl.length cap', .int .i64 0] 24)) 27 #[.string t, .bool l, .slice A s.length cap]; simpa using this).only (Only.of_below hb (Nat.le_refl _)) (by simp))
      have hz1 := hbx.size
      simp only [World.size_alloc] at hz1
      clear hb hbx hlk h0f
      rw [is1_4 z tl 0 t l s.length, HB1.out]
      obtain ⟨g0, g1, g2, _, _, _⟩ := blk3 M2.out
      cases b1 with
      | false =>
        have HX : Hid (R = false) := Lib.hid (by rw [HR.out, HB1.out]; rfl)
        go_wp2
        go_ret
        exact ⟨by rw [HX.out]; rfl, HBW.out⟩
      | true =>
        have HX : Hid (R = isOfL s (Ty.mk 4 z tl 0) 0) := Lib.hid (by rw [HR.out, HB1.out]; rfl)
        have HJ2 := Lib.hid (HJ.out HB1.out)
        have HV1 := Lib.hid (HV.out.below HBW.out)
        clear HJ HR
        go_wp2_with fail
        go_loopw [21] (fun i wr => ∃ kk : Nat, kk ≤ s.length ∧ i = .int .i64 kk ∧ Hid (isOfL (s.take kk) (Ty.mk 4 z tl 0) 0 = true) ∧ Below (w.heap.size + 2) w1 wr) (fun i _ => s.length - (intOf i).toNat)
        case atStart => exact ⟨0, by omega, rfl, Lib.hid (by simp [isOfL]), Below.refl _ _⟩
        case round =>
          obtain ⟨kk, hkk, rfl, hm, hbw⟩ := hrel
          have HBR := Lib.hid hbw
          have hrz := hbw.size
          clear hbw g0 g1 g2
          obtain ⟨g0, g1, g2, _, _, _⟩ := blk3 (M2.out.keep HBR.out (by omega))
          by_cases hlt : kk < s.length
          · have HVR := Lib.hid (HV1.out.keep HBR.out (by have := HV.out.lt; omega) (by have := HV.out.lt; omega) (by have := HV.out.lt; omega))
            have hbB : Below B w wr := (HBW.out.mono hB).trans (HBR.out.mono (by omega))
            obtain ⟨b, o, d0, d1, d2, rfl, hbl, e0, e1, e2, hi⟩ := HS.out.at_ kk hlt
            simp only [Nat.zero_add] at e0 e1 e2
            replace e0 := (hbB.cell (p := ⟨b, o + kk * 3, none⟩) hbl).trans e0
            replace e1 := (hbB.cell (p := ⟨b, o + kk * 3 + 1, none⟩) hbl).trans e1
            replace e2 := (hbB.cell (p := ⟨b, o + kk * 3 + 2, none⟩) hbl).trans e2
            obtain ⟨A3, cap3, rfl, rfl, rfl, _⟩ := hi.open_
            have HI1 := Lib.hid (hi.below hbB)
            obtain ⟨j, hj⟩ : ∃ j, atI 4 kk = j := ⟨_, rfl⟩
            have hjl := HJ2.out kk hlt
            have hjj := HJJ.out kk
            rw [hj] at hjl hjj
            have HJK := Lib.hid hjj
            obtain ⟨b', o', f0, f1, f2, f3, rfl, hbl', k0, k1, k2, k3, hti⟩ := HTS.out.at_ j hjl
            simp only [Nat.zero_add] at k0 k1 k2 k3
            have HAT : Hid ((Ty.mk 4 z tl 0).at kk = tl[j]) := Lib.hid (by show (tl[atI 4 kk]?).getD (.mk 0 0 [] 0) = tl[j]; rw [hj, List.getElem?_eq_getElem hjl]; rfl)
            have HTI := Lib.hid (hti.below hbB)
            obtain ⟨A4, cap4, rfl, rfl, rfl, rfl, _⟩ := hti.open_
            obtain ⟨W0, hW0⟩ : ∃ W0, wr.alloc (.cells #[.string s[kk].text, .bool s[kk].list, .slice A3 s[kk].sub.length cap3] 27) = W0 := ⟨_, rfl⟩
            have HW0 : Hid (Below wr.heap.size wr W0) := Lib.hid (by rw [← hW0]; exact (Below.refl _ wr).alloc (Nat.le_refl _) _)
            have HZ0 : Hid (W0.heap.size = wr.heap.size + 1) := Lib.hid (by rw [← hW0]; simp)
            have HK0 : Hid (Blk W0 wr.heap.size 27 #[.string s[kk].text, .bool s[kk].list, .slice A3 s[kk].sub.length cap3]) := Lib.hid (by rw [← hW0]; exact Blk.new wr _ _)
            have HWW := Lib.hid hW0
            have HWB : Hid (∀ V, Below (wr.heap.size + 1) W0 V → Below B w V ∧ Below (w.heap.size + 2) w1 V ∧ wr.heap.size + 1 ≤ V.heap.size) := Lib.hid (fun V hV => ⟨hbB.trans ((HW0.out.mono (by have := hbB.size; omega)).trans (hV.mono (by have := hbB.size; omega))), HBR.out.trans ((HW0.out.mono (by omega)).trans (hV.mono (by omega))), by have := hV.size; have := HZ0.out; omega⟩)
            have HKP : Hid (∀ V, Below (wr.heap.size + 1) W0 V → V.cell? ⟨fb, 0, none⟩ = some (.func (.func 99) #[] #[.pointer (some ⟨ob, 0, none⟩), .pointer (some ⟨fb, 0, none⟩)]) ∧
                V.cell? ⟨w.heap.size, 0, none⟩ = some (.int .i64 4) ∧ V.cell? ⟨w.heap.size, 1, none⟩ = some (.int .i64 z) ∧ V.cell? ⟨w.heap.size, 2, none⟩ = some (.slice (some ⟨b', o', none⟩) tl.length cap') ∧ V.cell? ⟨w.heap.size, 3, none⟩ = some (.int .i64 0) ∧
                V.cell? ⟨wr.heap.size, 0, none⟩ = some (.string s[kk].text) ∧ V.cell? ⟨wr.heap.size, 1, none⟩ = some (.bool s[kk].list) ∧ V.cell? ⟨wr.heap.size, 2, none⟩ = some (.slice A3 s[kk].sub.length cap3) ∧ Below (wr.heap.size + 1) W0 V) := Lib.hid (fun V hV => by
              have hh := HWB.out V hV
              have hvl := HVR.out.lt
              have m1 := ((HVR.out.keep HW0.out hvl.1 hvl.2.1 hvl.2.2).keep hV (by omega) (by omega) (by omega)).fn.cell 0
              have m2 := M1.out.keep hh.2.1 (by omega)
              have m3 := HK0.out.keep hV (by omega)
              exact ⟨m1, m2.cell 0, m2.cell 1, m2.cell 2, m2.cell 3, m3.cell 0, m3.cell 1, m3.cell 2, hV⟩)
            have HCW : Hid (∀ V, Below (wr.heap.size + 1) W0 V → Calls Tryd.prog 100 #[.agg #[.int .i64 4, .int .i64 z, .slice (some ⟨b', o', none⟩) tl.length cap', .int .i64 0], .int .i64 kk] V fun e w' => e = .returned (.agg #[.int .i64 tl[j].kind, .int .i64 tl[j].size, .slice A4 tl[j].sub.length cap4, .int .i64 tl[j].tail]) ∧ Below (wr.heap.size + 1) W0 w') := Lib.hid (fun V hV => by
              have hh := HWB.out V hV
              refine (within_c 4 z 0 b' o' tl.length cap' kk j _ _ _ A4 _ cap4 V HJK.out hjl htl (by omega) ((hh.1.cell (p := ⟨b', _, none⟩) hbl').trans k0) ((hh.1.cell (p := ⟨b', _, none⟩) hbl').trans k1) ((hh.1.cell (p := ⟨b', _, none⟩) hbl').trans k2) ((hh.1.cell (p := ⟨b', _, none⟩) hbl').trans k3)).mono ?_
              rintro e w' ⟨rfl, hx⟩
              exact ⟨rfl, hV.trans (hx.mono (by omega))⟩)
            obtain ⟨r, hr⟩ : ∃ r, s[kk].isOf tl[j] = r := ⟨_, rfl⟩
            have HCF : Hid (∀ V, Below (wr.heap.size + 1) W0 V → Calls Tryd.prog 99 #[.agg #[.int .i64 tl[j].kind, .int .i64 tl[j].size, .slice A4 tl[j].sub.length cap4, .int .i64 tl[j].tail], .agg #[.string s[kk].text, .bool s[kk].list, .slice A3 s[kk].sub.length cap3], .pointer (some ⟨ob, 0, none⟩), .pointer (some ⟨fb, 0, none⟩)] V fun e w' => e = .returned (.bool r) ∧ Below (wr.heap.size + 1) W0 w') := Lib.hid (fun V hV => by
              have hh := HWB.out V hV
              have hvl := HVR.out.lt
              have hbz := hbB.size
              refine (IH.out _ (List.getElem_mem hlt) B V _ _ _ (hi.below hh.1) (by omega) (itright_at HRT.out kk hlt) tl[j] _ _ _ _ (hti.below hh.1) (rightT_at HTR.out j hjl) ob fb g ((HVR.out.keep HW0.out hvl.1 hvl.2.1 hvl.2.2).keep hV (by omega) (by omega) (by omega))).mono ?_
              rintro e w' ⟨rfl, hx⟩
              exact ⟨by rw [hr], hV.trans (hx.mono (by omega))⟩)
            have HR1 : Hid (s[kk].isOf ((Ty.mk 4 z tl 0).at kk) = r) := Lib.hid (by rw [HAT.out, hr])
            clear hi hti k0 k1 k2 k3 hj hjj hr hW0 HTI HI1
            go_wp2_with fail
            rw [HWW.out]
            obtain ⟨x0, x1, x2, x3, x4, x5, x6, x7, x8⟩ := HKP.out W0 (Below.refl _ _)
            go_region_held3 (fun V => V.cell? ⟨fb, 0, none⟩ = some (.func (.func 99) #[] #[.pointer (some ⟨ob, 0, none⟩), .pointer (some ⟨fb, 0, none⟩)]) ∧
                V.cell? ⟨w.heap.size, 0, none⟩ = some (.int .i64 4) ∧ V.cell? ⟨w.heap.size, 1, none⟩ = some (.int .i64 z) ∧ V.cell? ⟨w.heap.size, 2, none⟩ = some (.slice (some ⟨b', o', none⟩) tl.length cap') ∧ V.cell? ⟨w.heap.size, 3, none⟩ = some (.int .i64 0) ∧
                V.cell? ⟨wr.heap.size, 0, none⟩ = some (.string s[kk].text) ∧ V.cell? ⟨wr.heap.size, 1, none⟩ = some (.bool s[kk].list) ∧ V.cell? ⟨wr.heap.size, 2, none⟩ = some (.slice A3 s[kk].sub.length cap3) ∧ Below (wr.heap.size + 1) W0 V)
              (first | exact HKP.out _ x8 | exact HKP.out _ hv | exact HKP.out _ hv.drew | exact HKP.out _ x8.drew | exact HKP.out _ (by assumption) | exact HKP.out _ (Below.drew (by assumption)))
              (first | (go_at_call 100; ((with_reducible refine (HCW.out _ (by first | assumption | exact Below.drew (by assumption) | exact Below.drewN' (by assumption) _)).mono ?_); rintro e w' ⟨rfl, hv⟩)) | (go_at_call 99; ((with_reducible refine (HCF.out _ (by first | assumption | exact Below.drew (by assumption) | exact Below.drewN' (by assumption) _)).mono ?_); rintro e w' ⟨rfl, hv⟩)))
            all_goals
              have HB2 : Hid (Below (w.heap.size + 2) w1 w') := Lib.hid (HBR.out.trans ((HW0.out.mono (by omega)).trans (hv.mono (by omega))))
              have hz0 := HZ0.out
              have hz9 := hv.size
              cases r with
              | true =>
                have HN : Hid (isOfL (s.take (kk + 1)) (Ty.mk 4 z tl 0) 0 = true) := Lib.hid (by rw [isOfL_take hlt, hm.out, HR1.out]; rfl)
                go_wp2
                go_roundw
                case rel => exact ⟨kk + 1, by omega, by go_num, HN, HB2.out⟩
                case measure => simp [intOf]; omega
              | false =>
                have HN : Hid (isOfL s (Ty.mk 4 z tl 0) 0 = false) := Lib.hid (isOfL_false hlt HR1.out)
                go_wp2
                go_ret
                exact ⟨by rw [HX.out, HN.out]; rfl, HBW.out.trans (HB2.out.mono (by omega))⟩
          · have hm1 := hm.out
            rw [List.take_of_length_le (by omega)] at hm1
            have HM := Lib.hid hm1
            clear hm1
            go_wp2
            go_ret
            exact ⟨by rw [HX.out, HM.out]; rfl, HBW.out.trans (HBR.out.mono (by omega))⟩
    · clear hok
      have HJ : Hid (is1 (Ty.mk 5 0 tl ta) t l s.length = true → ∀ i : Nat, i < s.length → atI 5 i < tl.length) := Lib.hid (fun h i hi => by
        show i < tl.length
        have h2 := Bool.and_eq_true_iff.1 h
        have h3 := of_decide_eq_true (Bool.and_eq_true_iff.1 h2.1).2
        simp at h3
        omega)
      have HJJ : Hid (∀ i : Nat, atWay 5 i (atI 5 i)) := Lib.hid (fun i => .inr ⟨by decide, rfl⟩)
      have HLK := Lib.hid (run_getI (w := ((w.alloc (.cells #[.int .i64 5, .int .i64 0, .slice A' tl.length cap', .int .i64 ta] 24)).alloc (.cells #[.string t, .bool l, .slice A s.length cap] 27))) (es := kEs) (c := 5) (((hV.below ((Below.refl _ _).alloc (Nat.le_refl _) _)).below ((Below.refl _ _).alloc (Nat.le_refl _) _)).mp) 5 _ _ rfl)
      have hlk := HLK.out
      simp only [kUint, kFixed, kBytes, kList, kStruct] at hlk
      have hf : ∀ w, (Instr.field 130 (.agg #[.func (.func 140) #[] #[], .func (.func 141) #[] #[]]) 0).run Tryd.prog w = .ok (.func (.func 140) #[] #[]) w := fun _ => by kernel_rfl
      have h0f : w.cell? ⟨ob, 0, none⟩ = some (.map (some g)) := hV.of_.cell 0
      have hl1 := hV.lt.1
      obtain ⟨b1, hb1⟩ : ∃ b1, is1 (Ty.mk 5 0 tl ta) t l s.length = b1 := ⟨_, rfl⟩
      have HB1 := Lib.hid hb1
      have HV := Lib.hid hV
      clear hb1 hV HLK
      go_enter Tryd.func99, Tryd.ntmps99
      go_wp2_with fail
      refine (fitS_c 5 0 ta A' tl.length cap' t l A s.length cap _ ht htl hs (by omega) (by omega)).mono ?_
      rintro e w1 ⟨rfl, hb⟩
      have hbx := hb
      simp only [World.size_alloc] at hbx
      have HBW : Hid (Below w.heap.size w w1) := Lib.hid (((Below.refl w.heap.size w).alloc (Nat.le_refl _) _ |>.alloc (by simp) _).trans (hbx.mono (by omega)))
      have M1 : Hid (Blk w1 w.heap.size 24 #[.int .i64 5, .int .i64 0, .slice A' tl.length cap', .int .i64 ta]) := Lib.hid (((Blk.new w _ _).alloc _).only (Only.of_below hb (Nat.le_refl _)) (by simp))
      have M2 : Hid (Blk w1 (w.heap.size + 1) 27 #[.string t, .bool l, .slice A s.length cap]) := Lib.hid ((show Blk _ (w.heap.size + 1) _ _ from by have := Blk.new (w.alloc (.cells #[.int .i64 5, .int .i64 0, .slice A' tl.length cap', .int .i64 ta] 24)) 27 #[.string t, .bool l, .slice A s.length cap]; simpa using this).only (Only.of_below hb (Nat.le_refl _)) (by simp))
      have hz1 := hbx.size
      simp only [World.size_alloc] at hz1
      clear hb hbx hlk h0f
      rw [is1_5 0 tl ta t l s.length, HB1.out]
      obtain ⟨g0, g1, g2, _, _, _⟩ := blk3 M2.out
      cases b1 with
      | false =>
        have HX : Hid (R = false) := Lib.hid (by rw [HR.out, HB1.out]; rfl)
        go_wp2
        go_ret
        exact ⟨by rw [HX.out]; rfl, HBW.out⟩
      | true =>
        have HX : Hid (R = isOfL s (Ty.mk 5 0 tl ta) 0) := Lib.hid (by rw [HR.out, HB1.out]; rfl)
        have HJ2 := Lib.hid (HJ.out HB1.out)
        have HV1 := Lib.hid (HV.out.below HBW.out)
        clear HJ HR
        go_wp2_with fail
        go_loopw [21] (fun i wr => ∃ kk : Nat, kk ≤ s.length ∧ i = .int .i64 kk ∧ Hid (isOfL (s.take kk) (Ty.mk 5 0 tl ta) 0 = true) ∧ Below (w.heap.size + 2) w1 wr) (fun i _ => s.length - (intOf i).toNat)
        case atStart => exact ⟨0, by omega, rfl, Lib.hid (by simp [isOfL]), Below.refl _ _⟩
        case round =>
          obtain ⟨kk, hkk, rfl, hm, hbw⟩ := hrel
          have HBR := Lib.hid hbw
          have hrz := hbw.size
          clear hbw g0 g1 g2
          obtain ⟨g0, g1, g2, _, _, _⟩ := blk3 (M2.out.keep HBR.out (by omega))
          by_cases hlt : kk < s.length
          · have HVR := Lib.hid (HV1.out.keep HBR.out (by have := HV.out.lt; omega) (by have := HV.out.lt; omega) (by have := HV.out.lt; omega))
            have hbB : Below B w wr := (HBW.out.mono hB).trans (HBR.out.mono (by omega))
            obtain ⟨b, o, d0, d1, d2, rfl, hbl, e0, e1, e2, hi⟩ := HS.out.at_ kk hlt
            simp only [Nat.zero_add] at e0 e1 e2
            replace e0 := (hbB.cell (p := ⟨b, o + kk * 3, none⟩) hbl).trans e0
            replace e1 := (hbB.cell (p := ⟨b, o + kk * 3 + 1, none⟩) hbl).trans e1
            replace e2 := (hbB.cell (p := ⟨b, o + kk * 3 + 2, none⟩) hbl).trans e2
            obtain ⟨A3, cap3, rfl, rfl, rfl, _⟩ := hi.open_
            have HI1 := Lib.hid (hi.below hbB)
            obtain ⟨j, hj⟩ : ∃ j, atI 5 kk = j := ⟨_, rfl⟩
            have hjl := HJ2.out kk hlt
            have hjj := HJJ.out kk
            rw [hj] at hjl hjj
            have HJK := Lib.hid hjj
            obtain ⟨b', o', f0, f1, f2, f3, rfl, hbl', k0, k1, k2, k3, hti⟩ := HTS.out.at_ j hjl
            simp only [Nat.zero_add] at k0 k1 k2 k3
            have HAT : Hid ((Ty.mk 5 0 tl ta).at kk = tl[j]) := Lib.hid (by show (tl[atI 5 kk]?).getD (.mk 0 0 [] 0) = tl[j]; rw [hj, List.getElem?_eq_getElem hjl]; rfl)
            have HTI := Lib.hid (hti.below hbB)
            obtain ⟨A4, cap4, rfl, rfl, rfl, rfl, _⟩ := hti.open_
            obtain ⟨W0, hW0⟩ : ∃ W0, wr.alloc (.cells #[.string s[kk].text, .bool s[kk].list, .slice A3 s[kk].sub.length cap3] 27) = W0 := ⟨_, rfl⟩
            have HW0 : Hid (Below wr.heap.size wr W0) := Lib.hid (by rw [← hW0]; exact (Below.refl _ wr).alloc (Nat.le_refl _) _)
            have HZ0 : Hid (W0.heap.size = wr.heap.size + 1) := Lib.hid (by rw [← hW0]; simp)
            have HK0 : Hid (Blk W0 wr.heap.size 27 #[.string s[kk].text, .bool s[kk].list, .slice A3 s[kk].sub.length cap3]) := Lib.hid (by rw [← hW0]; exact Blk.new wr _ _)
            have HWW := Lib.hid hW0
            have HWB : Hid (∀ V, Below (wr.heap.size + 1) W0 V → Below B w V ∧ Below (w.heap.size + 2) w1 V ∧ wr.heap.size + 1 ≤ V.heap.size) := Lib.hid (fun V hV => ⟨hbB.trans ((HW0.out.mono (by have := hbB.size; omega)).trans (hV.mono (by have := hbB.size; omega))), HBR.out.trans ((HW0.out.mono (by omega)).trans (hV.mono (by omega))), by have := hV.size; have := HZ0.out; omega⟩)
            have HKP : Hid (∀ V, Below (wr.heap.size + 1) W0 V → V.cell? ⟨fb, 0, none⟩ = some (.func (.func 99) #[] #[.pointer (some ⟨ob, 0, none⟩), .pointer (some ⟨fb, 0, none⟩)]) ∧
                V.cell? ⟨w.heap.size, 0, none⟩ = some (.int .i64 5) ∧ V.cell? ⟨w.heap.size, 1, none⟩ = some (.int .i64 0) ∧ V.cell? ⟨w.heap.size, 2, none⟩ = some (.slice (some ⟨b', o', none⟩) tl.length cap') ∧ V.cell? ⟨w.heap.size, 3, none⟩ = some (.int .i64 ta) ∧
                V.cell? ⟨wr.heap.size, 0, none⟩ = some (.string s[kk].text) ∧ V.cell? ⟨wr.heap.size, 1, none⟩ = some (.bool s[kk].list) ∧ V.cell? ⟨wr.heap.size, 2, none⟩ = some (.slice A3 s[kk].sub.length cap3) ∧ Below (wr.heap.size + 1) W0 V) := Lib.hid (fun V hV => by
              have hh := HWB.out V hV
              have hvl := HVR.out.lt
              have m1 := ((HVR.out.keep HW0.out hvl.1 hvl.2.1 hvl.2.2).keep hV (by omega) (by omega) (by omega)).fn.cell 0
              have m2 := M1.out.keep hh.2.1 (by omega)
              have m3 := HK0.out.keep hV (by omega)
              exact ⟨m1, m2.cell 0, m2.cell 1, m2.cell 2, m2.cell 3, m3.cell 0, m3.cell 1, m3.cell 2, hV⟩)
            have HCW : Hid (∀ V, Below (wr.heap.size + 1) W0 V → Calls Tryd.prog 100 #[.agg #[.int .i64 5, .int .i64 0, .slice (some ⟨b', o', none⟩) tl.length cap', .int .i64 ta], .int .i64 kk] V fun e w' => e = .returned (.agg #[.int .i64 tl[j].kind, .int .i64 tl[j].size, .slice A4 tl[j].sub.length cap4, .int .i64 tl[j].tail]) ∧ Below (wr.heap.size + 1) W0 w') := Lib.hid (fun V hV => by
              have hh := HWB.out V hV
              refine (within_c 5 0 ta b' o' tl.length cap' kk j _ _ _ A4 _ cap4 V HJK.out hjl htl (by omega) ((hh.1.cell (p := ⟨b', _, none⟩) hbl').trans k0) ((hh.1.cell (p := ⟨b', _, none⟩) hbl').trans k1) ((hh.1.cell (p := ⟨b', _, none⟩) hbl').trans k2) ((hh.1.cell (p := ⟨b', _, none⟩) hbl').trans k3)).mono ?_
              rintro e w' ⟨rfl, hx⟩
              exact ⟨rfl, hV.trans (hx.mono (by omega))⟩)
            obtain ⟨r, hr⟩ : ∃ r, s[kk].isOf tl[j] = r := ⟨_, rfl⟩
            have HCF : Hid (∀ V, Below (wr.heap.size + 1) W0 V → Calls Tryd.prog 99 #[.agg #[.int .i64 tl[j].kind, .int .i64 tl[j].size, .slice A4 tl[j].sub.length cap4, .int .i64 tl[j].tail], .agg #[.string s[kk].text, .bool s[kk].list, .slice A3 s[kk].sub.length cap3], .pointer (some ⟨ob, 0, none⟩), .pointer (some ⟨fb, 0, none⟩)] V fun e w' => e = .returned (.bool r) ∧ Below (wr.heap.size + 1) W0 w') := Lib.hid (fun V hV => by
              have hh := HWB.out V hV
              have hvl := HVR.out.lt
              have hbz := hbB.size
              refine (IH.out _ (List.getElem_mem hlt) B V _ _ _ (hi.below hh.1) (by omega) (itright_at HRT.out kk hlt) tl[j] _ _ _ _ (hti.below hh.1) (rightT_at HTR.out j hjl) ob fb g ((HVR.out.keep HW0.out hvl.1 hvl.2.1 hvl.2.2).keep hV (by omega) (by omega) (by omega))).mono ?_
              rintro e w' ⟨rfl, hx⟩
              exact ⟨by rw [hr], hV.trans (hx.mono (by omega))⟩)
            have HR1 : Hid (s[kk].isOf ((Ty.mk 5 0 tl ta).at kk) = r) := Lib.hid (by rw [HAT.out, hr])
            clear hi hti k0 k1 k2 k3 hj hjj hr hW0 HTI HI1
            go_wp2_with fail
            rw [HWW.out]
            obtain ⟨x0, x1, x2, x3, x4, x5, x6, x7, x8⟩ := HKP.out W0 (Below.refl _ _)
            go_region_held3 (fun V => V.cell? ⟨fb, 0, none⟩ = some (.func (.func 99) #[] #[.pointer (some ⟨ob, 0, none⟩), .pointer (some ⟨fb, 0, none⟩)]) ∧
                V.cell? ⟨w.heap.size, 0, none⟩ = some (.int .i64 5) ∧ V.cell? ⟨w.heap.size, 1, none⟩ = some (.int .i64 0) ∧ V.cell? ⟨w.heap.size, 2, none⟩ = some (.slice (some ⟨b', o', none⟩) tl.length cap') ∧ V.cell? ⟨w.heap.size, 3, none⟩ = some (.int .i64 ta) ∧
                V.cell? ⟨wr.heap.size, 0, none⟩ = some (.string s[kk].text) ∧ V.cell? ⟨wr.heap.size, 1, none⟩ = some (.bool s[kk].list) ∧ V.cell? ⟨wr.heap.size, 2, none⟩ = some (.slice A3 s[kk].sub.length cap3) ∧ Below (wr.heap.size + 1) W0 V)
              (first | exact HKP.out _ x8 | exact HKP.out _ hv | exact HKP.out _ hv.drew | exact HKP.out _ x8.drew | exact HKP.out _ (by assumption) | exact HKP.out _ (Below.drew (by assumption)))
              (first | (go_at_call 100; ((with_reducible refine (HCW.out _ (by first | assumption | exact Below.drew (by assumption) | exact Below.drewN' (by assumption) _)).mono ?_); rintro e w' ⟨rfl, hv⟩)) | (go_at_call 99; ((with_reducible refine (HCF.out _ (by first | assumption | exact Below.drew (by assumption) | exact Below.drewN' (by assumption) _)).mono ?_); rintro e w' ⟨rfl, hv⟩)))
            all_goals
              have HB2 : Hid (Below (w.heap.size + 2) w1 w') := Lib.hid (HBR.out.trans ((HW0.out.mono (by omega)).trans (hv.mono (by omega))))
              have hz0 := HZ0.out
              have hz9 := hv.size
              cases r with
              | true =>
                have HN : Hid (isOfL (s.take (kk + 1)) (Ty.mk 5 0 tl ta) 0 = true) := Lib.hid (by rw [isOfL_take hlt, hm.out, HR1.out]; rfl)
                go_wp2
                go_roundw
                case rel => exact ⟨kk + 1, by omega, by go_num, HN, HB2.out⟩
                case measure => simp [intOf]; omega
              | false =>
                have HN : Hid (isOfL s (Ty.mk 5 0 tl ta) 0 = false) := Lib.hid (isOfL_false hlt HR1.out)
                go_wp2
                go_ret
                exact ⟨by rw [HX.out, HN.out]; rfl, HBW.out.trans (HB2.out.mono (by omega))⟩
          · have hm1 := hm.out
            rw [List.take_of_length_le (by omega)] at hm1
            have HM := Lib.hid hm1
            clear hm1
            go_wp2
            go_ret
            exact ⟨by rw [HX.out, HM.out]; rfl, HBW.out.trans (HBR.out.mono (by omega))⟩
end Go.Proofs.YtacikiambpfipaaDoor
