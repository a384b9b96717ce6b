/- tree.Put: its three checks, and it itself. -/
import Derived.Test.YtnfpgadegpmhkaaGreatDoorKA1
import Derived.Test.YtnfpgadegpmhkaaGreatDoorKA29
import Derived.Test.YtnfpgadegpmhkaaGreatDoorKA3
import Derived.Test.YtnfpgadegpmhkaaGreatDoorKA25
import Derived.Test.YtnfpgadegpmhkaaGreatDoorKA32
import Derived.Test.YtnfpgadegpmhkaaGreatDoorKA22
import Derived.Test.YtnfpgadegpmhkaaGreatDoorKA34
set_option linter.unusedVariables false
set_option linter.unusedSimpArgs false
set_option maxRecDepth 100000
set_option maxHeartbeats 2000000
namespace Go.Proofs.YtnfpgadegpmhkaaGreatDoor
open Go.RowKit
theorem putA_c (ty : Ty) (x : It) (B g4 g5 : Nat) (w : World) (t0 t1 t2 t3 c0 c1 c2 : Value) (h4 : Blk w g4 55 #[t0, t1, t2, t3]) (h5 : Blk w g5 28 #[c0, c1, c2]) (hT : TyIn w B ty t0 t1 t2 t3) (hI : ItIn w B x c0 c1 c2) (hB : B ≤ w.heap.size) (hL : Laid w) :
 Calls Tryz.prog 66 #[.pointer (some ⟨g4, 0, none⟩), .pointer (some ⟨g5, 0, none⟩)] w fun e w' => e = .returned (.int .i64 (fitE ty x)) ∧ Below w.heap.size w w' := by
 have HC := Lib.hid (fits_c ty x B w t0 t1 t2 t3 c0 c1 c2 hT hI hB hL)
 obtain ⟨q0, q1, q2, q3, _⟩ := blk4 h4
 obtain ⟨p0, p1, p2⟩ := blk3' h5
 obtain ⟨A, cap, rfl, rfl, rfl, rfl, _⟩ := hT.open_
 obtain ⟨A', cap', rfl, rfl, rfl, _⟩ := hI.open_
 generalize fitE ty x = E at *
 clear hT hI h4 h5
 go_enter Tryz.func66, Tryz.ntmps66
 go_wp2_with fail
 refine HC.out.mono ?_
 rintro e w1 ⟨rfl, hb⟩
 go_wp2
 go_ret
 exact ⟨rfl, hb⟩
theorem putB_c (x : It) (D M : Int) (B g5 g6 g7 : Nat) (w : World) (c0 c1 c2 : Value) (h5 : Blk w g5 28 #[c0, c1, c2]) (h6 : Blk w g6 3 #[.int .i64 D]) (h7 : Blk w g7 3 #[.int .i64 M]) (hI : ItIn w B x c0 c1 c2) (hB : B ≤ w.heap.size) :
 Calls Tryz.prog 68 #[.pointer (some ⟨g5, 0, none⟩), .pointer (some ⟨g6, 0, none⟩), .pointer (some ⟨g7, 0, none⟩)] w fun e w' => e = .returned (.int .i64 (capsE x D M)) ∧ Below w.heap.size w w' := by
 have HC := Lib.hid (caps_c x D M B w c0 c1 c2 hI hB)
 obtain ⟨p0, p1, p2⟩ := blk3' h5
 have q6 : w.cell? ⟨g6, 0, none⟩ = some (.int .i64 D) := h6.cell 0
 have q7 : w.cell? ⟨g7, 0, none⟩ = some (.int .i64 M) := h7.cell 0
 obtain ⟨A', cap', rfl, rfl, rfl, _⟩ := hI.open_
 generalize capsE x D M = E at *
 clear hI h5 h6 h7
 go_enter Tryz.func68, Tryz.ntmps68
 go_wp2_with fail
 refine HC.out.mono ?_
 rintro e w1 ⟨rfl, hb⟩
 go_wp2
 go_ret
 exact ⟨rfl, hb⟩
theorem putC_c (x : It) (B g5 g10 : Nat) (w : World) (z c0 c1 c2 : Value) (h5 : Blk w g5 28 #[c0, c1, c2]) (h10 : Blk w g10 9 #[z]) (hI : ItIn w B x c0 c1 c2) (hB : B ≤ w.heap.size) (hm : x.may = true) (hl : x.rlp.length ≤ 1099511627776) :
 Calls Tryz.prog 70 #[.pointer (some ⟨g5, 0, none⟩), .pointer (some ⟨g10, 0, none⟩)] w fun e w' => e = .returned (.int .i64 0) ∧ Blk w' g10 9 #[.string ⟨x.rlp.toArray⟩] ∧ Only [g10] w w' := by
 have HC := Lib.hid (rlpPut_c x B w c0 c1 c2 hI hB hm hl)
 obtain ⟨p0, p1, p2⟩ := blk3' h5
 obtain ⟨A', cap', rfl, rfl, rfl, _⟩ := hI.open_
 have H10 := Lib.hid h10
 have hlt := h10.lt
 generalize (⟨x.rlp.toArray⟩ : ByteArray) = S at *
 clear hI h5 hl hm h10
 go_enter Tryz.func70, Tryz.ntmps70
 go_wp2_with fail
 refine HC.out.mono ?_
 rintro e w1 ⟨rfl, hb⟩
 have h1 := H10.out.keep hb hlt
 have q1 : w1.cell? ⟨g10, 0, none⟩ = some z := h1.cell 0
 have q1f : w1.frozen? ⟨g10, 0, none⟩ = false := h1.frozen 0
 have HB1 := Lib.hid h1
 have HO : Hid (Only [g10] w w1) := Lib.hid ((Only.of_below hb (Nat.le_refl _)).mono (by simp))
 clear h1 hb
 go_wp2
 go_ret
 exact ⟨rfl, HB1.out.set 0 _, HO.out.setCell (by simp) _⟩
theorem treePut_c (ty : Ty) (x : It) (D M : Int) (B : Nat) (w : World) (t0 t1 t2 t3 c0 c1 c2 : Value) (hT : TyIn w B ty t0 t1 t2 t3) (hI : ItIn w B x c0 c1 c2) (hB : B ≤ w.heap.size) (hL : Laid w) (hl : x.rlp.length ≤ 1099511627776) :
 Calls Tryz.prog 45 #[.agg #[t0, t1, t2, t3], .agg #[c0, c1, c2], .int .i64 D, .int .i64 M] w fun e w' => e = .returned (.tuple #[.string (if tPutE ty x D M = 0 then ⟨x.rlp.toArray⟩ else ⟨#[]⟩), .int .i64 (tPutE ty x D M)]) ∧ Below w.heap.size w w' := by
 obtain ⟨W6, hW6⟩ : ∃ W6, ((((((w.alloc (.cells #[t0, t1, t2, t3] 55)).alloc (.cells #[c0, c1, c2] 28)).alloc (.cells #[.int .i64 D] 3)).alloc (.cells #[.int .i64 M] 3)).alloc (.cells #[.string ⟨#[]⟩] 9)).alloc (.cells #[.func (.func 66) #[] #[.pointer (some ⟨w.heap.size, 0, none⟩), .pointer (some ⟨w.heap.size + 1, 0, none⟩)], .func (.func 68) #[] #[.pointer (some ⟨w.heap.size + 1, 0, none⟩), .pointer (some ⟨w.heap.size + 1 + 1, 0, none⟩), .pointer (some ⟨w.heap.size + 1 + 1 + 1, 0, none⟩)], .func (.func 70) #[] #[.pointer (some ⟨w.heap.size + 1, 0, none⟩), .pointer (some ⟨w.heap.size + 1 + 1 + 1 + 1, 0, none⟩)]] 114)) = W6 := ⟨_, rfl⟩
 have hz : W6.heap.size = w.heap.size + 6 := by rw [← hW6]; simp
 have hb : Below w.heap.size w W6 := by rw [← hW6]; exact blw
 have h4 : Blk W6 (w.heap.size) 55 #[t0, t1, t2, t3] := by rw [← hW6]; exact (((((Blk.at_ (by simp)).alloc _).alloc _).alloc _).alloc _).alloc _
 have h5 : Blk W6 (w.heap.size + 1) 28 #[c0, c1, c2] := by rw [← hW6]; exact ((((Blk.at_ (by simp)).alloc _).alloc _).alloc _).alloc _
 have h6 : Blk W6 (w.heap.size + 1 + 1) 3 #[.int .i64 D] := by rw [← hW6]; exact (((Blk.at_ (by simp)).alloc _).alloc _).alloc _
 have h7 : Blk W6 (w.heap.size + 1 + 1 + 1) 3 #[.int .i64 M] := by rw [← hW6]; exact ((Blk.at_ (by simp)).alloc _).alloc _
 have h10 : Blk W6 (w.heap.size + 1 + 1 + 1 + 1) 9 #[.string ⟨#[]⟩] := by rw [← hW6]; exact (Blk.at_ (by simp)).alloc _
 have hF : Blk W6 (w.heap.size + 1 + 1 + 1 + 1 + 1) 114 #[.func (.func 66) #[] #[.pointer (some ⟨w.heap.size, 0, none⟩), .pointer (some ⟨w.heap.size + 1, 0, none⟩)], .func (.func 68) #[] #[.pointer (some ⟨w.heap.size + 1, 0, none⟩), .pointer (some ⟨w.heap.size + 1 + 1, 0, none⟩), .pointer (some ⟨w.heap.size + 1 + 1 + 1, 0, none⟩)], .func (.func 70) #[] #[.pointer (some ⟨w.heap.size + 1, 0, none⟩), .pointer (some ⟨w.heap.size + 1 + 1 + 1 + 1, 0, none⟩)]] := by rw [← hW6]; exact Blk.at_ (by simp)
 have HF := Lib.hid (firstPut_c W6 (w.heap.size + 1 + 1 + 1 + 1 + 1) #[.pointer (some ⟨w.heap.size, 0, none⟩), .pointer (some ⟨w.heap.size + 1, 0, none⟩)] #[.pointer (some ⟨w.heap.size + 1, 0, none⟩), .pointer (some ⟨w.heap.size + 1 + 1, 0, none⟩), .pointer (some ⟨w.heap.size + 1 + 1 + 1, 0, none⟩)] #[.pointer (some ⟨w.heap.size + 1, 0, none⟩), .pointer (some ⟨w.heap.size + 1 + 1 + 1 + 1, 0, none⟩)] (fitE ty x) (capsE x D M) 0 (fun w' => Below W6.heap.size W6 w') (fun w' => Below W6.heap.size W6 w') (fun w' => Blk w' (w.heap.size + 1 + 1 + 1 + 1) 9 #[.string ⟨x.rlp.toArray⟩] ∧ Only [w.heap.size + 1 + 1 + 1 + 1] W6 w') hF
  (putA_c ty x B _ _ W6 t0 t1 t2 t3 c0 c1 c2 h4 h5 (hT.below (hb.mono hB)) (hI.below (hb.mono hB)) (by omega) (hL.below hb hL.pos))
  (fun _ w1 h1 => (putB_c x D M B _ _ _ w1 c0 c1 c2 (h5.keep h1 (by omega)) (h6.keep h1 (by omega)) (h7.keep h1 (by omega)) ((hI.below (hb.mono hB)).below (h1.mono (by omega))) (by have := h1.size; omega)).mono fun e w' ⟨he, hb'⟩ => ⟨he, h1.trans (hb'.mono h1.size)⟩)
  (fun hf _ w2 h2 => (putC_c x B _ _ w2 _ c0 c1 c2 (h5.keep h2 (by omega)) (h10.keep h2 (by omega)) ((hI.below (hb.mono hB)).below (h2.mono (by omega))) (by have := h2.size; omega) ((fitE_zero ty x).1 hf).2.1 hl).mono fun e w' ⟨he, hk, ho⟩ => ⟨he, hk, ((Only.of_below h2 (Nat.le_refl _)).mono (by simp)).trans ho⟩)
  (fun w' h1 => hF.keep h1 (by omega)) (fun w' h1 => hF.keep h1 (by omega)))
 have HB := Lib.hid hb
 have HZ := Lib.hid hz
 have HPE : Hid (tPutE ty x D M = fstE (fitE ty x) (capsE x D M) 0) := Lib.hid (by
  unfold tPutE fstE
  by_cases h1 : fitE ty x ≠ 0
  ·rw [if_pos h1, if_pos h1]
  ·rw [if_neg h1, if_neg h1]
   by_cases h2 : capsE x D M ≠ 0
   ·rw [if_pos h2]
   ·rw [if_neg h2]; exact Decidable.not_not.1 h2)
 have HW6 := Lib.hid hW6
 obtain ⟨A, cap, rfl, rfl, rfl, rfl, _⟩ := hT.open_
 obtain ⟨A', cap', rfl, rfl, rfl, _⟩ := hI.open_
 have HTZ : Hid (tPutE ty x D M = 0 → fitE ty x = 0 ∧ capsE x D M = 0) := Lib.hid (tPutE_zero ty x D M).1
 generalize tPutE ty x D M = E at *
 generalize (⟨x.rlp.toArray⟩ : ByteArray) = S at *
 generalize fitE ty x = E0 at *
 generalize capsE x D M = E1 at *
 clear h4 h5 h6 h7 h10 hF hb hz hW6 hT hI hl
 rcases beq0 E with ⟨he, k1, k2⟩ | ⟨he, k1, k2⟩
 ·subst he
  obtain ⟨rfl, rfl⟩ := HTZ.out rfl
  go_enter Tryz.func45, Tryz.ntmps45
  go_wp2_with fail
  rw [HW6.out]
  refine HF.out.mono ?_
  rintro e w1 ⟨rfl, hi⟩
  have hi : Blk w1 (w.heap.size + 1 + 1 + 1 + 1) 9 #[.string S] ∧ Only [w.heap.size + 1 + 1 + 1 + 1] W6 w1 := by
   have := hi
   simpa [fstI] using this
  rw [← HPE.out]
  have q1 : w1.cell? ⟨w.heap.size + 1 + 1 + 1 + 1, 0, none⟩ = some (.string S) := hi.1.cell 0
  have HO := Lib.hid hi.2
  clear hi HF HPE HTZ
  go_wp2
  go_ret2
  refine ⟨?_, HB.out.trans (HO.out.below (by have := HZ.out; omega) (by simp; omega))⟩
  rfl
 ·go_enter Tryz.func45, Tryz.ntmps45
  go_wp2_with fail
  rw [HW6.out]
  refine HF.out.mono ?_
  rintro e w1 ⟨rfl, hi⟩
  have hbe : Below w.heap.size w w1 := by
   unfold fstI at hi
   have hz := HZ.out
   split at hi
   ·exact HB.out.trans (hi.mono (by omega))
   ·split at hi
    ·exact HB.out.trans (hi.mono (by omega))
    ·exact HB.out.trans (hi.2.below (by omega) (by simp; omega))
  rw [← HPE.out]
  have HBE := Lib.hid hbe
  clear hi HF HPE HTZ hbe
  go_wp2
  go_ret2
  exact ⟨rfl, HBE.out⟩
def mayE (ty : Ty) : Int := if ty.may = false then 1 else 0
theorem getA_c (ty : Ty) (B g4 : Nat) (w : World) (t0 t1 t2 t3 : Value) (h4 : Blk w g4 55 #[t0, t1, t2, t3]) (hT : TyIn w B ty t0 t1 t2 t3) (hB : B ≤ w.heap.size) (hL : Laid w) :
 Calls Tryz.prog 72 #[.pointer (some ⟨g4, 0, none⟩)] w fun e w' => e = .returned (.int .i64 (mayE ty)) ∧ Below w.heap.size w w' := by
 have HC := Lib.hid (schemaMay_c ty B w t0 t1 t2 t3 hT hB hL)
 obtain ⟨q0, q1, q2, q3, _⟩ := blk4 h4
 obtain ⟨A, cap, rfl, rfl, rfl, rfl, _⟩ := hT.open_
 have HE : Hid (mayE ty = if ty.may = false then 1 else 0) := Lib.hid rfl
 generalize mayE ty = E at *
 generalize ty.may = m at *
 clear hT h4
 cases m with
 | true =>
  obtain rfl : E = 0 := HE.out
  go_enter Tryz.func72, Tryz.ntmps72
  go_wp2_with fail
  refine HC.out.mono ?_
  rintro e w1 ⟨rfl, hb⟩
  go_wp2
  go_ret
  exact ⟨rfl, hb⟩
 | false =>
  obtain rfl : E = 1 := HE.out
  go_enter Tryz.func72, Tryz.ntmps72
  go_wp2_with fail
  refine HC.out.mono ?_
  rintro e w1 ⟨rfl, hb⟩
  go_wp2
  go_ret
  exact ⟨rfl, hb⟩
def VarI (w : World) (g S : Nat) (x : It) : Prop := ∃ c0 c1 c2, Blk w g 28 #[c0, c1, c2] ∧ ItS w (S ≤ ·) x c0 c1 c2
theorem VarI.below {w w' : World} {g S : Nat} {x : It} (h : VarI w g S x) (hb : Below w.heap.size w w') : VarI w' g S x := by
 obtain ⟨c0, c1, c2, h1, h2⟩ := h
 exact ⟨c0, c1, c2, h1.keep hb h1.lt, h2.below hb⟩
theorem getB_c (s : ByteArray) (D M : Int) (g5 g6 g7 g10 : Nat) (w : World) (z0 z1 z2 : Value) (h5 : Blk w g5 9 #[.string s]) (h6 : Blk w g6 3 #[.int .i64 D]) (h7 : Blk w g7 3 #[.int .i64 M]) (h10 : Blk w g10 28 #[z0, z1, z2]) (hs : s.size ≤ 4611686018427387904) :
 Calls Tryz.prog 73 #[.pointer (some ⟨g5, 0, none⟩), .pointer (some ⟨g6, 0, none⟩), .pointer (some ⟨g7, 0, none⟩), .pointer (some ⟨g10, 0, none⟩)] w fun e w' => e = .returned (.int .i64 (getE D M s)) ∧ VarI w' g10 w.heap.size (getX D M s) ∧ Only [g10] w w' := by
 have HC := Lib.hid (rlpGet_c s D M w hs)
 have q5 : w.cell? ⟨g5, 0, none⟩ = some (.string s) := h5.cell 0
 have q6 : w.cell? ⟨g6, 0, none⟩ = some (.int .i64 D) := h6.cell 0
 have q7 : w.cell? ⟨g7, 0, none⟩ = some (.int .i64 M) := h7.cell 0
 have H10 := Lib.hid h10
 have hlt := h10.lt
 generalize getE D M s = E at *
 generalize getX D M s = X at *
 clear h5 h6 h7 h10
 go_enter Tryz.func73, Tryz.ntmps73
 go_wp2_with fail
 refine HC.out.mono ?_
 rintro e w1 ⟨hb, c0, c1, c2, rfl, hit⟩
 obtain ⟨A, k, rfl, rfl, rfl, _⟩ := hit.open_
 have h1 := H10.out.keep hb hlt
 obtain ⟨p0, p1, p2, pf0, pf1, pf2⟩ := blk3 h1
 have HB1 := Lib.hid h1
 have HIT := Lib.hid hit
 have HO : Hid (Only [g10] w w1) := Lib.hid ((Only.of_below hb (Nat.le_refl _)).mono (by simp))
 clear h1 hb hit
 go_wp2
 go_ret
 refine ⟨rfl, ⟨_, _, _, put3 HB1.out _ _ _, ?_⟩, ((HO.out.setCell (by simp) _).setCell (by simp) _).setCell (by simp) _⟩
 exact HIT.out.only ((((Only.refl [g10] w1).setCell (by simp) _).setCell (by simp) _).setCell (by simp) _) (by simp <;> omega) (fun k _ h => h)
theorem getC_c (ty : Ty) (x : It) (B g4 g10 : Nat) (w : World) (t0 t1 t2 t3 c0 c1 c2 : Value) (h4 : Blk w g4 55 #[t0, t1, t2, t3]) (h10 : Blk w g10 28 #[c0, c1, c2]) (hT : TyIn w B ty t0 t1 t2 t3) (hI : ItIn w B x c0 c1 c2) (hB : B ≤ w.heap.size) (hL : Laid w) :
 Calls Tryz.prog 75 #[.pointer (some ⟨g4, 0, none⟩), .pointer (some ⟨g10, 0, none⟩)] w fun e w' => e = .returned (.int .i64 (fitE ty x)) ∧ Below w.heap.size w w' := by
 have HC := Lib.hid (fits_c ty x B w t0 t1 t2 t3 c0 c1 c2 hT hI hB hL)
 obtain ⟨q0, q1, q2, q3, _⟩ := blk4 h4
 obtain ⟨p0, p1, p2⟩ := blk3' h10
 obtain ⟨A, cap, rfl, rfl, rfl, rfl, _⟩ := hT.open_
 obtain ⟨A', cap', rfl, rfl, rfl, _⟩ := hI.open_
 generalize fitE ty x = E at *
 clear hT hI h4 h10
 go_enter Tryz.func75, Tryz.ntmps75
 go_wp2_with fail
 refine HC.out.mono ?_
 rintro e w1 ⟨rfl, hb⟩
 go_wp2
 go_ret
 exact ⟨rfl, hb⟩
theorem treeGet_c (ty : Ty) (s : ByteArray) (D M : Int) (B : Nat) (w : World) (t0 t1 t2 t3 : Value) (hT : TyIn w B ty t0 t1 t2 t3) (hB : B ≤ w.heap.size) (hL : Laid w) (hs : s.size ≤ 4611686018427387904) :
 Calls Tryz.prog 46 #[.agg #[t0, t1, t2, t3], .string s, .int .i64 D, .int .i64 M] w fun e w' => GtEnd w w' (tGetX ty s D M) (tGetE ty s D M) e := by
 obtain ⟨W7, hW7⟩ : ∃ W7, (((((((w.alloc (.cells #[t0, t1, t2, t3] 55)).alloc (.cells #[.string s] 9)).alloc (.cells #[.int .i64 D] 3)).alloc (.cells #[.int .i64 M] 3)).alloc (.cells #[.string ⟨#[]⟩, .bool false, .slice none 0 0] 28)).alloc (.cells #[.string ⟨#[]⟩, .bool false, .slice none 0 0] 28)).alloc (.cells #[.func (.func 72) #[] #[.pointer (some ⟨w.heap.size, 0, none⟩)], .func (.func 73) #[] #[.pointer (some ⟨w.heap.size + 1, 0, none⟩), .pointer (some ⟨w.heap.size + 1 + 1, 0, none⟩), .pointer (some ⟨w.heap.size + 1 + 1 + 1, 0, none⟩), .pointer (some ⟨w.heap.size + 1 + 1 + 1 + 1 + 1, 0, none⟩)], .func (.func 75) #[] #[.pointer (some ⟨w.heap.size, 0, none⟩), .pointer (some ⟨w.heap.size + 1 + 1 + 1 + 1 + 1, 0, none⟩)]] 114)) = W7 := ⟨_, rfl⟩
 have hz : W7.heap.size = w.heap.size + 7 := by rw [← hW7]; simp
 have hb : Below w.heap.size w W7 := by rw [← hW7]; exact blw
 have h4 : Blk W7 (w.heap.size) 55 #[t0, t1, t2, t3] := by rw [← hW7]; exact ((((((Blk.at_ (by simp)).alloc _).alloc _).alloc _).alloc _).alloc _).alloc _
 have h5 : Blk W7 (w.heap.size + 1) 9 #[.string s] := by rw [← hW7]; exact (((((Blk.at_ (by simp)).alloc _).alloc _).alloc _).alloc _).alloc _
 have h6 : Blk W7 (w.heap.size + 1 + 1) 3 #[.int .i64 D] := by rw [← hW7]; exact ((((Blk.at_ (by simp)).alloc _).alloc _).alloc _).alloc _
 have h7 : Blk W7 (w.heap.size + 1 + 1 + 1) 3 #[.int .i64 M] := by rw [← hW7]; exact (((Blk.at_ (by simp)).alloc _).alloc _).alloc _
 have h8 : Blk W7 (w.heap.size + 1 + 1 + 1 + 1) 28 #[.string ⟨#[]⟩, .bool false, .slice none 0 0] := by rw [← hW7]; exact ((Blk.at_ (by simp)).alloc _).alloc _
 have h10 : Blk W7 (w.heap.size + 1 + 1 + 1 + 1 + 1) 28 #[.string ⟨#[]⟩, .bool false, .slice none 0 0] := by rw [← hW7]; exact (Blk.at_ (by simp)).alloc _
 have hF : Blk W7 (w.heap.size + 1 + 1 + 1 + 1 + 1 + 1) 114 #[.func (.func 72) #[] #[.pointer (some ⟨w.heap.size, 0, none⟩)], .func (.func 73) #[] #[.pointer (some ⟨w.heap.size + 1, 0, none⟩), .pointer (some ⟨w.heap.size + 1 + 1, 0, none⟩), .pointer (some ⟨w.heap.size + 1 + 1 + 1, 0, none⟩), .pointer (some ⟨w.heap.size + 1 + 1 + 1 + 1 + 1, 0, none⟩)], .func (.func 75) #[] #[.pointer (some ⟨w.heap.size, 0, none⟩), .pointer (some ⟨w.heap.size + 1 + 1 + 1 + 1 + 1, 0, none⟩)]] := by rw [← hW7]; exact Blk.at_ (by simp)
 have hL7 := hL.below hb hL.pos
 have hT7 := hT.below (hb.mono hB)
 have hp0 := hL.pos
 have HF := Lib.hid (firstGet_c W7 (w.heap.size + 1 + 1 + 1 + 1 + 1 + 1) #[.pointer (some ⟨w.heap.size, 0, none⟩)] #[.pointer (some ⟨w.heap.size + 1, 0, none⟩), .pointer (some ⟨w.heap.size + 1 + 1, 0, none⟩), .pointer (some ⟨w.heap.size + 1 + 1 + 1, 0, none⟩), .pointer (some ⟨w.heap.size + 1 + 1 + 1 + 1 + 1, 0, none⟩)] #[.pointer (some ⟨w.heap.size, 0, none⟩), .pointer (some ⟨w.heap.size + 1 + 1 + 1 + 1 + 1, 0, none⟩)] (mayE ty) (getE D M s) (fitE ty (getX D M s)) (fun w' => Below W7.heap.size W7 w') (fun w' => VarI w' (w.heap.size + 1 + 1 + 1 + 1 + 1) W7.heap.size (getX D M s) ∧ Only [w.heap.size + 1 + 1 + 1 + 1 + 1] W7 w') (fun w' => VarI w' (w.heap.size + 1 + 1 + 1 + 1 + 1) W7.heap.size (getX D M s) ∧ Only [w.heap.size + 1 + 1 + 1 + 1 + 1] W7 w') hF
  (getA_c ty B _ W7 t0 t1 t2 t3 h4 hT7 (by omega) hL7)
  (fun _ w1 h1 => (getB_c s D M _ _ _ _ w1 _ _ _ (h5.keep h1 (by omega)) (h6.keep h1 (by omega)) (h7.keep h1 (by omega)) (h10.keep h1 (by omega)) hs).mono fun e w' ⟨he, ⟨c0, c1, c2, hk, hi⟩, ho⟩ => ⟨he, ⟨c0, c1, c2, hk, hi.weak (fun k _ hk => Nat.le_trans h1.size hk)⟩, ((Only.of_below h1 (Nat.le_refl _)).mono (by simp)).trans ho⟩)
  (fun _ _ w2 ⟨hv, ho⟩ => by
   obtain ⟨c0, c1, c2, hk, hi⟩ := hv
   have hsz := ho.size
   refine (getC_c ty (getX D M s) w2.heap.size _ _ w2 t0 t1 t2 t3 c0 c1 c2 (h4.only ho (by simp <;> omega)) hk ((hT7.below (ho.below (by omega) (by simp <;> omega))).mono (by omega)) (hi.toIn) (Nat.le_refl _) (hL7.only ho (by simp <;> omega))).mono fun e w' ⟨he, hb'⟩ => ⟨he, ⟨c0, c1, c2, hk.keep hb' hk.lt, hi.below hb'⟩, ho.trans ((Only.of_below hb' (Nat.le_refl _)).mono (by simp))⟩)
  (fun w' h1 => hF.keep h1 (by omega)) (fun w' h1 => hF.only h1.2 (by simp)))
 have H8 := Lib.hid h8
 have HB := Lib.hid hb
 have HZ := Lib.hid hz
 have HPE : Hid (tGetE ty s D M = fstE (mayE ty) (getE D M s) (fitE ty (getX D M s))) := Lib.hid (by
  unfold tGetE fstE mayE
  cases ty.may <;> simp)
 have HXE : Hid (tGetX ty s D M = if tGetE ty s D M ≠ 0 then noIt else getX D M s) := Lib.hid rfl
 have HW7 := Lib.hid hW7
 obtain ⟨A, cap, rfl, rfl, rfl, rfl, _⟩ := hT.open_
 have HTZ : Hid (tGetE ty s D M = 0 → mayE ty = 0 ∧ getE D M s = 0) := Lib.hid (fun h => by
  have h1 := (tGetE_zero ty s D M).1 h
  exact ⟨by unfold mayE; rw [h1.1]; rfl, h1.2.1⟩)
 generalize tGetE ty s D M = E at *
 generalize tGetX ty s D M = Y at *
 generalize getX D M s = X at *
 generalize fitE ty X = E2 at *
 generalize mayE ty = E0 at *
 generalize getE D M s = E1 at *
 clear h4 h5 h6 h7 h8 h10 hF hb hz hW7 hT hL7 hT7 hL
 rcases beq0 E with ⟨he, k1, k2⟩ | ⟨he, k1, k2⟩
 ·subst he
  obtain ⟨rfl, rfl⟩ := HTZ.out rfl
  obtain rfl : Y = X := by have := HXE.out; simpa using this
  go_enter Tryz.func46, Tryz.ntmps46
  go_wp2_with fail
  rw [HW7.out]
  refine HF.out.mono ?_
  rintro e w1 ⟨rfl, hi⟩
  have hi : VarI w1 (w.heap.size + 1 + 1 + 1 + 1 + 1) W7.heap.size Y ∧ Only [w.heap.size + 1 + 1 + 1 + 1 + 1] W7 w1 := by
   have := hi
   simpa [fstI] using this
  rw [← HPE.out]
  obtain ⟨⟨c0, c1, c2, hk, hit⟩, ho⟩ := hi
  obtain ⟨A2, k3, rfl, rfl, rfl, _⟩ := hit.open_
  have h9 := H8.out.only ho (by simp)
  obtain ⟨p0, p1, p2, pf0, pf1, pf2⟩ := blk3 h9
  obtain ⟨g0, g1, g2, _⟩ := blk3 hk
  have H9 := Lib.hid h9
  have HIT := Lib.hid hit
  have HO := Lib.hid ho
  clear HF HPE HTZ HXE h9 hk hit ho
  go_wp2
  obtain ⟨d0, d1, d2, _⟩ := blk3 (put3 H9.out (.string Y.text) (.bool Y.list) (.slice A2 Y.sub.length k3))
  refine bodyPost_ret (v := .tuple #[.agg #[.string Y.text, .bool Y.list, .slice A2 Y.sub.length k3], .int .i64 0]) (by simp [results, Tryz.results46, go_sem, d0, d1, d2]) rfl ?_
  have hz := HZ.out
  refine ⟨(((HB.out.trans (HO.out.below (by omega) (by simp <;> omega))).setCell (by simp <;> omega) _).setCell (by simp <;> omega) _).setCell (by simp <;> omega) _, _, _, _, rfl, ?_⟩
  exact HIT.out.only ((((Only.refl [w.heap.size + 1 + 1 + 1 + 1] w1).setCell (by simp) _).setCell (by simp) _).setCell (by simp) _) (by simp <;> omega) (fun k _ h => by omega)
 ·obtain rfl : Y = noIt := by have := HXE.out; rwa [if_pos he] at this
  go_enter Tryz.func46, Tryz.ntmps46
  go_wp2_with fail
  rw [HW7.out]
  refine HF.out.mono ?_
  rintro e w1 ⟨rfl, hi⟩
  have hbe : Below w.heap.size w w1 ∧ Blk w1 (w.heap.size + 1 + 1 + 1 + 1) 28 #[.string ⟨#[]⟩, .bool false, .slice none 0 0] := by
   unfold fstI at hi
   have hz := HZ.out
   split at hi
   ·exact ⟨HB.out.trans (hi.mono (by omega)), H8.out.keep hi (by omega)⟩
   ·split at hi
    ·exact ⟨HB.out.trans (hi.2.below (by omega) (by simp <;> omega)), H8.out.only hi.2 (by simp)⟩
    ·exact ⟨HB.out.trans (hi.2.below (by omega) (by simp <;> omega)), H8.out.only hi.2 (by simp)⟩
  rw [← HPE.out]
  obtain ⟨p0, p1, p2, pf0, pf1, pf2⟩ := blk3 hbe.2
  have HBE := Lib.hid hbe
  clear hi HF HPE HTZ hbe HXE
  go_wp2
  obtain ⟨d0, d1, d2, _⟩ := blk3 (put3 HBE.out.2 (.string ⟨#[]⟩) (.bool false) (.slice none 0 0))
  refine bodyPost_ret (v := .tuple #[.agg #[.string ⟨#[]⟩, .bool false, .slice none 0 0], .int .i64 E]) (by simp [results, Tryz.results46, go_sem, d0, d1, d2]) rfl ?_
  exact ⟨((HBE.out.1.setCell (by simp <;> omega) _).setCell (by simp <;> omega) _).setCell (by simp <;> omega) _, _, _, _, rfl, noIt_S _ _⟩
end Go.Proofs.YtnfpgadegpmhkaaGreatDoor
