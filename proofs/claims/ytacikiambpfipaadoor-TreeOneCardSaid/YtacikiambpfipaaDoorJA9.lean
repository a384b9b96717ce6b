/- The document's Fits, whole. -/
/- A drawn region whose operations only read, whose calls may make memory of their own: one walk, the class of worlds being 'what lies below stands'. No program in sight. -/
/- The document's Next and Get of an item's bytes. -/
import Derived.Test.YtacikiambpfipaaDoorJA5
import Derived.Test.YtacikiambpfipaaDoorJTypedR
import Derived.Deep.Quiet
import Derived.Below
import Derived.Test.YtacikiambpfipaaDoorJRlpRd
import Derived.Test.YtacikiambpfipaaDoorJA8
namespace Go.Proofs.YtacikiambpfipaaDoor
set_option linter.unusedVariables false
set_option linter.unusedSimpArgs false
open Go.RowKit

set_option maxRecDepth 100000 in
set_option maxHeartbeats 1600000 in
theorem refFits_c (ty : Ty) (x : It) (B : Nat) (w : World) (t0 t1 t2 t3 c0 c1 c2 : Value) (hT : TyIn w B ty t0 t1 t2 t3) (hI : ItIn w B x c0 c1 c2) (hB : B ≤ w.heap.size) (hct : ty.count ≤ 4611686018427387904) (hci : x.count ≤ 4611686018427387904) :
    Calls Tryd.prog 70 #[.agg #[t0, t1, t2, t3], .agg #[c0, c1, c2]] w fun e w' => e = .returned (.int .i64 (fitE ty x)) ∧ Below w.heap.size w w' := by
  obtain ⟨W0, hW0⟩ : ∃ W0, (w.alloc (.cells #[t0, t1, t2, t3] 24)).alloc (.cells #[c0, c1, c2] 27) = W0 := ⟨_, rfl⟩
  have hb0 : Below w.heap.size w W0 := by rw [← hW0]; exact ((Below.refl _ w).alloc (Nat.le_refl _) _).alloc (by simp) _
  have hz0 : W0.heap.size = w.heap.size + 2 := by rw [← hW0]; simp
  have m1 : Blk W0 w.heap.size 24 #[t0, t1, t2, t3] := by rw [← hW0]; exact (Blk.new w _ _).alloc _
  have m2 : Blk W0 (w.heap.size + 1) 27 #[c0, c1, c2] := by rw [← hW0]; have := Blk.new (w.alloc (.cells #[t0, t1, t2, t3] 24)) 27 #[c0, c1, c2]; simpa using this
  have HC1 := Lib.hid (may20_c ty B W0 t0 t1 t2 t3 (hT.below (hb0.mono hB)) (by omega) hct)
  have HC2 : Hid (∀ V, Below (w.heap.size + 2) W0 V → Calls Tryd.prog 113 #[.agg #[c0, c1, c2]] V fun e w' => e = .returned (.bool x.may) ∧ Below V.heap.size V w') := Lib.hid (fun V hV => refMay_c x B V c0 c1 c2 ((hI.below (hb0.mono hB)).below (hV.mono (by omega))) (by have := hV.size; omega) hci)
  have HM1 := Lib.hid m1
  have HM2 := Lib.hid m2
  have HB0 := Lib.hid hb0
  have HT := Lib.hid hT
  have HI := Lib.hid hI
  have HW0 := Lib.hid hW0
  obtain ⟨a, ha⟩ : ∃ a, ty.may = a := ⟨_, rfl⟩
  obtain ⟨b, hb⟩ : ∃ b, x.may = b := ⟨_, rfl⟩
  obtain ⟨c, hc⟩ : ∃ c, x.isOf ty = c := ⟨_, rfl⟩
  have HE : Hid (fitE ty x = if a && b then (if c then 0 else 12) else 1) := Lib.hid (by rw [fitE, ha, hb, hc])
  have HA := Lib.hid ha
  have HBB := Lib.hid hb
  have HCC := Lib.hid hc
  rw [ha] at HC1
  rw [hb] at HC2
  obtain ⟨A, cap, rfl, rfl, rfl, rfl, _⟩ := hT.open_
  obtain ⟨A', cap', rfl, rfl, rfl, _⟩ := hI.open_
  generalize fitE ty x = R at *
  generalize ty.kind = ki at *
  generalize ty.size = si at *
  generalize ty.tail = ta at *
  clear ha hb hc hT hI hW0 m1 m2
  cases a with
  | false =>
    have HX : Hid (R = 1) := Lib.hid (by rw [HE.out]; rfl)
    go_enter Tryd.func70, Tryd.ntmps70
    go_wp2_with fail
    rw [HW0.out]
    refine HC1.out.mono ?_
    rintro e w1 ⟨rfl, hb1⟩
    go_wp2
    go_ret
    exact ⟨by rw [HX.out]; rfl, HB0.out.trans (hb1.mono (by omega))⟩
  | true =>
    cases b with
    | false =>
      have HX : Hid (R = 1) := Lib.hid (by rw [HE.out]; rfl)
      go_enter Tryd.func70, Tryd.ntmps70
      go_wp2_with fail
      rw [HW0.out]
      refine HC1.out.mono ?_
      rintro e w1 ⟨rfl, hb1⟩
      obtain ⟨g0, g1, g2, _, _, _⟩ := blk3 (HM2.out.keep hb1 (by omega))
      have hz1 := hb1.size
      go_wp2_with fail
      refine (HC2.out w1 (hb1.mono (by omega))).mono ?_
      rintro e w2 ⟨rfl, hb2⟩
      go_wp2
      go_ret
      exact ⟨by rw [HX.out]; rfl, HB0.out.trans ((hb1.trans (hb2.mono hz1)).mono (by omega))⟩
    | true =>
      have HX : Hid (R = if c then 0 else 12) := Lib.hid (by rw [HE.out]; rfl)
      go_enter Tryd.func70, Tryd.ntmps70
      go_wp2_with fail
      rw [HW0.out]
      refine HC1.out.mono ?_
      rintro e w1 ⟨rfl, hb1⟩
      obtain ⟨g0, g1, g2, _, _, _⟩ := blk3 (HM2.out.keep hb1 (by omega))
      have hz1 := hb1.size
      go_wp2_with fail
      refine (HC2.out w1 (hb1.mono (by omega))).mono ?_
      rintro e w2 ⟨rfl, hb2⟩
      have hz2 := hb2.size
      have HB2 : Hid (Below (w.heap.size + 2) W0 w2) := Lib.hid ((hb1.trans (hb2.mono hz1)).mono (by omega))
      have hbB : Below B w w2 := (HB0.out.mono hB).trans (HB2.out.mono (by omega))
      obtain ⟨_, _, hrt⟩ := ty_may HA.out
      have hri : x.right = true := by
        have h := HBB.out
        unfold It.may at h
        simp only [Bool.and_eq_true] at h
        exact h.1.1
      have HF := Lib.hid (is_c x B w2 _ _ _ (HI.out.below hbB) (by omega) hri ty _ _ _ _ (HT.out.below hbB) hrt)
      rw [HCC.out] at HF
      obtain ⟨q0, q1, q2, q3, _⟩ := blk4 (HM1.out.keep HB2.out (by omega))
      clear g0 g1 g2
      obtain ⟨g0, g1, g2, _, _, _⟩ := blk3 (HM2.out.keep HB2.out (by omega))
      clear hb1 hb2 hbB hrt hri
      go_wp2_with fail
      refine HF.out.mono ?_
      rintro e w6 ⟨rfl, hb6⟩
      have HB6 : Hid (Below w.heap.size w w6) := Lib.hid (HB0.out.trans ((HB2.out.mono (by omega)).trans (hb6.mono (by omega))))
      clear hb6
      cases c with
      | true =>
        go_wp2
        go_ret
        exact ⟨by rw [HX.out]; rfl, HB6.out⟩
      | false =>
        go_wp2
        go_ret
        exact ⟨by rw [HX.out]; rfl, HB6.out⟩
end Go.Proofs.YtacikiambpfipaaDoor
namespace Go.Proofs.YtacikiambpfipaaDoor
set_option linter.unusedVariables false
set_option linter.unusedSimpArgs false
open Go Go.RowKit

section
variable {P : Program} {ops : Array Oper} {C : World → Prop} {Q : Act → Prop} {o : Oper} {rest : List Oper} {a : Act}
theorem wpQuiet_val (v : Value) (hg : Region.wanted o (yielded ops a.tmps) = true) (h : ∀ w, C w → o.quietAt P a C w v) (hn : wpQuiet P ops C Q rest (a.put o.dst v)) : wpQuiet P ops C Q (o :: rest) a := by
  unfold wpQuiet; rw [if_pos hg]; exact ⟨v, h, hn⟩
theorem wpQuiet_run (v : Value) (hg : Region.wanted o (yielded ops a.tmps) = true) (h : ∀ w, C w → (execOp a.eval o).run P w = .ok (.value v) w) (hn : wpQuiet P ops C Q rest (a.put o.dst v)) : wpQuiet P ops C Q (o :: rest) a :=
  wpQuiet_val v hg (fun w hw => by unfold Oper.quietAt; rw [h w hw]; exact ⟨rfl, rfl⟩) hn
theorem wpQuiet_callB {W : World} (f : FuncId) (args : Array Value) (v : Value) (hg : Region.wanted o (yielded ops a.tmps) = true) (ho : ∀ w, (execOp a.eval o).run P w = .ok (.enter f args) w)
    (hc : ∀ w, Below W.heap.size W w → Calls P f args w fun e w' => e = .returned v ∧ Below w.heap.size w w') (hn : wpQuiet P ops (fun w' => Below W.heap.size W w') Q rest (a.put o.dst v)) : wpQuiet P ops (fun w' => Below W.heap.size W w') Q (o :: rest) a :=
  wpQuiet_val v hg (fun w hw => by
    unfold Oper.quietAt; rw [ho w]
    exact ⟨rfl, (hc w hw).mono fun e w' ⟨he, hb⟩ => ⟨he, hw.trans (hb.mono hw.size)⟩⟩) hn
theorem wp_region_below {id : Nat} {Q : Exit → Act → World → Prop} {a : Act} {w : World} {l : List Oper} (hm : P.follows .mixedOrders = true) (hB : Region.lexB .any l.toArray = true)
    (h : wpQuiet P l.toArray (fun w' => Below w.heap.size w w') (fun a' => ∀ w', Below w.heap.size w w' → Q .normal a' w') l a) : (Code.region id l.toArray true).wp P Q a w :=
  wp_region_quiet (C := fun w' => Below w.heap.size w w') hm hB (Below.refl _ _).drew (by simpa using h)
end
end Go.Proofs.YtacikiambpfipaaDoor
namespace Go.Proofs.YtacikiambpfipaaDoor
set_option linter.unusedVariables false
set_option linter.unusedSimpArgs false
open Go.RowKit

set_option maxRecDepth 100000 in
set_option maxHeartbeats 2000000 in
theorem refNext9_c (s : ByteArray) (D M : Int) (w : World) (hs : s.size ≤ 4611686018427387904) :
    Calls Tryd.prog 123 #[.string s, .int .i64 D, .int .i64 M] w fun e w' => GotEnd w w' (rdItem D M s 1 0) e := by
  have HC := Lib.hid (fun w => refRead_c D M s.size s 1 0 w rfl hs (by omega) (by omega))
  generalize rdItem D M s 1 0 = R at *
  have HB := Lib.hid (Blk.new w 155 #[.string ⟨#[]⟩, .bool false, .slice none 0 0, .int .i64 0, .int .i64 0, .int .i64 0])
  go_enter Tryd.func123, Tryd.ntmps123
  go_wp2_with fail
  refine (HC.out _).mono ?_
  rintro e w1 ⟨hb, c0, c1, c2, rfl, hy⟩
  obtain ⟨AA, ccap, rfl, rfl, rfl, _⟩ := hy.open_
  have HB1 := Lib.hid (HB.out.keep hb (by simp))
  have HY := Lib.hid hy
  have HBB : Hid (Below w.heap.size w w1) := Lib.hid (((Below.refl w.heap.size w).alloc (Nat.le_refl _) _).trans (hb.mono (by simp)))
  obtain ⟨r0, r1, r2, r3, r4, r5, rf0, rf1, rf2, rf3, rf4, rf5⟩ := blk6 HB1.out
  clear hb hy
  go_wp2
  obtain ⟨d0, d1, d2, d3, d4, d5, _⟩ := blk6 (put6 HB1.out (.string R.x.text) (.bool R.x.list) (.slice AA R.x.sub.length ccap) (.int .i64 R.size) (.int .i64 R.items) (.int .i64 R.e))
  refine bodyPost_ret (v := .agg #[.string R.x.text, .bool R.x.list, .slice AA R.x.sub.length ccap, .int .i64 R.size, .int .i64 R.items, .int .i64 R.e]) (by simp [results, Tryd.results123, go_sem, d0, d1, d2, d3, d4, d5]) rfl ?_
  refine ⟨(((((HBB.out.setCell (by simp) _).setCell (by simp) _).setCell (by simp) _).setCell (by simp) _).setCell (by simp) _).setCell (by simp) _, _, _, _, rfl, ?_⟩
  refine HY.out.only (L := [w.heap.size]) (((((((Only.refl _ _).setCell (by simp) _).setCell (by simp) _).setCell (by simp) _).setCell (by simp) _).setCell (by simp) _).setCell (by simp) _) (by simp) (fun k _ h => ?_)
  have h : (w.alloc _).heap.size ≤ k := h
  simp only [World.size_alloc] at h
  omega

set_option maxRecDepth 100000 in
set_option maxHeartbeats 2000000 in
theorem refGet9_c (s : ByteArray) (D M : Int) (w : World) (hs : s.size ≤ 4611686018427387904) :
    Calls Tryd.prog 79 #[.string s, .int .i64 D, .int .i64 M] w fun e w' => GtEnd w w' (getX D M s) (getE D M s) e := by
  have HC := Lib.hid (fun w => refNext9_c s D M w hs)
  have HGE : Hid (getE D M s = if (rdItem D M s 1 0).e ≠ 0 then (rdItem D M s 1 0).e else if (rdItem D M s 1 0).size < s.size then 3 else 0) := Lib.hid rfl
  have HGX : Hid (getX D M s = if getE D M s ≠ 0 then noIt else (rdItem D M s 1 0).x) := Lib.hid rfl
  generalize getX D M s = X at *
  generalize getE D M s = E at *
  generalize rdItem D M s 1 0 = R at *
  obtain ⟨x, size, items, re⟩ := R
  have HB := Lib.hid (Blk.new w 27 #[.string ⟨#[]⟩, .bool false, .slice none 0 0])
  by_cases h0 : re = 0
  · subst h0
    by_cases h1 : size < s.size
    · have HE : Hid (E = 3 ∧ X = noIt) := Lib.hid (by
        have h2 : E = 3 := by rw [HGE.out, if_neg (by simp), if_pos h1]
        exact ⟨h2, by rw [HGX.out, if_pos (by omega)]⟩)
      clear HGE HGX
      go_enter Tryd.func79, Tryd.ntmps79
      go_wp2_with fail
      refine (HC.out _).mono ?_
      rintro e w1 ⟨hb, c0, c1, c2, rfl, hy⟩
      obtain ⟨AA, ccap, rfl, rfl, rfl, _⟩ := hy.open_
      dsimp only
      have HB1 := Lib.hid (HB.out.keep hb (by simp))
      have HY := Lib.hid hy
      have HBB : Hid (Below w.heap.size w w1) := Lib.hid (((Below.refl w.heap.size w).alloc (Nat.le_refl _) _).trans (hb.mono (by simp)))
      have hlt : w.heap.size < w1.heap.size := by have := hb.size; simp only [World.size_alloc] at this; omega
      obtain ⟨r0, r1, r2, rf0, rf1, rf2⟩ := blk3 HB1.out
      clear hb hy
      go_wp2
      obtain ⟨d0, d1, d2, _⟩ := blk3 ((put3 HB1.out (.string ⟨#[]⟩) (.bool false) (.slice none 0 0)).alloc (.cells #[.string x.text, .bool x.list, .slice AA x.sub.length ccap, .int .i64 size, .int .i64 items, .int .i64 0] 155))
      refine bodyPost_ret (v := .tuple #[.agg #[(.string ⟨#[]⟩), (.bool false), (.slice none 0 0)], .int .i64 3]) (by simp [results, Tryd.results79, go_sem, d0, d1, d2]) rfl ?_
      rw [HE.out.1, HE.out.2]
      refine ⟨(((HBB.out.setCell (by simp) _).setCell (by simp) _).setCell (by simp) _).alloc (by simp [World.setCell]; omega) _, _, _, _, rfl, ?_⟩
      exact noIt_S _ _
    · have HE : Hid (E = 0 ∧ X = x) := Lib.hid (by
        have h2 : E = 0 := by rw [HGE.out, if_neg (by simp), if_neg h1]
        exact ⟨h2, by rw [HGX.out, if_neg (by omega)]⟩)
      clear HGE HGX
      go_enter Tryd.func79, Tryd.ntmps79
      go_wp2_with fail
      refine (HC.out _).mono ?_
      rintro e w1 ⟨hb, c0, c1, c2, rfl, hy⟩
      obtain ⟨AA, ccap, rfl, rfl, rfl, _⟩ := hy.open_
      dsimp only
      have HB1 := Lib.hid (HB.out.keep hb (by simp))
      have HY := Lib.hid hy
      have HBB : Hid (Below w.heap.size w w1) := Lib.hid (((Below.refl w.heap.size w).alloc (Nat.le_refl _) _).trans (hb.mono (by simp)))
      have hlt : w.heap.size < w1.heap.size := by have := hb.size; simp only [World.size_alloc] at this; omega
      obtain ⟨r0, r1, r2, rf0, rf1, rf2⟩ := blk3 HB1.out
      clear hb hy
      go_wp2
      obtain ⟨d0, d1, d2, _⟩ := blk3 ((put3 HB1.out (.string x.text) (.bool x.list) (.slice AA x.sub.length ccap)).alloc (.cells #[.string x.text, .bool x.list, .slice AA x.sub.length ccap, .int .i64 size, .int .i64 items, .int .i64 0] 155))
      refine bodyPost_ret (v := .tuple #[.agg #[(.string x.text), (.bool x.list), (.slice AA x.sub.length ccap)], .int .i64 0]) (by simp [results, Tryd.results79, go_sem, d0, d1, d2]) rfl ?_
      rw [HE.out.1, HE.out.2]
      refine ⟨(((HBB.out.setCell (by simp) _).setCell (by simp) _).setCell (by simp) _).alloc (by simp [World.setCell]; omega) _, _, _, _, rfl, ?_⟩
      refine HY.out.only (L := [w.heap.size]) (((((Only.refl _ _).setCell (by simp) _).setCell (by simp) _).setCell (by simp) _).alloc _) (by simp) (fun k _ h => ?_)
      have h : (w.alloc _).heap.size ≤ k := h
      simp only [World.size_alloc] at h
      omega
  · have HE : Hid (E = re ∧ X = noIt) := Lib.hid (by
      have h2 : E = re := by rw [HGE.out, if_pos h0]
      exact ⟨h2, by rw [HGX.out, if_pos (by omega)]⟩)
    have k0 : (re == 0) = false := beq_eq_false_iff_ne.2 h0
    have k1 : (re != 0) = true := by simp [h0]
    clear HGE HGX h0
    go_enter Tryd.func79, Tryd.ntmps79
    go_wp2_with fail
    refine (HC.out _).mono ?_
    rintro e w1 ⟨hb, c0, c1, c2, rfl, hy⟩
    obtain ⟨AA, ccap, rfl, rfl, rfl, _⟩ := hy.open_
    dsimp only
    have HB1 := Lib.hid (HB.out.keep hb (by simp))
    have HY := Lib.hid hy
    have HBB : Hid (Below w.heap.size w w1) := Lib.hid (((Below.refl w.heap.size w).alloc (Nat.le_refl _) _).trans (hb.mono (by simp)))
    have hlt : w.heap.size < w1.heap.size := by have := hb.size; simp only [World.size_alloc] at this; omega
    obtain ⟨r0, r1, r2, rf0, rf1, rf2⟩ := blk3 HB1.out
    clear hb hy
    go_wp2_with fail
    go_region
    all_goals go_wp2
    obtain ⟨d0, d1, d2, _⟩ := blk3 (((put3 HB1.out (.string ⟨#[]⟩) (.bool false) (.slice none 0 0)).alloc (.cells #[.string x.text, .bool x.list, .slice AA x.sub.length ccap, .int .i64 size, .int .i64 items, .int .i64 re] 155)).drew)
    refine bodyPost_ret (v := .tuple #[.agg #[.string ⟨#[]⟩, .bool false, .slice none 0 0], .int .i64 re]) (by simp [results, Tryd.results79, go_sem, d0, d1, d2]) rfl ?_
    rw [HE.out.1, HE.out.2]
    refine ⟨((((HBB.out.setCell (by simp) _).setCell (by simp) _).setCell (by simp) _).alloc (by simp [World.setCell]; omega) _).drew, _, _, _, rfl, noIt_S _ _⟩
end Go.Proofs.YtacikiambpfipaaDoor
