/- Package typed: Fits, whole. -/
/- An append onto a Buf: which block has turned ('grownBy'), where the new value lies. Own text; no program in sight. -/
/- slices.Reverse of bytes, fixed.turned, fixed.Big. -/
/- bits.Len64 and leb.Size. -/
/- The document's least bytes. -/
/- The cells of a slice of items. Own text. -/
/- slices.Clone at items, item.List, item.Text. -/
/- fixed.Least, typed.Number. -/
import Derived.Test.YtacikiambpfipaaDoorKTypedF
import Derived.Test.YtacikiambpfipaaDoorKA5
import Derived.Deep.AppendLies
import Derived.Maps.Range
import Derived.Test.YtacikiambpfipaaDoorKA2
import Derived.Test.YtacikiambpfipaaDoorProg
import Derived.Test.YtacikiambpfipaaDoorKA1
import Derived.WalkSpells
import Derived.Shelf.Strconv.Itoa0
import Derived.Test.YtacikiambpfipaaDoorKA4
import Derived.Deep.DeepFit
import Derived.Lib.BufferMore
import Derived.Test.YtacikiambpfipaaDoorKTypedA
namespace Go.Proofs.YtacikiambpfipaaDoor
set_option linter.unusedVariables false
set_option linter.unusedSimpArgs false
open Go.RowKit

set_option maxRecDepth 100000 in
set_option maxHeartbeats 1600000 in
theorem fits_c (ty : Ty) (x : It) (B : Nat) (w : World) (t0 t1 t2 t3 c0 c1 c2 : Value) (hT : TyIn w B ty t0 t1 t2 t3) (hI : ItIn w B x c0 c1 c2) (hB : B ≤ w.heap.size) (hL : Laid w) :
    Calls Tryd.prog 43 #[.agg #[t0, t1, t2, t3], .agg #[c0, c1, c2]] w fun e w' => e = .returned (.int .i64 (fitE ty x)) ∧ Below w.heap.size w w' := by
  have hpos := hL.pos
  obtain ⟨W0, hW0⟩ : ∃ W0, (w.alloc (.cells #[t0, t1, t2, t3] 24)).alloc (.cells #[c0, c1, c2] 27) = W0 := ⟨_, rfl⟩
  have hb0 : Below w.heap.size w W0 := by rw [← hW0]; exact ((Below.refl _ w).alloc (Nat.le_refl _) _).alloc (by simp) _
  have hz0 : W0.heap.size = w.heap.size + 2 := by rw [← hW0]; simp
  have m1 : Blk W0 w.heap.size 24 #[t0, t1, t2, t3] := by rw [← hW0]; exact (Blk.new w _ _).alloc _
  have m2 : Blk W0 (w.heap.size + 1) 27 #[c0, c1, c2] := by rw [← hW0]; have := Blk.new (w.alloc (.cells #[t0, t1, t2, t3] 24)) 27 #[c0, c1, c2]; simpa using this
  have HC1 := Lib.hid (schemaMay_c ty B W0 t0 t1 t2 t3 (hT.below (hb0.mono hB)) (by omega) (hL.below hb0 hpos))
  have HC2 : Hid (∀ V, Below (w.heap.size + 2) W0 V → Calls Tryd.prog 97 #[.agg #[c0, c1, c2]] V fun e w' => e = .returned (.bool x.may) ∧ Below V.heap.size V w') := Lib.hid (fun V hV => may_c x B V c0 c1 c2 ((hI.below (hb0.mono hB)).below (hV.mono (by omega))) (by have := hV.size; omega))
  have HM1 := Lib.hid m1
  have HM2 := Lib.hid m2
  have HB0 := Lib.hid hb0
  have HT := Lib.hid hT
  have HI := Lib.hid hI
  have HW0 := Lib.hid hW0
  obtain ⟨a, ha⟩ : ∃ a, ty.may = a := ⟨_, rfl⟩
  obtain ⟨b, hb⟩ : ∃ b, x.may = b := ⟨_, rfl⟩
  obtain ⟨c, hc⟩ : ∃ c, x.isOf ty = c := ⟨_, rfl⟩
  have HE : Hid (fitE ty x = if a && b then (if c then 0 else 12) else 1) := Lib.hid (by rw [fitE, ha, hb, hc])
  have HA := Lib.hid ha
  have HBB := Lib.hid hb
  have HCC := Lib.hid hc
  rw [ha] at HC1
  rw [hb] at HC2
  obtain ⟨A, cap, rfl, rfl, rfl, rfl, _⟩ := hT.open_
  obtain ⟨A', cap', rfl, rfl, rfl, _⟩ := hI.open_
  generalize fitE ty x = R at *
  generalize ty.kind = ki at *
  generalize ty.size = si at *
  generalize ty.tail = ta at *
  clear ha hb hc hT hI hW0 m1 m2
  cases a with
  | false =>
    have HX : Hid (R = 1) := Lib.hid (by rw [HE.out]; rfl)
    go_enter Tryd.func43, Tryd.ntmps43
    go_wp2_with fail
    rw [HW0.out]
    refine HC1.out.mono ?_
    rintro e w1 ⟨rfl, hb1⟩
    go_wp2
    go_ret
    exact ⟨by rw [HX.out]; rfl, HB0.out.trans (hb1.mono (by omega))⟩
  | true =>
    cases b with
    | false =>
      have HX : Hid (R = 1) := Lib.hid (by rw [HE.out]; rfl)
      go_enter Tryd.func43, Tryd.ntmps43
      go_wp2_with fail
      rw [HW0.out]
      refine HC1.out.mono ?_
      rintro e w1 ⟨rfl, hb1⟩
      obtain ⟨g0, g1, g2, _, _, _⟩ := blk3 (HM2.out.keep hb1 (by omega))
      have hz1 := hb1.size
      go_wp2_with fail
      refine (HC2.out w1 (hb1.mono (by omega))).mono ?_
      rintro e w2 ⟨rfl, hb2⟩
      go_wp2
      go_ret
      exact ⟨by rw [HX.out]; rfl, HB0.out.trans ((hb1.trans (hb2.mono hz1)).mono (by omega))⟩
    | true =>
      have HX : Hid (R = if c then 0 else 12) := Lib.hid (by rw [HE.out]; rfl)
      go_enter Tryd.func43, Tryd.ntmps43
      go_wp2_with fail
      rw [HW0.out]
      refine HC1.out.mono ?_
      rintro e w1 ⟨rfl, hb1⟩
      obtain ⟨g0, g1, g2, _, _, _⟩ := blk3 (HM2.out.keep hb1 (by omega))
      have hz1 := hb1.size
      go_wp2_with fail
      refine (HC2.out w1 (hb1.mono (by omega))).mono ?_
      rintro e w2 ⟨rfl, hb2⟩
      have hz2 := hb2.size
      have HB2 : Hid (Below (w.heap.size + 2) W0 w2) := Lib.hid ((hb1.trans (hb2.mono hz1)).mono (by omega))
      clear g0 g1 g2 hb1 hb2
      go_wp2_with fail
      refine (kinds_c w2).mono ?_
      rintro e w3 ⟨rfl, rfl⟩
      obtain ⟨W5, hW5⟩ : ∃ W5, ((w2.alloc (.map kEs.toArray 5)).alloc (.cells #[.map (some w2.heap.size)] 125)).alloc (.cells #[.func (.func 99) #[] #[.pointer (some ⟨w2.heap.size + 1, 0, none⟩), .pointer (some ⟨w2.heap.size + 1 + 1, 0, none⟩)]] 127) = W5 := ⟨_, rfl⟩
      have hz5 : W5.heap.size = w2.heap.size + 3 := by rw [← hW5]; simp
      have hb5 : Below w2.heap.size w2 W5 := by rw [← hW5]; exact (((Below.refl _ _).alloc (Nat.le_refl _) _).alloc (by simp) _).alloc (by simp; omega) _
      have HFV : Hid (FV W5 (w2.heap.size + 1) (w2.heap.size + 1 + 1) w2.heap.size) := Lib.hid (by
        rw [← hW5]
        refine ⟨?_, ?_, ?_⟩
        · have := (Blk.new (w2.alloc (.map kEs.toArray 5)) 125 #[.map (some w2.heap.size)])
          rw [World.size_alloc] at this
          exact this.alloc _
        · have := Blk.new ((w2.alloc (.map kEs.toArray 5)).alloc (.cells #[.map (some w2.heap.size)] 125)) 127 #[.func (.func 99) #[] #[.pointer (some ⟨w2.heap.size + 1, 0, none⟩), .pointer (some ⟨w2.heap.size + 1 + 1, 0, none⟩)]]
          rw [World.size_alloc, World.size_alloc] at this
          exact this
        · have h3 : (w2.alloc (.map kEs.toArray 5)).heap[w2.heap.size]? = some (.map kEs.toArray 5) := heap_alloc_new w2 _
          rw [Below.heap_alloc _ _ _ (by simp; omega), Below.heap_alloc _ _ _ (by simp)]
          exact h3)
      have HB5 : Hid (Below (w.heap.size + 2) W0 W5) := Lib.hid (HB2.out.trans (hb5.mono (by omega)))
      have hbB : Below B w W5 := (HB0.out.mono hB).trans (HB5.out.mono (by omega))
      obtain ⟨_, _, hrt⟩ := ty_may HA.out
      have hri : x.right = true := by
        have h := HBB.out
        unfold It.may at h
        simp only [Bool.and_eq_true] at h
        exact h.1.1
      have HF := Lib.hid (fitsC_c x B W5 _ _ _ (HI.out.below hbB) (by omega) hri ty _ _ _ _ (HT.out.below hbB) hrt _ _ _ HFV.out)
      rw [HCC.out] at HF
      have HW5 := Lib.hid hW5
      have n1 := HM1.out.keep HB5.out (by omega)
      have n2 := HM2.out.keep HB5.out (by omega)
      have q0 : W5.cell? ⟨w.heap.size, 0, none⟩ = some (.int .i64 ki) := n1.cell 0
      have q1 : W5.cell? ⟨w.heap.size, 1, none⟩ = some (.int .i64 si) := n1.cell 1
      have q2 : W5.cell? ⟨w.heap.size, 2, none⟩ = some (.slice A ty.sub.length cap) := n1.cell 2
      have q3 : W5.cell? ⟨w.heap.size, 3, none⟩ = some (.int .i64 ta) := n1.cell 3
      have r0 : W5.cell? ⟨w.heap.size + 1, 0, none⟩ = some (.string x.text) := n2.cell 0
      have r1 : W5.cell? ⟨w.heap.size + 1, 1, none⟩ = some (.bool x.list) := n2.cell 1
      have r2 : W5.cell? ⟨w.heap.size + 1, 2, none⟩ = some (.slice A' x.sub.length cap') := n2.cell 2
      have l0 : w.heap.size < w2.heap.size := by omega
      have l1 : w.heap.size + 1 < w2.heap.size := by omega
      rw [← hW5] at q0 q1 q2 q3 r0 r1 r2
      clear hW5 hb5 hbB hrt hri n1 n2
      go_wp2_with fail
      rw [HW5.out]
      refine HF.out.mono ?_
      rintro e w6 ⟨rfl, hb6⟩
      have HB6 : Hid (Below w.heap.size w w6) := Lib.hid (HB0.out.trans ((HB5.out.mono (by omega)).trans (hb6.mono (by omega))))
      clear hb6
      cases c with
      | true =>
        go_wp2
        go_ret
        exact ⟨by rw [HX.out]; rfl, HB6.out⟩
      | false =>
        go_wp2
        go_ret
        exact ⟨by rw [HX.out]; rfl, HB6.out⟩
end Go.Proofs.YtacikiambpfipaaDoor
namespace Go.Proofs.YtacikiambpfipaaDoor
set_option linter.unusedVariables false
set_option linter.unusedSimpArgs false
open Go.RowKit

/-- Only v's own block, and new ones, have turned; v' lies where v does, or in a new one. -/
structure GrB (w w' : World) (v v' : Value) : Prop where
  grown : w.grownBy w' v.ownBlock
  own : v'.ownBlock = v.ownBlock ∨ ∃ g, v'.ownBlock = some g ∧ w.heap.size ≤ g
theorem GrB.refl (w : World) (v : Value) : GrB w w v v := ⟨World.grownBy.refl _ _, .inl rfl⟩
theorem GrB.size {w w' : World} {v v' : Value} (h : GrB w w' v v') : w.heap.size ≤ w'.heap.size := h.grown.size
theorem GrB.trans {a b c : World} {v v' v'' : Value} (h : GrB a b v v') (k : GrB b c v' v'') : GrB a c v v'' := by
  refine ⟨h.grown.andThen k.grown fun j hj => ?_, ?_⟩
  · rcases h.own with e | ⟨g, e, hg⟩
    · exact .inr (by rw [← e, hj])
    · rw [e] at hj; injection hj with hj; exact .inl (by omega)
  · rcases k.own with e | ⟨g, e, hg⟩
    · rcases h.own with e2 | ⟨g2, e2, hg2⟩
      · exact .inl (e.trans e2)
      · exact .inr ⟨g2, e.trans e2, hg2⟩
    · exact .inr ⟨g, e, by have := h.size; omega⟩
theorem grownBy_none {a b : World} (h : Below a.heap.size a b) : a.grownBy b none := ⟨h.os, h.tape, h.output, h.size, fun k hk _ => h.block k hk⟩
theorem grownBy_any {a b : World} (h : a.grownBy b none) (r : Option Nat) : a.grownBy b r := ⟨h.os, h.tape, h.output, h.size, fun k hk _ => h.block k hk (by simp)⟩
/-- What is made ahead, or drawn, turns nothing. -/
theorem GrB.ahead {a b c : World} {v v' : Value} (h : Below a.heap.size a b) (k : GrB b c v v') : GrB a c v v' := (show GrB a b v v from ⟨grownBy_any (grownBy_none h) _, .inl rfl⟩).trans k
theorem GrB.behind {a b c : World} {v v' : Value} (h : GrB a b v v') (k : Below b.heap.size b c) : GrB a c v v' := h.trans (show GrB b c v' v' from ⟨grownBy_any (grownBy_none k) _, .inl rfl⟩)
theorem GrB.below {B : Nat} {a b c : World} {v v' : Value} (h : Below B a b) (k : GrB b c v v') (hB : B ≤ b.heap.size) (hv : ∀ g, v.ownBlock = some g → B ≤ g) : Below B a c := h.grown k.grown hB hv
theorem GrB.block {a b : World} {v v' : Value} (h : GrB a b v v') {k : Nat} (hk : k < a.heap.size) (hne : v.ownBlock ≠ some k) : b.heap[k]? = a.heap[k]? := h.grown.block k hk (fun e => hne e.symm)
theorem Buf.ge {w : World} {base : Nat} {E : TypeId} {v : Value} {l : List UInt8} (h : Buf w base E v l) : ∀ g, v.ownBlock = some g → base ≤ g ∧ g < w.heap.size ∧ ∃ cur fr, w.heap[g]? = some (.cells cur E fr) := by
  obtain ⟨A, cap, rfl, h2, h3, h4⟩ := h
  intro g hg
  rcases h4 with ⟨hA, _⟩ | ⟨g', cur, fr, hA, hb, hh, _⟩
  · subst hA; cases hg
  · subst hA
    have : g' = g := by simpa [Value.ownBlock] using hg
    subst this
    exact ⟨hb, lt_of_block hh, cur, fr, hh⟩
theorem Buf.own_ne {w : World} {base : Nat} {E t : TypeId} {v : Value} {l : List UInt8} {g : Nat} {cs : Array Value} {fr : Nat × Nat} (h : Buf w base E v l) (hh : w.heap[g]? = some (.cells cs t fr)) (hne : t ≠ E) : v.ownBlock ≠ some g := by
  intro e
  obtain ⟨_, _, cur, fr', h'⟩ := h.ge g e
  rw [hh] at h'
  injection h' with h'
  injection h' with _ h'
  exact hne h'
/-- It stands where its own block does. -/
theorem Buf.keep {w w' : World} {base : Nat} {E : TypeId} {v : Value} {l : List UInt8} (h : Buf w base E v l) (hk : ∀ k, k < w.heap.size → v.ownBlock = some k → w'.heap[k]? = w.heap[k]?) : Buf w' base E v l := by
  obtain ⟨A, cap, rfl, h2, h3, h4⟩ := h
  refine ⟨A, cap, rfl, h2, h3, ?_⟩
  rcases h4 with h4 | ⟨g, cur, fr, hA, hg, hh, r⟩
  · exact .inl h4
  · exact .inr ⟨g, cur, fr, hA, hg, (hk g (lt_of_block hh) (by subst hA; rfl)).trans hh, r⟩
theorem Blk.grB {w w' : World} {g : Nat} {t : TypeId} {cs : Array Value} {v v' : Value} (h : Blk w g t cs) (hg : GrB w w' v v') (hn : v.ownBlock ≠ some g) : Blk w' g t cs := (hg.block h.lt hn).trans h
/-- One append, from whatever source. -/
theorem Buf.appendO {P : Program} {w : World} {base : Nat} {E : TypeId} {v : Value} {l : List UInt8} (h : Buf w base E v l) (t tx ty : TypeId) (i : TypeInfo) (ht : P.underlying t = some (.slice E)) (hi : P.info? E = some i) (hz : i.zero = some (.int .u8 0)) (h1 : i.size = 1) (hby : i.bytes = 1)
    (xv : Value) (m : List UInt8) (hs : Src P 1 tx xv m.length (cb m) w) (hb : base ≤ w.heap.size) (hlen : l.length + m.length ≤ 140737488355328) :
    ∃ v' w', (Builtin.append_ #[t, tx] ty #[v, xv]).run P w = .ok v' w' ∧ Buf w' base E v' (l ++ m) ∧ GrB w w' v v' := by
  obtain ⟨A, cap, rfl, hlc, hcm, h4⟩ := h
  have hs' : Src P i.size tx xv m.length (cb m) w := by rw [h1]; exact hs
  by_cases hroom : l.length + m.length ≤ cap
  · rcases h4 with ⟨hA, hc0⟩ | ⟨g, cur, fr, hA, hg, hh, hsz, htk, hfr⟩
    · subst hA; subst hc0
      have hl0 : l = [] := List.eq_nil_of_length_eq_zero (by omega)
      have hm0 : m = [] := List.eq_nil_of_length_eq_zero (by omega)
      subst hl0; subst hm0
      exact ⟨_, w, Go.run_append_nothing w t tx ty E i ht hi none 0 0 (Nat.le_refl _) xv hs', Buf.nil w base E, GrB.refl _ _⟩
    · subst hA
      have hrun := run_append_room_src (P := P) w t tx ty E i ht hi g 0 l.length cap xv m.length (cb m) hs' hroom
        (by
          intro j hj
          rw [cb_length] at hj
          have : 0 + l.length * i.size + j < cur.size := by rw [h1, hsz]; omega
          simp only [World.cell?, hh]
          rw [Array.getElem?_eq_getElem this]; rfl)
        (by
          intro j hj
          rw [cb_length] at hj
          exact frozen_at hh (by rw [h1]; rcases hfr with h | h; exact .inl h; exact .inr (by omega)))
      rw [h1, Nat.mul_one, Nat.zero_add] at hrun
      obtain ⟨cur', c1, c2, c3⟩ := setCells_heap (cb m) l.length w cur hh (by rw [cb_length]; omega)
      refine ⟨_, _, hrun, ⟨_, cap, by rw [List.length_append], by rw [List.length_append]; exact hroom, hcm, .inr ⟨g, cur', fr, rfl, hg, c1, by omega, ?_, hfr⟩⟩, ⟨World.os_setCells _ _ _ _, setCells_tape _ _ _ _, World.output_setCells _ _ _ _, by rw [setCells_size]; exact Nat.le_refl _, fun k hk hne => World.heap_setCells_other w g l.length (cb m) hk (fun e => hne (by subst e; rfl))⟩, .inl rfl⟩
      rw [List.length_append, cb_append]
      rw [cb_length, htk] at c3
      exact c3
  · have hold : (Builtin.firstCells i.size l.length (.slice A l.length cap)).run P w.drew = .ok (cb l).toArray w.drew := by
      rcases h4 with ⟨hA, hc0⟩ | ⟨g, cur, fr, hA, hg, hh, hsz, htk, hfr⟩
      · subst hA; subst hc0
        have hl0 : l = [] := List.eq_nil_of_length_eq_zero (by omega)
        subst hl0
        exact run_firstCells_none w.drew i.size 0 0 0
      · have hc := Buf.cells (w := w) (base := base) (E := E) (A := A) (cap := cap) (l := l) ⟨A, cap, rfl, hlc, hcm, .inr ⟨g, cur, fr, hA, hg, hh, hsz, htk, hfr⟩⟩ ⟨g, 0, none⟩ hA
        subst hA
        exact run_firstCells_some w.drew i.size l.length _ l.length cap (cb l) (by rw [cb_length, h1, Nat.mul_one]) hc
    have hfit : Builtin.nextslicecap (l.length + m.length) cap * i.bytes ≤ 281474976710656 := by
      rw [hby]
      exact growslice_fits (by omega) (by omega)
    have hrun := run_append_grow_src (P := P) w t tx ty E i (.int .u8 0) ht hi hz A l.length cap (cb l) hold xv m.length (cb m) hs' (by omega) (by omega) hfit
    have g1 := grownCap_ge w (l.length + m.length) cap E
    have g2 := grownCap_le_maxLen w (l.length + m.length) cap E (by simp [maxLen]; omega)
    refine ⟨_, _, hrun, ⟨_, _, by rw [List.length_append], by rw [List.length_append]; exact g1, by simpa [maxLen] using g2, .inr ⟨w.heap.size, _, (0, 0), rfl, hb, heap_alloc_new w.drew _, ?_, ?_, .inl rfl⟩⟩, grownBy_any (grownBy_none ((Below.refl w.heap.size w).drew.alloc (by simp) _)) _, .inr ⟨w.heap.size, rfl, Nat.le_refl _⟩⟩
    · simp only [Array.size_append, List.size_toArray, List.length_append, cb_length, size_zeroCells]
      have : (Value.int .u8 0).cells.size = 1 := rfl
      rw [this]; omega
    · rw [Array.toList_append, List.length_append, List.take_append_of_le_length (by simp [cb_length]), cb_append]
      exact List.take_of_length_le (by simp [cb_length])
theorem wp_append_bufO {P : Program} {w : World} {o : Oper} {a : Act} {K : Act → World → Prop} {Q : Exit → Act → World → Prop} (s x : Operand) (t tx : TypeId)
    (ho : o.op = .call { callee := .builtin .append, args := #[s, x], argTypes := #[t, tx] }) (base : Nat) (E : TypeId) (i : TypeInfo) (ht : P.underlying t = some (.slice E)) (hi : P.info? E = some i) (hz : i.zero = some (.int .u8 0)) (h1 : i.size = 1) (hby : i.bytes = 1)
    {v : Value} {l : List UInt8} (hv : a.eval s = v) (h : Buf w base E v l) (xv : Value) (m : List UInt8) (hx : a.eval x = xv) (hs : Src P 1 tx xv m.length (cb m) w) (hb : base ≤ w.heap.size) (hlen : l.length + m.length ≤ 140737488355328)
    (hK : ∀ (A' : Option Addr) (n' cap' : Nat) w', Buf w' base E (.slice A' n' cap') (l ++ m) → GrB w w' v (.slice A' n' cap') → K (a.put o.dst (.slice A' n' cap')) w') : Oper.wp P o a w K Q := by
  obtain ⟨v', w', hrun, r1, r2⟩ := h.appendO (P := P) t tx o.type i ht hi hz h1 hby xv m hs hb hlen
  obtain ⟨A', cap', hv', _⟩ := r1.form
  unfold Oper.wp
  simp [execOp, ho, resolve, invoke, builtin, hv, hx, hrun, Result.andThen]
  subst hv'
  exact hK _ _ _ w' r1 r2
theorem wpList_append_bufO {P : Program} {w : World} {ops : Array Oper} {rest : List Oper} {o : Oper} {a : Act} {Q : Exit → Act → World → Prop} (hgd : o.guard = none) (s x : Operand) (t tx : TypeId)
    (ho : o.op = .call { callee := .builtin .append, args := #[s, x], argTypes := #[t, tx] }) (base : Nat) (E : TypeId) (i : TypeInfo) (ht : P.underlying t = some (.slice E)) (hi : P.info? E = some i) (hz : i.zero = some (.int .u8 0)) (h1 : i.size = 1) (hby : i.bytes = 1)
    {v : Value} {l : List UInt8} (hv : a.eval s = v) (h : Buf w base E v l) (xv : Value) (m : List UInt8) (hx : a.eval x = xv) (hs : Src P 1 tx xv m.length (cb m) w) (hb : base ≤ w.heap.size) (hlen : l.length + m.length ≤ 140737488355328)
    (hK : ∀ (A' : Option Addr) (n' cap' : Nat) w', Buf w' base E (.slice A' n' cap') (l ++ m) → GrB w w' v (.slice A' n' cap') → wpList P ops Q rest (a.put o.dst (.slice A' n' cap')) w') : wpList P ops Q (o :: rest) a w :=
  wpList_plain hgd fun _ hK' => wp_append_bufO s x t tx ho base E i ht hi hz h1 hby hv h xv m hx hs hb hlen fun A' n' cap' w' r1 r2 => hK' _ _ (hK A' n' cap' w' r1 r2)
theorem step_append_bufO {P : Program} {w : World} {ops : Array Oper} {o : Oper} {a : Act} {K : Act → World → Prop} {Q : Exit → Act → World → Prop} {E' : Prop} (hgd : o.guard = none) (s x : Operand) (t tx : TypeId)
    (ho : o.op = .call { callee := .builtin .append, args := #[s, x], argTypes := #[t, tx] }) (base : Nat) (E : TypeId) (i : TypeInfo) (ht : P.underlying t = some (.slice E)) (hi : P.info? E = some i) (hz : i.zero = some (.int .u8 0)) (h1 : i.size = 1) (hby : i.bytes = 1)
    {v : Value} {l : List UInt8} (hv : a.eval s = v) (h : Buf w base E v l) (xv : Value) (m : List UInt8) (hx : a.eval x = xv) (hs : Src P 1 tx xv m.length (cb m) w) (hb : base ≤ w.heap.size) (hlen : l.length + m.length ≤ 140737488355328)
    (hK : ∀ (A' : Option Addr) (n' cap' : Nat) w', Buf w' base E (.slice A' n' cap') (l ++ m) → GrB w w' v (.slice A' n' cap') → K (a.put o.dst (.slice A' n' cap')) w') :
    if Region.wanted o (yielded ops a.tmps) = true then Oper.wp P o a w K Q else E' := by
  have hw : Region.wanted o (yielded ops a.tmps) = true := by simp [Region.wanted, hgd]
  rw [if_pos hw]
  exact wp_append_bufO s x t tx ho base E i ht hi hz h1 hby hv h xv m hx hs hb hlen hK
end Go.Proofs.YtacikiambpfipaaDoor
namespace Go.Proofs.YtacikiambpfipaaDoor
set_option linter.unusedVariables false
set_option linter.unusedSimpArgs false
open Go.RowKit

/-- k pairs swapped, from both ends. -/
def rv (l : List UInt8) : Nat → List UInt8
  | 0 => l
  | k + 1 => ((rv l k).set k ((rv l k).getD (l.length - 1 - k) 0)).set (l.length - 1 - k) ((rv l k).getD k 0)
theorem rv_length (l : List UInt8) (k : Nat) : (rv l k).length = l.length := by
  induction k with
  | zero => rfl
  | succ k ih => simp [rv, ih]
theorem rv_at (l : List UInt8) (k : Nat) : 2 * k ≤ l.length + 1 → ∀ j, j < l.length → (rv l k)[j]? = if j < k ∨ l.length - k ≤ j then l[l.length - 1 - j]? else l[j]? := by
  induction k with
  | zero => intro _ j hj; rw [if_neg (by omega)]; rfl
  | succ k ih =>
    intro hk j hj
    have IH := ih (by omega)
    have e1 := IH k (by omega)
    have e2 := IH (l.length - 1 - k) (by omega)
    have hl := rv_length l k
    simp only [rv, List.getElem?_set, List.getD_eq_getElem?_getD, List.length_set, hl]
    by_cases h1 : l.length - 1 - k = j
    · subst h1
      rw [if_pos rfl, if_pos hj, if_pos (by omega), e1]
      by_cases h3 : k = l.length - 1 - k
      · rw [if_neg (by omega), ← h3, List.getElem?_eq_getElem (by omega), ]
        simp only [Option.getD_some]
        rw [show l.length - 1 - k = k from by omega, List.getElem?_eq_getElem (by omega)]
      · rw [if_neg (by omega), show l.length - 1 - (l.length - 1 - k) = k from by omega, List.getElem?_eq_getElem (by omega)]
        rfl
    · rw [if_neg h1]
      by_cases h2 : k = j
      · subst h2
        rw [if_pos rfl, if_pos hj, if_pos (by omega), e2, if_neg (by omega), List.getElem?_eq_getElem (by omega)]
        rfl
      · rw [if_neg h2, IH j hj]
        by_cases h3 : j < k ∨ l.length - k ≤ j
        · rw [if_pos h3, if_pos (by omega)]
        · rw [if_neg h3, if_neg (by omega)]
theorem rv_all (l : List UInt8) (k : Nat) (h : l.length ≤ 2 * k + 1) (hk : 2 * k ≤ l.length + 1) : rv l k = l.reverse := by
  apply List.ext_getElem?
  intro j
  by_cases hj : j < l.length
  · rw [rv_at l k hk j hj, List.getElem?_reverse hj]
    by_cases h3 : j < k ∨ l.length - k ≤ j
    · rw [if_pos h3]
    · rw [if_neg h3, show l.length - 1 - j = j from by omega]
  · rw [List.getElem?_eq_none (by rw [rv_length]; omega), List.getElem?_eq_none (by simp; omega)]
set_option maxRecDepth 100000 in
set_option maxHeartbeats 1000000 in
theorem reverse_c (base g cap : Nat) (l : List UInt8) (w : World) (hbuf : Buf w base 5 (.slice (some ⟨g, 0, none⟩) l.length cap) l) (hl : l.length ≤ 1099511627776) :
    Calls Tryd.prog 167 #[.slice (some ⟨g, 0, none⟩) l.length cap] w fun e w' => e = .returned (.tuple #[]) ∧ Buf w' base 5 (.slice (some ⟨g, 0, none⟩) l.length cap) l.reverse ∧ Kept 5 base w w' := by
  obtain ⟨n, hn⟩ : ∃ n, l.length = n := ⟨_, rfl⟩
  rw [hn] at hbuf hl ⊢
  have HN := Lib.hid hn
  have hc := hbuf.len.2
  clear hn
  go_enter Tryd.func167, Tryd.ntmps167
  go_wp2
  go_loopw [2, 3] (fun i j wr => ∃ k : Nat, 2 * k ≤ n + 1 ∧ i = .int .i64 k ∧ j = .int .i64 ((n : Int) - 1 - k) ∧ Buf wr base 5 (.slice (some ⟨g, 0, none⟩) n cap) (rv l k) ∧ Kept 5 base w wr) (fun i _ _ => n - (intOf i).toNat)
  case atStart => exact ⟨0, by omega, rfl, by go_num, hbuf, Kept.refl _ _ _⟩
  case round =>
    obtain ⟨k, hk, rfl, rfl, hb, hkept⟩ := hrel
    clear hbuf
    by_cases hlt : 2 * k + 1 < n
    · have hlen : (rv l k).length = n := by rw [rv_length, HN.out]
      obtain ⟨d, hd⟩ : ∃ d : Nat, n - 1 - k = d := ⟨_, rfl⟩
      have hdi : (n : Int) - 1 - k = d := by omega
      obtain ⟨c1, f1, g1, g2⟩ := hb.at_ (k := k) (by omega)
      obtain ⟨c2, f2, _, _⟩ := hb.at_ (k := d) (by omega)
      have HS := Lib.hid ((hb.set (k := k) (by omega) ((rv l k).getD d 0)).set (k := d) (by rw [List.length_set]; omega) ((rv l k).getD k 0))
      obtain ⟨cur, fr, hcur, hbg⟩ := hb.block
      have HK := Lib.hid (((hkept.store (k := k) hcur hbg (.int .u8 ((rv l k).getD d 0).toNat))).store (k := d) (setCell_heap _ hcur) hbg (.int .u8 ((rv l k).getD k 0).toNat))
      have HR : Hid (((rv l k).set k ((rv l k).getD d 0)).set d ((rv l k).getD k 0) = rv l (k + 1)) := Lib.hid (by simp only [rv]; rw [HN.out, hd])
      rw [HR.out] at HS
      have hne : (⟨g, d, none⟩ : Addr) ≠ ⟨g, k, none⟩ := fun e => by have := congrArg Addr.off e; simp at this; omega
      rw [hdi]
      have ht : ((rv l k).getD d 0).toNat < 256 := UInt8.toNat_lt _
      have ht2 : ((rv l k).getD k 0).toNat < 256 := UInt8.toNat_lt _
      generalize ((rv l k).getD d 0).toNat = y at *
      generalize ((rv l k).getD k 0).toNat = x at *
      have hkd : k < d := by omega
      have hdn : d < n := by omega
      clear hcur hb hkept hlen hd
      go_wp2
      go_region
      all_goals
        go_wp2
        go_roundw
        case rel => exact ⟨k + 1, by omega, by go_num, by go_num, HS.out.drew, HK.out.drew⟩
        case measure => simp [intOf]; omega
    · have e : rv l k = l.reverse := rv_all l k (by rw [HN.out]; omega) (by rw [HN.out]; omega)
      rw [e] at hb
      go_wp2
      go_end0
      exact ⟨rfl, hb, hkept⟩
set_option maxRecDepth 100000 in
theorem turnedB_c (base g cap : Nat) (l : List UInt8) (w : World) (hbuf : Buf w base 5 (.slice (some ⟨g, 0, none⟩) l.length cap) l) (hl : l.length ≤ 1099511627776) :
    Calls Tryd.prog 143 #[.slice (some ⟨g, 0, none⟩) l.length cap] w fun e w' => e = .returned (.string ⟨l.reverse.toArray⟩) ∧ Kept 5 base w w' := by
  have HC := Lib.hid (reverse_c base g cap l w hbuf hl)
  clear hbuf
  go_enter Tryd.func143, Tryd.ntmps143
  go_wp2_with fail
  refine HC.out.mono ?_
  rintro e w1 ⟨rfl, hb, hk⟩
  have hst := hb.str' (P := Tryd.prog) Tryd.underlying54 Tryd.underlying5 Tryd.underlying9
  have HK := Lib.hid hk
  clear hb hk
  obtain ⟨X, HX⟩ : ∃ X, Hid ((⟨l.reverse.toArray⟩ : ByteArray) = X) := ⟨_, Lib.hid rfl⟩
  rw [HX.out] at hst
  generalize l.length = n at *
  go_wp2
  go_ret
  exact ⟨by rw [HX.out]; rfl, HK.out⟩
end Go.Proofs.YtacikiambpfipaaDoor
namespace Go.Proofs.YtacikiambpfipaaDoor
set_option linter.unusedVariables false
set_option linter.unusedSimpArgs false
open Go.RowKit

/-- How many bits. -/
def blF : Nat → Nat → Nat
  | 0, _ => 0
  | f + 1, n => if n = 0 then 0 else blF f (n / 2) + 1
def bl (n : Nat) : Nat := blF 64 n
theorem blF_zero (f : Nat) : blF f 0 = 0 := by cases f <;> simp [blF]
theorem blF_more (f g n : Nat) (hf : n < 2 ^ f) (hg : n < 2 ^ g) : blF f n = blF g n := by
  induction f generalizing g n with
  | zero => simp at hf; subst hf; rw [blF_zero, blF_zero]
  | succ f ih =>
    by_cases h0 : n = 0
    · subst h0; rw [blF_zero, blF_zero]
    · cases g with
      | zero => simp at hg; omega
      | succ g => simp only [blF, if_neg h0]; rw [ih g (n / 2) (by rw [Nat.pow_succ] at hf; omega) (by rw [Nat.pow_succ] at hg; omega)]
theorem bl_half (n : Nat) (h0 : 0 < n) (h : n < 2 ^ 64) : bl n = bl (n / 2) + 1 := by
  unfold bl
  rw [show (64 : Nat) = 63 + 1 from rfl, blF, if_neg (by omega), blF_more 63 (63 + 1) (n / 2) (by omega) (by omega)]
theorem bl_shift (k n : Nat) (h : 2 ^ k ≤ n) (hn : n < 2 ^ 64) : bl n = bl (n / 2 ^ k) + k := by
  induction k generalizing n with
  | zero => simp
  | succ k ih =>
    have hp : 2 ^ (k + 1) = 2 ^ k * 2 := Nat.pow_succ ..
    have h1 : 0 < 2 ^ k := Nat.pow_pos (by omega)
    rw [bl_half n (by omega) hn, ih (n / 2) (by omega) (by omega), Nat.div_div_eq_div_mul, Nat.mul_comm 2, ← hp]
    omega
theorem bl_le (k n : Nat) (h : n < 2 ^ k) (hk : k ≤ 64) : bl n ≤ k := by
  unfold bl
  have h64 : n < 2 ^ 64 := Nat.lt_of_lt_of_le h (Nat.pow_le_pow_right (by omega) hk)
  rw [blF_more 64 k n h64 h]
  clear h64 h hk
  induction k generalizing n with
  | zero => simp [blF]
  | succ k ih => simp only [blF]; split; omega; have := ih (n / 2); omega
theorem bl_pos (n : Nat) (h0 : 0 < n) (h : n < 2 ^ 64) : 1 ≤ bl n := by rw [bl_half n h0 h]; omega
theorem ret_int {k : IntKind} {a b : Int} (h : a = b) : Ending.returned (.int k a) = .returned (.int k b) := by rw [h]
def lenRen : Go.Shelf.Ren := ⟨fun x => if x = 129 then 144 else x, fun x => if x = 3 then 3 else if x = 4 then 4 else if x = 5 then 5 else if x = 9 then 9 else if x = 46 then 190 else if x = 53 then 39 else x, fun x => x⟩
theorem lays129 : Go.Proofs.Lays.n129 Tryd.prog lenRen where
  mixed := by kernel_rfl
  f129 := by kernel_rfl
  t3 := by kernel_rfl
  a3 := fun _ => by kernel_rfl
  z3 := fun _ => by kernel_rfl
  v3 := fun _ => by kernel_rfl
  t4 := by kernel_rfl
  a4 := fun _ => by kernel_rfl
  z4 := fun _ => by kernel_rfl
  v4 := fun _ => by kernel_rfl
  t5 := by kernel_rfl
  a5 := fun _ => by kernel_rfl
  z5 := fun _ => by kernel_rfl
  v5 := fun _ => by kernel_rfl
  t9 := by kernel_rfl
  a9 := fun _ => by kernel_rfl
  z9 := fun _ => by kernel_rfl
  v9 := fun _ => by kernel_rfl
  t46 := by kernel_rfl
  a46 := fun _ => by kernel_rfl
  z46 := fun _ => by kernel_rfl
  v46 := fun _ => by kernel_rfl
  t53 := by kernel_rfl
  a53 := fun _ => by kernel_rfl
  z53 := fun _ => by kernel_rfl
  v53 := fun _ => by kernel_rfl
theorem bitLen_eq (n : Nat) : Lib.bitLen n = bl n := by
  unfold Lib.bitLen bl
  have h : ∀ f n, Lib.bitLenAux f n = blF f n := by
    intro f
    induction f with
    | zero => intro n; rfl
    | succ f ih => intro n; simp only [Lib.bitLenAux, blF, ih]; split <;> omega
  exact h 64 n
theorem len64_c (n : Nat) (w : World) (hn : n < 18446744073709551616) :
    Calls Tryd.prog 144 #[.int .u64 n] w fun e w' => e = .returned (.int .i64 (bl n)) ∧ w = w' := by
  have h : Calls Tryd.prog 144 #[.int .u64 n] w fun e w' => e = .returned (.int .i64 (Lib.bitLen (n : Int).toNat)) ∧ w' = w := Any.bits_Len64 lays129 n w (by omega) (by omega)
  exact h.mono fun e w' ⟨he, hw⟩ => ⟨by rw [he, Int.toNat_natCast, bitLen_eq], hw.symm⟩
end Go.Proofs.YtacikiambpfipaaDoor
namespace Go.Proofs.YtacikiambpfipaaDoor
set_option linter.unusedVariables false
set_option linter.unusedSimpArgs false
open Go.RowKit

def LeastInv (n : Nat) (w : World) (x v : Value) (wr : World) : Prop :=
  ∃ (m : Nat) (s : ByteArray), x = .int .u64 m ∧ v = .string s ∧ minL m ++ s.data.toList = minL n ∧ m < 18446744073709551616 ∧ s.size ≤ 8 ∧ Below w.heap.size w wr
theorem least_next {n m : Nat} {s : ByteArray} (h : minL m ++ s.data.toList = minL n) (h0 : 0 < m) : minL (m / 256) ++ (⟨#[ub ((m : Int) % 256)]⟩ ++ s).data.toList = minL n := by
  rw [← h, minL_pos (n := m) (by omega), toList_app]
  simp
theorem least_size {n m : Nat} {s : ByteArray} (h : minL m ++ s.data.toList = minL n) (hn : n < 18446744073709551616) : s.size ≤ 8 := by
  have h1 := minL_length 8 n (by simpa using hn)
  have := congrArg List.length h
  simp only [List.length_append, toList_size] at this
  omega
set_option maxRecDepth 100000 in
set_option maxHeartbeats 1000000 in
theorem refLeast_c (n : Nat) (w : World) (hn : n < 18446744073709551616) :
    Calls Tryd.prog 130 #[.int .u64 n] w fun e w' => e = .returned (.string ⟨(minL n).toArray⟩) ∧ Below w.heap.size w w' := by
  have k1 := fun (w : World) (a : Int) => run_str1 Tryd.underlying54 Tryd.underlying5 Tryd.underlying9 w a
  go_enter Tryd.func130, Tryd.ntmps130
  go_wp2
  go_loopw [0, 3] (fun x v wr => LeastInv n w x v wr) (fun x _ _ => (intOf x).toNat)
  case atStart => exact ⟨n, _, rfl, rfl, by simp, hn, by simp [ByteArray.size], Below.refl _ _⟩
  case round =>
    obtain ⟨m, s, rfl, rfl, hm, hm64, hs, hb⟩ := hrel
    have HM := Lib.hid hm
    clear hm
    by_cases h0 : 0 < m
    · go_wp2
      go_roundw
      case rel => exact ⟨m / 256, _, by go_num, rfl, least_next HM.out h0, by omega, least_size (least_next HM.out h0) hn, hb.alloc hb.size _⟩
      case measure => simp [intOf]; omega
    · go_wp2
      go_ret
      obtain rfl : m = 0 := by omega
      have e := HM.out
      rw [minL_zero, List.nil_append] at e
      exact ⟨ret_str (bytes_ext (by rw [← e])), hb⟩
end Go.Proofs.YtacikiambpfipaaDoor
namespace Go.Proofs.YtacikiambpfipaaDoor
set_option linter.unusedVariables false
set_option linter.unusedSimpArgs false
open Go.RowKit

theorem ItIn.one {w : World} {B : Nat} {x : It} {c0 c1 c2 : Value} (h : ItIn w B x c0 c1 c2) : c0.oneCell' = true ∧ c1.oneCell' = true ∧ c2.oneCell' = true := by
  obtain ⟨A, cap, rfl, rfl, rfl, _⟩ := h.open_
  exact ⟨rfl, rfl, rfl⟩
/-- The cells cs are these items, three a piece. -/
def ItsAre (w : World) (B : Nat) : List It → List Value → Prop
  | [], cs => cs = []
  | x :: xs, cs => ∃ c0 c1 c2 ds, cs = c0 :: c1 :: c2 :: ds ∧ ItIn w B x c0 c1 c2 ∧ ItsAre w B xs ds
theorem ItsAre.length {w : World} {B : Nat} : ∀ {s : List It} {cs : List Value}, ItsAre w B s cs → cs.length = s.length * 3
  | [], cs, h => by simp [ItsAre] at h; simp [h]
  | x :: xs, cs, h => by
    obtain ⟨c0, c1, c2, ds, rfl, _, h2⟩ := h
    have := h2.length
    simp only [List.length_cons, this]; omega
theorem ItsAre.one {w : World} {B : Nat} : ∀ {s : List It} {cs : List Value}, ItsAre w B s cs → ∀ u ∈ cs, u.oneCell' = true
  | [], cs, h => by simp [ItsAre] at h; simp [h]
  | x :: xs, cs, h => by
    obtain ⟨c0, c1, c2, ds, rfl, h1, h2⟩ := h
    have h3 := h1.one
    have h4 := h2.one
    intro u hu
    simp only [List.mem_cons] at hu
    rcases hu with rfl | rfl | rfl | hu
    · exact h3.1
    · exact h3.2.1
    · exact h3.2.2
    · exact h4 u hu
theorem ItsAre.keep {w w' : World} {B B' : Nat} (hB : B ≤ B') (hk : ∀ p : Addr, p.block < B → w'.cell? p = w.cell? p) : ∀ {s : List It} {cs : List Value}, ItsAre w B s cs → ItsAre w' B' s cs
  | [], cs, h => h
  | x :: xs, cs, h => by
    obtain ⟨c0, c1, c2, ds, rfl, h1, h2⟩ := h
    exact ⟨c0, c1, c2, ds, rfl, ItIn.keep hB hk x h1, h2.keep hB hk⟩
/-- Out of a slice: its cells, one by one. -/
theorem ItsIn.cells {w : World} {B : Nat} {b o : Nat} : ∀ {s : List It} {i : Nat}, ItsIn w B s (some ⟨b, o, none⟩) i → ∃ cs, ItsAre w B s cs ∧ ∀ j u, cs[j]? = some u → w.cell? ⟨b, o + i * 3 + j, none⟩ = some u
  | [], i, _ => ⟨[], rfl, by simp⟩
  | x :: xs, i, h => by
    obtain ⟨⟨b', o', c0, c1, c2, hA, _, e0, e1, e2, hi⟩, h2⟩ := h
    injection hA with hA
    injection hA with hb ho
    subst hb; subst ho
    obtain ⟨ds, hd, hc⟩ := h2.cells
    refine ⟨c0 :: c1 :: c2 :: ds, ⟨c0, c1, c2, ds, rfl, hi, hd⟩, fun j u hu => ?_⟩
    match j, hu with
    | 0, hu => simp at hu; subst hu; exact e0
    | 1, hu => simp at hu; subst hu; exact e1
    | 2, hu => simp at hu; subst hu; exact e2
    | j + 3, hu =>
      have := hc j u (by simpa using hu)
      rw [show o + i * 3 + (j + 3) = o + (i + 1) * 3 + j from by omega]; exact this
/-- Back into a slice. -/
theorem ItsIn.of_cells {w : World} {B : Nat} {b o : Nat} (hb : b < B) : ∀ {s : List It} {i : Nat} {cs : List Value}, ItsAre w B s cs → (∀ j u, cs[j]? = some u → w.cell? ⟨b, o + i * 3 + j, none⟩ = some u) → ItsIn w B s (some ⟨b, o, none⟩) i
  | [], _, _, _, _ => trivial
  | x :: xs, i, cs, h, hc => by
    obtain ⟨c0, c1, c2, ds, rfl, h1, h2⟩ := h
    refine ⟨⟨b, o, c0, c1, c2, rfl, hb, by simpa using hc 0 c0 (by simp), hc 1 c1 (by simp), hc 2 c2 (by simp), h1⟩, ItsIn.of_cells hb h2 fun j u hu => ?_⟩
    have := hc (j + 3) u (by simpa using hu)
    rw [show o + (i + 1) * 3 + j = o + i * 3 + (j + 3) from by omega]; exact this
end Go.Proofs.YtacikiambpfipaaDoor
namespace Go.Proofs.YtacikiambpfipaaDoor
set_option linter.unusedVariables false
set_option linter.unusedSimpArgs false
open Go.RowKit

theorem info_item : (Tryd.prog.info? 27).map (fun i => (i.zero, i.size, i.bytes)) = some (some (.agg #[.string ⟨#[]⟩, .bool false, .slice none 0 0]), 3, 48) := by kernel_rfl

theorem lt_of_cell' {w : World} {p : Addr} {v : Value} (h : w.cell? p = some v) : p.block < w.heap.size := by
  rcases Nat.lt_or_ge p.block w.heap.size with h' | h'
  · exact h'
  · simp [World.cell?, Array.getElem?_eq_none h'] at h
theorem block_add (a : Addr) (n : Nat) : (a.add n).block = a.block := by unfold Addr.add; split <;> rfl

set_option maxRecDepth 100000 in
set_option maxHeartbeats 400000 in
theorem clone_some (ad : Addr) (n cap : Nat) (cs : List Value) (w : World) (hl : cs.length = n * 3) (hc : ∀ j u, cs[j]? = some u → w.cell? (ad.add j) = some u) (h1 : ∀ u ∈ cs, u.oneCell' = true) (hn : n ≤ 1000000) :
    Calls Tryd.prog 125 #[.slice (some ad) n cap] w fun e w' => (∃ g cap', e = .returned (.slice (some ⟨g, 0, none⟩) n cap') ∧ w'.ownsRow w.heap.size 27 3 (.slice (some ⟨g, 0, none⟩) n cap') n cs) ∧ Below w.heap.size w w' := by
  obtain ⟨i0, hi, hz0, hz1, hz2⟩ := info_parts info_item
  have hne := fun (w : World) (a : Addr) (n c : Nat) => Lib.run_eql_slice_some_nil (P := Tryd.prog) w a n c Tryd.underlying25
  have HL := Lib.hid hl
  have HC := Lib.hid hc
  have H1 := Lib.hid h1
  clear hl hc h1
  go_enter Tryd.func125, Tryd.ntmps125
  go_wp2_with (at_builtin; refine wpList_append_own _ (by rfl) (.tmp 5) (.tmp 6) 25 (by rfl) w.heap.size 27 i0 (.agg #[.string ⟨#[]⟩, .bool false, .slice none 0 0]) 3 48 Tryd.underlying25 hi hz0 hz1 hz2 rfl (by decide) (.slice (some ⟨w.heap.size, 0, none⟩) 0 0) 0 [] (by rfl) (World.ownsRow_lit w #[] 0 (Nat.le_refl _) (by simp [maxLen]) rfl) ad n cap cs (by rfl) HL.out (fun j u hu => (World.cell?_alloc_lt _ _ _ (lt_of_cell' (HC.out j u hu))).trans (HC.out j u hu)) H1.out (by simp only [maxLen]; omega) (by omega) (by simp) ?_; intro v' w1 hown' hgrow hat)
  go_ret
  simp only [Nat.zero_add, List.nil_append] at hown'
  obtain ⟨g, cap', rfl⟩ := own_form hown' (by rw [ne_eq, hat]; simp)
  exact ⟨⟨g, cap', rfl, hown'⟩, (Below.alloc (Below.refl w.heap.size w) (Nat.le_refl _) _).grown hgrow (by simp) (by simp [Value.ownBlock])⟩

set_option maxHeartbeats 400000 in
theorem clone_nil (n c : Nat) (w : World) :
    Calls Tryd.prog 125 #[.slice none n c] w fun e w' => e = .returned (.slice none 0 0) ∧ w = w' := by
  have hne := fun (w : World) (n c : Nat) => Lib.run_eql_slice_nil_nil (P := Tryd.prog) w n c Tryd.underlying25
  go_enter Tryd.func125, Tryd.ntmps125
  go_wp2
  go_ret
  exact ⟨rfl, rfl⟩

set_option maxHeartbeats 400000 in
theorem text_c (s : ByteArray) (w : World) :
    Calls Tryd.prog 85 #[.string s] w fun e w' => e = .returned (.agg #[.string s, .bool false, .slice none 0 0]) ∧ Below w.heap.size w w' := by
  go_enter Tryd.func85, Tryd.ntmps85
  go_wp2
  refine bodyPost_ret (v := .agg #[.string s, .bool false, .slice none 0 0]) (by simp [results, Tryd.results85, go_sem]) rfl ⟨rfl, ?_⟩
  exact (by repeat (first | exact Below.refl _ _ | assumption | with_reducible refine Below.drewN' ?_ _ | with_reducible refine Below.drew ?_ | ((with_reducible refine Below.alloc' ?_ ?_ _); · (first | omega | (simp <;> omega)))))

theorem own_its {w : World} {base g cap : Nat} {s : List It} {cs : List Value} {B : Nat} (ho : w.ownsRow base 27 3 (.slice (some ⟨g, 0, none⟩) s.length cap) s.length cs) (ha : ItsAre w B s cs) (hB : B ≤ w.heap.size) : ItsIn w w.heap.size s (some ⟨g, 0, none⟩) 0 :=
  ItsIn.of_cells (own_bd ho).2.2.2 (ha.keep hB (fun _ _ => rfl)) fun j u hu => by
    have := ho.cells rfl j u hu
    have e1 : (⟨g, 0, none⟩ : Addr).add j = ⟨g, j, none⟩ := by unfold Addr.add; split <;> simp_all
    rw [e1] at this
    simpa using this
theorem own_its' {w : World} {base cap : Nat} {A : Option Addr} {s : List It} {cs : List Value} {B : Nat} (ho : w.ownsRow base 27 3 (.slice A s.length cap) s.length cs) (ha : ItsAre w B s cs) (hB : B ≤ w.heap.size) : ItsIn w w.heap.size s A 0 := by
  have ho2 := ho.2
  rcases ho2 with ⟨h1, h2⟩ | ⟨g, cap', cur, hv, _⟩
  · obtain rfl : s = [] := List.eq_nil_of_length_eq_zero h2
    trivial
  · injection hv with hA _ hc
    subst hA; subst hc
    exact own_its ho ha hB
theorem own_ge {w : World} {base cap n : Nat} {A : Option Addr} {cs : List Value} {e : TypeId} {k : Nat} (ho : w.ownsRow base e k (.slice A n cap) n cs) : ∀ g, (Value.slice A n cap).ownBlock = some g → base ≤ g := by
  intro g hg
  rcases ho.2 with ⟨h1, h2⟩ | ⟨g', cap', cur, hv, hb, _⟩
  · rw [h1] at hg; cases hg
  · rw [hv] at hg
    have : g' = g := by simpa [Value.ownBlock] using hg
    omega
theorem its_none {w : World} {B i : Nat} {s : List It} (h : ItsIn w B s none i) : s = [] := by
  cases s with
  | nil => rfl
  | cons x xs => obtain ⟨⟨b, o, c0, c1, c2, hA, _⟩, _⟩ := h; cases hA
theorem its_cells {w : World} {B : Nat} {s : List It} {ad : Addr} (h : ItsIn w B s (some ad) 0) : ∃ cs, ItsAre w B s cs ∧ ∀ j u, cs[j]? = some u → w.cell? (ad.add j) = some u := by
  cases s with
  | nil => exact ⟨[], rfl, by simp⟩
  | cons x xs =>
    obtain ⟨b, o, _, _, _, hA, _⟩ := h.at_ 0 (by simp)
    injection hA with hA
    subst hA
    obtain ⟨cs, h1, h2⟩ := h.cells
    refine ⟨cs, h1, fun j u hu => ?_⟩
    have := h2 j u hu
    have e1 : (⟨b, o, none⟩ : Addr).add j = ⟨b, o + j, none⟩ := by unfold Addr.add; split <;> simp_all
    rw [e1]
    simpa using this
/-- A clone: new, the same items; what was stands. -/
theorem clone_c (s : List It) (A : Option Addr) (B cap : Nat) (w : World) (h : ItsIn w B s A 0) (hB : B ≤ w.heap.size) (hn : s.length ≤ 1000000) :
    Calls Tryd.prog 125 #[.slice A s.length cap] w fun e w' => (∃ A' cap' cs, e = .returned (.slice A' s.length cap') ∧ s.length ≤ cap' ∧ cap' ≤ 9223372036854775807 ∧ ItsIn w' w'.heap.size s A' 0 ∧ ItsAre w B s cs ∧ w'.ownsRow w.heap.size 27 3 (.slice A' s.length cap') s.length cs) ∧ Below w.heap.size w w' := by
  cases A with
  | none =>
    obtain rfl := its_none h
    refine (clone_nil 0 cap w).mono ?_
    rintro e w' ⟨rfl, rfl⟩
    exact ⟨⟨none, 0, [], rfl, by simp, by simp, trivial, rfl, ⟨by simp, .inl ⟨rfl, rfl⟩⟩⟩, Below.refl _ _⟩
  | some ad =>
    obtain ⟨cs, h1, h2⟩ := its_cells h
    refine (clone_some ad s.length cap cs w h1.length h2 h1.one hn).mono ?_
    rintro e w' ⟨⟨g, cap', rfl, ho⟩, hb⟩
    obtain ⟨b1, b2, b3, b4⟩ := own_bd ho
    exact ⟨⟨some ⟨g, 0, none⟩, cap', cs, rfl, b1, b2, own_its ho (h1.keep hB (fun p hp => hb.cell (by omega))) hb.size, h1, ho⟩, hb⟩
set_option maxHeartbeats 400000 in
theorem list_own (s : List It) (A : Option Addr) (B cap : Nat) (w : World) (h : ItsIn w B s A 0) (hB : B ≤ w.heap.size) (hn : s.length ≤ 1000000) :
    Calls Tryd.prog 84 #[.slice A s.length cap] w fun e w' => (∃ c2, e = .returned (.agg #[.string ⟨#[]⟩, .bool true, c2]) ∧ ItIn w' w'.heap.size (.mk ⟨#[]⟩ true s) (.string ⟨#[]⟩) (.bool true) c2 ∧ ∃ cs, w'.ownsRow w.heap.size 27 3 c2 s.length cs) ∧ Below w.heap.size w w' := by
  have HC := Lib.hid (clone_c s A B cap (w.alloc (.cells #[.string ⟨#[]⟩, .bool false, .slice none 0 0] 27)) (h.below ((Below.refl _ _).alloc hB _)) (by simp; omega) hn)
  have HN := Lib.hid hn
  clear h hn
  go_enter Tryd.func84, Tryd.ntmps84
  go_wp2_with fail
  refine HC.out.mono ?_
  rintro e w1 ⟨⟨A', cap', cs, rfl, h1, h2, _, ha, ho⟩, hb⟩
  have hz := hb.size
  simp only [World.size_alloc] at hz
  have hbk := (Blk.new w 27 #[.string ⟨#[]⟩, .bool false, .slice none 0 0]).keep hb (by simp)
  obtain ⟨g0, g1, g2, f0, f1, f2⟩ := blk3 hbk
  have HK := Lib.hid hbk
  clear hbk
  have HA := Lib.hid ha
  have HO := Lib.hid ho
  have HB := Lib.hid hb
  clear ha ho hb HC
  go_wp2
  have hon : Only [w.heap.size] w1 (((w1.setCell ⟨w.heap.size, 0, none⟩ (.string ⟨#[]⟩)).setCell ⟨w.heap.size, 1, none⟩ (.bool true)).setCell ⟨w.heap.size, 2, none⟩ (.slice A' s.length cap')) := (by repeat (first | exact Only.refl _ _ | assumption | with_reducible refine Only.drewN ?_ _ | with_reducible refine Only.drew ?_ | with_reducible refine Only.alloc ?_ _ | ((with_reducible refine Only.put ?_ ?_ _); · (first | omega | (simp <;> omega)))))
  refine bodyPost_ret (v := .agg #[.string ⟨#[]⟩, .bool true, .slice A' s.length cap']) (by simp [results, Tryd.results84, go_sem, g0, g1, g2]) rfl ⟨⟨_, rfl, ⟨rfl, rfl, Nat.zero_le _, ?_, A', cap', rfl, h1, h2, ?_⟩, cs, ?_⟩, ?_⟩
  · have := HN.out; omega
  · have hge := own_ge HO.out
    refine own_its' (hon.own HO.out fun g hg hm => ?_) (HA.out.keep (Nat.le_refl _) fun p hp => ?_) (by have := hon.size; omega)
    · have := hge g hg
      simp at hm this; omega
    · rw [hon.cell (by omega) (by simp; omega)]
      exact HB.out.cell (by simp; omega)
  · have hge := own_ge HO.out
    have := hon.own HO.out fun g hg hm => by
      have := hge g hg
      simp at hm this; omega
    refine ⟨this.1, ?_⟩
    rcases this.2 with h | ⟨g, c, cur, hv, hg, r⟩
    · exact .inl h
    · exact .inr ⟨g, c, cur, hv, by simp at hg; omega, r⟩
  · exact ((Below.refl w.heap.size w).alloc (Nat.le_refl _) _).trans ((HB.out.mono (by simp)).trans (hon.below (by omega) (by simp)))
theorem list_c (s : List It) (A : Option Addr) (B cap : Nat) (w : World) (h : ItsIn w B s A 0) (hB : B ≤ w.heap.size) (hn : s.length ≤ 1000000) :
    Calls Tryd.prog 84 #[.slice A s.length cap] w fun e w' => (∃ c2, e = .returned (.agg #[.string ⟨#[]⟩, .bool true, c2]) ∧ ItIn w' w'.heap.size (.mk ⟨#[]⟩ true s) (.string ⟨#[]⟩) (.bool true) c2) ∧ Below w.heap.size w w' :=
  (list_own s A B cap w h hB hn).mono fun _ _ ⟨⟨c2, h1, h2, _⟩, h3⟩ => ⟨⟨c2, h1, h2⟩, h3⟩
end Go.Proofs.YtacikiambpfipaaDoor
namespace Go.Proofs.YtacikiambpfipaaDoor
set_option linter.unusedVariables false
set_option linter.unusedSimpArgs false
open Go.RowKit

theorem blF_is : ∀ (f n : Nat), n < 2 ^ f → n < 2 ^ blF f n ∧ (0 < n → 2 ^ (blF f n - 1) ≤ n)
  | 0, n, h => by
    have : n = 0 := by simpa using h
    subst this
    simp [blF]
  | f + 1, n, h => by
    by_cases h0 : n = 0
    · subst h0; simp [blF]
    · have hh : n / 2 < 2 ^ f := by rw [Nat.pow_succ] at h; omega
      obtain ⟨h1, h2⟩ := blF_is f (n / 2) hh
      simp only [blF, if_neg h0, Nat.add_sub_cancel]
      refine ⟨by rw [Nat.pow_succ]; omega, fun _ => ?_⟩
      by_cases hz : n / 2 = 0
      · rw [hz, blF_zero]; simp; omega
      · have h3 := h2 (by omega)
        obtain ⟨b, hb⟩ : ∃ b, blF f (n / 2) = b + 1 := by
          cases hb : blF f (n / 2) with
          | zero => rw [hb] at h1; simp at h1; omega
          | succ b => exact ⟨b, rfl⟩
        rw [hb] at h3 ⊢
        simp only [Nat.add_sub_cancel] at h3
        rw [Nat.pow_succ]; omega
theorem minL_ge : ∀ (j n : Nat), 2 ^ (8 * j) ≤ n → j + 1 ≤ (minL n).length
  | 0, n, h => by
    rw [minL_pos (n := n) (by simp at h; omega)]; simp
  | j + 1, n, h => by
    rw [pow8] at h
    have hp : 0 < 2 ^ (8 * j) := Nat.pow_pos (by omega)
    have := minL_ge j (n / 256) (by omega)
    rw [minL_pos (n := n) (by omega)]
    simp; omega
theorem least_eq (n : Nat) (h : n < 18446744073709551616) : (leD n ((bl n + 7) / 8)).reverse = minL n ∧ (bl n + 7) / 8 ≤ 8 := by
  by_cases hn0 : n = 0
  · subst hn0
    rw [show bl 0 = 0 from blF_zero 64, minL_zero]
    exact ⟨rfl, by omega⟩
  obtain ⟨h1, h2⟩ := blF_is 64 n (by simpa using h)
  have hb := bl_le 64 n (by simpa using h) (by omega)
  change n < 2 ^ bl n at h1
  change 0 < n → 2 ^ (bl n - 1) ≤ n at h2
  generalize bl n = b at *
  have hk : n < 2 ^ (8 * ((b + 7) / 8)) := Nat.lt_of_lt_of_le h1 (Nat.pow_le_pow_right (by omega) (by omega))
  have hp := least_pad _ n hk
  refine ⟨?_, by omega⟩
  rw [← hp]
  have hlen : (b + 7) / 8 ≤ (minL n).length := by
    obtain ⟨k, hk2⟩ : ∃ k, (b + 7) / 8 = k + 1 := by
      refine ⟨(b + 7) / 8 - 1, ?_⟩
      have : 0 < b := by
        rcases Nat.eq_zero_or_pos b with e | e
        · subst e; simp at h1; omega
        · exact e
      omega
    rw [hk2]
    refine minL_ge k n (Nat.le_trans (Nat.pow_le_pow_right (by omega) ?_) (h2 (by omega)))
    omega
  rw [show (b + 7) / 8 - (minL n).length = 0 from by omega]
  rfl

set_option maxRecDepth 100000 in
set_option maxHeartbeats 400000 in
theorem least_c (n : Nat) (w : World) (hn : n < 18446744073709551616) :
    Calls Tryd.prog 104 #[.int .u64 n] w fun e w' => e = .returned (.string ⟨(minL n).toArray⟩) ∧ Below w.heap.size w w' := by
  obtain ⟨hq, hk⟩ := least_eq n hn
  have HL := Lib.hid (len64_c n w hn)
  obtain ⟨k, hkk⟩ : ∃ k, (bl n + 7) / 8 = k := ⟨_, rfl⟩
  rw [hkk] at hq hk
  have HD := Lib.hid (fun w => digits_c n k w hn hk)
  have HQ := Lib.hid hq
  have HK : Hid ((((bl n : Nat) : Int) + 7) / 8 = (k : Int)) := Lib.hid (by omega)
  have HK2 : Hid (Int.tdiv (((bl n : Nat) : Int) + 7) 8 = (k : Int)) := Lib.hid (by rw [Int.tdiv_eq_ediv_of_nonneg (by omega)]; omega)
  have hb := bl_le 64 n (by simpa using hn) (by omega)
  generalize bl n = b at *
  clear hq hkk
  go_enter Tryd.func104, Tryd.ntmps104
  go_wp2_with fail
  refine HL.out.mono ?_
  rintro e w' ⟨rfl, rfl⟩
  go_wp2_with fail
  first | rw [HK.out] | rw [HK2.out]
  refine (HD.out _).mono ?_
  rintro e w1 ⟨rfl, hbuf, hkept⟩
  have hlen := leD_length n k
  have HT := Lib.hid (turnedB_c w.heap.size w.heap.size k (leD n k) w1 (by rw [hlen]; exact hbuf) (by rw [hlen]; omega))
  rw [hlen, HQ.out] at HT
  have HB := Lib.hid hkept.below
  have HKP := Lib.hid hkept
  clear hbuf hkept hlen
  go_wp2_with fail
  refine HT.out.mono ?_
  rintro e w2 ⟨rfl, hk2⟩
  go_wp2
  go_ret
  exact ⟨rfl, (HKP.out.trans hk2).below⟩
set_option maxHeartbeats 400000 in
theorem number_c (n : Nat) (w : World) (hn : n < 18446744073709551616) :
    Calls Tryd.prog 83 #[.int .u64 n] w fun e w' => e = .returned (.agg #[.string ⟨(minL n).toArray⟩, .bool false, .slice none 0 0]) ∧ Below w.heap.size w w' := by
  have HL := Lib.hid (fun w => least_c n w hn)
  generalize (⟨(minL n).toArray⟩ : ByteArray) = T at *
  go_enter Tryd.func83, Tryd.ntmps83
  go_wp2_with fail
  refine (HL.out _).mono ?_
  rintro e w1 ⟨rfl, hb1⟩
  have hz1 := hb1.size
  simp only [World.size_alloc] at hz1
  have hlw : w.heap.size < w1.heap.size := by omega
  have HB1 : Hid (Below w.heap.size w w1) := Lib.hid (((Below.refl w.heap.size w).alloc (Nat.le_refl _) _).trans (hb1.mono (by simp)))
  have HK1 := Lib.hid ((Blk.new w 27 #[.string ⟨#[]⟩, .bool false, .slice none 0 0]).keep hb1 (by simp))
  clear hb1
  go_wp2_with fail
  refine (text_c T w1).mono ?_
  rintro e w2 ⟨rfl, hb2⟩
  have hz2 := hb2.size
  have HB2 : Hid (Below w.heap.size w w2) := Lib.hid (HB1.out.trans (hb2.mono (by omega)))
  obtain ⟨r0, r1, r2, rf0, rf1, rf2⟩ := blk3 (HK1.out.keep hb2 (by omega))
  clear hb2
  go_wp2
  refine bodyPost_ret (v := .agg #[.string T, .bool false, .slice none 0 0]) (by simp [results, Tryd.results83, go_sem, r0, r1, r2]) rfl ⟨rfl, ?_⟩
  exact ((HB2.out.setCell (by simp) _).setCell (by simp) _).setCell (by simp) _
end Go.Proofs.YtacikiambpfipaaDoor
