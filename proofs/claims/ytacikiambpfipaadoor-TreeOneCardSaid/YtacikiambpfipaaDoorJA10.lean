/- tree.Check; the document's Put and Get of trees. -/
/- An item that came in as an argument lies in memory as an item. -/
/- A type that came in as an argument lies in memory as a type. -/
/- The row's condition on the table of a Uint's sizes. -/
import Derived.Test.YtacikiambpfipaaDoorJTreeGet
import Derived.Test.YtacikiambpfipaaDoorJA9
import Derived.Test.YtacikiambpfipaaDoorJRlpRef
import Derived.Test.YtacikiambpfipaaDoorProg
import Derived.Test.YtacikiambpfipaaDoorJA1
import Derived.ProofKit
import Derived.OpenShut
import Derived.ShutString
import Derived.Test.YtacikiambpfipaaDoorJA4
import Derived.Test.YtacikiambpfipaaDoorJTySchema
import Derived.Lib.LaidTab
import Derived.MakeChecks
namespace Go.Proofs.YtacikiambpfipaaDoor
set_option linter.unusedVariables false
set_option linter.unusedSimpArgs false
open Go.RowKit

set_option maxRecDepth 100000 in
set_option maxHeartbeats 1000000 in
theorem treeCheck_c (ty : Ty) (s : ByteArray) (D M : Int) (B : Nat) (w : World) (t0 t1 t2 t3 : Value) (hT : TyIn w B ty t0 t1 t2 t3) (hB : B ≤ w.heap.size) (hL : Laid w) (hs : s.size ≤ 4611686018427387904) :
    Calls Tryd.prog 25 #[.agg #[t0, t1, t2, t3], .string s, .int .i64 D, .int .i64 M] w fun e w' => e = .returned (.int .i64 (tGetE ty s D M)) ∧ Below w.heap.size w w' := by
  have hb1 : Below w.heap.size w (w.alloc (.cells #[t0, t1, t2, t3] 24)) := (Below.refl _ w).alloc (Nat.le_refl _) _
  have HC := Lib.hid (treeGet_c ty s D M B _ t0 t1 t2 t3 (hT.below (hb1.mono hB)) (by simp; omega) (hL.below hb1 hL.pos) hs)
  obtain ⟨A, cap, rfl, rfl, rfl, rfl, _⟩ := hT.open_
  generalize tGetE ty s D M = E at *
  generalize tGetX ty s D M = X at *
  have HB1 := Lib.hid hb1
  clear hT hL hb1
  go_enter Tryd.func25, Tryd.ntmps25
  go_wp2_with fail
  refine HC.out.mono ?_
  rintro e w1 ⟨hb, c0, c1, c2, rfl, hit⟩
  obtain ⟨A2, k2, rfl, rfl, rfl, _⟩ := hit.open_
  have HBB : Hid (Below w.heap.size w w1) := Lib.hid (HB1.out.trans (hb.mono (by simp)))
  have hz := HBB.out.size
  clear hit hb
  go_wp2
  go_ret
  exact ⟨rfl, HBB.out.alloc (by omega) _⟩

/-- The two variables of the document's Put and Get. -/
theorem box2 {w W : World} {t0 t1 t2 t3 c0 c1 c2 : Value} (h : (w.alloc (.cells #[t0, t1, t2, t3] 24)).alloc (.cells #[c0, c1, c2] 27) = W) :
    W.heap.size = w.heap.size + 2 ∧ Below w.heap.size w W ∧ Blk W w.heap.size 24 #[t0, t1, t2, t3] ∧ Blk W (w.heap.size + 1) 27 #[c0, c1, c2] := by
  subst h
  exact ⟨by simp, ((Below.refl _ w).alloc (Nat.le_refl _) _).alloc (by simp) _, (Blk.new w _ _).alloc _, Blk.at_ (by simp)⟩
set_option maxRecDepth 100000 in
set_option maxHeartbeats 1000000 in
theorem ref22Put_c (ty : Ty) (x : It) (D M : Int) (B : Nat) (w : World) (t0 t1 t2 t3 c0 c1 c2 : Value) (hT : TyIn w B ty t0 t1 t2 t3) (hI : ItIn w B x c0 c1 c2) (hB : B ≤ w.heap.size) (hl : x.rlp.length ≤ 1099511627776) (hct : ty.count ≤ 4611686018427387904) (hci : x.count ≤ 4611686018427387904) :
    Calls Tryd.prog 23 #[.agg #[t0, t1, t2, t3], .agg #[c0, c1, c2], .int .i64 D, .int .i64 M] w fun e w' => e = .returned (.tuple #[.string (if tPutE ty x D M = 0 then ⟨x.rlp.toArray⟩ else ⟨#[]⟩), .int .i64 (tPutE ty x D M)]) ∧ Below w.heap.size w w' := by
  obtain ⟨W, hW⟩ : ∃ W, (w.alloc (.cells #[t0, t1, t2, t3] 24)).alloc (.cells #[c0, c1, c2] 27) = W := ⟨_, rfl⟩
  obtain ⟨hz, hb, h4, h5⟩ := box2 hW
  have hT2 := hT.below (hb.mono hB)
  have hI2 := hI.below (hb.mono hB)
  have HC1 := Lib.hid (refFits_c ty x B W t0 t1 t2 t3 c0 c1 c2 hT2 hI2 (by omega) hct hci)
  have HC2 : Hid (∀ V, Below W.heap.size W V → Calls Tryd.prog 71 #[.agg #[c0, c1, c2], .int .i64 D, .int .i64 M] V fun e w' => e = .returned (.int .i64 (capsE x D M)) ∧ Below V.heap.size V w') := Lib.hid (fun V hV => refCaps_c x D M B V c0 c1 c2 (hI2.below (hV.mono (by omega))) (by have := hV.size; omega) hci)
  have HC3 : Hid (∀ V, Below W.heap.size W V → Calls Tryd.prog 72 #[.agg #[c0, c1, c2]] V fun e w' => e = .returned (.string ⟨x.rlp.toArray⟩) ∧ Below V.heap.size V w') := Lib.hid (fun V hV => ref09Put_c x B V c0 c1 c2 (hI2.below (hV.mono (by omega))) (by have := hV.size; omega) hl)
  have HK : Hid (∀ V, Below W.heap.size W V → Blk V (w.heap.size + 1) 27 #[c0, c1, c2] ∧ Below w.heap.size w V) := Lib.hid (fun V hV => ⟨h5.keep hV (by omega), hb.trans (hV.mono (by omega))⟩)
  obtain ⟨q0, q1, q2, q3, _⟩ := blk4 h4
  obtain ⟨p0, p1, p2⟩ := blk3' h5
  have hPE : tPutE ty x D M = if fitE ty x ≠ 0 then fitE ty x else capsE x D M := rfl
  obtain ⟨T, hTT⟩ : ∃ T, (if tPutE ty x D M = 0 then (⟨x.rlp.toArray⟩ : ByteArray) else ⟨#[]⟩) = T := ⟨_, rfl⟩
  rw [hTT]
  have HW := Lib.hid hW
  obtain ⟨A, cap, rfl, rfl, rfl, rfl, _⟩ := hT.open_
  obtain ⟨A', cap', rfl, rfl, rfl, _⟩ := hI.open_
  generalize tPutE ty x D M = E at *
  generalize (⟨x.rlp.toArray⟩ : ByteArray) = S at *
  generalize fitE ty x = E0 at *
  generalize capsE x D M = E1 at *
  clear h4 h5 hz hb hW hT hI hT2 hI2 hl hct hci
  rcases beq0 E0 with ⟨he, k1, k2⟩ | ⟨he, k1, k2⟩
  · subst he
    rw [if_neg (by simp)] at hPE
    subst hPE
    rcases beq0 E with ⟨he, k3, k4⟩ | ⟨he, k3, k4⟩
    · subst he
      obtain rfl : S = T := by simpa using hTT
      clear hTT
      go_enter Tryd.func23, Tryd.ntmps23
      go_wp2_with fail
      rw [HW.out]
      refine HC1.out.mono ?_
      rintro e w1 ⟨rfl, hb1⟩
      obtain ⟨p0, p1, p2⟩ := blk3' (HK.out w1 hb1).1
      have HB1 := Lib.hid hb1
      clear hb1
      go_wp2_with fail
      refine (HC2.out _ HB1.out).mono ?_
      rintro e w2 ⟨rfl, hb2⟩
      have HB2 := Lib.hid (HB1.out.trans (hb2.mono HB1.out.size))
      obtain ⟨r0, r1, r2⟩ := blk3' (HK.out w2 HB2.out).1
      clear hb2
      go_wp2_with fail
      refine (HC3.out _ HB2.out).mono ?_
      rintro e w3 ⟨rfl, hb3⟩
      have HB3 := Lib.hid ((HK.out w2 HB2.out).2.trans (hb3.mono (HK.out w2 HB2.out).2.size))
      clear hb3
      go_wp2
      go_ret2
      exact ⟨rfl, HB3.out⟩
    · obtain rfl : T = ⟨#[]⟩ := by rw [if_neg he] at hTT; exact hTT.symm
      clear hTT
      go_enter Tryd.func23, Tryd.ntmps23
      go_wp2_with fail
      rw [HW.out]
      refine HC1.out.mono ?_
      rintro e w1 ⟨rfl, hb1⟩
      obtain ⟨p0, p1, p2⟩ := blk3' (HK.out w1 hb1).1
      have HB1 := Lib.hid hb1
      clear hb1
      go_wp2_with fail
      refine (HC2.out _ HB1.out).mono ?_
      rintro e w2 ⟨rfl, hb2⟩
      have HB2 := Lib.hid (HB1.out.trans (hb2.mono HB1.out.size))
      obtain ⟨r0, r1, r2⟩ := blk3' (HK.out w2 HB2.out).1
      clear hb2
      go_wp2_with fail
      go_ret2
      exact ⟨rfl, (HK.out _ HB2.out).2⟩
  · rw [if_pos he] at hPE
    subst hPE
    obtain rfl : T = ⟨#[]⟩ := by rw [if_neg he] at hTT; exact hTT.symm
    clear hTT
    go_enter Tryd.func23, Tryd.ntmps23
    go_wp2_with fail
    rw [HW.out]
    refine HC1.out.mono ?_
    rintro e w1 ⟨rfl, hb1⟩
    obtain ⟨p0, p1, p2⟩ := blk3' (HK.out w1 hb1).1
    have HB1 := Lib.hid hb1
    clear hb1
    go_wp2
    go_ret2
    exact ⟨rfl, (HK.out _ HB1.out).2⟩
end Go.Proofs.YtacikiambpfipaaDoor
namespace Go.Proofs.YtacikiambpfipaaDoor
set_option linter.unusedVariables false
set_option linter.unusedSimpArgs false
open Go.ChangeShapes Go.WideShapes Go.ChangeAt Go.RowKit

theorem exists_list {α : Type} (Q : Nat → α → Prop) : ∀ n, (∀ i, i < n → ∃ y, Q i y) → ∃ l : List α, l.length = n ∧ ∀ i (h : i < l.length), Q i l[i]
  | 0, _ => ⟨[], rfl, by simp⟩
  | n + 1, h => by
    obtain ⟨l, h1, h2⟩ := exists_list Q n fun i hi => h i (by omega)
    obtain ⟨y, hy⟩ := h n (by omega)
    refine ⟨l ++ [y], by simp [h1], fun i hi => ?_⟩
    by_cases hc : i < l.length
    · rw [List.getElem_append_left hc]; exact h2 i hc
    · have : i = n := by simp at hi; omega
      subst this
      rw [List.getElem_append_right (by omega)]
      simpa [h1] using hy
theorem cells3 {w : World} {base : Nat} {a : Addr} {cs : List Value} (h : w.cells? base a 3 = some cs) : ∃ c0 c1 c2, cs = [c0, c1, c2] ∧ w.cell? a = some c0 ∧ w.cell? (a.add 1) = some c1 ∧ w.cell? (a.add 2) = some c2 := by
  unfold World.cells? at h
  split at h
  · have e : List.range 3 = [0, 1, 2] := rfl
    rw [e] at h
    simp only [List.mapM_cons, List.mapM_nil, Option.bind_eq_bind, Option.pure_def, Option.bind_eq_some_iff] at h
    obtain ⟨c0, h0, r, ⟨c1, h1, r2, ⟨c2, h2, r3, h3, h4⟩, h5⟩, h6⟩ := h
    simp at h3 h4 h5 h6
    subst h3; subst h4; subst h5; subst h6
    exact ⟨c0, c1, c2, rfl, by simpa [Addr.add] using h0, h1, h2⟩
  · cases h
theorem spot_none {w : World} {a : Addr} {v : Value} (h : w.cell? a = some v) : a.spot = none := by
  unfold World.cell? at h
  split at h
  · split at h
    · cases h
    · rename_i hs; simpa using hs
  · cases h
theorem cellsOf_item : Tryd.prog.cellsOf 27 = 3 := by kernel_rfl
theorem cellsOf_str : Tryd.prog.cellsOf 9 = 1 := by kernel_rfl
theorem cellsOf_bool : Tryd.prog.cellsOf 4 = 1 := by kernel_rfl
theorem cellsOf_items : Tryd.prog.cellsOf 25 = 1 := by kernel_rfl
set_option maxRecDepth 100000 in
theorem open_item {H : Type} {enc : TypeId × Value → H} {w : World} {base : Nat} {spare : Nat → Bool} {held : Bool} : ∀ (fuel : Nat) (cs : List Value) (x : DataW H × List MemPlace), DataW.trod enc Tryd.prog w base spare held fuel 27 cs = some x →
    ∃ (y : It) (c0 c1 c2 : Value), cs = [c0, c1, c2] ∧ ItIn w w.heap.size y c0 c1 c2 := by
  intro fuel
  induction fuel using Nat.strongRecOn with
  | ind fuel ih =>
    intro cs x h
    obtain ⟨xs, n, rfl, _, hl, hxl, hf⟩ := DataW.trod_struct Tryd.underlying27 h
    rw [cellsOf_item] at hl
    match cs, hl with
    | [c0, c1, c2], _ =>
      have h0 : DataW.trod enc Tryd.prog w base spare held n 9 ((([c0, c1, c2] : List Value).drop 0).take (Tryd.prog.cellsOf 9)) = xs[0]? := hf 0 _ rfl
      have h1 : DataW.trod enc Tryd.prog w base spare held n 4 ((([c0, c1, c2] : List Value).drop 1).take (Tryd.prog.cellsOf 4)) = xs[1]? := hf 1 _ rfl
      have h2 : DataW.trod enc Tryd.prog w base spare held n 25 ((([c0, c1, c2] : List Value).drop 2).take (Tryd.prog.cellsOf 25)) = xs[2]? := hf 2 _ rfl
      have hx3 : xs.length = 3 := hxl
      rw [List.getElem?_eq_getElem (by omega)] at h0 h1 h2
      rw [cellsOf_str] at h0
      rw [cellsOf_bool] at h1
      rw [cellsOf_items] at h2
      simp only [List.drop_zero, List.take_succ_cons, List.take_zero, List.drop_succ_cons] at h0 h1 h2
      obtain ⟨t, e0, _, ht⟩ := DataW.trod_string Tryd.underlying9 h0
      obtain ⟨l, e1, _⟩ := DataW.trod_bool Tryd.underlying4 h1
      simp at e0 e1
      subst e0; subst e1
      rcases DataW.trod_slice Tryd.underlying25 h2 with ⟨e2, _⟩ | ⟨a, len, cap, elems, rest, m, rfl, e2, _, hb, hlc, hcm, hel, hat, _, _⟩
      · simp at e2
        subst e2
        exact ⟨.mk t l [], _, _, _, rfl, rfl, rfl, by simpa [maxLen] using ht, by simp, none, 0, rfl, by simp, by simp, trivial⟩
      · simp at e2
        subst e2
        have key : ∀ i, i < len → ∃ y : It, ∃ d0 d1 d2, a.spot = none ∧ w.cell? ⟨a.block, a.off + i * 3, none⟩ = some d0 ∧ w.cell? ⟨a.block, a.off + i * 3 + 1, none⟩ = some d1 ∧ w.cell? ⟨a.block, a.off + i * 3 + 2, none⟩ = some d2 ∧ ItIn w w.heap.size y d0 d1 d2 := by
          have first : ∀ i, i < len → ∃ cs', w.cells? base (a.add (i * 3)) 3 = some cs' ∧ ∃ z, DataW.trod enc Tryd.prog w base spare held m 27 cs' = some z := by
            intro i hi
            have h3 := hat i hi
            rw [cellsOf_item, List.getElem?_eq_getElem (by omega)] at h3
            rw [Option.bind_eq_some_iff] at h3
            obtain ⟨cs', h4, h5⟩ := h3
            exact ⟨cs', h4, _, h5⟩
          have hsp : 0 < len → a.spot = none := by
            intro h0
            obtain ⟨cs', h4, _⟩ := first 0 h0
            obtain ⟨d0, _, _, _, h5, _⟩ := cells3 h4
            have h5 : w.cell? a = some d0 := by simpa [Addr.add] using h5
            exact spot_none h5
          intro i hi
          obtain ⟨cs', h4, z, h5⟩ := first i hi
          obtain ⟨d0, d1, d2, rfl, g0, g1, g2⟩ := cells3 h4
          obtain ⟨y, k0, k1, k2, hk, hin⟩ := ih m (by omega) _ _ h5
          simp at hk
          obtain ⟨rfl, rfl, rfl⟩ := hk
          have hs := hsp (by omega)
          have e1 : ∀ j, (a.add (i * 3)).add j = ⟨a.block, a.off + i * 3 + j, none⟩ := by
            intro j
            obtain ⟨ab, ao, asp⟩ := a
            simp only at hs
            subst hs
            unfold Addr.add
            split <;> split <;> simp_all
          have e0 := e1 0
          rw [show (a.add (i * 3)).add 0 = a.add (i * 3) from by simp [Addr.add]] at e0
          rw [e0] at g0
          rw [e1] at g1 g2
          exact ⟨y, d0, d1, d2, hs, g0, g1, g2, hin⟩
        obtain ⟨s, hs1, hs2⟩ := exists_list _ len key
        subst hs1
        refine ⟨.mk t l s, _, _, _, rfl, rfl, rfl, by simpa [maxLen] using ht, ?_, some a, cap, rfl, hlc, by simpa [maxLen] using hcm, ItsIn.mk_ fun j hj => ?_⟩
        · have : cap ≤ 9223372036854775807 := by simpa [maxLen] using hcm
          omega
        · obtain ⟨d0, d1, d2, hsp, g0, g1, g2, hin⟩ := hs2 j hj
          refine ⟨a.block, a.off, d0, d1, d2, ?_, lt_of_cell g0, by simpa using g0, by simpa using g1, by simpa using g2, hin⟩
          obtain ⟨ab, ao, asp⟩ := a
          simp only at hsp
          subst hsp
          rfl
set_option maxRecDepth 100000 in
theorem open_item' {H : Type} {enc : TypeId × Value → H} {w : World} {base b0 : Nat} {r : Reach} {spare : Nat → Bool} {held : Bool} {v : Value} {d : DataW H} {ps : List MemPlace} (hval : Value.okWide Tryd.prog w r b0 27 v) (hd : DataW.Trod enc Tryd.prog w base spare held 27 v d ps) :
    ∃ (y : It) (c0 c1 c2 : Value), v = .agg #[c0, c1, c2] ∧ ItIn w w.heap.size y c0 c1 c2 := by
  obtain ⟨cs, rfl, _⟩ := okWide_struct Tryd.underlying27 hval
  obtain ⟨fuel, hf⟩ := hd
  obtain ⟨y, c0, c1, c2, hc, hin⟩ := open_item fuel _ _ hf
  refine ⟨y, c0, c1, c2, ?_, hin⟩
  have hc : cs.toList = [c0, c1, c2] := hc
  have : cs = #[c0, c1, c2] := by cases cs; simp at hc; simp [hc]
  rw [this]
end Go.Proofs.YtacikiambpfipaaDoor
namespace Go.Proofs.YtacikiambpfipaaDoor
set_option linter.unusedVariables false
set_option linter.unusedSimpArgs false
open Go.ChangeShapes Go.WideShapes Go.ChangeAt Go.RowKit

theorem cells4 {w : World} {base : Nat} {a : Addr} {cs : List Value} (h : w.cells? base a 4 = some cs) : ∃ c0 c1 c2 c3, cs = [c0, c1, c2, c3] ∧ w.cell? a = some c0 ∧ w.cell? (a.add 1) = some c1 ∧ w.cell? (a.add 2) = some c2 ∧ w.cell? (a.add 3) = some c3 := by
  unfold World.cells? at h
  split at h
  · have e : List.range 4 = [0, 1, 2, 3] := rfl
    rw [e] at h
    simp only [List.mapM_cons, List.mapM_nil, Option.bind_eq_bind, Option.pure_def, Option.bind_eq_some_iff] at h
    obtain ⟨c0, h0, r, ⟨c1, h1, r2, ⟨c2, h2, r3, ⟨c3, h3, r4, h4, h5⟩, h6⟩, h7⟩, h8⟩ := h
    simp at h4 h5 h6 h7 h8
    subst h4; subst h5; subst h6; subst h7; subst h8
    exact ⟨c0, c1, c2, c3, rfl, by simpa [Addr.add] using h0, h1, h2, h3⟩
  · cases h
theorem cellsOf_type : Tryd.prog.cellsOf 24 = 4 := by kernel_rfl
theorem cellsOf_int : Tryd.prog.cellsOf 3 = 1 := by kernel_rfl
theorem cellsOf_types : Tryd.prog.cellsOf 22 = 1 := by kernel_rfl
theorem okI_of {i : Int} (h : (Lit.int .i64 i).wf = true) : okI i := by
  unfold okI
  simp [Lit.wf, IntKind.min, IntKind.max, IntKind.signed, IntKind.bits] at h
  omega
set_option maxRecDepth 100000 in
theorem open_type {H : Type} {enc : TypeId × Value → H} {w : World} {base : Nat} {spare : Nat → Bool} {held : Bool} : ∀ (fuel : Nat) (cs : List Value) (x : DataW H × List MemPlace), DataW.trod enc Tryd.prog w base spare held fuel 24 cs = some x →
    ∃ (y : Ty) (c0 c1 c2 c3 : Value), cs = [c0, c1, c2, c3] ∧ TyIn w w.heap.size y c0 c1 c2 c3 := by
  intro fuel
  induction fuel using Nat.strongRecOn with
  | ind fuel ih =>
    intro cs x h
    obtain ⟨xs, n, rfl, _, hl, hxl, hf⟩ := DataW.trod_struct Tryd.underlying24 h
    rw [cellsOf_type] at hl
    match cs, hl with
    | [c0, c1, c2, c3], _ =>
      have h0 : DataW.trod enc Tryd.prog w base spare held n 3 ((([c0, c1, c2, c3] : List Value).drop 0).take (Tryd.prog.cellsOf 3)) = xs[0]? := hf 0 _ rfl
      have h1 : DataW.trod enc Tryd.prog w base spare held n 3 ((([c0, c1, c2, c3] : List Value).drop 1).take (Tryd.prog.cellsOf 3)) = xs[1]? := hf 1 _ rfl
      have h2 : DataW.trod enc Tryd.prog w base spare held n 22 ((([c0, c1, c2, c3] : List Value).drop 2).take (Tryd.prog.cellsOf 22)) = xs[2]? := hf 2 _ rfl
      have h3 : DataW.trod enc Tryd.prog w base spare held n 3 ((([c0, c1, c2, c3] : List Value).drop 3).take (Tryd.prog.cellsOf 3)) = xs[3]? := hf 3 _ rfl
      have hx4 : xs.length = 4 := hxl
      rw [List.getElem?_eq_getElem (by omega)] at h0 h1 h2 h3
      rw [cellsOf_int] at h0 h1 h3
      rw [cellsOf_types] at h2
      simp only [List.drop_zero, List.take_succ_cons, List.take_zero, List.drop_succ_cons] at h0 h1 h2 h3
      obtain ⟨k, e0, _, hk⟩ := DataW.trod_int Tryd.underlying3 h0
      obtain ⟨s, e1, _, hs⟩ := DataW.trod_int Tryd.underlying3 h1
      obtain ⟨t, e3, _, ht⟩ := DataW.trod_int Tryd.underlying3 h3
      simp at e0 e1 e3
      subst e0; subst e1; subst e3
      rcases DataW.trod_slice Tryd.underlying22 h2 with ⟨e2, _⟩ | ⟨a, len, cap, elems, rest, m, rfl, e2, _, hb, hlc, hcm, hel, hat, _, _⟩
      · simp at e2
        subst e2
        exact ⟨.mk k s [] t, _, _, _, _, rfl, rfl, rfl, rfl, okI_of hk, okI_of hs, okI_of ht, by simp, none, 0, rfl, by simp, by simp, trivial⟩
      · simp at e2
        subst e2
        have key : ∀ i, i < len → ∃ y : Ty, ∃ d0 d1 d2 d3, a.spot = none ∧ w.cell? ⟨a.block, a.off + i * 4, none⟩ = some d0 ∧ w.cell? ⟨a.block, a.off + i * 4 + 1, none⟩ = some d1 ∧ w.cell? ⟨a.block, a.off + i * 4 + 2, none⟩ = some d2 ∧ w.cell? ⟨a.block, a.off + i * 4 + 3, none⟩ = some d3 ∧ TyIn w w.heap.size y d0 d1 d2 d3 := by
          have first : ∀ i, i < len → ∃ cs', w.cells? base (a.add (i * 4)) 4 = some cs' ∧ ∃ z, DataW.trod enc Tryd.prog w base spare held m 24 cs' = some z := by
            intro i hi
            have h3 := hat i hi
            rw [cellsOf_type, List.getElem?_eq_getElem (by omega)] at h3
            rw [Option.bind_eq_some_iff] at h3
            obtain ⟨cs', h4, h5⟩ := h3
            exact ⟨cs', h4, _, h5⟩
          have hsp : 0 < len → a.spot = none := by
            intro h0
            obtain ⟨cs', h4, _⟩ := first 0 h0
            obtain ⟨d0, _, _, _, _, h5, _⟩ := cells4 h4
            have h5 : w.cell? a = some d0 := by simpa [Addr.add] using h5
            exact spot_none h5
          intro i hi
          obtain ⟨cs', h4, z, h5⟩ := first i hi
          obtain ⟨d0, d1, d2, d3, rfl, g0, g1, g2, g3⟩ := cells4 h4
          obtain ⟨y, k0, k1, k2, k3, hk, hin⟩ := ih m (by omega) _ _ h5
          simp at hk
          obtain ⟨rfl, rfl, rfl, rfl⟩ := hk
          have hs := hsp (by omega)
          have e1 : ∀ j, (a.add (i * 4)).add j = ⟨a.block, a.off + i * 4 + j, none⟩ := by
            intro j
            obtain ⟨ab, ao, asp⟩ := a
            simp only at hs
            subst hs
            unfold Addr.add
            split <;> split <;> simp_all
          have e0 := e1 0
          rw [show (a.add (i * 4)).add 0 = a.add (i * 4) from by simp [Addr.add]] at e0
          rw [e0] at g0
          rw [e1] at g1 g2 g3
          exact ⟨y, d0, d1, d2, d3, hs, g0, g1, g2, g3, hin⟩
        obtain ⟨l, hs1, hs2⟩ := exists_list _ len key
        subst hs1
        refine ⟨.mk k s l t, _, _, _, _, rfl, rfl, rfl, rfl, okI_of hk, okI_of hs, okI_of ht, ?_, some a, cap, rfl, hlc, by simpa [maxLen] using hcm, TysIn.mk_ fun j hj => ?_⟩
        · have : cap ≤ 9223372036854775807 := by simpa [maxLen] using hcm
          omega
        · obtain ⟨d0, d1, d2, d3, hsp, g0, g1, g2, g3, hin⟩ := hs2 j hj
          refine ⟨a.block, a.off, d0, d1, d2, d3, ?_, lt_of_cell g0, by simpa using g0, by simpa using g1, by simpa using g2, by simpa using g3, hin⟩
          obtain ⟨ab, ao, asp⟩ := a
          simp only at hsp
          subst hsp
          rfl
set_option maxRecDepth 100000 in
theorem open_type' {H : Type} {enc : TypeId × Value → H} {w : World} {base b0 : Nat} {r : Reach} {spare : Nat → Bool} {held : Bool} {v : Value} {d : DataW H} {ps : List MemPlace} (hval : Value.okWide Tryd.prog w r b0 24 v) (hd : DataW.Trod enc Tryd.prog w base spare held 24 v d ps) :
    ∃ (y : Ty) (c0 c1 c2 c3 : Value), v = .agg #[c0, c1, c2, c3] ∧ TyIn w w.heap.size y c0 c1 c2 c3 := by
  obtain ⟨cs, rfl, _⟩ := okWide_struct Tryd.underlying24 hval
  obtain ⟨fuel, hf⟩ := hd
  obtain ⟨y, c0, c1, c2, c3, hc, hin⟩ := open_type fuel _ _ hf
  refine ⟨y, c0, c1, c2, c3, ?_, hin⟩
  have hc : cs.toList = [c0, c1, c2, c3] := hc
  have : cs = #[c0, c1, c2, c3] := by cases cs; simp at hc; simp [hc]
  rw [this]
end Go.Proofs.YtacikiambpfipaaDoor
namespace Go.Proofs.YtacikiambpfipaaDoor
set_option linter.unusedVariables false
set_option linter.unusedSimpArgs false
open Go.RowKit

theorem laid_in {W : World} (h : laidMetH Tryd.prog [("hatchway/schema.uintSizes", .agg [.lit (.int .i64 1), .lit (.int .i64 2), .lit (.int .i64 4), .lit (.int .i64 8)])] W) : Laid W := by
  rw [MakeChecks.laidMetH_plain _ _ _ (by kernel_rfl)] at h
  have hg : Tryd.prog.globalNamed "hatchway/schema.uintSizes" = some 0 := by kernel_rfl
  have hT : Lib.TabIs Tryd.prog W "hatchway/schema.uintSizes" .i64 [1, 2, 4, 8] := Lib.tabIs_of_head (k := .i64) (zs := [1, 2, 4, 8]) (rest := []) (n := 4) hg (by kernel_rfl) Tryd.underlying227 Tryd.underlying3 (by kernel_rfl) (by kernel_rfl) h
  exact ⟨hT.cell hg 0 (by simp), hT.cell hg 1 (by simp), hT.cell hg 2 (by simp), hT.cell hg 3 (by simp)⟩
end Go.Proofs.YtacikiambpfipaaDoor
