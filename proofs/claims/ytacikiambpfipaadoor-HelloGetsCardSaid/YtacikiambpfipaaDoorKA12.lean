/- hatchwaylaw32.alive. -/
/- An item that came in as an argument lies in memory as an item. -/
/- A hello that came in as an argument lies in memory as one. -/
/- The row's condition on the table of a Uint's sizes. -/
/- The document's Next and Get of an item's bytes. -/
import Derived.Test.YtacikiambpfipaaDoorKCapAgree
import Derived.Test.YtacikiambpfipaaDoorKCapS
import Derived.Test.YtacikiambpfipaaDoorProg
import Derived.Test.YtacikiambpfipaaDoorKA4
import Derived.ProofKit
import Derived.OpenShut
import Derived.ShutString
import Derived.Test.YtacikiambpfipaaDoorKA8
import Derived.Test.YtacikiambpfipaaDoorKTySchema
import Derived.Lib.LaidTab
import Derived.MakeChecks
import Derived.Test.YtacikiambpfipaaDoorKRlpRd
import Derived.Test.YtacikiambpfipaaDoorKA10
namespace Go.Proofs.YtacikiambpfipaaDoor
set_option linter.unusedVariables false
set_option linter.unusedSimpArgs false
open Go.RowKit

def ethN : ByteArray := ⟨#[101, 116, 104]⟩
theorem alive_a : helB 1 3 [(ethN, 5), (ethN, 6)] = true := by decide +kernel
theorem alive_b : helB 2 9 [(ethN, 5), (ethN, 7)] = true := by decide +kernel
theorem alive_d : dealL (bothL [(ethN, 5), (ethN, 6)] [(ethN, 5), (ethN, 7)]) = [(ethN, 5)] := by
  rw [bothL_cons, if_pos rfl, bothL_cons, if_neg (by decide), if_pos (by decide +kernel), show bothL [] [(ethN, 7)] = [] by rw [bothL]]
  rfl
theorem alive_o : offI [(ethN, 5)] ethN = some 0 := by decide +kernel
theorem two_caps {w : World} {g : Nat} {t : TypeId} {x y : Cp} (h : Blk w g t #[.string x.1, .int .i64 x.2, .string y.1, .int .i64 y.2]) : CpR w w.heap.size (.slice (some ⟨g, 0, none⟩) 2 2) [x, y] :=
  ⟨_, 2, rfl, by simp, by simp, fun j hj => by
    match j, hj with
    | 0, _ => exact ⟨g, 0, rfl, h.lt, h.cell 0, h.cell 1⟩
    | 1, _ => exact ⟨g, 0, rfl, h.lt, h.cell 2, h.cell 3⟩
    | j + 2, hj => exact absurd hj (by simp)⟩
set_option maxRecDepth 100000 in
set_option maxHeartbeats 1600000 in
theorem alive32_c (w : World) : Calls Tryd.prog 27 #[] w fun e w' => e = .returned (.bool true) ∧ Below w.heap.size w w' := by
  go_enter Tryd.func27, Tryd.ntmps27
  go_wp2_with fail
  obtain ⟨W4, hW4⟩ : ∃ W4, (((w.alloc (.cells #[.string ⟨#[101, 116, 104]⟩, .int .i64 5, .string ⟨#[101, 116, 104]⟩, .int .i64 6] 104)).alloc (.cells #[.int .i64 1, .int .i64 3, .slice (some ⟨w.heap.size, 0, none⟩) 2 2] 68)).alloc (.cells #[.string ⟨#[101, 116, 104]⟩, .int .i64 5, .string ⟨#[101, 116, 104]⟩, .int .i64 7] 104)).alloc (.cells #[.int .i64 2, .int .i64 9, .slice (some ⟨w.heap.size + 1 + 1, 0, none⟩) 2 2] 68) = W4 := ⟨_, rfl⟩
  have HB4 : Hid (Below w.heap.size w W4) := Lib.hid (by rw [← hW4]; exact ((((Below.refl _ w).alloc (Nat.le_refl _) _).alloc (by simp) _).alloc (by simp; omega) _).alloc (by simp; omega) _)
  have b0 : Blk W4 w.heap.size 104 #[.string ethN, .int .i64 5, .string ethN, .int .i64 6] := by rw [← hW4]; exact (((Blk.new w _ _).alloc _).alloc _).alloc _
  have b2 : Blk W4 (w.heap.size + 1 + 1) 104 #[.string ethN, .int .i64 5, .string ethN, .int .i64 7] := by
    rw [← hW4]
    have := Blk.new ((w.alloc (.cells #[.string ⟨#[101, 116, 104]⟩, .int .i64 5, .string ⟨#[101, 116, 104]⟩, .int .i64 6] 104)).alloc (.cells #[.int .i64 1, .int .i64 3, .slice (some ⟨w.heap.size, 0, none⟩) 2 2] 68)) 104 #[.string ethN, .int .i64 5, .string ethN, .int .i64 7]
    rw [World.size_alloc, World.size_alloc] at this
    exact this.alloc _
  rw [hW4]
  clear hW4
  refine (agree_c 1 3 [(ethN, 5), (ethN, 6)] _ 2 9 [(ethN, 5), (ethN, 7)] _ W4.heap.size W4 (two_caps (x := (ethN, 5)) (y := (ethN, 6)) b0) (two_caps (x := (ethN, 5)) (y := (ethN, 7)) b2) (Nat.le_refl _) (by intro c hc; simp at hc; rcases hc with rfl | rfl <;> decide) (by intro c hc; simp at hc; rcases hc with rfl | rfl <;> decide) (by simp) (by simp)).mono ?_
  rintro e W5 ⟨hb5, hend⟩
  rw [if_pos ⟨alive_a, alive_b⟩, if_neg (by decide), alive_d] at hend
  obtain ⟨v, rfl, hc⟩ := hend
  have hmin : min (3 : Int) 9 = 3 := by decide
  rw [hmin]
  have HB5 : Hid (Below w.heap.size w W5) := Lib.hid (HB4.out.trans (hb5.mono HB4.out.size))
  obtain ⟨A, n, cap, rfl, hn, hnc, hcm⟩ := hc.form'
  obtain rfl : n = 1 := hn.out
  obtain ⟨g, o, rfl, hg, e0, e1⟩ := hc.at_ (j := 0) (by simp)
  simp only [Nat.zero_mul, Nat.add_zero] at e0 e1
  have HOF := Lib.hid (offset_c 3 [(ethN, 5)] _ ethN W5.heap.size (W5.alloc (.cells #[.int .i64 3, .slice (some ⟨g, o, none⟩) 1 cap] 106)) (hc.below ((Below.refl _ _).alloc (Nat.le_refl _) _)) (by simp) (by simp))
  rw [alive_o, offEnd] at HOF
  have HBX := Lib.hid (Blk.new W5 106 #[.int .i64 3, .slice (some ⟨g, o, none⟩) 1 cap])
  have HE1 := Lib.hid ((show (W5.alloc (.cells #[.int .i64 3, .slice (some ⟨g, o, none⟩) 1 cap] 106)).cell? ⟨g, o + 1, none⟩ = some (.int .i64 5) from (((Below.refl W5.heap.size W5).alloc (Nat.le_refl _) _).cell (p := ⟨g, o + 1, none⟩) hg).trans e1))
  clear hb5 hc hn b0 b2 e0 e1 hmin
  go_wp2_with fail
  refine HOF.out.mono ?_
  rintro e W6 ⟨rfl, hb6⟩
  have m0 : W6.cell? ⟨W5.heap.size, 0, none⟩ = some (.int .i64 3) := (HBX.out.keep hb6 (by simp)).cell 0
  have m1 : W6.cell? ⟨W5.heap.size, 1, none⟩ = some (.slice (some ⟨g, o, none⟩) 1 cap) := (HBX.out.keep hb6 (by simp)).cell 1
  have m2 := (hb6.cell (p := ⟨g, o + 1, none⟩) (by simp; omega)).trans HE1.out
  have HB6 : Hid (Below w.heap.size w W6) := Lib.hid ((HB5.out.alloc HB5.out.size _).trans (hb6.mono (by have := HB5.out.size; simp; omega)))
  clear hb6
  go_wp2
  go_ret
  exact ⟨rfl, HB6.out⟩
end Go.Proofs.YtacikiambpfipaaDoor
namespace Go.Proofs.YtacikiambpfipaaDoor
set_option linter.unusedVariables false
set_option linter.unusedSimpArgs false
open Go.ChangeShapes Go.WideShapes Go.ChangeAt Go.RowKit

theorem exists_list {α : Type} (Q : Nat → α → Prop) : ∀ n, (∀ i, i < n → ∃ y, Q i y) → ∃ l : List α, l.length = n ∧ ∀ i (h : i < l.length), Q i l[i]
  | 0, _ => ⟨[], rfl, by simp⟩
  | n + 1, h => by
    obtain ⟨l, h1, h2⟩ := exists_list Q n fun i hi => h i (by omega)
    obtain ⟨y, hy⟩ := h n (by omega)
    refine ⟨l ++ [y], by simp [h1], fun i hi => ?_⟩
    by_cases hc : i < l.length
    · rw [List.getElem_append_left hc]; exact h2 i hc
    · have : i = n := by simp at hi; omega
      subst this
      rw [List.getElem_append_right (by omega)]
      simpa [h1] using hy
theorem cells3 {w : World} {base : Nat} {a : Addr} {cs : List Value} (h : w.cells? base a 3 = some cs) : ∃ c0 c1 c2, cs = [c0, c1, c2] ∧ w.cell? a = some c0 ∧ w.cell? (a.add 1) = some c1 ∧ w.cell? (a.add 2) = some c2 := by
  unfold World.cells? at h
  split at h
  · have e : List.range 3 = [0, 1, 2] := rfl
    rw [e] at h
    simp only [List.mapM_cons, List.mapM_nil, Option.bind_eq_bind, Option.pure_def, Option.bind_eq_some_iff] at h
    obtain ⟨c0, h0, r, ⟨c1, h1, r2, ⟨c2, h2, r3, h3, h4⟩, h5⟩, h6⟩ := h
    simp at h3 h4 h5 h6
    subst h3; subst h4; subst h5; subst h6
    exact ⟨c0, c1, c2, rfl, by simpa [Addr.add] using h0, h1, h2⟩
  · cases h
theorem spot_none {w : World} {a : Addr} {v : Value} (h : w.cell? a = some v) : a.spot = none := by
  unfold World.cell? at h
  split at h
  · split at h
    · cases h
    · rename_i hs; simpa using hs
  · cases h
theorem cellsOf_item : Tryd.prog.cellsOf 27 = 3 := by kernel_rfl
theorem cellsOf_str : Tryd.prog.cellsOf 9 = 1 := by kernel_rfl
theorem cellsOf_bool : Tryd.prog.cellsOf 4 = 1 := by kernel_rfl
theorem cellsOf_items : Tryd.prog.cellsOf 25 = 1 := by kernel_rfl
set_option maxRecDepth 100000 in
theorem open_item {H : Type} {enc : TypeId × Value → H} {w : World} {base : Nat} {spare : Nat → Bool} {held : Bool} : ∀ (fuel : Nat) (cs : List Value) (x : DataW H × List MemPlace), DataW.trod enc Tryd.prog w base spare held fuel 27 cs = some x →
    ∃ (y : It) (c0 c1 c2 : Value), cs = [c0, c1, c2] ∧ ItIn w w.heap.size y c0 c1 c2 := by
  intro fuel
  induction fuel using Nat.strongRecOn with
  | ind fuel ih =>
    intro cs x h
    obtain ⟨xs, n, rfl, _, hl, hxl, hf⟩ := DataW.trod_struct Tryd.underlying27 h
    rw [cellsOf_item] at hl
    match cs, hl with
    | [c0, c1, c2], _ =>
      have h0 : DataW.trod enc Tryd.prog w base spare held n 9 ((([c0, c1, c2] : List Value).drop 0).take (Tryd.prog.cellsOf 9)) = xs[0]? := hf 0 _ rfl
      have h1 : DataW.trod enc Tryd.prog w base spare held n 4 ((([c0, c1, c2] : List Value).drop 1).take (Tryd.prog.cellsOf 4)) = xs[1]? := hf 1 _ rfl
      have h2 : DataW.trod enc Tryd.prog w base spare held n 25 ((([c0, c1, c2] : List Value).drop 2).take (Tryd.prog.cellsOf 25)) = xs[2]? := hf 2 _ rfl
      have hx3 : xs.length = 3 := hxl
      rw [List.getElem?_eq_getElem (by omega)] at h0 h1 h2
      rw [cellsOf_str] at h0
      rw [cellsOf_bool] at h1
      rw [cellsOf_items] at h2
      simp only [List.drop_zero, List.take_succ_cons, List.take_zero, List.drop_succ_cons] at h0 h1 h2
      obtain ⟨t, e0, _, ht⟩ := DataW.trod_string Tryd.underlying9 h0
      obtain ⟨l, e1, _⟩ := DataW.trod_bool Tryd.underlying4 h1
      simp at e0 e1
      subst e0; subst e1
      rcases DataW.trod_slice Tryd.underlying25 h2 with ⟨e2, _⟩ | ⟨a, len, cap, elems, rest, m, rfl, e2, _, hb, hlc, hcm, hel, hat, _, _⟩
      · simp at e2
        subst e2
        exact ⟨.mk t l [], _, _, _, rfl, rfl, rfl, by simpa [maxLen] using ht, by simp, none, 0, rfl, by simp, by simp, trivial⟩
      · simp at e2
        subst e2
        have key : ∀ i, i < len → ∃ y : It, ∃ d0 d1 d2, a.spot = none ∧ w.cell? ⟨a.block, a.off + i * 3, none⟩ = some d0 ∧ w.cell? ⟨a.block, a.off + i * 3 + 1, none⟩ = some d1 ∧ w.cell? ⟨a.block, a.off + i * 3 + 2, none⟩ = some d2 ∧ ItIn w w.heap.size y d0 d1 d2 := by
          have first : ∀ i, i < len → ∃ cs', w.cells? base (a.add (i * 3)) 3 = some cs' ∧ ∃ z, DataW.trod enc Tryd.prog w base spare held m 27 cs' = some z := by
            intro i hi
            have h3 := hat i hi
            rw [cellsOf_item, List.getElem?_eq_getElem (by omega)] at h3
            rw [Option.bind_eq_some_iff] at h3
            obtain ⟨cs', h4, h5⟩ := h3
            exact ⟨cs', h4, _, h5⟩
          have hsp : 0 < len → a.spot = none := by
            intro h0
            obtain ⟨cs', h4, _⟩ := first 0 h0
            obtain ⟨d0, _, _, _, h5, _⟩ := cells3 h4
            have h5 : w.cell? a = some d0 := by simpa [Addr.add] using h5
            exact spot_none h5
          intro i hi
          obtain ⟨cs', h4, z, h5⟩ := first i hi
          obtain ⟨d0, d1, d2, rfl, g0, g1, g2⟩ := cells3 h4
          obtain ⟨y, k0, k1, k2, hk, hin⟩ := ih m (by omega) _ _ h5
          simp at hk
          obtain ⟨rfl, rfl, rfl⟩ := hk
          have hs := hsp (by omega)
          have e1 : ∀ j, (a.add (i * 3)).add j = ⟨a.block, a.off + i * 3 + j, none⟩ := by
            intro j
            obtain ⟨ab, ao, asp⟩ := a
            simp only at hs
            subst hs
            unfold Addr.add
            split <;> split <;> simp_all
          have e0 := e1 0
          rw [show (a.add (i * 3)).add 0 = a.add (i * 3) from by simp [Addr.add]] at e0
          rw [e0] at g0
          rw [e1] at g1 g2
          exact ⟨y, d0, d1, d2, hs, g0, g1, g2, hin⟩
        obtain ⟨s, hs1, hs2⟩ := exists_list _ len key
        subst hs1
        refine ⟨.mk t l s, _, _, _, rfl, rfl, rfl, by simpa [maxLen] using ht, ?_, some a, cap, rfl, hlc, by simpa [maxLen] using hcm, ItsIn.mk_ fun j hj => ?_⟩
        · have : cap ≤ 9223372036854775807 := by simpa [maxLen] using hcm
          omega
        · obtain ⟨d0, d1, d2, hsp, g0, g1, g2, hin⟩ := hs2 j hj
          refine ⟨a.block, a.off, d0, d1, d2, ?_, lt_of_cell g0, by simpa using g0, by simpa using g1, by simpa using g2, hin⟩
          obtain ⟨ab, ao, asp⟩ := a
          simp only at hsp
          subst hsp
          rfl
set_option maxRecDepth 100000 in
theorem open_item' {H : Type} {enc : TypeId × Value → H} {w : World} {base b0 : Nat} {r : Reach} {spare : Nat → Bool} {held : Bool} {v : Value} {d : DataW H} {ps : List MemPlace} (hval : Value.okWide Tryd.prog w r b0 27 v) (hd : DataW.Trod enc Tryd.prog w base spare held 27 v d ps) :
    ∃ (y : It) (c0 c1 c2 : Value), v = .agg #[c0, c1, c2] ∧ ItIn w w.heap.size y c0 c1 c2 := by
  obtain ⟨cs, rfl, _⟩ := okWide_struct Tryd.underlying27 hval
  obtain ⟨fuel, hf⟩ := hd
  obtain ⟨y, c0, c1, c2, hc, hin⟩ := open_item fuel _ _ hf
  refine ⟨y, c0, c1, c2, ?_, hin⟩
  have hc : cs.toList = [c0, c1, c2] := hc
  have : cs = #[c0, c1, c2] := by cases cs; simp at hc; simp [hc]
  rw [this]
end Go.Proofs.YtacikiambpfipaaDoor
namespace Go.Proofs.YtacikiambpfipaaDoor
set_option linter.unusedVariables false
set_option linter.unusedSimpArgs false
open Go.ChangeShapes Go.WideShapes Go.ChangeAt Go.RowKit

theorem cells2 {w : World} {base : Nat} {a : Addr} {cs : List Value} (h : w.cells? base a 2 = some cs) : ∃ c0 c1, cs = [c0, c1] ∧ w.cell? a = some c0 ∧ w.cell? (a.add 1) = some c1 := by
  unfold World.cells? at h
  split at h
  · have e : List.range 2 = [0, 1] := rfl
    rw [e] at h
    simp only [List.mapM_cons, List.mapM_nil, Option.bind_eq_bind, Option.pure_def, Option.bind_eq_some_iff] at h
    obtain ⟨c0, h0, r, ⟨c1, h1, r2, h3, h4⟩, h6⟩ := h
    simp at h3 h4 h6
    subst h3; subst h4; subst h6
    exact ⟨c0, c1, rfl, by simpa [Addr.add] using h0, h1⟩
  · cases h
theorem cellsOf_rcap : Tryd.prog.cellsOf 111 = 2 := by kernel_rfl
theorem cellsOf_rhel : Tryd.prog.cellsOf 63 = 3 := by kernel_rfl
theorem cellsOf_int : Tryd.prog.cellsOf 3 = 1 := by kernel_rfl
theorem cellsOf_rcaps : Tryd.prog.cellsOf 61 = 1 := by kernel_rfl
set_option maxRecDepth 100000 in
theorem open_cap {H : Type} {enc : TypeId × Value → H} {w : World} {base : Nat} {spare : Nat → Bool} {held : Bool} (fuel : Nat) (cs : List Value) (x : DataW H × List MemPlace) (h : DataW.trod enc Tryd.prog w base spare held fuel 111 cs = some x) :
    ∃ c : Cp, cs = [.string c.1, .int .i64 c.2] := by
  obtain ⟨xs, n, rfl, _, hl, hxl, hf⟩ := DataW.trod_struct Tryd.underlying111 h
  rw [cellsOf_rcap] at hl
  match cs, hl with
  | [c0, c1], _ =>
    have h0 : DataW.trod enc Tryd.prog w base spare held n 9 ((([c0, c1] : List Value).drop 0).take (Tryd.prog.cellsOf 9)) = xs[0]? := hf 0 _ rfl
    have h1 : DataW.trod enc Tryd.prog w base spare held n 3 ((([c0, c1] : List Value).drop 1).take (Tryd.prog.cellsOf 3)) = xs[1]? := hf 1 _ rfl
    have hx2 : xs.length = 2 := hxl
    rw [List.getElem?_eq_getElem (by omega)] at h0 h1
    rw [cellsOf_str] at h0
    rw [cellsOf_int] at h1
    simp only [List.drop_zero, List.take_succ_cons, List.take_zero, List.drop_succ_cons] at h0 h1
    obtain ⟨t, e0, _, ht⟩ := DataW.trod_string Tryd.underlying9 h0
    obtain ⟨i, e1, _⟩ := DataW.trod_int Tryd.underlying3 h1
    simp at e0 e1
    subst e0; subst e1
    exact ⟨(t, i), rfl⟩
set_option maxRecDepth 100000 in
theorem open_hel {H : Type} {enc : TypeId × Value → H} {w : World} {base : Nat} {spare : Nat → Bool} {held : Bool} (fuel : Nat) (cs : List Value) (x : DataW H × List MemPlace) (h : DataW.trod enc Tryd.prog w base spare held fuel 63 cs = some x) :
    ∃ (least most : Int) (l : List Cp) (v : Value), cs = [.int .i64 least, .int .i64 most, v] ∧ CpR w w.heap.size v l := by
  obtain ⟨xs, n, rfl, _, hl, hxl, hf⟩ := DataW.trod_struct Tryd.underlying63 h
  rw [cellsOf_rhel] at hl
  match cs, hl with
  | [c0, c1, c2], _ =>
    have h0 : DataW.trod enc Tryd.prog w base spare held n 3 ((([c0, c1, c2] : List Value).drop 0).take (Tryd.prog.cellsOf 3)) = xs[0]? := hf 0 _ rfl
    have h1 : DataW.trod enc Tryd.prog w base spare held n 3 ((([c0, c1, c2] : List Value).drop 1).take (Tryd.prog.cellsOf 3)) = xs[1]? := hf 1 _ rfl
    have h2 : DataW.trod enc Tryd.prog w base spare held n 61 ((([c0, c1, c2] : List Value).drop 2).take (Tryd.prog.cellsOf 61)) = xs[2]? := hf 2 _ rfl
    have hx3 : xs.length = 3 := hxl
    rw [List.getElem?_eq_getElem (by omega)] at h0 h1 h2
    rw [cellsOf_int] at h0 h1
    rw [cellsOf_rcaps] at h2
    simp only [List.drop_zero, List.take_succ_cons, List.take_zero, List.drop_succ_cons] at h0 h1 h2
    obtain ⟨i, e0, _⟩ := DataW.trod_int Tryd.underlying3 h0
    obtain ⟨j, e1, _⟩ := DataW.trod_int Tryd.underlying3 h1
    simp at e0 e1
    subst e0; subst e1
    rcases DataW.trod_slice Tryd.underlying61 h2 with ⟨e2, _⟩ | ⟨a, len, cap, elems, rest, m, rfl, e2, _, hb, hlc, hcm, hel, hat, _, _⟩
    · simp at e2
      subst e2
      exact ⟨i, j, [], _, rfl, CpR.nil _ _⟩
    · simp at e2
      subst e2
      have key : ∀ i, i < len → ∃ y : Cp, a.spot = none ∧ w.cell? ⟨a.block, a.off + i * 2, none⟩ = some (.string y.1) ∧ w.cell? ⟨a.block, a.off + i * 2 + 1, none⟩ = some (.int .i64 y.2) := by
        have first : ∀ i, i < len → ∃ cs', w.cells? base (a.add (i * 2)) 2 = some cs' ∧ ∃ z, DataW.trod enc Tryd.prog w base spare held m 111 cs' = some z := by
          intro i hi
          have h3 := hat i hi
          rw [cellsOf_rcap, List.getElem?_eq_getElem (by omega)] at h3
          rw [Option.bind_eq_some_iff] at h3
          obtain ⟨cs', h4, h5⟩ := h3
          exact ⟨cs', h4, _, h5⟩
        have hsp : 0 < len → a.spot = none := by
          intro h0
          obtain ⟨cs', h4, _⟩ := first 0 h0
          obtain ⟨d0, _, _, h5, _⟩ := cells2 h4
          have h5 : w.cell? a = some d0 := by simpa [Addr.add] using h5
          exact spot_none h5
        intro i hi
        obtain ⟨cs', h4, z, h5⟩ := first i hi
        obtain ⟨d0, d1, rfl, g0, g1⟩ := cells2 h4
        obtain ⟨y, hk⟩ := open_cap m _ _ h5
        simp at hk
        obtain ⟨rfl, rfl⟩ := hk
        have hs := hsp (by omega)
        have e1 : ∀ j, (a.add (i * 2)).add j = ⟨a.block, a.off + i * 2 + j, none⟩ := by
          intro j
          obtain ⟨ab, ao, asp⟩ := a
          simp only at hs
          subst hs
          unfold Addr.add
          split <;> split <;> simp_all
        have e0 := e1 0
        rw [show (a.add (i * 2)).add 0 = a.add (i * 2) from by simp [Addr.add]] at e0
        rw [e0] at g0
        rw [e1] at g1
        exact ⟨y, hs, g0, g1⟩
      obtain ⟨s, hs1, hs2⟩ := exists_list _ len key
      subst hs1
      refine ⟨i, j, s, _, rfl, some a, cap, rfl, hlc, by simpa [maxLen] using hcm, fun j hj => ?_⟩
      obtain ⟨hsp, g0, g1⟩ := hs2 j hj
      refine ⟨a.block, a.off, ?_, lt_of_cell g0, by simpa using g0, by simpa using g1⟩
      obtain ⟨ab, ao, asp⟩ := a
      simp only at hsp
      subst hsp
      rfl
set_option maxRecDepth 100000 in
theorem open_hel' {H : Type} {enc : TypeId × Value → H} {w : World} {base b0 : Nat} {r : Reach} {spare : Nat → Bool} {held : Bool} {v : Value} {d : DataW H} {ps : List MemPlace} (hval : Value.okWide Tryd.prog w r b0 63 v) (hd : DataW.Trod enc Tryd.prog w base spare held 63 v d ps) :
    ∃ (least most : Int) (l : List Cp) (u : Value), v = .agg #[.int .i64 least, .int .i64 most, u] ∧ CpR w w.heap.size u l := by
  obtain ⟨cs, rfl, _⟩ := okWide_struct Tryd.underlying63 hval
  obtain ⟨fuel, hf⟩ := hd
  obtain ⟨i, j, l, u, hc, hin⟩ := open_hel fuel _ _ hf
  refine ⟨i, j, l, u, ?_, hin⟩
  have hc : cs.toList = [.int .i64 i, .int .i64 j, u] := hc
  have : cs = #[.int .i64 i, .int .i64 j, u] := by cases cs; simp at hc; simp [hc]
  rw [this]
end Go.Proofs.YtacikiambpfipaaDoor
namespace Go.Proofs.YtacikiambpfipaaDoor
set_option linter.unusedVariables false
set_option linter.unusedSimpArgs false
open Go.RowKit

theorem laid_in {W : World} (h : laidMetH Tryd.prog [("hatchway/schema.uintSizes", .agg [.lit (.int .i64 1), .lit (.int .i64 2), .lit (.int .i64 4), .lit (.int .i64 8)])] W) : Laid W := by
  rw [MakeChecks.laidMetH_plain _ _ _ (by kernel_rfl)] at h
  have hg : Tryd.prog.globalNamed "hatchway/schema.uintSizes" = some 0 := by kernel_rfl
  have hT : Lib.TabIs Tryd.prog W "hatchway/schema.uintSizes" .i64 [1, 2, 4, 8] := Lib.tabIs_of_head (k := .i64) (zs := [1, 2, 4, 8]) (rest := []) (n := 4) hg (by kernel_rfl) Tryd.underlying227 Tryd.underlying3 (by kernel_rfl) (by kernel_rfl) h
  exact ⟨hT.cell hg 0 (by simp), hT.cell hg 1 (by simp), hT.cell hg 2 (by simp), hT.cell hg 3 (by simp)⟩
end Go.Proofs.YtacikiambpfipaaDoor
namespace Go.Proofs.YtacikiambpfipaaDoor
set_option linter.unusedVariables false
set_option linter.unusedSimpArgs false
open Go.RowKit

set_option maxRecDepth 100000 in
set_option maxHeartbeats 2000000 in
theorem refNext9_c (s : ByteArray) (D M : Int) (w : World) (hs : s.size ≤ 4611686018427387904) :
    Calls Tryd.prog 123 #[.string s, .int .i64 D, .int .i64 M] w fun e w' => GotEnd w w' (rdItem D M s 1 0) e := by
  have HC := Lib.hid (fun w => refRead_c D M s.size s 1 0 w rfl hs (by omega) (by omega))
  generalize rdItem D M s 1 0 = R at *
  have HB := Lib.hid (Blk.new w 155 #[.string ⟨#[]⟩, .bool false, .slice none 0 0, .int .i64 0, .int .i64 0, .int .i64 0])
  go_enter Tryd.func123, Tryd.ntmps123
  go_wp2_with fail
  refine (HC.out _).mono ?_
  rintro e w1 ⟨hb, c0, c1, c2, rfl, hy⟩
  obtain ⟨AA, ccap, rfl, rfl, rfl, _⟩ := hy.open_
  have HB1 := Lib.hid (HB.out.keep hb (by simp))
  have HY := Lib.hid hy
  have HBB : Hid (Below w.heap.size w w1) := Lib.hid (((Below.refl w.heap.size w).alloc (Nat.le_refl _) _).trans (hb.mono (by simp)))
  obtain ⟨r0, r1, r2, r3, r4, r5, rf0, rf1, rf2, rf3, rf4, rf5⟩ := blk6 HB1.out
  clear hb hy
  go_wp2
  obtain ⟨d0, d1, d2, d3, d4, d5, _⟩ := blk6 (put6 HB1.out (.string R.x.text) (.bool R.x.list) (.slice AA R.x.sub.length ccap) (.int .i64 R.size) (.int .i64 R.items) (.int .i64 R.e))
  refine bodyPost_ret (v := .agg #[.string R.x.text, .bool R.x.list, .slice AA R.x.sub.length ccap, .int .i64 R.size, .int .i64 R.items, .int .i64 R.e]) (by simp [results, Tryd.results123, go_sem, d0, d1, d2, d3, d4, d5]) rfl ?_
  refine ⟨(((((HBB.out.setCell (by simp) _).setCell (by simp) _).setCell (by simp) _).setCell (by simp) _).setCell (by simp) _).setCell (by simp) _, _, _, _, rfl, ?_⟩
  refine HY.out.only (L := [w.heap.size]) (((((((Only.refl _ _).setCell (by simp) _).setCell (by simp) _).setCell (by simp) _).setCell (by simp) _).setCell (by simp) _).setCell (by simp) _) (by simp) (fun k _ h => ?_)
  have h : (w.alloc _).heap.size ≤ k := h
  simp only [World.size_alloc] at h
  omega

set_option maxRecDepth 100000 in
set_option maxHeartbeats 2000000 in
theorem refGet9_c (s : ByteArray) (D M : Int) (w : World) (hs : s.size ≤ 4611686018427387904) :
    Calls Tryd.prog 79 #[.string s, .int .i64 D, .int .i64 M] w fun e w' => GtEnd w w' (getX D M s) (getE D M s) e := by
  have HC := Lib.hid (fun w => refNext9_c s D M w hs)
  have HGE : Hid (getE D M s = if (rdItem D M s 1 0).e ≠ 0 then (rdItem D M s 1 0).e else if (rdItem D M s 1 0).size < s.size then 3 else 0) := Lib.hid rfl
  have HGX : Hid (getX D M s = if getE D M s ≠ 0 then noIt else (rdItem D M s 1 0).x) := Lib.hid rfl
  generalize getX D M s = X at *
  generalize getE D M s = E at *
  generalize rdItem D M s 1 0 = R at *
  obtain ⟨x, size, items, re⟩ := R
  have HB := Lib.hid (Blk.new w 27 #[.string ⟨#[]⟩, .bool false, .slice none 0 0])
  by_cases h0 : re = 0
  · subst h0
    by_cases h1 : size < s.size
    · have HE : Hid (E = 3 ∧ X = noIt) := Lib.hid (by
        have h2 : E = 3 := by rw [HGE.out, if_neg (by simp), if_pos h1]
        exact ⟨h2, by rw [HGX.out, if_pos (by omega)]⟩)
      clear HGE HGX
      go_enter Tryd.func79, Tryd.ntmps79
      go_wp2_with fail
      refine (HC.out _).mono ?_
      rintro e w1 ⟨hb, c0, c1, c2, rfl, hy⟩
      obtain ⟨AA, ccap, rfl, rfl, rfl, _⟩ := hy.open_
      dsimp only
      have HB1 := Lib.hid (HB.out.keep hb (by simp))
      have HY := Lib.hid hy
      have HBB : Hid (Below w.heap.size w w1) := Lib.hid (((Below.refl w.heap.size w).alloc (Nat.le_refl _) _).trans (hb.mono (by simp)))
      have hlt : w.heap.size < w1.heap.size := by have := hb.size; simp only [World.size_alloc] at this; omega
      obtain ⟨r0, r1, r2, rf0, rf1, rf2⟩ := blk3 HB1.out
      clear hb hy
      go_wp2
      obtain ⟨d0, d1, d2, _⟩ := blk3 ((put3 HB1.out (.string ⟨#[]⟩) (.bool false) (.slice none 0 0)).alloc (.cells #[.string x.text, .bool x.list, .slice AA x.sub.length ccap, .int .i64 size, .int .i64 items, .int .i64 0] 155))
      refine bodyPost_ret (v := .tuple #[.agg #[(.string ⟨#[]⟩), (.bool false), (.slice none 0 0)], .int .i64 3]) (by simp [results, Tryd.results79, go_sem, d0, d1, d2]) rfl ?_
      rw [HE.out.1, HE.out.2]
      refine ⟨(((HBB.out.setCell (by simp) _).setCell (by simp) _).setCell (by simp) _).alloc (by simp [World.setCell]; omega) _, _, _, _, rfl, ?_⟩
      exact noIt_S _ _
    · have HE : Hid (E = 0 ∧ X = x) := Lib.hid (by
        have h2 : E = 0 := by rw [HGE.out, if_neg (by simp), if_neg h1]
        exact ⟨h2, by rw [HGX.out, if_neg (by omega)]⟩)
      clear HGE HGX
      go_enter Tryd.func79, Tryd.ntmps79
      go_wp2_with fail
      refine (HC.out _).mono ?_
      rintro e w1 ⟨hb, c0, c1, c2, rfl, hy⟩
      obtain ⟨AA, ccap, rfl, rfl, rfl, _⟩ := hy.open_
      dsimp only
      have HB1 := Lib.hid (HB.out.keep hb (by simp))
      have HY := Lib.hid hy
      have HBB : Hid (Below w.heap.size w w1) := Lib.hid (((Below.refl w.heap.size w).alloc (Nat.le_refl _) _).trans (hb.mono (by simp)))
      have hlt : w.heap.size < w1.heap.size := by have := hb.size; simp only [World.size_alloc] at this; omega
      obtain ⟨r0, r1, r2, rf0, rf1, rf2⟩ := blk3 HB1.out
      clear hb hy
      go_wp2
      obtain ⟨d0, d1, d2, _⟩ := blk3 ((put3 HB1.out (.string x.text) (.bool x.list) (.slice AA x.sub.length ccap)).alloc (.cells #[.string x.text, .bool x.list, .slice AA x.sub.length ccap, .int .i64 size, .int .i64 items, .int .i64 0] 155))
      refine bodyPost_ret (v := .tuple #[.agg #[(.string x.text), (.bool x.list), (.slice AA x.sub.length ccap)], .int .i64 0]) (by simp [results, Tryd.results79, go_sem, d0, d1, d2]) rfl ?_
      rw [HE.out.1, HE.out.2]
      refine ⟨(((HBB.out.setCell (by simp) _).setCell (by simp) _).setCell (by simp) _).alloc (by simp [World.setCell]; omega) _, _, _, _, rfl, ?_⟩
      refine HY.out.only (L := [w.heap.size]) (((((Only.refl _ _).setCell (by simp) _).setCell (by simp) _).setCell (by simp) _).alloc _) (by simp) (fun k _ h => ?_)
      have h : (w.alloc _).heap.size ≤ k := h
      simp only [World.size_alloc] at h
      omega
  · have HE : Hid (E = re ∧ X = noIt) := Lib.hid (by
      have h2 : E = re := by rw [HGE.out, if_pos h0]
      exact ⟨h2, by rw [HGX.out, if_pos (by omega)]⟩)
    have k0 : (re == 0) = false := beq_eq_false_iff_ne.2 h0
    have k1 : (re != 0) = true := by simp [h0]
    clear HGE HGX h0
    go_enter Tryd.func79, Tryd.ntmps79
    go_wp2_with fail
    refine (HC.out _).mono ?_
    rintro e w1 ⟨hb, c0, c1, c2, rfl, hy⟩
    obtain ⟨AA, ccap, rfl, rfl, rfl, _⟩ := hy.open_
    dsimp only
    have HB1 := Lib.hid (HB.out.keep hb (by simp))
    have HY := Lib.hid hy
    have HBB : Hid (Below w.heap.size w w1) := Lib.hid (((Below.refl w.heap.size w).alloc (Nat.le_refl _) _).trans (hb.mono (by simp)))
    have hlt : w.heap.size < w1.heap.size := by have := hb.size; simp only [World.size_alloc] at this; omega
    obtain ⟨r0, r1, r2, rf0, rf1, rf2⟩ := blk3 HB1.out
    clear hb hy
    go_wp2_with fail
    go_region
    all_goals go_wp2
    obtain ⟨d0, d1, d2, _⟩ := blk3 (((put3 HB1.out (.string ⟨#[]⟩) (.bool false) (.slice none 0 0)).alloc (.cells #[.string x.text, .bool x.list, .slice AA x.sub.length ccap, .int .i64 size, .int .i64 items, .int .i64 re] 155)).drew)
    refine bodyPost_ret (v := .tuple #[.agg #[.string ⟨#[]⟩, .bool false, .slice none 0 0], .int .i64 re]) (by simp [results, Tryd.results79, go_sem, d0, d1, d2]) rfl ?_
    rw [HE.out.1, HE.out.2]
    refine ⟨((((HBB.out.setCell (by simp) _).setCell (by simp) _).setCell (by simp) _).alloc (by simp [World.setCell]; omega) _).drew, _, _, _, rfl, noIt_S _ _⟩
end Go.Proofs.YtacikiambpfipaaDoor
