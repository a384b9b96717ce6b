/- A hello that came in as an argument lies in memory as one. -/
import Derived.Test.YtcidcjghglgkhaaItemOpen
import Derived.Test.YtcidcjghglgkhaaCapW
namespace Go.Proofs.Ytcidcjghglgkhaa
set_option linter.unusedVariables false
set_option linter.unusedSimpArgs false
open Go.ChangeShapes Go.WideShapes Go.ChangeAt Go.RowKit

theorem cells2 {w : World} {base : Nat} {a : Addr} {cs : List Value} (h : w.cells? base a 2 = some cs) : ∃ c0 c1, cs = [c0, c1] ∧ w.cell? a = some c0 ∧ w.cell? (a.add 1) = some c1 := by
  unfold World.cells? at h
  split at h
  · have e : List.range 2 = [0, 1] := rfl
    rw [e] at h
    simp only [List.mapM_cons, List.mapM_nil, Option.bind_eq_bind, Option.pure_def, Option.bind_eq_some_iff] at h
    obtain ⟨c0, h0, r, ⟨c1, h1, r2, h3, h4⟩, h6⟩ := h
    simp at h3 h4 h6
    subst h3; subst h4; subst h6
    exact ⟨c0, c1, rfl, by simpa [Addr.add] using h0, h1⟩
  · cases h
theorem cellsOf_rcap : Try.prog.cellsOf 54 = 2 := by kernel_rfl
theorem cellsOf_rhel : Try.prog.cellsOf 34 = 3 := by kernel_rfl
theorem cellsOf_int : Try.prog.cellsOf 3 = 1 := by kernel_rfl
theorem cellsOf_rcaps : Try.prog.cellsOf 32 = 1 := by kernel_rfl
set_option maxRecDepth 100000 in
theorem open_cap {H : Type} {enc : TypeId × Value → H} {w : World} {base : Nat} {spare : Nat → Bool} {held : Bool} (fuel : Nat) (cs : List Value) (x : DataW H × List MemPlace) (h : DataW.trod enc Try.prog w base spare held fuel 54 cs = some x) :
    ∃ c : Cp, cs = [.string c.1, .int .i64 c.2] := by
  obtain ⟨xs, n, rfl, _, hl, hxl, hf⟩ := DataW.trod_struct Try.underlying54 h
  rw [cellsOf_rcap] at hl
  match cs, hl with
  | [c0, c1], _ =>
    have h0 : DataW.trod enc Try.prog w base spare held n 9 ((([c0, c1] : List Value).drop 0).take (Try.prog.cellsOf 9)) = xs[0]? := hf 0 _ rfl
    have h1 : DataW.trod enc Try.prog w base spare held n 3 ((([c0, c1] : List Value).drop 1).take (Try.prog.cellsOf 3)) = xs[1]? := hf 1 _ rfl
    have hx2 : xs.length = 2 := hxl
    rw [List.getElem?_eq_getElem (by omega)] at h0 h1
    rw [cellsOf_str] at h0
    rw [cellsOf_int] at h1
    simp only [List.drop_zero, List.take_succ_cons, List.take_zero, List.drop_succ_cons] at h0 h1
    obtain ⟨t, e0, _, ht⟩ := DataW.trod_string Try.underlying9 h0
    obtain ⟨i, e1, _⟩ := DataW.trod_int Try.underlying3 h1
    simp at e0 e1
    subst e0; subst e1
    exact ⟨(t, i), rfl⟩
set_option maxRecDepth 100000 in
theorem open_hel {H : Type} {enc : TypeId × Value → H} {w : World} {base : Nat} {spare : Nat → Bool} {held : Bool} (fuel : Nat) (cs : List Value) (x : DataW H × List MemPlace) (h : DataW.trod enc Try.prog w base spare held fuel 34 cs = some x) :
    ∃ (least most : Int) (l : List Cp) (v : Value), cs = [.int .i64 least, .int .i64 most, v] ∧ CpR w w.heap.size v l := by
  obtain ⟨xs, n, rfl, _, hl, hxl, hf⟩ := DataW.trod_struct Try.underlying34 h
  rw [cellsOf_rhel] at hl
  match cs, hl with
  | [c0, c1, c2], _ =>
    have h0 : DataW.trod enc Try.prog w base spare held n 3 ((([c0, c1, c2] : List Value).drop 0).take (Try.prog.cellsOf 3)) = xs[0]? := hf 0 _ rfl
    have h1 : DataW.trod enc Try.prog w base spare held n 3 ((([c0, c1, c2] : List Value).drop 1).take (Try.prog.cellsOf 3)) = xs[1]? := hf 1 _ rfl
    have h2 : DataW.trod enc Try.prog w base spare held n 32 ((([c0, c1, c2] : List Value).drop 2).take (Try.prog.cellsOf 32)) = xs[2]? := hf 2 _ rfl
    have hx3 : xs.length = 3 := hxl
    rw [List.getElem?_eq_getElem (by omega)] at h0 h1 h2
    rw [cellsOf_int] at h0 h1
    rw [cellsOf_rcaps] at h2
    simp only [List.drop_zero, List.take_succ_cons, List.take_zero, List.drop_succ_cons] at h0 h1 h2
    obtain ⟨i, e0, _⟩ := DataW.trod_int Try.underlying3 h0
    obtain ⟨j, e1, _⟩ := DataW.trod_int Try.underlying3 h1
    simp at e0 e1
    subst e0; subst e1
    rcases DataW.trod_slice Try.underlying32 h2 with ⟨e2, _⟩ | ⟨a, len, cap, elems, rest, m, rfl, e2, _, hb, hlc, hcm, hel, hat, _, _⟩
    · simp at e2
      subst e2
      exact ⟨i, j, [], _, rfl, CpR.nil _ _⟩
    · simp at e2
      subst e2
      have key : ∀ i, i < len → ∃ y : Cp, a.spot = none ∧ w.cell? ⟨a.block, a.off + i * 2, none⟩ = some (.string y.1) ∧ w.cell? ⟨a.block, a.off + i * 2 + 1, none⟩ = some (.int .i64 y.2) := by
        have first : ∀ i, i < len → ∃ cs', w.cells? base (a.add (i * 2)) 2 = some cs' ∧ ∃ z, DataW.trod enc Try.prog w base spare held m 54 cs' = some z := by
          intro i hi
          have h3 := hat i hi
          rw [cellsOf_rcap, List.getElem?_eq_getElem (by omega)] at h3
          rw [Option.bind_eq_some_iff] at h3
          obtain ⟨cs', h4, h5⟩ := h3
          exact ⟨cs', h4, _, h5⟩
        have hsp : 0 < len → a.spot = none := by
          intro h0
          obtain ⟨cs', h4, _⟩ := first 0 h0
          obtain ⟨d0, _, _, h5, _⟩ := cells2 h4
          have h5 : w.cell? a = some d0 := by simpa [Addr.add] using h5
          exact spot_none h5
        intro i hi
        obtain ⟨cs', h4, z, h5⟩ := first i hi
        obtain ⟨d0, d1, rfl, g0, g1⟩ := cells2 h4
        obtain ⟨y, hk⟩ := open_cap m _ _ h5
        simp at hk
        obtain ⟨rfl, rfl⟩ := hk
        have hs := hsp (by omega)
        have e1 : ∀ j, (a.add (i * 2)).add j = ⟨a.block, a.off + i * 2 + j, none⟩ := by
          intro j
          obtain ⟨ab, ao, asp⟩ := a
          simp only at hs
          subst hs
          unfold Addr.add
          split <;> split <;> simp_all
        have e0 := e1 0
        rw [show (a.add (i * 2)).add 0 = a.add (i * 2) from by simp [Addr.add]] at e0
        rw [e0] at g0
        rw [e1] at g1
        exact ⟨y, hs, g0, g1⟩
      obtain ⟨s, hs1, hs2⟩ := exists_list _ len key
      subst hs1
      refine ⟨i, j, s, _, rfl, some a, cap, rfl, hlc, by simpa [maxLen] using hcm, fun j hj => ?_⟩
      obtain ⟨hsp, g0, g1⟩ := hs2 j hj
      refine ⟨a.block, a.off, ?_, lt_of_cell g0, by simpa using g0, by simpa using g1⟩
      obtain ⟨ab, ao, asp⟩ := a
      simp only at hsp
      subst hsp
      rfl
set_option maxRecDepth 100000 in
theorem open_hel' {H : Type} {enc : TypeId × Value → H} {w : World} {base b0 : Nat} {r : Reach} {spare : Nat → Bool} {held : Bool} {v : Value} {d : DataW H} {ps : List MemPlace} (hval : Value.okWide Try.prog w r b0 34 v) (hd : DataW.Trod enc Try.prog w base spare held 34 v d ps) :
    ∃ (least most : Int) (l : List Cp) (u : Value), v = .agg #[.int .i64 least, .int .i64 most, u] ∧ CpR w w.heap.size u l := by
  obtain ⟨cs, rfl, _⟩ := okWide_struct Try.underlying34 hval
  obtain ⟨fuel, hf⟩ := hd
  obtain ⟨i, j, l, u, hc, hin⟩ := open_hel fuel _ _ hf
  refine ⟨i, j, l, u, ?_, hin⟩
  have hc : cs.toList = [.int .i64 i, .int .i64 j, u] := hc
  have : cs = #[.int .i64 i, .int .i64 j, u] := by cases cs; simp at hc; simp [hc]
  rw [this]
end Go.Proofs.Ytcidcjghglgkhaa
