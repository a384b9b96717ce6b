/- Two capabilities compared by '=='. -/
import Derived.Test.YtcidcjghglgkhaaCapW
import Derived.Laws.StructEq
namespace Go.Proofs.Ytcidcjghglgkhaa
set_option linter.unusedVariables false
set_option linter.unusedSimpArgs false
open Go.RowKit

theorem eqg_cap : (Try.prog).eqGuardType (Try.prog).depth 74 = false := by kernel_rfl
theorem eqg_rcap : (Try.prog).eqGuardType (Try.prog).depth 54 = false := by kernel_rfl
theorem fld_cap : (Try.prog).underlying 74 = some (.struct ((Try.prog).fieldsOf 74)) := by kernel_rfl
theorem fld_rcap : (Try.prog).underlying 54 = some (.struct ((Try.prog).fieldsOf 54)) := by kernel_rfl
theorem held_cap : (Try.prog).stoodInHeld 74 = false := by kernel_rfl
theorem held_rcap : (Try.prog).stoodInHeld 54 = false := by kernel_rfl
theorem flds_cap : ((Try.prog).fieldsOf 74).toList.map (fun f => (f.type, f.offset, decide (f.name ≠ "_"))) = [(9, 0, true), (3, 1, true)] := by kernel_rfl
theorem flds_rcap : ((Try.prog).fieldsOf 54).toList.map (fun f => (f.type, f.offset, decide (f.name ≠ "_"))) = [(9, 0, true), (3, 1, true)] := by kernel_rfl
theorem eqFields2 (fs : List Field) (h : fs.map (fun f => (f.type, f.offset, decide (f.name ≠ "_"))) = [(9, 0, true), (3, 1, true)]) (x1 y1 : ByteArray) (x2 y2 : Int) (w : World) :
    (Op.eqFields 9999 #[.string x1, .int .i64 x2] #[.string y1, .int .i64 y2] fs).run Try.prog w = .ok (decide ((x1, x2) = (y1, y2))) w := by
  have hl : fs.length = 2 := by have := congrArg List.length h; simpa using this
  obtain ⟨f1, f2, rfl⟩ : ∃ f1 f2, fs = [f1, f2] := by
    match fs, hl with
    | [f1, f2], _ => exact ⟨f1, f2, rfl⟩
  simp only [List.map_cons, List.map_nil, List.cons.injEq, Prod.mk.injEq, and_true] at h
  obtain ⟨⟨h1, h2, h3⟩, h4, h5, h6⟩ := h
  have n1 := of_decide_eq_true h3
  have n2 := of_decide_eq_true h6
  have a1 : ∀ w, (isAgg 9).run Try.prog w = .ok false w := fun _ => by kernel_rfl
  have a2 : ∀ w, (isAgg 3).run Try.prog w = .ok false w := fun _ => by kernel_rfl
  have p1 : ∀ (a : Value) (b : Value) w, (part 9 #[a, b] 0).run Try.prog w = .ok a w := by
    intro a b w
    simp [part, Sem.run_bind, a1]
  have p2 : ∀ (a : Value) (b : Value) w, (part 3 #[a, b] 1).run Try.prog w = .ok b w := by
    intro a b w
    simp [part, Sem.run_bind, a2]
  have q1 := run_equalIn_string (P := Try.prog) w 9998 9 x1 y1 Try.underlying9
  have q2 := run_equalIn_int (P := Try.prog) w 9998 3 .i64 .i64 x2 y2 Try.underlying3
  simp only [Op.eqFields, n1, n2, h1, h2, h4, h5, ne_eq, not_false_eq_true, if_true, Sem.run_bind, p1, p2, Result.andThen_ok, q1, q2]
  rcases str_ways x1 y1 with ⟨rfl, e1, _⟩ | ⟨hne, e1, _⟩
  · rw [e1]
    simp only [Bool.not_true, Bool.false_eq_true, if_false, Sem.run_bind, p2, Result.andThen_ok, q2]
    by_cases e2 : x2 = y2
    · subst e2; simp
    · have : (x2 == y2) = false := beq_eq_false_iff_ne.2 e2
      rw [this]; simp [e2]
  · rw [e1]
    simp [hne]
theorem eqCap_run (x1 y1 : ByteArray) (x2 y2 : Int) (w : World) : (Op.equalIn 10000 74 (.agg #[.string x1, .int .i64 x2]) (.agg #[.string y1, .int .i64 y2])).run Try.prog w = .ok (decide ((x1, x2) = (y1, y2))) w := by
  rw [run_equalIn_struct w 9999 74 _ _ fld_cap held_cap]
  exact eqFields2 _ flds_cap x1 y1 x2 y2 w
theorem eqRCap_run (x1 y1 : ByteArray) (x2 y2 : Int) (w : World) : (Op.equalIn 10000 54 (.agg #[.string x1, .int .i64 x2]) (.agg #[.string y1, .int .i64 y2])).run Try.prog w = .ok (decide ((x1, x2) = (y1, y2))) w := by
  rw [run_equalIn_struct w 9999 54 _ _ fld_rcap held_rcap]
  exact eqFields2 _ flds_rcap x1 y1 x2 y2 w
end Go.Proofs.Ytcidcjghglgkhaa
