/- make([]byte, m, n): a Buf of m noughts with room. Own law; no program in sight. -/
import Derived.Test.YtacikiambpfipaaDoorBuf
import Derived.Deep.OwnRows
namespace Go.Proofs.YtacikiambpfipaaDoor
set_option linter.unusedVariables false
set_option linter.unusedSimpArgs false
open Go.RowKit

theorem made_list (n : Nat) : (madeCells #[Value.int .u8 0] n).toList = cb (List.replicate n 0) := by
  have := made_bytes n
  rw [Nat.mul_one] at this
  exact this
theorem made_size (n : Nat) : (madeCells #[Value.int .u8 0] n).size = n := by
  have := congrArg List.length (made_list n)
  rw [cb_length, List.length_replicate] at this
  simpa using this
theorem wpList_make_buf {P : Program} (w : World) {ops : Array Oper} {rest : List Oper} {o : Oper} {a : Act} {Q : Exit → Act → World → Prop}
    (hg : o.guard = none) (l c : Operand) (t : TypeId) (hop : o.op = Op.makeSlice t l c)
    (base : Nat) (e : TypeId) (i : TypeInfo) (ht : P.underlying t = some (.slice e)) (hi : P.info? e = some i) (hz : i.zero = some (.int .u8 0)) (hsize : i.size = 1) (hby : i.bytes = 1)
    (kl kc : IntKind) (m n : Nat) (hl : a.eval l = .int kl (m : Int)) (hc : a.eval c = .int kc (n : Int)) (hmn : m ≤ n) (hbytes : n ≤ 281474976710656) (hb : base ≤ w.heap.size)
    (hK : ∀ w', Buf w' base e (.slice (some ⟨w.heap.size, 0, none⟩) m n) (List.replicate m 0) → Kept e base w w' → Below w.heap.size w w' → wpList P ops Q rest (a.put o.dst (.slice (some ⟨w.heap.size, 0, none⟩) m n)) w') :
    wpList P ops Q (o :: rest) a w := by
  refine wpList_plain hg fun K hK' => ?_
  have hr := run_make (P := P) w t e i (.int .u8 0) ht hi hz kl kc m n (by omega) (by omega) (by rw [hby]; omega) (by omega)
  simp only [Int.toNat_natCast, hsize, Nat.mul_one] at hr
  have hbuf : Buf (w.alloc (.cells (madeCells #[Value.int .u8 0] n) e)) base e (.slice (some ⟨w.heap.size, 0, none⟩) m n) (List.replicate m 0) := by
    refine ⟨some ⟨w.heap.size, 0, none⟩, n, by rw [List.length_replicate], by rw [List.length_replicate]; exact hmn, by omega, .inr ⟨w.heap.size, madeCells #[Value.int .u8 0] n, (0, 0), rfl, hb, heap_alloc_new w _, made_size n, ?_, .inl rfl⟩⟩
    rw [List.length_replicate, made_list, ← cb_take, List.take_replicate, Nat.min_eq_left hmn]
  have hbl : Below w.heap.size w (w.alloc (.cells (madeCells #[Value.int .u8 0] n) e)) := (Below.refl _ w).alloc (Nat.le_refl _) _
  unfold Oper.wp
  simp [execOp, hop, hl, hc, hr, Result.andThen]
  exact hK' _ _ (hK _ hbuf (Kept.of_below hbl (Nat.le_refl _) hb) hbl)
end Go.Proofs.YtacikiambpfipaaDoor
