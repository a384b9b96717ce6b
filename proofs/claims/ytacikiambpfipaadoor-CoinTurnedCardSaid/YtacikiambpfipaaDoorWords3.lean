/- []byte(s): the world behind it, in my words. Own text; no program in sight. -/
import Derived.Test.YtacikiambpfipaaDoorWords
import Derived.Lib.ConvBytes
import Derived.Lib.AtoiErrMem
namespace Go.Proofs.YtacikiambpfipaaDoor
set_option linter.unusedVariables false
set_option linter.unusedSimpArgs false
open Go.RowKit

theorem bw_only (w : World) (e : TypeId) (s : ByteArray) : Only [] w (Lib.bytesWorld w e s) := Only.of_below (Lib.bytesWorld_below w e s) (Nat.le_refl _)
theorem bw_below {B : Nat} {a w : World} (h : Below B a w) (hB : B ≤ w.heap.size) (e : TypeId) (s : ByteArray) : Below B a (Lib.bytesWorld w e s) := h.trans ((Lib.bytesWorld_below w e s).mono hB)
theorem bw_own {w : World} {base : Nat} {t : TypeId} {size : Nat} {v : Value} {n : Nat} {xs : List Value} (h : w.ownsRow base t size v n xs) (e : TypeId) (s : ByteArray) : (Lib.bytesWorld w e s).ownsRow base t size v n xs :=
  (bw_only w e s).own h (by simp)
theorem bw_cells (w : World) (e : TypeId) (s : ByteArray) : ∀ j u, (cb s.data.toList)[j]? = some u → (Lib.bytesWorld w e s).cell? ((⟨w.heap.size, 0, none⟩ : Addr).add j) = some u := by
  intro j u hu
  have hj : j < s.size := by
    have := (List.getElem?_eq_some_iff.1 hu).1
    rw [cb_length] at this; simpa using this
  have e1 : (⟨w.heap.size, 0, none⟩ : Addr).add j = ⟨w.heap.size, j, none⟩ := by
    unfold Addr.add; split <;> simp_all
  rw [e1, Lib.bytesWorld_cell w e s j hj, ← hu, cb_at, List.getElem?_eq_getElem (by simpa using hj)]
  simp [List.getD, List.getElem?_eq_getElem (show j < s.data.toList.length by simpa using hj)]
theorem own_some {w : World} {base : Nat} {e : TypeId} {size n cap : Nat} {A : Option Addr} {xs : List Value} (ho : w.ownsRow base e size (.slice A n cap) n xs) (hn : 0 < n) : ∃ h, A = some ⟨h, 0, none⟩ := by
  obtain ⟨h, c, hv, _⟩ := ho.form hn
  injection hv with hv
  exact ⟨h, hv⟩
theorem own_byte {w : World} {base : Nat} {e : TypeId} {h cap j : Nat} {l : List UInt8} (ho : w.ownsRow base e 1 (.slice (some ⟨h, 0, none⟩) l.length cap) l.length (cb l)) (hj : j < l.length) : w.cell? ⟨h, j, none⟩ = some (.int .u8 (l.getD j 0).toNat) := by
  rw [ho.cellAt j (by omega), cb_at, List.getElem?_eq_getElem hj, List.getD_eq_getElem?_getD, List.getElem?_eq_getElem hj]; rfl
/-- string(b) of bytes that a value owns, nil or not. -/
theorem run_str_any {P : Program} {w : World} {src dst e : TypeId} (hs : P.underlying src = some (.slice e)) (he : P.underlying e = some (.int .u8)) (hd : P.underlying dst = some .string) {base cap : Nat} {A : Option Addr} {l : List UInt8}
    (ho : w.ownsRow base e 1 (.slice A l.length cap) l.length (cb l)) : (convert src dst (.slice A l.length cap)).run P w = .ok (.string ⟨l.toArray⟩) w := by
  rcases ho.2 with ⟨h1, h2⟩ | ⟨g', cap', cur, hv, _⟩
  · injection h1 with h1 h3 h4
    subst h1
    have hl : l = [] := List.eq_nil_of_length_eq_zero h2
    subst hl
    subst h4
    rw [run_convert_bytes_string w src dst e none _ 0 hs he hd]
    rfl
  · injection hv with hv
    subst hv
    exact run_str_own hs he hd ho
end Go.Proofs.YtacikiambpfipaaDoor
