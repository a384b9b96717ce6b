/- hatchwaylaw32.Of. -/
import Derived.Test.YtcidcjghglgkhaaCapConv
import Derived.Deep.RegionHeld3
namespace Go.Proofs.Ytcidcjghglgkhaa
set_option linter.unusedVariables false
set_option linter.unusedSimpArgs false
open Go.RowKit

/-- A hello as the program has it: new. -/
def OfEnd (least most : Int) (l : List Cp) (w : World) (e : Ending) (w' : World) : Prop := Below w.heap.size w w' ∧ ∃ v, e = .returned (.agg #[.int .i64 least, .int .i64 most, v]) ∧ CpR w' w'.heap.size v l
theorem helRet {R : Ending → World → Prop} {tmps : Array Value} {V : World} {g : Nat} (a b c : Value) (hp : tmps.getD 2 undef = .pointer (some ⟨g, 0, none⟩)) (hB : Blk V g 43 #[a, b, c])
    (hR : R (.returned (.agg #[a, b, c])) V) : bodyPost Try.prog Try.f24 R .ret { tmps := tmps, defers := [] } V := by
  obtain ⟨r0, r1, r2, _⟩ := blk3 hB
  simp only [Array.getD_eq_getD_getElem?] at hp
  exact bodyPost_ret (v := .agg #[a, b, c]) (by simp [results, Try.results24, go_sem, hp, r0, r1, r2]) rfl hR
theorem cell3b {w : World} {g : Nat} {t : TypeId} {a b c a' b' c' : Value} (h : Blk w g t #[a, b, c]) : Blk (((w.setCell ⟨g, 0, none⟩ a').setCell ⟨g, 1, none⟩ b').setCell ⟨g, 2, none⟩ c') g t #[a', b', c'] := ((h.set 0 a').set 1 b').set 2 c'
theorem own_mono {w : World} {base base' : Nat} {E : TypeId} {sz : Nat} {v : Value} {n : Nat} {xs : List Value} (h : w.ownsRow base E sz v n xs) (hb : base' ≤ base) : w.ownsRow base' E sz v n xs := by
  refine ⟨h.1, ?_⟩
  rcases h.2 with h2 | ⟨g, cap, cur, hv, hg, r⟩
  · exact .inl h2
  · exact .inr ⟨g, cap, cur, hv, by omega, r⟩
set_option maxRecDepth 100000 in
set_option maxHeartbeats 1600000 in
theorem of_c (least most : Int) (l : List Cp) (v : Value) (B : Nat) (w : World) (h : CpR w B v l) (hB : B ≤ w.heap.size) (hl : l.length ≤ 1000) :
    Calls Try.prog 24 #[.agg #[.int .i64 least, .int .i64 most, v]] w (OfEnd least most l w) := by
  obtain ⟨A, n, cap, rfl, hn, hnc, hcm⟩ := h.form'
  obtain ⟨W0, hW0⟩ : ∃ W0, (w.alloc (.cells #[.int .i64 least, .int .i64 most, .slice A n cap] 34)).alloc (.cells #[.int .i64 0, .int .i64 0, .slice none 0 0] 43) = W0 := ⟨_, rfl⟩
  have HW0 : Hid (Below w.heap.size w W0) := Lib.hid (by rw [← hW0]; exact ((Below.refl _ w).alloc (Nat.le_refl _) _).alloc (by simp) _)
  have HZ0 : Hid (W0.heap.size = w.heap.size + 2) := Lib.hid (by rw [← hW0]; simp)
  have HK0 : Hid (Blk W0 w.heap.size 34 #[.int .i64 least, .int .i64 most, .slice A n cap]) := Lib.hid (by rw [← hW0]; exact (Blk.new w _ _).alloc _)
  have HK1 : Hid (Blk W0 (w.heap.size + 1) 43 #[.int .i64 0, .int .i64 0, .slice none 0 0]) := Lib.hid (by
    rw [← hW0]
    have := Blk.new (w.alloc (.cells #[.int .i64 least, .int .i64 most, .slice A n cap] 34)) 43 #[.int .i64 0, .int .i64 0, .slice none 0 0]
    rw [World.size_alloc] at this
    exact this)
  have HR0 : Hid (CpR W0 B (.slice A n cap) l) := Lib.hid (h.below (HW0.out.mono hB))
  have HWW := Lib.hid hW0
  have FX : Hid (∀ V, Below (w.heap.size + 2) W0 V → V.cell? ⟨w.heap.size, 0, none⟩ = some (.int .i64 least) ∧ V.cell? ⟨w.heap.size, 1, none⟩ = some (.int .i64 most) ∧ V.cell? ⟨w.heap.size, 2, none⟩ = some (.slice A n cap) ∧ V.cell? ⟨w.heap.size + 1, 0, none⟩ = some (.int .i64 0) ∧ V.cell? ⟨w.heap.size + 1, 1, none⟩ = some (.int .i64 0) ∧ V.cell? ⟨w.heap.size + 1, 2, none⟩ = some (.slice none 0 0) ∧ V.frozen? ⟨w.heap.size + 1, 0, none⟩ = false ∧ V.frozen? ⟨w.heap.size + 1, 1, none⟩ = false ∧ V.frozen? ⟨w.heap.size + 1, 2, none⟩ = false ∧ Below (w.heap.size + 2) W0 V) := Lib.hid (fun V hV => by
    obtain ⟨a0, a1, a2, _⟩ := blk3 (HK0.out.keep hV (by omega))
    obtain ⟨b0, b1, b2, b3, b4, b5⟩ := blk3 (HK1.out.keep hV (by omega))
    exact ⟨a0, a1, a2, b0, b1, b2, b3, b4, b5, hV⟩)
  have HC : Hid (∀ V, Below (w.heap.size + 2) W0 V → Calls Try.prog 58 #[.slice A n cap] V fun e w' => ∃ A1 n1 c1, e = .returned (.slice A1 n1 c1) ∧ (Hid (w'.ownsRow (w.heap.size + 2) 74 2 (.slice A1 n1 c1) l.length (cc l)) ∧ Below (w.heap.size + 2) W0 w')) := Lib.hid (fun V hV => by
    have hz := HZ0.out
    have hVz := hV.size
    refine (caps_c l _ B V (HR0.out.below (hV.mono (by omega))) (by omega) hl).mono ?_
    rintro e w' ⟨hb, v, rfl, ho⟩
    obtain ⟨A1, c1, rfl, _⟩ := own_form' ho
    exact ⟨A1, _, c1, rfl, Lib.hid (own_mono ho (by omega)), hV.trans (hb.mono (by omega))⟩)
  have hV5 : Below (w.heap.size + 2) W0 W0 := Below.refl _ _
  obtain ⟨a0, a1, a2, _⟩ := FX.out W0 hV5
  clear hW0 h
  go_enter Try.func24, Try.ntmps24
  go_wp2_with fail
  rw [HWW.out]
  go_region_law (first
    | (go_simp; go_at_call 58; refine (HC.out _ (by first | exact hV5 | exact hV5.drew)).mono ?_; rintro e w' ⟨A1, n1, c1, rfl, HCR, hv⟩; obtain ⟨x0, x1, x2, x3, x4, x5, x6, x7, x8, _⟩ := FX.out w' hv))
  all_goals
    have HFB : Hid (Below w.heap.size w w') := Lib.hid (HW0.out.trans (hv.mono (by omega)))
    have HKB : Hid (Blk w' (w.heap.size + 1) 43 #[.int .i64 0, .int .i64 0, .slice none 0 0]) := Lib.hid (HK1.out.keep hv (by omega))
    have hzw : w.heap.size + 2 ≤ w'.heap.size := by have := hv.size; have := HZ0.out; omega
    clear hv
    go_wp2
    refine helRet _ _ _ (g := w.heap.size + 1) rfl (cell3b HKB.out) ⟨((HFB.out.setCell (p := ⟨w.heap.size + 1, 0, none⟩) (by simp) _).setCell (p := ⟨w.heap.size + 1, 1, none⟩) (by simp) _).setCell (p := ⟨w.heap.size + 1, 2, none⟩) (by simp) _, _, rfl, ?_⟩
    refine CpR.of_own (own_block HCR.out (fun j hj _ => ?_))
    exact (Below.heap_setCell _ _ _ _ (by show j ≠ w.heap.size + 1; omega)).trans ((Below.heap_setCell _ _ _ _ (by show j ≠ w.heap.size + 1; omega)).trans (Below.heap_setCell _ _ _ _ (by show j ≠ w.heap.size + 1; omega)))
end Go.Proofs.Ytcidcjghglgkhaa
