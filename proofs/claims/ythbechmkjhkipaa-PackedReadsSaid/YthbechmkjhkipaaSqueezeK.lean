/- The keys of the map of places. -/
import Derived.Test.YthbechmkjhkipaaSqueezeR
import Derived.Test.YthbechmkjhkipaaSqueezeMP
import Derived.Maps.OwnSet
import Derived.Maps.OwnOps
import Derived.Maps.Views
import Derived.DeepKeys5
namespace Go.Proofs.Ythbechmkjhkipaa
set_option linter.unusedVariables false
set_option linter.unusedSimpArgs false
open Go.RowKit Go.Maps

theorem laidOut : laidOutB Try.prog = true := by kernel_rfl
theorem keyLaw : Keyed Try.prog 54 := Keyed.of_law (deep_law_gate laidOut (of_decide_eq_true (by kernel_rfl)) (of_decide_eq_true (by kernel_rfl)) (by kernel_rfl) (by kernel_rfl))
theorem zeroInt (w : World) : (zeroValue 3).run Try.prog w = .ok (.int .i64 0) w := by kernel_rfl
theorem key4 (a b c d : UInt8) : ∃ l, keyOf Try.prog 54 (.agg #[.int .u8 a.toNat, .int .u8 b.toNat, .int .u8 c.toNat, .int .u8 d.toNat]) = some l := by
  have hwf : ∀ x : UInt8, (Lit.int .u8 (x.toNat : Int)).wf = true := by
    intro x
    have := x.toNat_lt
    simp [Lit.wf, IntKind.min, IntKind.max, IntKind.signed, IntKind.bits]
    omega
  have hk : (Try.prog.keyType 54) = true := by kernel_rfl
  have hc : Try.prog.cellsOf 54 = 4 := by kernel_rfl
  have hc1 : Try.prog.cellsOf 5 = 1 := by kernel_rfl
  obtain ⟨m, hm⟩ : ∃ m, Try.prog.types.size + 1 = m + 2 := ⟨Try.prog.types.size - 1, by have : 1 ≤ Try.prog.types.size := of_decide_eq_true (by kernel_rfl); omega⟩
  refine ⟨.string (keyBytes [.int .u8 a.toNat, .int .u8 b.toNat, .int .u8 c.toNat, .int .u8 d.toNat]), ?_⟩
  have h4 : List.range 4 = [0, 1, 2, 3] := rfl
  have hf : Value.formed Try.prog 54 (.agg #[.int .u8 a.toNat, .int .u8 b.toNat, .int .u8 c.toNat, .int .u8 d.toNat]) = true := by
    simp [Value.formed, Try.underlying54, hc]
  have hl : Try.prog.keyLits (m + 2) 54 [.int .u8 a.toNat, .int .u8 b.toNat, .int .u8 c.toNat, .int .u8 d.toNat] = some [.int .u8 a.toNat, .int .u8 b.toNat, .int .u8 c.toNat, .int .u8 d.toNat] := by
    simp [Program.keyLits, Try.underlying54, Try.underlying5, hc, hc1, h4, hwf]
  simp only [keyOf, Try.underlying54, hk, hf, hm]
  have : (Value.agg #[.int .u8 a.toNat, .int .u8 b.toNat, .int .u8 c.toNat, .int .u8 d.toNat]).cells.toList = [.int .u8 a.toNat, .int .u8 b.toNat, .int .u8 c.toNat, .int .u8 d.toNat] := rfl
  rw [this, hl]
  rfl

/-- The four bytes at a place, as the map's key. -/
def gv (L : List UInt8) (i : Nat) : Value := .agg #[.int .u8 (L.getD i 0).toNat, .int .u8 (L.getD (i + 1) 0).toNat, .int .u8 (L.getD (i + 2) 0).toNat, .int .u8 (L.getD (i + 3) 0).toNat]
theorem gv_key (L : List UInt8) (i : Nat) : ∃ l, keyOf Try.prog 54 (gv L i) = some l := key4 _ _ _ _
noncomputable def gl (L : List UInt8) (i : Nat) : Lit := (gv_key L i).choose
theorem gl_key (L : List UInt8) (i : Nat) : keyOf Try.prog 54 (gv L i) = some (gl L i) := (gv_key L i).choose_spec
theorem getD_at (L : List UInt8) (a b : Nat) (ha : a < L.length) (hb : b < L.length) : (L.getD a 0).toNat = (L.getD b 0).toNat ↔ L[a]? = L[b]? := by
  rw [List.getD_eq_getElem?_getD, List.getD_eq_getElem?_getD, List.getElem?_eq_getElem ha, List.getElem?_eq_getElem hb]
  simp [UInt8.toNat_inj]
theorem gl_eq (L : List UInt8) (a b : Nat) (ha : a + 4 ≤ L.length) (hb : b + 4 ≤ L.length) : gl L a = gl L b ↔ gramEq L a b := by
  constructor
  · intro h
    have h1 := gl_key L a
    rw [h] at h1
    have h2 := keyLaw.inj h1 (gl_key L b)
    unfold gv at h2
    injection h2 with h2
    simp only [Array.mk.injEq, List.cons.injEq, Value.int.injEq, true_and, and_true, Int.natCast_inj] at h2
    exact ⟨(getD_at L _ _ (by omega) (by omega)).1 h2.1, (getD_at L _ _ (by omega) (by omega)).1 h2.2.1, (getD_at L _ _ (by omega) (by omega)).1 h2.2.2.1, (getD_at L _ _ (by omega) (by omega)).1 h2.2.2.2⟩
  · intro h
    have e : gv L a = gv L b := by
      unfold gv
      rw [(getD_at L _ _ (by omega) (by omega)).2 h.1, (getD_at L _ _ (by omega) (by omega)).2 h.2.1, (getD_at L _ _ (by omega) (by omega)).2 h.2.2.1, (getD_at L _ _ (by omega) (by omega)).2 h.2.2.2]
    have h1 := gl_key L a
    rw [e, gl_key L b] at h1
    injection h1 with h1
    exact h1.symm
/-- What the map tells of the places ahead of n. -/
def MI (L : List UInt8) (D : DataW Unit) (n : Nat) : Prop := IsMap D ∧ ∀ a, a + 4 ≤ L.length →
  (∀ j, lastG L a n = some j → Maps.has D (gl L a) = true ∧ D.atKey (gl L a) (.lit (.int .i64 0)) = .lit (.int .i64 j)) ∧ (lastG L a n = none → Maps.has D (gl L a) = false)
theorem MI.start (L : List UInt8) : MI L (.map []) 0 := ⟨⟨[], rfl⟩, fun a _ => ⟨fun j h => by simp [lastG] at h, fun _ => rfl⟩⟩
theorem MI.skip {L : List UInt8} {D : DataW Unit} {n : Nat} (h : MI L D n) (hn : ¬ n + 4 ≤ L.length) : MI L D (n + 1) := by
  refine ⟨h.1, fun a ha => ?_⟩
  rw [lastG_other L a n (fun hh => hn hh.1)]
  exact h.2 a ha
theorem MI.put {L : List UInt8} {D : DataW Unit} {n : Nat} (h : MI L D n) (hn : n + 4 ≤ L.length) : MI L (D.put (gl L n) (.lit (.int .i64 n))) (n + 1) := by
  have hk : WideAt.IsKeyLit (gl L n) := keyLaw.key (gl_key L n)
  refine ⟨h.1.put _ _, fun a ha => ?_⟩
  by_cases hg : gramEq L n a
  · have e : gl L a = gl L n := ((gl_eq L n a hn ha).2 hg).symm
    rw [lastG_self L a n hn hg, e]
    refine ⟨fun j hj => ?_, fun hh => by cases hh⟩
    injection hj with hj
    subst hj
    exact ⟨has_put_same h.1 hk _, atKey_put_same h.1 hk _ _⟩
  · rw [lastG_other L a n (fun hh => hg hh.2)]
    have hne : gl L a ≠ gl L n := fun e => hg ((gl_eq L n a hn ha).1 e.symm)
    rw [has_put_other hne, atKey_put_other hne]
    exact h.2 a ha
end Go.Proofs.Ythbechmkjhkipaa
