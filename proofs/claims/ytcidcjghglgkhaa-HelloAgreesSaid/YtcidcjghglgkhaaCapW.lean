/- Slices of capabilities in memory. -/
import Derived.Test.YtcidcjghglgkhaaCap
namespace Go.Proofs.Ytcidcjghglgkhaa
set_option linter.unusedVariables false
set_option linter.unusedSimpArgs false
open Go.RowKit

def cc (l : List Cp) : List Value := l.flatMap fun c => [.string c.1, .int .i64 c.2]
theorem cc_append (a b : List Cp) : cc (a ++ b) = cc a ++ cc b := by simp [cc]
theorem cc_one (c : Cp) : cc [c] = [.string c.1, .int .i64 c.2] := by simp [cc]
theorem cc_at : ∀ (l : List Cp) (j : Nat) (h : j < l.length), (cc l)[j * 2]? = some (.string l[j].1) ∧ (cc l)[j * 2 + 1]? = some (.int .i64 l[j].2)
  | [], j, h => by simp at h
  | c :: l, 0, _ => by simp [cc]
  | c :: l, j + 1, h => by
    have := cc_at l j (by simpa using h)
    have e : cc (c :: l) = .string c.1 :: .int .i64 c.2 :: cc l := by simp [cc]
    rw [e, show (j + 1) * 2 = j * 2 + 2 from by omega]
    simpa using this
/-- The value is a slice that reads as these capabilities, in blocks below B. -/
def CpR (w : World) (B : Nat) (v : Value) (l : List Cp) : Prop := ∃ A cap, v = .slice A l.length cap ∧ l.length ≤ cap ∧ cap ≤ 9223372036854775807 ∧ ∀ j (h : j < l.length), ∃ g o, A = some ⟨g, o, none⟩ ∧ g < B ∧ w.cell? ⟨g, o + j * 2, none⟩ = some (.string l[j].1) ∧ w.cell? ⟨g, o + j * 2 + 1, none⟩ = some (.int .i64 l[j].2)
theorem CpR.keep {w w' : World} {B B' : Nat} {v : Value} {l : List Cp} (h : CpR w B v l) (hB : B ≤ B') (hk : ∀ p : Addr, p.block < B → w'.cell? p = w.cell? p) : CpR w' B' v l := by
  obtain ⟨A, cap, h1, h2, h3, h4⟩ := h
  refine ⟨A, cap, h1, h2, h3, fun j hj => ?_⟩
  obtain ⟨g, o, hA, hg, e0, e1⟩ := h4 j hj
  exact ⟨g, o, hA, by omega, (hk _ hg).trans e0, (hk _ hg).trans e1⟩
theorem CpR.below {w w' : World} {B : Nat} {v : Value} {l : List Cp} (h : CpR w B v l) (hb : Below B w w') : CpR w' B v l := h.keep (Nat.le_refl _) (fun _ hp => hb.cell hp)
theorem CpR.mono {w : World} {B B' : Nat} {v : Value} {l : List Cp} (h : CpR w B v l) (hB : B ≤ B') : CpR w B' v l := h.keep hB (fun _ _ => rfl)
theorem CpR.form' {w : World} {B : Nat} {v : Value} {l : List Cp} (h : CpR w B v l) : ∃ A n cap, v = .slice A n cap ∧ Hid (n = l.length) ∧ n ≤ cap ∧ cap ≤ 9223372036854775807 := by
  obtain ⟨A, cap, h1, h2, h3, _⟩ := h
  exact ⟨A, _, cap, h1, Lib.hid rfl, h2, h3⟩
theorem CpR.at_ {w : World} {B : Nat} {A : Option Addr} {n cap : Nat} {l : List Cp} (h : CpR w B (.slice A n cap) l) {j : Nat} (hj : j < l.length) : ∃ g o, A = some ⟨g, o, none⟩ ∧ g < B ∧ w.cell? ⟨g, o + j * 2, none⟩ = some (.string l[j].1) ∧ w.cell? ⟨g, o + j * 2 + 1, none⟩ = some (.int .i64 l[j].2) := by
  obtain ⟨A', cap', h1, h2, h3, h4⟩ := h
  injection h1 with hA _ _
  subst hA
  exact h4 j hj
theorem CpR.nil (w : World) (B : Nat) : CpR w B (.slice none 0 0) [] := ⟨none, 0, rfl, by simp, by simp, fun j hj => by simp at hj⟩
theorem CpR.of_own {w : World} {lo : Nat} {E : TypeId} {v : Value} {l : List Cp} (h : w.ownsRow lo E 2 v l.length (cc l)) : CpR w w.heap.size v l := by
  obtain ⟨h1, h2⟩ := h
  rcases h2 with ⟨h2, h3⟩ | ⟨g, cap, cur, hv, hg, hh, hn, hm, hs, ht⟩
  · obtain rfl : l = [] := List.eq_nil_of_length_eq_zero h3
    rw [h2]; exact CpR.nil _ _
  · refine ⟨_, cap, hv, hn, by simpa [maxLen] using hm, fun j hj => ?_⟩
    have hc := cc_at l j hj
    have key : ∀ i u, (cc l)[i]? = some u → w.cell? ⟨g, i, none⟩ = some u := by
      intro i u hu
      have hlt : i < l.length * 2 := by
        have := (List.getElem?_eq_some_iff.1 hu).1
        rw [h1] at this; exact this
      rw [← ht, List.getElem?_take_of_lt (by omega)] at hu
      simp only [World.cell?, hh]
      simpa using hu
    exact ⟨g, 0, rfl, lt_of_block hh, by rw [Nat.zero_add]; exact key _ _ hc.1, by rw [Nat.zero_add]; exact key _ _ hc.2⟩
/-- The names are no longer than strings are. -/
def NmOk (l : List Cp) : Prop := ∀ c ∈ l, c.1.size ≤ 9223372036854775807
theorem okAt_at {l : List Cp} {k : Nat} (h : k < l.length) : okAt l k = (nmMay l[k].1 && (decide (1 ≤ l[k].2) && (decide (l[k].2 ≤ 255) && (decide (k = 0) || cpLt (l.getD (k - 1) (⟨#[]⟩, 0)) l[k])))) := by
  have e : l.getD k (⟨#[]⟩, 0) = l[k] := by rw [List.getD_eq_getElem?_getD, List.getElem?_eq_getElem h]; rfl
  unfold okAt
  rw [e]
end Go.Proofs.Ytcidcjghglgkhaa
