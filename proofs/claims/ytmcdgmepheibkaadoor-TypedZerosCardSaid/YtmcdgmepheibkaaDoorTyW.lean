/- Types in memory: four cells (kind, size, the slice of the types within, tail). Own text; no program in sight. -/
import Derived.Test.YtmcdgmepheibkaaDoorWords
import Derived.Test.YtmcdgmepheibkaaDoorTyP
import Derived.Test.YtmcdgmepheibkaaDoorItemW
namespace Go.Proofs.YtmcdgmepheibkaaDoor
set_option linter.unusedVariables false
set_option linter.unusedSimpArgs false
open Go.RowKit

def okI (i : Int) : Prop := -9223372036854775808 ≤ i ∧ i ≤ 9223372036854775807

mutual
/-- The four cells are the type x, whose lists lie below block B. -/
def TyIn (w : World) (B : Nat) : Ty → Value → Value → Value → Value → Prop
  | .mk k s l t, c0, c1, c2, c3 => c0 = .int .i64 k ∧ c1 = .int .i64 s ∧ c3 = .int .i64 t ∧ okI k ∧ okI s ∧ okI t ∧ l.length ≤ 9223372036854775807 ∧ ∃ A cap, c2 = .slice A l.length cap ∧ l.length ≤ cap ∧ cap ≤ 9223372036854775807 ∧ TysIn w B l A 0
/-- From place i on the slice at A holds these types. -/
def TysIn (w : World) (B : Nat) : List Ty → Option Addr → Nat → Prop
  | [], _, _ => True
  | x :: xs, A, i => (∃ b o c0 c1 c2 c3, A = some ⟨b, o, none⟩ ∧ b < B ∧ w.cell? ⟨b, o + i * 4, none⟩ = some c0 ∧ w.cell? ⟨b, o + i * 4 + 1, none⟩ = some c1 ∧ w.cell? ⟨b, o + i * 4 + 2, none⟩ = some c2 ∧ w.cell? ⟨b, o + i * 4 + 3, none⟩ = some c3 ∧ TyIn w B x c0 c1 c2 c3) ∧ TysIn w B xs A (i + 1)
end
theorem TysIn.at_ {w : World} {B : Nat} {A : Option Addr} : ∀ {s : List Ty} {i : Nat}, TysIn w B s A i → ∀ (j : Nat) (h : j < s.length), ∃ b o c0 c1 c2 c3, A = some ⟨b, o, none⟩ ∧ b < B ∧ w.cell? ⟨b, o + (i + j) * 4, none⟩ = some c0 ∧ w.cell? ⟨b, o + (i + j) * 4 + 1, none⟩ = some c1 ∧ w.cell? ⟨b, o + (i + j) * 4 + 2, none⟩ = some c2 ∧ w.cell? ⟨b, o + (i + j) * 4 + 3, none⟩ = some c3 ∧ TyIn w B s[j] c0 c1 c2 c3
  | [], _, _, j, h => by simp at h
  | x :: xs, i, hi, 0, _ => by simpa [TysIn] using hi.1
  | x :: xs, i, hi, j + 1, h => by
    have := TysIn.at_ hi.2 j (by simpa using h)
    rw [show i + 1 + j = i + (j + 1) from by omega] at this
    simpa using this
theorem TysIn.mk_ {w : World} {B : Nat} {A : Option Addr} : ∀ {s : List Ty} {i : Nat}, (∀ (j : Nat) (h : j < s.length), ∃ b o c0 c1 c2 c3, A = some ⟨b, o, none⟩ ∧ b < B ∧ w.cell? ⟨b, o + (i + j) * 4, none⟩ = some c0 ∧ w.cell? ⟨b, o + (i + j) * 4 + 1, none⟩ = some c1 ∧ w.cell? ⟨b, o + (i + j) * 4 + 2, none⟩ = some c2 ∧ w.cell? ⟨b, o + (i + j) * 4 + 3, none⟩ = some c3 ∧ TyIn w B s[j] c0 c1 c2 c3) → TysIn w B s A i
  | [], _, _ => by simp [TysIn]
  | x :: xs, i, h => by
    refine ⟨h 0 (Nat.zero_lt_succ _), TysIn.mk_ fun j hj => ?_⟩
    have := h (j + 1) (by simpa using hj)
    rw [show i + (j + 1) = i + 1 + j from by omega] at this
    simpa using this
/-- What the four cells of a type look like. -/
theorem TyIn.open_ {w : World} {B : Nat} {x : Ty} {c0 c1 c2 c3 : Value} (h : TyIn w B x c0 c1 c2 c3) : ∃ A cap, c0 = .int .i64 x.kind ∧ c1 = .int .i64 x.size ∧ c2 = .slice A x.sub.length cap ∧ c3 = .int .i64 x.tail ∧ okI x.kind ∧ okI x.size ∧ okI x.tail ∧ x.sub.length ≤ cap ∧ cap ≤ 9223372036854775807 ∧ TysIn w B x.sub A 0 := by
  cases x with
  | mk k s l t =>
    obtain ⟨h0, h1, h3, hk, hs, ht, hl, A, cap, h2, hc, hm, h4⟩ := h
    exact ⟨A, cap, h0, h1, h2, h3, hk, hs, ht, hc, hm, h4⟩
theorem TyIn.keep {w w' : World} {B B' : Nat} (hB : B ≤ B') (hk : ∀ p : Addr, p.block < B → w'.cell? p = w.cell? p) : ∀ (x : Ty) {c0 c1 c2 c3 : Value}, TyIn w B x c0 c1 c2 c3 → TyIn w' B' x c0 c1 c2 c3 := by
  intro x
  induction x using Ty.ind with
  | h k s l t ih =>
    intro c0 c1 c2 c3 h
    obtain ⟨h0, h1, h3, hk', hs, ht, hl, A, cap, h2, hc, hm, h4⟩ := h
    refine ⟨h0, h1, h3, hk', hs, ht, hl, A, cap, h2, hc, hm, TysIn.mk_ fun j hj => ?_⟩
    obtain ⟨b, o, d0, d1, d2, d3, hA, hb, e0, e1, e2, e3, hi⟩ := h4.at_ j hj
    exact ⟨b, o, d0, d1, d2, d3, hA, by omega, (hk _ hb).trans e0, (hk _ hb).trans e1, (hk _ hb).trans e2, (hk _ hb).trans e3, ih _ (List.getElem_mem hj) hi⟩
theorem TyIn.below {w w' : World} {B : Nat} {x : Ty} {c0 c1 c2 c3 : Value} (h : TyIn w B x c0 c1 c2 c3) (hb : Below B w w') : TyIn w' B x c0 c1 c2 c3 := TyIn.keep (Nat.le_refl _) (fun _ hp => hb.cell hp) x h
theorem TyIn.mono {w : World} {B B' : Nat} {x : Ty} {c0 c1 c2 c3 : Value} (h : TyIn w B x c0 c1 c2 c3) (hB : B ≤ B') : TyIn w B' x c0 c1 c2 c3 := TyIn.keep hB (fun _ _ => rfl) x h
theorem TysIn.keep {w w' : World} {B B' : Nat} (hB : B ≤ B') (hk : ∀ p : Addr, p.block < B → w'.cell? p = w.cell? p) {s : List Ty} {A : Option Addr} {i : Nat} (h : TysIn w B s A i) : TysIn w' B' s A i := TysIn.mk_ fun j hj => by
  obtain ⟨b, o, d0, d1, d2, d3, hA, hlt, e0, e1, e2, e3, hi⟩ := h.at_ j hj
  exact ⟨b, o, d0, d1, d2, d3, hA, by omega, (hk _ hlt).trans e0, (hk _ hlt).trans e1, (hk _ hlt).trans e2, (hk _ hlt).trans e3, hi.keep hB hk⟩
theorem TysIn.below {w w' : World} {B i : Nat} {s : List Ty} {A : Option Addr} (h : TysIn w B s A i) (hb : Below B w w') : TysIn w' B s A i := h.keep (Nat.le_refl _) (fun _ hp => hb.cell hp)
/-- A block of four cells that is known whole. -/
theorem blk4 {w : World} {g : Nat} {t : TypeId} {a b c d : Value} (h : Blk w g t #[a, b, c, d]) : w.cell? ⟨g, 0, none⟩ = some a ∧ w.cell? ⟨g, 1, none⟩ = some b ∧ w.cell? ⟨g, 2, none⟩ = some c ∧ w.cell? ⟨g, 3, none⟩ = some d ∧ w.frozen? ⟨g, 0, none⟩ = false ∧ w.frozen? ⟨g, 1, none⟩ = false ∧ w.frozen? ⟨g, 2, none⟩ = false ∧ w.frozen? ⟨g, 3, none⟩ = false :=
  ⟨h.cell 0, h.cell 1, h.cell 2, h.cell 3, h.frozen 0, h.frozen 1, h.frozen 2, h.frozen 3⟩
/-- The box of a call's argument, behind a call that changed nothing below. -/
theorem box4 {w w' : World} {t : TypeId} {a b c d : Value} (hb : Below (w.heap.size + 1) (w.alloc (.cells #[a, b, c, d] t)) w') : w'.cell? ⟨w.heap.size, 0, none⟩ = some a ∧ w'.cell? ⟨w.heap.size, 1, none⟩ = some b ∧ w'.cell? ⟨w.heap.size, 2, none⟩ = some c ∧ w'.cell? ⟨w.heap.size, 3, none⟩ = some d := by
  have h0 := Blk.new w t #[a, b, c, d]
  have h : Blk w' w.heap.size t #[a, b, c, d] := (hb.block _ (by omega)).trans h0
  exact ⟨h.cell 0, h.cell 1, h.cell 2, h.cell 3⟩
end Go.Proofs.YtmcdgmepheibkaaDoor
