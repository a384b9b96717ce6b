/- OWN LAW: a range over an iterator that, when it ends, stores one word into a box of the caller's ('*fault = e; return'), and whose body always goes on. No program in sight. -/
import Derived.RangeFuncWrites
import Derived.RangeFuncCalls
namespace Go.Proofs.YtebllmpdlapefaaGreatDoor
set_option linter.unusedVariables false
set_option linter.unusedSimpArgs false
open Go Go.RowKit

/-- Such an iterator's contract: behind the last round it has turned the box ff alone. -/
def SeqTells {α : Type} (F : Fence) (n : Nat) (P : Program) (g : Nat) (lb : Array Value) (encs : α → Array Value) (Kp : World → World → Prop) (ff : Nat) (S : List α → Value → Prop) (G : List α → α → Prop) (w : World) : Prop :=
  ∀ (l : Nat) (J : List α → World → Prop) (W : World), Below w.heap.size w W → AbidesFrom W.heap.size J →
    (∀ pre x W1, J pre W1 → G pre x → YieldAt F (n - 1) P l (encs x) W1 fun e W' => e = .returned (.bool true) ∧ J (pre ++ [x]) W' ∧ Kp W1 W') →
    J [] W →
    CallsIn F n P g (#[.func (.yield l) #[] #[]] ++ lb) W fun e W' => (∃ v, e = .returned v) ∧ ∃ xs V u, S xs u ∧ J xs V ∧ W' = V.setCell ⟨ff, 0, none⟩ u
/-- How a round's body is left: it goes on. -/
def goesOn {α : Type} (Kp : World → World → Prop) (I : List α → World → Prop) (xs : List α) (W : World) : Exit → Act → World → Prop
  | .normal, _, W' => KeepsOthers W W' ∧ Kp W W' ∧ I xs W'
  | _, _, _ => False
theorem wpIn_rangeFunc_tells {F : Fence} {n : Nat} {P : Program} {α : Type} {g : Operand} {ps : Array Tmp} {assign body : Code} {Q : Exit → Act → World → Prop} {a : Act} {w : World}
    (hro : F.round = none) (h1 : 1 ≤ n) {gf : Nat} {lb : Array Value} (hg : a.eval g = .func (.func gf) #[] lb) (hFg : F.fn gf) (eg : ∀ args w, (callFunc gf args).run P w = .ok (.enter gf args) w)
    {encs : α → Array Value} {Kp : World → World → Prop} {ff : Nat} {S : List α → Value → Prop} {G : List α → α → Prop} {w0 : World} (hseq : SeqTells F (n - 1) P gf lb encs Kp ff S G w0)
    (hKt : ∀ {A B C : World}, Kp A B → Kp B C → Kp A C) (hKb : ∀ (W : World) (l : Nat) (o o' : Obj), w.heap.size ≤ l → W.heap[l]? = some o → o.isCells = false → o.isWalk = false → Kp W (W.putObj l o')) (hb0 : Below w0.heap.size w0 w) (hps : ∀ x, (encs x).size = ps.size)
    (I : List α → World → Prop) (hI : OwnFrom w.heap.size I) (Id : List α × Value → World → Prop) (hId : OwnFrom w.heap.size Id) (hst : ∀ xs u V, S xs u → I xs V → Id (xs, u) (V.setCell ⟨ff, 0, none⟩ u)) (h0 : I [] w)
    (Ia : List α × α × Act → World → Prop) (hIa : OwnFrom w.heap.size Ia)
    (hassign : ∀ (l : Nat) (pre : List α) (x : α) (W : World), I pre W → G pre x →
      assign.wpIn (F.inRound l) (n - 1 - 1) P (Exit.then (fun a₁ W₁ => KeepsOthers W W₁ ∧ Kp W W₁ ∧ Ia (pre, x, a₁) W₁) (fun _ _ _ => False)) { tmps := (ps.zip (encs x)).foldl (fun t (p, v) => t.setIfInBounds p v) a.tmps, defers := [] } W)
    (hbody : ∀ (l : Nat) (pre : List α) (x : α) (a₁ : Act) (W : World), Ia (pre, x, a₁) W → G pre x → body.wpIn (F.inRound l) (n - 1 - 1) P (goesOn Kp I (pre ++ [x]) W) a₁ W)
    (hdone : ∀ (D : Nat) (xs : List α) (u : Value) (W : World), w.heap.size ≤ D → S xs u → Id (xs, u) W → W.heap[D]? = some (.deferred (some [])) → Q .normal { a with defers := { target := .collected D, args := #[] } :: a.defers } W) :
    (Code.rangeFunc g ps assign body).wpIn F n P Q a w := by
  refine wpIn_rangeFunc fun fn hfn => ?_
  rw [hro]
  -- the loop's record, as it stands in each state
  let R : LoopState → Option Code → Obj := fun st pe => .loop { state := st, pending := pe, fn, tmps := a.tmps, params := ps, assign, body, defers := w.heap.size }
  let L := w.heap.size + 1
  have hcR : ∀ st pe, (R st pe).isCells = false := fun _ _ => rfl
  have hwR : ∀ st pe, (R st pe).isWalk = false := fun _ _ => rfl
  obtain ⟨W1, hW1⟩ : ∃ W1, (w.alloc (.deferred (some []))).alloc (R .ready none) = W1 := ⟨_, rfl⟩
  have hL1 : W1.heap[L]? = some (R .ready none) := by
    have := World.alloc_heap_new (w.alloc (.deferred (some []))) (R .ready none)
    rw [World.size_alloc] at this; rw [← hW1]; exact this
  have hD1 : W1.heap[w.heap.size]? = some (.deferred (some [])) := by
    rw [← hW1, Below.heap_alloc _ _ _ (by simp)]; exact World.alloc_heap_new w _
  have hI1 : I [] W1 := hW1 ▸ hI.alloc _ (hI.alloc _ h0)
  have hb1 : Below w0.heap.size w0 W1 := hb0.trans (hW1 ▸ (((Below.refl _ w).alloc hb0.size _).alloc (by have := hb0.size; simp; omega) _))
  have hz1 : W1.heap.size = w.heap.size + 2 := by rw [← hW1]; simp
  refine ⟨L, [{ target := .collected w.heap.size, args := #[] }], W1, { target := .fn (.func gf) lb, args := #[.func (.yield L) #[] #[]] }, W1, gf, #[.func (.yield L) #[] #[]] ++ lb, W1,
    hW1 ▸ run_enterLoop_outer _ _ _ _ _, by simp only [resolve, hg]; simp [go_sem, L], fun f' hf' => by simp [Target.leads] at hf'; subst hf'; exact hFg, by simp [invoke, go_sem, eg], fun _ => h1, ?_⟩
  -- what the two blocks of book-keeping hold between rounds
  let J : List α → World → Prop := fun pre W => I pre W ∧ W.heap[L]? = some (R .ready none) ∧ W.heap[w.heap.size]? = some (.deferred (some []))
  have hJ : AbidesFrom W1.heap.size J := by
    intro s A B row ⟨j1, j2, j3⟩ hgr hr
    have hr' : ∀ r, row = some r → ∃ o : Obj, A.heap[r]? = some o ∧ o.isCells = false := fun r e => by
      obtain ⟨_, o, ho, hw⟩ := hr r e
      exact ⟨o, ho, Obj.not_cells_of_walk hw⟩
    exact ⟨hI s A B row j1 hgr (fun r e => ⟨by have := (hr r e).1; omega, hr' r e⟩), (grownBy_keeps hgr (fun r e => (hr r e).2) j2 rfl).trans j2, (grownBy_keeps hgr (fun r e => (hr r e).2) j3 rfl).trans j3⟩
  refine (hseq L J W1 hb1 hJ ?_ ⟨hI1, hL1, hD1⟩).mono ?_
  · rintro pre x W ⟨j1, j2, j3⟩ hlen
    refine ⟨fn, _, assign, body, run_yield (P := P) (args := encs x) j2 (hps x), roundIn_of_wpIn hfn (wpIn_mono (hassign L pre x W j1 hlen) ?_)⟩
    rintro e a₁ V hp
    cases e with
    | normal =>
      obtain ⟨q1, q2, q3⟩ := hp
      have j2 : V.heap[L]? = some (R .ready none) := q1.same _ _ j2 rfl
      have j3 := q1.same _ _ j3 rfl
      have hlt : L < V.heap.size := (Array.getElem?_eq_some_iff.1 j2).1
      refine ⟨_, run_beginRound j2 rfl, ?_⟩
      have k2 : (V.putObj L (R .busy none)).heap[L]? = some (R .busy none) := World.putObj_heap_same hlt
      have k3 : (V.putObj L (R .busy none)).heap[w.heap.size]? = some (.deferred (some [])) := (World.putObj_heap_other (by simp [L])).trans j3
      have kp : Kp W (V.putObj L (R .busy none)) := hKt q2 (hKb _ _ _ _ (by simp [L]) j2 rfl rfl)
      refine wpIn_mono (hbody _ pre x a₁ _ (hIa.putObj (s := (pre, x, a₁)) _ q3 (by simp [L]) j2 rfl) hlen) ?_
      rintro e a3 W3 hp
      cases e with
      | normal =>
        obtain ⟨p1, p2, p3⟩ := hp
        have m2 : W3.heap[L]? = some (R .busy none) := p1.same _ _ k2 rfl
        have m3 := p1.same _ _ k3 rfl
        exact ⟨_, _, run_endRound (P := P) none m2, rfl, ⟨hI.putObj _ p3 (by simp [L]) m2 rfl, World.putObj_heap_same (Array.getElem?_eq_some_iff.1 m2).1, (World.putObj_heap_other (by simp [L])).trans m3⟩, hKt (hKt kp p2) (hKb _ _ _ _ (by simp [L]) m2 rfl rfl)⟩
      | _ => exact hp.elim
    | _ => exact hp.elim
  · rintro e W2 ⟨⟨v, rfl⟩, xs, V, u, hS, ⟨j1, j2, j3⟩, rfl⟩
    have hs := KeepsOthers.setCell V ⟨ff, 0, none⟩ u
    have m2 := hs.same _ _ j2 rfl
    have m3 := hs.same _ _ j3 rfl
    exact ⟨none, _, run_endLoop (P := P) m2 (by simp), hdone _ xs u _ (Nat.le_refl _) hS (hId.putObj (s := (xs, u)) _ (hst xs u V hS j1) (by simp [L]) m2 rfl) ((World.putObj_heap_other (by simp [L])).trans m3)⟩
end Go.Proofs.YtebllmpdlapefaaGreatDoor
