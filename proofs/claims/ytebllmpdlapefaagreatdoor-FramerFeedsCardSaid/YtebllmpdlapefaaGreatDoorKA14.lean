/- A range over a function whose iterator keeps state of its own in cells: the body writes blocks of the list L alone. -/
import Derived.RangeFuncNested
import Derived.RangeFuncBound
import Derived.RangeFuncCalls
import Derived.RangeFuncLeaves
import Derived.Shelf.Abstract
import Derived.Shelf.RegionOpen
import Derived.WalkKit
import Derived.OwnWalkIn
import Derived.TacticsInMore
import Derived.LoopNIn
import Derived.LoopIn
import Derived.Test.YtebllmpdlapefaaGreatDoorKA1
namespace Go.Proofs.YtebllmpdlapefaaGreatDoor
set_option linter.unusedVariables false
set_option linter.unusedSimpArgs false
open Go.RowKit Go.Shelf

theorem only_putObj (w : World) (l : Nat) (o : Obj) : Only [l] w (w.putObj l o) := Only.of_grown (grownBy_putObj' w l o)
/-- Told of the iterator: it hands on the list xs, whatever the body, if the body writes blocks of L (and the loop's record) alone. -/
def SeqOnly {α : Type} (F : Fence) (n : Nat) (P : Program) (g : Nat) (lb : Array Value) (encs : α → Array Value) (xs : List α) (L : List Nat) (w : World) : Prop :=
  ∀ (l : Nat) (J : List α → World → Prop) (W : World), Only [] w W → w.heap.size ≤ l → l < W.heap.size → (∀ s A B, J s A → Below W.heap.size A B → J s B) →
    (∀ pre x W1, J pre W1 → pre ++ [x] <+: xs → YieldAt F (n - 1) P l (encs x) W1 fun e W' => e = .returned (.bool true) ∧ J (pre ++ [x]) W' ∧ Only (l :: L) W1 W') →
    J [] W →
    CallsIn F n P g (#[.func (.yield l) #[] #[]] ++ lb) W fun e W' => (∃ v, e = .returned v) ∧ J xs W'

variable {F : Fence} {n : Nat} {P : Program}

theorem rangeFunc_only {α : Type} {g : Operand} {ps : Array Tmp} {assign body : Code} {Q : Exit → Act → World → Prop} {a : Act} {w : World}
    (hro : F.round = none) (h1 : 1 ≤ n) {gf : Nat} {lb : Array Value} (hg : a.eval g = .func (.func gf) #[] lb) (hFg : F.fn gf) (eg : ∀ args w, (callFunc gf args).run P w = .ok (.enter gf args) w)
    {encs : α → Array Value} {xs : List α} {L : List Nat} (hseq : SeqOnly F (n - 1) P gf lb encs xs L w) (hL : ∀ i, i ∈ L → i < w.heap.size) (hps : ∀ x, (encs x).size = ps.size)
    (I : List α → World → Prop) (hI : ∀ s A B, I s A → Below w.heap.size A B → I s B) (h0 : I [] w) (a₁ : α → Act)
    (hassign : ∀ (l : Nat) (x : α) (W : World) (K : Act → World → Prop), K (a₁ x) W →
      assign.wpIn (F.inRound l) (n - 1 - 1) P (Exit.then K (fun _ _ _ => False)) { tmps := (ps.zip (encs x)).foldl (fun t (p, v) => t.setIfInBounds p v) a.tmps, defers := [] } W)
    (hbody : ∀ (l : Nat) (pre : List α) (x : α) (W : World), w.heap.size ≤ l → I pre W → pre ++ [x] <+: xs → body.wpIn (F.inRound l) (n - 1 - 1) P (fun e _ W' => e = .normal ∧ Only L W W' ∧ I (pre ++ [x]) W') (a₁ x) W)
    (hdone : ∀ (D : Nat) (W : World), w.heap.size ≤ D → I xs W → W.heap[D]? = some (.deferred (some [])) → Q .normal { a with defers := { target := .collected D, args := #[] } :: a.defers } W) :
    (Code.rangeFunc g ps assign body).wpIn F n P Q a w := by
  refine wpIn_rangeFunc fun fn hfn => ?_
  rw [hro]
  let r0 : Loop := { state := .ready, pending := none, fn, tmps := a.tmps, params := ps, assign, body, defers := w.heap.size }
  obtain ⟨W1, hW1⟩ : ∃ W1, (w.alloc (.deferred (some []))).alloc (.loop r0) = W1 := ⟨_, rfl⟩
  have hL1 : W1.heap[w.heap.size + 1]? = some (.loop r0) := by
    rw [← hW1]; have := World.alloc_heap_new (w.alloc (.deferred (some []))) (.loop r0); rwa [World.size_alloc] at this
  have hK1 : W1.heap[w.heap.size]? = some (.deferred (some [])) := by
    rw [← hW1]; exact (Below.heap_alloc _ _ _ (by simp)).trans (World.alloc_heap_new w _)
  have hO1 : Only [] w W1 := by rw [← hW1]; exact ((Only.refl [] w).alloc _).alloc _
  have hz1 : W1.heap.size = w.heap.size + 2 := by rw [← hW1]; simp
  refine ⟨w.heap.size + 1, [{ target := .collected w.heap.size, args := #[] }], W1, { target := .fn (.func gf) lb, args := #[.func (.yield (w.heap.size + 1)) #[] #[]] }, W1, gf,
    #[.func (.yield (w.heap.size + 1)) #[] #[]] ++ lb, W1, ?_, ?_, ?_, ?_, fun _ => h1, ?_⟩
  · rw [← hW1]; exact run_enterLoop_outer _ _ _ _ _
  · simp only [resolve, hg]
    simp [go_sem]
  · intro f' hf'; simp [Target.leads] at hf'; subst hf'; exact hFg
  · simp [invoke, go_sem, eg]
  refine (hseq (w.heap.size + 1) (fun pre W => I pre W ∧ W.heap[w.heap.size + 1]? = some (.loop r0) ∧ W.heap[w.heap.size]? = some (.deferred (some []))) W1 hO1 (by omega) (by omega) ?_ ?_
    ⟨hI _ _ _ h0 (hO1.below (Nat.le_refl _) (by simp)), hL1, hK1⟩).mono ?_
  · rintro s A B ⟨hi, hl, hk⟩ hb
    exact ⟨hI _ _ _ hi (hb.mono (by omega)), (hb.block _ (by omega)).trans hl, (hb.block _ (by omega)).trans hk⟩
  · rintro pre x W ⟨hi, hl, hk⟩ hpre
    have hlt : w.heap.size + 1 < W.heap.size := (Array.getElem?_eq_some_iff.1 hl).1
    have hy := run_yield (P := P) (args := encs x) hl (hps x)
    refine ⟨fn, _, assign, body, hy, roundIn_of_wpIn hfn (hassign _ x W _ ⟨_, run_beginRound hl rfl, ?_⟩)⟩
    obtain ⟨W2, hW2⟩ : ∃ W2, W.putObj (w.heap.size + 1) (.loop { r0 with state := .busy }) = W2 := ⟨_, rfl⟩
    rw [hW2]
    have hO2 : Only [w.heap.size + 1] W W2 := hW2 ▸ only_putObj W _ _
    have hl2 : W2.heap[w.heap.size + 1]? = some (.loop { r0 with state := .busy }) := by rw [← hW2]; exact World.putObj_heap_same hlt
    have hk2 : W2.heap[w.heap.size]? = some (.deferred (some [])) := (hO2.block _ (by omega) (by simp)).trans hk
    have hi2 : I pre W2 := hI _ _ _ hi (hO2.below (by omega) (by simp))
    refine wpIn_mono (hbody _ pre x W2 (by omega) hi2 hpre) ?_
    rintro e a3 W3 ⟨rfl, hO3, hi3⟩
    have hl3 := (hO3.block (w.heap.size + 1) (by have := hO2.size; omega) (fun h => by have := hL _ h; omega)).trans hl2
    have hk3 := (hO3.block w.heap.size (by have := hO2.size; omega) (fun h => by have := hL _ h; omega)).trans hk2
    have hO4 := only_putObj W3 (w.heap.size + 1) (.loop r0)
    refine ⟨_, _, run_endRound (P := P) none hl3, rfl, ⟨hI _ _ _ hi3 (hO4.below (by have := hO2.size; have := hO3.size; omega) (by simp)), World.putObj_heap_same (Array.getElem?_eq_some_iff.1 hl3).1, (hO4.block _ (by have := hO2.size; have := hO3.size; omega) (by simp)).trans hk3⟩, ?_⟩
    exact ((hO2.mono (by simp)).trans (hO3.mono (fun _ h => List.mem_cons_of_mem _ h))).trans (hO4.mono (by simp))
  · rintro e W2 ⟨⟨v, rfl⟩, hi, hl, hk⟩
    have hO4 := only_putObj W2 (w.heap.size + 1) (.loop { r0 with state := .exhausted })
    have hlt := (Array.getElem?_eq_some_iff.1 hl).1
    exact ⟨none, _, run_endLoop (P := P) hl (by simp [r0]), hdone _ _ (Nat.le_refl _) (hI _ _ _ hi (hO4.below (by omega) (by simp))) ((hO4.block _ (by omega) (by simp)).trans hk)⟩
end Go.Proofs.YtebllmpdlapefaaGreatDoor
