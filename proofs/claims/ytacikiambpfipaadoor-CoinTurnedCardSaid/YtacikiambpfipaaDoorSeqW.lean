/- A region that only reads, inside a round of a range over a function, under the wide fence: by the plain lexical walk. Own law; no program in sight. -/
import Derived.Test.YtacikiambpfipaaDoorSeqQ
import Derived.Deep.QuietTactic
import Derived.BigQuiet
namespace Go.Proofs.YtacikiambpfipaaDoor
set_option linter.unusedVariables false
set_option linter.unusedSimpArgs false
open Go

theorem quietIn_wide {n : Nat} {P : Program} {C : World → Prop} {o : Oper} {a : Act} {K K' : Act → Prop} (hK : ∀ a, K a → K' a) (h : o.quiet P a C K) : o.quietIn Fence.wide n P a C K' := by
  obtain ⟨v, h1, h2⟩ := h
  refine ⟨v, fun w hw => ?_, hK _ h2⟩
  have h3 := h1 w hw
  unfold Oper.quietAt at h3
  unfold Oper.quietAtIn
  generalize (execOp a.eval o).run P w = r at *
  cases r with
  | ok x w' =>
    cases x <;> simp only [Oper.quietUpon] at h3 <;> simp only [Oper.quietUponIn]
    case value u => exact h3
    case skip => exact h3
    case enter f args => exact ⟨h3.1, (fun h => by cases h), callsIn_wide.2 h3.2⟩
  | halt x w' => simp only [Oper.quietUpon] at h3
theorem wpQuietIn_wide {n : Nat} {P : Program} {ops : Array Oper} {C : World → Prop} {Q : Act → Prop} : ∀ (l : List Oper) (a : Act), wpQuiet P ops C Q l a → wpQuietIn Fence.wide n P ops C Q l a
  | [], _, h => h
  | o :: rest, a, h => by
    refine ⟨fun _ _ _ _ => trivial, ?_⟩
    unfold wpQuiet at h
    split
    · rename_i hw
      rw [if_pos hw] at h
      exact quietIn_wide (fun a' h' => wpQuietIn_wide rest a' h') h
    · rename_i hw
      rw [if_neg hw] at h
      exact wpQuietIn_wide rest _ h
theorem wpIn_region_quiet_roundW {n : Nat} {P : Program} {id : Nat} {Q : Exit → Act → World → Prop} {a : Act} {w : World} {l : List Oper} (k : Nat) (hm : P.follows .mixedOrders = true) (hB : Region.lexB .any l.toArray = true) (hnd : noDefer l = true)
    (h : wpQuiet P l.toArray (fun w' => ∃ n, w' = w.drewN n) (fun a' => ∀ n, Q .normal a' (w.drewN n)) l a) : (Code.region id l.toArray true).wpIn (Fence.wide.inRound k) n P Q a w := by
  refine wpIn_region_quiet_round k rfl hm hB hnd (wpQuietIn_wide _ _ ?_)
  have e : (fun a' => ∀ w', (∃ n, w' = w.drewN n) → Q .normal a' w') = (fun a' => ∀ n, Q .normal a' (w.drewN n)) := by
    funext a'
    exact propext ⟨fun h n => h _ ⟨n, rfl⟩, fun h w' ⟨n, hn⟩ => hn ▸ h n⟩
  rw [e]; exact h
end Go.Proofs.YtacikiambpfipaaDoor
