/- A region that draws its order and whose last operation waits for all the others: a condition on the world lets loads be taken first, and need not stand behind the last operation. Own law; no program in sight. -/
import Derived.StillTail
import Derived.Deep.RegionHeld3
set_option linter.unusedVariables false
set_option linter.unusedSimpArgs false
namespace Go.Proofs.YtnfpgadegpmhkaaGreatDoor
open Go
section
variable {P : Program} {ops : Array Oper} {Q : Exit → Act → World → Prop} {md : Region.Mode} {S : World → Prop} {n : Nat}
def wpAnyT (P : Program) (md : Region.Mode) (ops : Array Oper) (Q : Exit → Act → World → Prop) (S : World → Prop) (n : Nat) : Nat → Array Bool → Act → World → Prop
 | 0, listed, a, w => Region.ready md ops listed = [] ∧ Q .normal a w
 | fuel + 1, listed, a, w =>
  (Region.ready md ops listed = [] → Q .normal a w) ∧
  ∀ i ∈ Region.ready md ops listed, wpOp P ops Q i (fun a' w' => (i ≠ n → S w') ∧ wpAnyT P md ops Q S n fuel (listed.setIfInBounds i true) a' w') a w
theorem wpAny_of_T : ∀ (fuel : Nat) (listed : Array Bool) (a : Act) (w : World), wpAnyT P md ops Q S n fuel listed a w → wpAny P md ops Q fuel listed a w
 | 0, _, _, _, h => h
 | fuel + 1, _, _, _, h => ⟨h.1, fun i hi => wpOp_mono (fun a' w' h' => wpAny_of_T fuel _ a' w' h'.2) (h.2 i hi)⟩
theorem wpAnyT_first {i : Nat} {oi : Oper} {v : Value} (hi : ops[i]? = some oi) (hsel : ∀ (j : Nat) (o : Oper) cs b, ops[j]? = some o → o.op ≠ .select cs b)
 (hs : Region.sinkB md ops n = true) (hc : Region.chainB md ops n = true) (hn : n < ops.size) (hin : i < n)
 (hQ : ∀ c a w, Q (.panic c) (a.put oi.dst v) w → Q (.panic c) a w) :
 ∀ (fuel : Nat) (listed : Array Bool) (a : Act) (w : World), HeadInv md ops n listed →
  (∀ j oj, ops[j]? = some oj → j ≠ i → listed.getD j true = false → (∀ e ∈ oj.after, Region.binds md e = true → e.on ≠ i) → oi.apart ops oj = true) →
  i ∈ Region.ready md ops listed → YieldsIf P ops S oi v a → S w →
  wpAnyT P md ops Q S n fuel (listed.setIfInBounds i true) (a.put oi.dst v) w → wpAnyT P md ops Q S n (fuel + 1) listed a w := by
 intro fuel
 induction fuel with
 | zero =>
  intro listed a w _ _ hr hy hS H
  refine ⟨fun h => (by rw [h] at hr; cases hr), fun j hj => ?_⟩
  by_cases hji : j = i
  ·subst hji; exact hy.wpOp hi hS ⟨fun _ => hS, H⟩
  ·have := ready_mono hj hji
   rw [H.1] at this
   cases this
 | succ fuel ih =>
  intro listed a w inv hfree hr hy hS H
  have hun := (mem_ready.1 hr).1
  refine ⟨fun h => (by rw [h] at hr; cases hr), fun j hj => ?_⟩
  have hjn : j < n := by
   rcases Nat.lt_or_ge j n with h | h
   ·exact h
   ·exact absurd hj (tail_waits hs hc hn inv _ i rfl hin hun j h)
  by_cases hji : j = i
  ·subst hji; exact hy.wpOp hi hS ⟨fun _ => hS, H⟩
  ·have h1 := H.2 j (ready_mono hj hji)
   obtain ⟨hjun, oj, hoj, hall⟩ := mem_ready.1 hj
   have hnot : ∀ e ∈ oj.after, Region.binds md e = true → e.on ≠ i := fun e he hb heq => by
    have h1 := hall e he hb
    rw [heq, getD_both hun] at h1
    cases h1
   have h2 := wpOp_putIf hoj (hfree j oj hoj hji hjun hnot) (fun cs b => hsel i oi cs b hi) (fun cs b => hsel j oj cs b hoj) hQ hy h1
   have hfree' : ∀ k ok, ops[k]? = some ok → k ≠ i → (listed.setIfInBounds j true).getD k true = false →
    (∀ e ∈ ok.after, Region.binds md e = true → e.on ≠ i) → oi.apart ops ok = true := fun k ok hk hki hun hno => by
    refine hfree k ok hk hki ?_ hno
    by_cases hjk : j = k
    ·subst hjk; exact hjun
    ·rw [getD_set_ne true hjk] at hun; exact hun
   refine wpOp_mono (fun a' w' h3 => ⟨fun _ => h3.2.1 (by omega), ih (listed.setIfInBounds j true) a' w' (inv.set hj hjn) hfree' (ready_mono hr (Ne.symm hji)) h3.1 (h3.2.1 (by omega)) ?_⟩) h2
   rw [Array.setIfInBounds_comm _ _ hji]
   exact h3.2.2
def GT (P : Program) (md : Region.Mode) (ops : Array Oper) (Q : Exit → Act → World → Prop) (S : World → Prop) (n : Nat) (fuel : Nat) (listed : Array Bool) (a : Act) (w : World) : Prop :=
 HeadInv md ops n listed → wpAnyT P md ops Q S n fuel listed a w
def lastB (md : Region.Mode) (ops : Array Oper) (n : Nat) : Bool := Region.noSelect ops && decide (n < ops.size) && Region.sinkB md ops n && Region.chainB md ops n
theorem GT.take {i : Nat} {oi : Oper} {v : Value} {fuel : Nat} {listed : Array Bool} {a : Act} {w : World} (hi : ops[i]? = some oi) (hin : decide (i < n) = true)
 (hs : lastB md ops n = true) (hf : Region.free md ops listed i = true) (hr : (Region.ready md ops listed).contains i = true)
 (hQ : ∀ c a w, Q (.panic c) (a.put oi.dst v) w → Q (.panic c) a w) (hy : YieldsIf P ops S oi v a) (hS : S w)
 (h : GT P md ops Q S n fuel (listed.setIfInBounds i true) (a.put oi.dst v) w) : GT P md ops Q S n (fuel + 1) listed a w := fun inv => by
 simp only [lastB, Bool.and_eq_true, decide_eq_true_eq] at hs hin
 obtain ⟨⟨⟨h1, h2⟩, h3⟩, h4⟩ := hs
 have hr' : i ∈ Region.ready md ops listed := by simpa using hr
 exact wpAnyT_first hi (Region.noSelect_spec h1) h3 h4 h2 hin hQ fuel listed a w inv (Region.free_spec hi hf) hr' hy hS (h (inv.set hr' hin))
theorem GT.step {i : Nat} {o : Oper} {fuel : Nat} {listed : Array Bool} {a : Act} {w : World} (ho : ops[i]? = some o) (hin : decide (i < n) = true) (hr : Region.ready md ops listed = [i])
 (h : ∀ K' : Act → World → Prop, Shut (∀ a w, S w → (S w → GT P md ops Q S n fuel (listed.setIfInBounds i true) a w) → K' a w) → if Region.wanted o (yielded ops a.tmps) = true then Oper.wp P o a w K' Q else K' (a.put o.dst undef) w) : GT P md ops Q S n (fuel + 1) listed a w := fun inv => by
 refine ⟨fun h0 => (by rw [h0] at hr; cases hr), fun j hj => ?_⟩
 have hji : j = i := by rw [hr] at hj; simpa using hj
 subst hji
 have hin' : j < n := by simpa using hin
 exact wpOp_step ho (fun K' hK => h K' (fun a w hS hW => hK a w ⟨fun _ => hS, hW hS (inv.set hj hin')⟩))
theorem GT.two {i j : Nat} {oi oj : Oper} {fuel : Nat} {listed : Array Bool} {a : Act} {w : World} (hi : ops[i]? = some oi) (hj : ops[j]? = some oj) (hin : decide (i < n) = true) (hjn : decide (j < n) = true) (hr : Region.ready md ops listed = [i, j])
 (h1 : ∀ K' : Act → World → Prop, Shut (∀ a w, S w → (S w → GT P md ops Q S n fuel (listed.setIfInBounds i true) a w) → K' a w) → if Region.wanted oi (yielded ops a.tmps) = true then Oper.wp P oi a w K' Q else K' (a.put oi.dst undef) w)
 (h2 : ∀ K' : Act → World → Prop, Shut (∀ a w, S w → (S w → GT P md ops Q S n fuel (listed.setIfInBounds j true) a w) → K' a w) → if Region.wanted oj (yielded ops a.tmps) = true then Oper.wp P oj a w K' Q else K' (a.put oj.dst undef) w) : GT P md ops Q S n (fuel + 1) listed a w := fun inv => by
 refine ⟨fun h0 => (by rw [h0] at hr; cases hr), fun k hk => ?_⟩
 have hin' : i < n := by simpa using hin
 have hjn' : j < n := by simpa using hjn
 have hk2 : k = i ∨ k = j := by rw [hr] at hk; simpa using hk
 rcases hk2 with hk2 | hk2
 ·subst hk2
  exact wpOp_step hi (fun K' hK => h1 K' (fun a w hS hW => hK a w ⟨fun _ => hS, hW hS (inv.set hk hin')⟩))
 ·subst hk2
  exact wpOp_step hj (fun K' hK => h2 K' (fun a w hS hW => hK a w ⟨fun _ => hS, hW hS (inv.set hk hjn')⟩))
theorem GT.last {i : Nat} {o : Oper} {fuel : Nat} {listed : Array Bool} {a : Act} {w : World} (ho : ops[i]? = some o) (hin : decide (i = n) = true) (hr : Region.ready md ops listed = [i]) (hr2 : Region.ready md ops (listed.setIfInBounds i true) = [])
 (h : if Region.wanted o (yielded ops a.tmps) = true then Oper.wp P o a w (fun a' w' => Q .normal a' w') Q else Q .normal (a.put o.dst undef) w) : GT P md ops Q S n (fuel + 1) listed a w := fun inv => by
 refine ⟨fun h0 => (by rw [h0] at hr; cases hr), fun j hj => ?_⟩
 have hji : j = i := by rw [hr] at hj; simpa using hj
 subst hji
 have hjn : j = n := by simpa using hin
 subst hjn
 have hdone : ∀ (f : Nat) (a : Act) (w : World), Q .normal a w → wpAnyT P md ops Q S j f (listed.setIfInBounds j true) a w := fun f a w h => by
  cases f with
  | zero => exact ⟨hr2, h⟩
  | succ f => exact ⟨fun _ => h, by rw [hr2]; simp⟩
 refine wpOp_step ho (fun K' hK => ?_)
 split
 ·rename_i hw
  rw [if_pos hw] at h
  exact Oper.wp_mono (fun a' w' h' => hK a' w' ⟨fun h0 => absurd rfl h0, hdone _ _ _ h'⟩) h
 ·rename_i hw
  rw [if_neg hw] at h
  exact hK _ _ ⟨fun h0 => absurd rfl h0, hdone _ _ _ h⟩
theorem wp_region_last {id : Nat} {a : Act} {w : World} (n : Nat) (S : World → Prop) (hm : P.follows .mixedOrders = true) (hn : lastB .any ops n = true) (h : GT P .any ops Q S n ops.size (Array.replicate ops.size false) a w.drew) : (Code.region id ops true).wp P Q a w := by
 have h' := hn
 simp only [lastB, Bool.and_eq_true, decide_eq_true_eq] at h'
 exact wp_region_any hm (wpAny_of_T _ _ _ _ (h ⟨by simp, fun j oj _ hl => (by rw [getD_replicate_false] at hl; cases hl), fun t _ ht => getD_in (by simpa using ht) (getD_replicate_false _ _)⟩))
theorem GT.tk1 (i : Nat) {oi : Oper} {v : Value} {fuel : Nat} {listed : Array Bool} {a a' : Act} {w : World} (hS : S w)
 (h : GT P md ops Q S n fuel (listed.setIfInBounds i true) a' w)
 (hi : ops[i]? = some oi := by simp only [List.getElem?_toArray, List.getElem?_cons_zero, List.getElem?_cons_succ]; rfl)
 (hin : decide (i < n) = true := by kernel_rfl) (hs : lastB md ops n = true := by kernel_rfl) (hf : Region.free md ops listed i = true := by kernel_rfl) (hr : (Region.ready md ops listed).contains i = true := by kernel_rfl)
 (hQ : ∀ c a w, Q (.panic c) (a.put oi.dst v) w → Q (.panic c) a w := by intro _ _ _ h; exact h)
 (hy : YieldsIf P ops S oi v a := by first | (refine Or.inl ⟨by rfl, ?_⟩; intro V hV; (try dsimp only at hV); (first | (go_simp; done) | (go_simp; with_reducible rfl) | (go_simp; assumption))) | exact Or.inr ⟨by rfl, rfl⟩)
 (ha : a.put oi.dst v = a' := by first | (simp only [Act.put, List.setIfInBounds_toArray, List.set_cons_zero, List.set_cons_succ]; rfl) | rfl) : GT P md ops Q S n (fuel + 1) listed a w := by
 subst ha; exact GT.take hi hin hs hf hr hQ hy hS h
theorem GT.st1 (i : Nat) {o : Oper} {fuel : Nat} {listed : Array Bool} {a : Act} {w : World}
 (h : ∀ K' : Act → World → Prop, Shut (∀ a w, S w → (S w → GT P md ops Q S n fuel (listed.setIfInBounds i true) a w) → K' a w) → if Region.wanted o (yielded ops a.tmps) = true then Oper.wp P o a w K' Q else K' (a.put o.dst undef) w)
 (ho : ops[i]? = some o := by simp only [List.getElem?_toArray, List.getElem?_cons_zero, List.getElem?_cons_succ]; rfl) (hin : decide (i < n) = true := by kernel_rfl) (hr : Region.ready md ops listed = [i] := by kernel_rfl) : GT P md ops Q S n (fuel + 1) listed a w := GT.step ho hin hr h
theorem GT.la1 (i : Nat) {o : Oper} {fuel : Nat} {listed : Array Bool} {a : Act} {w : World}
 (h : if Region.wanted o (yielded ops a.tmps) = true then Oper.wp P o a w (fun a' w' => Q .normal a' w') Q else Q .normal (a.put o.dst undef) w)
 (ho : ops[i]? = some o := by simp only [List.getElem?_toArray, List.getElem?_cons_zero, List.getElem?_cons_succ]; rfl) (hin : decide (i = n) = true := by kernel_rfl) (hr : Region.ready md ops listed = [i] := by kernel_rfl) (hr2 : Region.ready md ops (listed.setIfInBounds i true) = [] := by kernel_rfl) : GT P md ops Q S n (fuel + 1) listed a w := GT.last ho hin hr hr2 h
end
end Go.Proofs.YtnfpgadegpmhkaaGreatDoor
