/- A region that draws its order, its operations in any order under an invariant. Own law; no program in sight. -/
import Derived.StillTail
import Derived.Tactics
namespace Go.Proofs.YtacikiambpfipaaDoor
set_option linter.unusedVariables false
set_option linter.unusedSimpArgs false
open Go

theorem cnt_less : ∀ (n i : Nat) (p p' : Nat → Bool), i < n → p i = true → p' i = false → (∀ j, j ≠ i → p' j = p j) → (List.range n).countP p = (List.range n).countP p' + 1
  | 0, i, p, p', hi, _, _, _ => by omega
  | n + 1, i, p, p', hi, h1, h2, h3 => by
    rw [List.range_succ, List.countP_append, List.countP_append]
    by_cases e : i = n
    · subst e
      have : (List.range i).countP p = (List.range i).countP p' := List.countP_congr fun x hx => by rw [h3 x (by have := List.mem_range.1 hx; omega)]
      simp [this, h1, h2]
    · rw [cnt_less n i p p' (by omega) h1 h2 h3]
      have : p' n = p n := h3 n (Ne.symm e)
      simp [this]; omega
section
variable {P : Program} {ops : Array Oper} {md : Region.Mode}
def Region.foreB (md : Region.Mode) (ops : Array Oper) : Bool :=
  (List.range ops.size).all fun i => match ops[i]? with
    | some o => o.after.all fun e => !Region.binds md e || decide (e.on < i)
    | none => false
theorem some_ready {listed : Array Bool} (hf : Region.foreB md ops = true) (hsz : listed.size = ops.size) : ∀ (i : Nat), i < ops.size → listed.getD i true = false → ∃ j, j < ops.size ∧ j ∈ Region.ready md ops listed := by
  intro i
  induction i using Nat.strongRecOn with
  | ind i ih =>
    intro hi hun
    by_cases hl : ∃ j, j < i ∧ listed.getD j true = false
    · obtain ⟨j, hj, hju⟩ := hl
      exact ih j hj (by omega) hju
    · refine ⟨i, hi, ?_⟩
      have h1 := List.all_eq_true.1 hf i (List.mem_range.2 hi)
      have hii : ops[i]? = some ops[i] := Array.getElem?_eq_getElem hi
      rw [hii] at h1
      refine mem_ready.2 ⟨hun, ops[i], hii, fun e he hb => ?_⟩
      have h2 := Array.all_eq_true'.1 h1 e he
      rw [hb] at h2
      have h3 : e.on < i := by simpa using h2
      have h4 : listed.getD e.on true = true := by
        rcases Bool.eq_false_or_eq_true (listed.getD e.on true) with h | h
        · exact h
        · exact absurd ⟨e.on, h3, h⟩ hl
      have : e.on < listed.size := by omega
      simp [this] at h4 ⊢; exact h4
theorem wpAny_of_inv {I : Array Bool → Act → World → Prop} {Q' : Exit → Act → World → Prop} (hf : Region.foreB md ops = true)
    (hstep : ∀ listed a w i, i < ops.size → I listed a w → i ∈ Region.ready md ops listed → wpOp P ops Q' i (I (listed.setIfInBounds i true)) a w)
    (hend : ∀ listed a w, (∀ i, i < ops.size → listed.getD i false = true) → I listed a w → Q' .normal a w) :
    ∀ (f : Nat) (listed : Array Bool) (a : Act) (w : World), (List.range ops.size).countP (fun i => !listed.getD i true) = f → listed.size = ops.size → I listed a w → wpAny P md ops Q' f listed a w
  | 0, listed, a, w, hcnt, hsz, hI => by
    have h0 : ∀ i, i < ops.size → listed.getD i true = true := fun i hi => by
      have := List.countP_eq_zero.1 hcnt i (List.mem_range.2 hi)
      simpa using this
    refine ⟨?_, hend _ _ _ (fun i hi => ?_) hI⟩
    · cases hr : Region.ready md ops listed with
      | nil => rfl
      | cons j l =>
        have hj : j ∈ Region.ready md ops listed := by rw [hr]; simp
        obtain ⟨hun, o, ho, _⟩ := mem_ready.1 hj
        rw [h0 j (Array.getElem?_eq_some_iff.1 ho).1] at hun
        cases hun
    · have := h0 i hi
      have hlt : i < listed.size := by omega
      simp [hlt] at this ⊢; exact this
  | f + 1, listed, a, w, hcnt, hsz, hI => by
    have hex : ∃ i, i < ops.size ∧ listed.getD i true = false := by
      have : 0 < (List.range ops.size).countP (fun i => !listed.getD i true) := by omega
      obtain ⟨i, hi, hp⟩ := List.countP_pos_iff.1 this
      exact ⟨i, List.mem_range.1 hi, by simpa using hp⟩
    obtain ⟨i0, hi0, hu0⟩ := hex
    obtain ⟨j0, hj0, hr0⟩ := some_ready hf hsz i0 hi0 hu0
    refine ⟨fun h => (by rw [h] at hr0; cases hr0), fun i hi => ?_⟩
    obtain ⟨hun, o, ho, _⟩ := mem_ready.1 hi
    have hin : i < ops.size := (Array.getElem?_eq_some_iff.1 ho).1
    refine wpOp_mono (fun a' w' hI' => wpAny_of_inv hf hstep hend f _ a' w' ?_ (by simp [hsz]) hI') (hstep listed a w i hin hI hi)
    have := cnt_less ops.size i (fun i => !listed.getD i true) (fun j => !(listed.setIfInBounds i true).getD j true) hin (by simp [hun]) (by
      have : i < listed.size := by omega
      simp [this]) (fun j hj => by simp [Array.getElem?_setIfInBounds_ne (Ne.symm hj)])
    omega
theorem wp_region_inv {id : Nat} {Q : Exit → Act → World → Prop} {a : Act} {w : World} {l : List Oper} (hm : P.follows .mixedOrders = true) (hB : Region.foreB .any l.toArray = true) (I : Array Bool → Act → World → Prop)
    (h0 : I (Array.replicate l.toArray.size false) a w.drew)
    (hstep : ∀ listed a w i, i < l.toArray.size → I listed a w → i ∈ Region.ready .any l.toArray listed → wpOp P l.toArray Q i (I (listed.setIfInBounds i true)) a w)
    (hend : ∀ listed a w, (∀ i, i < l.toArray.size → listed.getD i false = true) → I listed a w → Q .normal a w) : (Code.region id l.toArray true).wp P Q a w := by
  have hcnt : (List.range l.toArray.size).countP (fun i => !(Array.replicate l.toArray.size false).getD i true) = l.toArray.size := by
    have : (List.range l.toArray.size).countP (fun i => !(Array.replicate l.toArray.size false).getD i true) = (List.range l.toArray.size).length := by
      rw [List.countP_eq_length]
      intro i hi
      have := List.mem_range.1 hi
      simp [show i < l.length by simpa using this]
    simpa using this
  exact wp_region_any hm (wpAny_of_inv hB hstep hend _ _ a _ hcnt (by simp) h0)
end
/-- An operation without a guard. -/
theorem wpOp_some {P : Program} {ops : Array Oper} {Q : Exit → Act → World → Prop} {i : Nat} {K : Act → World → Prop} {a : Act} {w : World} {o : Oper} (hi : ops[i]? = some o) (hg : o.guard = none) (h : o.wp P a w K Q) : wpOp P ops Q i K a w := by
  unfold wpOp
  simp only [hi]
  have hw : Region.wanted o (yielded ops a.tmps) = true := by simp [Region.wanted, hg]
  rw [if_pos hw]; exact .inl h
theorem listed_or {listed : Array Bool} {i k : Nat} (h : (listed.setIfInBounds i true).getD k false = true) : k = i ∨ listed.getD k false = true := by
  by_cases e : i = k
  · exact .inl e.symm
  · rw [getD_set_ne false e] at h; exact .inr h
theorem listed_new {listed : Array Bool} {i : Nat} (h : i < listed.size) : (listed.setIfInBounds i true).getD i false = true := by simp [h]
theorem listed_far {listed : Array Bool} {i k : Nat} (h : i ≠ k) : (listed.setIfInBounds i true).getD k false = listed.getD k false := getD_set_ne false h
end Go.Proofs.YtacikiambpfipaaDoor
