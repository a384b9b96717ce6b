/- Names in twelve bytes: plain laws. No program in sight. -/
import Derived.Test.YtacikiambpfipaaDoorBytesP
namespace Go.Proofs.YtacikiambpfipaaDoor
set_option linter.unusedVariables false
set_option linter.unusedSimpArgs false

/-- A byte that a name may have. -/
def nameB (b : Nat) : Bool := decide ((97 ≤ b ∧ b ≤ 122) ∨ (48 ≤ b ∧ b ≤ 57) ∨ b = 95)
def nameL (l : List UInt8) : Bool := l.all fun b => nameB b.toNat
/-- May it be a name? -/
def nmMay (s : ByteArray) : Bool := nameL s.data.toList && (decide (1 ≤ s.size) && decide (s.size ≤ 12))
/-- A name's bytes. -/
def nmPad (s : ByteArray) : ByteArray := ⟨(s.data.toList ++ List.replicate (12 - s.size) 0).toArray⟩
def cutL (l : List UInt8) : List UInt8 := (l.reverse.dropWhile (· == 0)).reverse
/-- Without the noughts at the end. -/
def nmCut (s : ByteArray) : ByteArray := ⟨(cutL s.data.toList).toArray⟩
/-- The name whose bytes they are, or the error. -/
def nmGet (s : ByteArray) : Int × ByteArray := if s.size = 12 ∧ nmMay (nmCut s) = true then (0, nmCut s) else (3, ByteArray.empty)

theorem nameL_snoc (l : List UInt8) (b : UInt8) : nameL (l ++ [b]) = (nameL l && nameB b.toNat) := by simp [nameL]
theorem nameL_take_no (l : List UInt8) (k : Nat) (h : nameL (l.take k) = false) : nameL l = false := by
  simp only [nameL, List.all_eq_false] at h ⊢
  obtain ⟨x, hx, hb⟩ := h
  exact ⟨x, List.mem_of_mem_take hx, hb⟩
/-- The seven ways of a byte's tests. -/
theorem name_ways (b : Nat) (hb : b < 256) : (nameB b = false ∧ (b < 48 ∨ (57 < b ∧ b < 95) ∨ (95 < b ∧ b < 97) ∨ 122 < b) ∧ b ≠ 95) ∨ (nameB b = true ∧ ((48 ≤ b ∧ b ≤ 57) ∨ (b = 95) ∨ (97 ≤ b ∧ b ≤ 122))) := by
  rcases Bool.eq_false_or_eq_true (nameB b) with h | h
  · right; refine ⟨h, ?_⟩; simp only [nameB, decide_eq_true_eq] at h; omega
  · left; refine ⟨h, ?_⟩; simp only [nameB, decide_eq_false_iff_not] at h; omega
theorem nmMay_size {s : ByteArray} (h : nmMay s = true) : 1 ≤ s.size ∧ s.size ≤ 12 := by
  simp only [nmMay, Bool.and_eq_true, decide_eq_true_eq] at h; exact h.2
theorem nmMay_no {s : ByteArray} (h : s.size < 1 ∨ 12 < s.size) : nmMay s = false := by
  rcases Bool.eq_false_or_eq_true (nmMay s) with h1 | h1
  · have := nmMay_size h1; omega
  · exact h1
theorem nmMay_of {s : ByteArray} (h1 : 1 ≤ s.size) (h2 : s.size ≤ 12) : nmMay s = nameL s.data.toList := by simp [nmMay, h1, h2]
theorem nmPad_list (s : ByteArray) : (nmPad s).data.toList = s.data.toList ++ List.replicate (12 - s.size) 0 := by simp [nmPad]
theorem nmPad_size (s : ByteArray) (h : s.size ≤ 12) : (nmPad s).size = 12 := by
  rw [← toList_size, nmPad_list]; simp; omega
theorem cutL_pad (l : List UInt8) (n : Nat) (h : ∀ b ∈ l, b ≠ 0) : cutL (l ++ List.replicate n 0) = l := by
  unfold cutL
  rw [List.reverse_append, List.reverse_replicate]
  have h1 : ∀ m : Nat, (List.replicate m (0 : UInt8) ++ l.reverse).dropWhile (· == 0) = l.reverse.dropWhile (· == 0) := by
    intro m
    induction m with
    | zero => simp
    | succ m ih => simp [List.replicate_succ, ih]
  rw [h1]
  have h2 : l.reverse.dropWhile (· == 0) = l.reverse := by
    cases hl : l.reverse with
    | nil => simp
    | cons x xs =>
      have hx : x ∈ l := by rw [← List.mem_reverse, hl]; simp
      have := h x hx
      simp [this]
  rw [h2, List.reverse_reverse]
theorem cutL_form (l : List UInt8) : ∃ n, l = cutL l ++ List.replicate n 0 := by
  unfold cutL
  have h : ∀ m : List UInt8, ∃ n, m = List.replicate n 0 ++ m.dropWhile (· == 0) := by
    intro m
    induction m with
    | nil => exact ⟨0, by simp⟩
    | cons x xs ih =>
      by_cases hx : x = 0
      · obtain ⟨n, hn⟩ := ih
        refine ⟨n + 1, ?_⟩
        subst hx
        simp only [List.replicate_succ, List.cons_append]
        rw [List.dropWhile_cons]
        simp only [beq_self_eq_true, if_true]
        rw [← hn]
      · exact ⟨0, by simp [hx]⟩
  obtain ⟨n, hn⟩ := h l.reverse
  refine ⟨n, ?_⟩
  have := congrArg List.reverse hn
  rw [List.reverse_reverse, List.reverse_append, List.reverse_replicate] at this
  exact this
theorem name_ne (s : ByteArray) (h : nmMay s = true) : ∀ b ∈ s.data.toList, b ≠ 0 := by
  intro b hb h0
  simp only [nmMay, Bool.and_eq_true, nameL, List.all_eq_true] at h
  have := h.1 b hb
  subst h0
  simp [nameB] at this
/-- What is put is got again. -/
theorem nmCut_pad (s : ByteArray) (h : nmMay s = true) : nmCut (nmPad s) = s := by
  apply bytes_ext
  simp only [nmCut]
  rw [nmPad_list, cutL_pad _ _ (name_ne s h)]
theorem nmGet_pad (s : ByteArray) (h : nmMay s = true) : nmGet (nmPad s) = (0, s) := by
  have h1 := nmPad_size s (nmMay_size h).2
  simp [nmGet, h1, nmCut_pad s h, h]
theorem nmGet_short (s : ByteArray) (h : s.size ≠ 12) : nmGet s = (3, ByteArray.empty) := by simp [nmGet, h]
/-- What is got is put as it was. -/
theorem nmPad_get (s t : ByteArray) (h : nmGet s = (0, t)) : nmPad t = s ∧ nmMay t = true := by
  unfold nmGet at h
  split at h
  · rename_i hc
    injection h with _ ht
    subst ht
    refine ⟨?_, hc.2⟩
    apply bytes_ext
    obtain ⟨n, hn⟩ := cutL_form s.data.toList
    rw [nmPad_list]
    have hz : (nmCut s).size = (cutL s.data.toList).length := by rw [nmCut, size_of]
    have hz2 : (nmCut s).data.toList = cutL s.data.toList := by simp [nmCut]
    have hl := congrArg List.length hn
    simp only [List.length_append, List.length_replicate, toList_size] at hl
    rw [hz, hz2, show 12 - (cutL s.data.toList).length = n from by omega, ← hn]
  · injection h with h _; omega
theorem nmGet_cases (s : ByteArray) : nmGet s = (3, ByteArray.empty) ∨ ∃ t, nmGet s = (0, t) := by
  unfold nmGet; split
  · exact .inr ⟨_, rfl⟩
  · exact .inl rfl
/-- The document's search: the name at a place is the only one. -/
theorem nmGet_hit (s : ByteArray) (n : Nat) (hm : nmMay (s.extract 0 n) = true) (hp : nmPad (s.extract 0 n) = s) : nmGet s = (0, s.extract 0 n) := by
  have := nmGet_pad _ hm
  rw [hp] at this; exact this
theorem nmGet_miss (s : ByteArray) (h : ∀ n, 1 ≤ n → n ≤ 12 → n ≤ s.size → ¬ (nmMay (s.extract 0 n) = true ∧ nmPad (s.extract 0 n) = s)) : nmGet s = (3, ByteArray.empty) := by
  rcases nmGet_cases s with h1 | ⟨t, h1⟩
  · exact h1
  · exfalso
    obtain ⟨hp, hm⟩ := nmPad_get s t h1
    have hz := nmMay_size hm
    have ht : s.extract 0 t.size = t := by
      apply bytes_ext
      rw [toList_cut, ← hp, nmPad_list, List.drop_zero, List.take_append_of_le_length (by simp), take_all]
    have hs : s.size = 12 := by rw [← hp]; exact nmPad_size t hz.2
    exact h t.size hz.1 hz.2 (by omega) ⟨by rw [ht]; exact hm, by rw [ht]; exact hp⟩
end Go.Proofs.YtacikiambpfipaaDoor
