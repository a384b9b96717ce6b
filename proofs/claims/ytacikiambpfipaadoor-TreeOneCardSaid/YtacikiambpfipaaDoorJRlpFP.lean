/- The reader with its open lists, against the reader item within item: plain. -/
import Derived.Test.YtacikiambpfipaaDoorJRlpP
namespace Go.Proofs.YtacikiambpfipaaDoor
set_option linter.unusedVariables false
set_option linter.unusedSimpArgs false

def listIt (xs : List It) : It := .mk ByteArray.empty true xs
/-- What is told when the open lists are read to their ends: the top one (its items, its end), then the others. -/
def fin (D M : Int) (s : ByteArray) : List It → Nat → List (List It × Nat) → Nat → Nat → Rd
  | acc, en, [], at_, count =>
    if (rdSeq D M (s.extract at_ en) 2 count).e ≠ 0 then Rd.bad (rdSeq D M (s.extract at_ en) 2 count).e
    else ⟨listIt (acc ++ (rdSeq D M (s.extract at_ en) 2 count).xs), en, count + (rdSeq D M (s.extract at_ en) 2 count).items, 0⟩
  | acc, en, f :: rest, at_, count =>
    if (rdSeq D M (s.extract at_ en) (rest.length + 3) count).e ≠ 0 then Rd.bad (rdSeq D M (s.extract at_ en) (rest.length + 3) count).e
    else fin D M s (f.1 ++ [listIt (acc ++ (rdSeq D M (s.extract at_ en) (rest.length + 3) count).xs)]) f.2 rest en (count + (rdSeq D M (s.extract at_ en) (rest.length + 3) count).items)
/-- With what the sequence at hand tells. -/
def finR (D M : Int) (s : ByteArray) (acc : List It) (en : Nat) (rest : List (List It × Nat)) (count : Nat) (R : Rds) : Rd :=
  if R.e ≠ 0 then Rd.bad R.e
  else match rest with
    | [] => ⟨listIt (acc ++ R.xs), en, count + R.items, 0⟩
    | f :: rest => fin D M s (f.1 ++ [listIt (acc ++ R.xs)]) f.2 rest en (count + R.items)
theorem fin_eq (D M : Int) (s : ByteArray) (acc : List It) (en : Nat) (rest : List (List It × Nat)) (at_ count : Nat) : fin D M s acc en rest at_ count = finR D M s acc en rest count (rdSeq D M (s.extract at_ en) (rest.length + 2) count) := by
  cases rest with
  | nil => rw [fin]; rfl
  | cons f rest => rw [fin]; rfl
theorem cut_in (s : ByteArray) (a b i j : Nat) (hj : a + j ≤ b) : (s.extract a b).extract i j = s.extract (a + i) (a + j) := by
  apply bytes_ext
  rw [toList_cut, toList_cut, toList_cut, List.take_drop, List.drop_drop, List.take_take, Nat.min_eq_left (by omega)]
theorem finR_cons (D M : Int) (s : ByteArray) (acc : List It) (en : Nat) (rest : List (List It × Nat)) (count k : Nat) (x : It) (R R' : Rds) (h : R = (if R'.e ≠ 0 then Rds.bad R'.e else ⟨x :: R'.xs, k + R'.items, 0⟩)) :
    finR D M s acc en rest count R = finR D M s (acc ++ [x]) en rest (count + k) R' := by
  subst h
  unfold finR
  by_cases h1 : R'.e ≠ 0
  · rw [if_pos h1, if_pos h1, if_pos (by exact h1)]; rfl
  · rw [if_neg h1, if_neg h1, if_neg (by simp)]
    cases rest with
    | nil => simp [Nat.add_assoc]
    | cons f rest => simp [Nat.add_assoc]
/-- No sequence tells that it is short. -/
theorem rdSeq_ne2 (D M : Int) : ∀ (z : Nat) (s : ByteArray) (deep ahead : Nat), s.size ≤ z → (rdSeq D M s deep ahead).e ≠ 2 := by
  intro z
  induction z with
  | zero => intro s deep ahead h; rw [rdSeq_nil _ _ _ _ _ (by omega)]; simp
  | succ z ih =>
    intro s deep ahead h
    by_cases h0 : s.size = 0
    · rw [rdSeq_nil _ _ _ _ _ h0]; simp
    rw [rdSeq_cons D M s deep ahead h0 _ rfl]
    have hk := rdI_size D M (2 * s.size + 2) s deep ahead
    change (rdItem D M s deep ahead).e = 0 → 1 ≤ (rdItem D M s deep ahead).size ∧ (rdItem D M s deep ahead).size ≤ s.size at hk
    generalize rdItem D M s deep ahead = R at *
    by_cases h1 : R.e ≠ 0
    · rw [if_pos h1]
      show within R.e ≠ 2
      unfold within; split <;> omega
    rw [if_neg h1]
    have hk := hk (Decidable.not_not.1 h1)
    have hz' : (s.extract R.size s.size).size = s.size - R.size := size_cut _ _ _ (Nat.le_refl _)
    have hn := ih (s.extract R.size s.size) deep (ahead + R.items) (by omega)
    split
    · exact hn
    · simp
/-- An error of the next item is the whole's; one that is short is of no form. -/
theorem fin_err (D M : Int) (s : ByteArray) (acc : List It) (en : Nat) (rest : List (List It × Nat)) (at_ count : Nat) (hlt : at_ < en) (hen : en ≤ s.size) (H : Bool × Nat × Nat × Int)
    (hH : hd (s.extract at_ en) (tooDeep D (rest.length + 2)) (tooMany M count) = H) (he : H.2.2.2 ≠ 0) : fin D M s acc en rest at_ count = Rd.bad (within H.2.2.2) := by
  have hz : (s.extract at_ en).size = en - at_ := size_cut _ _ _ hen
  have hw : within H.2.2.2 ≠ 0 := by unfold within; split <;> simp_all
  rw [fin_eq, rdSeq_cons D M _ _ _ (by omega) _ rfl, rdItem_eq D M _ _ _ H hH, if_pos he, if_pos (show (Rd.bad H.2.2.2).e ≠ 0 from he)]
  unfold finR
  rw [if_pos (show (Rds.bad (within (Rd.bad H.2.2.2).e)).e ≠ 0 from hw)]; rfl
theorem fin_text (D M : Int) (s : ByteArray) (acc : List It) (en : Nat) (rest : List (List It × Nat)) (at_ count : Nat) (hlt : at_ < en) (hen : en ≤ s.size) (H : Bool × Nat × Nat × Int)
    (hH : hd (s.extract at_ en) (tooDeep D (rest.length + 2)) (tooMany M count) = H) (he : H.2.2.2 = 0) (hl : H.1 = false) :
    fin D M s acc en rest at_ count = fin D M s (acc ++ [.mk (s.extract (at_ + H.2.1) (at_ + H.2.1 + H.2.2.1)) false []]) en rest (at_ + H.2.1 + H.2.2.1) (count + 1) ∧ at_ + H.2.1 + H.2.2.1 ≤ en := by
  have hz : (s.extract at_ en).size = en - at_ := size_cut _ _ _ hen
  have hk := hd_ok (s.extract at_ en) (tooDeep D (rest.length + 2)) (tooMany M count)
  rw [hH] at hk
  have hk := hk he
  refine ⟨?_, by omega⟩
  have hI : rdItem D M (s.extract at_ en) (rest.length + 2) count = ⟨.mk ((s.extract at_ en).extract H.2.1 (H.2.1 + H.2.2.1)) false [], H.2.1 + H.2.2.1, 1, 0⟩ := by
    rw [rdItem_eq D M _ _ _ H hH, if_neg (show ¬ H.2.2.2 ≠ 0 by simp [he]), if_pos hl]
  rw [fin_eq, fin_eq]
  refine finR_cons D M s acc en rest count 1 _ _ _ ?_
  rw [rdSeq_cons D M _ _ _ (by omega) _ hI]
  dsimp only
  rw [if_neg (by simp), hz, cut_in s at_ en _ _ (by omega), cut_in s at_ en _ _ (by omega), show at_ + (en - at_) = en from by omega, Nat.add_assoc]
theorem fin_list (D M : Int) (s : ByteArray) (acc : List It) (en : Nat) (rest : List (List It × Nat)) (at_ count : Nat) (hlt : at_ < en) (hen : en ≤ s.size) (H : Bool × Nat × Nat × Int)
    (hH : hd (s.extract at_ en) (tooDeep D (rest.length + 2)) (tooMany M count) = H) (he : H.2.2.2 = 0) (hl : H.1 = true) :
    fin D M s acc en rest at_ count = fin D M s [] (at_ + H.2.1 + H.2.2.1) ((acc, en) :: rest) (at_ + H.2.1) (count + 1) ∧ at_ + H.2.1 + H.2.2.1 ≤ en ∧ 1 ≤ H.2.1 := by
  have hz : (s.extract at_ en).size = en - at_ := size_cut _ _ _ hen
  have hk := hd_ok (s.extract at_ en) (tooDeep D (rest.length + 2)) (tooMany M count)
  rw [hH] at hk
  have hk := hk he
  refine ⟨?_, by omega, hk.2.2.2 hl⟩
  have hI := rdItem_eq D M (s.extract at_ en) (rest.length + 2) count H hH
  rw [if_neg (show ¬ H.2.2.2 ≠ 0 by simp [he]), if_neg (show ¬ H.1 = false by simp [hl]), cut_in s at_ en _ _ (by omega), ← Nat.add_assoc, show rest.length + 2 + 1 = rest.length + 3 from by omega] at hI
  rw [fin_eq, rdSeq_cons D M _ _ _ (by omega) _ hI, fin]
  have hne := rdSeq_ne2 D M (s.extract (at_ + H.2.1) (at_ + H.2.1 + H.2.2.1)).size (s.extract (at_ + H.2.1) (at_ + H.2.1 + H.2.2.1)) (rest.length + 3) (count + 1) (Nat.le_refl _)
  generalize rdSeq D M (s.extract (at_ + H.2.1) (at_ + H.2.1 + H.2.2.1)) (rest.length + 3) (count + 1) = R at *
  by_cases h1 : R.e ≠ 0
  · have hw : within R.e ≠ 0 := by unfold within; split <;> simp_all
    have he2 : within R.e = R.e := by unfold within; rw [if_neg hne]
    rw [if_pos h1, if_pos (show (Rd.bad R.e).e ≠ 0 from h1)]
    unfold finR
    rw [if_pos (show (Rds.bad (within (Rd.bad R.e).e)).e ≠ 0 from hw)]
    show Rd.bad (within R.e) = _
    rw [he2, if_pos h1]
  · rw [if_neg h1]
    dsimp only
    rw [if_neg (by simp), fin_eq, hz, cut_in s at_ en _ _ (by omega), show at_ + (en - at_) = en from by omega, ← Nat.add_assoc]
    refine (finR_cons D M s acc en rest count (1 + R.items) (listIt R.xs) _ _ rfl).trans ?_
    rw [if_neg h1]
    simp [listIt, Nat.add_assoc]
theorem fin_close (D M : Int) (s : ByteArray) (acc : List It) (en : Nat) (f : List It × Nat) (rest : List (List It × Nat)) (count : Nat) (hen : en ≤ s.size) : fin D M s acc en (f :: rest) en count = fin D M s (f.1 ++ [listIt acc]) f.2 rest en count := by
  rw [fin, rdSeq_nil _ _ _ _ _ (by rw [size_cut _ _ _ hen]; omega)]
  simp
theorem fin_done (D M : Int) (s : ByteArray) (acc : List It) (en : Nat) (count : Nat) (hen : en ≤ s.size) : fin D M s acc en [] en count = ⟨listIt acc, en, count, 0⟩ := by
  rw [fin, rdSeq_nil _ _ _ _ _ (by rw [size_cut _ _ _ hen]; omega)]
  simp
/-- The first item. -/
theorem fin_first (D M : Int) (s : ByteArray) (H : Bool × Nat × Nat × Int) (hH : hd s (tooDeep D 1) (tooMany M 0) = H) :
    (H.2.2.2 ≠ 0 → rdItem D M s 1 0 = Rd.bad H.2.2.2) ∧ (H.2.2.2 = 0 → H.1 = false → rdItem D M s 1 0 = ⟨.mk (s.extract H.2.1 (H.2.1 + H.2.2.1)) false [], H.2.1 + H.2.2.1, 1, 0⟩) ∧
    (H.2.2.2 = 0 → H.1 = true → rdItem D M s 1 0 = fin D M s [] (H.2.1 + H.2.2.1) [] H.2.1 1) := by
  refine ⟨fun h => ?_, fun h hl => ?_, fun h hl => ?_⟩
  · rw [rdItem_eq D M s 1 0 H hH, if_pos h]
  · rw [rdItem_eq D M s 1 0 H hH, if_neg (by simp [h]), if_pos hl]
  · rw [rdItem_eq D M s 1 0 H hH, if_neg (by simp [h]), if_neg (by simp [hl]), fin]
    simp only [Nat.zero_add]
    split
    · rfl
    · simp [listIt]
end Go.Proofs.YtacikiambpfipaaDoor
