/- The reader with its open lists, against the reader item within item: plain. -/
/- How long a line is. No program in sight. -/
/- Values of types, as plain data. No program in sight. -/
/- How the program goes through an item: up to the first one that isn't right, or is above the limits. No program in sight. -/
import Derived.Test.YtacikiambpfipaaDoorKRlpP
import Derived.Test.YtacikiambpfipaaDoorKItemShowP
import Derived.Test.YtacikiambpfipaaDoorKTyP
import Derived.Test.YtacikiambpfipaaDoorKA1
namespace Go.Proofs.YtacikiambpfipaaDoor
set_option linter.unusedVariables false
set_option linter.unusedSimpArgs false

def listIt (xs : List It) : It := .mk ByteArray.empty true xs
/-- What is told when the open lists are read to their ends: the top one (its items, its end), then the others. -/
def fin (D M : Int) (s : ByteArray) : List It → Nat → List (List It × Nat) → Nat → Nat → Rd
  | acc, en, [], at_, count =>
    if (rdSeq D M (s.extract at_ en) 2 count).e ≠ 0 then Rd.bad (rdSeq D M (s.extract at_ en) 2 count).e
    else ⟨listIt (acc ++ (rdSeq D M (s.extract at_ en) 2 count).xs), en, count + (rdSeq D M (s.extract at_ en) 2 count).items, 0⟩
  | acc, en, f :: rest, at_, count =>
    if (rdSeq D M (s.extract at_ en) (rest.length + 3) count).e ≠ 0 then Rd.bad (rdSeq D M (s.extract at_ en) (rest.length + 3) count).e
    else fin D M s (f.1 ++ [listIt (acc ++ (rdSeq D M (s.extract at_ en) (rest.length + 3) count).xs)]) f.2 rest en (count + (rdSeq D M (s.extract at_ en) (rest.length + 3) count).items)
/-- With what the sequence at hand tells. -/
def finR (D M : Int) (s : ByteArray) (acc : List It) (en : Nat) (rest : List (List It × Nat)) (count : Nat) (R : Rds) : Rd :=
  if R.e ≠ 0 then Rd.bad R.e
  else match rest with
    | [] => ⟨listIt (acc ++ R.xs), en, count + R.items, 0⟩
    | f :: rest => fin D M s (f.1 ++ [listIt (acc ++ R.xs)]) f.2 rest en (count + R.items)
theorem fin_eq (D M : Int) (s : ByteArray) (acc : List It) (en : Nat) (rest : List (List It × Nat)) (at_ count : Nat) : fin D M s acc en rest at_ count = finR D M s acc en rest count (rdSeq D M (s.extract at_ en) (rest.length + 2) count) := by
  cases rest with
  | nil => rw [fin]; rfl
  | cons f rest => rw [fin]; rfl
theorem cut_in (s : ByteArray) (a b i j : Nat) (hj : a + j ≤ b) : (s.extract a b).extract i j = s.extract (a + i) (a + j) := by
  apply bytes_ext
  rw [toList_cut, toList_cut, toList_cut, List.take_drop, List.drop_drop, List.take_take, Nat.min_eq_left (by omega)]
theorem finR_cons (D M : Int) (s : ByteArray) (acc : List It) (en : Nat) (rest : List (List It × Nat)) (count k : Nat) (x : It) (R R' : Rds) (h : R = (if R'.e ≠ 0 then Rds.bad R'.e else ⟨x :: R'.xs, k + R'.items, 0⟩)) :
    finR D M s acc en rest count R = finR D M s (acc ++ [x]) en rest (count + k) R' := by
  subst h
  unfold finR
  by_cases h1 : R'.e ≠ 0
  · rw [if_pos h1, if_pos h1, if_pos (by exact h1)]; rfl
  · rw [if_neg h1, if_neg h1, if_neg (by simp)]
    cases rest with
    | nil => simp [Nat.add_assoc]
    | cons f rest => simp [Nat.add_assoc]
/-- No sequence tells that it is short. -/
theorem rdSeq_ne2 (D M : Int) : ∀ (z : Nat) (s : ByteArray) (deep ahead : Nat), s.size ≤ z → (rdSeq D M s deep ahead).e ≠ 2 := by
  intro z
  induction z with
  | zero => intro s deep ahead h; rw [rdSeq_nil _ _ _ _ _ (by omega)]; simp
  | succ z ih =>
    intro s deep ahead h
    by_cases h0 : s.size = 0
    · rw [rdSeq_nil _ _ _ _ _ h0]; simp
    rw [rdSeq_cons D M s deep ahead h0 _ rfl]
    have hk := rdI_size D M (2 * s.size + 2) s deep ahead
    change (rdItem D M s deep ahead).e = 0 → 1 ≤ (rdItem D M s deep ahead).size ∧ (rdItem D M s deep ahead).size ≤ s.size at hk
    generalize rdItem D M s deep ahead = R at *
    by_cases h1 : R.e ≠ 0
    · rw [if_pos h1]
      show within R.e ≠ 2
      unfold within; split <;> omega
    rw [if_neg h1]
    have hk := hk (Decidable.not_not.1 h1)
    have hz' : (s.extract R.size s.size).size = s.size - R.size := size_cut _ _ _ (Nat.le_refl _)
    have hn := ih (s.extract R.size s.size) deep (ahead + R.items) (by omega)
    split
    · exact hn
    · simp
/-- An error of the next item is the whole's; one that is short is of no form. -/
theorem fin_err (D M : Int) (s : ByteArray) (acc : List It) (en : Nat) (rest : List (List It × Nat)) (at_ count : Nat) (hlt : at_ < en) (hen : en ≤ s.size) (H : Bool × Nat × Nat × Int)
    (hH : hd (s.extract at_ en) (tooDeep D (rest.length + 2)) (tooMany M count) = H) (he : H.2.2.2 ≠ 0) : fin D M s acc en rest at_ count = Rd.bad (within H.2.2.2) := by
  have hz : (s.extract at_ en).size = en - at_ := size_cut _ _ _ hen
  have hw : within H.2.2.2 ≠ 0 := by unfold within; split <;> simp_all
  rw [fin_eq, rdSeq_cons D M _ _ _ (by omega) _ rfl, rdItem_eq D M _ _ _ H hH, if_pos he, if_pos (show (Rd.bad H.2.2.2).e ≠ 0 from he)]
  unfold finR
  rw [if_pos (show (Rds.bad (within (Rd.bad H.2.2.2).e)).e ≠ 0 from hw)]; rfl
theorem fin_text (D M : Int) (s : ByteArray) (acc : List It) (en : Nat) (rest : List (List It × Nat)) (at_ count : Nat) (hlt : at_ < en) (hen : en ≤ s.size) (H : Bool × Nat × Nat × Int)
    (hH : hd (s.extract at_ en) (tooDeep D (rest.length + 2)) (tooMany M count) = H) (he : H.2.2.2 = 0) (hl : H.1 = false) :
    fin D M s acc en rest at_ count = fin D M s (acc ++ [.mk (s.extract (at_ + H.2.1) (at_ + H.2.1 + H.2.2.1)) false []]) en rest (at_ + H.2.1 + H.2.2.1) (count + 1) ∧ at_ + H.2.1 + H.2.2.1 ≤ en := by
  have hz : (s.extract at_ en).size = en - at_ := size_cut _ _ _ hen
  have hk := hd_ok (s.extract at_ en) (tooDeep D (rest.length + 2)) (tooMany M count)
  rw [hH] at hk
  have hk := hk he
  refine ⟨?_, by omega⟩
  have hI : rdItem D M (s.extract at_ en) (rest.length + 2) count = ⟨.mk ((s.extract at_ en).extract H.2.1 (H.2.1 + H.2.2.1)) false [], H.2.1 + H.2.2.1, 1, 0⟩ := by
    rw [rdItem_eq D M _ _ _ H hH, if_neg (show ¬ H.2.2.2 ≠ 0 by simp [he]), if_pos hl]
  rw [fin_eq, fin_eq]
  refine finR_cons D M s acc en rest count 1 _ _ _ ?_
  rw [rdSeq_cons D M _ _ _ (by omega) _ hI]
  dsimp only
  rw [if_neg (by simp), hz, cut_in s at_ en _ _ (by omega), cut_in s at_ en _ _ (by omega), show at_ + (en - at_) = en from by omega, Nat.add_assoc]
theorem fin_list (D M : Int) (s : ByteArray) (acc : List It) (en : Nat) (rest : List (List It × Nat)) (at_ count : Nat) (hlt : at_ < en) (hen : en ≤ s.size) (H : Bool × Nat × Nat × Int)
    (hH : hd (s.extract at_ en) (tooDeep D (rest.length + 2)) (tooMany M count) = H) (he : H.2.2.2 = 0) (hl : H.1 = true) :
    fin D M s acc en rest at_ count = fin D M s [] (at_ + H.2.1 + H.2.2.1) ((acc, en) :: rest) (at_ + H.2.1) (count + 1) ∧ at_ + H.2.1 + H.2.2.1 ≤ en ∧ 1 ≤ H.2.1 := by
  have hz : (s.extract at_ en).size = en - at_ := size_cut _ _ _ hen
  have hk := hd_ok (s.extract at_ en) (tooDeep D (rest.length + 2)) (tooMany M count)
  rw [hH] at hk
  have hk := hk he
  refine ⟨?_, by omega, hk.2.2.2 hl⟩
  have hI := rdItem_eq D M (s.extract at_ en) (rest.length + 2) count H hH
  rw [if_neg (show ¬ H.2.2.2 ≠ 0 by simp [he]), if_neg (show ¬ H.1 = false by simp [hl]), cut_in s at_ en _ _ (by omega), ← Nat.add_assoc, show rest.length + 2 + 1 = rest.length + 3 from by omega] at hI
  rw [fin_eq, rdSeq_cons D M _ _ _ (by omega) _ hI, fin]
  have hne := rdSeq_ne2 D M (s.extract (at_ + H.2.1) (at_ + H.2.1 + H.2.2.1)).size (s.extract (at_ + H.2.1) (at_ + H.2.1 + H.2.2.1)) (rest.length + 3) (count + 1) (Nat.le_refl _)
  generalize rdSeq D M (s.extract (at_ + H.2.1) (at_ + H.2.1 + H.2.2.1)) (rest.length + 3) (count + 1) = R at *
  by_cases h1 : R.e ≠ 0
  · have hw : within R.e ≠ 0 := by unfold within; split <;> simp_all
    have he2 : within R.e = R.e := by unfold within; rw [if_neg hne]
    rw [if_pos h1, if_pos (show (Rd.bad R.e).e ≠ 0 from h1)]
    unfold finR
    rw [if_pos (show (Rds.bad (within (Rd.bad R.e).e)).e ≠ 0 from hw)]
    show Rd.bad (within R.e) = _
    rw [he2, if_pos h1]
  · rw [if_neg h1]
    dsimp only
    rw [if_neg (by simp), fin_eq, hz, cut_in s at_ en _ _ (by omega), show at_ + (en - at_) = en from by omega, ← Nat.add_assoc]
    refine (finR_cons D M s acc en rest count (1 + R.items) (listIt R.xs) _ _ rfl).trans ?_
    rw [if_neg h1]
    simp [listIt, Nat.add_assoc]
theorem fin_close (D M : Int) (s : ByteArray) (acc : List It) (en : Nat) (f : List It × Nat) (rest : List (List It × Nat)) (count : Nat) (hen : en ≤ s.size) : fin D M s acc en (f :: rest) en count = fin D M s (f.1 ++ [listIt acc]) f.2 rest en count := by
  rw [fin, rdSeq_nil _ _ _ _ _ (by rw [size_cut _ _ _ hen]; omega)]
  simp
theorem fin_done (D M : Int) (s : ByteArray) (acc : List It) (en : Nat) (count : Nat) (hen : en ≤ s.size) : fin D M s acc en [] en count = ⟨listIt acc, en, count, 0⟩ := by
  rw [fin, rdSeq_nil _ _ _ _ _ (by rw [size_cut _ _ _ hen]; omega)]
  simp
/-- The first item. -/
theorem fin_first (D M : Int) (s : ByteArray) (H : Bool × Nat × Nat × Int) (hH : hd s (tooDeep D 1) (tooMany M 0) = H) :
    (H.2.2.2 ≠ 0 → rdItem D M s 1 0 = Rd.bad H.2.2.2) ∧ (H.2.2.2 = 0 → H.1 = false → rdItem D M s 1 0 = ⟨.mk (s.extract H.2.1 (H.2.1 + H.2.2.1)) false [], H.2.1 + H.2.2.1, 1, 0⟩) ∧
    (H.2.2.2 = 0 → H.1 = true → rdItem D M s 1 0 = fin D M s [] (H.2.1 + H.2.2.1) [] H.2.1 1) := by
  refine ⟨fun h => ?_, fun h hl => ?_, fun h hl => ?_⟩
  · rw [rdItem_eq D M s 1 0 H hH, if_pos h]
  · rw [rdItem_eq D M s 1 0 H hH, if_neg (by simp [h]), if_pos hl]
  · rw [rdItem_eq D M s 1 0 H hH, if_neg (by simp [h]), if_neg (by simp [hl]), fin]
    simp only [Nat.zero_add]
    split
    · rfl
    · simp [listIt]
end Go.Proofs.YtacikiambpfipaaDoor
namespace Go.Proofs.YtacikiambpfipaaDoor
set_option linter.unusedVariables false
set_option linter.unusedSimpArgs false

mutual
/-- How many bytes the texts have. -/
def It.total : It → Nat
  | .mk t _ s => t.size + totalL s
def totalL : List It → Nat
  | [] => 0
  | x :: xs => x.total + totalL xs
end
theorem bulkL_total (s : List It) (ih : ∀ x ∈ s, x.bulk = min x.total 10000) : ∀ n, n ≤ 10000 → bulkL s n = min (n + totalL s) 10000 := by
  induction s with
  | nil => intro n hn; simp [bulkL, totalL]; omega
  | cons x xs hxs =>
    intro n hn
    have h1 := ih x (by simp)
    simp only [bulkL, totalL]
    rw [hxs (fun y hy => ih y (by simp [hy])) _ (by omega), h1]
    omega
theorem bulk_total (x : It) : x.bulk = min x.total 10000 := by
  induction x using It.ind with
  | h t l s ih =>
    simp only [It.bulk, It.total]
    rw [bulkL_total s ih _ (by omega)]
    omega
theorem showL_total (s : List It) (ih : ∀ x ∈ s, x.show.length + 1 ≤ 2 * x.total + 3 * x.count) : ∀ f, (showL f s).length ≤ 2 * totalL s + 3 * countL s := by
  induction s with
  | nil => intro f; simp [showL]
  | cons x xs hxs =>
    intro f
    have h1 := ih x (by simp)
    have h2 := hxs (fun y hy => ih y (by simp [hy])) false
    simp only [showL, totalL, countL, List.length_append]
    cases f <;> simp <;> omega
theorem show_total (x : It) : x.show.length + 1 ≤ 2 * x.total + 3 * x.count := by
  induction x using It.ind with
  | h t l s ih =>
    have h1 := showL_total s ih true
    simp only [It.show, It.total, It.count]
    cases l with
    | true => simp; omega
    | false =>
      by_cases h : t.size = 0
      · simp [h]; omega
      · simp [h, hxL_length]; omega
theorem great_show (x : It) (h : x.great = false) : x.show.length ≤ 20000 := by
  have h1 := great_count x h
  have h2 := show_total x
  have h3 := bulk_total x
  simp only [It.great, Bool.or_eq_false_iff, decide_eq_false_iff_not] at h
  omega
end Go.Proofs.YtacikiambpfipaaDoor
namespace Go.Proofs.YtacikiambpfipaaDoor
set_option linter.unusedVariables false
set_option linter.unusedSimpArgs false

def lead0 : List UInt8 → Bool
  | [] => false
  | b :: _ => b == 0
/-- The type of the value at a place within. -/
def Ty.at (t : Ty) (i : Nat) : Ty := (t.sub[if t.kind = 4 then 0 else i]?).getD (.mk 0 0 [] 0)
/-- Is an item, those within it apart, a value of a type? -/
def is1 (t : Ty) (tx : ByteArray) (l : Bool) (m : Nat) : Bool :=
  if t.kind = 1 then !l && decide ((tx.size : Int) ≤ t.size) && !lead0 tx.data.toList
  else if t.kind = 2 then !l && decide ((tx.size : Int) = t.size)
  else if t.kind = 3 then !l && decide ((tx.size : Int) ≤ t.size)
  else if t.kind = 4 then l && decide ((m : Int) ≤ t.size)
  else l && decide (m ≤ t.sub.length) && decide ((t.sub.length : Int) - t.tail ≤ m)
mutual
def It.isOf : It → Ty → Bool
  | .mk tx l s, t => is1 t tx l s.length && isOfL s t 0
def isOfL : List It → Ty → Nat → Bool
  | [], _, _ => true
  | x :: xs, t, i => x.isOf (t.at i) && isOfL xs t (i + 1)
end
theorem isOfL_append (a b : List It) (t : Ty) (i : Nat) : isOfL (a ++ b) t i = (isOfL a t i && isOfL b t (i + a.length)) := by
  induction a generalizing i with
  | nil => simp [isOfL]
  | cons x xs ih => simp only [List.cons_append, isOfL, ih, List.length_cons, Bool.and_assoc]; rw [show i + 1 + xs.length = i + (xs.length + 1) from by omega]
theorem isOfL_take {s : List It} {k : Nat} {t : Ty} (h : k < s.length) : isOfL (s.take (k + 1)) t 0 = (isOfL (s.take k) t 0 && s[k].isOf (t.at k)) := by
  rw [take_succ_it s k h, isOfL_append]; simp [isOfL, Nat.min_eq_left (Nat.le_of_lt h)]
theorem isOfL_false {s : List It} {k : Nat} {t : Ty} (h : k < s.length) (hf : s[k].isOf (t.at k) = false) : isOfL s t 0 = false := by
  have h1 := isOfL_append (s.take (k + 1)) (s.drop (k + 1)) t 0
  rw [List.take_append_drop, isOfL_take h, hf] at h1
  simpa using h1

def noughts (n : Nat) : ByteArray := ⟨(List.replicate n 0).toArray⟩
theorem noughts_size (n : Nat) : (noughts n).size = n := by simp [noughts, ByteArray.size]
mutual
/-- The zero value. -/
def Ty.zero : Ty → It
  | .mk k s l t => if k = 2 then .mk (noughts s.toNat) false [] else if k = 4 then .mk ⟨#[]⟩ true [] else if k = 5 then .mk ⟨#[]⟩ true (zeroL l ((l.length : Int) - t).toNat) else .mk ⟨#[]⟩ false []
def zeroL : List Ty → Nat → List It
  | [], _ => []
  | _ :: _, 0 => []
  | x :: xs, n + 1 => x.zero :: zeroL xs n
end
theorem zeroL_eq : ∀ (l : List Ty) (n : Nat), zeroL l n = (l.take n).map Ty.zero
  | [], n => by cases n <;> simp [zeroL]
  | x :: xs, 0 => by simp [zeroL]
  | x :: xs, n + 1 => by simp [zeroL, zeroL_eq xs n]
/-- How many types within the zero value has a value of. -/
def Ty.kept (t : Ty) : Nat := if t.kind = 5 then ((t.sub.length : Int) - t.tail).toNat else 0
mutual
def Ty.least : Ty → Nat
  | .mk k _ l t => 1 + leastL l (if k = 5 then ((l.length : Int) - t).toNat else 0)
def leastL : List Ty → Nat → Nat
  | [], _ => 0
  | _ :: _, 0 => 0
  | x :: xs, n + 1 => x.least + leastL xs n
end
theorem leastL_eq : ∀ (l : List Ty) (n : Nat), leastL l n = ((l.take n).map Ty.least).sum
  | [], n => by cases n <;> simp [leastL]
  | x :: xs, 0 => by simp [leastL]
  | x :: xs, n + 1 => by simp [leastL, leastL_eq xs n]
theorem countL_map (l : List Ty) (h : ∀ x ∈ l, x.zero.count = x.least) : countL (l.map Ty.zero) = (l.map Ty.least).sum := by
  induction l with
  | nil => simp [countL]
  | cons x xs ih => simp only [List.map_cons, countL, List.sum_cons, h x (by simp), ih (fun y hy => h y (by simp [hy]))]
theorem zero_count (x : Ty) : x.zero.count = x.least := by
  induction x using Ty.ind with
  | h k s l t ih =>
    simp only [Ty.zero, Ty.least]
    by_cases h5 : k = 5
    · subst h5
      rw [if_neg (by decide), if_neg (by decide), if_pos rfl, if_pos rfl, It.count, zeroL_eq, leastL_eq]
      rw [countL_map _ fun y hy => ih y (List.mem_of_mem_take hy)]
    · rw [if_neg h5]
      have : leastL l 0 = 0 := by cases l <;> rfl
      rw [if_neg h5, this]
      split
      · simp [It.count, countL]
      · split <;> simp [It.count, countL]
theorem leastL_le (l : List Ty) (n : Nat) (h : ∀ x ∈ l, x.least ≤ x.count) : leastL l n ≤ countT l := by
  induction l generalizing n with
  | nil => simp [leastL]
  | cons x xs ih =>
    cases n with
    | zero => simp [leastL]
    | succ n =>
      have h1 := h x (by simp)
      have h2 := ih n (fun y hy => h y (by simp [hy]))
      simp only [leastL, countT]; omega
theorem least_le (x : Ty) : x.least ≤ x.count := by
  induction x using Ty.ind with
  | h k s l t ih => simp only [Ty.least, Ty.count]; have := leastL_le l (if k = 5 then ((l.length : Int) - t).toNat else 0) ih; omega
theorem least_pos (x : Ty) : 1 ≤ x.least := by cases x; simp [Ty.least]
theorem deepL_map (l : List Ty) (h : ∀ x ∈ l, x.zero.deep ≤ x.deep) : deepL (l.map Ty.zero) ≤ deepT l := by
  induction l with
  | nil => simp [deepL]
  | cons x xs ih =>
    have h1 := h x (by simp)
    have h2 := ih (fun y hy => h y (by simp [hy]))
    simp only [List.map_cons, deepL, deepT]; omega
theorem zero_deep (x : Ty) : x.zero.deep ≤ x.deep := by
  induction x using Ty.ind with
  | h k s l t ih =>
    simp only [Ty.zero, Ty.deep]
    split
    · simp [It.deep, deepL]
    · split
      · simp [It.deep, deepL]
      · split
        · rw [It.deep, zeroL_eq]
          have := deepL_map _ fun y hy => ih y (List.mem_of_mem_take (i := ((l.length : Int) - t).toNat) hy)
          have h2 := deepT_take_le l ((l.length : Int) - t).toNat
          omega
        · simp [It.deep, deepL]
theorem rightL_map (l : List Ty) (h : ∀ x ∈ l, x.zero.right = true) : rightL (l.map Ty.zero) = true := by
  induction l with
  | nil => simp [rightL]
  | cons x xs ih => simp only [List.map_cons, rightL, h x (by simp), ih (fun y hy => h y (by simp [hy])), Bool.and_self]
theorem zero_right (x : Ty) : x.zero.right = true := by
  induction x using Ty.ind with
  | h k s l t ih =>
    simp only [Ty.zero]
    split
    · simp [It.right, rightL, formed]
    · split
      · simp [It.right, rightL, formed, ByteArray.size]
      · split
        · rw [It.right, zeroL_eq, rightL_map _ fun y hy => ih y (List.mem_of_mem_take hy)]
          simp [formed, ByteArray.size]
        · simp [It.right, rightL, formed]
theorem ty_may {t : Ty} (h : t.may = true) : t.count ≤ 64 ∧ t.deep ≤ 8 ∧ t.right = true := by
  unfold Ty.may at h
  simp only [Bool.and_eq_true, decide_eq_true_eq] at h
  exact ⟨h.1.1, h.1.2, h.2⟩
theorem zero_may {t : Ty} (h : t.may = true) : t.zero.may = true := by
  obtain ⟨h1, h2, h3⟩ := ty_may h
  have := zero_deep t
  have := zero_count t
  have := least_le t
  simp only [It.may, zero_right, Bool.true_and, Bool.and_eq_true, decide_eq_true_eq]
  omega
theorem right_ok {k s : Int} {l : List Ty} {t : Int} (h : (Ty.mk k s l t).right = true) : tyOk k s l.length t = true ∧ rightT l = true := by
  simpa only [Ty.right, Bool.and_eq_true] using h
/-- What a kind asks for. -/
theorem ok_ways {k s : Int} {n : Nat} {t : Int} (h : tyOk k s n t = true) :
    (k = 1 ∧ (s = 1 ∨ s = 2 ∨ s = 4 ∨ s = 8) ∧ n = 0 ∧ t = 0) ∨ (k = 2 ∧ 1 ≤ s ∧ s ≤ 65536 ∧ n = 0 ∧ t = 0) ∨ (k = 3 ∧ 0 ≤ s ∧ s ≤ 65536 ∧ n = 0 ∧ t = 0) ∨ (k = 4 ∧ 0 ≤ s ∧ s ≤ 1024 ∧ n = 1 ∧ t = 0) ∨ (k = 5 ∧ s = 0 ∧ n ≤ 16 ∧ 0 ≤ t ∧ t ≤ n) := by
  unfold tyOk at h
  split at h
  · exact .inl ⟨by assumption, by simpa using h⟩
  · split at h
    · exact .inr (.inl ⟨by assumption, by simpa using h⟩)
    · split at h
      · exact .inr (.inr (.inl ⟨by assumption, by simpa using h⟩))
      · split at h
        · exact .inr (.inr (.inr (.inl ⟨by assumption, by simpa using h⟩)))
        · split at h
          · exact .inr (.inr (.inr (.inr ⟨by assumption, by simpa using h⟩)))
          · cases h
theorem isOfL_map (t : Ty) (l : List Ty) (hk : t.kind = 5) (ih : ∀ x ∈ l, x.zero.isOf x = true) : ∀ i, (∀ j, j < l.length → t.sub[i + j]? = l[j]?) → isOfL (l.map Ty.zero) t i = true := by
  induction l with
  | nil => intro i _; rfl
  | cons x xs hxs =>
    intro i h
    have h0 := h 0 (by simp)
    have e : t.at i = x := by
      unfold Ty.at
      rw [if_neg (by omega)]
      rw [Nat.add_zero] at h0
      rw [h0]; rfl
    rw [List.map_cons, isOfL, e, ih x (by simp), Bool.true_and]
    refine hxs (fun y hy => ih y (by simp [hy])) (i + 1) fun j hj => ?_
    have := h (j + 1) (by simp; omega)
    rw [show i + 1 + j = i + (j + 1) from by omega, this]
    simp
/-- The zero value is one. -/
theorem zero_isOf (x : Ty) : x.right = true → x.zero.isOf x = true := by
  induction x using Ty.ind with
  | h k s l t ih =>
    intro hr
    obtain ⟨h1, h2⟩ := right_ok hr
    rcases ok_ways h1 with ⟨rfl, hs, hn, ht⟩ | ⟨rfl, h3, h4, hn, ht⟩ | ⟨rfl, h3, h4, hn, ht⟩ | ⟨rfl, h3, h4, hn, ht⟩ | ⟨rfl, h3, h4, h5, h6⟩
    · simp [Ty.zero, It.isOf, isOfL, is1, lead0, ByteArray.size]; omega
    · simp [Ty.zero, It.isOf, isOfL, is1, noughts_size]; omega
    · simp [Ty.zero, It.isOf, isOfL, is1, ByteArray.size]; omega
    · simp [Ty.zero, It.isOf, isOfL, is1, h3]
    · have hlen : (zeroL l ((l.length : Int) - t).toNat).length = ((l.length : Int) - t).toNat := by rw [zeroL_eq]; simp; omega
      simp only [Ty.zero, if_neg (show ¬ (5 : Int) = 2 by decide), if_neg (show ¬ (5 : Int) = 4 by decide), if_true, It.isOf]
      rw [Bool.and_eq_true]
      refine ⟨?_, ?_⟩
      · simp only [is1, Ty.kind_mk, Ty.sub_mk, Ty.tail_mk, hlen, if_neg (show ¬ (5 : Int) = 1 by decide), if_neg (show ¬ (5 : Int) = 2 by decide), if_neg (show ¬ (5 : Int) = 3 by decide), if_neg (show ¬ (5 : Int) = 4 by decide), Bool.true_and, Bool.and_eq_true, decide_eq_true_eq]
        omega
      · rw [zeroL_eq]
        refine isOfL_map _ _ rfl (fun y hy => ?_) 0 fun j hj => ?_
        · have hm := List.mem_of_mem_take hy
          refine ih y hm ?_
          obtain ⟨i, hi, rfl⟩ := List.getElem_of_mem hm
          exact rightT_at h2 i hi
        · simp only [Nat.zero_add, Ty.sub_mk]
          simp at hj
          rw [List.getElem?_take_of_lt (by omega)]
mutual
/-- Has a type, or one within it, a size above 3,000? -/
def Ty.wide : Ty → Bool
  | .mk k s l _ => (decide (k = 2) && decide (3000 < s)) || wideL l
def wideL : List Ty → Bool
  | [] => false
  | x :: xs => x.wide || wideL xs
end
theorem wideL_append (a b : List Ty) : wideL (a ++ b) = (wideL a || wideL b) := by
  induction a with
  | nil => simp [wideL]
  | cons x xs ih => simp [wideL, ih, Bool.or_assoc]
theorem wideL_take (s : List Ty) (k : Nat) (h : k < s.length) : wideL (s.take (k + 1)) = (wideL (s.take k) || s[k].wide) := by
  rw [take_succ_ty s k h, wideL_append]; simp [wideL]
theorem wideL_true (s : List Ty) (k : Nat) (h : k < s.length) (hf : s[k].wide = true) : wideL s = true := by
  have h1 := wideL_append (s.take (k + 1)) (s.drop (k + 1))
  rw [List.take_append_drop, wideL_take s k h, hf] at h1
  simpa using h1
theorem wideL_at {s : List Ty} (h : wideL s = false) (k : Nat) (hk : k < s.length) : s[k].wide = false := by
  cases hr : s[k].wide with
  | false => rfl
  | true => rw [wideL_true s k hk hr] at h; cases h
/-- Whether an item is a value of a type: the error. -/
def fitE (ty : Ty) (x : It) : Int := if ty.may && x.may then (if x.isOf ty then 0 else 12) else 1
end Go.Proofs.YtacikiambpfipaaDoor
namespace Go.Proofs.YtacikiambpfipaaDoor
set_option linter.unusedVariables false
set_option linter.unusedSimpArgs false

mutual
/-- At a level, so many items so far, so deep so far: whether it comes to the end, how many, how deep. -/
def It.vis : It → Nat → Nat → Nat → Bool × Nat × Nat
  | .mk t l s, lv, c, d => if 16 < lv ∨ c = 1024 ∨ formed t l s.length = false then (false, c, d) else visL s (lv + 1) (c + 1) (max d lv)
def visL : List It → Nat → Nat → Nat → Bool × Nat × Nat
  | [], _, c, d => (true, c, d)
  | x :: xs, lv, c, d => if (x.vis lv c d).1 then visL xs lv (x.vis lv c d).2.1 (x.vis lv c d).2.2 else (false, (x.vis lv c d).2.1, (x.vis lv c d).2.2)
end
theorem visL_append (a b : List It) (lv c d : Nat) : visL (a ++ b) lv c d = if (visL a lv c d).1 then visL b lv (visL a lv c d).2.1 (visL a lv c d).2.2 else (false, (visL a lv c d).2.1, (visL a lv c d).2.2) := by
  induction a generalizing c d with
  | nil => simp [visL]
  | cons x xs ih =>
    by_cases h : (x.vis lv c d).1 = true
    · simp only [List.cons_append, visL, h, if_true, ih]
    · simp [visL, h]
theorem visL_take {s : List It} {k lv c d c1 d1 : Nat} (h : k < s.length) (ht : visL (s.take k) lv c d = (true, c1, d1)) : visL (s.take (k + 1)) lv c d = s[k].vis lv c1 d1 := by
  rw [take_succ_it s k h, visL_append, ht]
  simp only [if_true, visL]
  by_cases h2 : (s[k].vis lv c1 d1).1 = true
  · rw [if_pos h2, ← h2]
  · rw [if_neg h2]
    simp only [Bool.not_eq_true] at h2
    rw [← h2]
theorem visL_stop {s : List It} {k lv c d c1 d1 c2 d2 : Nat} (h : k < s.length) (ht : visL (s.take k) lv c d = (true, c1, d1)) (hf : s[k].vis lv c1 d1 = (false, c2, d2)) : visL s lv c d = (false, c2, d2) := by
  have h1 := visL_append (s.take (k + 1)) (s.drop (k + 1)) lv c d
  rw [List.take_append_drop, visL_take h ht, hf] at h1
  simpa using h1
/-- What it comes to. -/
def IVisIs (x : It) : Prop := ∀ lv c d, 1 ≤ lv → c ≤ 1024 → (((x.vis lv c d).1 = true ↔ x.right = true ∧ lv + x.deep ≤ 17 ∧ c + x.count ≤ 1024) ∧ ((x.vis lv c d).1 = true → (x.vis lv c d).2 = (c + x.count, max d (lv - 1 + x.deep))) ∧ (x.vis lv c d).2.1 ≤ 1024 ∧ (x.vis lv c d).2.2 ≤ max d 16)
theorem visL_is (s : List It) (ih : ∀ x ∈ s, IVisIs x) : ∀ lv c d, 1 ≤ lv → c ≤ 1024 → (((visL s lv c d).1 = true ↔ rightL s = true ∧ (s = [] ∨ lv + deepL s ≤ 17) ∧ c + countL s ≤ 1024) ∧ ((visL s lv c d).1 = true → (visL s lv c d).2 = (c + countL s, if s = [] then d else max d (lv - 1 + deepL s))) ∧ (visL s lv c d).2.1 ≤ 1024 ∧ (visL s lv c d).2.2 ≤ max d 16) := by
  induction s with
  | nil => intro lv c d hl hc; simp [visL, rightL, countL, hc]; omega
  | cons x xs hxs =>
    intro lv c d hl hc
    obtain ⟨h1, h2, h3, h4⟩ := ih x (by simp) lv c d hl hc
    by_cases hv : (x.vis lv c d).1 = true
    · have h5 := h2 hv
      have h6 := h1.1 hv
      obtain ⟨g1, g2, g3, g4⟩ := hxs (fun y hy => ih y (by simp [hy])) lv (c + x.count) (max d (lv - 1 + x.deep)) hl h6.2.2
      simp only [visL, hv, if_true, h5]
      simp only [rightL, countL, deepL, Bool.and_eq_true, h6.1, true_and]
      refine ⟨?_, ?_, g3, by omega⟩
      · rw [g1]
        constructor
        · rintro ⟨a, b, e⟩
          refine ⟨a, .inr ?_, by omega⟩
          rcases b with rfl | b
          · simp [deepL]; omega
          · omega
        · rintro ⟨a, b, e⟩
          refine ⟨a, ?_, by omega⟩
          rcases b with b | b
          · cases b
          · exact .inr (by omega)
      · intro hh
        rw [g2 hh]
        by_cases hn : xs = []
        · subst hn; simp [deepL, countL]
        · simp only [hn, if_false]
          simp; omega
    · simp only [visL, hv]
      refine ⟨?_, by simp, by simpa using h3, by simpa using h4⟩
      simp only [Bool.false_eq_true, if_false, false_iff]
      rintro ⟨a, b, e⟩
      simp only [rightL, countL, deepL, Bool.and_eq_true] at a b e
      exact hv (h1.2 ⟨a.1, by rcases b with b | b; cases b; omega, by omega⟩)
theorem vis_is (x : It) : IVisIs x := by
  induction x using It.ind with
  | h t l s ih =>
    intro lv c d hl hc
    by_cases hbad : 16 < lv ∨ c = 1024 ∨ formed t l s.length = false
    · simp only [It.vis, if_pos hbad, It.right, It.deep, It.count]
      refine ⟨?_, by simp, hc, by omega⟩
      simp only [Bool.false_eq_true, false_iff, Bool.and_eq_true]
      rintro ⟨⟨a, _⟩, b, e⟩
      rcases hbad with h | h | h
      · omega
      · omega
      · rw [h] at a; cases a
    · obtain ⟨n1, n2, n3⟩ : ¬ 16 < lv ∧ ¬ c = 1024 ∧ ¬ formed t l s.length = false := by
        refine ⟨fun h => hbad (.inl h), fun h => hbad (.inr (.inl h)), fun h => hbad (.inr (.inr h))⟩
      obtain ⟨g1, g2, g3, g4⟩ := visL_is s ih (lv + 1) (c + 1) (max d lv) (by omega) (by omega)
      simp only [It.vis, if_neg hbad, It.right, It.deep, It.count]
      simp only [Bool.not_eq_false] at n3
      refine ⟨?_, ?_, g3, by omega⟩
      · rw [g1, n3]
        simp only [Bool.true_and]
        constructor
        · rintro ⟨a, b, e⟩
          refine ⟨a, ?_, by omega⟩
          rcases b with rfl | b
          · simp [deepL]; omega
          · omega
        · rintro ⟨a, b, e⟩
          exact ⟨a, .inr (by omega), by omega⟩
      · intro hh
        rw [g2 hh]
        by_cases hn : s = []
        · subst hn; simp [deepL, countL]; omega
        · simp only [hn, if_false]
          simp; omega
/-- Whether an item may be, as the program asks it. -/
theorem vis_may (x : It) : (x.vis 1 0 0).1 = x.may := by
  have h := (vis_is x 1 0 0 (by omega) (by omega)).1
  rw [Bool.eq_iff_iff, h]
  simp only [It.may, Bool.and_eq_true, decide_eq_true_eq, Nat.zero_add]
  constructor
  · rintro ⟨a, b, c⟩; exact ⟨⟨a, by omega⟩, c⟩
  · rintro ⟨⟨a, b⟩, c⟩; exact ⟨a, by omega, c⟩
/-- Within the caps: the error. -/
def capsE (x : It) (D M : Int) : Int := if x.may = false then 1 else if D < x.deep then 6 else if M < x.count then 4 else 0
end Go.Proofs.YtacikiambpfipaaDoor
