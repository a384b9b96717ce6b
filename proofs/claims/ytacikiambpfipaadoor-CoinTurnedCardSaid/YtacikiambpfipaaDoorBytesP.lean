/- Texts and the lists of their bytes: small plain laws. No program in sight. -/
import Derived.Below
import Derived.Laws.Strings
namespace Go.Proofs.YtacikiambpfipaaDoor
set_option linter.unusedVariables false
set_option linter.unusedSimpArgs false

theorem bytes_ext {a b : ByteArray} (h : a.data.toList = b.data.toList) : a = b := by
  cases a; cases b; simp at h; simpa using h
theorem bytes_of (s : ByteArray) : (⟨s.data.toList.toArray⟩ : ByteArray) = s := bytes_ext (by simp)
theorem toList_size (s : ByteArray) : s.data.toList.length = s.size := by simp
theorem size_of (l : List UInt8) : (⟨l.toArray⟩ : ByteArray).size = l.length := by simp [ByteArray.size]
theorem toList_app (a b : ByteArray) : (a ++ b).data.toList = a.data.toList ++ b.data.toList := by
  rw [ByteArray.data_append]; simp
theorem toList_cut (s : ByteArray) (i j : Nat) : (s.extract i j).data.toList = (s.data.toList.take j).drop i := by
  rw [ByteArray.data_extract, Array.toList_extract, List.extract_eq_take_drop, List.drop_take]
theorem cut_one (s : ByteArray) (k : Nat) (h : k < s.size) : (s.extract k (k + 1)).data.toList = [s[k]] := by
  rw [toList_cut, List.take_succ_eq_append_getElem (by simpa using h), List.drop_append_of_le_length (by simp; omega), List.drop_eq_nil_of_le (by simp; omega)]; rfl
theorem size_cut (s : ByteArray) (i j : Nat) (hj : j ≤ s.size) : (s.extract i j).size = j - i := by
  rw [ByteArray.size_extract, Nat.min_eq_left hj]
theorem size_app (a b : ByteArray) : (a ++ b).size = a.size + b.size := ByteArray.size_append
theorem take_snoc (s : ByteArray) (k : Nat) (h : k < s.size) : s.data.toList.take (k + 1) = s.data.toList.take k ++ [s[k]] := by
  rw [List.take_succ_eq_append_getElem (by simpa using h)]; rfl
theorem drop_cons (s : ByteArray) (k : Nat) (h : k < s.size) : s.data.toList.drop k = s[k] :: s.data.toList.drop (k + 1) := by
  rw [List.drop_eq_getElem_cons (by simpa using h)]; rfl
theorem length_take (s : ByteArray) (k : Nat) (h : k ≤ s.size) : (s.data.toList.take k).length = k := by
  rw [List.length_take, Nat.min_eq_left (by simpa using h)]
theorem take_all (s : ByteArray) : s.data.toList.take s.size = s.data.toList := List.take_of_length_le (by simp)
theorem byte_at (s : ByteArray) (k : Nat) (h : k < s.size) : s.data.toList[k]? = some s[k] := by
  rw [List.getElem?_eq_getElem (by simpa using h)]; rfl
/-- A text that is the bytes of its whole cut. -/
theorem cut_all (s : ByteArray) : s.extract 0 s.size = s := bytes_ext (by rw [toList_cut, take_all]; simp)
theorem cut_cut (s : ByteArray) (i a b : Nat) (hb : i + b ≤ s.size) : (s.extract i s.size).extract a b = s.extract (i + a) (i + b) := by
  apply bytes_ext
  rw [toList_cut, toList_cut, toList_cut, take_all, List.take_drop, List.drop_drop]
theorem get_cut (s : ByteArray) (i k : Nat) (h : i + k < s.size) (h' : k < (s.extract i s.size).size) : (s.extract i s.size)[k] = s[i + k] := by
  have h1 := byte_at (s.extract i s.size) k h'
  rw [toList_cut, take_all, List.getElem?_drop, byte_at s (i + k) h] at h1
  injection h1 with h1; exact h1.symm
theorem empty_ways (t : ByteArray) : (t.size = 0 ∧ t = ⟨#[]⟩) ∨ (t.size ≠ 0 ∧ t.toList.isEmpty = false ∧ (!t.toList.isEmpty) = true) := by
  by_cases h : t.size = 0
  · exact .inl ⟨h, bytes_ext (List.eq_nil_of_length_eq_zero (by simpa using h))⟩
  · refine .inr ⟨h, ?_, ?_⟩ <;> rw [ByteArray.toList_eq] <;> cases h2 : t.data.toList with
    | nil => exact absurd (by rw [← toList_size, h2]; rfl) h
    | cons a b => rfl
theorem beq0 (e : Int) : (e = 0 ∧ (e == 0) = true ∧ (e != 0) = false) ∨ (e ≠ 0 ∧ (e == 0) = false ∧ (e != 0) = true) := by
  by_cases h : e = 0
  · exact .inl ⟨h, by simp [h], by simp [h]⟩
  · exact .inr ⟨h, by simp [h], by simp [h]⟩
theorem str_ways (a b : ByteArray) : (a = b ∧ (a.toList == b.toList) = true ∧ (a.toList != b.toList) = false) ∨ (a ≠ b ∧ (a.toList == b.toList) = false ∧ (a.toList != b.toList) = true) := by
  by_cases h : a = b
  · subst h; exact .inl ⟨rfl, by simp, by simp⟩
  · have h2 : a.toList ≠ b.toList := by
      intro e
      rw [ByteArray.toList_eq, ByteArray.toList_eq] at e
      exact h (bytes_ext e)
    exact .inr ⟨h, by simp [h2], by simp [h2]⟩
end Go.Proofs.YtacikiambpfipaaDoor
