/- Plain frames, and packed ones: plain functions and laws. No program in sight. -/
import Derived.Test.YthbechmkjhkipaaSqueezeP
namespace Go.Proofs.Ythbechmkjhkipaa
set_option linter.unusedVariables false
set_option linter.unusedSimpArgs false

/-- How many bytes stand behind a frame's length, how many that has, the error. -/
def plSize (most : Int) (s : ByteArray) : Nat × Nat × Int :=
  if (lebNext s).2.2 = 0 then (if most < (lebNext s).1 then (0, 0, 5) else ((lebNext s).1, (lebNext s).2.1, 0)) else (0, 0, (lebNext s).2.2)
/-- A frame: the error, its number, its body, how many bytes it has. -/
def plNext (most : Int) (s : ByteArray) : Int × Nat × ByteArray × Nat :=
  if (plSize most s).2.2 ≠ 0 then ((plSize most s).2.2, 0, ByteArray.empty, 0)
  else if s.size < (plSize most s).2.1 + (plSize most s).1 then (2, 0, ByteArray.empty, 0)
  else if (lebNext (s.extract (plSize most s).2.1 ((plSize most s).2.1 + (plSize most s).1))).2.2 ≠ 0 then (3, 0, ByteArray.empty, 0)
  else (0, (lebNext (s.extract (plSize most s).2.1 ((plSize most s).2.1 + (plSize most s).1))).1,
    (s.extract (plSize most s).2.1 ((plSize most s).2.1 + (plSize most s).1)).extract (lebNext (s.extract (plSize most s).2.1 ((plSize most s).2.1 + (plSize most s).1))).2.1 (plSize most s).1,
    (plSize most s).2.1 + (plSize most s).1)
theorem plNext_eq (most : Int) (s : ByteArray) : plNext most s = (
  if (plSize most s).2.2 ≠ 0 then ((plSize most s).2.2, 0, ByteArray.empty, 0)
  else if s.size < (plSize most s).2.1 + (plSize most s).1 then (2, 0, ByteArray.empty, 0)
  else if (lebNext (s.extract (plSize most s).2.1 ((plSize most s).2.1 + (plSize most s).1))).2.2 ≠ 0 then (3, 0, ByteArray.empty, 0)
  else (0, (lebNext (s.extract (plSize most s).2.1 ((plSize most s).2.1 + (plSize most s).1))).1,
    (s.extract (plSize most s).2.1 ((plSize most s).2.1 + (plSize most s).1)).extract (lebNext (s.extract (plSize most s).2.1 ((plSize most s).2.1 + (plSize most s).1))).2.1 (plSize most s).1,
    (plSize most s).2.1 + (plSize most s).1)) := rfl
/-- A frame's bytes. -/
def plPut (id : Nat) (body : List UInt8) : List UInt8 := lebL (lebL id ++ body).length ++ (lebL id ++ body)
theorem plSize_ok (most : Int) (s : ByteArray) (h : (plSize most s).2.2 = 0) : ((plSize most s).1 : Int) ≤ most ∧ (plSize most s).2.1 ≤ s.size ∧ 0 < (plSize most s).2.1 ∧ (plSize most s).2.1 ≤ 10 := by
  unfold plSize at h ⊢
  by_cases h0 : (lebNext s).2.2 = 0
  · rw [if_pos h0] at h ⊢
    have hk := lebNext_ok s h0
    by_cases h1 : most < (lebNext s).1
    · rw [if_pos h1] at h; simp at h
    · rw [if_neg h1]; simp only; omega
  · rw [if_neg h0] at h; exact absurd h h0
/-- What is put is told again, with whatever behind it. -/
theorem plNext_put (most : Int) (id : Nat) (body : ByteArray) (s : ByteArray) (rest : List UInt8) (hid : id < 18446744073709551616) (hs : s.data.toList = plPut id body.data.toList ++ rest) (hb : ((lebL id).length + body.size : Int) ≤ most) (hb2 : body.size ≤ 1000000) :
    plNext most s = (0, id, body, (plPut id body.data.toList).length) := by
  unfold plPut at hs ⊢
  have hll := lebL_length 10 id (by omega) (by omega)
  have hlen : (lebL id ++ body.data.toList).length = (lebL id).length + body.size := by rw [List.length_append, toList_size]
  have h1 := lebNext_put (lebL id ++ body.data.toList).length s ((lebL id ++ body.data.toList) ++ rest) (by rw [hs, List.append_assoc]) (by omega)
  have hsz : plSize most s = ((lebL id ++ body.data.toList).length, (lebL (lebL id ++ body.data.toList).length).length, 0) := by
    unfold plSize
    rw [h1]
    simp only [if_true]
    rw [if_neg (by rw [hlen]; omega)]
  have hzs : s.size = (lebL (lebL id ++ body.data.toList).length).length + (lebL id ++ body.data.toList).length + rest.length := by
    rw [← toList_size, hs]; simp only [List.length_append]
  generalize hK : (lebL (lebL id ++ body.data.toList).length).length = K at *
  generalize hN : (lebL id ++ body.data.toList).length = N at *
  have hin : (s.extract K (K + N)).data.toList = lebL id ++ body.data.toList := by
    rw [toList_cut, hs, List.append_assoc, List.take_append, List.drop_append, hK]
    have e1 : (List.take (K + N) (lebL N)).length = K := by rw [List.length_take, hK]; omega
    rw [List.drop_eq_nil_of_le (by rw [e1]; exact Nat.le_refl _), e1, Nat.sub_self, List.drop_zero, List.nil_append, show K + N - K = N from by omega, List.take_append_of_le_length (by omega), List.take_of_length_le (by omega)]
  have h2 := lebNext_put id (s.extract K (K + N)) body.data.toList hin hid
  have hbody : (s.extract K (K + N)).extract (lebL id).length N = body := by
    apply bytes_ext
    rw [toList_cut, hin, List.take_of_length_le (by omega), List.drop_append_of_le_length (Nat.le_refl _), List.drop_length, List.nil_append]
  unfold plNext
  rw [hsz]
  simp only [ne_eq, not_true_eq_false, if_false]
  rw [if_neg (by omega), h2]
  simp only [not_true_eq_false, if_false]
  rw [hbody, List.length_append, hK, hN]

/-- What the packed frame tells: the error, its number, its body, how many bytes it has, how many are metered. -/
def pkNext (most unpacked : Int) (s : ByteArray) : Int × Nat × ByteArray × Nat × Nat :=
  if (plNext most s).1 ≠ 0 then ((plNext most s).1, 0, ByteArray.empty, 0, 0)
  else if (sSize (plNext most s).2.2.1).2.2 ≠ 0 then ((if (sSize (plNext most s).2.2.1).2.2 = 5 then 5 else 3), 0, ByteArray.empty, 0, 0)
  else if unpacked < (sSize (plNext most s).2.2.1).1 then (5, 0, ByteArray.empty, 0, 0)
  else if (sUnpack (plNext most s).2.2.1 unpacked).1 ≠ 0 then (3, 0, ByteArray.empty, 0, (sSize (plNext most s).2.2.1).1)
  else (0, (plNext most s).2.1, ⟨(sUnpack (plNext most s).2.2.1 unpacked).2.toArray⟩, (plNext most s).2.2.2, (sSize (plNext most s).2.2.1).1)
theorem pkNext_eq (most unpacked : Int) (s : ByteArray) : pkNext most unpacked s = (
  if (plNext most s).1 ≠ 0 then ((plNext most s).1, 0, ByteArray.empty, 0, 0)
  else if (sSize (plNext most s).2.2.1).2.2 ≠ 0 then ((if (sSize (plNext most s).2.2.1).2.2 = 5 then 5 else 3), 0, ByteArray.empty, 0, 0)
  else if unpacked < (sSize (plNext most s).2.2.1).1 then (5, 0, ByteArray.empty, 0, 0)
  else if (sUnpack (plNext most s).2.2.1 unpacked).1 ≠ 0 then (3, 0, ByteArray.empty, 0, (sSize (plNext most s).2.2.1).1)
  else (0, (plNext most s).2.1, ⟨(sUnpack (plNext most s).2.2.1 unpacked).2.toArray⟩, (plNext most s).2.2.2, (sSize (plNext most s).2.2.1).1)) := rfl
end Go.Proofs.Ythbechmkjhkipaa
