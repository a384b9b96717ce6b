/- Frames with a magic number, a name and a checksum, as plain functions. -/
import Derived.Test.YtacikiambpfipaaDoorShaRP
import Derived.Test.YtacikiambpfipaaDoorCommandP
import Derived.Test.YtacikiambpfipaaDoorFixedP
import Derived.Test.YtacikiambpfipaaDoorDigitsD
namespace Go.Proofs.YtacikiambpfipaaDoor
set_option linter.unusedVariables false
set_option linter.unusedSimpArgs false

theorem leL_D (k n : Nat) : n < 2 ^ (8 * k) → leL (leD n k) = n := by
  induction k generalizing n with
  | zero => intro h; simp at h; subst h; rfl
  | succ k ih =>
    intro h
    rw [leD_cons, leL, ih (n / 256) (by rw [pow8] at h; exact Nat.div_lt_of_lt_mul h), ub_toNat _ (by omega)]
    omega
theorem leD_L (l : List UInt8) : leD (leL l) l.length = l := by
  induction l with
  | nil => rfl
  | cons b t ih =>
    have hb := b.toNat_lt
    rw [List.length_cons, leD_cons, leL, show (b.toNat + 256 * leL t) / 256 = leL t from by omega, ih]
    congr 1
    rw [show (b.toNat + 256 * leL t) % 256 = b.toNat from by omega]
    apply UInt8.toNat_inj.1
    rw [ub_toNat _ hb]
/-- Four bytes, the lowest first. -/
def le4 (n : Nat) : ByteArray := ⟨(leD n 4).toArray⟩
theorem le4_size (n : Nat) : (le4 n).size = 4 := by rw [le4, size_of, leD_length]
theorem le4_list (n : Nat) : (le4 n).data.toList = leD n 4 := by simp [le4]
theorem le4_of (s : ByteArray) (h : s.size = 4) : le4 (leL s.data.toList) = s := by
  have e := leD_L s.data.toList
  rw [toList_size, h] at e
  rw [le4, e, bytes_of]
theorem leL_le4 (n : Nat) (h : n < 4294967296) : leL (le4 n).data.toList = n := by rw [le4_list]; exact leL_D 4 n (by simpa using h)
theorem le4_eq (s : ByteArray) (n : Nat) (hs : s.size = 4) (h : n < 4294967296) : s = le4 n ↔ leL s.data.toList = n := by
  constructor
  · rintro rfl; exact leL_le4 n h
  · rintro rfl; exact (le4_of s hs).symm
theorem leL4_lt (s : ByteArray) (hs : s.size = 4) : leL s.data.toList < 4294967296 := by
  have := leL_lt s.data.toList
  rw [toList_size, hs] at this; simpa using this
def cnPut (m : Nat) (nm body : ByteArray) : ByteArray := le4 m ++ nmPad nm ++ le4 body.size ++ shChk body ++ body
theorem cnPut_size (m : Nat) (nm body : ByteArray) (h : nm.size ≤ 12) : (cnPut m nm body).size = 24 + body.size := by
  simp only [cnPut, size_app, le4_size, nmPad_size nm h, shChk_size]
/-- The frame with which the bytes begin: the error, the name, the body, how many bytes it has. -/
def cnNext (m : Nat) (most : Int) (s : ByteArray) : Int × ByteArray × ByteArray × Nat :=
  if s.size < 4 then (2, ByteArray.empty, ByteArray.empty, 0)
  else if s.extract 0 4 ≠ le4 m then (9, ByteArray.empty, ByteArray.empty, 0)
  else if s.size < 16 then (2, ByteArray.empty, ByteArray.empty, 0)
  else if (nmGet (s.extract 4 16)).1 ≠ 0 then (3, ByteArray.empty, ByteArray.empty, 0)
  else if s.size < 20 then (2, ByteArray.empty, ByteArray.empty, 0)
  else if most < leL (s.extract 16 20).data.toList then (5, ByteArray.empty, ByteArray.empty, 0)
  else if s.size < 24 + leL (s.extract 16 20).data.toList then (2, ByteArray.empty, ByteArray.empty, 0)
  else if shChk (s.extract 24 (24 + leL (s.extract 16 20).data.toList)) ≠ s.extract 20 24 then (10, ByteArray.empty, ByteArray.empty, 0)
  else (0, (nmGet (s.extract 4 16)).2, s.extract 24 (24 + leL (s.extract 16 20).data.toList), 24 + leL (s.extract 16 20).data.toList)
theorem cnNext_eq (m : Nat) (most : Int) (s : ByteArray) : cnNext m most s = (
  if s.size < 4 then (2, ByteArray.empty, ByteArray.empty, 0)
  else if s.extract 0 4 ≠ le4 m then (9, ByteArray.empty, ByteArray.empty, 0)
  else if s.size < 16 then (2, ByteArray.empty, ByteArray.empty, 0)
  else if (nmGet (s.extract 4 16)).1 ≠ 0 then (3, ByteArray.empty, ByteArray.empty, 0)
  else if s.size < 20 then (2, ByteArray.empty, ByteArray.empty, 0)
  else if most < leL (s.extract 16 20).data.toList then (5, ByteArray.empty, ByteArray.empty, 0)
  else if s.size < 24 + leL (s.extract 16 20).data.toList then (2, ByteArray.empty, ByteArray.empty, 0)
  else if shChk (s.extract 24 (24 + leL (s.extract 16 20).data.toList)) ≠ s.extract 20 24 then (10, ByteArray.empty, ByteArray.empty, 0)
  else (0, (nmGet (s.extract 4 16)).2, s.extract 24 (24 + leL (s.extract 16 20).data.toList), 24 + leL (s.extract 16 20).data.toList)) := rfl
theorem cut_mid (s a b c : ByteArray) (h : s = a ++ b ++ c) (i j : Nat) (hi : a.size = i) (hj : i + b.size = j) : s.extract i j = b := by
  subst h; subst hi; subst hj
  apply bytes_ext
  rw [toList_cut, toList_app, toList_app, List.take_append_of_le_length (by simp), List.take_of_length_le (by simp), List.drop_append_of_le_length (by simp), ← toList_size, List.drop_length, List.nil_append]
/-- A text in its parts, as the frame's. -/
theorem cut_parts (a b c d e r : ByteArray) (ha : a.size = 4) (hb : b.size = 12) (hc : c.size = 4) (hd : d.size = 4) (s : ByteArray) (h : s = a ++ b ++ c ++ d ++ e ++ r) :
    s.extract 0 4 = a ∧ s.extract 4 16 = b ∧ s.extract 16 20 = c ∧ s.extract 20 24 = d ∧ s.extract 24 (24 + e.size) = e ∧ s.size = 24 + e.size + r.size := by
  refine ⟨cut_mid s ByteArray.empty a (b ++ c ++ d ++ e ++ r) ?_ _ _ rfl (by omega), cut_mid s a b (c ++ d ++ e ++ r) ?_ _ _ ha (by omega), cut_mid s (a ++ b) c (d ++ e ++ r) ?_ _ _ (by rw [size_app]; omega) (by omega),
    cut_mid s (a ++ b ++ c) d (e ++ r) ?_ _ _ (by rw [size_app, size_app]; omega) (by omega), cut_mid s (a ++ b ++ c ++ d) e r ?_ _ _ (by rw [size_app, size_app, size_app]; omega) rfl, by rw [h]; simp only [size_app]; omega⟩
  all_goals (rw [h]; try simp [ByteArray.append_assoc])
theorem cnNext_put (m : Nat) (most : Int) (nm body more : ByteArray) (hm : nmMay nm = true) (hb : (body.size : Int) ≤ most) (hb2 : body.size < 4294967296) :
    cnNext m most (cnPut m nm body ++ more) = (0, nm, body, 24 + body.size) := by
  have hz := nmMay_size hm
  obtain ⟨h1, h2, h3, h4, h5, h6⟩ := cut_parts (le4 m) (nmPad nm) (le4 body.size) (shChk body) body more (le4_size _) (nmPad_size nm hz.2) (le4_size _) (shChk_size _) (cnPut m nm body ++ more) rfl
  have hl := leL_le4 body.size hb2
  unfold cnNext
  rw [h1, h2, h3, hl, h4, h5, h6, nmGet_pad nm hm]
  rw [if_neg (by omega), if_neg (by simp), if_neg (by omega), if_neg (by simp), if_neg (by omega), if_neg (by omega), if_neg (by omega), if_neg (by simp)]
/-- What is told is put as it was. -/
theorem cnPut_next (m : Nat) (most : Int) (s nm body : ByteArray) (n : Nat) (h : cnNext m most s = (0, nm, body, n)) : nmMay nm = true ∧ (body.size : Int) ≤ most ∧ n = 24 + body.size ∧ n ≤ s.size ∧ body.size < 4294967296 ∧ cnPut m nm body = s.extract 0 n := by
  unfold cnNext at h
  by_cases h1 : s.size < 4
  · rw [if_pos h1] at h; injection h with h; simp at h
  rw [if_neg h1] at h
  by_cases h2 : s.extract 0 4 ≠ le4 m
  · rw [if_pos h2] at h; injection h with h; simp at h
  rw [if_neg h2] at h
  by_cases h3 : s.size < 16
  · rw [if_pos h3] at h; injection h with h; simp at h
  rw [if_neg h3] at h
  by_cases h4 : (nmGet (s.extract 4 16)).1 ≠ 0
  · rw [if_pos h4] at h; injection h with h; simp at h
  rw [if_neg h4] at h
  by_cases h5 : s.size < 20
  · rw [if_pos h5] at h; injection h with h; simp at h
  rw [if_neg h5] at h
  have hzc : (s.extract 16 20).size = 4 := size_cut _ _ _ (by omega)
  have hlt := leL4_lt (s.extract 16 20) hzc
  have hle := le4_of (s.extract 16 20) hzc
  generalize leL (s.extract 16 20).data.toList = N at *
  by_cases h6 : most < N
  · rw [if_pos h6] at h; injection h with h; simp at h
  rw [if_neg h6] at h
  by_cases h7 : s.size < 24 + N
  · rw [if_pos h7] at h; injection h with h; simp at h
  rw [if_neg h7] at h
  by_cases h8 : shChk (s.extract 24 (24 + N)) ≠ s.extract 20 24
  · rw [if_pos h8] at h; injection h with h; simp at h
  rw [if_neg h8] at h
  injection h with _ h
  injection h with hnm h
  injection h with hbd hn
  have hg : nmGet (s.extract 4 16) = (0, nm) := by
    rw [← hnm]
    have h4' : (nmGet (s.extract 4 16)).1 = 0 := Decidable.not_not.1 h4
    exact Prod.ext h4' rfl
  obtain ⟨hp, hmay⟩ := nmPad_get _ _ hg
  have hbz : body.size = N := by rw [← hbd, size_cut _ _ _ (by omega)]; omega
  refine ⟨hmay, by omega, by omega, by omega, by omega, ?_⟩
  unfold cnPut
  rw [hp, hbz, hle, ← hbd, Decidable.not_not.1 h8, ← Decidable.not_not.1 h2, ← hn]
  apply bytes_ext
  simp only [toList_app, toList_cut]
  generalize s.data.toList = L
  have e0 : ∀ (a b : Nat), a ≤ b → L.take a ++ (L.take b).drop a = L.take b := by
    intro a b hab
    have := List.take_append_drop a (L.take b)
    rwa [List.take_take, Nat.min_eq_left hab] at this
  rw [List.drop_zero, e0 4 16 (by omega), e0 16 20 (by omega), e0 20 24 (by omega), e0 24 (24 + N) (by omega)]
  rfl
theorem cut_of_cut (s : ByteArray) (c i j : Nat) (h : j ≤ c) : (s.extract 0 c).extract i j = s.extract i j := by
  apply bytes_ext
  rw [toList_cut, toList_cut, toList_cut, List.drop_zero, List.take_take, Nat.min_eq_left h]
/-- A beginning of them is short, or tells the same. -/
theorem cnNext_cut (m : Nat) (most : Int) (s : ByteArray) (c : Nat) (hc : c ≤ s.size) : (cnNext m most (s.extract 0 c)).1 = 2 ∨ cnNext m most (s.extract 0 c) = cnNext m most s := by
  have hz : (s.extract 0 c).size = c := by rw [size_cut _ _ _ hc]; omega
  unfold cnNext
  rw [hz]
  by_cases h1 : c < 4
  · rw [if_pos h1]; exact .inl rfl
  rw [if_neg h1, if_neg (by omega : ¬ s.size < 4), cut_of_cut s c 0 4 (by omega)]
  by_cases h2 : s.extract 0 4 ≠ le4 m
  · rw [if_pos h2, if_pos h2]; exact .inr rfl
  rw [if_neg h2, if_neg h2]
  by_cases h3 : c < 16
  · rw [if_pos h3]; exact .inl rfl
  rw [if_neg h3, if_neg (by omega : ¬ s.size < 16), cut_of_cut s c 4 16 (by omega)]
  by_cases h4 : (nmGet (s.extract 4 16)).1 ≠ 0
  · rw [if_pos h4, if_pos h4]; exact .inr rfl
  rw [if_neg h4, if_neg h4]
  by_cases h5 : c < 20
  · rw [if_pos h5]; exact .inl rfl
  rw [if_neg h5, if_neg (by omega : ¬ s.size < 20), cut_of_cut s c 16 20 (by omega)]
  generalize leL (s.extract 16 20).data.toList = N
  by_cases h6 : most < N
  · rw [if_pos h6, if_pos h6]; exact .inr rfl
  rw [if_neg h6, if_neg h6]
  by_cases h7 : c < 24 + N
  · rw [if_pos h7]; exact .inl rfl
  rw [if_neg h7, if_neg (by omega : ¬ s.size < 24 + N), cut_of_cut s c 24 _ (by omega), cut_of_cut s c 20 24 (by omega)]
  exact .inr rfl
/-- A text with one byte put anew. -/
def setB (s : ByteArray) (k : Nat) (x : UInt8) : ByteArray := ⟨(s.data.toList.set k x).toArray⟩
theorem setB_size (s : ByteArray) (k : Nat) (x : UInt8) : (setB s k x).size = s.size := by rw [setB, size_of, List.length_set, toList_size]
theorem setB_list (s : ByteArray) (k : Nat) (x : UInt8) : (setB s k x).data.toList = s.data.toList.set k x := by simp [setB]
theorem setB_ne (s : ByteArray) (k : Nat) (x : UInt8) (hk : k < s.size) (hx : x ≠ s[k]) : setB s k x ≠ s := by
  intro e
  have h := congrArg (fun t : ByteArray => t.data.toList[k]?) e
  simp only [setB_list] at h
  rw [List.getElem?_set_self (by simpa using hk), byte_at s k hk] at h
  injection h with h; exact hx h
theorem setB_left (a b : ByteArray) (k : Nat) (x : UInt8) (h : k < a.size) : setB (a ++ b) k x = setB a k x ++ b := by
  apply bytes_ext
  rw [setB_list, toList_app, toList_app, setB_list, List.set_append_left _ _ (by simpa using h)]
theorem setB_right (a b : ByteArray) (k : Nat) (x : UInt8) (h : a.size ≤ k) : setB (a ++ b) k x = a ++ setB b (k - a.size) x := by
  apply bytes_ext
  rw [setB_list, toList_app, toList_app, setB_list, List.set_append_right _ _ (by simpa using h), toList_size]
/-- A byte of the magic number, or of the checksum, put anew. -/
theorem cnNext_turned (m : Nat) (most : Int) (nm body : ByteArray) (k : Nat) (x : UInt8) (hm : nmMay nm = true) (hb : (body.size : Int) ≤ most) (hb2 : body.size < 4294967296) (hk : k < (cnPut m nm body).size) (hx : x ≠ (cnPut m nm body)[k]) :
    (k < 4 → cnNext m most (setB (cnPut m nm body) k x) = (9, ByteArray.empty, ByteArray.empty, 0)) ∧ (20 ≤ k → k < 24 → cnNext m most (setB (cnPut m nm body) k x) = (10, ByteArray.empty, ByteArray.empty, 0)) := by
  have hz := nmMay_size hm
  have hps := cnPut_size m nm body hz.2
  have hl := leL_le4 body.size hb2
  have hx2 : ∀ (h' : k < (cnPut m nm body).data.toList.length), x ≠ (cnPut m nm body).data.toList[k] := fun _ => hx
  constructor
  · intro h4
    have hne : setB (le4 m) k x ≠ le4 m := by
      refine setB_ne _ _ _ (by rw [le4_size]; omega) ?_
      intro e
      have h1 : (cnPut m nm body).data.toList[k]? = (le4 m).data.toList[k]? := by
        simp only [cnPut, toList_app, List.append_assoc]
        rw [List.getElem?_append_left (by rw [toList_size, le4_size]; omega)]
      rw [byte_at _ k hk, byte_at _ k (by rw [le4_size]; omega)] at h1
      injection h1 with h1
      exact hx (by rw [h1]; exact e)
    have e : setB (cnPut m nm body) k x = setB (le4 m) k x ++ nmPad nm ++ le4 body.size ++ shChk body ++ body ++ ByteArray.empty := by
      unfold cnPut
      rw [setB_left _ _ _ _ (by simp only [size_app, le4_size]; omega), setB_left _ _ _ _ (by simp only [size_app, le4_size]; omega), setB_left _ _ _ _ (by simp only [size_app, le4_size]; omega), setB_left _ _ _ _ (by simp only [le4_size]; omega)]
      simp
    obtain ⟨h1, h2, h3, h4', h5, h6⟩ := cut_parts (setB (le4 m) k x) (nmPad nm) (le4 body.size) (shChk body) body ByteArray.empty (by rw [setB_size, le4_size]) (nmPad_size nm hz.2) (le4_size _) (shChk_size _) _ e
    unfold cnNext
    rw [h1, h6, if_neg (by omega), if_pos hne]
  · intro h20 h24
    have h0 : (le4 m ++ nmPad nm ++ le4 body.size).size = 20 := by simp only [size_app, le4_size, nmPad_size nm hz.2]
    have hne : setB (shChk body) (k - 20) x ≠ shChk body := by
      refine setB_ne _ _ _ (by rw [shChk_size]; omega) ?_
      intro e
      have h1 : (cnPut m nm body).data.toList[k]? = (shChk body).data.toList[k - 20]? := by
        unfold cnPut
        rw [toList_app, List.getElem?_append_left (by rw [toList_size, size_app, h0, shChk_size]; omega), toList_app, List.getElem?_append_right (by rw [toList_size, h0]; omega), toList_size, h0]
      rw [byte_at _ k hk, byte_at _ (k - 20) (by rw [shChk_size]; omega)] at h1
      injection h1 with h1
      exact hx (by rw [h1]; exact e)
    have e : setB (cnPut m nm body) k x = le4 m ++ nmPad nm ++ le4 body.size ++ setB (shChk body) (k - 20) x ++ body ++ ByteArray.empty := by
      unfold cnPut
      rw [setB_left _ _ _ _ (by rw [size_app, h0, shChk_size]; omega), setB_right _ _ _ _ (by omega), h0]
      simp
    obtain ⟨h1, h2, h3, h4', h5, h6⟩ := cut_parts (le4 m) (nmPad nm) (le4 body.size) (setB (shChk body) (k - 20) x) body ByteArray.empty (le4_size _) (nmPad_size nm hz.2) (le4_size _) (by rw [setB_size, shChk_size]) _ e
    unfold cnNext
    rw [h1, h2, h3, hl, h4', h5, h6, nmGet_pad nm hm]
    rw [if_neg (by omega), if_neg (by simp), if_neg (by omega), if_neg (by simp), if_neg (by omega), if_neg (by omega), if_neg (by omega), if_pos (by exact fun h => hne h.symm)]
end Go.Proofs.YtacikiambpfipaaDoor
