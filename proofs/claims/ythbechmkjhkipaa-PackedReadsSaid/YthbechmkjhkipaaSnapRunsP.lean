/- A literal and a copy of all of it: what is laid comes round. No program in sight. -/
import Derived.Test.YthbechmkjhkipaaSnapPlainP
namespace Go.Proofs.Ythbechmkjhkipaa
set_option linter.unusedVariables false
set_option linter.unusedSimpArgs false

theorem cpy_period (s : List UInt8) (h0 : 0 < s.length) (n : Nat) : ∀ i, i < s.length + n → (cpy s s.length n)[i]? = s[i % s.length]? := by
  induction n with
  | zero => intro i hi; rw [cpy, Nat.mod_eq_of_lt (by omega)]
  | succ n ih =>
    intro i hi
    rw [cpy_snoc]
    have hl := cpy_length s s.length n
    by_cases h : i < s.length + n
    · rw [List.getElem?_append_left (by omega)]; exact ih i h
    · obtain rfl : i = s.length + n := by omega
      rw [List.getElem?_append_right (by omega), hl, Nat.sub_self, show s.length + n - s.length = n from by omega, List.getD_eq_getElem?_getD, ih n (by omega), Nat.add_mod_left]
      have hm : n % s.length < s.length := Nat.mod_lt _ h0
      rw [List.getElem?_eq_getElem hm]; rfl
theorem sAll_step {s : ByteArray} {size f k b k' : Nat} {out out' : List UInt8} (h : k < s.size) (hb : s[k].toNat = b) (hs : sStep s size k b out = (0, k', out')) : sAll s size (f + 1) k out = sAll s size f k' out' := by
  rw [sAll, dif_pos h, hb, hs, if_pos rfl]
/-- THE LAW: the bytes, and n more of them. -/
theorem runs_law (b : ByteArray) (s : List UInt8) (n : Nat) (h1 : 1 ≤ s.length) (h2 : s.length ≤ 60) (hn1 : 1 ≤ n) (hn2 : n ≤ 64) (ht : s.length + n < 128)
    (hb : b.data.toList = szL (s.length + n) ++ (ub (4 * (s.length - 1) : Nat) :: (s ++ [ub (4 * (n - 1) + 2 : Nat), ub (s.length : Nat), 0]))) : sUnpack b 200 = (0, cpy s s.length n) := by
  rw [sUnpack_of b (s.length + n) _ 200 (by omega) (by omega) hb]
  generalize hL : ub (4 * (s.length - 1) : Nat) :: (s ++ [ub (4 * (n - 1) + 2 : Nat), ub (s.length : Nat), 0]) = L
  generalize hbody : (⟨L.toArray⟩ : ByteArray) = body
  have hlist : body.data.toList = L := by rw [← hbody]
  have hsz : body.size = s.length + 4 := by rw [← toList_size, hlist, ← hL]; simp
  obtain ⟨g0, e0⟩ := get_of (s := body) (k := 0) (b := ub (4 * (s.length - 1) : Nat)) (by rw [hlist, ← hL]; rfl)
  obtain ⟨g1, e1⟩ := get_of (s := body) (k := s.length + 1) (b := ub (4 * (n - 1) + 2 : Nat)) (by rw [hlist, ← hL, List.getElem?_cons_succ, List.getElem?_append_right (by omega), Nat.sub_self]; rfl)
  have e0' : body[0].toNat = 4 * (s.length - 1) := by rw [e0, ub_toNat _ (by omega)]
  have e1' : body[s.length + 1].toNat = 4 * (n - 1) + 2 := by rw [e1, ub_toNat _ (by omega)]
  have hh0 : sHead (4 * (s.length - 1)) = 1 := by unfold sHead; rw [if_pos (by omega), if_neg (by omega)]
  have hc0 : ∀ x, sCount (4 * (s.length - 1)) x = s.length := by intro x; unfold sCount; rw [if_pos (by omega), if_neg (by omega)]; omega
  have hcut : (body.extract 1 (1 + s.length)).data.toList = s := by
    rw [toList_cut, hlist, ← hL, Nat.add_comm 1, List.take_succ_cons, List.drop_succ_cons, List.drop_zero, List.take_append_of_le_length (Nat.le_refl _), List.take_length]
  have st0 : sStep body (s.length + n) 0 (4 * (s.length - 1)) [] = (0, s.length + 1, s) := by
    unfold sStep
    rw [hc0, hh0, if_neg (by omega), if_neg (by simp <;> omega), if_pos (by omega), if_neg (by omega), Nat.zero_add, hcut, Nat.add_comm 1]; rfl
  have hh1 : sHead (4 * (n - 1) + 2) = 3 := by unfold sHead; rw [if_neg (by omega), if_neg (by omega), if_pos (by omega)]
  have hc1 : ∀ x, sCount (4 * (n - 1) + 2) x = n := by intro x; unfold sCount; rw [if_neg (by omega), if_neg (by omega)]; omega
  have hnum : sNum body (s.length + 1) (4 * (n - 1) + 2) = s.length := by
    unfold sNum
    rw [hh1, toList_cut, hlist, ← hL, show s.length + 1 + 3 = (s.length + 3) + 1 from by omega, List.take_succ_cons, List.drop_succ_cons, List.take_of_length_le (by simp)]
    rw [show s.length + 1 = s.length + 1 from rfl, List.drop_append, List.drop_eq_nil_of_le (by omega), show s.length + 1 - s.length = 1 from by omega]
    show leL [ub (s.length : Nat), 0] = s.length
    simp only [leL, ub_toNat s.length (by omega)]
    rfl
  have hbk : sBack (4 * (n - 1) + 2) s.length = s.length := by unfold sBack; rw [if_neg (by omega)]
  have st1 : sStep body (s.length + n) (s.length + 1) (4 * (n - 1) + 2) s = (0, s.length + 4, cpy s s.length n) := by
    unfold sStep
    rw [hnum, hc1, hbk, hh1, if_neg (by omega), if_neg (by omega), if_neg (by omega)]
  unfold sElems
  rw [hsz, show s.length + 4 + 1 = (s.length + 3) + 1 + 1 from by omega, sAll_step g0 e0' st0, sAll_step g1 e1' st1]
  obtain ⟨f, hf⟩ : ∃ f, s.length + 3 = f + 1 := ⟨s.length + 2, by omega⟩
  rw [hf, sAll, dif_neg (by omega), if_neg (by rw [cpy_length]; omega)]
end Go.Proofs.Ythbechmkjhkipaa
