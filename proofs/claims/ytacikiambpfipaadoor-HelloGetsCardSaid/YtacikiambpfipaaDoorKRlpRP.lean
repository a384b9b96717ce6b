/- What is put is read again; what is read is put as it was: plain. -/
import Derived.Test.YtacikiambpfipaaDoorKA3
namespace Go.Proofs.YtacikiambpfipaaDoor
set_option linter.unusedVariables false
set_option linter.unusedSimpArgs false

theorem rHead_length (b n : Nat) : (rHead b n).length = if n ≤ 55 then 1 else 1 + (minL n).length := by unfold rHead; split <;> simp; omega
/-- The head that was laid is told. -/
theorem hdR_head (s : ByteArray) (b n : Nat) (r : List UInt8) (hb : b = 128 ∨ b = 192) (hs : s.data.toList = rHead b n ++ r) (hn : n ≤ r.length) (hlt : n < 18446744073709551616) (h1 : b = 128 → n = 1 → 128 ≤ (r.getD 0 0).toNat) :
    hdR s = (decide (b = 192), (rHead b n).length, n, 0) := by
  have hz : s.size = (rHead b n).length + r.length := by rw [← toList_size, hs, List.length_append]
  rw [rHead_length] at hz ⊢
  by_cases h : n ≤ 55
  · rw [if_pos h] at hz ⊢
    rw [rHead, if_pos h] at hs
    have e0 : (s.data.toList.getD 0 0).toNat = b + n := by rw [hs, List.singleton_append, List.getD_cons_zero, ub_toNat _ (by omega)]
    have e1 : s.data.toList.getD 1 0 = r.getD 0 0 := by rw [hs, List.singleton_append, List.getD_cons_succ]
    unfold hdR
    rw [e0, e1]
    dsimp only
    have et : (if 192 ≤ b + n then b + n - 192 else b + n - 128) = n := by split <;> omega
    have el : decide (192 ≤ b + n) = decide (b = 192) := by rw [Bool.eq_iff_iff]; simp; omega
    rw [if_neg (by omega), et, el]
    simp only [if_pos h]
    rw [if_neg (by omega), if_neg]
    rintro ⟨a1, a2, a3⟩
    have a4 : b = 128 := by
      have : b ≠ 192 := by simpa using a1
      omega
    have := h1 a4 a2
    omega
  · rw [if_neg h] at hz ⊢
    rw [rHead, if_neg h] at hs
    have hk := minL_length 8 n (by simpa using hlt)
    have hk0 : 1 ≤ (minL n).length := by
      have := minR_ne n (by omega)
      cases hl : minL n with
      | nil => exact absurd hl this
      | cons a b => simp
    have hld := minR_lead n (by omega)
    have e0 : (s.data.toList.getD 0 0).toNat = b + 55 + (minL n).length := by rw [hs, List.cons_append, List.getD_cons_zero, ub_toNat _ (by omega)]
    have e1 : s.data.toList.getD 1 0 = (minL n).getD 0 0 := by
      rw [hs, List.cons_append, List.getD_cons_succ, List.getD_eq_getElem?_getD, List.getElem?_append_left (by omega), ← List.getD_eq_getElem?_getD]
    have e2 : (s.extract 1 (1 + (minL n).length)).data.toList = minL n := by
      rw [toList_cut, hs, List.cons_append, Nat.add_comm 1, List.take_succ_cons, List.drop_succ_cons, List.drop_zero, List.take_append_of_le_length (Nat.le_refl _), List.take_length]
    have hne : ((minL n).getD 0 0).toNat ≠ 0 := fun e => hld (UInt8.toNat_inj.1 e)
    unfold hdR
    rw [e0, e1]
    dsimp only
    have et : (if 192 ≤ b + 55 + (minL n).length then b + 55 + (minL n).length - 192 else b + 55 + (minL n).length - 128) = 55 + (minL n).length := by split <;> omega
    have el : decide (192 ≤ b + 55 + (minL n).length) = decide (b = 192) := by rw [Bool.eq_iff_iff]; simp; omega
    rw [if_neg (by omega), et, el]
    have hn55 : ¬ 55 + (minL n).length ≤ 55 := by omega
    simp only [if_neg hn55, Nat.add_sub_cancel_left, e2, minR_be]
    rw [if_neg (by omega), if_neg (by omega), if_neg (by omega)]
theorem beL_lead_lt (l : List UInt8) : beL l < 2 ^ (8 * l.length) := beL_lt l
/-- The head that is told is the one that is laid. -/
theorem hdR_is (s : ByteArray) (hs : 0 < s.size) (H : Bool × Nat × Nat × Int) (hH : hdR s = H) (he : H.2.2.2 = 0) :
    (H = (false, 0, 1, 0) ∧ (s.data.toList.getD 0 0).toNat < 128) ∨
    (s.data.toList.take H.2.1 = rHead (if H.1 = true then 192 else 128) H.2.2.1 ∧ 1 ≤ H.2.1 ∧ H.2.1 = (rHead (if H.1 = true then 192 else 128) H.2.2.1).length ∧ ¬ (H.1 = false ∧ H.2.2.1 = 1 ∧ (s.data.toList.getD H.2.1 0).toNat < 128)) := by
  subst hH
  have hl : s.data.toList = s.data.toList.getD 0 0 :: s.data.toList.drop 1 := by
    have := drop_cons s 0 hs
    rw [List.drop_zero] at this
    rw [this]; simp
  unfold hdR at he ⊢
  dsimp only at he ⊢
  have hb256 := (s.data.toList.getD 0 0).toNat_lt
  have hub : ub (((s.data.toList.getD 0 0).toNat : Nat) : Int) = s.data.toList.getD 0 0 := by
    apply UInt8.toNat_inj.1
    rw [ub_toNat _ hb256]
  generalize hB : (s.data.toList.getD 0 0).toNat = b at *
  by_cases hb : b < 128
  · rw [if_pos hb]; exact .inl ⟨rfl, hb⟩
  rw [if_neg hb] at he ⊢
  right
  generalize htold : (if 192 ≤ b then b - 192 else b - 128) = told at *
  have hbt : (if decide (192 ≤ b) = true then 192 else 128) + told = b := by
    rw [← htold]; by_cases h : 192 ≤ b <;> simp [h]; omega
  have ht63 : told ≤ 63 := by rw [← htold]; split <;> omega
  by_cases ht : told ≤ 55
  · simp only [if_pos ht] at he ⊢
    by_cases h1 : s.size < 1 + told
    · rw [if_pos h1] at he; simp at he
    rw [if_neg h1] at he ⊢
    split at he
    · simp at he
    rename_i h2
    rw [if_neg h2]
    dsimp only
    refine ⟨?_, Nat.le_refl _, ?_, h2⟩
    · rw [hl, List.take_succ_cons, List.take_zero, rHead, if_pos ht, hbt, hub]
    · rw [rHead_length, if_pos ht]
  · simp only [if_neg ht] at he ⊢
    by_cases h1 : s.size < 1 + (told - 55)
    · rw [if_pos h1] at he; simp at he
    rw [if_neg h1] at he ⊢
    split at he
    · simp at he
    rename_i h2
    rw [if_neg h2]
    split at he
    · simp at he
    rename_i h3
    rw [if_neg h3]
    dsimp only
    have h2a : (s.data.toList.getD 1 0).toNat ≠ 0 := by omega
    have hcl : (s.extract 1 (1 + (told - 55))).data.toList = (s.data.toList.drop 1).take (told - 55) := by rw [toList_cut, List.take_drop]
    have hlen : ((s.data.toList.drop 1).take (told - 55)).length = told - 55 := by rw [List.length_take, List.length_drop, toList_size]; omega
    have hml : minL (beL (s.extract 1 (1 + (told - 55))).data.toList) = (s.data.toList.drop 1).take (told - 55) := by
      rw [hcl]
      refine beR_minL _ ?_
      rw [List.getD_eq_getElem?_getD, List.getElem?_take_of_lt (by omega), List.getElem?_drop, ← List.getD_eq_getElem?_getD]
      intro e
      apply h2a
      rw [show 1 + 0 = 1 from rfl] at e
      rw [e]; rfl
    generalize beL (s.extract 1 (1 + (told - 55))).data.toList = n at *
    refine ⟨?_, by omega, ?_, ?_⟩
    · rw [rHead, if_neg (by omega), hml, hlen]
      rw [hl, Nat.add_comm 1 (told - 55), List.take_succ_cons, List.drop_succ_cons, List.drop_zero]
      congr 1
      rw [← hub]
      congr 2; omega
    · rw [rHead_length, if_neg (by omega), hml, hlen]
    · omega
theorem hd_is (s : ByteArray) (d m : Bool) (h : (hd s d m).2.2.2 = 0) : 0 < s.size ∧ d = false ∧ m = false ∧ hd s d m = hdR s := by
  unfold hd at h ⊢
  by_cases h0 : s.size = 0
  · rw [if_pos h0] at h; simp at h
  rw [if_neg h0] at h ⊢
  by_cases h1 : d = true
  · rw [if_pos h1] at h; simp at h
  rw [if_neg h1] at h ⊢
  by_cases h2 : m = true
  · rw [if_pos h2] at h; simp at h
  rw [if_neg h2]
  exact ⟨by omega, by simpa using h1, by simpa using h2, rfl⟩
theorem tooDeep_no {D : Int} {deep : Nat} : tooDeep D deep = false ↔ (deep : Int) ≤ D ∧ deep ≤ 16 := by simp [tooDeep]
theorem tooMany_no {M : Int} {ahead : Nat} : tooMany M ahead = false ↔ (ahead : Int) + 1 ≤ M ∧ ahead + 1 ≤ 1024 := by simp [tooMany]
/-- What was read, laid again, is the bytes it was read of; it is formed, and within the caps. -/
structure Back (D M : Int) (x : It) (l : List UInt8) (deep ahead items : Nat) : Prop where
  rlp : x.rlp = l
  right : x.right = true
  items : items = x.count
  deepD : (deep : Int) + x.deep ≤ D + 1
  deep16 : deep + x.deep ≤ 17
  manyM : (ahead : Int) + x.count ≤ M
  many : ahead + x.count ≤ 1024
structure BackL (D M : Int) (xs : List It) (l : List UInt8) (deep ahead items : Nat) : Prop where
  rlp : rlpL xs = l
  right : rightL xs = true
  items : items = countL xs
  deepD : xs ≠ [] → (deep : Int) + deepL xs ≤ D + 1
  deep16 : xs ≠ [] → deep + deepL xs ≤ 17
  manyM : xs ≠ [] → (ahead : Int) + countL xs ≤ M
  many : xs ≠ [] → ahead + countL xs ≤ 1024
theorem deep_pos (x : It) : 1 ≤ x.deep := by cases x; simp [It.deep]
theorem rd_back (D M : Int) : ∀ (z : Nat), (∀ (s : ByteArray) (deep ahead : Nat), s.size ≤ z → (rdItem D M s deep ahead).e = 0 → Back D M (rdItem D M s deep ahead).x (s.data.toList.take (rdItem D M s deep ahead).size) deep ahead (rdItem D M s deep ahead).items) ∧
    (∀ (s : ByteArray) (deep ahead : Nat), s.size ≤ z → (rdSeq D M s deep ahead).e = 0 → BackL D M (rdSeq D M s deep ahead).xs s.data.toList deep ahead (rdSeq D M s deep ahead).items) := by
  have hnil : ∀ (s : ByteArray) (deep ahead : Nat), s.size = 0 → BackL D M (rdSeq D M s deep ahead).xs s.data.toList deep ahead (rdSeq D M s deep ahead).items := by
    intro s deep ahead h
    rw [rdSeq_nil _ _ _ _ _ h]
    have : s.data.toList = [] := List.eq_nil_of_length_eq_zero (by rw [toList_size]; exact h)
    rw [this]
    exact ⟨rfl, rfl, rfl, by simp, by simp, by simp, by simp⟩
  intro z
  induction z with
  | zero =>
    refine ⟨fun s deep ahead hz he => ?_, fun s deep ahead hz _ => hnil s deep ahead (by omega)⟩
    rw [rdItem_eq D M s deep ahead _ rfl] at he
    have : hd s (tooDeep D deep) (tooMany M ahead) = (false, 0, 0, 2) := by simp [hd, show s.size = 0 by omega]
    rw [this] at he
    simp [Rd.bad] at he
  | succ z ih =>
    obtain ⟨ihI, ihS⟩ := ih
    have hI : ∀ (s : ByteArray) (deep ahead : Nat), s.size ≤ z + 1 → (rdItem D M s deep ahead).e = 0 → Back D M (rdItem D M s deep ahead).x (s.data.toList.take (rdItem D M s deep ahead).size) deep ahead (rdItem D M s deep ahead).items := by
      intro s deep ahead hz he
      have hq := rdItem_eq D M s deep ahead _ rfl
      have h0 := hd_is s (tooDeep D deep) (tooMany M ahead)
      have hk := hd_ok s (tooDeep D deep) (tooMany M ahead)
      generalize hd s (tooDeep D deep) (tooMany M ahead) = H at *
      by_cases h1 : H.2.2.2 ≠ 0
      · rw [if_pos h1] at hq; rw [hq] at he; exact absurd he h1
      have h1' := Decidable.not_not.1 h1
      obtain ⟨hs0, hdp, hmn, hH⟩ := h0 h1'
      obtain ⟨_, hsz, hsz1, hszl⟩ := hk h1'
      obtain ⟨d1, d2⟩ := tooDeep_no.1 hdp
      obtain ⟨m1, m2⟩ := tooMany_no.1 hmn
      have his := hdR_is s hs0 H hH.symm h1'
      rw [if_neg h1] at hq
      by_cases h2 : H.1 = false
      · rw [if_pos h2] at hq
        rw [hq]
        dsimp only
        have hcz : (s.extract H.2.1 (H.2.1 + H.2.2.1)).size = H.2.2.1 := by rw [size_cut _ _ _ hsz]; omega
        have hcl : s.data.toList.take H.2.1 ++ (s.extract H.2.1 (H.2.1 + H.2.2.1)).data.toList = s.data.toList.take (H.2.1 + H.2.2.1) := by
          rw [toList_cut]
          have := List.take_append_drop H.2.1 (s.data.toList.take (H.2.1 + H.2.2.1))
          rwa [List.take_take, Nat.min_eq_left (by omega)] at this
        refine ⟨?_, by simp [It.right, formed, rightL], by simp [It.count, countL], by simp [It.deep, deepL]; omega, by simp [It.deep, deepL]; omega, by simp [It.count, countL]; omega, by simp [It.count, countL]; omega⟩
        have hc0 : (s.extract H.2.1 (H.2.1 + H.2.2.1)).data.toList.getD 0 0 = if H.2.2.1 = 0 then 0 else s.data.toList.getD H.2.1 0 := by
          rw [toList_cut, List.getD_eq_getElem?_getD, List.getElem?_drop]
          split
          · rename_i h; rw [List.getElem?_eq_none (by rw [List.length_take]; omega)]; rfl
          · rw [List.getElem?_take_of_lt (by omega), ← List.getD_eq_getElem?_getD]; rfl
        rcases his with ⟨hE, hlt⟩ | ⟨h3, h4, h5, h6⟩
        · rw [hE] at hcz hcl hc0 ⊢
          dsimp only at *
          rw [It.rlp, if_neg (by simp), if_pos ⟨hcz, by rw [hc0]; simpa using hlt⟩, ← hcl]; simp
        · rw [It.rlp, if_neg (by simp), if_neg (by rintro ⟨a, b⟩; apply h6; rw [hcz] at a; rw [hc0, if_neg (by omega)] at b; exact ⟨h2, a, b⟩), hcz, ← hcl, h3, if_neg (by simp [h2])]
      · rw [if_neg h2] at hq
        have h2' : H.1 = true := by simpa using h2
        have hcz : (s.extract H.2.1 (H.2.1 + H.2.2.1)).size = H.2.2.1 := by rw [size_cut _ _ _ hsz]; omega
        have hszl' := hszl h2'
        have hS := ihS (s.extract H.2.1 (H.2.1 + H.2.2.1)) (deep + 1) (ahead + 1) (by omega)
        have hcl : s.data.toList.take H.2.1 ++ (s.extract H.2.1 (H.2.1 + H.2.2.1)).data.toList = s.data.toList.take (H.2.1 + H.2.2.1) := by
          rw [toList_cut]
          have := List.take_append_drop H.2.1 (s.data.toList.take (H.2.1 + H.2.2.1))
          rwa [List.take_take, Nat.min_eq_left (by omega)] at this
        generalize rdSeq D M (s.extract H.2.1 (H.2.1 + H.2.2.1)) (deep + 1) (ahead + 1) = R at *
        by_cases h3 : R.e ≠ 0
        · rw [if_pos h3] at hq; rw [hq] at he; exact absurd he h3
        rw [if_neg h3] at hq
        rw [hq]
        dsimp only
        obtain ⟨b1, b2, b3, b4, b5, b6, b7⟩ := hS (Decidable.not_not.1 h3)
        have hpos : R.xs = [] ∨ R.xs ≠ [] := by cases R.xs <;> simp
        refine ⟨?_, by simp [It.right, formed, b2], by simp [It.count, b3], ?_, ?_, ?_, ?_⟩
        · rcases his with ⟨hE, _⟩ | ⟨h5, h6, h7, h8⟩
          · rw [hE] at h2; simp at h2
          · rw [It.rlp, if_pos rfl, b1, toList_size, hcz, ← hcl, h5, if_pos h2']
        all_goals
          rcases hpos with e | e
          · rw [e]; simp [It.deep, deepL, It.count, countL]; try omega
          · first
            | (have := b4 e; simp only [It.deep]; omega)
            | (have := b5 e; simp only [It.deep]; omega)
            | (have := b6 e; simp only [It.count]; omega)
            | (have := b7 e; simp only [It.count]; omega)
    refine ⟨hI, fun s deep ahead hz he => ?_⟩
    by_cases h0 : s.size = 0
    · exact hnil s deep ahead h0
    have hq := rdSeq_cons D M s deep ahead h0 _ rfl
    have hb := hI s deep ahead hz
    have hk := rdI_size D M (2 * s.size + 2) s deep ahead
    change (rdItem D M s deep ahead).e = 0 → 1 ≤ (rdItem D M s deep ahead).size ∧ (rdItem D M s deep ahead).size ≤ s.size at hk
    generalize rdItem D M s deep ahead = R at *
    by_cases h1 : R.e ≠ 0
    · rw [if_pos h1] at hq; rw [hq] at he
      have : within R.e ≠ 0 := by unfold within; split <;> simp_all
      exact absurd he this
    have hb := hb (Decidable.not_not.1 h1)
    have hk := hk (Decidable.not_not.1 h1)
    rw [if_neg h1] at hq
    have hz' : (s.extract R.size s.size).size = s.size - R.size := size_cut _ _ _ (Nat.le_refl _)
    have hS := ihS (s.extract R.size s.size) deep (ahead + R.items) (by omega)
    generalize rdSeq D M (s.extract R.size s.size) deep (ahead + R.items) = T at *
    by_cases h2 : T.e ≠ 0
    · rw [if_pos h2] at hq; rw [hq] at he; exact absurd he h2
    rw [if_neg h2] at hq
    rw [hq]
    dsimp only
    obtain ⟨a1, a2, a3, a4, a5, a6, a7⟩ := hb
    obtain ⟨b1, b2, b3, b4, b5, b6, b7⟩ := hS (Decidable.not_not.1 h2)
    have hpos : T.xs = [] ∨ T.xs ≠ [] := by cases T.xs <;> simp
    refine ⟨?_, by simp [rightL, a2, b2], by simp [countL, a3, b3], fun _ => ?_, fun _ => ?_, fun _ => ?_, fun _ => ?_⟩
    · rw [rlpL, a1, b1, toList_cut, take_all, List.take_append_drop]
    all_goals
      rcases hpos with e | e
      · rw [e]; simp only [deepL, countL]; omega
      · have := b4 e; have := b5 e; have := b6 e; have := b7 e
        simp only [deepL, countL]; omega
/-- What was laid is read, with whatever behind it. -/
theorem rd_put (D M : Int) (x : It) : ∀ (s : ByteArray) (more : List UInt8) (deep ahead : Nat), s.data.toList = x.rlp ++ more → s.size < 18446744073709551616 → x.right = true → (deep : Int) + x.deep ≤ D + 1 → deep + x.deep ≤ 17 → (ahead : Int) + x.count ≤ M → ahead + x.count ≤ 1024 →
    rdItem D M s deep ahead = ⟨.mk (if x.list = true then ByteArray.empty else x.text) x.list x.sub, x.rlp.length, x.count, 0⟩ := by
  induction x using It.ind with
  | h t l xs ih =>
    intro s more deep ahead hs hlt hr hD h16 hM h1024
    have hz : s.size = (It.mk t l xs).rlp.length + more.length := by rw [← toList_size, hs, List.length_append]
    have hdp := deep_pos (.mk t l xs)
    have hct := count_pos (.mk t l xs)
    have hhd : 0 < s.size → hd s (tooDeep D deep) (tooMany M ahead) = hdR s := by
      intro h
      unfold hd
      rw [if_neg (by omega), tooDeep_no.2 (by omega), tooMany_no.2 (by omega)]
      simp
    cases l with
    | false =>
      have hxs : xs = [] := by
        simp only [It.right, formed, Bool.and_eq_true] at hr
        exact List.eq_nil_of_length_eq_zero (by simpa using hr.1)
      subst hxs
      rw [It.rlp, if_neg (by simp)] at hs hz ⊢
      by_cases h1 : t.size = 1 ∧ (t.data.toList.getD 0 0).toNat < 128
      · rw [if_pos h1] at hs hz ⊢
        rw [toList_size] at hz
        have e0 : s.data.toList.getD 0 0 = t.data.toList.getD 0 0 := by
          rw [hs, List.getD_eq_getElem?_getD, List.getElem?_append_left (by rw [toList_size]; omega), ← List.getD_eq_getElem?_getD]
        have hH : hd s (tooDeep D deep) (tooMany M ahead) = (false, 0, 1, 0) := by
          rw [hhd (by omega)]
          unfold hdR
          rw [e0]
          dsimp only
          rw [if_pos h1.2]
        rw [rdItem_eq D M s deep ahead _ hH]
        simp only [It.list_mk, It.text_mk, It.sub_mk, It.count, countL]
        have : s.extract 0 (0 + 1) = t := by
          apply bytes_ext
          rw [toList_cut, hs, List.drop_zero, List.take_append_of_le_length (by rw [toList_size]; omega), List.take_of_length_le (by rw [toList_size]; omega)]
        simp [this, h1.1]
      · rw [if_neg h1] at hs hz ⊢
        rw [List.append_assoc] at hs
        have hH : hd s (tooDeep D deep) (tooMany M ahead) = (decide (128 = 192), (rHead 128 t.size).length, t.size, 0) := by
          rw [List.length_append, toList_size] at hz
          have hp : 1 ≤ (rHead 128 t.size).length := by rw [rHead_length]; split <;> omega
          rw [hhd (by omega)]
          refine hdR_head s 128 t.size _ (.inl rfl) hs (by simp) (by omega) ?_
          intro _ ht
          have : ((t.data.toList ++ more).getD 0 0) = t.data.toList.getD 0 0 := by
            rw [List.getD_eq_getElem?_getD, List.getElem?_append_left (by rw [toList_size]; omega), ← List.getD_eq_getElem?_getD]
          rw [this]
          exact Nat.le_of_not_lt fun h => h1 ⟨ht, h⟩
        rw [rdItem_eq D M s deep ahead _ hH]
        simp only [It.list_mk, It.text_mk, It.sub_mk, It.count, countL]
        have : s.extract (rHead 128 t.size).length ((rHead 128 t.size).length + t.size) = t := by
          apply bytes_ext
          rw [toList_cut, hs, ← List.append_assoc, List.take_append_of_le_length (by rw [List.length_append, toList_size]; omega), List.take_of_length_le (by rw [List.length_append, toList_size]; omega), List.drop_left]
        simp [this]
    | true =>
      rw [It.rlp, if_pos rfl] at hs hz ⊢
      rw [List.append_assoc] at hs
      rw [List.length_append] at hz
      have hp : 1 ≤ (rHead 192 (rlpL xs).length).length := by rw [rHead_length]; split <;> omega
      have hH : hd s (tooDeep D deep) (tooMany M ahead) = (decide (192 = 192), (rHead 192 (rlpL xs).length).length, (rlpL xs).length, 0) := by
        rw [hhd (by omega)]
        exact hdR_head s 192 (rlpL xs).length _ (.inr rfl) hs (by simp) (by omega) (by omega)
      have hin : (s.extract (rHead 192 (rlpL xs).length).length ((rHead 192 (rlpL xs).length).length + (rlpL xs).length)).data.toList = rlpL xs := by
        rw [toList_cut, hs, ← List.append_assoc, List.take_append_of_le_length (by rw [List.length_append]; omega), List.take_of_length_le (by rw [List.length_append]; omega), List.drop_left]
      rw [rdItem_eq D M s deep ahead _ hH]
      simp only [It.list_mk, It.text_mk, It.sub_mk]
      rw [if_neg (by simp), if_neg (by simp)]
      simp only [It.right, Bool.and_eq_true] at hr
      have hrl := hr.2
      have hD' : (deep : Int) + 1 + deepL xs ≤ D + 1 := by simp only [It.deep] at hD; omega
      have h16' : deep + 1 + deepL xs ≤ 17 := by simp only [It.deep] at h16; omega
      have hM' : (ahead : Int) + 1 + countL xs ≤ M := by simp only [It.count] at hM; omega
      have h1024' : ahead + 1 + countL xs ≤ 1024 := by simp only [It.count] at h1024; omega
      have hseq : ∀ (ys : List It), (∀ y ∈ ys, y ∈ xs) → ∀ (u : ByteArray) (a : Nat), u.data.toList = rlpL ys → u.size < 18446744073709551616 → rightL ys = true → (deep : Int) + 1 + deepL ys ≤ D + 1 → deep + 1 + deepL ys ≤ 17 → (a : Int) + countL ys ≤ M → a + countL ys ≤ 1024 → rightL ys = true →
          rdSeq D M u (deep + 1) a = ⟨ys, countL ys, 0⟩ := by
        intro ys
        induction ys with
        | nil =>
          intro _ u a hu _ _ _ _ _ _ _
          rw [rdSeq_nil _ _ _ _ _ (by rw [← toList_size, hu]; rfl)]; rfl
        | cons y ys ihy =>
          intro hmem u a hu hult hry hDy h16y hMy h1024y _
          simp only [rightL, Bool.and_eq_true] at hry
          simp only [deepL] at hDy h16y
          simp only [countL] at hMy h1024y
          rw [rlpL] at hu
          have hI := ih y (hmem y (by simp)) u (rlpL ys) (deep + 1) a hu hult hry.1 (by omega) (by omega) (by omega) (by omega)
          have hy : (It.mk (if y.list = true then ByteArray.empty else y.text) y.list y.sub) = y := by
            cases y with
            | mk t' l' s' =>
              simp only [It.text_mk, It.list_mk, It.sub_mk]
              cases l' with
              | false => simp
              | true =>
                have h0 : t'.size = 0 := by
                  have := hry.1
                  simp only [It.right, formed, Bool.and_eq_true] at this
                  simpa using this.1
                have : t' = ByteArray.empty := bytes_ext (by rw [List.eq_nil_of_length_eq_zero (show t'.data.toList.length = 0 by rw [toList_size]; exact h0)]; rfl)
                rw [this]; simp
          have hsz := rdI_size D M (2 * u.size + 2) u (deep + 1) a
          change (rdItem D M u (deep + 1) a).e = 0 → 1 ≤ (rdItem D M u (deep + 1) a).size ∧ (rdItem D M u (deep + 1) a).size ≤ u.size at hsz
          rw [hI] at hsz
          have hsz := hsz rfl
          dsimp only at hsz
          rw [rdSeq_cons D M u (deep + 1) a (by omega) _ hI]
          dsimp only
          rw [if_neg (by simp)]
          have hrest : (u.extract y.rlp.length u.size).data.toList = rlpL ys := by rw [toList_cut, take_all, hu, List.drop_left]
          have hT := ihy (fun z hz => hmem z (by simp [hz])) (u.extract y.rlp.length u.size) (a + y.count) hrest (by rw [size_cut _ _ _ (Nat.le_refl _)]; omega) hry.2 (by omega) (by omega) (by omega) (by omega) hry.2
          rw [hT]
          dsimp only
          rw [if_neg (by simp), hy, countL]
      rw [hseq xs (fun _ h => h) _ _ hin (by rw [← toList_size, hin]; omega) hrl hD' h16' (by omega) (by omega) hrl]
      dsimp only
      rw [if_neg (by simp), List.length_append, It.count]; simp
theorem rd_put' (D M : Int) (x : It) (s : ByteArray) (more : List UInt8) (deep ahead : Nat) (hs : s.data.toList = x.rlp ++ more) (hlt : s.size < 18446744073709551616) (hr : x.right = true) (hD : (deep : Int) + x.deep ≤ D + 1) (h16 : deep + x.deep ≤ 17) (hM : (ahead : Int) + x.count ≤ M) (h1024 : ahead + x.count ≤ 1024) :
    rdItem D M s deep ahead = ⟨x, x.rlp.length, x.count, 0⟩ := by
  rw [rd_put D M x s more deep ahead hs hlt hr hD h16 hM h1024]
  cases x with
  | mk t l xs =>
    cases l with
    | false => rfl
    | true =>
      have h0 : t.size = 0 := by
        simp only [It.right, formed, Bool.and_eq_true] at hr
        simpa using hr.1
      have : t = ByteArray.empty := bytes_ext (by rw [List.eq_nil_of_length_eq_zero (show t.data.toList.length = 0 by rw [toList_size]; exact h0)]; rfl)
      subst this; rfl
end Go.Proofs.YtacikiambpfipaaDoor
