/- The text of a type, as the document reads it. No program in sight. -/
import Derived.Test.YtacikiambpfipaaDoorJTyP
import Derived.Test.YtacikiambpfipaaDoorJA1
namespace Go.Proofs.YtacikiambpfipaaDoor
set_option linter.unusedVariables false
set_option linter.unusedSimpArgs false

def isDig (b : UInt8) : Bool := decide (48 ≤ b.toNat) && decide (b.toNat ≤ 57)
/-- One more digit; a number above a million stands. -/
def digStep (n : Nat) (b : UInt8) : Nat := if n < 1000000 then 10 * n + (b.toNat - 48) else n
def numGo : List UInt8 → Nat → Nat × List UInt8
  | [], n => (n, [])
  | b :: r, n => if isDig b then numGo r (digStep n b) else (n, b :: r)
/-- A digit stands next? -/
def digAhead : List UInt8 → Bool
  | [] => false
  | b :: _ => isDig b
def numR : List UInt8 → Option (Nat × List UInt8)
  | [] => none
  | b :: r => if isDig b = false then none else if b = 48 ∧ digAhead r = true then none else some (numGo (b :: r) 0)
theorem numR_cons (b : UInt8) (r : List UInt8) : numR (b :: r) = if isDig b = false then none else if b = 48 ∧ digAhead r = true then none else some (numGo (b :: r) 0) := rfl
def tSep (acc : List Ty) (l : List UInt8) : Option (List UInt8) :=
  if acc = [] then some l else match l with
    | [] => none
    | c :: r => if c = 44 then some r else none
def tQ (l : List UInt8) (tl : Nat) : Option (List UInt8 × Nat) := match l with
  | [] => if 0 < tl then none else some ([], tl)
  | c :: r => if c = 63 then some (r, tl + 1) else if 0 < tl then none else some (c :: r, tl)
def tLoop (p : List UInt8 → Option (Ty × List UInt8)) : Nat → List UInt8 → List Ty → Nat → Option (Ty × List UInt8)
  | 0, _, _, _ => none
  | _ + 1, [], _, _ => none
  | n + 1, c :: r, acc, tl =>
    if c = 125 then some (.mk 5 0 acc tl, r)
    else match tSep acc (c :: r) with
      | none => none
      | some l1 => match tQ l1 tl with
        | none => none
        | some (l2, tl') => match p l2 with
          | none => none
          | some (y, r') => tLoop p n r' (acc ++ [y]) tl'
/-- What stands behind the type within a list. -/
def tTail (x : Ty) : List UInt8 → Option (Ty × List UInt8)
  | [] => none
  | c :: r => if c = 58 then (match numR r with
    | none => none
    | some (_, []) => none
    | some (n, d :: r') => if d = 93 then some (.mk 4 n [x] 0, r') else none) else none
def tItem : Nat → List UInt8 → Option (Ty × List UInt8)
  | 0, _ => none
  | _ + 1, [] => none
  | f + 1, c :: r =>
    if c = 117 then (match numR r with | none => none | some (n, r') => if n % 8 = 0 then some (.mk 1 ((n / 8 : Nat) : Int) [] 0, r') else none)
    else if c = 98 then (match numR r with | none => none | some (n, r') => some (.mk 2 n [] 0, r'))
    else if c = 115 then (match numR r with | none => none | some (n, r') => some (.mk 3 n [] 0, r'))
    else if c = 91 then (match tItem f r with | none => none | some (x, r') => tTail x r')
    else if c = 123 then tLoop (tItem f) (r.length + 1) r [] 0
    else none
/-- What a number behind 'u', and behind another letter, makes. -/
def numU : Option (Nat × List UInt8) → Option (Ty × List UInt8)
  | none => none
  | some (n, r) => if n % 8 = 0 then some (.mk 1 ((n / 8 : Nat) : Int) [] 0, r) else none
def numK (k : Int) : Option (Nat × List UInt8) → Option (Ty × List UInt8)
  | none => none
  | some (n, r) => some (.mk k n [] 0, r)
def tList (o : Option (Ty × List UInt8)) : Option (Ty × List UInt8) := match o with
  | none => none
  | some (x, r) => tTail x r
theorem tItem_u (f : Nat) (r : List UInt8) : tItem (f + 1) (117 :: r) = numU (numR r) := by
  simp only [tItem, if_true]
  cases numR r <;> rfl
theorem tItem_b (f : Nat) (r : List UInt8) : tItem (f + 1) (98 :: r) = numK 2 (numR r) := by
  simp only [tItem, if_neg (show ¬ (98 : UInt8) = 117 by decide), if_true]
  cases numR r <;> rfl
theorem tItem_s (f : Nat) (r : List UInt8) : tItem (f + 1) (115 :: r) = numK 3 (numR r) := by
  simp only [tItem, if_neg (show ¬ (115 : UInt8) = 117 by decide), if_neg (show ¬ (115 : UInt8) = 98 by decide), if_true]
  cases numR r <;> rfl
theorem tItem_l (f : Nat) (r : List UInt8) : tItem (f + 1) (91 :: r) = tList (tItem f r) := by
  simp only [tItem, if_neg (show ¬ (91 : UInt8) = 117 by decide), if_neg (show ¬ (91 : UInt8) = 98 by decide), if_neg (show ¬ (91 : UInt8) = 115 by decide), if_true]
  cases tItem f r <;> rfl
theorem tItem_t (f : Nat) (r : List UInt8) : tItem (f + 1) (123 :: r) = tLoop (tItem f) (r.length + 1) r [] 0 := by
  simp only [tItem, if_neg (show ¬ (123 : UInt8) = 117 by decide), if_neg (show ¬ (123 : UInt8) = 98 by decide), if_neg (show ¬ (123 : UInt8) = 115 by decide), if_neg (show ¬ (123 : UInt8) = 91 by decide), if_true]
theorem tItem_no (f : Nat) (c : UInt8) (r : List UInt8) (h1 : c.toNat ≠ 117) (h2 : c.toNat ≠ 98) (h3 : c.toNat ≠ 115) (h4 : c.toNat ≠ 91) (h5 : c.toNat ≠ 123) : tItem (f + 1) (c :: r) = none := by
  have k : ∀ n : UInt8, c.toNat ≠ n.toNat → ¬ c = n := fun n h e => h (by rw [e])
  simp only [tItem, if_neg (k 117 h1), if_neg (k 98 h2), if_neg (k 115 h3), if_neg (k 91 h4), if_neg (k 123 h5)]
/-- What stands behind the colon within a list. -/
def tClose (x : Ty) : Option (Nat × List UInt8) → Option (Ty × List UInt8)
  | none => none
  | some (_, []) => none
  | some (n, d :: r') => if d.toNat = 93 then some (.mk 4 n [x] 0, r') else none
theorem tTail_colon (x : Ty) (r : List UInt8) : tTail x (58 :: r) = tClose x (numR r) := by
  simp only [tTail, if_true]
  cases numR r with
  | none => rfl
  | some z =>
    obtain ⟨n, r'⟩ := z
    cases r' with
    | nil => rfl
    | cons d r' =>
      simp only [tClose]
      by_cases h : d = 93
      · subst h; rfl
      · have h2 : ¬ d.toNat = 93 := fun e => h (UInt8.toNat_inj.1 e)
        simp [h, h2]
theorem tTail_no (x : Ty) (c : UInt8) (r : List UInt8) (h : c.toNat ≠ 58) : tTail x (c :: r) = none := by
  simp only [tTail, if_neg (fun e : c = 58 => h (by rw [e]; rfl))]
def readTy (l : List UInt8) : Option Ty := match tItem 8 l with
  | some (x, []) => if x.may then some x else none
  | _ => none

theorem numGo_suffix : ∀ (l : List UInt8) (n m : Nat) (r : List UInt8), numGo l n = (m, r) → r <:+ l
  | [], n, m, r, h => by simp [numGo] at h; rw [← h.2]; exact List.suffix_refl _
  | b :: l, n, m, r, h => by
    unfold numGo at h
    split at h
    · exact (numGo_suffix l _ m r h).trans (List.suffix_cons b l)
    · injection h with h1 h2
      rw [← h2]; exact List.suffix_refl _
theorem digStep_le (n : Nat) (b : UInt8) (h : n ≤ 10000100) (hb : b.toNat ≤ 57) : digStep n b ≤ 10000100 := by unfold digStep; split <;> omega
theorem isDig_iff (b : UInt8) : isDig b = true ↔ 48 ≤ b.toNat ∧ b.toNat ≤ 57 := by simp [isDig]
theorem numGo_le : ∀ (l : List UInt8) (n m : Nat) (r : List UInt8), numGo l n = (m, r) → n ≤ 10000100 → m ≤ 10000100
  | [], n, m, r, h, hn => by simp [numGo] at h; omega
  | b :: l, n, m, r, h, hn => by
    unfold numGo at h
    split at h
    · rename_i hd
      exact numGo_le l _ m r h (digStep_le n b hn ((isDig_iff b).1 hd).2)
    · injection h with h1 h2; omega
theorem numR_some {l : List UInt8} {n : Nat} {r : List UInt8} (h : numR l = some (n, r)) : r <:+ l ∧ r.length < l.length ∧ n ≤ 10000100 := by
  match l, h with
  | [], h => simp [numR] at h
  | b :: l, h =>
    rw [numR_cons] at h
    split at h
    · cases h
    · rename_i hb
      split at h
      · cases h
      · injection h with h
        have h2 := numGo_le _ _ _ _ h (by omega)
        unfold numGo at h
        rw [if_pos (by simpa using hb)] at h
        have h1 := numGo_suffix _ _ _ _ h
        refine ⟨h1.trans (List.suffix_cons b l), ?_, h2⟩
        have := h1.length_le
        simp; omega
theorem tSep_some {acc : List Ty} {l r : List UInt8} (h : tSep acc l = some r) : r <:+ l := by
  unfold tSep at h
  split at h
  · injection h with h; rw [h]; exact List.suffix_refl _
  · match l, h with
    | c :: l, h =>
      simp only at h
      split at h
      · injection h with h; rw [← h]; exact List.suffix_cons c l
      · cases h
theorem tQ_some {l r : List UInt8} {tl tl' : Nat} (h : tQ l tl = some (r, tl')) : r <:+ l := by
  unfold tQ at h
  match l, h with
  | [], h =>
    simp only at h
    split at h
    · cases h
    · injection h with h; injection h with h _; rw [← h]; exact List.suffix_refl _
  | c :: l, h =>
    simp only at h
    split at h
    · injection h with h; injection h with h _; rw [← h]; exact List.suffix_cons c l
    · split at h
      · cases h
      · injection h with h; injection h with h _; rw [← h]; exact List.suffix_refl _
theorem tLoop_sfx {p : List UInt8 → Option (Ty × List UInt8)} (hp : ∀ l y r, p l = some (y, r) → r <:+ l ∧ r.length < l.length) : ∀ n l acc tl y r, tLoop p n l acc tl = some (y, r) → r <:+ l ∧ r.length < l.length
  | 0, _, _, _, _, _, h => by simp [tLoop] at h
  | n + 1, [], _, _, _, _, h => by simp [tLoop] at h
  | n + 1, c :: l, acc, tl, y, r, h => by
    unfold tLoop at h
    split at h
    · injection h with h; injection h with _ h; rw [← h]; exact ⟨List.suffix_cons c l, by simp⟩
    · split at h
      · cases h
      · rename_i l1 h1
        split at h
        · cases h
        · rename_i l2 tl' h2
          split at h
          · cases h
          · rename_i y' r' h3
            have k1 := tSep_some h1
            have k2 := tQ_some h2
            have k3 := hp _ _ _ h3
            have k4 := tLoop_sfx hp n _ _ _ _ _ h
            have k5 := (k4.1.trans k3.1).trans (k2.trans k1)
            refine ⟨k5, ?_⟩
            have := (k2.trans k1).length_le
            omega
theorem tTail_sfx {x y : Ty} {l r : List UInt8} (h : tTail x l = some (y, r)) : r <:+ l ∧ r.length < l.length := by
  unfold tTail at h
  match l, h with
  | c :: l, h =>
    simp only at h
    split at h
    · split at h
      · cases h
      · cases h
      · rename_i n d r' h1
        split at h
        · injection h with h; injection h with _ h; subst h
          have k1 := (numR_some h1)
          refine ⟨((List.suffix_cons d r').trans k1.1).trans (List.suffix_cons c l), ?_⟩
          have := k1.2.1
          simp at this ⊢; omega
        · cases h
    · cases h
theorem tItem_sfx : ∀ (f : Nat) (l : List UInt8) (y : Ty) (r : List UInt8), tItem f l = some (y, r) → r <:+ l ∧ r.length < l.length
  | 0, _, _, _, h => by simp [tItem] at h
  | f + 1, [], _, _, h => by simp [tItem] at h
  | f + 1, c :: l, y, r, h => by
    have key : ∀ {m : Nat} {r' : List UInt8}, numR l = some (m, r') → r' <:+ c :: l ∧ r'.length < (c :: l).length := fun h1 => by
      have k := numR_some h1
      exact ⟨k.1.trans (List.suffix_cons c l), by have := k.2.1; simp; omega⟩
    unfold tItem at h
    split at h
    · split at h
      · cases h
      · rename_i h1
        split at h
        · injection h with h; injection h with _ h; subst h; exact key h1
        · cases h
    · split at h
      · split at h
        · cases h
        · rename_i h1
          injection h with h; injection h with _ h; subst h; exact key h1
      · split at h
        · split at h
          · cases h
          · rename_i h1
            injection h with h; injection h with _ h; subst h; exact key h1
        · split at h
          · split at h
            · cases h
            · rename_i x r' h1
              have k1 := tItem_sfx f _ _ _ h1
              have k2 := tTail_sfx h
              exact ⟨(k2.1.trans k1.1).trans (List.suffix_cons c l), by have := k1.2; have := k2.2; simp; omega⟩
          · split at h
            · have k := tLoop_sfx (tItem_sfx f) _ _ _ _ _ _ h
              exact ⟨k.1.trans (List.suffix_cons c l), by have := k.2; simp; omega⟩
            · cases h
/-- A rest of a text is what stands behind a place. -/
theorem sfx_drop {s : ByteArray} {q : Nat} {r : List UInt8} (hq : q ≤ s.size) (h : r <:+ s.data.toList.drop q) : s.data.toList.drop (s.size - r.length) = r ∧ q ≤ s.size - r.length := by
  obtain ⟨pre, hp⟩ := h
  have h1 := congrArg List.length hp
  simp only [List.length_append, List.length_drop, toList_size] at h1
  have h2 : r = (s.data.toList.drop q).drop pre.length := by rw [← hp, List.drop_left]
  rw [List.drop_drop] at h2
  refine ⟨?_, by omega⟩
  rw [h2]
  congr 1
  rw [List.length_drop, toList_size]
  omega
/-- The loop over a Struct's types, at a place. -/
def TLoop (f : Nat) (s : ByteArray) (R : Option (Ty × List UInt8)) (p : Nat) (acc : List Ty) (tl : Nat) : Prop := ∃ n, tLoop (tItem f) n (s.data.toList.drop p) acc tl = R ∧ (s.data.toList.drop p).length < n
def TAt (f : Nat) (s : ByteArray) (R : Option (Ty × List UInt8)) (q : Nat) (acc : List Ty) (tl : Nat) : Prop := ∃ n, (match tItem f (s.data.toList.drop q) with | none => none | some (y, r') => tLoop (tItem f) n r' (acc ++ [y]) tl) = R ∧ (s.data.toList.drop q).length ≤ n
theorem TLoop.stop {f : Nat} {s : ByteArray} {R : Option (Ty × List UInt8)} {p : Nat} {acc : List Ty} {tl : Nat} (h : TLoop f s R p acc tl) (hp : s.size ≤ p) : R = none := by
  obtain ⟨n, h1, _⟩ := h
  rw [List.drop_eq_nil_of_le (by simpa using hp)] at h1
  cases n <;> simp [tLoop] at h1 <;> exact h1.symm
theorem TLoop.ends {f : Nat} {s : ByteArray} {R : Option (Ty × List UInt8)} {p : Nat} {acc : List Ty} {tl : Nat} (h : TLoop f s R p acc tl) (hp : p < s.size) (hc : s[p].toNat = 125) : R = some (.mk 5 0 acc tl, s.data.toList.drop (p + 1)) := by
  obtain ⟨n, h1, h2⟩ := h
  rw [drop_cons s p hp, show s[p] = 125 from UInt8.toNat_inj.1 hc] at h1
  cases n with
  | zero => omega
  | succ n => simp [tLoop] at h1; exact h1.symm
/-- Where the next type begins, and the tail then. -/
theorem TLoop.open_ {f : Nat} {s : ByteArray} {R : Option (Ty × List UInt8)} {p : Nat} {acc : List Ty} {tl : Nat} (h : TLoop f s R p acc tl) (hp : p < s.size) (hc : s[p].toNat ≠ 125) :
    ∃ n, (match tSep acc (s.data.toList.drop p) with
      | none => none
      | some l1 => match tQ l1 tl with
        | none => none
        | some (l2, tl') => match tItem f l2 with
          | none => none
          | some (y, r') => tLoop (tItem f) n r' (acc ++ [y]) tl') = R ∧ (s.data.toList.drop p).length ≤ n := by
  obtain ⟨n, h1, h2⟩ := h
  have c1 : s[p] ≠ 125 := fun e => hc (by rw [e]; rfl)
  match n, h1, h2 with
  | n + 1, h1, h2 =>
    refine ⟨n, ?_, by omega⟩
    rw [drop_cons s p hp] at h1 ⊢
    simpa only [tLoop, if_neg c1] using h1
theorem TLoop.bad {f : Nat} {s : ByteArray} {R : Option (Ty × List UInt8)} {p : Nat} {acc : List Ty} {tl : Nat} (h : TLoop f s R p acc tl) (hp : p < s.size) (hc : s[p].toNat ≠ 125) (hn : s[p].toNat ≠ 44) (ha : acc ≠ []) : R = none := by
  obtain ⟨n, h1, _⟩ := h.open_ hp hc
  have c2 : s[p] ≠ 44 := fun e => hn (by rw [e]; rfl)
  rw [show tSep acc (s.data.toList.drop p) = none by rw [drop_cons s p hp]; simp [tSep, ha, c2]] at h1
  exact h1.symm
/-- Behind the comma, if there must be one. -/
def TSep (f : Nat) (s : ByteArray) (R : Option (Ty × List UInt8)) (q : Nat) (acc : List Ty) (tl : Nat) : Prop :=
  ∃ n, (match tQ (s.data.toList.drop q) tl with
        | none => none
        | some (l2, tl') => match tItem f l2 with
          | none => none
          | some (y, r') => tLoop (tItem f) n r' (acc ++ [y]) tl') = R ∧ (s.data.toList.drop q).length ≤ n
theorem TLoop.first {f : Nat} {s : ByteArray} {R : Option (Ty × List UInt8)} {p : Nat} {tl : Nat} (h : TLoop f s R p [] tl) (hp : p < s.size) (hc : s[p].toNat ≠ 125) : TSep f s R p [] tl := by
  obtain ⟨n, h1, h2⟩ := h.open_ hp hc
  rw [show tSep [] (s.data.toList.drop p) = some (s.data.toList.drop p) by simp [tSep]] at h1
  exact ⟨n, h1, h2⟩
theorem TLoop.more {f : Nat} {s : ByteArray} {R : Option (Ty × List UInt8)} {p : Nat} {acc : List Ty} {tl : Nat} (h : TLoop f s R p acc tl) (hp : p < s.size) (hc : s[p].toNat = 44) (ha : acc ≠ []) : TSep f s R (p + 1) acc tl := by
  obtain ⟨n, h1, h2⟩ := h.open_ hp (by omega)
  have c2 : s[p] = 44 := UInt8.toNat_inj.1 hc
  rw [show tSep acc (s.data.toList.drop p) = some (s.data.toList.drop (p + 1)) by rw [drop_cons s p hp]; simp [tSep, ha, c2]] at h1
  rw [drop_cons s p hp] at h2
  exact ⟨n, h1, by simp at h2 ⊢; omega⟩
theorem TSep.mark {f : Nat} {s : ByteArray} {R : Option (Ty × List UInt8)} {q : Nat} {acc : List Ty} {tl : Nat} (h : TSep f s R q acc tl) (hq : q < s.size) (hc : s[q].toNat = 63) : TAt f s R (q + 1) acc (tl + 1) := by
  obtain ⟨n, h1, h2⟩ := h
  have c2 : s[q] = 63 := UInt8.toNat_inj.1 hc
  rw [show tQ (s.data.toList.drop q) tl = some (s.data.toList.drop (q + 1), tl + 1) by rw [drop_cons s q hq]; simp [tQ, c2]] at h1
  rw [drop_cons s q hq] at h2
  exact ⟨n, h1, by simp at h2 ⊢; omega⟩
theorem TSep.none_ {f : Nat} {s : ByteArray} {R : Option (Ty × List UInt8)} {q : Nat} {acc : List Ty} {tl : Nat} (h : TSep f s R q acc tl) (hc : ∀ hq : q < s.size, s[q].toNat ≠ 63) (ht : 0 < tl) : R = none := by
  obtain ⟨n, h1, h2⟩ := h
  rw [show tQ (s.data.toList.drop q) tl = none by
    by_cases hq : q < s.size
    · have c2 : s[q] ≠ 63 := fun e => hc hq (by rw [e]; rfl)
      rw [drop_cons s q hq]; simp [tQ, c2, ht]
    · rw [List.drop_eq_nil_of_le (by simp; omega)]; simp [tQ, ht]] at h1
  exact h1.symm
theorem TSep.plain {f : Nat} {s : ByteArray} {R : Option (Ty × List UInt8)} {q : Nat} {acc : List Ty} (h : TSep f s R q acc 0) (hc : ∀ hq : q < s.size, s[q].toNat ≠ 63) : TAt f s R q acc 0 := by
  obtain ⟨n, h1, h2⟩ := h
  rw [show tQ (s.data.toList.drop q) 0 = some (s.data.toList.drop q, 0) by
    by_cases hq : q < s.size
    · have c2 : s[q] ≠ 63 := fun e => hc hq (by rw [e]; rfl)
      rw [drop_cons s q hq]; simp [tQ, c2]
    · rw [List.drop_eq_nil_of_le (by simp; omega)]; simp [tQ]] at h1
  exact ⟨n, h1, h2⟩
theorem TAt.none {f : Nat} {s : ByteArray} {R : Option (Ty × List UInt8)} {q : Nat} {acc : List Ty} {tl : Nat} (h : TAt f s R q acc tl) (hn : tItem f (s.data.toList.drop q) = none) : R = none := by
  obtain ⟨n, h1, _⟩ := h
  rw [hn] at h1
  exact h1.symm
theorem TAt.some {f : Nat} {s : ByteArray} {R : Option (Ty × List UInt8)} {q : Nat} {acc : List Ty} {tl : Nat} {y : Ty} {r : List UInt8} (h : TAt f s R q acc tl) (hq : q ≤ s.size) (hn : tItem f (s.data.toList.drop q) = some (y, r)) :
    TLoop f s R (s.size - r.length) (acc ++ [y]) tl ∧ q < s.size - r.length ∧ s.size - r.length ≤ s.size := by
  obtain ⟨n, h1, h2⟩ := h
  obtain ⟨k1, k2⟩ := tItem_sfx _ _ _ _ hn
  have hlen : (s.data.toList.drop q).length = s.size - q := by simp
  rw [hlen] at h2 k2
  rw [hn] at h1
  have e1 := (sfx_drop hq k1).1
  exact ⟨⟨n, by rw [e1]; exact h1, by rw [e1]; omega⟩, by omega, by omega⟩
/-! A number, at a place. -/
def DgRel (s : ByteArray) (at_ k m : Nat) : Prop := numGo (s.data.toList.drop at_) 0 = numGo (s.data.toList.drop k) m ∧ ∀ j, at_ ≤ j → j < k → ∃ h : j < s.size, isDig s[j] = true
theorem DgRel.start (s : ByteArray) (at_ : Nat) : DgRel s at_ at_ 0 := ⟨rfl, by omega⟩
theorem DgRel.next {s : ByteArray} {at_ k m : Nat} (h : DgRel s at_ k m) (hk : k < s.size) (hd : isDig s[k] = true) : DgRel s at_ (k + 1) (digStep m s[k]) := by
  refine ⟨?_, fun j h1 h2 => ?_⟩
  · rw [h.1, drop_cons s k hk, numGo, if_pos hd]
  · by_cases e : j = k
    · subst e; exact ⟨hk, hd⟩
    · exact h.2 j h1 (by omega)
theorem numR_stop {s : ByteArray} {at_ : Nat} (hn : ∀ h : at_ < s.size, isDig s[at_] = false) : numR (s.data.toList.drop at_) = none := by
  by_cases h : at_ < s.size
  · rw [drop_cons s at_ h]; simp [numR, hn h]
  · rw [List.drop_eq_nil_of_le (by simp; omega)]; rfl
theorem numR_zero {s : ByteArray} {at_ k m : Nat} (h : DgRel s at_ k m) (hk : at_ + 1 < k) (hz : ∀ h : at_ < s.size, s[at_].toNat = 48) : numR (s.data.toList.drop at_) = none := by
  obtain ⟨h1, d1⟩ := h.2 at_ (by omega) (by omega)
  obtain ⟨h2, d2⟩ := h.2 (at_ + 1) (by omega) hk
  have c2 : s[at_] = 48 := UInt8.toNat_inj.1 (hz h1)
  rw [drop_cons s at_ h1, drop_cons s (at_ + 1) h2]
  simp [numR, c2, digAhead, d2]
theorem numR_is {s : ByteArray} {at_ k m : Nat} (h : DgRel s at_ k m) (hk : at_ < k) (hn : ∀ h : k < s.size, isDig s[k] = false) (hz : at_ + 1 < k → ∀ h : at_ < s.size, s[at_].toNat ≠ 48) : numR (s.data.toList.drop at_) = some (m, s.data.toList.drop k) := by
  obtain ⟨h1, d1⟩ := h.2 at_ (by omega) hk
  have e : numGo (s.data.toList.drop k) m = (m, s.data.toList.drop k) := by
    by_cases hks : k < s.size
    · rw [drop_cons s k hks, numGo, if_neg (by rw [hn hks]; simp)]
    · rw [List.drop_eq_nil_of_le (by simp; omega)]; rfl
  have hg := h.1
  rw [e] at hg
  rw [drop_cons s at_ h1] at hg ⊢
  rw [numR_cons, if_neg (by simp [d1]), if_neg, hg]
  rintro ⟨c, hd⟩
  have hk1 : at_ + 1 < k ∨ k = at_ + 1 := by omega
  rcases hk1 with hk1 | hk1
  · exact hz hk1 h1 (by rw [c]; rfl)
  · subst hk1
    by_cases hks : at_ + 1 < s.size
    · rw [drop_cons s (at_ + 1) hks] at hd
      simp [digAhead, hn hks] at hd
    · rw [List.drop_eq_nil_of_le (by simp; omega)] at hd
      simp [digAhead] at hd
theorem numR_pos {s : ByteArray} {q n : Nat} {r : List UInt8} (hq : q ≤ s.size) (h : numR (s.data.toList.drop q) = some (n, r)) : s.data.toList.drop (s.size - r.length) = r ∧ q < s.size - r.length ∧ s.size - r.length ≤ s.size ∧ n ≤ 10000100 := by
  obtain ⟨h1, h2, h3⟩ := numR_some h
  obtain ⟨k1, k2⟩ := sfx_drop hq h1
  simp at h2
  exact ⟨k1, by omega, by omega, h3⟩
/-- The documents' examples. -/
def exTy : Ty := .mk 5 0 [.mk 1 2 [] 0, .mk 3 5 [] 0] 1
theorem exTy_read : tItem 8 [123, 117, 49, 54, 44, 63, 115, 53, 125] = some (exTy, []) := by rfl
def exTy2 : Ty := .mk 5 0 [.mk 1 2 [] 0, .mk 3 5 [] 0] 0
theorem exTy2_read : tItem 8 [123, 117, 49, 54, 44, 115, 53, 125] = some (exTy2, []) := by rfl
end Go.Proofs.YtacikiambpfipaaDoor
