/- The line of an item, and the item of a line, as plain functions; that each is the other's way back. No program in sight. -/
import Derived.Test.YtacikiambpfipaaDoorKA1
namespace Go.Proofs.YtacikiambpfipaaDoor
set_option linter.unusedVariables false
set_option linter.unusedSimpArgs false

/-- The digit of a value. -/
def hxd (n : Nat) : UInt8 := if n < 10 then UInt8.ofNat (48 + n) else UInt8.ofNat (87 + n)
def hx (b : UInt8) : List UInt8 := [hxd (b.toNat / 16), hxd (b.toNat % 16)]
/-- The digits of bytes. -/
def hxL (l : List UInt8) : List UInt8 := l.flatMap hx
theorem hxL_append (a b : List UInt8) : hxL (a ++ b) = hxL a ++ hxL b := by simp [hxL]
theorem hxL_one (b : UInt8) : hxL [b] = hx b := by simp [hxL]
theorem hxL_length (l : List UInt8) : (hxL l).length = 2 * l.length := by
  induction l with
  | nil => rfl
  | cons x xs ih => rw [show x :: xs = [x] ++ xs from rfl, hxL_append, List.length_append, ih, hxL_one]; simp [hx]; omega
/-- The value of a digit. -/
def hxv (b : UInt8) : Option Nat := if 48 ≤ b.toNat ∧ b.toNat ≤ 57 then some (b.toNat - 48) else if 97 ≤ b.toNat ∧ b.toNat ≤ 102 then some (b.toNat - 87) else none
set_option maxRecDepth 100000 in
theorem hxv_hxd : ∀ n : Fin 16, hxv (hxd n.val) = some n.val := by decide +kernel
theorem hxv_some {b : UInt8} {n : Nat} (h : hxv b = some n) : n < 16 ∧ hxd n = b := by
  unfold hxv at h
  have hb := b.toNat_lt
  split at h
  · injection h with h
    refine ⟨by omega, ?_⟩
    unfold hxd
    rw [if_pos (by omega), show 48 + n = b.toNat from by omega]; simp
  · split at h
    · injection h with h
      refine ⟨by omega, ?_⟩
      unfold hxd
      rw [if_neg (by omega), show 87 + n = b.toNat from by omega]; simp
    · cases h
theorem hxd_ne (n : Nat) (h : n < 16) (c : UInt8) (hc : hxv c = none) : hxd n ≠ c := by
  intro e; have := hxv_hxd ⟨n, h⟩; simp only at this; rw [e, hc] at this; cases this

mutual
/-- The line of an item. -/
def It.show : It → List UInt8
  | .mk t l s => if l then 40 :: (showL true s ++ [41]) else if t.size = 0 then [45] else hxL t.data.toList
def showL : Bool → List It → List UInt8
  | _, [] => []
  | f, x :: xs => (if f then [] else [32]) ++ (x.show ++ showL false xs)
end
theorem showL_append (f : Bool) (a b : List It) : showL f (a ++ b) = showL f a ++ showL (f && a.isEmpty) b := by
  induction a generalizing f with
  | nil => simp [showL]
  | cons x xs ih => simp [showL, ih, List.append_assoc]
theorem showL_take (s : List It) (k : Nat) (h : k < s.length) : showL true (s.take (k + 1)) = showL true (s.take k) ++ ((if k = 0 then [] else [32]) ++ s[k].show) := by
  rw [take_succ_it s k h, showL_append]
  by_cases hk : k = 0
  · subst hk; simp [showL]
  · have : (s.take k).isEmpty = false := by
      cases hs : s.take k with
      | nil => have := congrArg List.length hs; rw [List.length_take, List.length_nil] at this; omega
      | cons a b => rfl
    simp [showL, this, hk]
theorem showL_take_le (s : List It) (k : Nat) : (showL true (s.take k)).length ≤ (showL true s).length := by
  have h := showL_append true (s.take k) (s.drop k)
  rw [List.take_append_drop] at h
  rw [h, List.length_append]; omega

/-- The digits at the head, by twos: their bytes, and what is left. -/
def hxHead : List UInt8 → List UInt8 × List UInt8
  | a :: b :: r => match hxv a, hxv b with
    | some h, some l => (UInt8.ofNat (16 * h + l) :: (hxHead r).1, (hxHead r).2)
    | _, _ => ([], a :: b :: r)
  | r => ([], r)
/-- An item's list: the loop. -/
def rLoop (p : List UInt8 → Option (It × List UInt8)) : Nat → List UInt8 → List It → Option (It × List UInt8)
  | 0, _, _ => none
  | _ + 1, [], _ => none
  | n + 1, c :: r, acc =>
    if c = 41 then some (.mk ⟨#[]⟩ true acc, r)
    else if acc = [] then (match p (c :: r) with | none => none | some (y, r') => rLoop p n r' (acc ++ [y]))
    else if c = 32 then (match p r with | none => none | some (y, r') => rLoop p n r' (acc ++ [y]))
    else none
/-- The document's item at the head of bytes, so many levels being left. -/
def rItem : Nat → List UInt8 → Option (It × List UInt8)
  | 0, _ => none
  | _ + 1, [] => none
  | f + 1, c :: r =>
    if c = 45 then some (.mk ⟨#[]⟩ false [], r)
    else if c = 40 then rLoop (rItem f) (r.length + 1) r []
    else match hxHead (c :: r) with
      | ([], _) => none
      | (b :: bs, r') => some (.mk ⟨(b :: bs).toArray⟩ false [], r')
/-- The program's: it counts the items that are left. -/
def pLoop (p : Nat → List UInt8 → Option (It × List UInt8 × Nat)) : Nat → Nat → List UInt8 → List It → Option (It × List UInt8 × Nat)
  | 0, _, _, _ => none
  | _ + 1, _, [], _ => none
  | n + 1, left, c :: r, acc =>
    if c = 41 then some (.mk ⟨#[]⟩ true acc, r, left)
    else if acc = [] then (match p left (c :: r) with | none => none | some (y, r', l') => pLoop p n l' r' (acc ++ [y]))
    else if c = 32 then (match p left r with | none => none | some (y, r', l') => pLoop p n l' r' (acc ++ [y]))
    else none
def hexAhead : List UInt8 → Bool
  | [] => false
  | c :: _ => (hxv c).isSome
def pItem : Nat → Nat → List UInt8 → Option (It × List UInt8 × Nat)
  | 0, _, _ => none
  | _ + 1, _, [] => none
  | f + 1, left, c :: r =>
    if left = 0 then none
    else if c = 40 then pLoop (pItem f) (r.length + 1) (left - 1) r []
    else if c = 45 then some (.mk ⟨#[]⟩ false [], r, left - 1)
    else match hxHead (c :: r) with
      | ([], _) => none
      | (b :: bs, r') => if hexAhead r' then none else some (.mk ⟨(b :: bs).toArray⟩ false [], r', left - 1)

theorem hxHead_spec : ∀ (l : List UInt8), l = hxL (hxHead l).1 ++ (hxHead l).2
  | [] => by simp [hxHead, hxL]
  | [a] => by simp [hxHead, hxL]
  | a :: b :: r => by
    have ih := hxHead_spec r
    unfold hxHead
    cases ha : hxv a with
    | none => simp [hxL]
    | some h =>
      cases hb : hxv b with
      | none => simp [hxL]
      | some l =>
        simp only
        rw [show UInt8.ofNat (16 * h + l) :: (hxHead r).1 = [UInt8.ofNat (16 * h + l)] ++ (hxHead r).1 from rfl, hxL_append, hxL_one]
        obtain ⟨h1, h2⟩ := hxv_some ha
        obtain ⟨h3, h4⟩ := hxv_some hb
        have e : (UInt8.ofNat (16 * h + l)).toNat = 16 * h + l := by simp; omega
        unfold hx
        rw [e, show (16 * h + l) / 16 = h from by omega, show (16 * h + l) % 16 = l from by omega, h2, h4, List.append_assoc, ← ih]
        rfl
theorem hxHead_le (l : List UInt8) : (hxHead l).2.length ≤ l.length := by
  have h := congrArg List.length (hxHead_spec l)
  rw [List.length_append] at h; omega
theorem hxHead_pos {l : List UInt8} {b : UInt8} {bs r : List UInt8} (h : hxHead l = (b :: bs, r)) : r.length < l.length := by
  have h1 := congrArg List.length (hxHead_spec l)
  rw [List.length_append, hxL_length, h] at h1
  simp at h1; omega
theorem hxHead_of (l r : List UInt8) (hr : hexAhead r = false) : hxHead (hxL l ++ r) = (l, r) := by
  induction l with
  | nil =>
    simp only [hxL, List.flatMap_nil, List.nil_append]
    match r, hr with
    | [], _ => rfl
    | [a], _ => rfl
    | a :: b :: r, hr =>
      have : hxv a = none := by simpa [hexAhead] using hr
      simp [hxHead, this]
  | cons x xs ih =>
    rw [show x :: xs = [x] ++ xs from rfl, hxL_append, hxL_one]
    have hb := x.toNat_lt
    have h1 := hxv_hxd ⟨x.toNat / 16, by omega⟩
    have h2 := hxv_hxd ⟨x.toNat % 16, by omega⟩
    simp only at h1 h2
    simp only [hx, List.cons_append, List.nil_append, hxHead, h1, h2, ih]
    rw [show 16 * (x.toNat / 16) + x.toNat % 16 = x.toNat from by omega]
    simp

theorem rLoop_len {p : List UInt8 → Option (It × List UInt8)} (hp : ∀ l y r, p l = some (y, r) → r.length < l.length) : ∀ n l acc y r, rLoop p n l acc = some (y, r) → r.length < l.length
  | 0, _, _, _, _, h => by simp [rLoop] at h
  | n + 1, [], acc, _, _, h => by simp [rLoop] at h
  | n + 1, c :: t, acc, y, r, h => by
    unfold rLoop at h
    split at h
    · injection h with h; injection h with _ h; subst h; simp
    · split at h
      · split at h
        · cases h
        · rename_i y' r' e
          have h1 := hp _ _ _ e
          have h2 := rLoop_len hp _ _ _ _ _ h
          omega
      · split at h
        · split at h
          · cases h
          · rename_i y' r' e
            have h1 := hp _ _ _ e
            have h2 := rLoop_len hp _ _ _ _ _ h
            simp at h1 ⊢; omega
        · cases h
theorem rItem_len : ∀ f l y r, rItem f l = some (y, r) → r.length < l.length
  | 0, _, _, _, h => by simp [rItem] at h
  | f + 1, [], _, _, h => by simp [rItem] at h
  | f + 1, c :: t, y, r, h => by
    unfold rItem at h
    split at h
    · injection h with h; injection h with _ h; subst h; simp
    · split at h
      · have := rLoop_len (rItem_len f) _ _ _ _ _ h
        simp; omega
      · split at h
        · cases h
        · rename_i b bs r' e
          injection h with h; injection h with _ h; subst h
          exact hxHead_pos e
/-- What the program reads, the document reads; it counts the items, and goes no deeper than it may. -/
def POk (f left : Nat) (l : List UInt8) (x : It) (r : List UInt8) (l' : Nat) : Prop := rItem f l = some (x, r) ∧ l' + x.count = left ∧ x.deep ≤ f ∧ x.right = true ∧ hexAhead r = false ∨ rItem f l = some (x, r) ∧ l' + x.count = left ∧ x.deep ≤ f ∧ x.right = true
theorem pLoop_r {f : Nat} (hp : ∀ left l x r l', pItem f left l = some (x, r, l') → rItem f l = some (x, r) ∧ l' + x.count = left ∧ x.deep ≤ f ∧ x.right = true) : ∀ n left l acc x r l', pLoop (pItem f) n left l acc = some (x, r, l') → deepL acc ≤ f → rightL acc = true →
    rLoop (rItem f) n l acc = some (x, r) ∧ l' + x.count = left + 1 + countL acc ∧ x.deep ≤ f + 1 ∧ x.right = true
  | 0, _, _, _, _, _, _, h, _, _ => by simp [pLoop] at h
  | n + 1, left, [], acc, _, _, _, h, _, _ => by simp [pLoop] at h
  | n + 1, left, c :: t, acc, x, r, l', h, hd, hr => by
    unfold pLoop at h
    unfold rLoop
    split at h
    · rename_i hc
      injection h with h; injection h with h1 h2; injection h2 with h2 h3
      subst h1; subst h2; subst h3
      rw [if_pos hc]
      refine ⟨rfl, ?_, ?_, ?_⟩
      · simp only [It.count]; omega
      · simp only [It.deep]; omega
      · simp [It.right, formed, hr, ByteArray.size]
    · rename_i hc
      rw [if_neg hc]
      split at h
      · rename_i ha
        rw [if_pos ha]
        split at h
        · cases h
        · rename_i y r' l2 e
          obtain ⟨e1, e2, e3, e4⟩ := hp _ _ _ _ _ e
          rw [e1]
          have := pLoop_r hp n l2 r' (acc ++ [y]) x r l' h (by rw [deepL_append]; simp [deepL]; omega) (by rw [rightL_append]; simp [rightL, hr, e4])
          refine ⟨this.1, ?_, this.2.2⟩
          have h3 := this.2.1
          rw [countL_append] at h3
          simp only [countL] at h3; omega
      · rename_i ha
        rw [if_neg ha]
        split at h
        · rename_i h32
          rw [if_pos h32]
          split at h
          · cases h
          · rename_i y r' l2 e
            obtain ⟨e1, e2, e3, e4⟩ := hp _ _ _ _ _ e
            rw [e1]
            have := pLoop_r hp n l2 r' (acc ++ [y]) x r l' h (by rw [deepL_append]; simp [deepL]; omega) (by rw [rightL_append]; simp [rightL, hr, e4])
            refine ⟨this.1, ?_, this.2.2⟩
            have h3 := this.2.1
            rw [countL_append] at h3
            simp only [countL] at h3; omega
        · cases h
theorem pItem_r : ∀ f left l x r l', pItem f left l = some (x, r, l') → rItem f l = some (x, r) ∧ l' + x.count = left ∧ x.deep ≤ f ∧ x.right = true
  | 0, _, _, _, _, _, h => by simp [pItem] at h
  | f + 1, _, [], _, _, _, h => by simp [pItem] at h
  | f + 1, left, c :: t, x, r, l', h => by
    unfold pItem at h
    unfold rItem
    split at h
    · cases h
    · split at h
      · rename_i h0 hc
        subst hc
        rw [if_neg (by decide), if_pos rfl]
        have := pLoop_r (pItem_r f) _ _ _ _ _ _ _ h (by simp [deepL]) (by simp [rightL])
        simp only [countL] at this
        refine ⟨this.1, by omega, this.2.2⟩
      · rename_i h0 hc
        split at h
        · rename_i h45
          injection h with h; injection h with h1 h2; injection h2 with h2 h3
          subst h1; subst h2; subst h3
          rw [if_pos h45]
          refine ⟨rfl, ?_, ?_, ?_⟩ <;> simp [It.count, It.deep, It.right, countL, deepL, rightL, formed]; omega
        · rename_i h45
          rw [if_neg h45, if_neg hc]
          split at h
          · cases h
          · rename_i b bs r' e
            split at h
            · cases h
            · rename_i hh
              injection h with h; injection h with h1 h2; injection h2 with h2 h3
              subst h1; subst h2; subst h3
              refine ⟨rfl, ?_, ?_, ?_⟩ <;> simp [It.count, It.deep, It.right, countL, deepL, rightL, formed]; omega
theorem rLoop_ahead {p : List UInt8 → Option (It × List UInt8)} {n : Nat} {l : List UInt8} {acc : List It} {z : It × List UInt8} (h : rLoop p n l acc = some z) (ha : acc ≠ []) : hexAhead l = false := by
  match n, l, h with
  | 0, _, h => simp [rLoop] at h
  | n + 1, [], h => rfl
  | n + 1, c :: t, h =>
    unfold rLoop at h
    split at h
    · rename_i hc; subst hc; rfl
    · first | rw [if_neg ha] at h | skip
      split at h
      · first | (rename_i hc; subst hc; rfl) | (rename_i hc; exact absurd hc ha)
      · first | cases h | (split at h; (rename_i hc; subst hc; rfl); cases h)
/-- What the document reads, the program reads, if no digit stands behind, and there is room. -/
theorem rLoop_p {f : Nat} (hp : ∀ left l x r, rItem f l = some (x, r) → hexAhead r = false → x.count ≤ left → pItem f left l = some (x, r, left - x.count)) : ∀ n left l acc x r, rLoop (rItem f) n l acc = some (x, r) → x.count ≤ left + 1 + countL acc →
    pLoop (pItem f) n left l acc = some (x, r, left + 1 + countL acc - x.count) ∧ 1 + countL acc ≤ x.count
  | 0, _, _, _, _, _, h, _ => by simp [rLoop] at h
  | n + 1, left, [], acc, _, _, h, _ => by simp [rLoop] at h
  | n + 1, left, c :: t, acc, x, r, h, hl => by
    unfold rLoop at h
    unfold pLoop
    split at h
    · rename_i hc
      injection h with h; injection h with h1 h2
      subst h1; subst h2
      rw [if_pos hc]
      simp only [It.count] at hl ⊢
      exact ⟨by rw [show left + 1 + countL acc - (1 + countL acc) = left from by omega], by omega⟩
    · rename_i hc
      rw [if_neg hc]
      have key : ∀ l2 y r', rItem f l2 = some (y, r') → rLoop (rItem f) n r' (acc ++ [y]) = some (x, r) → (∃ l3, pItem f left l2 = some (y, r', l3) ∧ pLoop (pItem f) n l3 r' (acc ++ [y]) = some (x, r, left + 1 + countL acc - x.count)) ∧ 1 + countL acc ≤ x.count := by
        intro l2 y r' e h
        have hq := rLoop_ahead h (by simp)
        have hcy := count_pos y
        have hc2 : countL (acc ++ [y]) = countL acc + y.count := by rw [countL_append]; simp [countL]
        -- the count of x is at least what has been read
        have hlow : 1 + countL (acc ++ [y]) ≤ x.count := by
          have := rLoop_p hp n x.count r' (acc ++ [y]) x r h (by omega)
          exact this.2
        have h1 := hp left l2 y r' e hq (by omega)
        have h2 := rLoop_p hp n (left - y.count) r' (acc ++ [y]) x r h (by omega)
        refine ⟨⟨_, h1, ?_⟩, by omega⟩
        rw [h2.1, show left - y.count + 1 + countL (acc ++ [y]) - x.count = left + 1 + countL acc - x.count from by omega]
      split at h
      · rename_i ha
        rw [if_pos ha]
        split at h
        · cases h
        · rename_i y r' e
          obtain ⟨⟨l3, k1, k2⟩, k3⟩ := key _ _ _ e h
          rw [k1]; exact ⟨k2, k3⟩
      · rename_i ha
        rw [if_neg ha]
        split at h
        · rename_i h32
          rw [if_pos h32]
          split at h
          · cases h
          · rename_i y r' e
            obtain ⟨⟨l3, k1, k2⟩, k3⟩ := key _ _ _ e h
            rw [k1]; exact ⟨k2, k3⟩
        · cases h
theorem rItem_p : ∀ f left l x r, rItem f l = some (x, r) → hexAhead r = false → x.count ≤ left → pItem f left l = some (x, r, left - x.count)
  | 0, _, _, _, _, h, _, _ => by simp [rItem] at h
  | f + 1, _, [], _, _, h, _, _ => by simp [rItem] at h
  | f + 1, left, c :: t, x, r, h, hq, hl => by
    have hcx := count_pos x
    unfold rItem at h
    unfold pItem
    rw [if_neg (by omega)]
    split at h
    · rename_i h45
      injection h with h; injection h with h1 h2
      subst h1; subst h2
      subst h45
      rw [if_neg (by decide), if_pos rfl]
      simp [It.count, countL]
    · rename_i h45
      split at h
      · rename_i hc
        rw [if_pos hc]
        have := rLoop_p (rItem_p f) _ (left - 1) _ [] x r h (by simp [countL]; omega)
        rw [this.1]
        simp [countL]; omega
      · rename_i hc
        rw [if_neg hc, if_neg h45]
        split at h
        · cases h
        · rename_i b bs r' e
          injection h with h; injection h with h1 h2
          subst h1; subst h2
          simp only [hq]
          simp [It.count, countL]
/-- What is read is shown as it was. -/
theorem rLoop_show {f : Nat} (hp : ∀ l x r, rItem f l = some (x, r) → l = x.show ++ r) : ∀ n l acc x r, rLoop (rItem f) n l acc = some (x, r) → 40 :: (showL true acc ++ l) = x.show ++ r
  | 0, _, _, _, _, h => by simp [rLoop] at h
  | n + 1, [], acc, _, _, h => by simp [rLoop] at h
  | n + 1, c :: t, acc, x, r, h => by
    unfold rLoop at h
    split at h
    · rename_i hc
      injection h with h; injection h with h1 h2
      subst h1; subst h2; subst hc
      simp [It.show]
    · split at h
      · rename_i ha
        subst ha
        split at h
        · cases h
        · rename_i y r' e
          have h1 := rLoop_show hp _ _ _ _ _ h
          have h2 := hp _ _ _ e
          rw [← h1, h2]
          simp [showL]
      · rename_i ha
        split at h
        · rename_i h32
          subst h32
          split at h
          · cases h
          · rename_i y r' e
            have h1 := rLoop_show hp _ _ _ _ _ h
            have h2 := hp _ _ _ e
            have ha' : acc.isEmpty = false := by cases acc with | nil => exact absurd rfl ha | cons a b => rfl
            rw [← h1, h2, showL_append]
            simp [showL, ha']
        · cases h
theorem rItem_show : ∀ f l x r, rItem f l = some (x, r) → l = x.show ++ r
  | 0, _, _, _, h => by simp [rItem] at h
  | f + 1, [], _, _, h => by simp [rItem] at h
  | f + 1, c :: t, x, r, h => by
    unfold rItem at h
    split at h
    · rename_i h45
      injection h with h; injection h with h1 h2
      subst h1; subst h2; subst h45
      simp [It.show, ByteArray.size]
    · split at h
      · rename_i hc
        subst hc
        have := rLoop_show (rItem_show f) _ _ _ _ _ h
        simpa [showL] using this
      · split at h
        · cases h
        · rename_i b bs r' e
          injection h with h; injection h with h1 h2
          subst h1; subst h2
          have h3 := hxHead_spec (c :: t)
          rw [e] at h3
          rw [h3]
          simp [It.show, ByteArray.size]
/-- A line of one that is right is read. -/
def ReadsBack (x : It) : Prop := ∀ f r, x.right = true → x.deep ≤ f → hexAhead r = false → rItem f (x.show ++ r) = some (x, r)
theorem show_head (x : It) (hxr : x.right = true) : ∃ c r, x.show = c :: r ∧ c ≠ 41 ∧ c ≠ 32 := by
  cases x with
  | mk t l s =>
    cases l with
    | true => exact ⟨40, _, rfl, by decide, by decide⟩
    | false =>
      by_cases hz : t.size = 0
      · exact ⟨45, [], by simp [It.show, hz], by decide, by decide⟩
      · cases h : t.data.toList with
        | nil => exact absurd (by rw [← toList_size, h]; rfl) hz
        | cons a b =>
          have hb := a.toNat_lt
          refine ⟨hxd (a.toNat / 16), hxd (a.toNat % 16) :: hxL b, ?_, hxd_ne _ (by omega) _ (by decide), hxd_ne _ (by omega) _ (by decide)⟩
          simp [It.show, hz, h, hxL, hx]
theorem showL_len (s : List It) (h : ∀ x ∈ s, x.right = true) : s.length ≤ (showL true s).length := by
  have key : ∀ (s : List It) (f : Bool), (∀ x ∈ s, x.right = true) → s.length ≤ (showL f s).length := by
    intro s
    induction s with
    | nil => intro f _; simp [showL]
    | cons x xs ih =>
      intro f h
      obtain ⟨c, r, e, _⟩ := show_head x (h x (by simp))
      have := ih false (fun y hy => h y (by simp [hy]))
      simp [showL, e]; omega
  exact key s true h
theorem loop_back {f : Nat} (s : List It) (ih : ∀ x ∈ s, ReadsBack x) (hr : ∀ x ∈ s, x.right = true) (hd : ∀ x ∈ s, x.deep ≤ f) : ∀ (n : Nat) (acc : List It) (r : List UInt8), s.length < n →
    rLoop (rItem f) n (showL (acc = []) s ++ 41 :: r) acc = some (.mk ⟨#[]⟩ true (acc ++ s), r) := by
  induction s with
  | nil =>
    intro n acc r hn
    match n, hn with
    | n + 1, _ => simp [showL, rLoop]
  | cons x xs hxs =>
    intro n acc r hn
    match n, hn with
    | n + 1, hn =>
      have hx := ih x (by simp) f
      obtain ⟨c, t, e, e1, e2⟩ := show_head x (hr x (by simp))
      have hrest := hxs (fun y hy => ih y (by simp [hy])) (fun y hy => hr y (by simp [hy])) (fun y hy => hd y (by simp [hy])) n (acc ++ [x]) r (by simp at hn; omega)
      have hah : hexAhead (showL false xs ++ 41 :: r) = false := by
        cases xs with
        | nil => simp [showL, hexAhead]; decide
        | cons y ys => simp [showL, hexAhead]; decide
      have hx' := hx (showL false xs ++ 41 :: r) (hr x (by simp)) (hd x (by simp)) hah
      rw [show (decide (acc ++ [x] = [])) = false from by simp] at hrest
      by_cases ha : acc = []
      · subst ha
        rw [e] at hx'
        simp only [showL, decide_true, if_true, List.nil_append, List.append_assoc, e, List.cons_append, rLoop, if_neg e1]
        rw [List.cons_append] at hx'
        rw [hx']
        simp only [List.nil_append] at hrest ⊢
        simpa using hrest
      · simp only [showL, ha, decide_false, Bool.false_eq_true, if_false, List.cons_append, List.nil_append, List.append_assoc, rLoop]
        rw [if_neg (by decide), if_pos trivial, hx']
        simpa using hrest
theorem reads_back (x : It) : ReadsBack x := by
  induction x using It.ind with
  | h t l s ih =>
    intro f r hr hd hq
    simp only [It.deep] at hd
    simp only [It.right, Bool.and_eq_true] at hr
    obtain ⟨hf, hrs⟩ := hr
    cases f with
    | zero => omega
    | succ f =>
      cases l with
      | true =>
        have ht : t = ⟨#[]⟩ := bytes_ext (List.eq_nil_of_length_eq_zero (by simpa [formed] using hf))
        subst ht
        have hall : ∀ x ∈ s, x.right = true ∧ x.deep ≤ f := by
          have hd' : deepL s ≤ f := by omega
          clear ih hf hd hq
          induction s with
          | nil => simp
          | cons y ys hys =>
            simp only [rightL, Bool.and_eq_true] at hrs
            simp only [deepL] at hd'
            intro x hx
            rcases List.mem_cons.1 hx with rfl | hx
            · exact ⟨hrs.1, by omega⟩
            · exact hys hrs.2 (by omega) x hx
        have := loop_back (f := f) s ih (fun x hx => (hall x hx).1) (fun x hx => (hall x hx).2) ((showL true s ++ 41 :: r).length + 1) [] r (by
          have := showL_len s (fun x hx => (hall x hx).1)
          simp; omega)
        simp only [It.show, if_true, List.cons_append, List.append_assoc, List.nil_append, rItem]
        rw [if_neg (by decide)]
        simpa using this
      | false =>
        have hs : s = [] := List.eq_nil_of_length_eq_zero (by simpa [formed] using hf)
        subst hs
        by_cases hz : t.size = 0
        · have ht : t = ⟨#[]⟩ := bytes_ext (List.eq_nil_of_length_eq_zero (by simpa using hz))
          subst ht
          simp [It.show, rItem, ByteArray.size]
        · have h1 := hxHead_of t.data.toList r hq
          cases h : t.data.toList with
          | nil => exact absurd (by rw [← toList_size, h]; rfl) hz
          | cons a b =>
            have hb := a.toNat_lt
            rw [h] at h1
            have e : hxL (a :: b) ++ r = hxd (a.toNat / 16) :: (hxd (a.toNat % 16) :: (hxL b ++ r)) := by simp [hxL, hx]
            simp only [It.show, Bool.false_eq_true, if_false, hz, h]
            rw [e] at h1 ⊢
            simp only [rItem]
            rw [if_neg (hxd_ne _ (by omega) _ (by decide)), if_neg (hxd_ne _ (by omega) _ (by decide)), h1]
            simp only
            rw [← h, bytes_of]
/-- The program's text at the head: its bytes, and what is left. -/
def pText : List UInt8 → Option (List UInt8 × List UInt8)
  | [] => none
  | c :: r => if c = 45 then some ([], r) else match hxHead (c :: r) with
    | ([], _) => none
    | (b :: bs, r') => if hexAhead r' then none else some (b :: bs, r')
/-- The item of such a text. -/
def textItem (left : Nat) : Option (List UInt8 × List UInt8) → Option (It × List UInt8 × Nat)
  | none => none
  | some (t, r) => some (.mk ⟨t.toArray⟩ false [], r, left)
theorem pText_len {l t r : List UInt8} (h : pText l = some (t, r)) : t.length ≤ l.length := by
  match l, h with
  | [], h => simp [pText] at h
  | c :: x, h =>
    simp only [pText] at h
    have h1 := congrArg List.length (hxHead_spec (c :: x))
    by_cases h45 : c = 45
    · rw [if_pos h45] at h
      injection h with h; injection h with h2 _; subst h2; simp
    · rw [if_neg h45] at h
      rw [List.length_append, hxL_length] at h1
      cases e : hxHead (c :: x) with
      | mk a b =>
        rw [e] at h h1
        cases a with
        | nil => cases h
        | cons y ys =>
          simp only at h
          split at h
          · cases h
          · injection h with h; injection h with h2 h3
            subst h2
            simp only [List.length_cons] at h1 ⊢
            omega
theorem pItem_text (f left : Nat) (c : UInt8) (r : List UInt8) (hl : left ≠ 0) (hc : c ≠ 40) : pItem (f + 1) left (c :: r) = textItem (left - 1) (pText (c :: r)) := by
  unfold pItem pText
  rw [if_neg hl, if_neg hc]
  by_cases h45 : c = 45
  · simp only [if_pos h45, textItem]
  · simp only [if_neg h45]
    cases hxHead (c :: r) with
    | mk t r' =>
      cases t with
      | nil => rfl
      | cons b bs =>
        simp only
        split <;> rfl
theorem pText_dash (r : List UInt8) : pText (45 :: r) = some ([], r) := by simp [pText]
theorem pText_end {l : List UInt8} {t r : List UInt8} (h : hxHead l = (t, r)) (hd : ∀ x, l ≠ 45 :: x) (hr : hexAhead r = false) : pText l = if t = [] then none else some (t, r) := by
  match l, h, hd with
  | [], h, _ => simp [hxHead] at h; simp [pText, h.1]
  | c :: x, h, hd =>
    have hc : c ≠ 45 := fun e => hd x (by rw [e])
    simp only [pText, if_neg hc, h]
    match t with
    | [] => rfl
    | b :: bs => simp [hr]
theorem pText_bad {l : List UInt8} {t r : List UInt8} (h : hxHead l = (t, r)) (hd : ∀ x, l ≠ 45 :: x) (hr : hexAhead r = true) : pText l = none := by
  match l, h, hd with
  | [], h, _ => rfl
  | c :: x, h, hd =>
    have hc : c ≠ 45 := fun e => hd x (by rw [e])
    simp only [pText, if_neg hc, h]
    match t with
    | [] => rfl
    | b :: bs => simp [hr]
theorem pItem_cut {f left : Nat} {l : List UInt8} {x : It} {r : List UInt8} {l' : Nat} (h : pItem f left l = some (x, r, l')) : ∃ k, 1 ≤ k ∧ k ≤ l.length ∧ r = l.drop k ∧ l' + 1 ≤ left := by
  obtain ⟨h1, h2, _⟩ := pItem_r _ _ _ _ _ _ h
  have h3 := rItem_show _ _ _ _ h1
  have h4 := rItem_len _ _ _ _ h1
  refine ⟨x.show.length, ?_, ?_, ?_, by have := count_pos x; omega⟩
  · rw [h3, List.length_append] at h4; omega
  · rw [h3, List.length_append]; omega
  · rw [h3, List.drop_left]
/-- What Read tells: the item, if it may be and its line is all. -/
def readIt (l : List UInt8) : Option It := match rItem 16 l with
  | some (x, []) => if x.may then some x else none
  | _ => none
theorem readIt_p (l : List UInt8) : readIt l = (match pItem 16 1024 l with | some (x, [], _) => some x | _ => none) := by
  unfold readIt
  cases hp : pItem 16 1024 l with
  | none =>
    simp only
    cases hr : rItem 16 l with
    | none => rfl
    | some z =>
      obtain ⟨x, r⟩ := z
      match r, hr with
      | c :: t, _ => rfl
      | [], hr =>
        simp only
        by_cases hm : x.may = true
        · simp only [It.may, Bool.and_eq_true, decide_eq_true_eq] at hm
          rw [rItem_p 16 1024 l x [] hr rfl hm.2] at hp
          cases hp
        · rw [if_neg hm]
  | some z =>
    obtain ⟨x, r, l'⟩ := z
    obtain ⟨h1, h2, h3, h4⟩ := pItem_r _ _ _ _ _ _ hp
    rw [h1]
    match r with
    | c :: t => rfl
    | [] =>
      simp only
      rw [if_pos]
      simp only [It.may, h4, Bool.true_and, Bool.and_eq_true, decide_eq_true_eq]
      omega
theorem readIt_show (l : List UInt8) (x : It) (h : readIt l = some x) : l = x.show ∧ x.may = true := by
  unfold readIt at h
  split at h
  · rename_i y e
    split at h
    · rename_i hm
      injection h with h; subst h
      exact ⟨by simpa using rItem_show _ _ _ _ e, hm⟩
    · cases h
  · cases h
theorem readIt_back (x : It) (h : x.may = true) : readIt x.show = some x := by
  unfold readIt
  have hm := h
  simp only [It.may, Bool.and_eq_true, decide_eq_true_eq] at h
  have := reads_back x 16 [] h.1.1 h.1.2 rfl
  rw [List.append_nil] at this
  rw [this]
  simp [hm]
end Go.Proofs.YtacikiambpfipaaDoor
