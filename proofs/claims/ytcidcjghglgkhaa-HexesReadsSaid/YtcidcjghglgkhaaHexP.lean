/- Plain: digits and dumps, and their ways back. No program in sight. -/
import Derived.Test.YtcidcjghglgkhaaHexDumpP
namespace Go.Proofs.Ytcidcjghglgkhaa
set_option linter.unusedVariables false
set_option linter.unusedSimpArgs false
open Go.RowKit

/-- The bytes of digits. -/
def bytesL : List UInt8 → Option (List UInt8)
  | [] => some []
  | [_] => none
  | a :: b :: r => match hxv a, hxv b with
    | some h, some l => (bytesL r).map (UInt8.ofNat (16 * h + l) :: ·)
    | _, _ => none
theorem bytesL_odd : ∀ l : List UInt8, l.length % 2 ≠ 0 → bytesL l = none
  | [], h => by simp at h
  | [_], _ => rfl
  | a :: b :: r, h => by
    have ih := bytesL_odd r (by simp at h; omega)
    unfold bytesL
    split
    · rw [ih]; rfl
    · rfl
theorem bytesL_hxL : ∀ l : List UInt8, bytesL (hxL l) = some l
  | [] => rfl
  | x :: xs => by
    have hb := x.toNat_lt
    have h1 := hxv_hxd ⟨x.toNat / 16, by omega⟩
    have h2 := hxv_hxd ⟨x.toNat % 16, by omega⟩
    simp only at h1 h2
    rw [show x :: xs = [x] ++ xs from rfl, hxL_append, hxL_one]
    simp only [hx, List.cons_append, List.nil_append, bytesL, h1, h2, bytesL_hxL xs, Option.map_some]
    rw [show 16 * (x.toNat / 16) + x.toNat % 16 = x.toNat from by omega]
    simp
theorem hx_of {a b : UInt8} {h l : Nat} (ha : hxv a = some h) (hb : hxv b = some l) : hx (UInt8.ofNat (16 * h + l)) = [a, b] := by
  obtain ⟨h1, h2⟩ := hxv_some ha
  obtain ⟨h3, h4⟩ := hxv_some hb
  have e : (UInt8.ofNat (16 * h + l)).toNat = 16 * h + l := by simp; omega
  unfold hx
  rw [e, show (16 * h + l) / 16 = h from by omega, show (16 * h + l) % 16 = l from by omega, h2, h4]
theorem bytesL_back : ∀ (l r : List UInt8), bytesL l = some r → hxL r = l
  | [], r, h => by simp [bytesL] at h; subst h; rfl
  | [_], r, h => by simp [bytesL] at h
  | a :: b :: t, r, h => by
    unfold bytesL at h
    split at h
    · rename_i x y hx' hy'
      obtain ⟨u, hu, rfl⟩ := Option.map_eq_some_iff.1 h
      rw [show (UInt8.ofNat (16 * x + y) :: u) = [UInt8.ofNat (16 * x + y)] ++ u from rfl, hxL_append, hxL_one, hx_of hx' hy', bytesL_back t u hu]
      rfl
    · cases h
theorem bytesL_length (l r : List UInt8) (h : bytesL l = some r) : 2 * r.length = l.length := by
  rw [← hxL_length, bytesL_back l r h]
theorem bytesL_two {a b : UInt8} {h l : Nat} (ha : hxv a = some h) (hb : hxv b = some l) : bytesL [a, b] = some [UInt8.ofNat (16 * h + l)] := by simp [bytesL, ha, hb]
theorem bytesL_none {a b : UInt8} (r : List UInt8) (h : hxv a = none ∨ hxv b = none) : bytesL (a :: b :: r) = none := by
  unfold bytesL
  rcases h with h | h
  · rw [h]
  · rw [h]; split <;> simp_all

/-- The lowest k digits of base 16, the highest first. -/
def nbL (a : Nat) : Nat → List UInt8
  | 0 => []
  | k + 1 => hxd (a / 16 ^ k % 16) :: nbL a k
theorem nbL_length (a k : Nat) : (nbL a k).length = k := by
  induction k with
  | zero => rfl
  | succ k ih => simp [nbL, ih]
theorem nbL_hx (a k : Nat) : nbL a (2 * k) = hxL (leD a k).reverse := by
  induction k with
  | zero => rfl
  | succ k ih =>
    have h256 : (2 : Nat) ^ (8 * k) = 16 ^ (2 * k) := by rw [show (16 : Nat) = 2 ^ 4 from rfl, ← Nat.pow_mul, show 4 * (2 * k) = 8 * k from by omega]
    rw [show 2 * (k + 1) = 2 * k + 1 + 1 from by omega, nbL, nbL, ih, leD, List.reverse_append, List.reverse_singleton, hxL_append, hxL_one]
    unfold hx
    rw [ub_toNat _ (by omega), h256, Nat.pow_succ, ← Nat.div_div_eq_div_mul]
    generalize a / 16 ^ (2 * k) = y
    rw [show y % 256 / 16 = y / 16 % 16 from by omega, show y % 256 % 16 = y % 16 from by omega]
    rfl

/-- The dump of bytes that begin at a. -/
def dumpFrom (a : Nat) (l : List UInt8) : List UInt8 := if h : l = [] then [] else lineL a (l.take 16) ++ dumpFrom (a + 16) (l.drop 16)
termination_by l.length
decreasing_by
  have : 0 < l.length := List.length_pos_iff.2 h
  simp; omega
theorem dumpFrom_nil (a : Nat) : dumpFrom a [] = [] := by rw [dumpFrom]; simp
theorem dumpFrom_cons (a : Nat) {l : List UInt8} (h : l ≠ []) : dumpFrom a l = lineL a (l.take 16) ++ dumpFrom (a + 16) (l.drop 16) := by rw [dumpFrom]; simp [h]
theorem dmpF_at (l : List UInt8) (k : Nat) (h : k ≤ nCh l.length 16) : (dmpF l (List.range k)).1 = min (16 * k) l.length ∧ dumpFrom 0 l = (dmpF l (List.range k)).2 ++ dumpFrom (16 * k) (l.drop (16 * k)) := by
  induction k with
  | zero => simp [dmpF]
  | succ k ih =>
    obtain ⟨h1, h2⟩ := ih (by omega)
    have hk := (nCh_lt l.length 16 k (by omega)).1 (by omega)
    rw [List.range_succ, dmpF_snoc]
    have hp : (piece l 16 k).length = min 16 (l.length - k * 16) := by simp [piece]
    have h1' : (dmpF l (List.range k)).1 = 16 * k := by omega
    constructor
    · simp only [dmpStep, h1', hp]; omega
    · rw [h2, dumpFrom_cons (l := l.drop (16 * k)) _ (fun e => by have := congrArg List.length e; simp at this; omega)]
      simp only [dmpStep, h1', piece, List.drop_drop]
      rw [Nat.mul_comm k 16, List.append_assoc, show 16 * (k + 1) = 16 * k + 16 from by omega]
theorem dumpL_from (l : List UInt8) : dumpL l = dumpFrom 0 l := by
  obtain ⟨_, h⟩ := dmpF_at l (nCh l.length 16) (Nat.le_refl _)
  have hn := nCh_lt l.length 16 (nCh l.length 16) (by omega)
  rw [h, List.drop_eq_nil_of_le (by omega), dumpFrom_nil, List.append_nil]
  rfl
theorem dmp_end (l : List UInt8) (k : Nat) (h : k ≤ nCh l.length 16) (hk : ¬ 16 * k < l.length) : (dmpF l (List.range k)).2 = dumpL l := by
  have := (nCh_lt l.length 16 k (by omega)).2
  have : k = nCh l.length 16 := by
    rcases Nat.lt_or_ge k (nCh l.length 16) with h' | h'
    · have := (nCh_lt l.length 16 k (by omega)).1 h'; omega
    · omega
  subst this; rfl

/-- A blank and two digits, as often as that goes on, at most m times. -/
def takeHex : Nat → List UInt8 → List UInt8
  | m + 1, c :: a :: b :: r => if c = 32 then (match hxv a, hxv b with | some h, some l => UInt8.ofNat (16 * h + l) :: takeHex m r | _, _ => []) else []
  | _, _ => []
theorem takeHex_le : ∀ (m : Nat) (l : List UInt8), (takeHex m l).length ≤ m
  | 0, _ => by simp [takeHex]
  | m + 1, [] => by simp [takeHex]
  | m + 1, [_] => by simp [takeHex]
  | m + 1, [_, _] => by simp [takeHex]
  | m + 1, c :: a :: b :: r => by
    have := takeHex_le m r
    unfold takeHex
    split
    · split
      · simp; omega
      · simp
    · simp
theorem takeHex_sp : ∀ (p r : List UInt8) (m : Nat), p.length ≤ m → takeHex m (spL p ++ 32 :: 32 :: r) = p
  | [], r, m, _ => by
    cases m with
    | zero => simp [takeHex]
    | succ m =>
      cases r with
      | nil => simp [spL, takeHex]
      | cons x r => simp [spL, takeHex, show hxv 32 = none from by decide +kernel]
  | x :: p, r, m, h => by
    cases m with
    | zero => simp at h
    | succ m =>
      have ih := takeHex_sp p r m (by simpa using h)
      have hb := x.toNat_lt
      have h1 := hxv_hxd ⟨x.toNat / 16, by omega⟩
      have h2 := hxv_hxd ⟨x.toNat % 16, by omega⟩
      simp only at h1 h2
      have e : spL (x :: p) ++ 32 :: 32 :: r = 32 :: hxd (x.toNat / 16) :: hxd (x.toNat % 16) :: (spL p ++ 32 :: 32 :: r) := by simp [spL, hx]
      rw [e]
      simp only [takeHex, if_true, h1, h2, ih]
      rw [show 16 * (x.toNat / 16) + x.toNat % 16 = x.toNat from by omega]
      simp
/-- What the document scans. -/
def scanL (t : List UInt8) : List UInt8 := if h : t = [] then [] else takeHex 16 (t.drop 8) ++ scanL (t.drop (11 + 4 * (takeHex 16 (t.drop 8)).length))
termination_by t.length
decreasing_by
  have : 0 < t.length := List.length_pos_iff.2 h
  simp; omega
theorem scanL_nil : scanL [] = [] := by rw [scanL]; simp
theorem scanL_cons {t : List UInt8} (h : t ≠ []) : scanL t = takeHex 16 (t.drop 8) ++ scanL (t.drop (11 + 4 * (takeHex 16 (t.drop 8)).length)) := by rw [scanL]; simp [h]
theorem lineL_drop (a : Nat) (p r : List UInt8) : (lineL a p ++ r).drop 8 = spL p ++ 32 :: 32 :: (p.map dot ++ 10 :: r) := by
  have h8 : (hxL (leD a 4).reverse).length = 8 := by simp [hxL_length, leD_length]
  unfold lineL
  simp only [List.append_assoc]
  rw [List.drop_append_of_le_length (by omega), List.drop_eq_nil_of_le (by omega)]
  simp
theorem lineL_ne (a : Nat) (p r : List UInt8) : lineL a p ++ r ≠ [] := fun e => by
  have := congrArg List.length e
  rw [List.length_append, lineL_length] at this; simp at this
theorem scan_dump (n : Nat) : ∀ (l : List UInt8) (a : Nat), l.length ≤ n → scanL (dumpFrom a l) = l := by
  induction n with
  | zero => intro l a h; obtain rfl := List.eq_nil_of_length_eq_zero (by omega : l.length = 0); rw [dumpFrom_nil, scanL_nil]
  | succ n ih =>
    intro l a h
    by_cases hl : l = []
    · subst hl; rw [dumpFrom_nil, scanL_nil]
    · have h0 : 0 < l.length := List.length_pos_iff.2 hl
      rw [dumpFrom_cons a hl, scanL_cons (lineL_ne _ _ _), lineL_drop, takeHex_sp _ _ _ (by simp; omega)]
      rw [← lineL_length a, List.drop_left, ih _ _ (by simp; omega), List.take_append_drop]
theorem scan_dumpL (l : List UInt8) : scanL (dumpL l) = l := by rw [dumpL_from]; exact scan_dump l.length l 0 (Nat.le_refl _)
/-- The bytes whose dump the text is. -/
def rdD (t : List UInt8) : Option (List UInt8) := if dumpL (scanL t) = t then some (scanL t) else none
theorem rdD_dump (l : List UInt8) : rdD (dumpL l) = some l := by unfold rdD; rw [scan_dumpL, if_pos rfl]
theorem rdD_back {t l : List UInt8} (h : rdD t = some l) : dumpL l = t := by
  unfold rdD at h
  split at h
  · injection h with h; subst h; assumption
  · cases h

/-- The bytes at a line's places. -/
def gat : Nat → List UInt8 → Option (List UInt8)
  | 0, _ => some []
  | n + 1, _ :: a :: b :: r => match hxv a, hxv b with
    | some h, some l => (gat n r).map (UInt8.ofNat (16 * h + l) :: ·)
    | _, _ => none
  | _ + 1, _ => none
theorem gat_length : ∀ (n : Nat) (l r : List UInt8), gat n l = some r → r.length = n
  | 0, l, r, h => by simp [gat] at h; subst h; rfl
  | n + 1, [], r, h => by simp [gat] at h
  | n + 1, [_], r, h => by simp [gat] at h
  | n + 1, [_, _], r, h => by simp [gat] at h
  | n + 1, c :: a :: b :: t, r, h => by
    unfold gat at h
    split at h
    · obtain ⟨u, hu, rfl⟩ := Option.map_eq_some_iff.1 h
      simp [gat_length n t u hu]
    · cases h
theorem gat_none {c a b : UInt8} (n : Nat) (r : List UInt8) (h : hxv a = none ∨ hxv b = none) : gat (n + 1) (c :: a :: b :: r) = none := by
  unfold gat
  rcases h with h | h
  · rw [h]
  · rw [h]; split <;> simp_all
theorem gat_sp : ∀ (p r : List UInt8), gat p.length (spL p ++ r) = some p
  | [], _ => rfl
  | x :: p, r => by
    have ih := gat_sp p r
    have hb := x.toNat_lt
    have h1 := hxv_hxd ⟨x.toNat / 16, by omega⟩
    have h2 := hxv_hxd ⟨x.toNat % 16, by omega⟩
    simp only at h1 h2
    have e : spL (x :: p) ++ r = 32 :: hxd (x.toNat / 16) :: hxd (x.toNat % 16) :: (spL p ++ r) := by simp [spL, hx]
    rw [e]
    simp only [List.length_cons, gat, h1, h2, ih, Option.map_some]
    rw [show 16 * (x.toNat / 16) + x.toNat % 16 = x.toNat from by omega]
    simp
/-- The bytes of a line. -/
def lnOf (a : Nat) (p : List UInt8) : Option (List UInt8) :=
  if 1 ≤ (p.length - 11) / 4 ∧ p.length = 11 + 4 * ((p.length - 11) / 4) then
    match gat ((p.length - 11) / 4) (p.drop 8) with
    | some bs => if lineL a bs = p then some bs else none
    | none => none
  else none
theorem lnOf_some {a : Nat} {p bs : List UInt8} (h : lnOf a p = some bs) : lineL a bs = p ∧ 1 ≤ bs.length := by
  unfold lnOf at h
  split at h
  · rename_i h0
    split at h
    · rename_i b hg
      split at h
      · injection h with h; subst h
        exact ⟨‹_›, by rw [gat_length _ _ _ hg]; exact h0.1⟩
      · cases h
    · cases h
  · cases h
theorem lnOf_line (a : Nat) (bs : List UInt8) (h : 1 ≤ bs.length) : lnOf a (lineL a bs) = some bs := by
  have hl := lineL_length a bs
  have hn : (11 + 4 * bs.length - 11) / 4 = bs.length := by omega
  unfold lnOf
  have hd := lineL_drop a bs []
  rw [List.append_nil] at hd
  rw [hl, hn, if_pos ⟨h, rfl⟩, hd, gat_sp]
  simp only [if_true]
/-- What the program reads. -/
def rdL (a : Nat) (t : List UInt8) : Option (List UInt8) := if h : t = [] then some [] else
  match lnOf a (t.take 75) with
  | some bs => (rdL (a + bs.length) (t.drop 75)).map (bs ++ ·)
  | none => none
termination_by t.length
decreasing_by
  have : 0 < t.length := List.length_pos_iff.2 h
  simp; omega
theorem rdL_nil (a : Nat) : rdL a [] = some [] := by rw [rdL]; simp
theorem rdL_none {a : Nat} {t : List UInt8} (h : t ≠ []) (hl : lnOf a (t.take 75) = none) : rdL a t = none := by rw [rdL]; simp [h, hl]
theorem rdL_some {a : Nat} {t bs : List UInt8} (h : t ≠ []) (hl : lnOf a (t.take 75) = some bs) : rdL a t = (rdL (a + bs.length) (t.drop 75)).map (bs ++ ·) := by rw [rdL]; simp [h, hl]
theorem rdL_back (n : Nat) : ∀ (t l : List UInt8) (a : Nat), t.length ≤ n → rdL a t = some l → dumpFrom a l = t := by
  induction n with
  | zero =>
    intro t l a ht h
    obtain rfl := List.eq_nil_of_length_eq_zero (by omega : t.length = 0)
    rw [rdL_nil] at h
    injection h with h; subst h; exact dumpFrom_nil a
  | succ n ih =>
    intro t l a ht h
    by_cases h0 : t = []
    · subst h0; rw [rdL_nil] at h; injection h with h; subst h; exact dumpFrom_nil a
    · cases hl : lnOf a (t.take 75) with
      | none => rw [rdL_none h0 hl] at h; cases h
      | some bs =>
        rw [rdL_some h0 hl] at h
        obtain ⟨l', h1, rfl⟩ := Option.map_eq_some_iff.1 h
        obtain ⟨e1, e2⟩ := lnOf_some hl
        have hlen := congrArg List.length e1
        rw [lineL_length, List.length_take] at hlen
        have hp : 0 < t.length := List.length_pos_iff.2 h0
        have ih' := ih _ _ _ (by rw [List.length_drop]; omega) h1
        have hne : bs ++ l' ≠ [] := fun e => by have := congrArg List.length e; rw [List.length_append, List.length_nil] at this; omega
        rw [dumpFrom_cons a hne]
        by_cases h75 : t.length ≤ 75
        · have hb16 : bs.length ≤ 16 := by omega
          rw [List.drop_eq_nil_of_le h75, rdL_nil] at h1
          injection h1 with h1; subst h1
          rw [List.append_nil, List.take_of_length_le hb16, List.drop_eq_nil_of_le hb16, dumpFrom_nil, List.append_nil, e1, List.take_of_length_le h75]
        · have h16 : bs.length = 16 := by rw [Nat.min_eq_left (by omega)] at hlen; omega
          rw [← h16, List.take_left, List.drop_left, e1, ih', List.take_append_drop]
theorem rdL_dump (n : Nat) : ∀ (l : List UInt8) (a : Nat), l.length ≤ n → rdL a (dumpFrom a l) = some l := by
  induction n with
  | zero => intro l a h; obtain rfl := List.eq_nil_of_length_eq_zero (by omega : l.length = 0); rw [dumpFrom_nil, rdL_nil]
  | succ n ih =>
    intro l a h
    by_cases hl : l = []
    · subst hl; rw [dumpFrom_nil, rdL_nil]
    · have h0 : 0 < l.length := List.length_pos_iff.2 hl
      rw [dumpFrom_cons a hl]
      have hln := lineL_length a (l.take 16)
      rw [List.length_take] at hln
      by_cases h16 : l.length ≤ 16
      · rw [List.drop_eq_nil_of_le h16, dumpFrom_nil, List.append_nil]
        have e := lnOf_line a (l.take 16) (by simp; omega)
        have hne : lineL a (l.take 16) ≠ [] := fun e => by have := congrArg List.length e; rw [hln] at this; simp at this
        rw [rdL_some hne (by rw [List.take_of_length_le (by omega)]; exact e), List.drop_eq_nil_of_le (by omega), rdL_nil, List.take_of_length_le h16]
        simp
      · have e75 : (lineL a (l.take 16)).length = 75 := by omega
        have e := lnOf_line a (l.take 16) (by simp; omega)
        rw [rdL_some (lineL_ne _ _ _) (by rw [← e75, List.take_left]; exact e), ← e75, List.drop_left, List.length_take, Nat.min_eq_left (by omega), ih _ _ (by simp; omega)]
        simp
theorem rdL_eq (t : List UInt8) : rdL 0 t = rdD t := by
  cases h : rdL 0 t with
  | some l =>
    have := rdL_back t.length t l 0 (Nat.le_refl _) h
    rw [← dumpL_from] at this
    rw [← this, rdD_dump]
  | none =>
    cases h2 : rdD t with
    | none => rfl
    | some l =>
      have h3 := rdD_back h2
      have := rdL_dump l.length l 0 (Nat.le_refl _)
      rw [← dumpL_from, h3, h] at this
      cases this
theorem dumpL_length (l : List UInt8) : (dumpL l).length ≤ 75 * l.length := by
  have h := (dmpF_bound l (List.range (nCh l.length 16))).2
  have hn := nCh_le l.length 16 (by omega)
  rw [List.length_range] at h
  unfold dumpL
  omega
end Go.Proofs.Ytcidcjghglgkhaa
