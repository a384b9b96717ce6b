/- Two parts that are alike, with noise between: the last element of the packing is the copy. No program in sight. -/
import Derived.Test.YthbechmkjhkipaaSqueezeMP
namespace Go.Proofs.Ythbechmkjhkipaa
set_option linter.unusedVariables false
set_option linter.unusedSimpArgs false

/-- The byte at a place. -/
def farB (n k x : Nat) : Nat :=
  if x < n then 128 + x else if x < n + 3 * k then (if (x - n) % 3 = 0 then 121 else if (x - n) % 3 = 1 then (x - n) / 3 / 120 else (x - n) / 3 % 120) else 128 + (x - (n + 3 * k))
structure Far (L : List UInt8) (n k : Nat) : Prop where
  len : L.length = n + 3 * k + n
  at_ : ∀ x, x < n + 3 * k + n → L[x]? = some (ub (farB n k x : Nat))
  n4 : 4 ≤ n
  n64 : n ≤ 64
  hk : k < 3000
theorem farB_lt {n k x : Nat} (h64 : n ≤ 64) (hk : k < 3000) (hx : x < n + 3 * k + n) : farB n k x < 256 := by
  unfold farB; split <;> (try split) <;> (try split) <;> (try split) <;> omega
theorem Far.eq {L : List UInt8} {n k a b : Nat} (h : Far L n k) (ha : a < n + 3 * k + n) (hb : b < n + 3 * k + n) (e : L[a]? = L[b]?) : farB n k a = farB n k b := by
  rw [h.at_ a ha, h.at_ b hb] at e
  injection e with e
  have := congrArg UInt8.toNat e
  rwa [ub_toNat _ (farB_lt h.n64 h.hk ha), ub_toNat _ (farB_lt h.n64 h.hk hb)] at this
theorem Far.same {L : List UInt8} {n k a b : Nat} (h : Far L n k) (ha : a < n + 3 * k + n) (hb : b < n + 3 * k + n) (e : farB n k a = farB n k b) : L[a]? = L[b]? := by
  rw [h.at_ a ha, h.at_ b hb, e]
theorem fb_head {n k x : Nat} (h : x < n) : farB n k x = 128 + x := by unfold farB; rw [if_pos h]
theorem fb_0 {n k q : Nat} (h : q < k) : farB n k (n + 3 * q) = 121 := by unfold farB; rw [if_neg (by omega), if_pos (by omega), if_pos (by omega)]
theorem fb_1 {n k q : Nat} (h : q < k) : farB n k (n + 3 * q + 1) = q / 120 := by unfold farB; rw [if_neg (by omega), if_pos (by omega), if_neg (by omega), if_pos (by omega), show (n + 3 * q + 1 - n) / 3 = q from by omega]
theorem fb_2 {n k q : Nat} (h : q < k) : farB n k (n + 3 * q + 2) = q % 120 := by unfold farB; rw [if_neg (by omega), if_pos (by omega), if_neg (by omega), if_neg (by omega), show (n + 3 * q + 2 - n) / 3 = q from by omega]
theorem fb_tail {n k y : Nat} : farB n k (n + 3 * k + y) = 128 + y := by unfold farB; rw [if_neg (by omega), if_neg (by omega)]; omega
theorem fb_noise {n k x : Nat} (h1 : n ≤ x) (h2 : x < n + 3 * k) (hk : k < 3000) : farB n k x ≤ 121 := by unfold farB; rw [if_neg (by omega), if_pos h2]; split <;> (try split) <;> omega
/-- No four bytes ahead of the second part come twice. -/
theorem Far.none {L : List UInt8} {n k i j : Nat} (h : Far L n k) (hj : j < i) (hi : i < n + 3 * k) : ¬ gramEq L j i := by
  rintro ⟨e0, e1, e2, e3⟩
  have h4 := h.n4
  have hk := h.hk
  have f0 := h.eq (by omega) (by omega) e0
  have f1 := h.eq (by omega) (by omega) e1
  have f2 := h.eq (by omega) (by omega) e2
  have f3 := h.eq (by omega) (by omega) e3
  by_cases hjn : j < n
  · rw [fb_head hjn] at f0
    by_cases hin : i < n
    · rw [fb_head hin] at f0; omega
    · have := fb_noise (n := n) (k := k) (x := i) (by omega) hi hk; omega
  · obtain ⟨q, r, hr, rfl⟩ : ∃ q r, r < 3 ∧ j = n + 3 * q + r := ⟨(j - n) / 3, (j - n) % 3, by omega, by omega⟩
    obtain ⟨q', r', hr', rfl⟩ : ∃ q' r', r' < 3 ∧ i = n + 3 * q' + r' := ⟨(i - n) / 3, (i - n) % 3, by omega, by omega⟩
    have hq : q < k := by omega
    have hq' : q' < k := by omega
    have a0 := fb_0 (n := n) hq
    have a1 := fb_1 (n := n) hq
    have a2 := fb_2 (n := n) hq
    have b0 := fb_0 (n := n) hq'
    have b1 := fb_1 (n := n) hq'
    have b2 := fb_2 (n := n) hq'
    have t0 := fb_tail (n := n) (k := k) (y := 0)
    have t1 := fb_tail (n := n) (k := k) (y := 1)
    -- the next three of each
    have A : q + 1 < k ∨ q + 1 = k := by omega
    have B : q' + 1 < k ∨ q' + 1 = k := by omega
    have A3 : farB n k (n + 3 * q + 3) = 121 ∨ (q + 1 = k ∧ farB n k (n + 3 * q + 3) = 128) := by
      rcases A with A | A
      · left; have := fb_0 (n := n) A; rwa [show n + 3 * (q + 1) = n + 3 * q + 3 from by omega] at this
      · right; refine ⟨A, ?_⟩; rw [show n + 3 * q + 3 = n + 3 * k + 0 from by omega, t0]
    have B3 : farB n k (n + 3 * q' + 3) = 121 ∨ (q' + 1 = k ∧ farB n k (n + 3 * q' + 3) = 128) := by
      rcases B with B | B
      · left; have := fb_0 (n := n) B; rwa [show n + 3 * (q' + 1) = n + 3 * q' + 3 from by omega] at this
      · right; refine ⟨B, ?_⟩; rw [show n + 3 * q' + 3 = n + 3 * k + 0 from by omega, t0]
    have A4 : (q + 1 < k ∧ farB n k (n + 3 * q + 4) = (q + 1) / 120) ∨ (q + 1 = k ∧ farB n k (n + 3 * q + 4) = 129) := by
      rcases A with A | A
      · left; have := fb_1 (n := n) A; rw [show n + 3 * (q + 1) + 1 = n + 3 * q + 4 from by omega] at this; exact ⟨A, this⟩
      · right; refine ⟨A, ?_⟩; rw [show n + 3 * q + 4 = n + 3 * k + 1 from by omega, t1]
    have B4 : (q' + 1 < k ∧ farB n k (n + 3 * q' + 4) = (q' + 1) / 120) ∨ (q' + 1 = k ∧ farB n k (n + 3 * q' + 4) = 129) := by
      rcases B with B | B
      · left; have := fb_1 (n := n) B; rw [show n + 3 * (q' + 1) + 1 = n + 3 * q' + 4 from by omega] at this; exact ⟨B, this⟩
      · right; refine ⟨B, ?_⟩; rw [show n + 3 * q' + 4 = n + 3 * k + 1 from by omega, t1]
    have A5 : q + 1 < k → farB n k (n + 3 * q + 5) = (q + 1) % 120 := fun A => by have := fb_2 (n := n) A; rwa [show n + 3 * (q + 1) + 2 = n + 3 * q + 5 from by omega] at this
    have B5 : q' + 1 < k → farB n k (n + 3 * q' + 5) = (q' + 1) % 120 := fun B => by have := fb_2 (n := n) B; rwa [show n + 3 * (q' + 1) + 2 = n + 3 * q' + 5 from by omega] at this
    have R : r = 0 ∨ r = 1 ∨ r = 2 := by omega
    have R' : r' = 0 ∨ r' = 1 ∨ r' = 2 := by omega
    rcases R with rfl | rfl | rfl <;> rcases R' with rfl | rfl | rfl <;> simp only [Nat.add_zero, Nat.add_assoc, Nat.reduceAdd] at * <;> omega
theorem lastG_none_of {L : List UInt8} {a : Nat} : ∀ n, (∀ j, j < n → ¬ gramEq L j a) → lastG L a n = none := by
  intro n
  induction n with
  | zero => intro _; rfl
  | succ n ih => intro h; rw [lastG, if_neg (fun hh => h n (by omega) hh.2)]; exact ih fun j hj => h j (by omega)
theorem mt_ge {L : List UInt8} : ∀ (f j i m : Nat), m ≤ f → i + m ≤ L.length → (∀ x, x < m → L[j + x]? = L[i + x]?) → m ≤ mt L j i f := by
  intro f
  induction f with
  | zero => intro j i m h _ _; omega
  | succ f ih =>
    intro j i m hm hl hx
    cases m with
    | zero => omega
    | succ m =>
      rw [mt, if_pos ⟨by omega, by simpa using hx 0 (by omega)⟩]
      have := ih (j + 1) (i + 1) m (by omega) (by omega) (fun x hx' => by
        have := hx (x + 1) (by omega)
        rwa [show j + (x + 1) = j + 1 + x from by omega, show i + (x + 1) = i + 1 + x from by omega] at this)
      omega
theorem pk_skip {L : List UInt8} {p : Nat} : ∀ (d f i : Nat), d < f → i + d ≤ L.length → (∀ x, i ≤ x → x < i + d → fnd L x x = none) → pk L f p i = pk L (f - d) p (i + d) := by
  intro d
  induction d with
  | zero => intro f i _ _ _; rfl
  | succ d ih =>
    intro f i hf hl h
    obtain ⟨g, rfl⟩ : ∃ g, f = g + 1 := ⟨f - 1, by omega⟩
    conv => lhs; unfold pk
    rw [if_pos (by omega), h i (Nat.le_refl _) (by omega)]
    simp only
    rw [ih g (i + 1) (by omega) (by omega) (fun x h1 h2 => h x (by omega) (by omega)), show g + 1 - (d + 1) = g - d from by omega, show i + 1 + d = i + (d + 1) from by omega]
/-- THE LAW: the last element is the copy of the part. -/
theorem far_pack {L : List UInt8} {n k : Nat} (h : Far L n k) : ∃ pre, pack L = pre ++ cpyE n (n + 3 * k) := by
  have h4 := h.n4
  have hl := h.len
  have hnone : ∀ x, x < n + 3 * k → fnd L x x = Option.none := by
    intro x hx
    by_cases hx4 : x + 4 ≤ L.length
    · rw [fnd_last L x hx4 x (Nat.le_refl _)]
      exact lastG_none_of x fun j hj => h.none hj hx
    · exact fnd_none_short L x (by omega) hx4 x (Nat.le_refl _)
  have hfind : ∀ m, m ≤ n + 3 * k → 1 ≤ m → lastG L (n + 3 * k) m = some 0 := by
    intro m
    induction m with
    | zero => intro _ h1; omega
    | succ m ih =>
      intro hm _
      rcases Nat.eq_zero_or_pos m with h0 | h0
      · subst h0
        rw [lastG, if_pos]
        refine ⟨by omega, h.same (by omega) (by omega) ?_, h.same (by omega) (by omega) ?_, h.same (by omega) (by omega) ?_, h.same (by omega) (by omega) ?_⟩
        · rw [fb_head (by omega), show n + 3 * k = n + 3 * k + 0 from rfl, fb_tail]
        · rw [fb_head (by omega), fb_tail]
        · rw [fb_head (by omega), fb_tail]
        · rw [fb_head (by omega), fb_tail]
      · rw [lastG, if_neg]
        · exact ih (by omega) h0
        · rintro ⟨_, e0, _⟩
          have f0 := h.eq (by omega) (by omega) e0
          rw [show n + 3 * k = n + 3 * k + 0 from rfl, fb_tail] at f0
          by_cases hmn : m < n
          · rw [fb_head hmn] at f0; omega
          · have := fb_noise (n := n) (k := k) (x := m) (by omega) (by omega) h.hk; omega
  have hfd : fnd L (n + 3 * k) (n + 3 * k) = some 0 := by
    rw [fnd_last L _ (by omega) _ (Nat.le_refl _)]; exact hfind _ (Nat.le_refl _) (by omega)
  have hmt : mt L 0 (n + 3 * k) 64 = n := by
    have h1 := mt_ge 64 0 (n + 3 * k) n h.n64 (by omega) (fun x hx => h.same (by omega) (by omega) (by rw [Nat.zero_add, fb_head hx, fb_tail]))
    have h2 := (mt_le L 64 0 (n + 3 * k)).2 (by omega)
    omega
  refine ⟨lebL L.length ++ litE ((L.take (n + 3 * k)).drop 0), ?_⟩
  unfold pack
  rw [List.append_assoc]
  congr 1
  rw [pk_skip (n + 3 * k) (L.length + 1) 0 (by omega) (by omega) (fun x _ hx => hnone x (by omega)), Nat.zero_add]
  obtain ⟨g, hg⟩ : ∃ g, L.length + 1 - (n + 3 * k) = g + 1 + 1 := ⟨L.length + 1 - (n + 3 * k) - 2, by omega⟩
  rw [hg, pk, if_pos (by omega), hfd]
  simp only
  have hd : L.drop (n + 3 * k + n) = [] := List.drop_eq_nil_of_le (by omega)
  have h0 : litE [] = [] := rfl
  rw [hmt, Nat.sub_zero, pk, if_neg (by omega), hd, h0, List.append_nil]
end Go.Proofs.Ythbechmkjhkipaa
