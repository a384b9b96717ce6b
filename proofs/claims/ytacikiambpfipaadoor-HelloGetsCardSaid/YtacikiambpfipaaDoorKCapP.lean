/- Capabilities, plain: their order, whether they may be, what two sides have in common. No program in sight. -/
import Derived.Test.YtacikiambpfipaaDoorKA4
import Derived.Sort.Walk0
namespace Go.Proofs.YtacikiambpfipaaDoor
set_option linter.unusedVariables false
set_option linter.unusedSimpArgs false

abbrev Cp := ByteArray × Int
def sLess (a b : ByteArray) : Bool := Op.bytesLess a.toList b.toList
theorem sLess_lt (a b : ByteArray) : sLess a b = decide (a.data.toList < b.data.toList) := by unfold sLess; rw [bytesLess_eq, Lib.toList_data, Lib.toList_data]
theorem sLess_irrefl (a : ByteArray) : sLess a a = false := by rw [sLess_lt]; exact decide_eq_false (List.lt_irrefl _)
theorem sLess_asymm {a b : ByteArray} (h : sLess a b = true) : sLess b a = false := by
  rw [sLess_lt] at h ⊢
  exact decide_eq_false (List.lt_asymm (of_decide_eq_true h))
theorem sLess_trans {a b c : ByteArray} (h : sLess a b = true) (h' : sLess b c = true) : sLess a c = true := by
  rw [sLess_lt] at h h' ⊢
  exact decide_eq_true (List.lt_trans (of_decide_eq_true h) (of_decide_eq_true h'))
theorem sLess_total {a b : ByteArray} (h : sLess a b = false) (h' : sLess b a = false) : a = b := by
  rw [sLess_lt] at h h'
  exact bytes_ext (List.le_antisymm (List.not_lt.1 (of_decide_eq_false h')) (List.not_lt.1 (of_decide_eq_false h)))
/-- Which comes first. -/
def cpLt (a b : Cp) : Bool := sLess a.1 b.1 || (decide (a.1 = b.1) && decide (a.2 < b.2))
def sCmp (a b : ByteArray) : Int := if sLess a b = true then -1 else if sLess b a = true then 1 else 0
def iCmp (a b : Int) : Int := if a < b then -1 else if b < a then 1 else 0
def cpCmp (a b : Cp) : Int := if sCmp a.1 b.1 = 0 then iCmp a.2 b.2 else sCmp a.1 b.1
theorem sCmp_zero {a b : ByteArray} : sCmp a b = 0 ↔ a = b := by
  unfold sCmp
  constructor
  · intro h
    split at h
    · cases h
    · split at h
      · cases h
      · rename_i h1 h2
        exact sLess_total (by simpa using h1) (by simpa using h2)
  · rintro rfl; simp [sLess_irrefl]
theorem cpCmp_lt (a b : Cp) : decide (cpCmp a b < 0) = cpLt a b := by
  unfold cpCmp cpLt
  by_cases h : a.1 = b.1
  · rw [if_pos (sCmp_zero.2 h), h, sLess_irrefl]
    unfold iCmp
    simp
    split
    · simp [*]
    · split <;> simp [*]
  · rw [if_neg (fun e => h (sCmp_zero.1 e))]
    unfold sCmp
    have hb : decide (a.1 = b.1) = false := decide_eq_false h
    rw [hb]
    by_cases h1 : sLess a.1 b.1 = true
    · simp [h1]
    · rw [if_neg h1]
      have h1 : sLess a.1 b.1 = false := by simpa using h1
      rw [h1]
      split <;> simp
theorem cpLt_irrefl (a : Cp) : cpLt a a = false := by simp [cpLt, sLess_irrefl]
theorem cpLt_asymm {a b : Cp} (h : cpLt a b = true) : cpLt b a = false := by
  simp only [cpLt, Bool.or_eq_true, Bool.and_eq_true, decide_eq_true_eq] at h
  simp only [cpLt, Bool.or_eq_false_iff, Bool.and_eq_false_iff, decide_eq_false_iff_not]
  rcases h with h | ⟨h1, h2⟩
  · exact ⟨sLess_asymm h, .inl (fun e => by rw [e, sLess_irrefl] at h; cases h)⟩
  · exact ⟨by rw [h1]; exact sLess_irrefl _, .inr (by omega)⟩
theorem cpLt_trans {a b c : Cp} (h : cpLt a b = true) (h' : cpLt b c = true) : cpLt a c = true := by
  simp only [cpLt, Bool.or_eq_true, Bool.and_eq_true, decide_eq_true_eq] at h h' ⊢
  rcases h with h | ⟨h1, h2⟩
  · rcases h' with h' | ⟨h3, h4⟩
    · exact .inl (sLess_trans h h')
    · exact .inl (by rw [← h3]; exact h)
  · rcases h' with h' | ⟨h3, h4⟩
    · exact .inl (by rw [h1]; exact h')
    · exact .inr ⟨h1.trans h3, by omega⟩
theorem cpLt_total {a b : Cp} (h : cpLt a b = false) (h' : cpLt b a = false) : a = b := by
  simp only [cpLt, Bool.or_eq_false_iff, Bool.and_eq_false_iff, decide_eq_false_iff_not] at h h'
  have e := sLess_total h.1 h'.1
  have h1 : ¬ a.2 < b.2 := by rcases h.2 with h | h; exact absurd e h; exact h
  have h2 : ¬ b.2 < a.2 := by rcases h'.2 with h | h; exact absurd e.symm h; exact h
  exact Prod.ext e (by omega)
/-- May a capability stand at the place i? -/
def okAt (l : List Cp) (i : Nat) : Bool :=
  nmMay (l.getD i (⟨#[]⟩, 0)).1 && (decide (1 ≤ (l.getD i (⟨#[]⟩, 0)).2) && (decide ((l.getD i (⟨#[]⟩, 0)).2 ≤ 255) && (decide (i = 0) || cpLt (l.getD (i - 1) (⟨#[]⟩, 0)) (l.getD i (⟨#[]⟩, 0)))))
def capsB (l : List Cp) : Bool := (List.range l.length).all (okAt l)
def helB (least most : Int) (l : List Cp) : Bool := decide (1 ≤ least) && (decide (least ≤ most) && (decide (most ≤ 65535) && (decide (l.length ≤ 16) && capsB l)))
theorem caps_go {l : List Cp} {k : Nat} (h : (List.range k).all (okAt l) = true) (h' : okAt l k = true) : (List.range (k + 1)).all (okAt l) = true := by
  rw [List.range_succ, List.all_append, h]; simp [h']
theorem caps_no {l : List Cp} {k : Nat} (hk : k < l.length) (h' : okAt l k = false) : capsB l = false := by
  unfold capsB
  rw [List.all_eq_false]
  exact ⟨k, List.mem_range.2 hk, by simp [h']⟩
/-- Each rises above the one ahead. -/
def Rises : List Cp → Prop
  | [] => True
  | [_] => True
  | a :: b :: r => cpLt a b = true ∧ Rises (b :: r)
theorem Rises.tail {a : Cp} {l : List Cp} (h : Rises (a :: l)) : Rises l := by
  cases l with
  | nil => trivial
  | cons b r => exact h.2
theorem Rises.all {a : Cp} {l : List Cp} (h : Rises (a :: l)) : ∀ x ∈ l, cpLt a x = true := by
  induction l generalizing a with
  | nil => intro x hx; cases hx
  | cons b r ih =>
    intro x hx
    rcases List.mem_cons.1 hx with rfl | hx
    · exact h.1
    · exact cpLt_trans h.1 (ih h.2 x hx)
theorem rises_of : ∀ (l : List Cp), (∀ i, 0 < i → i < l.length → cpLt (l.getD (i - 1) (⟨#[]⟩, 0)) (l.getD i (⟨#[]⟩, 0)) = true) → Rises l
  | [], _ => trivial
  | [_], _ => trivial
  | a :: b :: r, h => by
    refine ⟨by simpa using h 1 (by omega) (by simp), rises_of (b :: r) fun i h0 hi => ?_⟩
    obtain ⟨j, rfl⟩ : ∃ j, i = j + 1 := ⟨i - 1, by omega⟩
    have := h (j + 2) (by omega) (by simp at hi ⊢; omega)
    simpa using this
theorem capsB_rises {l : List Cp} (h : capsB l = true) : Rises l := by
  refine rises_of l fun i h0 hi => ?_
  have := List.all_eq_true.1 h i (List.mem_range.2 hi)
  simp only [okAt, Bool.and_eq_true, Bool.or_eq_true, decide_eq_true_eq] at this
  rcases this.2.2.2 with h | h
  · omega
  · exact h
/-- What stands in both rows. -/
def bothL : List Cp → List Cp → List Cp
  | [], _ => []
  | _ :: _, [] => []
  | x :: xs, y :: ys => if x = y then x :: bothL xs ys else if cpLt x y = true then bothL xs (y :: ys) else bothL (x :: xs) ys
termination_by a b => a.length + b.length
theorem bothL_nil (a : List Cp) : bothL a [] = [] := by cases a <;> simp [bothL]
theorem bothL_cons (x y : Cp) (xs ys : List Cp) : bothL (x :: xs) (y :: ys) = if x = y then x :: bothL xs ys else if cpLt x y = true then bothL xs (y :: ys) else bothL (x :: xs) ys := by rw [bothL]
theorem bothL_symm (n : Nat) : ∀ a b : List Cp, a.length + b.length ≤ n → bothL a b = bothL b a := by
  induction n with
  | zero => intro a b h; cases a with
    | nil => simp [bothL, bothL_nil]
    | cons x xs => simp at h
  | succ n ih =>
    intro a b h
    match a, b with
    | [], b => rw [bothL_nil]; simp [bothL]
    | x :: xs, [] => rw [bothL_nil]; simp [bothL]
    | x :: xs, y :: ys =>
      rw [bothL_cons x y, bothL_cons y x]
      simp only [List.length_cons] at h
      by_cases e : x = y
      · subst e; rw [if_pos rfl, if_pos rfl, ih xs ys (by omega)]
      · have e2 : ¬ y = x := fun e' => e e'.symm
        rw [if_neg e, if_neg e2]
        by_cases h1 : cpLt x y = true
        · rw [if_pos h1, if_neg (by rw [cpLt_asymm h1]; simp)]
          exact ih _ _ (by simp; omega)
        · have h1 : cpLt x y = false := by simpa using h1
          rw [if_neg (by simp [h1])]
          have h2 : cpLt y x = true := by
            cases h2 : cpLt y x with
            | true => rfl
            | false => exact absurd (cpLt_total h1 h2) e
          rw [if_pos h2]
          exact ih _ _ (by simp; omega)
def memB (b : List Cp) (c : Cp) : Bool := b.any fun d => decide (d = c)
theorem memB_iff {b : List Cp} {c : Cp} : memB b c = true ↔ c ∈ b := by
  simp only [memB, List.any_eq_true, decide_eq_true_eq]
  exact ⟨fun ⟨d, h1, h2⟩ => h2 ▸ h1, fun h => ⟨c, h, rfl⟩⟩
theorem memB_cons (b : List Cp) (y c : Cp) : memB (y :: b) c = (decide (y = c) || memB b c) := by simp [memB]
theorem bothL_filter (n : Nat) : ∀ a b : List Cp, a.length + b.length ≤ n → Rises a → Rises b → bothL a b = a.filter (memB b) := by
  induction n with
  | zero => intro a b h _ _; cases a with
    | nil => simp [bothL]
    | cons x xs => simp at h
  | succ n ih =>
    intro a b h ha hb
    match a, b with
    | [], b => simp [bothL]
    | x :: xs, [] => rw [bothL_nil]; simp [memB]
    | x :: xs, y :: ys =>
      rw [bothL_cons]
      simp only [List.length_cons] at h
      by_cases e : x = y
      · subst e
        rw [if_pos rfl, ih xs ys (by omega) ha.tail hb.tail, List.filter_cons, if_pos (by simp [memB_cons])]
        congr 1
        refine List.filter_congr fun c hc => ?_
        have := ha.all c hc
        have hne : x ≠ c := fun e => by rw [e, cpLt_irrefl] at this; cases this
        rw [memB_cons, decide_eq_false hne]; rfl
      · rw [if_neg e]
        by_cases h1 : cpLt x y = true
        · have hn : ¬ memB (y :: ys) x = true := by
            rw [memB_iff, List.mem_cons]
            rintro (hm | hm)
            · exact e hm
            · have := cpLt_trans h1 (hb.all x hm)
              rw [cpLt_irrefl] at this; cases this
          rw [if_pos h1, ih _ _ (by simp; omega) ha.tail hb, List.filter_cons, if_neg hn]
        · rw [if_neg h1, ih _ _ (by simp; omega) ha hb.tail]
          refine List.filter_congr fun c hc => ?_
          have h1 : cpLt x y = false := by simpa using h1
          have h2 : cpLt y x = true := by
            cases h2 : cpLt y x with
            | true => rfl
            | false => exact absurd (cpLt_total h1 h2) e
          have hyc : cpLt y c = true := by
            rcases List.mem_cons.1 hc with rfl | hc
            · exact h2
            · exact cpLt_trans h2 (ha.all c hc)
          have hne : y ≠ c := fun e => by rw [e, cpLt_irrefl] at hyc; cases hyc
          rw [memB_cons, decide_eq_false hne]; rfl
/-- One more of what both have: of each name the last. -/
def dealStep (d : List Cp) (c : Cp) : List Cp := if d ≠ [] ∧ (d.getD (d.length - 1) (⟨#[]⟩, 0)).1 = c.1 then d.set (d.length - 1) c else d ++ [c]
def dealL (m : List Cp) : List Cp := m.foldl dealStep []
/-- Of each name the last, where names that are alike stand side by side. -/
def lastsL : List Cp → List Cp
  | [] => []
  | [x] => [x]
  | x :: y :: r => if x.1 = y.1 then lastsL (y :: r) else x :: lastsL (y :: r)
theorem dealStep_snoc (d : List Cp) (x c : Cp) : dealStep (d ++ [x]) c = if x.1 = c.1 then d ++ [c] else d ++ [x, c] := by
  unfold dealStep
  have h1 : (d ++ [x]).length - 1 = d.length := by simp
  have h2 : (d ++ [x]).getD d.length (⟨#[]⟩, 0) = x := by simp [List.getD_eq_getElem?_getD]
  rw [h1, h2]
  by_cases h : x.1 = c.1
  · rw [if_pos ⟨by simp, h⟩, if_pos h]; simp
  · rw [if_neg (fun e => h e.2), if_neg h]; simp
theorem deal_fold : ∀ (m : List Cp) (d : List Cp) (x : Cp), m.foldl dealStep (d ++ [x]) = d ++ lastsL (x :: m)
  | [], d, x => by simp [lastsL]
  | c :: m, d, x => by
    rw [List.foldl_cons, dealStep_snoc, lastsL]
    by_cases h : x.1 = c.1
    · rw [if_pos h, if_pos h, deal_fold m d c]
    · rw [if_neg h, if_neg h, show d ++ [x, c] = (d ++ [x]) ++ [c] by simp, deal_fold m (d ++ [x]) c]; simp
theorem dealL_lasts (m : List Cp) : dealL m = lastsL m := by
  cases m with
  | nil => rfl
  | cons x m =>
    have : dealStep [] x = [] ++ [x] := by simp [dealStep]
    rw [dealL, List.foldl_cons, this, deal_fold]; rfl
/-- Has a later one the same name? -/
def laterB (m : List Cp) (c : Cp) : Bool := m.any fun d => decide (d.1 = c.1)
/-- What the document keeps of a, b being the other side's. -/
def refL (b : List Cp) : List Cp → List Cp
  | [] => []
  | c :: r => if memB b c = true ∧ laterB (r.filter (memB b)) c = false then c :: refL b r else refL b r
theorem lasts_ref (b : List Cp) : ∀ a : List Cp, Rises a → lastsL (a.filter (memB b)) = refL b a
  | [], _ => rfl
  | c :: r, h => by
    have ih := lasts_ref b r h.tail
    rw [List.filter_cons, refL]
    by_cases hm : memB b c = true
    · rw [if_pos hm]
      have hall : ∀ d ∈ r.filter (memB b), cpLt c d = true := fun d hd => h.all d (List.mem_filter.1 hd).1
      cases hf : r.filter (memB b) with
      | nil =>
        rw [hf] at ih
        rw [if_pos ⟨hm, by simp [laterB]⟩, ← ih]
        rfl
      | cons y t =>
        rw [hf] at ih hall
        rw [lastsL]
        by_cases e : c.1 = y.1
        · rw [if_pos e, if_neg (by simp [laterB, e]), ih]
        · have hlat : laterB (y :: t) c = false := by
            have hcy : sLess c.1 y.1 = true := by
              have := hall y (by simp)
              simp only [cpLt, Bool.or_eq_true, Bool.and_eq_true, decide_eq_true_eq] at this
              rcases this with h | h
              · exact h
              · exact absurd h.1 e
            have hyt : Rises (y :: t) := by
              rw [← hf]
              have hfil : ∀ l : List Cp, Rises l → Rises (l.filter (memB b)) := by
                intro l
                induction l with
                | nil => intro _; trivial
                | cons a l ihl =>
                  intro hl
                  rw [List.filter_cons]
                  split
                  · have h1 := ihl hl.tail
                    cases hq : l.filter (memB b) with
                    | nil => trivial
                    | cons z q =>
                      rw [hq] at h1
                      exact ⟨hl.all z (List.mem_filter.1 (by rw [hq]; simp : z ∈ l.filter (memB b))).1, h1⟩
                  · exact ihl hl.tail
              exact hfil r h.tail
            unfold laterB
            rw [List.any_eq_false]
            intro d hd
            rcases List.mem_cons.1 hd with rfl | hd
            · simp; exact fun e' => e e'.symm
            · have h1 := hyt.all d hd
              simp only [cpLt, Bool.or_eq_true, Bool.and_eq_true, decide_eq_true_eq] at h1
              simp
              intro e'
              rcases h1 with h1 | h1
              · have := sLess_trans hcy h1
                rw [e', sLess_irrefl] at this; cases this
              · rw [← e', ← h1.1, sLess_irrefl] at hcy; cases hcy
          rw [if_neg e, if_pos ⟨hm, hlat⟩, ih]
    · rw [if_neg hm, if_neg (fun e => hm e.1), ih]
theorem deal_ref (a b : List Cp) (ha : Rises a) (hb : Rises b) : dealL (bothL a b) = refL b a := by
  rw [dealL_lasts, bothL_filter _ a b (Nat.le_refl _) ha hb, lasts_ref b a ha]
theorem deal_symm (a b : List Cp) : dealL (bothL a b) = dealL (bothL b a) := by rw [bothL_symm _ a b (Nat.le_refl _)]
end Go.Proofs.YtacikiambpfipaaDoor
