/- packed.Next by a meter with much room. -/
/- Chunks that come one behind the other: what is fed, and what is told. Plain functions and laws. No program in sight. -/
/- What bytes are split into, with the sizes: plain laws. No program in sight. -/
/- How large the frame is that bytes tell. -/
/- What a feeding lays, and what is buffered: plain laws. No program in sight. -/
/- Slices of frames in memory: read, and grown. -/
import Derived.Test.YtebllmpdlapefaaGreatDoorKA32
import Derived.Test.YtebllmpdlapefaaGreatDoorKA2
import Derived.Test.YtebllmpdlapefaaGreatDoorProg
import Derived.Test.YtebllmpdlapefaaGreatDoorKA1
namespace Go.Proofs.YtebllmpdlapefaaGreatDoor
set_option linter.unusedVariables false
set_option linter.unusedSimpArgs false
open Go.RowKit

/-- packed.Next by a meter with room for one more body. -/
theorem packedNext_met (most unp : Int) (mg a u t p : Nat) (s : ByteArray) (w : World) (hs : s.size ≤ 9223372036854775807) (hm1 : -9223372036854775808 ≤ most) (hm2 : most ≤ 9223372036854775807) (hM : Mtr w mg a u t p) (ha : a ≤ 9223372036854775807) (hu : u + 70000 ≤ a) (ht : t + 70000 ≤ 9223372036854775807) (hun : unp ≤ 70000) :
    Calls Tryz.prog 77 #[.int .i64 most, .int .i64 unp, .pointer (some ⟨mg, 0, none⟩), .string s] w fun e w' => e = pkRet (pkNext most unp s) ∧ (∃ q, Mtr w' mg a (u + (pkNext most unp s).2.2.2.2) (t + (pkNext most unp s).2.2.2.2) q) ∧ Only [mg] w w' := by
  by_cases hx : (plNext most s).1 ≠ 0 ∨ (sSize (plNext most s).2.2.1).2.2 ≠ 0 ∨ unp < (sSize (plNext most s).2.2.1).1
  · have hz : (pkNext most unp s).2.2.2.2 = 0 := by
      rw [pkNext_eq]
      by_cases h0 : (plNext most s).1 ≠ 0
      · rw [if_pos h0]
      · rw [if_neg h0]
        by_cases h1 : (sSize (plNext most s).2.2.1).2.2 ≠ 0
        · rw [if_pos h1]
        · rw [if_neg h1, if_pos (by rcases hx with h | h | h; exact absurd h h0; exact absurd h h1; exact h)]
    rw [hz]
    exact (packedNext_no most unp mg s w hs hm1 hm2 hx).mono fun e w' ⟨he, ho⟩ => ⟨he, ⟨p, hM.only ho (by simp)⟩, ho.mono (by simp)⟩
  · have h0 : (plNext most s).1 = 0 := Decidable.byContradiction fun h => hx (.inl h)
    have h1 : (sSize (plNext most s).2.2.1).2.2 = 0 := Decidable.byContradiction fun h => hx (.inr (.inl h))
    have h2 : ((sSize (plNext most s).2.2.1).1 : Int) ≤ unp := by
      have : ¬ unp < (sSize (plNext most s).2.2.1).1 := fun h => hx (.inr (.inr h))
      omega
    have hz : (pkNext most unp s).2.2.2.2 = (sSize (plNext most s).2.2.1).1 := by
      rw [pkNext_eq, if_neg (by rw [h0]; simp), if_neg (by rw [h1]; simp), if_neg (by omega)]
      split <;> rfl
    rw [hz]
    exact packedNext_ok most unp mg a u t p s w hs hm1 hm2 hM ha h0 h1 h2 (by omega) (by omega)
theorem pkNext_met (most unp : Int) (s : ByteArray) : (pkNext most unp s).2.2.2.2 = 0 ∨ ((pkNext most unp s).2.2.2.2 : Int) ≤ unp := by
  rw [pkNext_eq]
  split
  · exact .inl rfl
  · split
    · exact .inl rfl
    · split
      · exact .inl rfl
      · right
        split <;> simp only <;> omega
/-- packed.Next by a meter with much room. -/
theorem packedNext_any (most unp : Int) (mg : Nat) (s : ByteArray) (w : World) (hs : s.size ≤ 9223372036854775807) (hm1 : -9223372036854775808 ≤ most) (hm2 : most ≤ 9223372036854775807) (hM : Mtr w mg 1073741824 0 0 0) (hu : unp ≤ 70000) :
    Calls Tryz.prog 77 #[.int .i64 most, .int .i64 unp, .pointer (some ⟨mg, 0, none⟩), .string s] w fun e w' => e = pkRet (pkNext most unp s) ∧ (∃ u q, Mtr w' mg 1073741824 u (pkNext most unp s).2.2.2.2 q) ∧ Only [mg] w w' :=
  (packedNext_met most unp mg 1073741824 0 0 0 s w hs hm1 hm2 hM (by omega) (by omega) (by omega) hu).mono fun e w' ⟨he, ⟨q, hm⟩, ho⟩ => ⟨he, ⟨_, q, by simpa only [Nat.zero_add] using hm⟩, ho⟩
end Go.Proofs.YtebllmpdlapefaaGreatDoor
namespace Go.Proofs.YtebllmpdlapefaaGreatDoor
set_option linter.unusedVariables false
set_option linter.unusedSimpArgs false

/-- What is buffered, by what it is broken, what was laid last, how many were told. -/
structure Fed where
  buf : ByteArray
  fault : Int
  laid : Nat
  told : Nat
def Fed.new : Fed := ⟨ByteArray.empty, 0, 0, 0⟩
def fed {α : Type} (nx : Nx α) (x : Fed) (s : ByteArray) : Fed × List α × Int :=
  if x.fault ≠ 0 then ({ x with laid := 0 }, [], x.fault)
  else (⟨(split nx (x.buf ++ s)).2.1, (split nx (x.buf ++ s)).2.2.2, s.size + (split nx (x.buf ++ s)).2.2.1, x.told + (split nx (x.buf ++ s)).1.length⟩, (split nx (x.buf ++ s)).1, (split nx (x.buf ++ s)).2.2.2)
theorem fed_broken {α : Type} {nx : Nx α} {x : Fed} (h : x.fault ≠ 0) (s : ByteArray) : fed nx x s = ({ x with laid := 0 }, [], x.fault) := by unfold fed; rw [if_pos h]
theorem fed_whole {α : Type} {nx : Nx α} {x : Fed} (h : x.fault = 0) (s : ByteArray) : fed nx x s = (⟨(split nx (x.buf ++ s)).2.1, (split nx (x.buf ++ s)).2.2.2, s.size + (split nx (x.buf ++ s)).2.2.1, x.told + (split nx (x.buf ++ s)).1.length⟩, (split nx (x.buf ++ s)).1, (split nx (x.buf ++ s)).2.2.2) := by unfold fed; rw [if_neg (by simp [h])]
theorem fed_fault {α : Type} {nx : Nx α} (x : Fed) (s : ByteArray) : (fed nx x s).1.fault = (fed nx x s).2.2 := by
  by_cases h : x.fault = 0
  · rw [fed_whole h]
  · rw [fed_broken h]
/-- All chunks so far, fed to a new one that isn't broken, are these bytes; these have been told. -/
structure FedAll {α : Type} (nx : Nx α) (x : Fed) (s : ByteArray) (l : List α) : Prop where
  fault : x.fault = 0
  err : (split nx s).2.2.2 = 0
  buf : x.buf = (split nx s).2.1
  told : l = (split nx s).1
theorem FedAll.new {α : Type} {nx : Nx α} (h : NxOk nx) (h0 : (nx ByteArray.empty).1 = 2) : FedAll nx Fed.new ByteArray.empty ([] : List α) := by
  have := split_short h h0
  exact ⟨rfl, by rw [this], by rw [this]; rfl, by rw [this]⟩
theorem FedAll.fed {α : Type} {nx : Nx α} (h : NxOk nx) {x : Fed} {s : ByteArray} {l : List α} (hx : FedAll nx x s l) (t : ByteArray) :
    (fed nx x t).2.2 = (split nx (s ++ t)).2.2.2 ∧ l ++ (fed nx x t).2.1 = (split nx (s ++ t)).1 ∧ (fed nx x t).1.buf = (split nx (s ++ t)).2.1 ∧ ((fed nx x t).2.2 = 0 → FedAll nx (fed nx x t).1 (s ++ t) (l ++ (fed nx x t).2.1)) := by
  have e := split_next h s t hx.err
  rw [fed_whole hx.fault, hx.buf, e, hx.told]
  refine ⟨rfl, rfl, rfl, fun h0 => ⟨h0, ?_, ?_, ?_⟩⟩
  · rw [e]; exact h0
  · rw [e]
  · rw [e]
/-- What is buffered is short, unless it is broken. -/
def FedShort {α : Type} (nx : Nx α) (x : Fed) : Prop := x.fault = 0 → (nx x.buf).1 = 2
theorem FedShort.new {α : Type} {nx : Nx α} (h0 : (nx ByteArray.empty).1 = 2) : FedShort nx Fed.new := fun _ => h0
theorem FedShort.fed {α : Type} {nx : Nx α} (h : NxOk nx) (x : Fed) (s : ByteArray) : FedShort nx (fed nx x s).1 := by
  by_cases h0 : x.fault = 0
  · rw [fed_whole h0]; exact (split_tail h _).1
  · rw [fed_broken h0]; exact fun h1 => absurd h1 h0
/-- A chunk without a byte. -/
theorem fed_none {α : Type} {nx : Nx α} (h : NxOk nx) {x : Fed} (hx : FedShort nx x) : fed nx x ByteArray.empty = ({ x with laid := 0 }, [], x.fault) := by
  by_cases h0 : x.fault = 0
  · have e : x.buf ++ ByteArray.empty = x.buf := bytes_ext (by rw [toList_app]; simp)
    rw [fed_whole h0, e, split_short h (hx h0), h0]
    obtain ⟨b, f, l, t⟩ := x
    subst h0
    rfl
  · exact fed_broken h0 _
/-- What is fed doesn't hang on what was laid last. -/
theorem fed_laid {α : Type} (nx : Nx α) (x : Fed) (n : Nat) (s : ByteArray) : fed nx { x with laid := n } s = fed nx x s := by unfold fed; rfl
end Go.Proofs.YtebllmpdlapefaaGreatDoor
namespace Go.Proofs.YtebllmpdlapefaaGreatDoor
set_option linter.unusedVariables false
set_option linter.unusedSimpArgs false

/-- What is told, with its size. -/
def frL {α : Type} (nx : Nx α) : Nat → ByteArray → List (α × Nat)
  | 0, _ => []
  | f + 1, s => if (nx s).1 = 0 then ((nx s).2.1, (nx s).2.2.1) :: frL nx f (s.extract (nx s).2.2.1 s.size) else []
def frs {α : Type} (nx : Nx α) (s : ByteArray) : List (α × Nat) := frL nx (s.size + 1) s
theorem frL_fuel {α : Type} {nx : Nx α} (h : NxOk nx) : ∀ (f g : Nat) (s : ByteArray), s.size < f → s.size < g → frL nx f s = frL nx g s
  | 0, _, _, hf, _ => absurd hf (by omega)
  | _, 0, _, _, hg => absurd hg (by omega)
  | f + 1, g + 1, s, hf, hg => by
    unfold frL
    by_cases h0 : (nx s).1 = 0
    · rw [if_pos h0, if_pos h0]
      obtain ⟨h1, h2⟩ := h.pos s h0
      have := rest_size s _ h1 h2
      rw [frL_fuel h f g _ (by omega) (by omega)]
    · rw [if_neg h0, if_neg h0]
theorem frs_go {α : Type} {nx : Nx α} (h : NxOk nx) {s : ByteArray} (h0 : (nx s).1 = 0) : frs nx s = ((nx s).2.1, (nx s).2.2.1) :: frs nx (s.extract (nx s).2.2.1 s.size) := by
  rw [frs, frL, if_pos h0]
  obtain ⟨h1, h2⟩ := h.pos s h0
  have := rest_size s _ h1 h2
  rw [frs, frL_fuel h s.size _ _ (by omega) (Nat.lt_succ_self _)]
theorem frs_stop {α : Type} {nx : Nx α} {s : ByteArray} (h0 : (nx s).1 ≠ 0) : frs nx s = [] := by rw [frs, frL, if_neg h0]
theorem frs_map {α : Type} {nx : Nx α} (h : NxOk nx) (s : ByteArray) : (frs nx s).map Prod.fst = (split nx s).1 := by
  induction s using split_ind h with
  | stop s h0 => rw [frs_stop h0, split_eq h s, if_neg h0]; rfl
  | go s h0 ih => rw [frs_go h h0, split_go h h0, List.map_cons, ih]; rfl
/-- How many bytes they have together. -/
def atL {α : Type} (l : List (α × Nat)) : Nat := (l.map Prod.snd).sum
theorem atL_snoc {α : Type} (l : List (α × Nat)) (x : α × Nat) : atL (l ++ [x]) = atL l + x.2 := by simp [atL]
theorem atL_cons {α : Type} (l : List (α × Nat)) (x : α × Nat) : atL (x :: l) = x.2 + atL l := by simp [atL]
theorem atL_app {α : Type} (a b : List (α × Nat)) : atL (a ++ b) = atL a + atL b := by simp [atL]
theorem frs_tail {α : Type} {nx : Nx α} (h : NxOk nx) (s : ByteArray) : atL (frs nx s) ≤ s.size ∧ (split nx s).2.1 = s.extract (atL (frs nx s)) s.size ∧ (frs nx s).length ≤ s.size := by
  induction s using split_ind h with
  | stop s h0 =>
    rw [frs_stop h0, split_eq h s, if_neg h0]
    refine ⟨by simp [atL], ?_, by simp⟩
    show s = s.extract 0 s.size
    rw [cut_all]
  | go s h0 ih =>
    obtain ⟨h1, h2⟩ := h.pos s h0
    obtain ⟨k1, k2, k3⟩ := ih
    have hz : (s.extract (nx s).2.2.1 s.size).size = s.size - (nx s).2.2.1 := size_cut _ _ _ (Nat.le_refl _)
    rw [frs_go h h0, atL_cons, split_go h h0]
    refine ⟨by simp only; omega, ?_, by rw [List.length_cons]; omega⟩
    show (split nx (s.extract (nx s).2.2.1 s.size)).2.1 = _
    rw [k2, hz, cut_cut _ _ _ _ (by omega)]
    congr 1
    omega
/-- The error by which they end, as it is told. -/
theorem split_end {α : Type} {nx : Nx α} (h : NxOk nx) (s : ByteArray) : (split nx s).2.2.2 = if (nx (split nx s).2.1).1 = 2 then 0 else (nx (split nx s).2.1).1 := by
  obtain ⟨h1, h2⟩ := split_tail h s
  by_cases h0 : (split nx s).2.2.2 = 0
  · rw [if_pos (h1 h0), h0]
  · obtain ⟨e, e2⟩ := h2 h0
    rw [e, if_neg e2]
end Go.Proofs.YtebllmpdlapefaaGreatDoor
namespace Go.Proofs.YtebllmpdlapefaaGreatDoor
set_option linter.unusedVariables false
set_option linter.unusedSimpArgs false

theorem sStep_le (s : ByteArray) (size k b : Nat) (out : List UInt8) (h : out.length ≤ size) (h0 : (sStep s size k b out).1 = 0) : (sStep s size k b out).2.2.length ≤ size := by
  unfold sStep at h0 ⊢
  by_cases h1 : s.size < k + sHead b
  · rw [if_pos h1]; exact h
  rw [if_neg h1] at h0 ⊢
  by_cases h2 : (b % 4 ≠ 0 ∧ (sBack b (sNum s k b) = 0 ∨ out.length < sBack b (sNum s k b))) ∨ size - out.length < sCount b (sNum s k b)
  · rw [if_pos h2]; exact h
  rw [if_neg h2] at h0 ⊢
  have h3 : sCount b (sNum s k b) ≤ size - out.length := by omega
  by_cases h4 : b % 4 = 0
  · rw [if_pos h4] at h0 ⊢
    by_cases h5 : s.size < k + sHead b + sCount b (sNum s k b)
    · rw [if_pos h5]; exact h
    rw [if_neg h5]
    simp only [List.length_append, toList_size]
    rw [size_cut _ _ _ (by omega)]
    omega
  · rw [if_neg h4]
    simp only [cpy_length]
    omega
theorem sAll_le (s : ByteArray) (size : Nat) : ∀ (f k : Nat) (out : List UInt8), out.length ≤ size → (sAll s size f k out).2.length ≤ size
  | 0, k, out, _ => by simp [sAll]
  | f + 1, k, out, h => by
    unfold sAll
    by_cases h1 : k < s.size
    · rw [dif_pos h1]
      by_cases h2 : (sStep s size k s[k].toNat out).1 = 0
      · rw [if_pos h2]; exact sAll_le s size f _ _ (sStep_le s size k _ out h h2)
      · rw [if_neg h2]; simp
    · rw [dif_neg h1]
      split
      · simp
      · exact h
theorem pkNext_body (fr un : Int) (s : ByteArray) : (((pkNext fr un s).2.2.1.size : Nat) : Int) ≤ max un 0 := by
  rw [pkNext_eq]
  split
  · show ((0 : Nat) : Int) ≤ _; omega
  split
  · show ((0 : Nat) : Int) ≤ _; omega
  split
  · show ((0 : Nat) : Int) ≤ _; omega
  split
  · show ((0 : Nat) : Int) ≤ _; omega
  · rename_i h1 h2 h3 h4
    show (((sUnpack (plNext fr s).2.2.1 un).2.length : Nat) : Int) ≤ _
    unfold sUnpack sElems
    rw [if_neg h2, if_neg h3]
    have := sAll_le ((plNext fr s).2.2.1.extract (sSize (plNext fr s).2.2.1).2.1 (plNext fr s).2.2.1.size) (sSize (plNext fr s).2.2.1).1 (((plNext fr s).2.2.1.extract (sSize (plNext fr s).2.2.1).2.1 (plNext fr s).2.2.1.size).size + 1) 0 [] (by simp)
    omega
theorem cut_le (s : ByteArray) (a b : Nat) : (s.extract a b).size ≤ s.size := by simp; omega
theorem nmGet_size (s : ByteArray) : (nmGet s).2.size ≤ 12 := by
  unfold nmGet
  split
  · rename_i h; exact (nmMay_size h.2).2
  · exact Nat.zero_le _
theorem cnNext_body (m : Nat) (most : Int) (s : ByteArray) : (cnNext m most s).2.1.size ≤ 12 ∧ (cnNext m most s).2.2.1.size ≤ s.size := by
  unfold cnNext
  repeat' split
  all_goals dsimp only
  all_goals first | with_reducible exact ⟨nmGet_size _, cut_le _ _ _⟩ | exact ⟨by simp, by simp⟩
theorem plNext_body (most : Int) (s : ByteArray) : (plNext most s).2.2.1.size ≤ s.size := by
  by_cases h : (plNext most s).1 = 0
  · rw [plNext_eq] at h ⊢
    generalize plSize most s = p at *
    generalize lebNext (s.extract p.2.1 (p.2.1 + p.1)) = q at *
    by_cases h1 : p.2.2 ≠ 0
    · rw [if_pos h1]; exact Nat.zero_le _
    rw [if_neg h1] at h ⊢
    by_cases h2 : s.size < p.2.1 + p.1
    · rw [if_pos h2]; exact Nat.zero_le _
    rw [if_neg h2] at h ⊢
    by_cases h3 : q.2.2 ≠ 0
    · rw [if_pos h3]; exact Nat.zero_le _
    rw [if_neg h3]
    exact Nat.le_trans (cut_le _ _ _) (cut_le _ _ _)
  · rw [plErr most s h]; exact Nat.zero_le _
/-- The frame that bytes tell: its name is no longer than they are, nor is its body, or than the largest. -/
theorem wRaw_body (c : Cfg) (s : ByteArray) : (wRaw c s).2.1.nm.size ≤ 12 ∧ (((wRaw c s).2.1.body.size : Nat) : Int) ≤ max (s.size : Int) (max c.un 0) := by
  unfold wRaw
  split
  · have := cnNext_body c.mg c.fr s; exact ⟨this.1, by have := this.2; show (((cnNext c.mg c.fr s).2.2.1.size : Nat) : Int) ≤ _; omega⟩
  split
  · have := plNext_body c.fr s; exact ⟨Nat.zero_le _, by show (((plNext c.fr s).2.2.1.size : Nat) : Int) ≤ _; omega⟩
  · have := pkNext_body c.fr c.un s; exact ⟨Nat.zero_le _, by show (((pkNext c.fr c.un s).2.2.1.size : Nat) : Int) ≤ _; omega⟩
end Go.Proofs.YtebllmpdlapefaaGreatDoor
namespace Go.Proofs.YtebllmpdlapefaaGreatDoor
set_option linter.unusedVariables false
set_option linter.unusedSimpArgs false

theorem sAll_full {s : ByteArray} {size : Nat} : ∀ (f k : Nat) (out : List UInt8), out.length ≤ size → (sAll s size f k out).1 = 0 → (sAll s size f k out).2.length = size
  | 0, k, out, _, h => by simp [sAll] at h
  | f + 1, k, out, ho, h => by
    unfold sAll at h ⊢
    by_cases h1 : k < s.size
    · rw [dif_pos h1] at h ⊢
      by_cases h2 : (sStep s size k s[k].toNat out).1 = 0
      · rw [if_pos h2] at h ⊢; exact sAll_full f _ _ (sStep_le s size k _ out ho h2) h
      · rw [if_neg h2] at h; exact absurd h h2
    · rw [dif_neg h1] at h ⊢
      by_cases h2 : out.length < size
      · rw [if_pos h2] at h; cases h
      · rw [if_neg h2]; show out.length = size; omega
theorem pkNext_lays (fr un : Int) (s : ByteArray) (h : (pkNext fr un s).1 = 0) : (pkNext fr un s).2.2.2.2 = (pkNext fr un s).2.2.1.size := by
  rw [pkNext_eq] at h ⊢
  by_cases h1 : (plNext fr s).1 ≠ 0
  · rw [if_pos h1] at h; exact absurd h h1
  rw [if_neg h1] at h ⊢
  by_cases h2 : (sSize (plNext fr s).2.2.1).2.2 ≠ 0
  · rw [if_pos h2] at h; simp only at h; split at h <;> cases h
  rw [if_neg h2] at h ⊢
  by_cases h3 : un < (sSize (plNext fr s).2.2.1).1
  · rw [if_pos h3] at h; cases h
  rw [if_neg h3] at h ⊢
  by_cases h4 : (sUnpack (plNext fr s).2.2.1 un).1 ≠ 0
  · rw [if_pos h4] at h; cases h
  rw [if_neg h4]
  have h5 := Decidable.not_not.1 h4
  show (sSize (plNext fr s).2.2.1).1 = (sUnpack (plNext fr s).2.2.1 un).2.length
  unfold sUnpack at h5 ⊢
  rw [if_neg h2, if_neg h3] at h5 ⊢
  exact (sAll_full _ _ _ (by simp) h5).symm
theorem pkNext_unp (fr un : Int) (s : ByteArray) (hu : 0 ≤ un) : ((pkNext fr un s).2.2.2.2 : Int) ≤ un := by
  rw [pkNext_eq]
  by_cases h1 : (plNext fr s).1 ≠ 0
  · rw [if_pos h1]; exact hu
  rw [if_neg h1]
  by_cases h2 : (sSize (plNext fr s).2.2.1).2.2 ≠ 0
  · rw [if_pos h2]; exact hu
  rw [if_neg h2]
  by_cases h3 : un < (sSize (plNext fr s).2.2.1).1
  · rw [if_pos h3]; exact hu
  rw [if_neg h3]
  split
  · show (((sSize (plNext fr s).2.2.1).1 : Nat) : Int) ≤ un; omega
  · show (((sSize (plNext fr s).2.2.1).1 : Nat) : Int) ≤ un; omega
/-- How many bytes the bodies have together. -/
def bodies (l : List Fr) : Nat := (l.map fun f => f.body.size).sum
theorem bodies_nil : bodies [] = 0 := rfl
theorem bodies_cons (f : Fr) (l : List Fr) : bodies (f :: l) = f.body.size + bodies l := by simp [bodies]
theorem bodies_snoc (f : Fr) (l : List Fr) : bodies (l ++ [f]) = bodies l + f.body.size := by simp [bodies]
theorem wNext_lays {c : Cfg} (h3 : c.fm ≠ 3) (s : ByteArray) : (wNext c s).2.2.2 = 0 := by
  unfold wNext
  by_cases hr : c.right = true
  · rw [if_pos hr]
    have := (c.right_iff).1 hr
    unfold wRaw
    by_cases h1 : c.fm = 1
    · rw [if_pos h1]
    · rw [if_neg h1, if_pos (by omega)]
  · rw [if_neg hr]
theorem wNext_lays3 {c : Cfg} (hr : c.right = true) (h3 : c.fm = 3) (s : ByteArray) : ((wNext c s).1 = 0 → (wNext c s).2.2.2 = (wNext c s).2.1.body.size) ∧ ((wNext c s).2.2.2 : Int) ≤ c.un := by
  have := (c.right_iff).1 hr
  rw [wNext_right hr]
  unfold wRaw
  rw [if_neg (by omega), if_neg (by omega)]
  exact ⟨pkNext_lays _ _ _, pkNext_unp _ _ _ (by omega)⟩
theorem split_lays {c : Cfg} (h3 : c.fm ≠ 3) (s : ByteArray) : (split (wNext c) s).2.2.1 = 0 := by
  have h := wNext_ok c
  induction s using split_ind h with
  | stop s h0 => rw [split_eq h, if_neg h0]; exact wNext_lays h3 s
  | go s h0 ih =>
    rw [split_go h h0]
    show (wNext c s).2.2.2 + (split (wNext c) (s.extract (wNext c s).2.2.1 s.size)).2.2.1 = 0
    rw [ih, wNext_lays h3]
theorem split_lays3 {c : Cfg} (hr : c.right = true) (h3 : c.fm = 3) (s : ByteArray) :
    ((split (wNext c) s).2.2.2 = 0 → (split (wNext c) s).2.2.1 = bodies (split (wNext c) s).1) ∧ bodies (split (wNext c) s).1 ≤ (split (wNext c) s).2.2.1 ∧ ((split (wNext c) s).2.2.1 : Int) ≤ bodies (split (wNext c) s).1 + c.un := by
  have h := wNext_ok c
  have hu := (c.right_iff).1 hr
  induction s using split_ind h with
  | stop s h0 =>
    rw [split_eq h, if_neg h0]
    have := (wNext_lays3 hr h3 s).2
    refine ⟨fun h2 => ?_, Nat.zero_le _, ?_⟩
    · by_cases h4 : (wNext c s).1 = 2
      · exact h.short s h4
      · simp only [if_neg h4] at h2; exact absurd h2 h0
    · show ((wNext c s).2.2.2 : Int) ≤ ((0 : Nat) : Int) + c.un
      omega
  | go s h0 ih =>
    rw [split_go h h0]
    obtain ⟨i1, i2, i3⟩ := ih
    have e := (wNext_lays3 hr h3 s).1 h0
    generalize split (wNext c) (s.extract (wNext c s).2.2.1 s.size) = R at *
    show (R.2.2.2 = 0 → (wNext c s).2.2.2 + R.2.2.1 = bodies ((wNext c s).2.1 :: R.1)) ∧ bodies ((wNext c s).2.1 :: R.1) ≤ (wNext c s).2.2.2 + R.2.2.1 ∧ (((wNext c s).2.2.2 + R.2.2.1 : Nat) : Int) ≤ (bodies ((wNext c s).2.1 :: R.1) : Nat) + c.un
    rw [bodies_cons, e]
    exact ⟨fun hz => by rw [i1 hz], by omega, by omega⟩
theorem split_buf {c : Cfg} (hr : c.right = true) (s : ByteArray) (h0 : (split (wNext c) s).2.2.2 = 0) : ((split (wNext c) s).2.1.size : Int) < max (wMost c) 10 := by
  have := (split_tail (wNext_ok c) s).1 h0
  rw [wNext_right hr] at this
  exact wRaw_short hr this
theorem split_len' (c : Cfg) (s : ByteArray) : (split (wNext c) s).1.length ≤ s.size := by
  have := frs_map (wNext_ok c) s
  rw [← this, List.length_map]
  exact (frs_tail (wNext_ok c) s).2.2
theorem split_tail_le' (c : Cfg) (s : ByteArray) : (split (wNext c) s).2.1.size ≤ s.size := by
  obtain ⟨k, hk, e⟩ := split_tail_size (wNext_ok c) s
  rw [e, size_cut _ _ _ (Nat.le_refl _)]
  omega
end Go.Proofs.YtebllmpdlapefaaGreatDoor
namespace Go.Proofs.YtebllmpdlapefaaGreatDoor
set_option linter.unusedVariables false
set_option linter.unusedSimpArgs false
open Go.RowKit

def fcs (l : List Fr) : List Value := l.flatMap fun f => [.int .u64 f.id, .string f.nm, .string f.body]
theorem fcs_cons (f : Fr) (l : List Fr) : fcs (f :: l) = .int .u64 f.id :: .string f.nm :: .string f.body :: fcs l := by simp [fcs]
theorem fcs_append (a b : List Fr) : fcs (a ++ b) = fcs a ++ fcs b := by simp [fcs]
theorem fcs_one (f : Fr) : fcs [f] = [.int .u64 f.id, .string f.nm, .string f.body] := by simp [fcs]
theorem fcs_at : ∀ (l : List Fr) (j : Nat) (h : j < l.length), (fcs l)[j * 3]? = some (.int .u64 l[j].id) ∧ (fcs l)[j * 3 + 1]? = some (.string l[j].nm) ∧ (fcs l)[j * 3 + 2]? = some (.string l[j].body)
  | [], j, h => by simp at h
  | c :: l, 0, _ => by simp [fcs]
  | c :: l, j + 1, h => by
    have := fcs_at l j (by simpa using h)
    rw [fcs_cons, show (j + 1) * 3 = j * 3 + 3 from by omega]
    simpa using this
/-- The value is a slice that reads as these frames, in a block below B. -/
def FrR (w : World) (B : Nat) (v : Value) (l : List Fr) : Prop := ∃ A cap, v = .slice A l.length cap ∧ l.length ≤ cap ∧ cap ≤ 9223372036854775807 ∧ ∀ j (h : j < l.length), ∃ g o, A = some ⟨g, o, none⟩ ∧ g < B ∧ w.cell? ⟨g, o + j * 3, none⟩ = some (.int .u64 l[j].id) ∧ w.cell? ⟨g, o + j * 3 + 1, none⟩ = some (.string l[j].nm) ∧ w.cell? ⟨g, o + j * 3 + 2, none⟩ = some (.string l[j].body)
theorem FrR.keep {w w' : World} {B B' : Nat} {v : Value} {l : List Fr} (h : FrR w B v l) (hB : B ≤ B') (hk : ∀ p : Addr, p.block < B → w'.cell? p = w.cell? p) : FrR w' B' v l := by
  obtain ⟨A, cap, h1, h2, h3, h4⟩ := h
  refine ⟨A, cap, h1, h2, h3, fun j hj => ?_⟩
  obtain ⟨g, o, hA, hg, e0, e1, e2⟩ := h4 j hj
  exact ⟨g, o, hA, by omega, (hk _ hg).trans e0, (hk _ hg).trans e1, (hk _ hg).trans e2⟩
theorem FrR.below {w w' : World} {B : Nat} {v : Value} {l : List Fr} (h : FrR w B v l) (hb : Below B w w') : FrR w' B v l := h.keep (Nat.le_refl _) (fun _ hp => hb.cell hp)
theorem FrR.mono {w : World} {B B' : Nat} {v : Value} {l : List Fr} (h : FrR w B v l) (hB : B ≤ B') : FrR w B' v l := h.keep hB (fun _ _ => rfl)
theorem FrR.form' {w : World} {B : Nat} {v : Value} {l : List Fr} (h : FrR w B v l) : ∃ A n cap, v = .slice A n cap ∧ Hid (n = l.length) ∧ n ≤ cap ∧ cap ≤ 9223372036854775807 := by
  obtain ⟨A, cap, h1, h2, h3, _⟩ := h
  exact ⟨A, _, cap, h1, Lib.hid rfl, h2, h3⟩
theorem FrR.at_ {w : World} {B : Nat} {A : Option Addr} {n cap : Nat} {l : List Fr} (h : FrR w B (.slice A n cap) l) {j : Nat} (hj : j < l.length) : ∃ g o, A = some ⟨g, o, none⟩ ∧ g < B ∧ w.cell? ⟨g, o + j * 3, none⟩ = some (.int .u64 l[j].id) ∧ w.cell? ⟨g, o + j * 3 + 1, none⟩ = some (.string l[j].nm) ∧ w.cell? ⟨g, o + j * 3 + 2, none⟩ = some (.string l[j].body) := by
  obtain ⟨A', cap', h1, h2, h3, h4⟩ := h
  injection h1 with hA _ _
  subst hA
  exact h4 j hj
theorem FrR.nil (w : World) (B : Nat) : FrR w B (.slice none 0 0) [] := ⟨none, 0, rfl, by simp, by simp, fun j hj => by simp at hj⟩
/-- A part of them. -/
theorem FrR.part {w : World} {B : Nat} {g o n cap c' : Nat} {l : List Fr} (h : FrR w B (.slice (some ⟨g, o, none⟩) n cap) l) (i j : Nat) (hij : i ≤ j) (hj : j ≤ l.length) (hc : j - i ≤ c') (hc' : c' ≤ 9223372036854775807) : FrR w B (.slice (some ⟨g, o + i * 3, none⟩) (j - i) c') ((l.drop i).take (j - i)) := by
  have hl : ((l.drop i).take (j - i)).length = j - i := by rw [List.length_take, List.length_drop]; omega
  refine ⟨some ⟨g, o + i * 3, none⟩, c', by rw [hl], by rw [hl]; exact hc, hc', fun k hk => ?_⟩
  rw [hl] at hk
  obtain ⟨g', o', hA, hg, e0, e1, e2⟩ := h.at_ (j := i + k) (by omega)
  injection hA with hA
  injection hA with hA hA2
  subst hA; subst hA2
  have he : ((l.drop i).take (j - i))[k] = l[i + k] := by rw [List.getElem_take, List.getElem_drop]
  rw [he]
  exact ⟨g, _, rfl, hg, by rw [show o + i * 3 + k * 3 = o + (i + k) * 3 from by omega]; exact ⟨e0, e1, e2⟩⟩
/-- A row of the call's own, from block lo on. -/
abbrev FrO (w : World) (lo : Nat) (v : Value) (l : List Fr) : Prop := w.ownsRow lo 27 3 v l.length (fcs l)
theorem FrO.nil (w : World) (lo : Nat) : FrO w lo (.slice none 0 0) [] := ⟨rfl, .inl ⟨rfl, rfl⟩⟩
theorem FrO.form' {w : World} {lo : Nat} {v : Value} {l : List Fr} (h : FrO w lo v l) : ∃ A n cap, v = .slice A n cap ∧ Hid (n = l.length) ∧ n ≤ cap ∧ cap ≤ 9223372036854775807 := by
  rcases h.2 with ⟨h2, h3⟩ | ⟨g', cap', cur, hv, hb, hh, hn, hm, hs, ht⟩
  · exact ⟨none, 0, 0, h2, Lib.hid h3.symm, by omega, by simp⟩
  · exact ⟨_, _, cap', hv, Lib.hid rfl, hn, by simpa [maxLen] using hm⟩
theorem FrO.read {w : World} {lo : Nat} {v : Value} {l : List Fr} (h : FrO w lo v l) : FrR w w.heap.size v l := by
  obtain ⟨h1, h2⟩ := h
  rcases h2 with ⟨h2, h3⟩ | ⟨g, cap, cur, hv, hg, hh, hn, hm, hs, ht⟩
  · obtain rfl : l = [] := List.eq_nil_of_length_eq_zero h3
    rw [h2]; exact FrR.nil _ _
  · refine ⟨_, cap, hv, hn, by simpa [maxLen] using hm, fun j hj => ?_⟩
    have hc := fcs_at l j hj
    have key : ∀ i u, (fcs l)[i]? = some u → w.cell? ⟨g, i, none⟩ = some u := by
      intro i u hu
      have hlt : i < l.length * 3 := by
        have := (List.getElem?_eq_some_iff.1 hu).1
        rw [h1] at this; exact this
      rw [← ht, List.getElem?_take_of_lt (by omega)] at hu
      simp only [World.cell?, hh]
      simpa using hu
    exact ⟨g, 0, rfl, lt_of_block hh, by rw [Nat.zero_add]; exact ⟨key _ _ hc.1, key _ _ hc.2.1, key _ _ hc.2.2⟩⟩
theorem FrO.keep {w w' : World} {lo : Nat} {v : Value} {l : List Fr} (h : FrO w lo v l) (hk : ∀ k, lo ≤ k → k < w.heap.size → w'.heap[k]? = w.heap[k]?) : FrO w' lo v l := by
  refine ⟨h.1, ?_⟩
  rcases h.2 with h2 | ⟨g, cap, cur, hv, hb, hh, r⟩
  · exact .inl h2
  · exact .inr ⟨g, cap, cur, hv, hb, (hk g hb (lt_of_block hh)).trans hh, r⟩
theorem FrO.below {w w' : World} {lo : Nat} {v : Value} {l : List Fr} (h : FrO w lo v l) (hb : Below w.heap.size w w') : FrO w' lo v l := h.keep fun k _ h2 => hb.block k h2
theorem FrO.only {L : List Nat} {w w' : World} {lo : Nat} {v : Value} {l : List Fr} (h : FrO w lo v l) (ho : Only L w w') (hL : ∀ g, g ∈ L → g < lo) : FrO w' lo v l := h.keep fun k h1 h2 => ho.block k h2 (fun hm => by have := hL k hm; omega)
theorem FrO.ge {w : World} {lo : Nat} {v : Value} {l : List Fr} (h : FrO w lo v l) : ∀ g, v.ownBlock = some g → lo ≤ g ∧ g < w.heap.size := by
  intro g hg
  rcases h.2 with ⟨e1, e2⟩ | ⟨g', cap, cur, hv, hb, hh, _⟩
  · rw [e1] at hg; cases hg
  · rw [hv] at hg
    have : g' = g := by simpa [Value.ownBlock] using hg
    subst this
    exact ⟨hb, lt_of_block hh⟩
theorem info_frame : (Tryz.prog.info? 27).map (fun i => (i.zero, i.size, i.bytes)) = some (some (.agg #[.int .u64 0, .string ⟨#[]⟩, .string ⟨#[]⟩]), 3, 40) := by kernel_rfl
theorem add_at (g j : Nat) : (⟨g, 0, none⟩ : Addr).add j = ⟨g, j, none⟩ := by unfold Addr.add; split <;> simp_all
theorem add_off (g o j : Nat) : (⟨g, o, none⟩ : Addr).add j = ⟨g, o + j, none⟩ := by unfold Addr.add; split <;> simp_all
/-- append(l, f). -/
theorem wpList_append_frame {w : World} {ops : Array Oper} {rest : List Oper} {o : Oper} {a : Act} {Q : Exit → Act → World → Prop} (hgd : o.guard = none) (s x : Operand)
    (ho : o.op = .call { callee := .builtin .append, args := #[s, x], argTypes := #[51, 51] }) (lo : Nat) (acc : List Fr) {v : Value} (hs : a.eval s = v) (hacc : FrO w lo v acc) (y : Fr)
    (g : Nat) (hx : a.eval x = .slice (some ⟨g, 0, none⟩) 1 1) (hg0 : w.cell? ⟨g, 0, none⟩ = some (.int .u64 y.id)) (hg1 : w.cell? ⟨g, 1, none⟩ = some (.string y.nm)) (hg2 : w.cell? ⟨g, 2, none⟩ = some (.string y.body))
    (hlen : acc.length ≤ 1000000) (hlo : lo ≤ w.heap.size)
    (hK : ∀ g' n' cap w', Hid (n' = (acc ++ [y]).length) → FrO w' lo (.slice (some ⟨g', 0, none⟩) n' cap) (acc ++ [y]) → w.grownBy w' v.ownBlock → lo ≤ g' → wpList Tryz.prog ops Q rest (a.put o.dst (.slice (some ⟨g', 0, none⟩) n' cap)) w') : wpList Tryz.prog ops Q (o :: rest) a w := by
  obtain ⟨i0, hi, hz0, hz1, hz2⟩ := info_parts info_frame
  refine wpList_append_lies w hgd s x 51 ho lo 27 i0 _ 3 40 Tryz.underlying51 hi hz0 hz1 hz2 rfl (by decide) v acc.length (fcs acc) hs hacc ⟨g, 0, none⟩ 1 1 (fcs [y]) hx rfl ?_ (by simp [fcs_one, Value.oneCell']) (by decide) (by simp only [maxLen]; omega) (by omega) hlo w.heap.size rfl ?_
  · intro j u hu
    rw [add_at]
    rw [fcs_one] at hu
    match j, hu with
    | 0, hu => simp at hu; subst hu; exact hg0
    | 1, hu => simp at hu; subst hu; exact hg1
    | 2, hu => simp at hu; subst hu; exact hg2
  · intro g' cap w' ho' hgr hat hlt
    have e : (acc ++ [y]).length = acc.length + 1 := by simp
    have hf : FrO w' lo (.slice (some ⟨g', 0, none⟩) (acc.length + 1) cap) (acc ++ [y]) := by rw [FrO, fcs_append, e]; exact ho'
    exact hK g' _ cap w' (Lib.hid e.symm) (by simpa using hf) hgr (hf.ge g' rfl).1
end Go.Proofs.YtebllmpdlapefaaGreatDoor
