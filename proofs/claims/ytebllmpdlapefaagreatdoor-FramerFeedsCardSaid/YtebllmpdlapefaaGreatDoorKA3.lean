/- sha.mix: the eight boxes of its words, made and filled in an order that is drawn. -/
/- A region that only reads, inside a round of a range over a function. Own law; no program in sight. -/
/- A region that only reads, inside a round of a range over a function, under the wide fence: by the plain lexical walk. Own law; no program in sight. -/
import Derived.Test.YtebllmpdlapefaaGreatDoorKA15
import Derived.Test.YtebllmpdlapefaaGreatDoorKA1
import Derived.Test.YtebllmpdlapefaaGreatDoorKA2
import Derived.BigRegion
import Derived.Laws.EntriesVeiled
import Derived.Test.YtebllmpdlapefaaGreatDoorKA14
import Derived.Sort.QuietIn
import Derived.Deep.QuietTactic
import Derived.BigQuiet
namespace Go.Proofs.YtebllmpdlapefaaGreatDoor
set_option linter.unusedVariables false
set_option linter.unusedSimpArgs false
open Go.RowKit Go.Shelf

def shAgg (s : Sh) : Value := .agg #[.int .u32 s.a, .int .u32 s.b, .int .u32 s.c, .int .u32 s.d, .int .u32 s.e, .int .u32 s.f, .int .u32 s.g, .int .u32 s.h]
/-- The frame, some of whose slots are told by x. -/
def mixFr (s : Sh) (blk : ByteArray) (b : Nat) (x : Nat → Value) : Act := { tmps := #[shAgg s, .string blk, .pointer (some ⟨b, 0, none⟩), undef, .pointer (some ⟨b + 1, 0, none⟩), .pointer (some ⟨b + 1 + 1, 0, none⟩), x 6, x 7, x 8, x 9, x 10, x 11, x 12, x 13, undef, undef, undef, undef, undef, undef, undef, undef, x 22, x 23, x 24, x 25, x 26, x 27, x 28, x 29, x 30, x 31, x 32, x 33, x 34, x 35, x 36, x 37, undef, undef, undef, undef, undef, undef, undef, undef, undef, undef, undef, undef, undef, undef, undef, undef, undef, undef, undef, undef, undef, undef, undef, undef, undef, undef, undef, undef, undef, undef, undef, undef, undef, undef, undef, undef, undef, undef, undef, undef, undef, undef, undef, undef, undef, undef, undef, undef, undef, undef, undef, undef, undef, undef, undef, undef, undef, undef, undef, undef, undef, undef, undef, undef, undef, undef, undef, undef, undef, undef, undef, undef], defers := [] }
def upd (x : Nat → Value) (k : Nat) (v : Value) : Nat → Value := fun i => if i = k then v else x i
def u32v (n : Nat) : Value := .int .u32 n
/-- What is known once these operations are done: the addresses, the words, the boxes, what lies in them. -/
structure MJ (W : World) (listed : Array Bool) (x : Nat → Value) (b m : Nat) (s : Sh) (q : Nat → Nat) (w : World) : Prop where
  sz : listed.size = 32
  ad : ∀ j, j < 8 → listed.getD (2 * j) false = true → x (22 + 2 * j) = .pointer (some ⟨b, j, none⟩)
  ld : ∀ j, j < 8 → listed.getD (2 * j + 1) false = true → x (23 + 2 * j) = u32v (s.list.getD j 0)
  al : ∀ j, j < 8 → listed.getD (16 + j) false = true → x (6 + j) = .pointer (some ⟨W.heap.size + q j, 0, none⟩) ∧ q j < m ∧ Blk w (W.heap.size + q j) 22 #[u32v (if listed.getD (24 + j) false = true then s.list.getD j 0 else 0)]
  ne : ∀ i j, i < 8 → j < 8 → listed.getD (16 + i) false = true → listed.getD (16 + j) false = true → i ≠ j → q i ≠ q j
  st : ∀ j, j < 8 → listed.getD (24 + j) false = true → listed.getD (16 + j) false = true
  hz : w.heap.size = W.heap.size + m
  bl : Below W.heap.size W w
theorem MJ.start (W : World) (x : Nat → Value) (b : Nat) (s : Sh) (q : Nat → Nat) : MJ W (Array.replicate 32 false) x b 0 s q W where
  sz := by simp
  ad := fun j _ h => by rw [getD_replicate_false] at h; cases h
  ld := fun j _ h => by rw [getD_replicate_false] at h; cases h
  al := fun j _ h => by rw [getD_replicate_false] at h; cases h
  ne := fun i j _ _ h => by rw [getD_replicate_false] at h; cases h
  st := fun j _ h => by rw [getD_replicate_false] at h; cases h
  hz := rfl
  bl := Below.refl _ _
variable {W w : World} {listed : Array Bool} {x : Nat → Value} {b m : Nat} {s : Sh} {q : Nat → Nat}
theorem MJ.addr (h : MJ W listed x b m s q w) (j : Nat) (hj : j < 8) : MJ W (listed.setIfInBounds (2 * j) true) (upd x (22 + 2 * j) (.pointer (some ⟨b, j, none⟩))) b m s q w where
  sz := by simp [h.sz]
  ad := by
    intro i hi hl
    unfold upd
    by_cases e : i = j
    · subst e; simp
    · rw [if_neg (by omega)]
      rcases listed_or hl with h1 | h1
      · omega
      · exact h.ad i hi h1
  ld := by
    intro i hi hl
    unfold upd
    rw [if_neg (by omega)]
    rcases listed_or hl with h1 | h1
    · omega
    · exact h.ld i hi h1
  al := by
    intro i hi hl
    unfold upd
    rw [if_neg (by omega), listed_far (by omega)]
    rw [listed_far (by omega)] at hl
    exact h.al i hi hl
  ne := by
    intro i k hi hk h1 h2
    rw [listed_far (by omega)] at h1 h2
    exact h.ne i k hi hk h1 h2
  st := by
    intro i hi h1
    rw [listed_far (by omega)] at h1 ⊢
    exact h.st i hi h1
  hz := h.hz
  bl := h.bl
theorem MJ.load (h : MJ W listed x b m s q w) (j : Nat) (hj : j < 8) : MJ W (listed.setIfInBounds (2 * j + 1) true) (upd x (23 + 2 * j) (u32v (s.list.getD j 0))) b m s q w where
  sz := by simp [h.sz]
  ad := by
    intro i hi hl
    unfold upd
    rw [if_neg (by omega)]
    rcases listed_or hl with h1 | h1
    · omega
    · exact h.ad i hi h1
  ld := by
    intro i hi hl
    unfold upd
    by_cases e : i = j
    · subst e; simp
    · rw [if_neg (by omega)]
      rcases listed_or hl with h1 | h1
      · omega
      · exact h.ld i hi h1
  al := by
    intro i hi hl
    unfold upd
    rw [if_neg (by omega), listed_far (by omega)]
    rw [listed_far (by omega)] at hl
    exact h.al i hi hl
  ne := by
    intro i k hi hk h1 h2
    rw [listed_far (by omega)] at h1 h2
    exact h.ne i k hi hk h1 h2
  st := by
    intro i hi h1
    rw [listed_far (by omega)] at h1 ⊢
    exact h.st i hi h1
  hz := h.hz
  bl := h.bl
theorem MJ.alloc (h : MJ W listed x b m s q w) (j : Nat) (hj : j < 8) (hun : listed.getD (16 + j) false = false) : MJ W (listed.setIfInBounds (16 + j) true) (upd x (6 + j) (.pointer (some ⟨w.heap.size, 0, none⟩))) b (m + 1) s (fun i => if i = j then m else q i) (w.alloc (.cells #[.int .u32 0] 22)) where
  sz := by simp [h.sz]
  ad := by
    intro i hi hl
    unfold upd
    rw [if_neg (by omega)]
    rcases listed_or hl with h1 | h1
    · omega
    · exact h.ad i hi h1
  ld := by
    intro i hi hl
    unfold upd
    rw [if_neg (by omega)]
    rcases listed_or hl with h1 | h1
    · omega
    · exact h.ld i hi h1
  al := by
    intro i hi hl
    unfold upd
    rw [listed_far (by omega)]
    by_cases e : i = j
    · subst e
      have hnot : ¬ listed.getD (24 + i) false = true := fun h2 => by rw [h.st i hi h2] at hun; cases hun
      rw [if_pos rfl, if_pos rfl, if_neg hnot, h.hz]
      refine ⟨rfl, by omega, ?_⟩
      have := Blk.new w 22 #[.int .u32 0]
      rw [h.hz] at this
      exact this
    · rw [if_neg (by omega), if_neg e]
      rcases listed_or hl with h1 | h1
      · omega
      · obtain ⟨a1, a2, a3⟩ := h.al i hi h1; exact ⟨a1, by omega, a3.alloc _⟩
  ne := by
    intro i k hi hk h1 h2 hik
    by_cases e : i = j
    · subst e
      rw [if_pos rfl, if_neg (Ne.symm hik)]
      rcases listed_or h2 with h2 | h2
      · omega
      · have := (h.al k hk h2).2.1; omega
    · rw [if_neg e]
      rcases listed_or h1 with h1 | h1
      · omega
      by_cases e2 : k = j
      · rw [if_pos e2]
        have := (h.al i hi h1).2.1; omega
      · rw [if_neg e2]
        rcases listed_or h2 with h2 | h2
        · omega
        exact h.ne i k hi hk h1 h2 hik
  st := by
    intro i hi h1
    rw [listed_far (by omega)] at h1
    exact getD_set_true (h.st i hi h1)
  hz := by simp [h.hz]; omega
  bl := h.bl.alloc (by have := h.hz; omega) _
theorem MJ.store (h : MJ W listed x b m s q w) (j : Nat) (hj : j < 8) (hal : listed.getD (16 + j) false = true) : MJ W (listed.setIfInBounds (24 + j) true) x b m s q (w.setCell ⟨W.heap.size + q j, 0, none⟩ (u32v (s.list.getD j 0))) where
  sz := by simp [h.sz]
  ad := by
    intro i hi hl
    rw [listed_far (by omega)] at hl
    exact h.ad i hi hl
  ld := by
    intro i hi hl
    rw [listed_far (by omega)] at hl
    exact h.ld i hi hl
  al := by
    intro i hi hl
    rw [listed_far (by omega)] at hl
    obtain ⟨a1, a2, a3⟩ := h.al i hi hl
    refine ⟨a1, a2, ?_⟩
    by_cases e : i = j
    · subst e
      rw [if_pos (listed_new (by rw [h.sz]; omega))]
      have := a3.set 0 (u32v (s.list.getD i 0))
      simpa using this
    · rw [listed_far (by omega)]
      exact a3.far (by have := h.ne i j hi hj hl hal e; simp; omega) _
  ne := by
    intro i k hi hk h1 h2
    rw [listed_far (by omega)] at h1 h2
    exact h.ne i k hi hk h1 h2
  st := by
    intro i hi h1
    rw [listed_far (by omega)]
    rcases listed_or h1 with h1 | h1
    · obtain rfl : i = j := by omega
      exact hal
    · exact h.st i hi h1
  hz := by simp [World.setCell, h.hz]
  bl := h.bl.setCell (by simp) _
/-- What holds while the region's operations are carried out. -/
def MixI (s : Sh) (blk : ByteArray) (b : Nat) (W : World) (listed : Array Bool) (a : Act) (w : World) : Prop := ∃ x m q, a = mixFr s blk b x ∧ MJ W listed x b m s q w
end Go.Proofs.YtebllmpdlapefaaGreatDoor
namespace Go.Proofs.YtebllmpdlapefaaGreatDoor
set_option linter.unusedVariables false
set_option linter.unusedSimpArgs false
open Go

def noDefer (l : List Oper) : Bool := l.all fun o => match o.op with | .defer _ => false | _ => true
theorem noDefer_at {l : List Oper} (h : noDefer l = true) {i : Nat} {o : Oper} (ho : l.toArray[i]? = some o) : ∀ c, o.op ≠ .defer c := by
  intro c hc
  have hm : o ∈ l := by simpa using Array.mem_of_getElem? ho
  have := List.all_eq_true.1 h o hm
  rw [hc] at this
  cases this
theorem wpOpIn_inRound {F : Fence} {n : Nat} {P : Program} {l : List Oper} {Q : Exit → Act → World → Prop} {i k : Nat} {K : Act → World → Prop} {a : Act} {w : World} (hro : F.round = none) (hnd : noDefer l = true) (h : wpOpIn F n P l.toArray Q i K a w) : wpOpIn (F.inRound k) n P l.toArray Q i K a w := by
  unfold wpOpIn at h ⊢
  split
  · rename_i ho; simp only [ho] at h; exact h
  · rename_i o ho
    simp only [ho] at h
    split
    · rename_i hw
      simp only [hw, if_true] at h
      unfold Oper.wpIn at h ⊢
      rw [hro, Oper.semAt_none] at h
      rw [Fence.inRound_round, Oper.semAt_some _ _ _ (noDefer_at hnd ho)]
      exact h
    · rename_i hw
      simp only [hw, if_false] at h
      exact h
theorem wpAnyIn_inRound {F : Fence} {n : Nat} {P : Program} {l : List Oper} {Q : Exit → Act → World → Prop} {md : Region.Mode} (k : Nat) (hro : F.round = none) (hnd : noDefer l = true) : ∀ (fuel : Nat) (listed : Array Bool) (a : Act) (w : World), wpAnyIn F n P md l.toArray Q fuel listed a w → wpAnyIn (F.inRound k) n P md l.toArray Q fuel listed a w
  | 0, _, _, _, h => h
  | fuel + 1, listed, a, w, h => ⟨h.1, fun i hi => wpOpIn_mono (fun a w => wpAnyIn_inRound k hro hnd fuel _ a w) (wpOpIn_inRound hro hnd (h.2 i hi))⟩
theorem wpIn_region_quiet_round {F : Fence} {n : Nat} {P : Program} {id : Nat} {Q : Exit → Act → World → Prop} {a : Act} {w : World} {l : List Oper} (k : Nat) (hro : F.round = none) (hm : P.follows .mixedOrders = true) (hB : Region.lexB .any l.toArray = true) (hnd : noDefer l = true)
    (h : wpQuietIn F n P l.toArray (fun w' => ∃ n, w' = w.drewN n) (fun a' => ∀ w', (∃ n, w' = w.drewN n) → Q .normal a' w') l a) : (Code.region id l.toArray true).wpIn (F.inRound k) n P Q a w := by
  simp only [Region.lexB, Bool.and_eq_true] at hB
  refine wpIn_region_any hm (wpAnyIn_inRound k hro hnd _ _ _ _ (wpAnyIn_of_quiet (C := fun w' => ∃ n, w' = w.drewN n) (Q := fun a' => ∀ w', (∃ n, w' = w.drewN n) → Q .normal a' w') hro (fun _ w' hw' h => h w' hw') _ _ _ _ ⟨1, rfl⟩ ?_))
  have := wpAnyQIn_lex (F := F) (n := n) (C := fun w' => ∃ n, w' = w.drewN n) (md := .any) hB.1 l.toArray.toList 0 (Array.replicate l.toArray.size false) a (by simp) (by simpa using hB.2) (by simpa using h)
  simpa using this
end Go.Proofs.YtebllmpdlapefaaGreatDoor
namespace Go.Proofs.YtebllmpdlapefaaGreatDoor
set_option linter.unusedVariables false
set_option linter.unusedSimpArgs false
open Go

theorem quietIn_wide {n : Nat} {P : Program} {C : World → Prop} {o : Oper} {a : Act} {K K' : Act → Prop} (hK : ∀ a, K a → K' a) (h : o.quiet P a C K) : o.quietIn Fence.wide n P a C K' := by
  obtain ⟨v, h1, h2⟩ := h
  refine ⟨v, fun w hw => ?_, hK _ h2⟩
  have h3 := h1 w hw
  unfold Oper.quietAt at h3
  unfold Oper.quietAtIn
  generalize (execOp a.eval o).run P w = r at *
  cases r with
  | ok x w' =>
    cases x <;> simp only [Oper.quietUpon] at h3 <;> simp only [Oper.quietUponIn]
    case value u => exact h3
    case skip => exact h3
    case enter f args => exact ⟨h3.1, (fun h => by cases h), callsIn_wide.2 h3.2⟩
  | halt x w' => simp only [Oper.quietUpon] at h3
theorem wpQuietIn_wide {n : Nat} {P : Program} {ops : Array Oper} {C : World → Prop} {Q : Act → Prop} : ∀ (l : List Oper) (a : Act), wpQuiet P ops C Q l a → wpQuietIn Fence.wide n P ops C Q l a
  | [], _, h => h
  | o :: rest, a, h => by
    refine ⟨fun _ _ _ _ => trivial, ?_⟩
    unfold wpQuiet at h
    split
    · rename_i hw
      rw [if_pos hw] at h
      exact quietIn_wide (fun a' h' => wpQuietIn_wide rest a' h') h
    · rename_i hw
      rw [if_neg hw] at h
      exact wpQuietIn_wide rest _ h
theorem wpIn_region_quiet_roundW {n : Nat} {P : Program} {id : Nat} {Q : Exit → Act → World → Prop} {a : Act} {w : World} {l : List Oper} (k : Nat) (hm : P.follows .mixedOrders = true) (hB : Region.lexB .any l.toArray = true) (hnd : noDefer l = true)
    (h : wpQuiet P l.toArray (fun w' => ∃ n, w' = w.drewN n) (fun a' => ∀ n, Q .normal a' (w.drewN n)) l a) : (Code.region id l.toArray true).wpIn (Fence.wide.inRound k) n P Q a w := by
  refine wpIn_region_quiet_round k rfl hm hB hnd (wpQuietIn_wide _ _ ?_)
  have e : (fun a' => ∀ w', (∃ n, w' = w.drewN n) → Q .normal a' w') = (fun a' => ∀ n, Q .normal a' (w.drewN n)) := by
    funext a'
    exact propext ⟨fun h n => h _ ⟨n, rfl⟩, fun h w' ⟨n, hn⟩ => hn ▸ h n⟩
  rw [e]; exact h
end Go.Proofs.YtebllmpdlapefaaGreatDoor
