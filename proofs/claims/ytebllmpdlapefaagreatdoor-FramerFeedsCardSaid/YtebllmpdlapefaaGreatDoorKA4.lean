/- Eight words in a block: read, written. -/
/- make([]byte, m, n): a Buf of m noughts with room. Own law; no program in sight. -/
/- The document's Mix: what lies in memory. -/
/- A drawn region whose operations only read, whose calls may make memory of their own: one walk, the class of worlds being 'what lies below stands'. No program in sight. -/
/- bits.Len64 and leb.Size. -/
/- The last place of four bytes: what the map of places tells is what the search tells. No program in sight. -/
/- The keys of the map of places. -/
import Derived.Test.YtebllmpdlapefaaGreatDoorKA16
import Derived.Test.YtebllmpdlapefaaGreatDoorKA1
import Derived.Deep.OwnRows
import Derived.Test.YtebllmpdlapefaaGreatDoorKA20
import Derived.Test.YtebllmpdlapefaaGreatDoorKA2
import Derived.Deep.Quiet
import Derived.Below
import Derived.Test.YtebllmpdlapefaaGreatDoorProg
import Derived.WalkSpells
import Derived.Shelf.Strconv.Itoa0
import Derived.Test.YtebllmpdlapefaaGreatDoorKA26
import Derived.Maps.OwnSet
import Derived.Maps.OwnOps
import Derived.Maps.Views
import Derived.DeepKeys5
namespace Go.Proofs.YtebllmpdlapefaaGreatDoor
set_option linter.unusedVariables false
set_option linter.unusedSimpArgs false
open Go.RowKit

theorem Blk.cells8 {W : World} {g : Nat} {u : Sh} (h : Blk W g 30 (shCells u)) :
    W.cell? ⟨g, 0, none⟩ = some (.int .u32 u.a) ∧ W.cell? ⟨g, 1, none⟩ = some (.int .u32 u.b) ∧ W.cell? ⟨g, 2, none⟩ = some (.int .u32 u.c) ∧ W.cell? ⟨g, 3, none⟩ = some (.int .u32 u.d) ∧
    W.cell? ⟨g, 4, none⟩ = some (.int .u32 u.e) ∧ W.cell? ⟨g, 5, none⟩ = some (.int .u32 u.f) ∧ W.cell? ⟨g, 6, none⟩ = some (.int .u32 u.g) ∧ W.cell? ⟨g, 7, none⟩ = some (.int .u32 u.h) :=
  ⟨h.cell 0, h.cell 1, h.cell 2, h.cell 3, h.cell 4, h.cell 5, h.cell 6, h.cell 7⟩
theorem Blk.free8 {W : World} {g : Nat} {u : Sh} (h : Blk W g 30 (shCells u)) :
    W.frozen? ⟨g, 0, none⟩ = false ∧ W.frozen? ⟨g, 1, none⟩ = false ∧ W.frozen? ⟨g, 2, none⟩ = false ∧ W.frozen? ⟨g, 3, none⟩ = false ∧ W.frozen? ⟨g, 4, none⟩ = false ∧ W.frozen? ⟨g, 5, none⟩ = false ∧ W.frozen? ⟨g, 6, none⟩ = false ∧ W.frozen? ⟨g, 7, none⟩ = false :=
  ⟨h.frozen 0, h.frozen 1, h.frozen 2, h.frozen 3, h.frozen 4, h.frozen 5, h.frozen 6, h.frozen 7⟩
theorem putRes_any {W : World} {g : Nat} {v : Sh} (u : Sh) (h : Blk W g 30 (shCells v)) : Blk (putRes W g u) g 30 (shCells u) := by
  have h8 := (((((((h.set 0 (.int .u32 u.a)).set 1 (.int .u32 u.b)).set 2 (.int .u32 u.c)).set 3 (.int .u32 u.d)).set 4 (.int .u32 u.e)).set 5 (.int .u32 u.f)).set 6 (.int .u32 u.g)).set 7 (.int .u32 u.h)
  unfold shCells at h8
  simp only [List.setIfInBounds_toArray, List.set_cons_zero, List.set_cons_succ] at h8
  exact h8
/-- The state, i blocks of the text having been mixed in. -/
structure SumInv (w : World) (B : Nat) (v : Sh) (s : ByteArray) (top : Nat) (at_ : Value) (wr : World) : Prop where
  ex : ∃ i a : Nat, a = 64 * i ∧ at_ = .int .i64 a ∧ a ≤ top ∧ Blk wr B 30 (shCells (shRun v s i)) ∧ Only [] w wr
theorem cells8_at (t : Sh) (k : Nat) (h : k < 8) : (shCells t)[k]? = some (.int .u32 (t.list.getD k 0 : Nat)) := by
  have h8 : k = 0 ∨ k = 1 ∨ k = 2 ∨ k = 3 ∨ k = 4 ∨ k = 5 ∨ k = 6 ∨ k = 7 := by omega
  rcases h8 with rfl | rfl | rfl | rfl | rfl | rfl | rfl | rfl <;> rfl
theorem Sh.ok_at {t : Sh} (h : t.ok) (k : Nat) : t.list.getD k 0 < 4294967296 := by
  obtain ⟨a, b, c, d, e, f, g, i⟩ := h
  have h8 : k = 0 ∨ k = 1 ∨ k = 2 ∨ k = 3 ∨ k = 4 ∨ k = 5 ∨ k = 6 ∨ k = 7 ∨ 8 ≤ k := by omega
  rcases h8 with rfl | rfl | rfl | rfl | rfl | rfl | rfl | rfl | h8
  · exact a
  · exact b
  · exact c
  · exact d
  · exact e
  · exact f
  · exact g
  · exact i
  · rw [List.getD_eq_getElem?_getD, List.getElem?_eq_none (by simp [Sh.list]; omega)]; simp
end Go.Proofs.YtebllmpdlapefaaGreatDoor
namespace Go.Proofs.YtebllmpdlapefaaGreatDoor
set_option linter.unusedVariables false
set_option linter.unusedSimpArgs false
open Go.RowKit

theorem made_list (n : Nat) : (madeCells #[Value.int .u8 0] n).toList = cb (List.replicate n 0) := by
  have := made_bytes n
  rw [Nat.mul_one] at this
  exact this
theorem made_size (n : Nat) : (madeCells #[Value.int .u8 0] n).size = n := by
  have := congrArg List.length (made_list n)
  rw [cb_length, List.length_replicate] at this
  simpa using this
theorem wpList_make_buf {P : Program} (w : World) {ops : Array Oper} {rest : List Oper} {o : Oper} {a : Act} {Q : Exit → Act → World → Prop}
    (hg : o.guard = none) (l c : Operand) (t : TypeId) (hop : o.op = Op.makeSlice t l c)
    (base : Nat) (e : TypeId) (i : TypeInfo) (ht : P.underlying t = some (.slice e)) (hi : P.info? e = some i) (hz : i.zero = some (.int .u8 0)) (hsize : i.size = 1) (hby : i.bytes = 1)
    (kl kc : IntKind) (m n : Nat) (hl : a.eval l = .int kl (m : Int)) (hc : a.eval c = .int kc (n : Int)) (hmn : m ≤ n) (hbytes : n ≤ 281474976710656) (hb : base ≤ w.heap.size)
    (hK : ∀ w', Buf w' base e (.slice (some ⟨w.heap.size, 0, none⟩) m n) (List.replicate m 0) → Kept e base w w' → Below w.heap.size w w' → wpList P ops Q rest (a.put o.dst (.slice (some ⟨w.heap.size, 0, none⟩) m n)) w') :
    wpList P ops Q (o :: rest) a w := by
  refine wpList_plain hg fun K hK' => ?_
  have hr := run_make (P := P) w t e i (.int .u8 0) ht hi hz kl kc m n (by omega) (by omega) (by rw [hby]; omega) (by omega)
  simp only [Int.toNat_natCast, hsize, Nat.mul_one] at hr
  have hbuf : Buf (w.alloc (.cells (madeCells #[Value.int .u8 0] n) e)) base e (.slice (some ⟨w.heap.size, 0, none⟩) m n) (List.replicate m 0) := by
    refine ⟨some ⟨w.heap.size, 0, none⟩, n, by rw [List.length_replicate], by rw [List.length_replicate]; exact hmn, by omega, .inr ⟨w.heap.size, madeCells #[Value.int .u8 0] n, (0, 0), rfl, hb, heap_alloc_new w _, made_size n, ?_, .inl rfl⟩⟩
    rw [List.length_replicate, made_list, ← cb_take, List.take_replicate, Nat.min_eq_left hmn]
  have hbl : Below w.heap.size w (w.alloc (.cells (madeCells #[Value.int .u8 0] n) e)) := (Below.refl _ w).alloc (Nat.le_refl _) _
  unfold Oper.wp
  simp [execOp, hop, hl, hc, hr, Result.andThen]
  exact hK' _ _ (hK _ hbuf (Kept.of_below hbl (Nat.le_refl _) hb) hbl)
end Go.Proofs.YtebllmpdlapefaaGreatDoor
namespace Go.Proofs.YtebllmpdlapefaaGreatDoor
set_option linter.unusedVariables false
set_option linter.unusedSimpArgs false
open Go.RowKit

/-- Words as cells. -/
def nu (l : List Nat) : Array Value := (l.map fun n => Value.int .u32 (n : Nat)).toArray
theorem nu_at (l : List Nat) (i : Nat) (h : i < l.length) : (nu l)[i]? = some (.int .u32 (l.getD i 0 : Nat)) := by
  simp [nu, List.getD_eq_getElem?_getD, List.getElem?_eq_getElem h]
theorem nu_set (l : List Nat) (i v : Nat) : (nu l).setIfInBounds i (.int .u32 (v : Nat)) = nu (l.set i v) := by
  simp [nu]
theorem made_words (n : Nat) : madeCells #[Value.int .u32 0] n = nu (List.replicate n 0) := by
  apply Array.ext'
  apply List.ext_getElem
  · simp [nu, madeCells]
  · intro i h1 h2
    simp [nu, madeCells, show i % 1 = 0 by omega]
theorem info_u32 : (Tryz.prog.info? 22).map (fun i => (i.zero, i.size, i.bytes)) = some (some (.int .u32 0), 1, 4) := by kernel_rfl
/-- The words so far. -/
def wl (blk : ByteArray) (k : Nat) : List Nat := (List.range 64).map fun j => if j < k then wAt blk j else 0
theorem wl_length (blk : ByteArray) (k : Nat) : (wl blk k).length = 64 := by simp [wl]
theorem wl_zero (blk : ByteArray) : wl blk 0 = List.replicate 64 0 := by
  apply List.ext_getElem
  · simp [wl]
  · intro i h1 h2
    rw [List.getElem_replicate]
    simp [wl]
theorem wl_get (blk : ByteArray) (k j : Nat) (hj : j < 64) : (wl blk k).getD j 0 = if j < k then wAt blk j else 0 := by
  rw [List.getD_eq_getElem?_getD, List.getElem?_eq_getElem (by rw [wl_length]; exact hj)]
  simp [wl]
theorem wl_step (blk : ByteArray) (k : Nat) (hk : k < 64) : (wl blk k).set k (wAt blk k) = wl blk (k + 1) := by
  apply List.ext_getElem
  · simp [wl]
  · intro i h1 h2
    have hi : i < 64 := by simpa [wl_length] using h2
    rw [List.getElem_set]
    by_cases e : k = i
    · subst e; simp [wl]
    · rw [if_neg e]
      simp only [wl, List.getElem_map, List.getElem_range]
      by_cases c : i < k
      · rw [if_pos c, if_pos (by omega)]
      · rw [if_neg c, if_neg (by omega)]
theorem Blk.word {w : World} {g : Nat} {t : TypeId} {blk : ByteArray} {k j : Nat} (h : Blk w g t (nu (wl blk k))) (hj : j < 64) (hjk : j < k) : w.cell? ⟨g, j, none⟩ = some (.int .u32 (wAt blk j : Nat)) := by
  have := (h.cell j).trans (nu_at _ j (by rw [wl_length]; exact hj))
  rw [wl_get blk k j hj, if_pos hjk] at this
  exact this
theorem Blk.wordAny {w : World} {g : Nat} {t : TypeId} {blk : ByteArray} {k j : Nat} (h : Blk w g t (nu (wl blk k))) (hj : j < 64) : ∃ v, w.cell? ⟨g, j, none⟩ = some v := ⟨_, (h.cell j).trans (nu_at _ j (by rw [wl_length]; exact hj))⟩
theorem Blk.putWord {w : World} {g : Nat} {t : TypeId} {blk : ByteArray} {k : Nat} (h : Blk w g t (nu (wl blk k))) (hk : k < 64) : Blk (w.setCell ⟨g, k, none⟩ (.int .u32 (wAt blk k : Nat))) g t (nu (wl blk (k + 1))) := by
  have := h.set k (.int .u32 (wAt blk k : Nat))
  rw [nu_set, wl_step blk k hk] at this
  exact this
theorem shMid_set (t s : Sh) (k : Nat) (h : k < 8) : (shCells (shMid k t s)).setIfInBounds k (.int .u32 ((t.list.getD k 0 + s.list.getD k 0) % 4294967296 : Nat)) = shCells (shMid (k + 1) t s) := by
  have h8 : k = 0 ∨ k = 1 ∨ k = 2 ∨ k = 3 ∨ k = 4 ∨ k = 5 ∨ k = 6 ∨ k = 7 := by omega
  rcases h8 with rfl | rfl | rfl | rfl | rfl | rfl | rfl | rfl <;> rfl
theorem shMid_at (t s : Sh) (k : Nat) (h : k < 8) : (shCells (shMid k t s))[k]? = some (.int .u32 (t.list.getD k 0 : Nat)) := by
  have h8 : k = 0 ∨ k = 1 ∨ k = 2 ∨ k = 3 ∨ k = 4 ∨ k = 5 ∨ k = 6 ∨ k = 7 := by omega
  rcases h8 with rfl | rfl | rfl | rfl | rfl | rfl | rfl | rfl <;> rfl
theorem shMid_end (t s : Sh) : shMid 8 t s = shAdd s t := by
  rw [shMid_8]
  unfold shAdd
  simp only [Nat.add_comm]
structure RM1 (W1 : World) (g : Nat) (blk : ByteArray) (i : Value) (wr : World) : Prop where
  ex : ∃ k : Nat, k ≤ 64 ∧ i = .int .i64 k ∧ Blk wr g 22 (nu (wl blk k)) ∧ Only [g] W1 wr
structure RM2 (W2 : World) (g : Nat) (blk : ByteArray) (s : Sh) (i : Value) (wr : World) : Prop where
  ex : ∃ k : Nat, k ≤ 64 ∧ i = .int .i64 k ∧ Blk wr g 30 (shCells (shRounds shK blk k s)) ∧ Only [g] W2 wr
structure RM3 (W3 : World) (g : Nat) (t s : Sh) (i : Value) (wr : World) : Prop where
  ex : ∃ k : Nat, k ≤ 8 ∧ i = .int .i64 k ∧ Blk wr g 30 (shCells (shMid k t s)) ∧ Only [g] W3 wr
end Go.Proofs.YtebllmpdlapefaaGreatDoor
namespace Go.Proofs.YtebllmpdlapefaaGreatDoor
set_option linter.unusedVariables false
set_option linter.unusedSimpArgs false
open Go Go.RowKit

section
variable {P : Program} {ops : Array Oper} {C : World → Prop} {Q : Act → Prop} {o : Oper} {rest : List Oper} {a : Act}
theorem wpQuiet_val (v : Value) (hg : Region.wanted o (yielded ops a.tmps) = true) (h : ∀ w, C w → o.quietAt P a C w v) (hn : wpQuiet P ops C Q rest (a.put o.dst v)) : wpQuiet P ops C Q (o :: rest) a := by
  unfold wpQuiet; rw [if_pos hg]; exact ⟨v, h, hn⟩
theorem wpQuiet_run (v : Value) (hg : Region.wanted o (yielded ops a.tmps) = true) (h : ∀ w, C w → (execOp a.eval o).run P w = .ok (.value v) w) (hn : wpQuiet P ops C Q rest (a.put o.dst v)) : wpQuiet P ops C Q (o :: rest) a :=
  wpQuiet_val v hg (fun w hw => by unfold Oper.quietAt; rw [h w hw]; exact ⟨rfl, rfl⟩) hn
theorem wpQuiet_callB {W : World} (f : FuncId) (args : Array Value) (v : Value) (hg : Region.wanted o (yielded ops a.tmps) = true) (ho : ∀ w, (execOp a.eval o).run P w = .ok (.enter f args) w)
    (hc : ∀ w, Below W.heap.size W w → Calls P f args w fun e w' => e = .returned v ∧ Below w.heap.size w w') (hn : wpQuiet P ops (fun w' => Below W.heap.size W w') Q rest (a.put o.dst v)) : wpQuiet P ops (fun w' => Below W.heap.size W w') Q (o :: rest) a :=
  wpQuiet_val v hg (fun w hw => by
    unfold Oper.quietAt; rw [ho w]
    exact ⟨rfl, (hc w hw).mono fun e w' ⟨he, hb⟩ => ⟨he, hw.trans (hb.mono hw.size)⟩⟩) hn
theorem wp_region_below {id : Nat} {Q : Exit → Act → World → Prop} {a : Act} {w : World} {l : List Oper} (hm : P.follows .mixedOrders = true) (hB : Region.lexB .any l.toArray = true)
    (h : wpQuiet P l.toArray (fun w' => Below w.heap.size w w') (fun a' => ∀ w', Below w.heap.size w w' → Q .normal a' w') l a) : (Code.region id l.toArray true).wp P Q a w :=
  wp_region_quiet (C := fun w' => Below w.heap.size w w') hm hB (Below.refl _ _).drew (by simpa using h)
theorem wp_region_below_tail {id : Nat} {Q : Exit → Act → World → Prop} {a : Act} {w : World} {l : List Oper} (n : Nat) (hm : P.follows .mixedOrders = true) (hB : Region.lexTailB .any l.toArray n = true)
    (h : wpQuiet P l.toArray (fun w' => Below w.heap.size w w') (fun a' => ∀ w', Below w.heap.size w w' → wpList P l.toArray Q (l.drop n) a' w') (l.take n) a) : (Code.region id l.toArray true).wp P Q a w := by
  simp only [Region.lexTailB, Bool.and_eq_true, decide_eq_true_eq] at hB
  obtain ⟨⟨⟨⟨hsel, hn⟩, hs⟩, hc⟩, hlex⟩ := hB
  have hn' : n < l.length := by simpa using hn
  have htl : (l.take n).length = n := by simp; omega
  have hdl : (l.drop n).length = l.toArray.size - n := by simp
  have inv0 : HeadInv .any l.toArray n (Array.replicate l.toArray.size false) :=
    ⟨by simp, fun j oj _ hl => (by rw [getD_replicate_false] at hl; cases hl), fun t _ ht => getD_in (by simpa using ht) (getD_replicate_false _ _)⟩
  have H := wpAnyQL_lex (md := .any) (g := l.toArray.size - n) hsel hs hc hn (l.take n) 0 _ a (fun j hj => by
    have hj' : j < n := by rw [htl] at hj; exact hj
    simp [hj']) (by simpa using htl) inv0 (by rw [htl]; exact hlex) h
  refine wp_region_any hm ?_
  have := wpAny_of_qhead (Q' := Q) (g := l.toArray.size - n) (fun listed a' w' hw' hL => by
    have := wpAny_of_seq (md := .any) (Q' := Q) (l.drop n) n listed a' w' (fun j => by simp [List.getElem?_drop]) (by rw [hdl]; exact hL.1) (hL.2 w' hw')
    rwa [hdl] at this) _ _ _ _ ((Below.refl _ _).drew) H
  rw [htl, show n + (l.toArray.size - n) = l.toArray.size by omega] at this
  exact this
end
end Go.Proofs.YtebllmpdlapefaaGreatDoor
namespace Go.Proofs.YtebllmpdlapefaaGreatDoor
set_option linter.unusedVariables false
set_option linter.unusedSimpArgs false
open Go.RowKit

/-- How many bits. -/
def blF : Nat → Nat → Nat
  | 0, _ => 0
  | f + 1, n => if n = 0 then 0 else blF f (n / 2) + 1
def bl (n : Nat) : Nat := blF 64 n
theorem blF_zero (f : Nat) : blF f 0 = 0 := by cases f <;> simp [blF]
theorem blF_more (f g n : Nat) (hf : n < 2 ^ f) (hg : n < 2 ^ g) : blF f n = blF g n := by
  induction f generalizing g n with
  | zero => simp at hf; subst hf; rw [blF_zero, blF_zero]
  | succ f ih =>
    by_cases h0 : n = 0
    · subst h0; rw [blF_zero, blF_zero]
    · cases g with
      | zero => simp at hg; omega
      | succ g => simp only [blF, if_neg h0]; rw [ih g (n / 2) (by rw [Nat.pow_succ] at hf; omega) (by rw [Nat.pow_succ] at hg; omega)]
theorem bl_half (n : Nat) (h0 : 0 < n) (h : n < 2 ^ 64) : bl n = bl (n / 2) + 1 := by
  unfold bl
  rw [show (64 : Nat) = 63 + 1 from rfl, blF, if_neg (by omega), blF_more 63 (63 + 1) (n / 2) (by omega) (by omega)]
theorem bl_shift (k n : Nat) (h : 2 ^ k ≤ n) (hn : n < 2 ^ 64) : bl n = bl (n / 2 ^ k) + k := by
  induction k generalizing n with
  | zero => simp
  | succ k ih =>
    have hp : 2 ^ (k + 1) = 2 ^ k * 2 := Nat.pow_succ ..
    have h1 : 0 < 2 ^ k := Nat.pow_pos (by omega)
    rw [bl_half n (by omega) hn, ih (n / 2) (by omega) (by omega), Nat.div_div_eq_div_mul, Nat.mul_comm 2, ← hp]
    omega
theorem bl_le (k n : Nat) (h : n < 2 ^ k) (hk : k ≤ 64) : bl n ≤ k := by
  unfold bl
  have h64 : n < 2 ^ 64 := Nat.lt_of_lt_of_le h (Nat.pow_le_pow_right (by omega) hk)
  rw [blF_more 64 k n h64 h]
  clear h64 h hk
  induction k generalizing n with
  | zero => simp [blF]
  | succ k ih => simp only [blF]; split; omega; have := ih (n / 2); omega
theorem bl_pos (n : Nat) (h0 : 0 < n) (h : n < 2 ^ 64) : 1 ≤ bl n := by rw [bl_half n h0 h]; omega
def lenRen : Go.Shelf.Ren := ⟨fun x => if x = 129 then 135 else x, fun x => if x = 3 then 3 else if x = 4 then 4 else if x = 5 then 5 else if x = 9 then 9 else if x = 46 then 158 else if x = 53 then 25 else x, fun x => x⟩
theorem lays129 : Go.Proofs.Lays.n129 Tryz.prog lenRen where
  mixed := by kernel_rfl
  f129 := by kernel_rfl
  t3 := by kernel_rfl
  a3 := fun _ => by kernel_rfl
  z3 := fun _ => by kernel_rfl
  v3 := fun _ => by kernel_rfl
  t4 := by kernel_rfl
  a4 := fun _ => by kernel_rfl
  z4 := fun _ => by kernel_rfl
  v4 := fun _ => by kernel_rfl
  t5 := by kernel_rfl
  a5 := fun _ => by kernel_rfl
  z5 := fun _ => by kernel_rfl
  v5 := fun _ => by kernel_rfl
  t9 := by kernel_rfl
  a9 := fun _ => by kernel_rfl
  z9 := fun _ => by kernel_rfl
  v9 := fun _ => by kernel_rfl
  t46 := by kernel_rfl
  a46 := fun _ => by kernel_rfl
  z46 := fun _ => by kernel_rfl
  v46 := fun _ => by kernel_rfl
  t53 := by kernel_rfl
  a53 := fun _ => by kernel_rfl
  z53 := fun _ => by kernel_rfl
  v53 := fun _ => by kernel_rfl
theorem bitLen_eq (n : Nat) : Lib.bitLen n = bl n := by
  unfold Lib.bitLen bl
  have h : ∀ f n, Lib.bitLenAux f n = blF f n := by
    intro f
    induction f with
    | zero => intro n; rfl
    | succ f ih => intro n; simp only [Lib.bitLenAux, blF, ih]; split <;> omega
  exact h 64 n
theorem len64_c (n : Nat) (w : World) (hn : n < 18446744073709551616) :
    Calls Tryz.prog 135 #[.int .u64 n] w fun e w' => e = .returned (.int .i64 (bl n)) ∧ w = w' := by
  have h : Calls Tryz.prog 135 #[.int .u64 n] w fun e w' => e = .returned (.int .i64 (Lib.bitLen (n : Int).toNat)) ∧ w' = w := Any.bits_Len64 lays129 n w (by omega) (by omega)
  exact h.mono fun e w' ⟨he, hw⟩ => ⟨by rw [he, Int.toNat_natCast, bitLen_eq], hw.symm⟩
end Go.Proofs.YtebllmpdlapefaaGreatDoor
namespace Go.Proofs.YtebllmpdlapefaaGreatDoor
set_option linter.unusedVariables false
set_option linter.unusedSimpArgs false

def gramEq (L : List UInt8) (a b : Nat) : Prop := L[a]? = L[b]? ∧ L[a + 1]? = L[b + 1]? ∧ L[a + 2]? = L[b + 2]? ∧ L[a + 3]? = L[b + 3]?
instance (L : List UInt8) (a b : Nat) : Decidable (gramEq L a b) := by unfold gramEq; infer_instance
theorem gramEq.symm {L : List UInt8} {a b : Nat} (h : gramEq L a b) : gramEq L b a := ⟨h.1.symm, h.2.1.symm, h.2.2.1.symm, h.2.2.2.symm⟩
theorem gramEq.trans {L : List UInt8} {a b c : Nat} (h : gramEq L a b) (k : gramEq L b c) : gramEq L a c := ⟨h.1.trans k.1, h.2.1.trans k.2.1, h.2.2.1.trans k.2.2.1, h.2.2.2.trans k.2.2.2⟩
/-- The last place ahead of n with the four bytes that stand at a. -/
def lastG (L : List UInt8) (a : Nat) : Nat → Option Nat
  | 0 => none
  | n + 1 => if n + 4 ≤ L.length ∧ gramEq L n a then some n else lastG L a n
theorem mt4 (L : List UInt8) (j i : Nat) (h : j < i) (hi : i ≤ L.length) : 4 ≤ mt L j i 64 ↔ i + 4 ≤ L.length ∧ gramEq L j i := by
  constructor
  · intro h4
    have hl := (mt_le L 64 j i).2 hi
    exact ⟨by omega, mt_at L 64 j i 0 (by omega), mt_at L 64 j i 1 (by omega), mt_at L 64 j i 2 (by omega), mt_at L 64 j i 3 (by omega)⟩
  · rintro ⟨hl, g0, g1, g2, g3⟩
    have e1 : mt L j i 64 = mt L (j + 4) (i + 4) 60 + 4 := by
      rw [mt, if_pos ⟨by omega, g0⟩, mt, if_pos ⟨by omega, g1⟩, mt, if_pos ⟨by omega, g2⟩, mt, if_pos ⟨by omega, g3⟩]
    omega
theorem fnd_none_short (L : List UInt8) (i : Nat) (hi : i ≤ L.length) (h : ¬ i + 4 ≤ L.length) : ∀ k, k ≤ i → fnd L i k = none := by
  intro k
  induction k with
  | zero => intro _; rfl
  | succ k ih =>
    intro hk
    rw [fnd, if_neg (by rw [mt4 L k i (by omega) hi]; exact fun hh => h hh.1)]
    exact ih (by omega)
theorem fnd_last (L : List UInt8) (i : Nat) (hi : i + 4 ≤ L.length) : ∀ k, k ≤ i → fnd L i k = lastG L i k := by
  intro k
  induction k with
  | zero => intro _; rfl
  | succ k ih =>
    intro hk
    rw [fnd, lastG, ih (by omega)]
    by_cases h : gramEq L k i
    · rw [if_pos ((mt4 L k i (by omega) (by omega)).2 ⟨hi, h⟩), if_pos ⟨by omega, h⟩]
    · rw [if_neg (fun hh => h ((mt4 L k i (by omega) (by omega)).1 hh).2), if_neg (fun hh => h hh.2)]
theorem lastG_lt (L : List UInt8) (a : Nat) : ∀ n j, lastG L a n = some j → j < n := by
  intro n
  induction n with
  | zero => intro j h; simp [lastG] at h
  | succ n ih =>
    intro j h
    rw [lastG] at h
    split at h
    · injection h with h; omega
    · have := ih j h; omega
theorem lastG_self (L : List UInt8) (a n : Nat) (h : n + 4 ≤ L.length) (hg : gramEq L n a) : lastG L a (n + 1) = some n := by rw [lastG, if_pos ⟨h, hg⟩]
theorem lastG_other (L : List UInt8) (a n : Nat) (h : ¬ (n + 4 ≤ L.length ∧ gramEq L n a)) : lastG L a (n + 1) = lastG L a n := by rw [lastG, if_neg h]
end Go.Proofs.YtebllmpdlapefaaGreatDoor
namespace Go.Proofs.YtebllmpdlapefaaGreatDoor
set_option linter.unusedVariables false
set_option linter.unusedSimpArgs false
open Go.RowKit Go.Maps

theorem laidOut : laidOutB Tryz.prog = true := by kernel_rfl
theorem keyLaw : Keyed Tryz.prog 164 := Keyed.of_law (deep_law_gate laidOut (of_decide_eq_true (by kernel_rfl)) (of_decide_eq_true (by kernel_rfl)) (by kernel_rfl) (by kernel_rfl))
theorem zeroInt (w : World) : (zeroValue 3).run Tryz.prog w = .ok (.int .i64 0) w := by kernel_rfl
theorem key4 (a b c d : UInt8) : ∃ l, keyOf Tryz.prog 164 (.agg #[.int .u8 a.toNat, .int .u8 b.toNat, .int .u8 c.toNat, .int .u8 d.toNat]) = some l := by
  have hwf : ∀ x : UInt8, (Lit.int .u8 (x.toNat : Int)).wf = true := by
    intro x
    have := x.toNat_lt
    simp [Lit.wf, IntKind.min, IntKind.max, IntKind.signed, IntKind.bits]
    omega
  have hk : (Tryz.prog.keyType 164) = true := by kernel_rfl
  have hc : Tryz.prog.cellsOf 164 = 4 := by kernel_rfl
  have hc1 : Tryz.prog.cellsOf 5 = 1 := by kernel_rfl
  obtain ⟨m, hm⟩ : ∃ m, Tryz.prog.types.size + 1 = m + 2 := ⟨Tryz.prog.types.size - 1, by have : 1 ≤ Tryz.prog.types.size := of_decide_eq_true (by kernel_rfl); omega⟩
  refine ⟨.string (keyBytes [.int .u8 a.toNat, .int .u8 b.toNat, .int .u8 c.toNat, .int .u8 d.toNat]), ?_⟩
  have h4 : List.range 4 = [0, 1, 2, 3] := rfl
  have hf : Value.formed Tryz.prog 164 (.agg #[.int .u8 a.toNat, .int .u8 b.toNat, .int .u8 c.toNat, .int .u8 d.toNat]) = true := by
    simp [Value.formed, Tryz.underlying164, hc]
  have hl : Tryz.prog.keyLits (m + 2) 164 [.int .u8 a.toNat, .int .u8 b.toNat, .int .u8 c.toNat, .int .u8 d.toNat] = some [.int .u8 a.toNat, .int .u8 b.toNat, .int .u8 c.toNat, .int .u8 d.toNat] := by
    simp [Program.keyLits, Tryz.underlying164, Tryz.underlying5, hc, hc1, h4, hwf]
  simp only [keyOf, Tryz.underlying164, hk, hf, hm]
  have : (Value.agg #[.int .u8 a.toNat, .int .u8 b.toNat, .int .u8 c.toNat, .int .u8 d.toNat]).cells.toList = [.int .u8 a.toNat, .int .u8 b.toNat, .int .u8 c.toNat, .int .u8 d.toNat] := rfl
  rw [this, hl]
  rfl

/-- The four bytes at a place, as the map's key. -/
def gv (L : List UInt8) (i : Nat) : Value := .agg #[.int .u8 (L.getD i 0).toNat, .int .u8 (L.getD (i + 1) 0).toNat, .int .u8 (L.getD (i + 2) 0).toNat, .int .u8 (L.getD (i + 3) 0).toNat]
theorem gv_key (L : List UInt8) (i : Nat) : ∃ l, keyOf Tryz.prog 164 (gv L i) = some l := key4 _ _ _ _
noncomputable def gl (L : List UInt8) (i : Nat) : Lit := (gv_key L i).choose
theorem gl_key (L : List UInt8) (i : Nat) : keyOf Tryz.prog 164 (gv L i) = some (gl L i) := (gv_key L i).choose_spec
theorem getD_at (L : List UInt8) (a b : Nat) (ha : a < L.length) (hb : b < L.length) : (L.getD a 0).toNat = (L.getD b 0).toNat ↔ L[a]? = L[b]? := by
  rw [List.getD_eq_getElem?_getD, List.getD_eq_getElem?_getD, List.getElem?_eq_getElem ha, List.getElem?_eq_getElem hb]
  simp [UInt8.toNat_inj]
theorem gl_eq (L : List UInt8) (a b : Nat) (ha : a + 4 ≤ L.length) (hb : b + 4 ≤ L.length) : gl L a = gl L b ↔ gramEq L a b := by
  constructor
  · intro h
    have h1 := gl_key L a
    rw [h] at h1
    have h2 := keyLaw.inj h1 (gl_key L b)
    unfold gv at h2
    injection h2 with h2
    simp only [Array.mk.injEq, List.cons.injEq, Value.int.injEq, true_and, and_true, Int.natCast_inj] at h2
    exact ⟨(getD_at L _ _ (by omega) (by omega)).1 h2.1, (getD_at L _ _ (by omega) (by omega)).1 h2.2.1, (getD_at L _ _ (by omega) (by omega)).1 h2.2.2.1, (getD_at L _ _ (by omega) (by omega)).1 h2.2.2.2⟩
  · intro h
    have e : gv L a = gv L b := by
      unfold gv
      rw [(getD_at L _ _ (by omega) (by omega)).2 h.1, (getD_at L _ _ (by omega) (by omega)).2 h.2.1, (getD_at L _ _ (by omega) (by omega)).2 h.2.2.1, (getD_at L _ _ (by omega) (by omega)).2 h.2.2.2]
    have h1 := gl_key L a
    rw [e, gl_key L b] at h1
    exact (Option.some.inj h1).symm
/-- What the map tells of the places ahead of n. -/
def MI (L : List UInt8) (D : DataW Unit) (n : Nat) : Prop := IsMap D ∧ ∀ a, a + 4 ≤ L.length →
  (∀ j, lastG L a n = some j → Maps.has D (gl L a) = true ∧ D.atKey (gl L a) (.lit (.int .i64 0)) = .lit (.int .i64 j)) ∧ (lastG L a n = none → Maps.has D (gl L a) = false)
theorem MI.start (L : List UInt8) : MI L (.map []) 0 := ⟨⟨[], rfl⟩, fun a _ => ⟨fun j h => by simp [lastG] at h, fun _ => rfl⟩⟩
theorem MI.skip {L : List UInt8} {D : DataW Unit} {n : Nat} (h : MI L D n) (hn : ¬ n + 4 ≤ L.length) : MI L D (n + 1) := by
  refine ⟨h.1, fun a ha => ?_⟩
  rw [lastG_other L a n (fun hh => hn hh.1)]
  exact h.2 a ha
theorem MI.put {L : List UInt8} {D : DataW Unit} {n : Nat} (h : MI L D n) (hn : n + 4 ≤ L.length) : MI L (D.put (gl L n) (.lit (.int .i64 n))) (n + 1) := by
  have hk : WideAt.IsKeyLit (gl L n) := keyLaw.key (gl_key L n)
  refine ⟨h.1.put _ _, fun a ha => ?_⟩
  by_cases hg : gramEq L n a
  · have e : gl L a = gl L n := ((gl_eq L n a hn ha).2 hg).symm
    rw [lastG_self L a n hn hg, e]
    refine ⟨fun j hj => ?_, fun hh => by cases hh⟩
    injection hj with hj
    subst hj
    exact ⟨has_put_same h.1 hk _, atKey_put_same h.1 hk _ _⟩
  · rw [lastG_other L a n (fun hh => hg hh.2)]
    have hne : gl L a ≠ gl L n := fun e => hg ((gl_eq L n a hn ha).1 e.symm)
    rw [has_put_other hne, atKey_put_other hne]
    exact h.2 a ha
end Go.Proofs.YtebllmpdlapefaaGreatDoor
