/- A framer in memory. -/
/- Rows of frames that grow inside a round of a range over a function. -/
/- A key stored into a new block; a struct loaded in a quiet walk. -/
/- Two frames compared by '=='. -/
/- A row of frames, and a row of strings, that came in as an argument. -/
/- The example's config and frame. -/
import Derived.Test.YtebllmpdlapefaaGreatDoorKA7
import Derived.Test.YtebllmpdlapefaaGreatDoorKA33
import Derived.Test.YtebllmpdlapefaaGreatDoorKA5
import Derived.RangeFuncNested
import Derived.OwnWalkIn
import Derived.Test.YtebllmpdlapefaaGreatDoorKA20
import Derived.Test.YtebllmpdlapefaaGreatDoorKA1
import Derived.Deep.Quiet
import Derived.Laws.Rows
import Derived.Laws.StructEq
import Derived.SliceStrings
namespace Go.Proofs.YtebllmpdlapefaaGreatDoor
set_option linter.unusedVariables false
set_option linter.unusedSimpArgs false
open Go.RowKit

/-- The cells of a framer. -/
def frmC (c : Cfg) (bv : Value) (nd : Nat) (fault : Int) (laid told : Nat) : Array Value := #[.int .i64 c.fm, .int .u32 c.mg, .int .i64 c.fr, .int .i64 c.un, .int .i64 c.de, .int .i64 c.it, bv, .int .i64 nd, .int .i64 fault, .int .i64 laid, .int .i64 told]
abbrev FrB (w : World) (g : Nat) (c : Cfg) (bv : Value) (nd : Nat) (fault : Int) (laid told : Nat) : Prop := Blk w g 112 (frmC c bv nd fault laid told)
theorem FrB.cells {w : World} {g : Nat} {c : Cfg} {bv : Value} {nd : Nat} {fault : Int} {laid told : Nat} (h : FrB w g c bv nd fault laid told) :
    w.cell? ⟨g, 0, none⟩ = some (.int .i64 c.fm) ∧ w.cell? ⟨g, 1, none⟩ = some (.int .u32 c.mg) ∧ w.cell? ⟨g, 2, none⟩ = some (.int .i64 c.fr) ∧ w.cell? ⟨g, 3, none⟩ = some (.int .i64 c.un) ∧ w.cell? ⟨g, 4, none⟩ = some (.int .i64 c.de) ∧ w.cell? ⟨g, 5, none⟩ = some (.int .i64 c.it) := ⟨h.cell 0, h.cell 1, h.cell 2, h.cell 3, h.cell 4, h.cell 5⟩
theorem FrB.parts {w : World} {g : Nat} {c : Cfg} {bv : Value} {nd : Nat} {fault : Int} {laid told : Nat} (h : FrB w g c bv nd fault laid told) :
    w.cell? ⟨g, 6, none⟩ = some bv ∧ w.cell? ⟨g, 7, none⟩ = some (.int .i64 nd) ∧ w.cell? ⟨g, 8, none⟩ = some (.int .i64 fault) ∧ w.cell? ⟨g, 9, none⟩ = some (.int .i64 laid) ∧ w.cell? ⟨g, 10, none⟩ = some (.int .i64 told) := ⟨h.cell 6, h.cell 7, h.cell 8, h.cell 9, h.cell 10⟩
theorem FrB.froz {w : World} {g : Nat} {c : Cfg} {bv : Value} {nd : Nat} {fault : Int} {laid told : Nat} (h : FrB w g c bv nd fault laid told) :
    w.frozen? ⟨g, 6, none⟩ = false ∧ w.frozen? ⟨g, 7, none⟩ = false ∧ w.frozen? ⟨g, 8, none⟩ = false ∧ w.frozen? ⟨g, 9, none⟩ = false ∧ w.frozen? ⟨g, 10, none⟩ = false := ⟨h.frozen 6, h.frozen 7, h.frozen 8, h.frozen 9, h.frozen 10⟩
theorem FrB.setBuf {w : World} {g : Nat} {c : Cfg} {bv : Value} {nd : Nat} {fault : Int} {laid told : Nat} (h : FrB w g c bv nd fault laid told) (v : Value) : FrB (w.setCell ⟨g, 6, none⟩ v) g c v nd fault laid told := h.store rfl
theorem FrB.setNeed {w : World} {g : Nat} {c : Cfg} {bv : Value} {nd : Nat} {fault : Int} {laid told : Nat} (h : FrB w g c bv nd fault laid told) (n : Nat) : FrB (w.setCell ⟨g, 7, none⟩ (.int .i64 n)) g c bv n fault laid told := h.store rfl
theorem FrB.setFault {w : World} {g : Nat} {c : Cfg} {bv : Value} {nd : Nat} {fault : Int} {laid told : Nat} (h : FrB w g c bv nd fault laid told) (e : Int) : FrB (w.setCell ⟨g, 8, none⟩ (.int .i64 e)) g c bv nd e laid told := h.store rfl
theorem FrB.setLaid {w : World} {g : Nat} {c : Cfg} {bv : Value} {nd : Nat} {fault : Int} {laid told : Nat} (h : FrB w g c bv nd fault laid told) (n : Nat) : FrB (w.setCell ⟨g, 9, none⟩ (.int .i64 n)) g c bv nd fault n told := h.store rfl
theorem FrB.setTold {w : World} {g : Nat} {c : Cfg} {bv : Value} {nd : Nat} {fault : Int} {laid told : Nat} (h : FrB w g c bv nd fault laid told) (n : Nat) : FrB (w.setCell ⟨g, 10, none⟩ (.int .i64 n)) g c bv nd fault laid n := h.store rfl
/-- With fewer bytes than are needed what is buffered is short. -/
def Needs (c : Cfg) (b : ByteArray) (nd : Nat) : Prop := ∀ T : ByteArray, (b ++ T).size < nd → (wNext c (b ++ T)).1 = 2
theorem Needs.zero (c : Cfg) (b : ByteArray) : Needs c b 0 := fun T h => absurd h (by omega)
theorem Needs.here {c : Cfg} {b : ByteArray} {nd : Nat} (h : Needs c b nd) (hn : b.size < nd) : (wNext c b).1 = 2 := by
  have := h ByteArray.empty (by rw [app_none]; exact hn)
  rwa [app_none] at this
theorem Needs.more {c : Cfg} {b : ByteArray} {nd : Nat} (h : Needs c b nd) (s : ByteArray) : Needs c (b ++ s) nd := fun T hT => by
  have e : b ++ s ++ T = b ++ (s ++ T) := bytes_ext (by simp only [toList_app, List.append_assoc])
  rw [e] at hT ⊢
  exact h _ hT
theorem Needs.of {c : Cfg} (hr : c.right = true) {b : ByteArray} (h : (wNext c b).1 = 2) : Needs c b (wNeed c b) := fun T hT => by
  rw [wNext_right hr] at h ⊢
  exact wNeed_short c b T h hT
/-- What a value owns lies in a list. -/
theorem own_toList {v : Value} {k : Nat} : k ∈ v.ownBlock.toList ↔ v.ownBlock = some k := by simp
theorem GrB.only {a b : World} {v v' : Value} (h : GrB a b v v') : Only v.ownBlock.toList a b := Only.of_grown h.grown
theorem Buf.only2 {w w' : World} {base : Nat} {E : TypeId} {v : Value} {l : List UInt8} {L : List Nat} (h : Buf w base E v l) (ho : Only L w w') (hL : ∀ k, v.ownBlock = some k → k ∉ L) : Buf w' base E v l := h.keep fun k hk e => ho.block k hk (hL k e)
end Go.Proofs.YtebllmpdlapefaaGreatDoor
namespace Go.Proofs.YtebllmpdlapefaaGreatDoor
set_option linter.unusedVariables false
set_option linter.unusedSimpArgs false
open Go.RowKit

theorem FrO.grown {w w' : World} {lo : Nat} {v : Value} {l : List Fr} {row : Option Nat} (h : FrO w lo v l) (hg : w.grownBy w' row) (hr : ∀ r, row = some r → r < lo ∨ ∃ o : Obj, w.heap[r]? = some o ∧ o.isCells = false) : FrO w' lo v l := by
  refine ⟨h.1, ?_⟩
  rcases h.2 with h2 | ⟨g, cap, cur, hv, hb, hh, r⟩
  · exact .inl h2
  · refine .inr ⟨g, cap, cur, hv, hb, (hg.block g (lt_of_block hh) (fun e => ?_)).trans hh, r⟩
    rcases hr g e.symm with h1 | ⟨o, h1, h2⟩
    · omega
    · rw [hh] at h1; injection h1 with h1; subst h1; cases h2
theorem FrO.lower {w : World} {lo lo' : Nat} {v : Value} {l : List Fr} (h : FrO w lo v l) (hl : lo' ≤ lo) : FrO w lo' v l := by
  refine ⟨h.1, ?_⟩
  rcases h.2 with h2 | ⟨g, cap, cur, hv, hb, r⟩
  · exact .inl h2
  · exact .inr ⟨g, cap, cur, hv, by omega, r⟩
theorem FrO.iscells {w : World} {lo j : Nat} {v : Value} {l : List Fr} {o : Obj} (h : FrO w lo v l) (e : v.ownBlock = some j) (ho : w.heap[j]? = some o) : o.isCells = true := by
  rcases h.2 with ⟨h2, h3⟩ | ⟨g', cap', cur, hv, hb, hh, _⟩
  · rw [h2] at e; cases e
  · rw [hv] at e
    have : g' = j := by simpa [Value.ownBlock] using e
    subst this
    rw [hh] at ho
    injection ho with ho
    subst ho
    rfl
theorem blk_grown {w w' : World} {g : Nat} {t : TypeId} {cs : Array Value} {row : Option Nat} (h : Blk w g t cs) (hg : w.grownBy w' row) (hn : row ≠ some g) : Blk w' g t cs := (hg.block g h.lt (fun e => hn e.symm)).trans h
/-- append(l, f) inside a round. -/
theorem wpListIn_append_frame {F : Fence} {n : Nat} {w : World} {ops : Array Oper} {rest : List Oper} {o : Oper} {a : Act} {Q : Exit → Act → World → Prop} (hgd : o.guard = none) (s x : Operand)
    (ho : o.op = .call { callee := .builtin .append, args := #[s, x], argTypes := #[51, 51] }) (lo : Nat) (acc : List Fr) {v : Value} (hs : a.eval s = v) (hacc : FrO w lo v acc) (y : Fr)
    (g : Nat) (hx : a.eval x = .slice (some ⟨g, 0, none⟩) 1 1) (hg0 : w.cell? ⟨g, 0, none⟩ = some (.int .u64 y.id)) (hg1 : w.cell? ⟨g, 1, none⟩ = some (.string y.nm)) (hg2 : w.cell? ⟨g, 2, none⟩ = some (.string y.body))
    (hlen : acc.length ≤ 1000000) (hlo : lo ≤ w.heap.size)
    (hK : ∀ A' n' cap w', Hid (n' = (acc ++ [y]).length) → FrO w' lo (.slice A' n' cap) (acc ++ [y]) → w.grownBy w' v.ownBlock → wpListIn F n Tryz.prog ops Q rest (a.put o.dst (.slice A' n' cap)) w') : wpListIn F n Tryz.prog ops Q (o :: rest) a w := by
  obtain ⟨i0, hi, hz0, hz1, hz2⟩ := info_parts info_frame
  refine wpListIn_append_own w hgd s x 51 ho lo 27 i0 _ 3 40 Tryz.underlying51 hi hz0 hz1 hz2 rfl (by decide) v acc.length (fcs acc) hs hacc ⟨g, 0, none⟩ 1 1 (fcs [y]) hx (by simp [fcs_one]) ?_ (by simp [fcs_one, Value.oneCell']) (by simp only [maxLen]; omega) (by omega) hlo ?_
  · intro j u hu
    rw [add_at]
    rw [fcs_one] at hu
    match j, hu with
    | 0, hu => simp at hu; subst hu; exact hg0
    | 1, hu => simp at hu; subst hu; exact hg1
    | 2, hu => simp at hu; subst hu; exact hg2
  · intro v' w' ho' hgr _
    have e : (acc ++ [y]).length = acc.length + 1 := by simp
    have hf : FrO w' lo v' (acc ++ [y]) := by rw [FrO, fcs_append, e]; exact ho'
    obtain ⟨A, n', cap, rfl, hn, _, _⟩ := hf.form'
    exact hK A n' cap w' hn hf hgr
end Go.Proofs.YtebllmpdlapefaaGreatDoor
namespace Go.Proofs.YtebllmpdlapefaaGreatDoor
set_option linter.unusedVariables false
set_option linter.unusedSimpArgs false
open Go.RowKit

theorem key_new (w : World) (t : TypeId) (old cs : Array Value) : (w.alloc (.cells old t)).setRow w.heap.size cs = w.alloc (.cells cs t) := by
  unfold World.setRow World.alloc
  simp only
  congr 1
  apply Array.ext
  · simp
  · intro i h1 h2
    rw [Array.getElem_modify]
    by_cases hi : w.heap.size = i
    · subst hi; simp
    · simp only [Array.getElem_push]
      have : i < w.heap.size := by simp at h2; omega
      simp [this]; omega
theorem zero_size : Tryz.zeroCells32.size = 72 := by rw [zero_key, kC_size]
theorem wpQuiet_loadG {P : Program} {ops : Array Oper} {C : World → Prop} {Q : Act → Prop} {o : Oper} {rest : List Oper} {a : Act} (hg : Region.wanted o (yielded ops a.tmps) = true) (ty : TypeId) (x : Operand) (ho : o.op = .load ty x) (g : Nat) (hx : a.eval x = .pointer (some ⟨g, 0, none⟩))
    (t : TypeId) (cs : Array Value) (fr : Nat × Nat) (d : TypeDesc) (hC : ∀ w', C w' → w'.heap[g]? = some (.cells cs t fr)) (hu : P.underlying ty = some d) (hd : (match d with | .struct _ | .array _ _ => true | _ => false) = true) (hi : (P.info? ty).map (·.size) = some cs.size)
    (h : wpQuiet P ops C Q rest (a.put o.dst (.agg cs))) : wpQuiet P ops C Q (o :: rest) a := by
  unfold wpQuiet
  rw [if_pos hg]
  refine ⟨.agg cs, fun w hw' => ?_, h⟩
  unfold Oper.quietAt execOp
  simp only [ho, hx, Instr.loadAt, Instr.sureAddr, Sem.run_bind, Sem.run_pure, Result.andThen_ok, run_loadVar_row w g t ty cs fr d (hC w hw') hu hd hi]
  simp [Oper.quietUpon, Result.andThen]
theorem info_cfg : (Tryz.prog.info? 24).map (·.size) = some 6 := by kernel_rfl
end Go.Proofs.YtebllmpdlapefaaGreatDoor
namespace Go.Proofs.YtebllmpdlapefaaGreatDoor
set_option linter.unusedVariables false
set_option linter.unusedSimpArgs false
open Go.RowKit

theorem eqg_fr : (Tryz.prog).eqGuardType (Tryz.prog).depth 27 = false := by kernel_rfl
theorem fld_fr : (Tryz.prog).underlying 27 = some (.struct ((Tryz.prog).fieldsOf 27)) := by kernel_rfl
theorem held_fr : (Tryz.prog).stoodInHeld 27 = false := by kernel_rfl
theorem flds_fr : ((Tryz.prog).fieldsOf 27).toList.map (fun f => (f.type, f.offset, decide (f.name ≠ "_"))) = [(25, 0, true), (9, 1, true), (9, 2, true)] := by kernel_rfl
theorem eqFields3 (fs : List Field) (h : fs.map (fun f => (f.type, f.offset, decide (f.name ≠ "_"))) = [(25, 0, true), (9, 1, true), (9, 2, true)]) (x1 y1 : Int) (x2 y2 x3 y3 : ByteArray) (w : World) :
    (Op.eqFields 9999 #[.int .u64 x1, .string x2, .string x3] #[.int .u64 y1, .string y2, .string y3] fs).run Tryz.prog w = .ok (decide (x1 = y1 ∧ x2 = y2 ∧ x3 = y3)) w := by
  have hl : fs.length = 3 := by have := congrArg List.length h; simpa using this
  obtain ⟨f1, f2, f3, rfl⟩ : ∃ f1 f2 f3, fs = [f1, f2, f3] := by
    match fs, hl with
    | [f1, f2, f3], _ => exact ⟨f1, f2, f3, rfl⟩
  simp only [List.map_cons, List.map_nil, List.cons.injEq, Prod.mk.injEq, and_true] at h
  obtain ⟨⟨h1, h2, h3⟩, ⟨h4, h5, h6⟩, h7, h8, h9⟩ := h
  have n1 := of_decide_eq_true h3
  have n2 := of_decide_eq_true h6
  have n3 := of_decide_eq_true h9
  have a1 : ∀ w, (isAgg 25).run Tryz.prog w = .ok false w := fun _ => by kernel_rfl
  have a2 : ∀ w, (isAgg 9).run Tryz.prog w = .ok false w := fun _ => by kernel_rfl
  have p1 : ∀ (a b c : Value) w, (part 25 #[a, b, c] 0).run Tryz.prog w = .ok a w := by
    intro a b c w
    simp [part, Sem.run_bind, a1]
  have p2 : ∀ (a b c : Value) w, (part 9 #[a, b, c] 1).run Tryz.prog w = .ok b w := by
    intro a b c w
    simp [part, Sem.run_bind, a2]
  have p3 : ∀ (a b c : Value) w, (part 9 #[a, b, c] 2).run Tryz.prog w = .ok c w := by
    intro a b c w
    simp [part, Sem.run_bind, a2]
  have q1 := run_equalIn_int (P := Tryz.prog) w 9998 25 .u64 .u64 x1 y1 Tryz.underlying25
  have q2 := run_equalIn_string (P := Tryz.prog) w 9998 9 x2 y2 Tryz.underlying9
  have q3 := run_equalIn_string (P := Tryz.prog) w 9998 9 x3 y3 Tryz.underlying9
  simp only [Op.eqFields, n1, n2, n3, h1, h2, h4, h5, h7, h8, ne_eq, not_false_eq_true, if_true, Sem.run_bind, p1, p2, p3, Result.andThen_ok, q1, q2, q3]
  by_cases e0 : x1 = y1
  · subst e0
    simp only [beq_self_eq_true, Bool.not_true, Bool.false_eq_true, if_false, Sem.run_bind, p2, p3, Result.andThen_ok, q2, q3, true_and]
    rcases str_ways x2 y2 with ⟨rfl, e1, _⟩ | ⟨hne, e1, _⟩
    · rw [e1]
      simp only [Bool.not_true, Bool.false_eq_true, if_false, Sem.run_bind, p3, Result.andThen_ok, q3, true_and]
      rcases str_ways x3 y3 with ⟨rfl, e2, _⟩ | ⟨hne, e2, _⟩
      · rw [e2]; simp
      · rw [e2]; simp [hne]
    · rw [e1]
      simp [hne]
  · have : (x1 == y1) = false := beq_eq_false_iff_ne.2 e0
    rw [this]; simp [e0]
theorem eqFr_run (x1 y1 : Int) (x2 y2 x3 y3 : ByteArray) (w : World) : (Op.equalIn 10000 27 (.agg #[.int .u64 x1, .string x2, .string x3]) (.agg #[.int .u64 y1, .string y2, .string y3])).run Tryz.prog w = .ok (decide (x1 = y1 ∧ x2 = y2 ∧ x3 = y3)) w := by
  rw [run_equalIn_struct w 9999 27 _ _ fld_fr held_fr]
  exact eqFields3 _ flds_fr x1 y1 x2 y2 x3 y3 w
/-- Two frames, as they are. -/
theorem eqFr_same (x1 : Int) (x2 x3 : ByteArray) (w : World) : (Op.equalIn 10000 27 (.agg #[.int .u64 x1, .string x2, .string x3]) (.agg #[.int .u64 x1, .string x2, .string x3])).run Tryz.prog w = .ok true w := by
  rw [eqFr_run]; simp
end Go.Proofs.YtebllmpdlapefaaGreatDoor
namespace Go.Proofs.YtebllmpdlapefaaGreatDoor
set_option linter.unusedVariables false
set_option linter.unusedSimpArgs false
open Go.ChangeShapes Go.WideShapes Go.ChangeAt Go.RowKit

theorem list_of_all {α : Type} (Q : Nat → α → Prop) : ∀ n, (∀ i, i < n → ∃ y, Q i y) → ∃ l : List α, l.length = n ∧ ∀ i (h : i < l.length), Q i l[i]
  | 0, _ => ⟨[], rfl, by simp⟩
  | n + 1, h => by
    obtain ⟨l, h1, h2⟩ := list_of_all Q n fun i hi => h i (by omega)
    obtain ⟨y, hy⟩ := h n (by omega)
    refine ⟨l ++ [y], by simp [h1], fun i hi => ?_⟩
    by_cases hc : i < l.length
    · rw [List.getElem_append_left hc]; exact h2 i hc
    · have : i = n := by simp at hi; omega
      subst this
      rw [List.getElem_append_right (by omega)]
      simpa [h1] using hy
theorem three_cells {w : World} {base : Nat} {a : Addr} {cs : List Value} (h : w.cells? base a 3 = some cs) : ∃ c0 c1 c2, cs = [c0, c1, c2] ∧ w.cell? a = some c0 ∧ w.cell? (a.add 1) = some c1 ∧ w.cell? (a.add 2) = some c2 := by
  unfold World.cells? at h
  split at h
  · have e : List.range 3 = [0, 1, 2] := rfl
    rw [e] at h
    simp only [List.mapM_cons, List.mapM_nil, Option.bind_eq_bind, Option.pure_def, Option.bind_eq_some_iff] at h
    obtain ⟨c0, h0, r, ⟨c1, h1, r2, ⟨c2, h2, r3, h3, h4⟩, h5⟩, h6⟩ := h
    simp at h3 h4 h5 h6
    subst h3; subst h4; subst h5; subst h6
    exact ⟨c0, c1, c2, rfl, by simpa [Addr.add] using h0, h1, h2⟩
  · cases h
theorem no_spot {w : World} {a : Addr} {v : Value} (h : w.cell? a = some v) : a.spot = none := by
  unfold World.cell? at h
  split at h
  · split at h
    · cases h
    · rename_i hs; simpa using hs
  · cases h
theorem cell_lt {w : World} {p : Addr} {v : Value} (h : w.cell? p = some v) : p.block < w.heap.size := by
  rcases Nat.lt_or_ge p.block w.heap.size with h' | h'
  · exact h'
  · simp [World.cell?, Array.getElem?_eq_none h'] at h
theorem cellsOf_frs : Tryz.prog.cellsOf 51 = 1 := by kernel_rfl
set_option maxRecDepth 100000 in
theorem open_frs {H : Type} {enc : TypeId × Value → H} {w : World} {base : Nat} {spare : Nat → Bool} {held : Bool} (fuel : Nat) (cs : List Value) (x : DataW H × List MemPlace) (h : DataW.trod enc Tryz.prog w base spare held fuel 51 cs = some x) :
    ∃ (l : List Fr) (v : Value), cs = [v] ∧ FrR w w.heap.size v l ∧ ∀ f ∈ l, f.ok := by
  rcases DataW.trod_slice Tryz.underlying51 h with ⟨e2, _⟩ | ⟨a, len, cap, elems, rest, m, rfl, e2, _, hb, hlc, hcm, hel, hat, _, _⟩
  · exact ⟨[], _, e2, FrR.nil _ _, by simp⟩
  · have key : ∀ i, i < len → ∃ y : Fr, a.spot = none ∧ w.cell? ⟨a.block, a.off + i * 3, none⟩ = some (.int .u64 y.id) ∧ w.cell? ⟨a.block, a.off + i * 3 + 1, none⟩ = some (.string y.nm) ∧ w.cell? ⟨a.block, a.off + i * 3 + 2, none⟩ = some (.string y.body) ∧ y.ok := by
      have first : ∀ i, i < len → ∃ cs', w.cells? base (a.add (i * 3)) 3 = some cs' ∧ ∃ z, DataW.trod enc Tryz.prog w base spare held m 27 cs' = some z := by
        intro i hi
        have h3 := hat i hi
        rw [cellsOf_frame, List.getElem?_eq_getElem (by omega)] at h3
        rw [Option.bind_eq_some_iff] at h3
        obtain ⟨cs', h4, h5⟩ := h3
        exact ⟨cs', h4, _, h5⟩
      have hsp : 0 < len → a.spot = none := by
        intro h0
        obtain ⟨cs', h4, _⟩ := first 0 h0
        obtain ⟨d0, _, _, _, h5, _⟩ := three_cells h4
        have h5 : w.cell? a = some d0 := by simpa [Addr.add] using h5
        exact no_spot h5
      intro i hi
      obtain ⟨cs', h4, z, h5⟩ := first i hi
      obtain ⟨d0, d1, d2, rfl, g0, g1, g2⟩ := three_cells h4
      obtain ⟨y, hk, hok⟩ := open_fr m _ _ h5
      simp at hk
      obtain ⟨rfl, rfl, rfl⟩ := hk
      have hs := hsp (by omega)
      have e1 : ∀ j, (a.add (i * 3)).add j = ⟨a.block, a.off + i * 3 + j, none⟩ := by
        intro j
        obtain ⟨ab, ao, asp⟩ := a
        simp only at hs
        subst hs
        unfold Addr.add
        split <;> split <;> simp_all
      have e0 := e1 0
      rw [show (a.add (i * 3)).add 0 = a.add (i * 3) from by simp [Addr.add]] at e0
      rw [e0] at g0
      rw [e1] at g1 g2
      exact ⟨y, hs, g0, g1, g2, hok⟩
    obtain ⟨s, hs1, hs2⟩ := list_of_all _ len key
    subst hs1
    refine ⟨s, _, e2, ⟨some a, cap, rfl, hlc, by simpa [maxLen] using hcm, fun j hj => ?_⟩, fun f hf => ?_⟩
    · obtain ⟨hsp, g0, g1, g2, _⟩ := hs2 j hj
      refine ⟨a.block, a.off, ?_, (by have := cell_lt g0; simpa using this), by simpa using g0, by simpa using g1, by simpa using g2⟩
      obtain ⟨ab, ao, asp⟩ := a
      simp only at hsp
      subst hsp
      rfl
    · obtain ⟨j, hj, rfl⟩ := List.mem_iff_getElem.1 hf
      exact (hs2 j hj).2.2.2.2
set_option maxRecDepth 100000 in
theorem open_frs' {H : Type} {enc : TypeId × Value → H} {w : World} {base b0 : Nat} {r : Reach} {spare : Nat → Bool} {held : Bool} {v : Value} {d : DataW H} {ps : List MemPlace} (hval : Value.okWide Tryz.prog w r b0 51 v) (hd : DataW.Trod enc Tryz.prog w base spare held 51 v d ps) :
    ∃ (l : List Fr) (u : Value), v = u ∧ FrR w w.heap.size u l ∧ ∀ f ∈ l, f.ok := by
  obtain ⟨A, n, cap, rfl⟩ := okWide_slice Tryz.underlying51 hval
  obtain ⟨fuel, hf⟩ := hd
  obtain ⟨l, u, hc, hin, hok⟩ := open_frs fuel _ _ hf
  simp [Value.cells] at hc
  subst hc
  exact ⟨l, _, rfl, hin, hok⟩
/-- The value is a slice that reads as these strings, in a block below B. -/
def StR (w : World) (B : Nat) (v : Value) (l : List ByteArray) : Prop := ∃ A cap, v = .slice A l.length cap ∧ l.length ≤ cap ∧ cap ≤ 9223372036854775807 ∧ ∀ j (h : j < l.length), ∃ g o, A = some ⟨g, o, none⟩ ∧ g < B ∧ w.cell? ⟨g, o + j, none⟩ = some (.string l[j])
theorem StR.keep {w w' : World} {B B' : Nat} {v : Value} {l : List ByteArray} (h : StR w B v l) (hB : B ≤ B') (hk : ∀ p : Addr, p.block < B → w'.cell? p = w.cell? p) : StR w' B' v l := by
  obtain ⟨A, cap, h1, h2, h3, h4⟩ := h
  refine ⟨A, cap, h1, h2, h3, fun j hj => ?_⟩
  obtain ⟨g, o, hA, hg, e0⟩ := h4 j hj
  exact ⟨g, o, hA, by omega, (hk _ hg).trans e0⟩
theorem StR.below {w w' : World} {B : Nat} {v : Value} {l : List ByteArray} (h : StR w B v l) (hb : Below B w w') : StR w' B v l := h.keep (Nat.le_refl _) (fun _ hp => hb.cell hp)
theorem StR.form' {w : World} {B : Nat} {v : Value} {l : List ByteArray} (h : StR w B v l) : ∃ A n cap, v = .slice A n cap ∧ Hid (n = l.length) ∧ n ≤ cap ∧ cap ≤ 9223372036854775807 := by
  obtain ⟨A, cap, h1, h2, h3, _⟩ := h
  exact ⟨A, _, cap, h1, Lib.hid rfl, h2, h3⟩
theorem StR.at_ {w : World} {B : Nat} {A : Option Addr} {n cap : Nat} {l : List ByteArray} (h : StR w B (.slice A n cap) l) {j : Nat} (hj : j < l.length) : ∃ g o, A = some ⟨g, o, none⟩ ∧ g < B ∧ w.cell? ⟨g, o + j, none⟩ = some (.string l[j]) := by
  obtain ⟨A', cap', h1, h2, h3, h4⟩ := h
  injection h1 with hA _ _
  subst hA
  exact h4 j hj
set_option maxRecDepth 100000 in
theorem open_strs' {H : Type} {enc : TypeId × Value → H} {w : World} {base b0 : Nat} {r : Reach} {held : Bool} {v : Value} {d : DataW H} {ps : List MemPlace} (hval : Value.okWide Tryz.prog w r b0 64 v) (hd : DataW.Trod enc Tryz.prog w base (fun _ => true) held 64 v d ps) :
    ∃ (l : List ByteArray) (u : Value), v = u ∧ StR w w.heap.size u l ∧ ∀ s ∈ l, s.size ≤ 9223372036854775807 := by
  obtain ⟨A, n, cap, rfl⟩ := okWide_slice Tryz.underlying64 hval
  obtain ⟨fuel, hf⟩ := hd
  rcases open_strings Tryz.underlying64 Tryz.underlying9 cellsOf_cstr hf with ⟨hc, _⟩ | ⟨a, len, cap', ss, hc, hb, hlc, hcm, hsl, _, hat, hall⟩
  · simp [Value.cells] at hc
    obtain ⟨rfl, rfl, rfl⟩ := hc
    exact ⟨[], _, rfl, ⟨none, 0, rfl, by simp, by simp, fun j hj => by simp at hj⟩, by simp⟩
  · simp [Value.cells] at hc
    obtain ⟨rfl, rfl, rfl⟩ := hc
    rw [if_pos rfl] at hsl
    have hl : (ss.take n).length = n := by rw [List.length_take]; omega
    refine ⟨ss.take n, _, rfl, ⟨some a, cap, by rw [hl], by omega, by simpa [maxLen] using hcm, fun j hj => ?_⟩, fun s hs => by simpa [maxLen] using hall s (List.mem_of_mem_take hs)⟩
    rw [hl] at hj
    have h1 := hat j (by omega)
    rw [List.getD_eq_getElem?_getD, List.getElem?_eq_getElem (by omega), Option.getD_some] at h1
    obtain ⟨ab, ao, asp⟩ := a
    have h2 : asp = none := by
      have h0 := hat 0 (by omega)
      rw [show (⟨ab, ao, asp⟩ : Addr).add 0 = ⟨ab, ao, asp⟩ from by simp [Addr.add]] at h0
      exact no_spot h0
    subst h2
    refine ⟨ab, ao, rfl, ?_, ?_⟩
    · have := cell_lt h1
      unfold Addr.add at this
      split at this <;> simpa using this
    · rw [add_off] at h1
      rw [h1, List.getElem_take]
end Go.Proofs.YtebllmpdlapefaaGreatDoor
namespace Go.Proofs.YtebllmpdlapefaaGreatDoor
set_option linter.unusedVariables false
set_option linter.unusedSimpArgs false
open Go.RowKit

def exC : Cfg := ⟨2, 0, 9, 1, 1, 1⟩
def exF : Fr := ⟨5, ByteArray.empty, ⟨#[97, 98]⟩⟩
theorem exC_ok : exC.ok := ⟨by decide, by decide, by decide, by decide, by decide, by decide⟩
theorem exF_ok : exF.ok := ⟨by decide, by decide, by decide⟩
instance decFr : DecidableEq Fr := fun ⟨a1, a2, a3⟩ ⟨b1, b2, b3⟩ => if h : a1 = b1 ∧ a2 = b2 ∧ a3 = b3 then isTrue (by obtain ⟨rfl, rfl, rfl⟩ := h; rfl) else isFalse (fun e => h (by injection e with e1 e2 e3; exact ⟨e1, e2, e3⟩))
end Go.Proofs.YtebllmpdlapefaaGreatDoor
