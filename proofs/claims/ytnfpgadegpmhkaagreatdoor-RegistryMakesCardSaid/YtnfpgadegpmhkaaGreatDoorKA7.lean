/- A map that a call has made: its entries as a list of keys and values. Own words, over whatever program. -/
import Derived.Test.YtnfpgadegpmhkaaGreatDoorKA1
import Derived.MapKept
import Derived.Laws.Entries
import Derived.Test.YtnfpgadegpmhkaaGreatDoorKA3
import Derived.Test.YtnfpgadegpmhkaaGreatDoorKA6
import Derived.Test.YtnfpgadegpmhkaaGreatDoorKA8
set_option linter.unusedVariables false
set_option linter.unusedSimpArgs false
namespace Go.Proofs.YtnfpgadegpmhkaaGreatDoor
open Go.RowKit
def mE : List (Value × Value) → Nat → List MapEntry
 | [], _ => []
 | x :: xs, b => ⟨x.1, x.2, b⟩ :: mE xs (b + 1)
theorem mE_append : ∀ (l m : List (Value × Value)) (b : Nat), mE (l ++ m) b = mE l b ++ mE m (b + l.length)
 | [], m, b => by simp [mE]
 | x :: xs, m, b => by simp only [List.cons_append, mE, mE_append xs m, List.length_cons]; rw [show b + 1 + xs.length = b + (xs.length + 1) from by omega]
theorem mE_at : ∀ (l : List (Value × Value)) (b j : Nat), (mE l b)[j]? = (l[j]?).map fun x => ⟨x.1, x.2, b + j⟩
 | [], b, j => by simp [mE]
 | x :: xs, b, 0 => by simp [mE]
 | x :: xs, b, j + 1 => by simp only [mE, List.getElem?_cons_succ, mE_at xs]; rw [show b + 1 + j = b + (j + 1) from by omega]
theorem mE_mem {l : List (Value × Value)} {b : Nat} {e : MapEntry} (h : e ∈ mE l b) : ∃ x ∈ l, e.key = x.1 ∧ e.val = x.2 := by
 obtain ⟨j, hj⟩ := List.getElem?_of_mem h
 rw [mE_at] at hj
 cases hl : l[j]? with
 | none => rw [hl] at hj; cases hj
 | some x =>
  rw [hl] at hj
  injection hj with hj
  subst hj
  exact ⟨x, List.mem_of_getElem? hl, rfl, rfl⟩
theorem find_mE {d : TypeDesc} {k : Value} (hk : MapKept.IsKey d k) (l : List (Value × Value)) (hl : ∀ x ∈ l, MapKept.IsKey d x.1) :
 (Instr.findNow d k (mE l 0) 0 = some none ∧ ∀ x ∈ l, x.1 ≠ k) ∨ ∃ j x, Instr.findNow d k (mE l 0) 0 = some (some (j, x.2)) ∧ l[j]? = some x ∧ x.1 = k := by
 rcases MapKept.findNow_spec hk (mE l 0) 0 (fun e he => by obtain ⟨x, hx, h1, _⟩ := mE_mem he; rw [h1]; exact hl x hx) with ⟨h1, h2⟩ | ⟨j, e, h1, h2, h3⟩
 ·refine .inl ⟨h1, fun x hx => ?_⟩
  obtain ⟨j, hj⟩ := List.getElem?_of_mem hx
  have h3 := h2 ⟨x.1, x.2, 0 + j⟩ (List.mem_of_getElem? (i := j) (by rw [mE_at, hj]; rfl))
  exact h3
 ·rw [mE_at] at h2
  cases hl2 : l[j]? with
  | none => rw [hl2] at h2; cases h2
  | some x =>
   rw [hl2] at h2
   injection h2 with h2
   subst h2
   exact .inr ⟨j, x, by rw [h1, Nat.zero_add], hl2, h3⟩
section
variable {P : Program} {w : World} {g c : Nat} {T K E : TypeId} {d : TypeDesc} {k : Value} {es : List MapEntry}
def MpB (w : World) (g : Nat) (l : List (Value × Value)) : Prop := w.heap[g]? = some (.map (mE l 0).toArray l.length)
theorem MpB.lt {l : List (Value × Value)} (h : MpB w g l) : g < w.heap.size := lt_of_block h
theorem look_yes {l : List (Value × Value)} (hb : MpB w g l) (hT : P.underlying T = some (.map K E)) (hK : P.underlying K = some d) (hk : MapKept.IsKey d k) {j : Nat} {v : Value} (h : Instr.findNow d k (mE l 0) 0 = some (some (j, v))) :
 (Instr.lookup T (.map (some g)) k true).run P w = .ok (.tuple #[v, .bool true]) w := by
 simp [Instr.lookup, run_underlying hT, MapKept.run_getObj_map hb, MapKept.run_checkKey hK hk, MapKept.run_findKey hK h, Result.andThen]
theorem look_no {l : List (Value × Value)} (hb : MpB w g l) (hT : P.underlying T = some (.map K E)) (hK : P.underlying K = some d) (hk : MapKept.IsKey d k) (h : Instr.findNow d k (mE l 0) 0 = some none) {z : Value} (hz : (zeroValue E).run P w = .ok z w) :
 (Instr.lookup T (.map (some g)) k true).run P w = .ok (.tuple #[z, .bool false]) w := by
 simp [Instr.lookup, run_underlying hT, MapKept.run_getObj_map hb, MapKept.run_checkKey hK hk, MapKept.run_findKey hK h, Result.andThen, hz]
def mpPut (w : World) (g : Nat) (l : List (Value × Value)) (k v : Value) : World := { w with heap := w.heap.setIfInBounds g (.map (mE (l ++ [(k, v)]) 0).toArray (l.length + 1)) }
theorem put_new {l : List (Value × Value)} (hb : MpB w g l) (hT : P.underlying T = some (.map K E)) (hK : P.underlying K = some d) (hk : MapKept.IsKey d k) (h : Instr.findNow d k (mE l 0) 0 = some none) (v : Value) :
 (Instr.mapUpdate T (.map (some g)) k v).run P w = .ok () (mpPut w g l k v) := by
 have hs : (mE l 0).toArray.push ⟨k, v, l.length⟩ = (mE (l ++ [(k, v)]) 0).toArray := by rw [mE_append]; simp [mE]
 simp [Instr.mapUpdate, run_underlying hT, MapKept.run_getObj_map hb, MapKept.run_checkKey hK hk, MapKept.run_findKey hK h, Result.andThen, MapKept.run_setObj_map _ hb]
 unfold mpPut
 rw [← hs]
 simp
theorem mpPut_block {l : List (Value × Value)} (hb : MpB w g l) (k v : Value) : MpB (mpPut w g l k v) g (l ++ [(k, v)]) := by
 unfold MpB mpPut
 simp only [List.length_append, List.length_singleton]
 exact (MapKept.heap_set hb).1
theorem mpPut_only (w : World) (g : Nat) (l : List (Value × Value)) (k v : Value) : Only [g] w (mpPut w g l k v) :=
 ⟨rfl, rfl, rfl, by simp [mpPut], fun j _ hj => by
  have hne : g ≠ j := fun e => hj (by simp [e])
  show (w.heap.setIfInBounds g _)[j]? = _
  simp [hne]⟩
theorem MpB.only {l : List (Value × Value)} {L : List Nat} {w' : World} (h : MpB w g l) (ho : Only L w w') (hn : g ∉ L) : MpB w' g l := (ho.block g h.lt hn).trans h
theorem MpB.below {l : List (Value × Value)} {B : Nat} {w' : World} (h : MpB w g l) (hb : Below B w w') (hg : g < B) : MpB w' g l := (hb.block g hg).trans h
theorem MpB.new (w : World) : MpB (w.alloc (.map #[] 0)) w.heap.size [] := heap_alloc_new w _
end
abbrev RgRow := Ent × Value
def nmL (l : List RgRow) : List (Value × Value) := l.map fun r => (.string r.1.name, r.2)
def idL (l : List RgRow) : List (Value × Value) := l.map fun r => (.int .u64 r.1.id, r.2)
def entsOf (l : List RgRow) : List Ent := l.map (·.1)
theorem nmL_key (l : List RgRow) : ∀ x ∈ nmL l, MapKept.IsKey .string x.1 := by
 intro x hx
 obtain ⟨r, _, rfl⟩ := List.mem_map.1 hx
 simp [MapKept.IsKey]
theorem idL_key (l : List RgRow) : ∀ x ∈ idL l, MapKept.IsKey (.int .u64) x.1 := by
 intro x hx
 obtain ⟨r, _, rfl⟩ := List.mem_map.1 hx
 simp [MapKept.IsKey]
theorem find_none_of {l : List Ent} {p : Ent → Bool} (h : ∀ e ∈ l, p e = false) : l.find? p = none := List.find?_eq_none.2 fun e he => by simp [h e he]
theorem find_some_of {l : List Ent} {p : Ent → Bool} {j : Nat} {e : Ent} (hj : l[j]? = some e) (hp : p e = true) (hu : ∀ i (x : Ent), l[i]? = some x → p x = true → i = j) : l.find? p = some e := by
 cases h : l.find? p with
 | none => exact absurd hp (List.find?_eq_none.1 h e (List.mem_of_getElem? hj))
 | some x =>
  have hx := List.find?_some h
  obtain ⟨i, hi⟩ := List.getElem?_of_mem (List.mem_of_find?_eq_some h)
  have := hu i x hi hx
  subst this
  rw [hi] at hj
  exact hj
theorem at_of {l : List Ent} {i : Nat} {x : Ent} (h : l[i]? = some x) : ∃ hi : i < l.length, l[i] = x := by
 obtain ⟨hi, e⟩ := List.getElem?_eq_some_iff.1 h
 exact ⟨hi, e⟩
theorem name_find {c : Cfg} {l : List RgRow} (h : EntsOk c (entsOf l)) (nm : ByteArray) :
 (Instr.findNow .string (.string nm) (mE (nmL l) 0) 0 = some none ∧ byName (entsOf l) nm = none) ∨ ∃ (j : Nat) (r : RgRow), Instr.findNow .string (.string nm) (mE (nmL l) 0) 0 = some (some (j, r.2)) ∧ l[j]? = some r ∧ r.1.name = nm ∧ byName (entsOf l) nm = some r.1 := by
 rcases find_mE (d := .string) (k := .string nm) (by simp [MapKept.IsKey]) (nmL l) (nmL_key l) with ⟨h1, h2⟩ | ⟨j, x, h1, h2, h3⟩
 ·refine .inl ⟨h1, find_none_of fun e he => decide_eq_false fun hn => ?_⟩
  obtain ⟨r, hr, rfl⟩ := List.mem_map.1 he
  exact h2 (.string r.1.name, r.2) (List.mem_map.2 ⟨r, hr, rfl⟩) (by rw [hn])
 ·unfold nmL at h2
  rw [List.getElem?_map] at h2
  cases hl : l[j]? with
  | none => rw [hl] at h2; cases h2
  | some r =>
   rw [hl] at h2
   injection h2 with h2
   subst h2
   have hn : r.1.name = nm := by injection h3
   have hje : (entsOf l)[j]? = some r.1 := by unfold entsOf; rw [List.getElem?_map, hl]; rfl
   refine .inr ⟨j, r, h1, hl, hn, find_some_of hje (decide_eq_true hn) fun i x hi hx => ?_⟩
   obtain ⟨hi2, e1⟩ := at_of hi
   obtain ⟨hj2, e2⟩ := at_of hje
   exact h.names i j hi2 hj2 (by rw [e1, e2, hn]; exact of_decide_eq_true hx)
theorem id_find {c : Cfg} {l : List RgRow} (h : EntsOk c (entsOf l)) (id : Nat) (p : Ent → Bool) (hp : ∀ e, p e = decide (e.id = id)) :
 (Instr.findNow (.int .u64) (.int .u64 id) (mE (idL l) 0) 0 = some none ∧ (entsOf l).find? p = none) ∨ ∃ (j : Nat) (r : RgRow), Instr.findNow (.int .u64) (.int .u64 id) (mE (idL l) 0) 0 = some (some (j, r.2)) ∧ l[j]? = some r ∧ r.1.id = id ∧ (entsOf l).find? p = some r.1 := by
 rcases find_mE (d := .int .u64) (k := .int .u64 id) (by simp [MapKept.IsKey]) (idL l) (idL_key l) with ⟨h1, h2⟩ | ⟨j, x, h1, h2, h3⟩
 ·refine .inl ⟨h1, find_none_of fun e he => by
   rw [hp]
   refine decide_eq_false fun hn => ?_
   obtain ⟨r, hr, rfl⟩ := List.mem_map.1 he
   exact h2 (.int .u64 r.1.id, r.2) (List.mem_map.2 ⟨r, hr, rfl⟩) (by rw [hn])⟩
 ·unfold idL at h2
  rw [List.getElem?_map] at h2
  cases hl : l[j]? with
  | none => rw [hl] at h2; cases h2
  | some r =>
   rw [hl] at h2
   injection h2 with h2
   subst h2
   have hn : r.1.id = id := by injection h3 with _ h3; omega
   have hje : (entsOf l)[j]? = some r.1 := by unfold entsOf; rw [List.getElem?_map, hl]; rfl
   refine .inr ⟨j, r, h1, hl, hn, find_some_of hje (by rw [hp]; exact decide_eq_true hn) fun i x hi hx => ?_⟩
   obtain ⟨hi2, e1⟩ := at_of hi
   obtain ⟨hj2, e2⟩ := at_of hje
   rw [hp] at hx
   exact h.ids i j hi2 hj2 (by rw [e1, e2, hn]; exact of_decide_eq_true hx)
theorem byFrame_coin {c : Cfg} (h : c.fm = 1) (l : List Ent) (f : Fr) : byFrame c l f = if f.id = 0 then byName l f.nm else none := by
 unfold byFrame byName
 by_cases h0 : f.id = 0
 ·rw [if_pos h0]
  congr 1
  funext e
  simp [frIs, h, h0, eq_comm]
 ·rw [if_neg h0]
  exact find_none_of fun e _ => by simp [frIs, h, h0]
theorem byFrame_no {c : Cfg} (h : c.fm ≠ 1) (l : List Ent) (f : Fr) (hn : f.nm.size ≠ 0) : byFrame c l f = none := find_none_of fun e _ => by simp [frIs, h, hn]
theorem frIs_id {c : Cfg} (h : c.fm ≠ 1) (f : Fr) (hn : f.nm.size = 0) (e : Ent) : frIs c f e = decide (e.id = f.id) := by simp [frIs, h, hn, eq_comm]
theorem any_of_none {l : List Ent} {p : Ent → Bool} (h : l.find? p = none) : l.any p = false := List.any_eq_false.2 fun e he => by simpa using List.find?_eq_none.1 h e he
theorem any_of_some {l : List Ent} {p : Ent → Bool} {e : Ent} (h : l.find? p = some e) : l.any p = true := List.any_eq_true.2 ⟨e, List.mem_of_find?_eq_some h, List.find?_some h⟩
def capV (c : Cfg) : Value := .agg #[.int .i64 c.de, .int .i64 c.it]
def putV (c : Cfg) : Value := .func (.func (if c.fm = 1 then 29 else 27)) #[capV c] #[]
def getV (c : Cfg) : Value := .func (.func (if c.fm = 1 then 30 else 28)) #[capV c] #[]
def rgC (c : Cfg) (gn gi : Nat) (vp vg : Value) : Array Value := #[.int .i64 c.fm, .int .u32 c.mg, .int .i64 c.fr, .int .i64 c.un, .int .i64 c.de, .int .i64 c.it, .map (some gn), .map (some gi), vp, vg]
def RwS (w : World) (S : Nat → Prop) (r : RgRow) : Prop := ∃ c0 c1 c2 c3, r.2 = .agg #[.int .u64 r.1.id, .string r.1.name, .string r.1.ty, c0, c1, c2, c3] ∧ TyS w S r.1.shape c0 c1 c2 c3
structure EntOk (e : Ent) : Prop where
 id : e.id < 18446744073709551616
 name : e.name.size ≤ 100
 ty : e.ty.size ≤ 500
structure RgM (w : World) (lo hi g gn gi : Nat) (c : Cfg) (l : List RgRow) : Prop where
 blk : Blk w g 80 (rgC c gn gi (putV c) (getV c))
 nm : MpB w gn (nmL l)
 ix : MpB w gi (idL l)
 n1 : lo ≤ gn
 n2 : gn < g
 i1 : lo ≤ gi
 i2 : gi < g
 ne : gn ≠ gi
 g2 : g < hi
 his : hi ≤ w.heap.size
 rows : ∀ r ∈ l, RwS w (fun k => g < k ∧ k < hi) r
 ok : EntsOk c (entsOf l)
 sz : ∀ r ∈ l, EntOk r.1
theorem RwS.keep {w w' : World} {S S' : Nat → Prop} {r : RgRow} (h : RwS w S r) (hS : ∀ k, k < w.heap.size → S k → S' k) (hk : ∀ p : Addr, p.block < w.heap.size → S p.block → w'.cell? p = w.cell? p) : RwS w' S' r := by
 obtain ⟨c0, c1, c2, c3, e, h⟩ := h
 exact ⟨c0, c1, c2, c3, e, TyS.keep hS hk _ h⟩
theorem MpB.keep {w w' : World} {g : Nat} {l : List (Value × Value)} (h : MpB w g l) (hk : w'.heap[g]? = w.heap[g]?) : MpB w' g l := hk.trans h
theorem RgM.keep {w w' : World} {lo hi hi' g gn gi : Nat} {c : Cfg} {l : List RgRow} (h : RgM w lo hi g gn gi c l) (hk : ∀ k, lo ≤ k → k < hi → w'.heap[k]? = w.heap[k]?) (h1 : hi ≤ hi') (h2 : hi' ≤ w'.heap.size) : RgM w' lo hi' g gn gi c l where
 blk := (hk g (by have := h.n1; have := h.n2; omega) h.g2).trans h.blk
 nm := h.nm.keep (hk gn h.n1 (by have := h.n2; have := h.g2; omega))
 ix := h.ix.keep (hk gi h.i1 (by have := h.i2; have := h.g2; omega))
 n1 := h.n1
 n2 := h.n2
 i1 := h.i1
 i2 := h.i2
 ne := h.ne
 g2 := Nat.lt_of_lt_of_le h.g2 h1
 his := h2
 rows := fun r hr => (h.rows r hr).keep (fun k _ hS => ⟨hS.1, Nat.lt_of_lt_of_le hS.2 h1⟩) fun p _ hS => World.cell?_of_block (hk _ (by have := h.n1; have := h.n2; have := hS.1; omega) hS.2)
 ok := h.ok
 sz := h.sz
theorem RgM.below {w w' : World} {lo hi g gn gi : Nat} {c : Cfg} {l : List RgRow} (h : RgM w lo hi g gn gi c l) (hb : Below hi w w') : RgM w' lo hi g gn gi c l := h.keep (fun k _ hk => hb.block k hk) (Nat.le_refl _) (Nat.le_trans h.his hb.size)
theorem RgM.only {w w' : World} {lo hi g gn gi : Nat} {c : Cfg} {l : List RgRow} {L : List Nat} (h : RgM w lo hi g gn gi c l) (ho : Only L w w') (hL : ∀ k ∈ L, k < lo ∨ hi ≤ k) : RgM w' lo hi g gn gi c l :=
 h.keep (fun k h1 h2 => ho.block k (Nat.lt_of_lt_of_le h2 h.his) fun hm => by have := hL k hm; omega) (Nat.le_refl _) (Nat.le_trans h.his ho.size)
theorem RgM.cells {w : World} {lo hi g gn gi : Nat} {c : Cfg} {l : List RgRow} (h : RgM w lo hi g gn gi c l) :
 w.cell? ⟨g, 0, none⟩ = some (.int .i64 c.fm) ∧ w.cell? ⟨g, 6, none⟩ = some (.map (some gn)) ∧ w.cell? ⟨g, 7, none⟩ = some (.map (some gi)) ∧ w.cell? ⟨g, 8, none⟩ = some (putV c) ∧ w.cell? ⟨g, 9, none⟩ = some (getV c) := ⟨h.blk.cell 0, h.blk.cell 6, h.blk.cell 7, h.blk.cell 8, h.blk.cell 9⟩
theorem RgM.cfg {w : World} {lo hi g gn gi : Nat} {c : Cfg} {l : List RgRow} (h : RgM w lo hi g gn gi c l) :
 w.cell? ⟨g, 0, none⟩ = some (.int .i64 c.fm) ∧ w.cell? ⟨g, 1, none⟩ = some (.int .u32 c.mg) ∧ w.cell? ⟨g, 2, none⟩ = some (.int .i64 c.fr) ∧ w.cell? ⟨g, 3, none⟩ = some (.int .i64 c.un) ∧ w.cell? ⟨g, 4, none⟩ = some (.int .i64 c.de) ∧ w.cell? ⟨g, 5, none⟩ = some (.int .i64 c.it) := ⟨h.blk.cell 0, h.blk.cell 1, h.blk.cell 2, h.blk.cell 3, h.blk.cell 4, h.blk.cell 5⟩
def noRw : Value := .agg #[.int .u64 0, .string ⟨#[]⟩, .string ⟨#[]⟩, .int .i64 0, .int .i64 0, .slice none 0 0, .int .i64 0]
theorem zero_row (w : World) : (zeroValue 83).run Tryz.prog w = .ok noRw w := by kernel_rfl
theorem look_nm {w : World} {gn : Nat} {c : Cfg} {l : List RgRow} (hb : MpB w gn (nmL l)) (h : EntsOk c (entsOf l)) (nm : ByteArray) :
 (byName (entsOf l) nm = none ∧ ∀ V, MpB V gn (nmL l) → (Instr.lookup 73 (.map (some gn)) (.string nm) true).run Tryz.prog V = .ok (.tuple #[noRw, .bool false]) V) ∨
 ∃ r ∈ l, r.1.name = nm ∧ byName (entsOf l) nm = some r.1 ∧ ∀ V, MpB V gn (nmL l) → (Instr.lookup 73 (.map (some gn)) (.string nm) true).run Tryz.prog V = .ok (.tuple #[r.2, .bool true]) V := by
 rcases name_find h nm with ⟨h1, h2⟩ | ⟨j, r, h1, h2, h3, h4⟩
 ·exact .inl ⟨h2, fun V hV => look_no hV Tryz.underlying73 Tryz.underlying9 (by simp [MapKept.IsKey]) h1 (zero_row V)⟩
 ·exact .inr ⟨r, List.mem_of_getElem? h2, h3, h4, fun V hV => look_yes hV Tryz.underlying73 Tryz.underlying9 (by simp [MapKept.IsKey]) h1⟩
theorem look_ix {w : World} {gi : Nat} {c : Cfg} {l : List RgRow} (hb : MpB w gi (idL l)) (h : EntsOk c (entsOf l)) (id : Nat) :
 ((entsOf l).find? (fun e => decide (e.id = id)) = none ∧ ∀ V, MpB V gi (idL l) → (Instr.lookup 74 (.map (some gi)) (.int .u64 id) true).run Tryz.prog V = .ok (.tuple #[noRw, .bool false]) V) ∨
 ∃ r ∈ l, r.1.id = id ∧ (entsOf l).find? (fun e => decide (e.id = id)) = some r.1 ∧ ∀ V, MpB V gi (idL l) → (Instr.lookup 74 (.map (some gi)) (.int .u64 id) true).run Tryz.prog V = .ok (.tuple #[r.2, .bool true]) V := by
 rcases id_find h id _ (fun _ => rfl) with ⟨h1, h2⟩ | ⟨j, r, h1, h2, h3, h4⟩
 ·exact .inl ⟨h2, fun V hV => look_no hV Tryz.underlying74 Tryz.underlying38 (by simp [MapKept.IsKey]) h1 (zero_row V)⟩
 ·exact .inr ⟨r, List.mem_of_getElem? h2, h3, h4, fun V hV => look_yes hV Tryz.underlying74 Tryz.underlying38 (by simp [MapKept.IsKey]) h1⟩
theorem blk7 {w : World} {g : Nat} {t : TypeId} {a0 a1 a2 a3 a4 a5 a6 : Value} (h : Blk w g t #[a0, a1, a2, a3, a4, a5, a6]) :
 w.cell? ⟨g, 0, none⟩ = some a0 ∧ w.cell? ⟨g, 1, none⟩ = some a1 ∧ w.cell? ⟨g, 2, none⟩ = some a2 ∧ w.cell? ⟨g, 3, none⟩ = some a3 ∧ w.cell? ⟨g, 4, none⟩ = some a4 ∧ w.cell? ⟨g, 5, none⟩ = some a5 ∧ w.cell? ⟨g, 6, none⟩ = some a6 := ⟨h.cell 0, h.cell 1, h.cell 2, h.cell 3, h.cell 4, h.cell 5, h.cell 6⟩
end Go.Proofs.YtnfpgadegpmhkaaGreatDoor
