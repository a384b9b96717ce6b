/- strings.Builder with a Buf in it: copyCheck. -/
import Derived.Test.YtnfpgadegpmhkaaGreatDoorProg
import Derived.Test.YtnfpgadegpmhkaaGreatDoorKA5
import Derived.Shelf.Strings.Builder1
import Derived.WalkSpells
import Derived.LoopTactic
import Derived.RangeFuncOwn
import Derived.Shelf.RegionOpen
set_option linter.unusedVariables false
set_option linter.unusedSimpArgs false
set_option maxRecDepth 100000
set_option maxHeartbeats 1000000
namespace Go.Proofs.YtnfpgadegpmhkaaGreatDoor
open Go.RowKit
theorem info_byteB : (Tryz.prog.info? 5).map (fun i => (i.zero, i.size, i.bytes)) = some (some (.int .u8 0), 1, 1) := by kernel_rfl
theorem bld_size : (Tryz.prog.info? 119).map (·.size) = some 2 := by kernel_rfl
theorem bld_lies : liesAt Tryz.prog (Tryz.prog).depth 119 (2 / (Tryz.prog).cellsOf 119) 0 119 1 = true := by kernel_rfl
theorem byte_cells1 : (Tryz.prog).cellsOf 5 = 1 := by kernel_rfl
theorem Blk.shape {w : World} {g : Nat} {t : TypeId} {cs : Array Value} (h : Blk w g t cs) : w.shape? g = some (t, cs.size) := by
 unfold Blk at h; simp [World.shape?, h]
def Bld (w : World) (base b : Nat) (l : List UInt8) : Prop := b < base ∧ ∃ p v, Blk w b 119 #[p, v] ∧ (p = .pointer none ∨ p = .pointer (some ⟨b, 0, none⟩)) ∧ Buf w base 5 v l ∧ (l = [] → v = .slice none 0 0)
theorem copyCheck_c (b : Nat) (w : World) (p v : Value) (h : Blk w b 119 #[p, v]) (hp : p = .pointer none ∨ p = .pointer (some ⟨b, 0, none⟩)) :
 Calls Tryz.prog 149 #[.pointer (some ⟨b, 0, none⟩)] w fun e w' => e = .returned (.tuple #[]) ∧ (w' = w ∨ w' = w.setCell ⟨b, 0, none⟩ (.pointer (some ⟨b, 0, none⟩))) ∧ Blk w' b 119 #[.pointer (some ⟨b, 0, none⟩), v] := by
 obtain ⟨j, hj, hjs⟩ := Option.map_eq_some_iff.1 bld_size
 have hsh : w.shape? b = some (119, 2) := h.shape
 have c0 := h.cell 0
 have f0 := h.frozen 0
 have HS := Lib.hid (h.set 0 (.pointer (some ⟨b, 0, none⟩)))
 have HH := Lib.hid h
 clear h
 rcases hp with rfl | rfl
 ·replace c0 : w.cell? ⟨b, 0, none⟩ = some (.pointer none) := c0
  go_enter Tryz.func149, Tryz.ntmps149
  go_wp2
  rw [Lib.run_to_unsafe w ⟨b, 0, none⟩ Tryz.underlying116 Tryz.underlying211 hj (by rw [hjs]; decide) hsh (Nat.zero_lt_succ 1)]
  simp only [Result.andThen]
  rw [Oper.upon_value]
  go_wp2
  rw [run_callFunc_extern Tryz.func171 (by kernel_rfl) (by kernel_rfl) (by kernel_rfl) (e := Extern.AbiNoEscape.same) (by kernel_rfl)]
  rw [Lib.run_noEscape]
  simp only [Result.andThen]
  rw [Oper.upon_value]
  go_wp2
  rw [Lib.run_from_unsafe w ⟨b, 0, none⟩ Tryz.underlying211 Tryz.underlying116 hj hsh bld_lies]
  simp only [Result.andThen]
  rw [Oper.upon_value]
  go_wp2
  go_end0
  exact ⟨rfl, .inr rfl, HS.out⟩
 ·replace c0 : w.cell? ⟨b, 0, none⟩ = some (.pointer (some ⟨b, 0, none⟩)) := c0
  go_enter Tryz.func149, Tryz.ntmps149
  go_wp2
  rw [Lib.run_neq_ptr_same w _ Tryz.underlying116 hj]
  go_wp2
  go_end0
  exact ⟨rfl, .inl rfl, HH.out⟩
structure KeptB (E : TypeId) (base b : Nat) (w w' : World) : Prop where
 os : w'.os = w.os
 tape : w'.tape = w.tape
 output : w'.output = w.output
 size : w.heap.size ≤ w'.heap.size
 block : ∀ k, k < base → k ≠ b → w'.heap[k]? = w.heap[k]?
 other : ∀ (k : Nat) (o : Obj), w.heap[k]? = some o → k ≠ b → (∀ cs fr, o ≠ Obj.cells cs E fr) → w'.heap[k]? = some o
theorem KeptB.refl (E : TypeId) (base b : Nat) (w : World) : KeptB E base b w w := ⟨rfl, rfl, rfl, Nat.le_refl _, fun _ _ _ => rfl, fun _ _ h _ _ => h⟩
theorem KeptB.trans {E : TypeId} {base b : Nat} {x y z : World} (h : KeptB E base b x y) (k : KeptB E base b y z) : KeptB E base b x z :=
 ⟨k.os.trans h.os, k.tape.trans h.tape, k.output.trans h.output, Nat.le_trans h.size k.size, fun i hi hn => (k.block i hi hn).trans (h.block i hi hn), fun i o hi hn ho => k.other i o (h.other i o hi hn ho) hn ho⟩
theorem Kept.b {E : TypeId} {base : Nat} {w w' : World} (h : Kept E base w w') (b : Nat) : KeptB E base b w w' :=
 ⟨h.below.os, h.below.tape, h.below.output, h.below.size, fun k hk _ => h.below.block k hk, fun k o hk _ ho => h.other k o hk ho⟩
theorem KeptB.setCell (E : TypeId) (base b i : Nat) (w : World) (v : Value) : KeptB E base b w (w.setCell ⟨b, i, none⟩ v) :=
 ⟨rfl, rfl, rfl, by simp [World.setCell], fun k _ hn => Below.heap_setCell w ⟨b, i, none⟩ v k hn, fun k o hk hn _ => (Below.heap_setCell w ⟨b, i, none⟩ v k hn).trans hk⟩
theorem KeptB.below {E : TypeId} {base b B : Nat} {w w' : World} (h : KeptB E base b w w') (hB : B ≤ base) (hb : B ≤ b) : Below B w w' :=
 ⟨h.os, h.tape, h.output, h.size, fun k hk => h.block k (by omega) (by omega)⟩
theorem KeptB.kept {E : TypeId} {base b B : Nat} {w w' : World} (h : KeptB E base b w w') (hB : B ≤ base) (hb : B ≤ b) (hw : w.heap.size ≤ b) : Kept E B w w' :=
 ⟨h.below hB hb, fun k o hk ho => h.other k o hk (by have := (Array.getElem?_eq_some_iff.1 hk).1; omega) ho⟩
theorem KeptB.blk {E : TypeId} {base b g : Nat} {w w' : World} {t : TypeId} {cs : Array Value} (hk : KeptB E base b w w') (h : Blk w g t cs) (hn : g ≠ b) (hne : t ≠ E) : Blk w' g t cs :=
 hk.other g _ h hn (by intro c f e; injection e with _ e2; exact hne e2)
theorem Buf.setB {w : World} {base : Nat} {E : TypeId} {v : Value} {l : List UInt8} (h : Buf w base E v l) {b : Nat} (hb : b < base) (i : Nat) (u : Value) : Buf (w.setCell ⟨b, i, none⟩ u) base E v l :=
 h.of_heap fun k hk _ => Below.heap_setCell w ⟨b, i, none⟩ u k (by simp; omega)
theorem writeStr_g (b base : Nat) (w : World) (l : List UInt8) (s : ByteArray) (h : Bld w base b l) (hm0 : l ++ s.data.toList ≠ []) (hbw : base ≤ w.heap.size) (hlen : l.length + s.size ≤ 1099511627776) :
 Calls Tryz.prog 109 #[.pointer (some ⟨b, 0, none⟩), .string s] w fun e w' => e = .returned (.tuple #[.int .i64 s.size, .nilIface]) ∧ Bld w' base b (l ++ s.data.toList) ∧ KeptB 5 base b w w' := by
 obtain ⟨i0, hi, hz0, hz1, hz2⟩ := info_parts info_byteB
 obtain ⟨hbb, p, v, hblk, hp, hbuf, _⟩ := h
 have hblt := hblk.lt
 have HC := Lib.hid (copyCheck_c b w p v hblk hp)
 obtain ⟨A1, c1, rfl, hl1, hl2⟩ := hbuf.form
 have HB := Lib.hid hbuf
 clear hbuf hblk
 go_enter Tryz.func109, Tryz.ntmps109
 go_wp2_with fail
 refine HC.out.mono ?_
 rintro e w1 ⟨rfl, hw1, hblk1⟩
 have HK1 : Hid (KeptB 5 base b w w1) := Lib.hid (by rcases hw1 with rfl | rfl; exact KeptB.refl _ _ _ _; exact KeptB.setCell _ _ _ _ _ _)
 have HB1 : Hid (Buf w1 base 5 (.slice A1 l.length c1) l) := Lib.hid (by rcases hw1 with rfl | rfl; exact HB.out; exact HB.out.setB hbb 0 _)
 have hs1 := HK1.out.size
 clear hw1 HB
 have d1 : w1.cell? ⟨b, 1, none⟩ = some (.slice A1 l.length c1) := hblk1.cell 1
 have HBLK := Lib.hid hblk1
 clear hblk1
 have hD : 119 ≠ 5 := by decide
 go_wp2_with (at_builtin; refine wpList_append_buf (by rfl) (.tmp 12) (.tmp 13) 117 9 (by rfl) base 5 i0 Tryz.underlying117 hi hz0 hz1 hz2 (by rfl) HB1.out _ s.data.toList (by rfl) (src_str Tryz.underlying9 _ s) (by omega) (by rw [toList_size]; omega) ?_; intro A2 n2 cap2 w2 hb2 hk2; have hblk2 := HBLK.out.kept hk2 hD; have f2 := hblk2.frozen 1; have d2 : w2.cell? ⟨b, 1, none⟩ = some (.slice A1 l.length c1) := hblk2.cell 1; have HF : Hid (Bld (w2.setCell ⟨b, 1, none⟩ (.slice A2 n2 cap2)) base b (l ++ s.data.toList)) := Lib.hid ⟨hbb, .pointer (some ⟨b, 0, none⟩), .slice A2 n2 cap2, hblk2.set 1 _, .inr rfl, hb2.setB hbb 1 _, fun h => absurd h hm0⟩; have HK2 : Hid (KeptB 5 base b w (w2.setCell ⟨b, 1, none⟩ (.slice A2 n2 cap2))) := Lib.hid ((HK1.out.trans (hk2.b b)).trans (KeptB.setCell _ _ _ _ _ _)); clear hb2 hk2 hblk2)
 go_ret2
 exact ⟨rfl, HF.out, HK2.out⟩
theorem writeStr_c (b base : Nat) (w : World) (l : List UInt8) (s : ByteArray) (h : Bld w base b l) (hm0 : s.data.toList ≠ []) (hbw : base ≤ w.heap.size) (hlen : l.length + s.size ≤ 1099511627776) :
 Calls Tryz.prog 109 #[.pointer (some ⟨b, 0, none⟩), .string s] w fun e w' => e = .returned (.tuple #[.int .i64 s.size, .nilIface]) ∧ Bld w' base b (l ++ s.data.toList) ∧ KeptB 5 base b w w' :=
 writeStr_g b base w l s h (fun e => hm0 (List.append_eq_nil_iff.1 e).2) hbw hlen
theorem bldString_c (b base : Nat) (w : World) (l : List UInt8) (h : Bld w base b l) (hlen : l.length ≤ 1099511627776) (B : Nat) (hB : B ≤ base) :
 Calls Tryz.prog 78 #[.pointer (some ⟨b, 0, none⟩)] w fun e w' => e = .returned (.string ⟨l.toArray⟩) ∧ Below B w w' ∧ (∀ (k : Nat) (o : Obj), w.heap[k]? = some o → o.isCells = false → w'.heap[k]? = some o) := by
 obtain ⟨hbb, p, v, hblk, hp, hbuf, hnil⟩ := h
 by_cases h0 : l = []
 ·obtain rfl := hnil h0
  subst h0
  have c1 : w.drew.cell? ⟨b, 1, none⟩ = some (.slice none 0 0) := hblk.cell 1
  have hSD : (Builtin.unsafeSliceData_ #[117] 166 #[.slice none 0 0]).run Tryz.prog w.drew = .ok (.pointer none) w.drew := Lib.run_unsafeSliceData_nil _ _ _ _ _
  have hUS : (Builtin.unsafeString_ #[166, 3] 9 #[.pointer none, .int .i64 0]).run Tryz.prog w.drew = .ok (.string .empty) w.drew := Lib.run_unsafeString_none _ _ _ _ _
  clear hbuf hblk hnil
  go_enter Tryz.func78, Tryz.ntmps78
  go_wp2
  go_region
  all_goals (go_wp2; go_ret; exact ⟨rfl, (Below.refl B w).drew, fun _ _ h _ => h⟩)
 ·obtain ⟨A, cap, rfl, h2, h3, h4⟩ := hbuf
  have hl0 : l.length ≠ 0 := by simpa using h0
  rcases h4 with ⟨rfl, rfl⟩ | ⟨g, cur, fr, rfl, hg, hh, hcur, htk, hfr⟩
  ·omega
  ·have c1 : w.drew.cell? ⟨b, 1, none⟩ = some (.slice (some ⟨g, 0, none⟩) l.length cap) := hblk.cell 1
   have hSD : (Builtin.unsafeSliceData_ #[117] 166 #[.slice (some ⟨g, 0, none⟩) l.length cap]).run Tryz.prog w.drew = .ok (.pointer (some ⟨g, 0, none⟩)) w.drew :=
    Lib.run_unsafeSliceData_row _ _ _ _ _ _ (by omega)
   have hUS : (Builtin.unsafeString_ #[166, 3] 9 #[.pointer (some ⟨g, 0, none⟩), .int .i64 l.length]).run Tryz.prog w.drew = .ok (.string ⟨l.toArray⟩) (w.drew.freeze ⟨g, 0, none⟩ l.length) := by
    refine Lib.run_unsafeString_row w.drew 166 3 9 5 Tryz.underlying166 byte_cells1 g cur.size (by have hg' : w.drew.heap[g]? = some (.cells cur 5 fr) := hh; simp [World.shape?, hg']) l h0 (by omega) (by omega) ?_
    intro j x hx
    have hb : Buf w base 5 (.slice (some ⟨g, 0, none⟩) l.length cap) l := ⟨_, cap, rfl, h2, h3, .inr ⟨g, cur, fr, rfl, hg, hh, hcur, htk, hfr⟩⟩
    exact hb.cells ⟨g, 0, none⟩ rfl j (.int .u8 x.toNat) (by rw [cb_at, hx]; rfl)
   have HF : Hid (Below B w (w.drew.freeze ⟨g, 0, none⟩ l.length)) := Lib.hid (Lib.below_freeze (Below.drew (Below.refl B w)) (p := ⟨g, 0, none⟩) (by simp; omega) _)
   have HO : Hid (∀ (k : Nat) (o : Obj), w.heap[k]? = some o → o.isCells = false → (w.drew.freeze ⟨g, 0, none⟩ l.length).heap[k]? = some o) := Lib.hid (by
    intro k o hk ho
    have hne : k ≠ g := by rintro rfl; rw [hh] at hk; injection hk with hk; subst hk; cases ho
    unfold World.freeze
    split
    ·exact hk
    ·simp only [Array.getElem?_modify]
     rw [if_neg (fun e => hne e.symm)]
     exact hk)
   clear hh hcur htk hfr hblk hnil hp h0 hl0
   generalize l.length = n at *
   generalize (⟨l.toArray⟩ : ByteArray) = X at *
   go_enter Tryz.func78, Tryz.ntmps78
   go_wp2
   go_region
   all_goals (go_wp2; go_ret; exact ⟨rfl, HF.out, HO.out⟩)
end Go.Proofs.YtnfpgadegpmhkaaGreatDoor
