/- split.each: the iterator over the frames of some bytes. -/
import Derived.Test.YtebllmpdlapefaaGreatDoorKA34
import Derived.Test.YtebllmpdlapefaaGreatDoorKA35
import Derived.Test.YtebllmpdlapefaaGreatDoorKA32
import Derived.Test.YtebllmpdlapefaaGreatDoorKA13
import Derived.Sort.QuietIn
import Derived.Sort.CutIn
import Derived.WalkSpells
namespace Go.Proofs.YtebllmpdlapefaaGreatDoor
set_option linter.unusedVariables false
set_option linter.unusedSimpArgs false
open Go.RowKit Go.Shelf

def cfgCells (c : Cfg) : Array Value := #[.int .i64 c.fm, .int .u32 c.mg, .int .i64 c.fr, .int .i64 c.un, .int .i64 c.de, .int .i64 c.it]
theorem each_c (c : Cfg) (s : ByteArray) (ff : Nat) (w : World) :
    Calls Tryz.prog 55 #[c.val, .string s, .pointer (some ⟨ff, 0, none⟩)] w fun e w' => e = .returned (.func (.func 89) #[] #[.pointer (some ⟨w.heap.size + 1, 0, none⟩), .pointer (some ⟨w.heap.size, 0, none⟩), .pointer (some ⟨w.heap.size + 1 + 1, 0, none⟩)]) ∧ w' = ((w.alloc (.cells (cfgCells c) 24)).alloc (.cells #[.string s] 9)).alloc (.cells #[.pointer (some ⟨ff, 0, none⟩)] 101) := by
  unfold Cfg.val cfgCells
  go_enter Tryz.func55, Tryz.ntmps55
  go_wp2
  go_ret
  exact ⟨rfl, rfl⟩
def encF (x : Fr × Nat) : Array Value := #[x.1.val, .int .i64 x.2]
/-- The boxes of the iterator, and the caller's box for the error, stand. -/
structure KeepF (ff bb : Nat) (A B : World) : Prop where
  f : B.heap[ff]? = A.heap[ff]?
  c : B.heap[bb]? = A.heap[bb]?
  s : B.heap[bb + 1]? = A.heap[bb + 1]?
  p : B.heap[bb + 1 + 1]? = A.heap[bb + 1 + 1]?
theorem KeepF.trans {ff bb : Nat} {A B C : World} (h : KeepF ff bb A B) (k : KeepF ff bb B C) : KeepF ff bb A C := ⟨k.f.trans h.f, k.c.trans h.c, k.s.trans h.s, k.p.trans h.p⟩
structure EachB (ff bb : Nat) (c : Cfg) (s : ByteArray) (e0 : Int) (w : World) : Prop where
  f : Blk w ff 34 #[.int .i64 e0]
  c : Blk w bb 24 (cfgCells c)
  s : Blk w (bb + 1) 9 #[.string s]
  p : Blk w (bb + 1 + 1) 101 #[.pointer (some ⟨ff, 0, none⟩)]
theorem EachB.keep {ff bb : Nat} {c : Cfg} {s : ByteArray} {e0 : Int} {w w' : World} (h : EachB ff bb c s e0 w) (k : KeepF ff bb w w') : EachB ff bb c s e0 w' := ⟨k.f.trans h.f, k.c.trans h.c, k.s.trans h.s, k.p.trans h.p⟩
theorem EachB.below {ff bb B : Nat} {c : Cfg} {s : ByteArray} {e0 : Int} {w w' : World} (h : EachB ff bb c s e0 w) (hb : Below B w w') (hf : ff < B) (hB : bb + 1 + 1 < B) : EachB ff bb c s e0 w' := ⟨h.f.keep hb hf, h.c.keep hb (by omega), h.s.keep hb (by omega), h.p.keep hb hB⟩
theorem grown_of_below {w w' : World} (hb : Below w.heap.size w w') : w.grownBy w' none := ⟨hb.os, hb.tape, hb.output, hb.size, fun k hk _ => hb.block k hk⟩
set_option maxRecDepth 100000 in
set_option maxHeartbeats 2000000 in
theorem each_tells (n bb ff : Nat) (c : Cfg) (s : ByteArray) (e0 : Int) (w : World) (hc : c.ok) (hs : s.size ≤ 1099511627776) (hE : EachB ff bb c s e0 w) :
    SeqTells Fence.wide n Tryz.prog 89 #[.pointer (some ⟨bb + 1, 0, none⟩), .pointer (some ⟨bb, 0, none⟩), .pointer (some ⟨bb + 1 + 1, 0, none⟩)] encF (KeepF ff bb) ff (fun xs u => xs = frs (wNext c) s ∧ u = .int .i64 (wNext c (split (wNext c) s).2.1).1) (fun pre x => (pre ++ [x]) <+: frs (wNext c) s) w := by
  intro l J W hW hJ hY h0
  have HJ := Lib.hid hJ
  have HY := Lib.hid hY
  have HOK := Lib.hid (wNext_ok c)
  clear hJ hY
  have hE0 : EachB ff bb c s e0 W := ⟨hE.f.keep hW hE.f.lt, hE.c.keep hW hE.c.lt, hE.s.keep hW hE.s.lt, hE.p.keep hW hE.p.lt⟩
  clear hE hW
  have c9 : W.cell? ⟨bb + 1, 0, none⟩ = some (.string s) := hE0.s.cell 0
  have HE0 := Lib.hid hE0
  clear hE0
  refine callsIn_of_wp Tryz.func89 rfl trivial ?_ rfl
  simp only [Tryz.ntmps89, List.size_toArray, List.length_cons, List.length_nil, Nat.reduceAdd, Nat.reduceSub, Array.replicate_succ, Array.replicate_zero, List.push_toArray, List.append_toArray, List.nil_append, List.cons_append]
  gi_wp2
  gi_loopw [5] (fun i wr => ∃ r : ByteArray, i = .string r ∧ r.size ≤ 1099511627776 ∧ ∃ pre, Hid (frs (wNext c) s = pre ++ frs (wNext c) r) ∧ Hid ((split (wNext c) s).2.1 = (split (wNext c) r).2.1) ∧ Hid (pre.length + r.size ≤ s.size) ∧ Hid (J pre wr) ∧ Hid (EachB ff bb c s e0 wr)) (fun i _ => strOf i)
  case atStart => exact ⟨s, rfl, hs, [], Lib.hid rfl, Lib.hid rfl, Lib.hid (by simp), Lib.hid h0, HE0⟩
  case round =>
    obtain ⟨r, rfl, hr, pre, HF, HT, HL, HJk, HE⟩ := hrel
    clear h0 HE0 c9
    have HN := Lib.hid (fun V => wNext_c c r hc hr V)
    have HGO : Hid ((wNext c r).1 = 0 → 0 < (wNext c r).2.2.1 ∧ (wNext c r).2.2.1 ≤ r.size ∧ frs (wNext c) s = (pre ++ [((wNext c r).2.1, (wNext c r).2.2.1)]) ++ frs (wNext c) (r.extract (wNext c r).2.2.1 r.size) ∧ (split (wNext c) s).2.1 = (split (wNext c) (r.extract (wNext c r).2.2.1 r.size)).2.1) := Lib.hid (fun h => by
      obtain ⟨p1, p2⟩ := HOK.out.pos r h
      refine ⟨p1, p2, ?_, ?_⟩
      · rw [HF.out, frs_go HOK.out h]; simp
      · rw [HT.out, split_go HOK.out h]; rfl)
    have HST : Hid ((wNext c r).1 ≠ 0 → frs (wNext c) s = pre ∧ (wNext c (split (wNext c) s).2.1).1 = (wNext c r).1) := Lib.hid (fun h => by
      refine ⟨by rw [HF.out, frs_stop h]; simp, ?_⟩
      rw [HT.out, split_eq HOK.out r, if_neg h])
    obtain ⟨X, hX⟩ : ∃ X, wNext c r = X := ⟨_, rfl⟩
    rw [hX] at HN HGO HST
    clear hX
    obtain ⟨er, ⟨y1, y2, y3⟩, k, m⟩ := X
    simp only at HGO HST
    unfold wRet Fr.val Cfg.val at HN
    simp only at HN
    have g0 : wr.cell? ⟨bb, 0, none⟩ = some (.int .i64 c.fm) := HE.out.c.cell 0
    have g1 : wr.cell? ⟨bb, 1, none⟩ = some (.int .u32 c.mg) := HE.out.c.cell 1
    have g2 : wr.cell? ⟨bb, 2, none⟩ = some (.int .i64 c.fr) := HE.out.c.cell 2
    have g3 : wr.cell? ⟨bb, 3, none⟩ = some (.int .i64 c.un) := HE.out.c.cell 3
    have g4 : wr.cell? ⟨bb, 4, none⟩ = some (.int .i64 c.de) := HE.out.c.cell 4
    have g5 : wr.cell? ⟨bb, 5, none⟩ = some (.int .i64 c.it) := HE.out.c.cell 5
    by_cases h1 : er = 0
    · subst h1
      obtain ⟨p1, p2, HF2, HT2⟩ := HGO.out rfl
      have HF2 := Lib.hid HF2
      have HT2 := Lib.hid HT2
      clear HGO HST HF HT
      gi_wp2_with fail
      refine ⟨trivial, (by intro h; cases h), (callsIn_wide.2 (HN.out _)).mono ?_⟩
      rintro e w1 ⟨rfl, hb⟩
      clear g0 g1 g2 g3 g4 g5
      obtain ⟨wq, hwq⟩ : ∃ wq, w1.alloc (.cells #[.int .u64 y1, .string y2, .string y3] 27) = wq := ⟨_, rfl⟩
      have hbq : Below wr.heap.size wr wq := by rw [← hwq]; exact hb.alloc hb.size _
      have HJQ : Hid (J pre wq) := Lib.hid (HJ.out _ _ _ none HJk.out (grown_of_below hbq) (fun r e => by cases e))
      have HEQ : Hid (EachB ff bb c s e0 wq) := Lib.hid (HE.out.below hbq HE.out.f.lt HE.out.p.lt)
      have HFQ : Hid (Blk wq w1.heap.size 27 #[.int .u64 y1, .string y2, .string y3]) := Lib.hid (by rw [← hwq]; exact Blk.new _ _ _)
      have HWQ := Lib.hid hwq
      clear hwq hb hbq HJk HE
      have HYQ := Lib.hid (HY.out pre (⟨y1, y2, y3⟩, k) wq HJQ.out ⟨_, HF2.out.symm⟩)
      clear HY
      obtain ⟨fn, tmps, assign, body, hy, hR⟩ := HYQ.out
      simp only [encF, Fr.val] at hy
      have HRR := Lib.hid hR
      clear hR HYQ
      obtain ⟨g0, g1, g2, f0, f1, f2⟩ := blk3 HFQ.out
      have hzq : w1.heap.size < wq.heap.size := HFQ.out.lt
      rw [← HWQ.out] at hy HRR
      gi_wp2
      rw [HWQ.out] at HRR ⊢
      refine ⟨(by intro h; cases h), HRR.out.mono ?_⟩
      rintro e W3 ⟨rfl, hJ3, hk3⟩
      have HE3 := Lib.hid (HEQ.out.keep hk3)
      have HJ3 := Lib.hid hJ3
      clear hk3 hJ3 HRR HEQ HJQ g0 g1 g2 f0 f1 f2 hy HFQ HWQ hzq
      have p3 : (k : Int) ≤ r.size := by omega
      gi_wp2
      go_roundw
      case rel => exact ⟨_, rfl, by rw [size_cut _ _ _ (Nat.le_refl _)]; omega, _, HF2, HT2, Lib.hid (by have := HL.out; rw [size_cut _ _ _ (Nat.le_refl _)]; simp; omega), HJ3, HE3⟩
      case measure => simp [strOf]; omega
    · obtain ⟨hst1, hst2⟩ := HST.out h1
      have HS1 := Lib.hid hst1
      have HS2 := Lib.hid hst2
      have h2 : (er != 0) = true := bne_iff_ne.2 h1
      clear hst1 hst2 HGO HST HF HT
      gi_wp2_with fail
      refine ⟨trivial, (by intro h; cases h), (callsIn_wide.2 (HN.out _)).mono ?_⟩
      rintro e w1 ⟨rfl, hb⟩
      clear g0 g1 g2 g3 g4 g5
      obtain ⟨wq, hwq⟩ : ∃ wq, w1.alloc (.cells #[.int .u64 y1, .string y2, .string y3] 27) = wq := ⟨_, rfl⟩
      have hbq : Below wr.heap.size wr wq := by rw [← hwq]; exact hb.alloc hb.size _
      have HJQ : Hid (J pre wq) := Lib.hid (HJ.out _ _ _ none HJk.out (grown_of_below hbq) (fun r e => by cases e))
      have HEQ : Hid (EachB ff bb c s e0 wq) := Lib.hid (HE.out.below hbq HE.out.f.lt HE.out.p.lt)
      have HWQ := Lib.hid hwq
      clear hwq hb hbq HJk HE
      have g0 : (w1.alloc (.cells #[.int .u64 y1, .string y2, .string y3] 27)).cell? ⟨bb + 1 + 1, 0, none⟩ = some (.pointer (some ⟨ff, 0, none⟩)) := by rw [HWQ.out]; exact HEQ.out.p.cell 0
      have g1 : (w1.alloc (.cells #[.int .u64 y1, .string y2, .string y3] 27)).cell? ⟨ff, 0, none⟩ = some (.int .i64 e0) := by rw [HWQ.out]; exact HEQ.out.f.cell 0
      have g2 : (w1.alloc (.cells #[.int .u64 y1, .string y2, .string y3] 27)).frozen? ⟨ff, 0, none⟩ = false := by rw [HWQ.out]; exact HEQ.out.f.frozen 0
      gi_wp2
      rw [HWQ.out]
      refine bodyPost_ret (results_none rfl _ _ _) rfl ?_
      exact ⟨⟨_, rfl⟩, pre, wq, _, ⟨HS1.out.symm, by rw [HS2.out]⟩, HJQ.out, rfl⟩
end Go.Proofs.YtebllmpdlapefaaGreatDoor
