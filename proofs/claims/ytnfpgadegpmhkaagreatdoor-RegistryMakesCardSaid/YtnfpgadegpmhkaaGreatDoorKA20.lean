/- Package typed: Of, and what the kinds of types say; the table of the kinds. -/
import Derived.Test.YtnfpgadegpmhkaaGreatDoorKA19
import Derived.Test.YtnfpgadegpmhkaaGreatDoorKA2
import Derived.MapKept
import Derived.Deep.DeepFit
import Derived.WalkSpells
import Derived.Test.YtnfpgadegpmhkaaGreatDoorKA3
set_option linter.unusedVariables false
set_option linter.unusedSimpArgs false
set_option maxRecDepth 100000
set_option maxHeartbeats 4000000
namespace Go.Proofs.YtnfpgadegpmhkaaGreatDoor
open Go.RowKit
theorem be_bits (n b : Nat) (hb : b < 256) (hn : n < 72057594037927936) : bits .or .u64 (IntKind.u64.wrap ((n : Int) * 256)) (IntKind.u64.wrap (b : Int)) = ((256 * n + b : Nat) : Int) := by
 have h1 : ((n : Int) * 256) = ((n * 2 ^ (8 * 1) : Nat) : Int) := by simp
 rw [IntWalk.u64_in (b : Int) (by omega), h1, IntWalk.u64_in _ (by omega), u64_or_nat _ _ (by omega) (by omega), Nat.or_comm, le_or b n 1 (by simpa using hb)]
 omega
theorem getBig_c (s : ByteArray) (w : World) (h0 : 0 < s.size) (h8 : s.size ≤ 8) :
 Calls Tryz.prog 170 #[.string s] w fun e w' => e = .returned (.tuple #[.int .u64 (beL s.data.toList), .int .i64 0]) ∧ w = w' := by
 have hz : ((s.size : Int) == 0) = false := beq_eq_false_iff_ne.2 (by omega)
 go_enter Tryz.func170, Tryz.ntmps170
 go_wp2
 go_loop [5, 15] (fun n i => ∃ k m : Nat, k ≤ s.size ∧ Hid (m = beL (s.data.toList.take k)) ∧ n = .int .u64 m ∧ i = .int .i64 k) (fun _ i => s.size - (intOf i).toNat)
 case atStart => exact ⟨0, 0, by omega, rfl, rfl, rfl⟩
 case round =>
  obtain ⟨k, m, hk, hm, rfl, rfl⟩ := hrel
  by_cases hlt : k < s.size
  ·go_wp2
   have hb := s[k].toNat_lt
   have hn := beL_lt (s.data.toList.take k)
   rw [length_take s k hk, ← hm.out] at hn
   have hp : 2 ^ (8 * k) ≤ 2 ^ 56 := Nat.pow_le_pow_right (by omega) (by omega)
   have e := be_bits m s[k].toNat hb (by omega)
   go_round
   case rel =>
    refine ⟨k + 1, _, by omega, Lib.hid rfl, ?_, by go_num⟩
    rw [take_snoc s k hlt, beL_snoc, ← hm.out, ← e]
   case measure => simp [intOf]; omega
  ·go_wp2
   go_ret2
   exact ⟨ret2_num rfl (by rw [hm.out, List.take_of_length_le (by simp; omega)]), rfl⟩
def glE (s : ByteArray) : Int := if s.size = 0 then 0 else if 8 < s.size then 5 else if lead0 s.data.toList then 3 else 0
def glN (s : ByteArray) : Nat := if glE s = 0 then beL s.data.toList else 0
theorem lead0_at (s : ByteArray) (h : 0 < s.size) : lead0 s.data.toList = decide (s[0].toNat = 0) := by
 have := drop_cons s 0 h
 rw [List.drop_zero] at this
 rw [this]
 simp only [lead0]
 by_cases e : s[0] = 0
 ·simp [e]
 ·have : s[0].toNat ≠ 0 := fun h => e (UInt8.toNat_inj.1 h)
  simp [e, this]
theorem getLeast_c (s : ByteArray) (w : World) (hs : s.size ≤ 9223372036854775807) :
 Calls Tryz.prog 147 #[.string s] w fun e w' => e = .returned (.tuple #[.int .u64 (glN s), .int .i64 (glE s)]) ∧ w = w' := by
 rcases empty_ways s with ⟨hz, rfl⟩ | ⟨hz, hz1, hz2⟩
 ·have H1 : Hid (glN ⟨#[]⟩ = 0) := Lib.hid (by simp [glN, glE, ByteArray.size, beL, leL])
  have H2 : Hid (glE ⟨#[]⟩ = 0) := Lib.hid (by simp [glE, ByteArray.size])
  generalize glN ⟨#[]⟩ = N at *
  generalize glE ⟨#[]⟩ = E at *
  clear hz
  go_enter Tryz.func147, Tryz.ntmps147
  go_wp2
  go_ret2
  exact ⟨by rw [H1.out, H2.out]; rfl, rfl⟩
 ·have hp : 0 < s.size := by
   rcases Nat.eq_zero_or_pos s.size with h | h
   ·exact absurd h (by first | exact hz | omega)
   ·exact h
  by_cases h8 : s.size ≤ 8
  ·have hl := lead0_at s hp
   by_cases h0 : s[0].toNat = 0
   ·have H2 : Hid (glE s = 3) := Lib.hid (by unfold glE; rw [if_neg (by omega), if_neg (by omega), hl, h0]; rfl)
    have H1 : Hid (glN s = 0) := Lib.hid (by simp [glN, H2.out])
    have e1 : ((s[0].toNat : Int) == 0) = true := by simp [h0]
    generalize glN s = N at *
    generalize glE s = E at *
    clear hz h0 hl
    go_enter Tryz.func147, Tryz.ntmps147
    go_wp2
    go_ret2
    exact ⟨by rw [H1.out, H2.out]; rfl, rfl⟩
   ·have H2 : Hid (glE s = 0) := Lib.hid (by unfold glE; rw [if_neg (by omega), if_neg (by omega), hl, decide_eq_false h0]; rfl)
    have H1 : Hid (glN s = beL s.data.toList) := Lib.hid (by simp [glN, H2.out])
    have e1 : ((s[0].toNat : Int) == 0) = false := beq_eq_false_iff_ne.2 (by omega)
    have HC := Lib.hid (getBig_c s w hp h8)
    rw [← H1.out] at HC
    generalize glN s = N at *
    generalize glE s = E at *
    clear hz h0 hl
    go_enter Tryz.func147, Tryz.ntmps147
    go_wp2_with fail
    refine HC.out.mono ?_
    rintro e w' ⟨rfl, rfl⟩
    go_wp2
    go_ret2
    exact ⟨by rw [H2.out]; rfl, rfl⟩
  ·have H2 : Hid (glE s = 5) := Lib.hid (by unfold glE; rw [if_neg (by omega), if_pos (by omega)])
   have H1 : Hid (glN s = 0) := Lib.hid (by simp [glN, H2.out])
   generalize glN s = N at *
   generalize glE s = E at *
   clear hz
   go_enter Tryz.func147, Tryz.ntmps147
   go_wp2
   go_ret2
   exact ⟨by rw [H1.out, H2.out]; rfl, rfl⟩
def ofE (tx : ByteArray) (l : Bool) : Int := if l then 12 else glE tx
def ofN (tx : ByteArray) (l : Bool) : Nat := if l then 0 else glN tx
theorem of_c (tx : ByteArray) (l : Bool) (c2 : Value) (w : World) (hs : tx.size ≤ 9223372036854775807) :
 Calls Tryz.prog 107 #[.agg #[.string tx, .bool l, c2]] w fun e w' => e = .returned (.tuple #[.int .u64 (ofN tx l), .int .i64 (ofE tx l)]) ∧ Below w.heap.size w w' := by
 cases l with
 | true =>
  simp only [ofN, ofE, if_true]
  go_enter Tryz.func107, Tryz.ntmps107
  go_wp2
  go_ret2
  exact ⟨rfl, blw⟩
 | false =>
  have HC := Lib.hid (fun w => getLeast_c tx w hs)
  have H1 : Hid (ofN tx false = glN tx) := Lib.hid rfl
  have H2 : Hid (ofE tx false = glE tx) := Lib.hid rfl
  rw [H1.out, H2.out]
  generalize glN tx = N at *
  generalize glE tx = E at *
  go_enter Tryz.func107, Tryz.ntmps107
  go_wp2_with fail
  refine (HC.out _).mono ?_
  rintro e w' ⟨rfl, rfl⟩
  go_wp2
  go_ret2
  exact ⟨rfl, blw⟩
theorem fitU_c (k s ta : Int) (c2 : Value) (tx : ByteArray) (l : Bool) (d2 : Value) (w : World) (hs : tx.size ≤ 9223372036854775807) (h8 : s ≤ 8) :
 Calls Tryz.prog 131 #[.agg #[.int .i64 k, .int .i64 s, c2, .int .i64 ta], .agg #[.string tx, .bool l, d2]] w fun e w' => e = .returned (.bool (!l && decide ((tx.size : Int) ≤ s) && !lead0 tx.data.toList)) ∧ Below w.heap.size w w' := by
 have HC := Lib.hid (fun w => of_c tx l d2 w hs)
 obtain ⟨R, HR⟩ : ∃ R, Hid ((!l && decide ((tx.size : Int) ≤ s) && !lead0 tx.data.toList) = R) := ⟨_, Lib.hid rfl⟩
 rw [HR.out]
 obtain ⟨E, HE⟩ : ∃ E, Hid (ofE tx l = E) := ⟨_, Lib.hid rfl⟩
 rw [HE.out] at HC
 generalize ofN tx l = N at *
 by_cases hz : E = 0
 ·subst hz
  have HX : Hid (R = decide ((tx.size : Int) ≤ s)) := Lib.hid (by
   have h := HE.out
   rw [← HR.out]
   unfold ofE glE at h
   cases l with
   | true => simp at h
   | false =>
    simp only [Bool.not_false, Bool.true_and]
    by_cases h0 : tx.size = 0
    ·have : tx.data.toList = [] := List.eq_nil_of_length_eq_zero (by rw [toList_size]; exact h0)
     simp [this, lead0]
    ·rw [if_neg (by simp), if_neg h0] at h
     split at h
     ·simp at h
     ·split at h
      ·simp at h
      ·rename_i hl; simp [hl])
  clear HR HE
  go_enter Tryz.func131, Tryz.ntmps131
  go_wp2_with fail
  refine (HC.out _).mono ?_
  rintro e w1 ⟨rfl, hb⟩
  have hb' := hb
  simp only [World.size_alloc] at hb'
  have hbb : Below w.heap.size w w1 := ((Below.refl w.heap.size w).alloc (Nat.le_refl _) _ |>.alloc (by simp) _).trans (hb'.mono (by omega))
  have m1 : Blk w1 w.heap.size 55 #[.int .i64 k, .int .i64 s, c2, .int .i64 ta] := ((Blk.new w _ _).alloc _).only (Only.of_below hb (Nat.le_refl _)) (by simp)
  have m2 : Blk w1 (w.heap.size + 1) 28 #[.string tx, .bool l, d2] := (show Blk _ (w.heap.size + 1) _ _ from by have := Blk.new (w.alloc (.cells #[.int .i64 k, .int .i64 s, c2, .int .i64 ta] 55)) 28 #[.string tx, .bool l, d2]; simpa using this).only (Only.of_below hb (Nat.le_refl _)) (by simp)
  have g1 := m1.cell 1
  have g2 := m2.cell 0
  clear hb hb' m1 m2
  go_wp2
  go_ret
  exact ⟨by rw [HX.out]; rfl, hbb⟩
 ·have HX : Hid (R = false) := Lib.hid (by
   have h := HE.out
   rw [← HR.out]
   unfold ofE glE at h
   cases l with
   | true => simp
   | false =>
    simp only [Bool.not_false, Bool.true_and]
    by_cases h0 : tx.size = 0
    ·simp [h0] at h; exact absurd h.symm hz
    ·rw [if_neg (by simp), if_neg h0] at h
     by_cases h9 : 8 < tx.size
     ·rw [decide_eq_false (by omega)]; rfl
     ·rw [if_neg h9] at h
      by_cases hl : lead0 tx.data.toList = true
      ·simp [hl]
      ·rw [if_neg hl] at h; exact absurd h.symm hz)
  have e1 : (E == 0) = false := beq_eq_false_iff_ne.2 hz
  clear HR HE hz
  go_enter Tryz.func131, Tryz.ntmps131
  go_wp2_with fail
  refine (HC.out _).mono ?_
  rintro e w1 ⟨rfl, hb⟩
  simp only [World.size_alloc] at hb
  have hbb : Below w.heap.size w w1 := ((Below.refl w.heap.size w).alloc (Nat.le_refl _) _ |>.alloc (by simp) _).trans (hb.mono (by omega))
  go_wp2
  go_ret
  exact ⟨by rw [HX.out]; rfl, hbb⟩
theorem fitF_c (k s ta : Int) (A : Option Addr) (n cap : Nat) (tx : ByteArray) (l : Bool) (A' : Option Addr) (m cap' : Nat) (w : World) (hs : tx.size ≤ 9223372036854775807) (hn : n ≤ 9223372036854775807) (hm : m ≤ 9223372036854775807) (ht1 : 0 ≤ ta) (ht2 : ta ≤ n) :
 Calls Tryz.prog 132 #[.agg #[.int .i64 k, .int .i64 s, .slice A n cap, .int .i64 ta], .agg #[.string tx, .bool l, .slice A' m cap']] w fun e w' => e = .returned (.bool (!l && decide ((tx.size : Int) = s))) ∧ Below w.heap.size w w' := by
 obtain ⟨R, HR⟩ : ∃ R, Hid ((!l && decide ((tx.size : Int) = s)) = R) := ⟨_, Lib.hid rfl⟩
 rw [HR.out]
 go_enter Tryz.func132, Tryz.ntmps132
 cases l
 all_goals
  go_wp2
  all_goals
   go_ret
   refine ⟨ret_bool ?_, blw⟩
   rw [← HR.out, Bool.eq_iff_iff]
   simp
   try omega
theorem fitB_c (k s ta : Int) (A : Option Addr) (n cap : Nat) (tx : ByteArray) (l : Bool) (A' : Option Addr) (m cap' : Nat) (w : World) (hs : tx.size ≤ 9223372036854775807) (hn : n ≤ 9223372036854775807) (hm : m ≤ 9223372036854775807) (ht1 : 0 ≤ ta) (ht2 : ta ≤ n) :
 Calls Tryz.prog 135 #[.agg #[.int .i64 k, .int .i64 s, .slice A n cap, .int .i64 ta], .agg #[.string tx, .bool l, .slice A' m cap']] w fun e w' => e = .returned (.bool (!l && decide ((tx.size : Int) ≤ s))) ∧ Below w.heap.size w w' := by
 obtain ⟨R, HR⟩ : ∃ R, Hid ((!l && decide ((tx.size : Int) ≤ s)) = R) := ⟨_, Lib.hid rfl⟩
 rw [HR.out]
 go_enter Tryz.func135, Tryz.ntmps135
 cases l
 all_goals
  go_wp2
  all_goals
   go_ret
   refine ⟨ret_bool ?_, blw⟩
   rw [← HR.out, Bool.eq_iff_iff]
   simp
   try omega
theorem fitL_c (k s ta : Int) (A : Option Addr) (n cap : Nat) (tx : ByteArray) (l : Bool) (A' : Option Addr) (m cap' : Nat) (w : World) (hs : tx.size ≤ 9223372036854775807) (hn : n ≤ 9223372036854775807) (hm : m ≤ 9223372036854775807) (ht1 : 0 ≤ ta) (ht2 : ta ≤ n) :
 Calls Tryz.prog 136 #[.agg #[.int .i64 k, .int .i64 s, .slice A n cap, .int .i64 ta], .agg #[.string tx, .bool l, .slice A' m cap']] w fun e w' => e = .returned (.bool (l && decide ((m : Int) ≤ s))) ∧ Below w.heap.size w w' := by
 obtain ⟨R, HR⟩ : ∃ R, Hid ((l && decide ((m : Int) ≤ s)) = R) := ⟨_, Lib.hid rfl⟩
 rw [HR.out]
 go_enter Tryz.func136, Tryz.ntmps136
 cases l
 all_goals
  go_wp2
  all_goals
   go_ret
   refine ⟨ret_bool ?_, blw⟩
   rw [← HR.out, Bool.eq_iff_iff]
   simp
   try omega
theorem fitS_c (k s ta : Int) (A : Option Addr) (n cap : Nat) (tx : ByteArray) (l : Bool) (A' : Option Addr) (m cap' : Nat) (w : World) (hs : tx.size ≤ 9223372036854775807) (hn : n ≤ 9223372036854775807) (hm : m ≤ 9223372036854775807) (ht1 : 0 ≤ ta) (ht2 : ta ≤ n) :
 Calls Tryz.prog 139 #[.agg #[.int .i64 k, .int .i64 s, .slice A n cap, .int .i64 ta], .agg #[.string tx, .bool l, .slice A' m cap']] w fun e w' => e = .returned (.bool (l && decide (m ≤ n) && decide ((n : Int) - ta ≤ m))) ∧ Below w.heap.size w w' := by
 obtain ⟨R, HR⟩ : ∃ R, Hid ((l && decide (m ≤ n) && decide ((n : Int) - ta ≤ m)) = R) := ⟨_, Lib.hid rfl⟩
 rw [HR.out]
 go_enter Tryz.func139, Tryz.ntmps139
 cases l
 all_goals
  go_wp2
  all_goals
   go_ret
   refine ⟨ret_bool ?_, blw⟩
   rw [← HR.out, Bool.eq_iff_iff]
   simp
   try omega
def kUint : Value := .agg #[.func (.func 131) #[] #[], .func (.func 129) #[] #[]]
def kFixed : Value := .agg #[.func (.func 132) #[] #[], .func (.func 133) #[] #[]]
def kBytes : Value := .agg #[.func (.func 135) #[] #[], .func (.func 129) #[] #[]]
def kList : Value := .agg #[.func (.func 136) #[] #[], .func (.func 137) #[] #[]]
def kStruct : Value := .agg #[.func (.func 139) #[] #[], .func (.func 140) #[] #[]]
def kEs : List MapEntry := [⟨.int .i64 1, kUint, 0⟩, ⟨.int .i64 2, kFixed, 1⟩, ⟨.int .i64 3, kBytes, 2⟩, ⟨.int .i64 4, kList, 3⟩, ⟨.int .i64 5, kStruct, 4⟩]
theorem set_new (w : World) (o o' : Obj) : ({ (w.alloc o) with heap := (w.alloc o).heap.setIfInBounds w.heap.size o' } : World) = w.alloc o' := by
 have h : (w.heap.push o).setIfInBounds w.heap.size o' = w.heap.push o' := by
  apply Array.ext'
  simp
 show ({ w with heap := (w.heap.push o).setIfInBounds w.heap.size o' } : World) = { w with heap := w.heap.push o' }
 rw [h]
theorem run_putI (w : World) (es : List MapEntry) (c : Nat) (k : Int) (v : Value) (h : Instr.findNow (.int .i64) (.int .i64 k) es 0 = some none) :
 (Instr.mapUpdate 145 (.map (some w.heap.size)) (.int .i64 k) v).run Tryz.prog (w.alloc (.map es.toArray c)) = .ok () (w.alloc (.map (es ++ [({ key := .int .i64 k, val := v, born := c } : MapEntry)]).toArray (c + 1))) := by
 have hb : (w.alloc (.map es.toArray c)).heap[w.heap.size]? = some (.map es.toArray c) := heap_alloc_new w _
 have hk : MapKept.IsKey (.int .i64) (.int .i64 k) := by simp [MapKept.IsKey]
 simp [Instr.mapUpdate, run_underlying Tryz.underlying145, MapKept.run_getObj_map hb, MapKept.run_checkKey Tryz.underlying3 hk, MapKept.run_findKey Tryz.underlying3 h, MapKept.run_setObj_map _ hb, Result.andThen]
 exact set_new w _ _
theorem run_getI {w : World} {g : Nat} {es : List MapEntry} {c : Nat} (hb : w.heap[g]? = some (.map es.toArray c)) (k : Int) (v : Value) (i : Nat) (h : Instr.findNow (.int .i64) (.int .i64 k) es 0 = some (some (i, v))) :
 (Instr.lookup 145 (.map (some g)) (.int .i64 k) false).run Tryz.prog w = .ok v w := by
 have hk : MapKept.IsKey (.int .i64) (.int .i64 k) := by simp [MapKept.IsKey]
 simp [Instr.lookup, run_underlying Tryz.underlying145, MapKept.run_getObj_map hb, MapKept.run_checkKey Tryz.underlying3 hk, MapKept.run_findKey Tryz.underlying3 h, Result.andThen]
theorem kinds_c (w : World) : Calls Tryz.prog 98 #[] w fun e w' => e = .returned (.map (some w.heap.size)) ∧ w' = w.alloc (.map kEs.toArray 5) := by
 have hmm := @run_makeMap Tryz.prog
 have p1 := run_putI w [] 0 1 kUint rfl
 have p2 := run_putI w [⟨.int .i64 1, kUint, 0⟩] 1 2 kFixed rfl
 have p3 := run_putI w [⟨.int .i64 1, kUint, 0⟩, ⟨.int .i64 2, kFixed, 1⟩] 2 3 kBytes rfl
 have p4 := run_putI w [⟨.int .i64 1, kUint, 0⟩, ⟨.int .i64 2, kFixed, 1⟩, ⟨.int .i64 3, kBytes, 2⟩] 3 4 kList rfl
 have p5 := run_putI w [⟨.int .i64 1, kUint, 0⟩, ⟨.int .i64 2, kFixed, 1⟩, ⟨.int .i64 3, kBytes, 2⟩, ⟨.int .i64 4, kList, 3⟩] 4 5 kStruct rfl
 simp only [List.nil_append, List.cons_append, Nat.reduceAdd] at p1 p2 p3 p4 p5
 simp only [kUint, kFixed, kBytes, kList, kStruct] at p1 p2 p3 p4 p5
 go_enter Tryz.func98, Tryz.ntmps98
 go_wp2
 go_ret
 exact ⟨rfl, rfl⟩
def hdV (r : Bool × Nat × Nat × Int) : Value := .tuple #[.bool r.1, .int .i64 r.2.1, .int .i64 r.2.2.1, .int .i64 r.2.2.2]
theorem rlpHead_c (s : ByteArray) (d m : Bool) (w : World) (hs : s.size ≤ 4611686018427387904) :
 Calls Tryz.prog 146 #[.string s, .bool d, .bool m] w fun e w' => e = .returned (hdV (hd s d m)) ∧ w = w' := by
 unfold hdV
 rcases empty_ways s with ⟨hz, rfl⟩ | ⟨hz, hz1, hz2⟩
 ·have HT : Hid (hd ⟨#[]⟩ d m = (false, 0, 0, 2)) := Lib.hid (by unfold hd; rw [if_pos (by simp [ByteArray.size])])
  clear hz
  go_enter Tryz.func146, Tryz.ntmps146
  go_wp2
  refine bodyPost_ret (v := .tuple #[.bool false, .int .i64 (0 : Int), .int .i64 (0 : Int), .int .i64 2]) (by simp [results, Tryz.results146, go_sem]) rfl ?_
  rw [HT.out]
  exact ⟨rfl, rfl⟩
 have hp : 0 < s.size := by
  rcases Nat.eq_zero_or_pos s.size with h | h
  ·exact absurd h (by first | exact hz | omega)
  ·exact h
 cases d with
 | true =>
  have HT : Hid (hd s true m = (false, 0, 0, 6)) := Lib.hid (by unfold hd; rw [if_neg (by omega), if_pos rfl])
  go_enter Tryz.func146, Tryz.ntmps146
  go_wp2
  refine bodyPost_ret (v := .tuple #[.bool false, .int .i64 (0 : Int), .int .i64 (0 : Int), .int .i64 6]) (by simp [results, Tryz.results146, go_sem]) rfl ?_
  rw [HT.out]
  exact ⟨rfl, rfl⟩
 | false =>
 cases m with
 | true =>
  have HT : Hid (hd s false true = (false, 0, 0, 4)) := Lib.hid (by unfold hd; rw [if_neg (by omega), if_neg (by simp), if_pos rfl])
  go_enter Tryz.func146, Tryz.ntmps146
  go_wp2
  refine bodyPost_ret (v := .tuple #[.bool false, .int .i64 (0 : Int), .int .i64 (0 : Int), .int .i64 4]) (by simp [results, Tryz.results146, go_sem]) rfl ?_
  rw [HT.out]
  exact ⟨rfl, rfl⟩
 | false =>
 have HR : hd s false false = hdR s := by unfold hd; rw [if_neg (by omega), if_neg (by simp), if_neg (by simp)]
 have hg0 : s.data.toList.getD 0 0 = s[0] := by rw [List.getD_eq_getElem?_getD, byte_at s 0 hp]; rfl
 have hlt := s[0].toNat_lt
 by_cases hb : s[0].toNat < 128
 ·have HT : Hid (hd s false false = (false, 0, 1, 0)) := Lib.hid (by rw [HR]; unfold hdR; dsimp only; rw [hg0, if_pos hb])
  clear HR
  go_enter Tryz.func146, Tryz.ntmps146
  go_wp2
  refine bodyPost_ret (v := .tuple #[.bool false, .int .i64 (0 : Int), .int .i64 (1 : Int), .int .i64 0]) (by simp [results, Tryz.results146, go_sem]) rfl ?_
  rw [HT.out]
  exact ⟨rfl, rfl⟩
 by_cases h192 : 192 ≤ s[0].toNat
 ·obtain ⟨t, ht⟩ : ∃ t, s[0].toNat = 192 + t := ⟨s[0].toNat - 192, by omega⟩
  have hD := HR
  unfold hdR at hD
  dsimp only at hD
  rw [hg0, ht, if_neg (by omega : ¬ 192 + t < 128), show decide (192 ≤ 192 + t) = true from by simp, if_pos (by omega : 192 ≤ 192 + t), show 192 + t - 192 = t from by omega] at hD
  have d1 : decide (192 ≤ 192 + (t : Int)) = true := decide_eq_true (by omega)
  have ht63 : t ≤ 63 := by omega
  clear HR hg0 hb h192
  by_cases h55 : t ≤ 55
  ·rw [if_pos h55, if_pos h55, if_pos h55] at hD
   have e1 : 192 + (t : Int) - 192 = t := by omega
   by_cases h1 : s.size < 1 + t
   ·have HT : Hid (hd s false false = (false, 0, 0, 2)) := Lib.hid (by rw [hD, if_pos h1])
    clear hD
    go_enter Tryz.func146, Tryz.ntmps146
    go_wp2
    refine bodyPost_ret (v := .tuple #[.bool false, .int .i64 (0 : Int), .int .i64 (0 : Int), .int .i64 2]) (by simp [results, Tryz.results146, go_sem]) rfl ?_
    rw [HT.out]
    exact ⟨rfl, rfl⟩
   ·have HT : Hid (hd s false false = (true, 1, t, 0)) := Lib.hid (by rw [hD, if_neg h1, if_neg (by simp)])
    clear hD
    go_enter Tryz.func146, Tryz.ntmps146
    go_wp2
    refine bodyPost_ret (v := .tuple #[.bool true, .int .i64 (1 : Int), .int .i64 (t : Int), .int .i64 0]) (by simp [results, Tryz.results146, go_sem]) rfl ?_
    rw [HT.out]
    exact ⟨rfl, rfl⟩
  ·rw [if_neg h55, if_neg h55, if_neg h55] at hD
   obtain ⟨k, rfl⟩ : ∃ k, t = 55 + k := ⟨t - 55, by omega⟩
   rw [show 55 + k - 55 = k from by omega] at hD
   have e1 : 192 + (55 + (k : Int)) - 192 = 55 + k := by omega
   have e2 : 55 + (k : Int) - 55 = k := by omega
   by_cases h1 : s.size < 1 + k
   ·have HT : Hid (hd s false false = (false, 0, 0, 2)) := Lib.hid (by rw [hD, if_pos h1])
    clear hD
    go_enter Tryz.func146, Tryz.ntmps146
    go_wp2
    refine bodyPost_ret (v := .tuple #[.bool false, .int .i64 (0 : Int), .int .i64 (0 : Int), .int .i64 2]) (by simp [results, Tryz.results146, go_sem]) rfl ?_
    rw [HT.out]
    exact ⟨rfl, rfl⟩
   rw [if_neg h1] at hD
   have h1s : 1 < s.size := by omega
   have hg1 : s.data.toList.getD 1 0 = s[1] := by rw [List.getD_eq_getElem?_getD, byte_at s 1 h1s]; rfl
   rw [hg1] at hD
   have hxz : (s.extract 1 (1 + k)).size = k := by rw [size_cut _ _ _ (by omega)]; omega
   have hld : lead0 (s.extract 1 (1 + k)).data.toList = decide (s[1].toNat = 0) := by
    have hx0 : (s.extract 1 (1 + k)).data.toList = s[1] :: (s.extract 1 (1 + k)).data.toList.drop 1 := by
     rw [toList_cut]
     have h2 : (s.data.toList.take (1 + k)).drop 1 = ((s.data.toList.drop 1).take k) := by rw [List.drop_take, show 1 + k - 1 = k from by omega]
     rw [h2, drop_cons s 1 h1s, show k = (k - 1) + 1 from by omega, List.take_succ_cons]
     rfl
    rw [hx0]
    simp only [lead0]
    by_cases e : s[1] = 0
    ·simp [e]
    ·have : s[1].toNat ≠ 0 := fun h => e (UInt8.toNat_inj.1 h)
     simp [e, this]
   have HGL := Lib.hid (getLeast_c (s.extract 1 (1 + k)) w (by omega))
   by_cases h0 : s[1].toNat = 0
   ·have hE : glE (s.extract 1 (1 + k)) = 3 := by unfold glE; rw [if_neg (by omega), if_neg (by omega), hld, h0]; rfl
    have HT : Hid (hd s false false = (false, 0, 0, 3)) := Lib.hid (by rw [hD, if_pos (.inl h0)])
    rw [hE] at HGL
    clear hD hE hld hg1
    generalize glN (s.extract 1 (1 + k)) = N at *
    go_enter Tryz.func146, Tryz.ntmps146
    go_wp2_with fail
    refine HGL.out.mono ?_
    rintro e w' ⟨rfl, rfl⟩
    go_wp2
    refine bodyPost_ret (v := .tuple #[.bool false, .int .i64 (0 : Int), .int .i64 (0 : Int), .int .i64 3]) (by simp [results, Tryz.results146, go_sem]) rfl ?_
    rw [HT.out]
    exact ⟨rfl, rfl⟩
   have hE : glE (s.extract 1 (1 + k)) = 0 := by unfold glE; rw [if_neg (by omega), if_neg (by omega), hld, decide_eq_false h0]; rfl
   have hN : glN (s.extract 1 (1 + k)) = beL (s.extract 1 (1 + k)).data.toList := by unfold glN; rw [if_pos hE]
   have hN64 : beL (s.extract 1 (1 + k)).data.toList < 18446744073709551616 := by
    have h2 := beL_lt (s.extract 1 (1 + k)).data.toList
    rw [toList_size, hxz] at h2
    have h3 : 2 ^ (8 * k) ≤ 2 ^ (8 * 8) := Nat.pow_le_pow_right (by omega) (by omega)
    exact Nat.lt_of_lt_of_le h2 h3
   rw [hE, hN] at HGL
   clear hE hN hld hg1 hxz
   generalize beL (s.extract 1 (1 + k)).data.toList = N at *
   by_cases h2 : N ≤ 55
   ·have HT : Hid (hd s false false = (false, 0, 0, 3)) := Lib.hid (by rw [hD, if_pos (.inr h2)])
    clear hD
    go_enter Tryz.func146, Tryz.ntmps146
    go_wp2_with fail
    refine HGL.out.mono ?_
    rintro e w' ⟨rfl, rfl⟩
    go_wp2
    refine bodyPost_ret (v := .tuple #[.bool false, .int .i64 (0 : Int), .int .i64 (0 : Int), .int .i64 3]) (by simp [results, Tryz.results146, go_sem]) rfl ?_
    rw [HT.out]
    exact ⟨rfl, rfl⟩
   rw [if_neg (fun h => h.elim h0 h2)] at hD
   by_cases h3 : s.size < N
   ·have HT : Hid (hd s false false = (false, 0, 0, 2)) := Lib.hid (by rw [hD, if_pos (by omega)])
    clear hD
    go_enter Tryz.func146, Tryz.ntmps146
    go_wp2_with fail
    refine HGL.out.mono ?_
    rintro e w' ⟨rfl, rfl⟩
    go_wp2
    refine bodyPost_ret (v := .tuple #[.bool false, .int .i64 (0 : Int), .int .i64 (0 : Int), .int .i64 2]) (by simp [results, Tryz.results146, go_sem]) rfl ?_
    rw [HT.out]
    exact ⟨rfl, rfl⟩
   by_cases h4 : s.size < 1 + k + N
   ·have HT : Hid (hd s false false = (false, 0, 0, 2)) := Lib.hid (by rw [hD, if_pos h4])
    clear hD
    go_enter Tryz.func146, Tryz.ntmps146
    go_wp2_with fail
    refine HGL.out.mono ?_
    rintro e w' ⟨rfl, rfl⟩
    go_wp2
    refine bodyPost_ret (v := .tuple #[.bool false, .int .i64 (0 : Int), .int .i64 (0 : Int), .int .i64 2]) (by simp [results, Tryz.results146, go_sem]) rfl ?_
    rw [HT.out]
    exact ⟨rfl, rfl⟩
   have HT : Hid (hd s false false = (true, 1 + k, N, 0)) := Lib.hid (by rw [hD, if_neg h4])
   have hn1 : ((N : Int) == 1) = false := by simp; omega
   clear hD
   go_enter Tryz.func146, Tryz.ntmps146
   go_wp2_with fail
   refine HGL.out.mono ?_
   rintro e w' ⟨rfl, rfl⟩
   go_wp2
   refine bodyPost_ret (v := .tuple #[.bool true, .int .i64 ((1 + k : Nat) : Int), .int .i64 (N : Int), .int .i64 0]) (by simp [results, Tryz.results146, go_sem] <;> omega) rfl ?_
   rw [HT.out]
   exact ⟨rfl, rfl⟩
 ·obtain ⟨t, ht⟩ : ∃ t, s[0].toNat = 128 + t := ⟨s[0].toNat - 128, by omega⟩
  have hD := HR
  unfold hdR at hD
  dsimp only at hD
  have h192' : ¬ 192 ≤ 128 + t := by omega
  rw [hg0, ht, if_neg (by omega : ¬ 128 + t < 128), decide_eq_false h192', if_neg h192', show 128 + t - 128 = t from by omega] at hD
  have d1 : decide (192 ≤ 128 + (t : Int)) = false := decide_eq_false (by omega)
  have ht63 : t ≤ 63 := by omega
  clear HR hg0 hb h192 h192'
  by_cases h55 : t ≤ 55
  ·rw [if_pos h55, if_pos h55, if_pos h55] at hD
   have e1 : 128 + (t : Int) - 128 = t := by omega
   by_cases h1 : s.size < 1 + t
   ·have HT : Hid (hd s false false = (false, 0, 0, 2)) := Lib.hid (by rw [hD, if_pos h1])
    clear hD
    go_enter Tryz.func146, Tryz.ntmps146
    go_wp2
    refine bodyPost_ret (v := .tuple #[.bool false, .int .i64 (0 : Int), .int .i64 (0 : Int), .int .i64 2]) (by simp [results, Tryz.results146, go_sem]) rfl ?_
    rw [HT.out]
    exact ⟨rfl, rfl⟩
   ·rw [if_neg h1] at hD
    by_cases ht1 : t = 1
    ·subst ht1
     have h1s : 1 < s.size := by omega
     have hg1 : s.data.toList.getD 1 0 = s[1] := by rw [List.getD_eq_getElem?_getD, byte_at s 1 h1s]; rfl
     rw [hg1] at hD
     by_cases h2 : s[1].toNat < 128
     ·have HT : Hid (hd s false false = (false, 0, 0, 3)) := Lib.hid (by rw [hD, if_pos ⟨rfl, rfl, h2⟩])
      clear hD hg1
      go_enter Tryz.func146, Tryz.ntmps146
      go_wp2
      refine bodyPost_ret (v := .tuple #[.bool false, .int .i64 (0 : Int), .int .i64 (0 : Int), .int .i64 3]) (by simp [results, Tryz.results146, go_sem]) rfl ?_
      rw [HT.out]
      exact ⟨rfl, rfl⟩
     ·have HT : Hid (hd s false false = (false, 1, 1, 0)) := Lib.hid (by rw [hD, if_neg (by simp; omega)])
      clear hD hg1
      go_enter Tryz.func146, Tryz.ntmps146
      go_wp2
      refine bodyPost_ret (v := .tuple #[.bool false, .int .i64 (1 : Int), .int .i64 (1 : Int), .int .i64 0]) (by simp [results, Tryz.results146, go_sem]) rfl ?_
      rw [HT.out]
      exact ⟨rfl, rfl⟩
    ·have HT : Hid (hd s false false = (false, 1, t, 0)) := Lib.hid (by rw [hD, if_neg (fun h => ht1 h.2.1)])
     have ht1' : ((t : Int) == 1) = false := by simp; omega
     clear hD
     go_enter Tryz.func146, Tryz.ntmps146
     go_wp2
     refine bodyPost_ret (v := .tuple #[.bool false, .int .i64 (1 : Int), .int .i64 (t : Int), .int .i64 0]) (by simp [results, Tryz.results146, go_sem]) rfl ?_
     rw [HT.out]
     exact ⟨rfl, rfl⟩
  ·rw [if_neg h55, if_neg h55, if_neg h55] at hD
   obtain ⟨k, rfl⟩ : ∃ k, t = 55 + k := ⟨t - 55, by omega⟩
   rw [show 55 + k - 55 = k from by omega] at hD
   have e1 : 128 + (55 + (k : Int)) - 128 = 55 + k := by omega
   have e2 : 55 + (k : Int) - 55 = k := by omega
   by_cases h1 : s.size < 1 + k
   ·have HT : Hid (hd s false false = (false, 0, 0, 2)) := Lib.hid (by rw [hD, if_pos h1])
    clear hD
    go_enter Tryz.func146, Tryz.ntmps146
    go_wp2
    refine bodyPost_ret (v := .tuple #[.bool false, .int .i64 (0 : Int), .int .i64 (0 : Int), .int .i64 2]) (by simp [results, Tryz.results146, go_sem]) rfl ?_
    rw [HT.out]
    exact ⟨rfl, rfl⟩
   rw [if_neg h1] at hD
   have h1s : 1 < s.size := by omega
   have hg1 : s.data.toList.getD 1 0 = s[1] := by rw [List.getD_eq_getElem?_getD, byte_at s 1 h1s]; rfl
   rw [hg1] at hD
   have hxz : (s.extract 1 (1 + k)).size = k := by rw [size_cut _ _ _ (by omega)]; omega
   have hld : lead0 (s.extract 1 (1 + k)).data.toList = decide (s[1].toNat = 0) := by
    have hx0 : (s.extract 1 (1 + k)).data.toList = s[1] :: (s.extract 1 (1 + k)).data.toList.drop 1 := by
     rw [toList_cut]
     have h2 : (s.data.toList.take (1 + k)).drop 1 = ((s.data.toList.drop 1).take k) := by rw [List.drop_take, show 1 + k - 1 = k from by omega]
     rw [h2, drop_cons s 1 h1s, show k = (k - 1) + 1 from by omega, List.take_succ_cons]
     rfl
    rw [hx0]
    simp only [lead0]
    by_cases e : s[1] = 0
    ·simp [e]
    ·have : s[1].toNat ≠ 0 := fun h => e (UInt8.toNat_inj.1 h)
     simp [e, this]
   have HGL := Lib.hid (getLeast_c (s.extract 1 (1 + k)) w (by omega))
   by_cases h0 : s[1].toNat = 0
   ·have hE : glE (s.extract 1 (1 + k)) = 3 := by unfold glE; rw [if_neg (by omega), if_neg (by omega), hld, h0]; rfl
    have HT : Hid (hd s false false = (false, 0, 0, 3)) := Lib.hid (by rw [hD, if_pos (.inl h0)])
    rw [hE] at HGL
    clear hD hE hld hg1
    generalize glN (s.extract 1 (1 + k)) = N at *
    go_enter Tryz.func146, Tryz.ntmps146
    go_wp2_with fail
    refine HGL.out.mono ?_
    rintro e w' ⟨rfl, rfl⟩
    go_wp2
    refine bodyPost_ret (v := .tuple #[.bool false, .int .i64 (0 : Int), .int .i64 (0 : Int), .int .i64 3]) (by simp [results, Tryz.results146, go_sem]) rfl ?_
    rw [HT.out]
    exact ⟨rfl, rfl⟩
   have hE : glE (s.extract 1 (1 + k)) = 0 := by unfold glE; rw [if_neg (by omega), if_neg (by omega), hld, decide_eq_false h0]; rfl
   have hN : glN (s.extract 1 (1 + k)) = beL (s.extract 1 (1 + k)).data.toList := by unfold glN; rw [if_pos hE]
   have hN64 : beL (s.extract 1 (1 + k)).data.toList < 18446744073709551616 := by
    have h2 := beL_lt (s.extract 1 (1 + k)).data.toList
    rw [toList_size, hxz] at h2
    have h3 : 2 ^ (8 * k) ≤ 2 ^ (8 * 8) := Nat.pow_le_pow_right (by omega) (by omega)
    exact Nat.lt_of_lt_of_le h2 h3
   rw [hE, hN] at HGL
   clear hE hN hld hg1 hxz
   generalize beL (s.extract 1 (1 + k)).data.toList = N at *
   by_cases h2 : N ≤ 55
   ·have HT : Hid (hd s false false = (false, 0, 0, 3)) := Lib.hid (by rw [hD, if_pos (.inr h2)])
    clear hD
    go_enter Tryz.func146, Tryz.ntmps146
    go_wp2_with fail
    refine HGL.out.mono ?_
    rintro e w' ⟨rfl, rfl⟩
    go_wp2
    refine bodyPost_ret (v := .tuple #[.bool false, .int .i64 (0 : Int), .int .i64 (0 : Int), .int .i64 3]) (by simp [results, Tryz.results146, go_sem]) rfl ?_
    rw [HT.out]
    exact ⟨rfl, rfl⟩
   rw [if_neg (fun h => h.elim h0 h2)] at hD
   by_cases h3 : s.size < N
   ·have HT : Hid (hd s false false = (false, 0, 0, 2)) := Lib.hid (by rw [hD, if_pos (by omega)])
    clear hD
    go_enter Tryz.func146, Tryz.ntmps146
    go_wp2_with fail
    refine HGL.out.mono ?_
    rintro e w' ⟨rfl, rfl⟩
    go_wp2
    refine bodyPost_ret (v := .tuple #[.bool false, .int .i64 (0 : Int), .int .i64 (0 : Int), .int .i64 2]) (by simp [results, Tryz.results146, go_sem]) rfl ?_
    rw [HT.out]
    exact ⟨rfl, rfl⟩
   by_cases h4 : s.size < 1 + k + N
   ·have HT : Hid (hd s false false = (false, 0, 0, 2)) := Lib.hid (by rw [hD, if_pos h4])
    clear hD
    go_enter Tryz.func146, Tryz.ntmps146
    go_wp2_with fail
    refine HGL.out.mono ?_
    rintro e w' ⟨rfl, rfl⟩
    go_wp2
    refine bodyPost_ret (v := .tuple #[.bool false, .int .i64 (0 : Int), .int .i64 (0 : Int), .int .i64 2]) (by simp [results, Tryz.results146, go_sem]) rfl ?_
    rw [HT.out]
    exact ⟨rfl, rfl⟩
   have HT : Hid (hd s false false = (false, 1 + k, N, 0)) := Lib.hid (by rw [hD, if_neg h4])
   have hn1 : ((N : Int) == 1) = false := by simp; omega
   clear hD
   go_enter Tryz.func146, Tryz.ntmps146
   go_wp2_with fail
   refine HGL.out.mono ?_
   rintro e w' ⟨rfl, rfl⟩
   go_wp2
   refine bodyPost_ret (v := .tuple #[.bool false, .int .i64 ((1 + k : Nat) : Int), .int .i64 (N : Int), .int .i64 0]) (by simp [results, Tryz.results146, go_sem] <;> omega) rfl ?_
   rw [HT.out]
   exact ⟨rfl, rfl⟩
end Go.Proofs.YtnfpgadegpmhkaaGreatDoor
