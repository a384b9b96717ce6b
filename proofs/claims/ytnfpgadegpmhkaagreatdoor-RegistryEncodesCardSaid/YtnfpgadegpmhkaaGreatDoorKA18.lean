/- A region that draws its order, whose operations only read (or call what only reads) but for a forced tail: one walk of the lexical order, then the tail. Own law; no program in sight. -/
import Derived.StillTail
import Derived.Deep.Quiet
import Derived.Deep.QuietTactic
import Derived.BigQuiet
import Derived.Below
import Derived.Test.YtnfpgadegpmhkaaGreatDoorKA9
import Derived.Test.YtnfpgadegpmhkaaGreatDoorKA3
import Derived.Test.YtnfpgadegpmhkaaGreatDoorKA15
set_option linter.unusedVariables false
set_option linter.unusedSimpArgs false
set_option maxRecDepth 100000
set_option maxHeartbeats 1600000
namespace Go.Proofs.YtnfpgadegpmhkaaGreatDoor
open Go
section
variable {P : Program} {ops : Array Oper} {md : Region.Mode} {C : World → Prop}
def wpAnyQL (P : Program) (md : Region.Mode) (ops : Array Oper) (C : World → Prop) (n : Nat) (L : Array Bool → Act → Prop) : Nat → Array Bool → Act → Prop
 | 0, listed, a => L listed a
 | f + 1, listed, a =>
  Region.ready md ops listed ≠ [] ∧ ∀ i ∈ Region.ready md ops listed, i < n ∧ qOp P ops C i (wpAnyQL P md ops C n L f (listed.setIfInBounds i true)) a
theorem wpAny_of_qhead {n g : Nat} {L : Array Bool → Act → Prop} {Q' : Exit → Act → World → Prop} (hL : ∀ listed a w, C w → L listed a → wpAny P md ops Q' g listed a w) :
 ∀ (f : Nat) (listed : Array Bool) (a : Act) (w : World), C w → wpAnyQL P md ops C n L f listed a → wpAny P md ops Q' (f + g) listed a w
 | 0, listed, a, w, hw, h => by rw [Nat.zero_add]; exact hL _ _ _ hw h
 | f + 1, listed, a, w, hw, h => by
  rw [show f + 1 + g = (f + g) + 1 by omega]
  exact ⟨fun h0 => absurd h0 h.1, fun i hi => wpOp_of_qOp hw (fun a' w' hw' h' => wpAny_of_qhead hL f _ a' w' hw' h') (h.2 i hi).2⟩
theorem wpAnyQL_first {n i : Nat} {oi : Oper} {v : Value} {L : Array Bool → Act → Prop} (hi : ops[i]? = some oi) (hsel : ∀ (j : Nat) (o : Oper) cs b, ops[j]? = some o → o.op ≠ .select cs b)
 (hs : Region.sinkB md ops n = true) (hc : Region.chainB md ops n = true) (hn : n < ops.size) (hin : i < n)
 (hdone : ∀ listed a, L listed a → ∀ j ∈ Region.ready md ops listed, n ≤ j) :
 ∀ (f : Nat) (listed : Array Bool) (a : Act), HeadInv md ops n listed →
  (∀ j oj, ops[j]? = some oj → j ≠ i → listed.getD j true = false → (∀ e ∈ oj.after, Region.binds md e = true → e.on ≠ i) → oi.apart ops oj = true) →
  i ∈ Region.ready md ops listed → YieldsIn P ops C oi v a →
  wpAnyQL P md ops C n L f (listed.setIfInBounds i true) (a.put oi.dst v) → wpAnyQL P md ops C n L (f + 1) listed a := by
 intro f
 induction f with
 | zero =>
  intro listed a inv _ hr hy H
  have hun := (mem_ready.1 hr).1
  refine ⟨fun h => (by rw [h] at hr; cases hr), fun j hj => ?_⟩
  have hjn : j < n := by
   rcases Nat.lt_or_ge j n with h | h
   ·exact h
   ·exact absurd hj (tail_waits hs hc hn inv _ i rfl hin hun j h)
  refine ⟨hjn, ?_⟩
  by_cases hji : j = i
  ·subst hji; exact hy.qOp hi H
  ·have := hdone _ _ H j (ready_mono hj hji)
   omega
 | succ f ih =>
  intro listed a inv hfree hr hy H
  have hun := (mem_ready.1 hr).1
  refine ⟨fun h => (by rw [h] at hr; cases hr), fun j hj => ?_⟩
  have hjn : j < n := by
   rcases Nat.lt_or_ge j n with h | h
   ·exact h
   ·exact absurd hj (tail_waits hs hc hn inv _ i rfl hin hun j h)
  refine ⟨hjn, ?_⟩
  by_cases hji : j = i
  ·subst hji; exact hy.qOp hi H
  ·have h1 := (H.2 j (ready_mono hj hji)).2
   obtain ⟨hjun, oj, hoj, hall⟩ := mem_ready.1 hj
   have hnot : ∀ e ∈ oj.after, Region.binds md e = true → e.on ≠ i := fun e he hb heq => by
    have h1 := hall e he hb
    rw [heq, getD_both hun] at h1
    cases h1
   have h2 := qOp_put hoj (hfree j oj hoj hji hjun hnot) (fun cs b => hsel i oi cs b hi) (fun cs b => hsel j oj cs b hoj) hy h1
   have hfree' : ∀ k ok, ops[k]? = some ok → k ≠ i → (listed.setIfInBounds j true).getD k true = false →
    (∀ e ∈ ok.after, Region.binds md e = true → e.on ≠ i) → oi.apart ops ok = true := fun k ok hk hki hun hno => by
    refine hfree k ok hk hki ?_ hno
    by_cases hjk : j = k
    ·subst hjk; exact hjun
    ·rw [getD_set_ne true hjk] at hun; exact hun
   refine qOp_mono (fun a' h3 => ih (listed.setIfInBounds j true) a' (inv.set hj hjn) hfree' (ready_mono hr (Ne.symm hji)) h3.1 ?_) h2
   rw [Array.setIfInBounds_comm _ _ hji]
   exact h3.2
theorem wpAnyQL_lex {n g : Nat} {Lq : Act → Prop} (hsel : Region.noSelect ops = true) (hs : Region.sinkB md ops n = true) (hc : Region.chainB md ops n = true) (hn : n < ops.size) :
 ∀ (l : List Oper) (k : Nat) (listed : Array Bool) (a : Act), (∀ j, j < l.length → l[j]? = ops[k + j]?) → k + l.length = n → HeadInv md ops n listed →
 Region.lexHead md ops g l.length k listed = true → wpQuiet P ops C Lq l a →
 wpAnyQL P md ops C n (fun listed' a' => Region.seqB md ops g n listed' = true ∧ Lq a') l.length listed a
 | [], k, listed, a, _, hk, _, hB, h => by
  have : k = n := by simpa using hk
  subst this
  exact ⟨by simpa [Region.lexHead] using hB, h⟩
 | o :: l, k, listed, a, hl, hk, inv, hB, h => by
  have h0 : ops[k]? = some o := by simpa using (hl 0 (by simp)).symm
  simp only [List.length_cons, Region.lexHead, Bool.and_eq_true] at hB
  obtain ⟨⟨hr, hf⟩, hB'⟩ := hB
  have hkn : k < n := by simp only [List.length_cons] at hk; omega
  have hr' : k ∈ Region.ready md ops listed := by simpa using hr
  have hst : qOp P ops C k (wpQuiet P ops C Lq l) a := by unfold qOp; simp only [h0]; exact h
  obtain ⟨v, hy, hK⟩ := yieldsIn_of_qOp h0 hst
  exact wpAnyQL_first h0 (Region.noSelect_spec hsel) hs hc hn hkn (fun listed' a' hL => seqB_ready hL.1) l.length listed a inv (Region.free_spec h0 hf) hr' hy
   (wpAnyQL_lex hsel hs hc hn l (k + 1) _ _ (fun j hj => by have := hl (j + 1) (by simp; omega); simpa [Nat.add_assoc, Nat.add_comm 1 j] using this) (by simp only [List.length_cons] at hk; omega) (inv.set hr' hkn) hB' hK)
theorem wp_region_quiet_tail {id : Nat} {Q : Exit → Act → World → Prop} {a : Act} {w : World} {l : List Oper} (n : Nat) (hm : P.follows .mixedOrders = true) (hB : Region.lexTailB .any l.toArray n = true)
 (h : wpQuiet P l.toArray (fun w' => ∃ k, w' = w.drewN k) (fun a' => ∀ k, wpList P l.toArray Q (l.drop n) a' (w.drewN k)) (l.take n) a) : (Code.region id l.toArray true).wp P Q a w := by
 simp only [Region.lexTailB, Bool.and_eq_true, decide_eq_true_eq] at hB
 obtain ⟨⟨⟨⟨hsel, hn⟩, hs⟩, hc⟩, hlex⟩ := hB
 have hn' : n < l.length := by simpa using hn
 have htl : (l.take n).length = n := by simp; omega
 have hdl : (l.drop n).length = l.toArray.size - n := by simp
 have inv0 : HeadInv .any l.toArray n (Array.replicate l.toArray.size false) :=
  ⟨by simp, fun j oj _ hl => (by rw [getD_replicate_false] at hl; cases hl), fun t _ ht => getD_in (by simpa using ht) (getD_replicate_false _ _)⟩
 have H := wpAnyQL_lex (md := .any) (g := l.toArray.size - n) hsel hs hc hn (l.take n) 0 _ a (fun j hj => by
  have hj' : j < n := by rw [htl] at hj; exact hj
  simp [hj']) (by simpa using htl) inv0 (by rw [htl]; exact hlex) h
 refine wp_region_any hm ?_
 have := wpAny_of_qhead (Q' := Q) (g := l.toArray.size - n) (fun listed a' w' hw' hL => by
  obtain ⟨k, rfl⟩ := hw'
  have := wpAny_of_seq (md := .any) (Q' := Q) (l.drop n) n listed a' (w.drewN k) (fun j => by simp [List.getElem?_drop]) (by rw [hdl]; exact hL.1) (hL.2 k)
  rwa [hdl] at this) _ _ _ _ ⟨1, rfl⟩ H
 rw [htl, show n + (l.toArray.size - n) = l.toArray.size by omega] at this
 exact this
end
open Go Go.RowKit
section
variable {P : Program} {ops : Array Oper} {C : World → Prop} {Q : Act → Prop} {o : Oper} {rest : List Oper} {a : Act}
theorem wpQuiet_val (v : Value) (hg : Region.wanted o (yielded ops a.tmps) = true) (h : ∀ w, C w → o.quietAt P a C w v) (hn : wpQuiet P ops C Q rest (a.put o.dst v)) : wpQuiet P ops C Q (o :: rest) a := by
 unfold wpQuiet; rw [if_pos hg]; exact ⟨v, h, hn⟩
theorem wpQuiet_run (v : Value) (hg : Region.wanted o (yielded ops a.tmps) = true) (h : ∀ w, C w → (execOp a.eval o).run P w = .ok (.value v) w) (hn : wpQuiet P ops C Q rest (a.put o.dst v)) : wpQuiet P ops C Q (o :: rest) a :=
 wpQuiet_val v hg (fun w hw => by unfold Oper.quietAt; rw [h w hw]; exact ⟨rfl, rfl⟩) hn
theorem wpQuiet_callB {W : World} (f : FuncId) (args : Array Value) (v : Value) (hg : Region.wanted o (yielded ops a.tmps) = true) (ho : ∀ w, (execOp a.eval o).run P w = .ok (.enter f args) w)
 (hc : ∀ w, Below W.heap.size W w → Calls P f args w fun e w' => e = .returned v ∧ Below w.heap.size w w') (hn : wpQuiet P ops (fun w' => Below W.heap.size W w') Q rest (a.put o.dst v)) : wpQuiet P ops (fun w' => Below W.heap.size W w') Q (o :: rest) a :=
 wpQuiet_val v hg (fun w hw => by
  unfold Oper.quietAt; rw [ho w]
  exact ⟨rfl, (hc w hw).mono fun e w' ⟨he, hb⟩ => ⟨he, hw.trans (hb.mono hw.size)⟩⟩) hn
theorem wp_region_below {id : Nat} {Q : Exit → Act → World → Prop} {a : Act} {w : World} {l : List Oper} (hm : P.follows .mixedOrders = true) (hB : Region.lexB .any l.toArray = true)
 (h : wpQuiet P l.toArray (fun w' => Below w.heap.size w w') (fun a' => ∀ w', Below w.heap.size w w' → Q .normal a' w') l a) : (Code.region id l.toArray true).wp P Q a w :=
 wp_region_quiet (C := fun w' => Below w.heap.size w w') hm hB (Below.refl _ _).drew (by simpa using h)
end
open Go.RowKit
theorem rlpL_take_le (s : List It) (k : Nat) : (rlpL (s.take k)).length ≤ (rlpL s).length := by
 have h := congrArg List.length (rlpL_append (s.take k) (s.drop k))
 rw [List.take_append_drop, List.length_append] at h
 omega
theorem rlpL_take (s : List It) (k : Nat) (h : k < s.length) : rlpL (s.take (k + 1)) = rlpL (s.take k) ++ s[k].rlp := by
 rw [take_succ_it s k h, rlpL_append]; simp [rlpL]
theorem rHead_size (b n : Nat) (h : n ≤ 1099511627776) : (⟨(rHead b n).toArray⟩ : ByteArray).size ≤ 9 := by
 rw [size_of, rHead_length]
 split
 ·omega
 ·have := minL_length 8 n (by omega); omega
theorem refHead_c (b n : Nat) (w : World) (hb : b ≤ 192) (hn : n ≤ 1099511627776) :
 Calls Tryz.prog 88 #[.int .i64 b, .int .i64 n] w fun e w' => e = .returned (.string ⟨(rHead b n).toArray⟩) ∧ Below w.heap.size w w' := by
 have k1 := fun (w : World) (a : Int) => run_str1 Tryz.underlying117 Tryz.underlying5 Tryz.underlying9 w a
 by_cases h : n ≤ 55
 ·have HR : Hid (rHead b n = [ub ((b : Int) + n)]) := Lib.hid (by unfold rHead; rw [if_pos h]; simp)
  go_enter Tryz.func88, Tryz.ntmps88
  go_wp2
  go_ret
  exact ⟨by rw [HR.out]; rfl, blw⟩
 ·obtain ⟨T, hT⟩ : ∃ T : ByteArray, (⟨(minL n).toArray⟩ : ByteArray) = T := ⟨_, rfl⟩
  have hTL : T.data.toList = minL n := by rw [← hT]
  have hTz : T.size ≤ 8 := by rw [← hT, size_of]; exact minL_length 8 n (by omega)
  have HR : Hid ((⟨(rHead b n).toArray⟩ : ByteArray) = ⟨#[ub ((b : Int) + 55 + T.size)]⟩ ++ T) := Lib.hid (by
   apply bytes_ext
   rw [toList_app]
   unfold rHead; rw [if_neg h, hTL, ← hTL, toList_size]; simp)
  have HL := Lib.hid (fun w => refLeast_c n w (by omega))
  rw [hT] at HL
  clear hT hTL
  go_enter Tryz.func88, Tryz.ntmps88
  go_wp2_with fail
  refine (HL.out _).mono ?_
  rintro e w1 ⟨rfl, hb1⟩
  have hw1 := hb1.size
  go_wp2
  go_ret
  exact ⟨by rw [HR.out]; rfl, hb1.alloc hw1 _⟩
theorem ref09Put_c : ∀ (x : It) (B : Nat) (w : World) (c0 c1 c2 : Value), ItIn w B x c0 c1 c2 → B ≤ w.heap.size → x.rlp.length ≤ 1099511627776 →
 Calls Tryz.prog 56 #[.agg #[c0, c1, c2]] w fun e w' => e = .returned (.string ⟨x.rlp.toArray⟩) ∧ Below w.heap.size w w' := by
 intro x
 induction x using It.ind with
 | h t l s ih =>
  intro B w c0 c1 c2 h hB hlen
  obtain ⟨rfl, rfl, ht, hs, A, cap, rfl, hcap, hcm, hsub⟩ := h
  have IH := Lib.hid ih
  have HS := Lib.hid hsub
  clear ih hsub
  cases l with
  | true =>
   have HX : Hid ((It.mk t true s).rlp = rHead 192 (rlpL s).length ++ rlpL s) := Lib.hid (by simp [It.rlp])
   have hlen2 : (rlpL s).length ≤ 1099511627776 := by rw [HX.out] at hlen; simp only [List.length_append] at hlen; omega
   generalize (It.mk t true s).rlp = X at *
   clear hlen
   have HHD := Lib.hid (fun w => refHead_c 192 (rlpL s).length w (by omega) hlen2)
   go_enter Tryz.func56, Tryz.ntmps56
   go_wp2_with fail
   go_loopw [3, 4] (fun y i wr => ∃ k : Nat, k ≤ s.length ∧ i = .int .i64 k ∧ ∃ z : ByteArray, y = .string z ∧ Hid (z.data.toList = rlpL (s.take k)) ∧ Below w.heap.size w wr ∧ wr.cell? ⟨w.heap.size, 2, none⟩ = some (.slice A s.length cap)) (fun _ i _ => s.length - (intOf i).toNat)
   case atStart => exact ⟨0, by omega, rfl, _, rfl, Lib.hid (by simp [rlpL]), blw, by simp⟩
   case round =>
    obtain ⟨k, hk, rfl, z, rfl, Hz, hb, hcell⟩ := hrel
    have hzs : z.size = (rlpL (s.take k)).length := by rw [← toList_size, Hz.out]
    have htk := rlpL_take_le s k
    have hzl : z.size ≤ 1099511627776 := by omega
    by_cases hlt : k < s.length
    ·obtain ⟨b, o, d0, d1, d2, rfl, hbB, e0, e1, e2, hi⟩ := HS.out.at_ k hlt
     simp only [Nat.zero_add] at e0 e1 e2
     replace e0 := (hb.cell (p := ⟨b, o + k * 3, none⟩) (by simp; omega)).trans e0
     replace e1 := (hb.cell (p := ⟨b, o + k * 3 + 1, none⟩) (by simp; omega)).trans e1
     replace e2 := (hb.cell (p := ⟨b, o + k * 3 + 2, none⟩) (by simp; omega)).trans e2
     have hbz := hb.size
     have hmem := List.getElem_mem hlt
     have hiw := hi.below (hb.mono hB)
     have hst := rlpL_take s k hlt
     have htk1 := rlpL_take_le s (k + 1)
     have hT : s[k].rlp.length ≤ 1099511627776 := by rw [hst] at htk1; simp at htk1; omega
     have HC := Lib.hid (IH.out _ hmem B wr d0 d1 d2 hiw (by omega) hT)
     rw [← size_of] at hT
     have HT : Hid ((z ++ (⟨s[k].rlp.toArray⟩ : ByteArray)).data.toList = rlpL (s.take (k + 1))) := Lib.hid (by rw [toList_app, Hz.out, hst])
     generalize (⟨s[k].rlp.toArray⟩ : ByteArray) = T at *
     clear hst htk1 hi hiw hzs htk
     go_wp2_with fail
     refine HC.out.mono ?_
     rintro e w2 ⟨rfl, hb2⟩
     have hbz2 := hb2.size
     have hbl := lt_of_cell hcell
     have hcell2 := (hb2.cell (p := ⟨w.heap.size, 2, none⟩) (by simp; omega)).trans hcell
     have hb3 := hb.trans (hb2.mono hbz)
     go_wp2
     go_roundw
     case rel => exact ⟨k + 1, by omega, by go_num, _, rfl, HT, hb3, hcell2⟩
     case measure => simp [intOf]; omega
    ·have HZ : Hid (z.data.toList = rlpL s) := Lib.hid (by rw [Hz.out, List.take_of_length_le (by omega)])
     have hzz : z.size = (rlpL s).length := by rw [← toList_size, HZ.out]
     rw [← hzz] at HHD
     have HT : Hid ((⟨X.toArray⟩ : ByteArray) = ⟨(rHead 192 z.size).toArray⟩ ++ z) := Lib.hid (bytes_ext (by rw [toList_app, HX.out, HZ.out, hzz]))
     have hDz := rHead_size 192 z.size hzl
     generalize hq : (⟨(rHead 192 z.size).toArray⟩ : ByteArray) = D at *
     clear hzs htk hzz hq
     go_wp2_with fail
     refine (HHD.out _).mono ?_
     rintro e w2 ⟨rfl, hb2⟩
     go_wp2
     go_ret
     exact ⟨by rw [HT.out]; rfl, hb.trans (hb2.mono hb.size)⟩
  | false =>
   by_cases hs1 : t.size = 1 ∧ (t.data.toList.getD 0 0).toNat < 128
   ·have HX : Hid ((It.mk t false s).rlp = t.data.toList) := Lib.hid (by rw [It.rlp, if_neg (by simp), if_pos hs1])
    generalize (It.mk t false s).rlp = X at *
    obtain ⟨hs1, hs4⟩ := hs1
    have hs3 : ((t.size : Int) == 1) = true := by simp [hs1]
    have hs0 : 0 < t.size := by omega
    rw [List.getD_eq_getElem?_getD, byte_at t 0 hs0] at hs4
    replace hs4 : t[0].toNat < 128 := hs4
    clear hlen
    go_enter Tryz.func56, Tryz.ntmps56
    go_wp2
    go_ret
    exact ⟨ret_str (bytes_ext (by rw [HX.out])), blw⟩
   ·have HX : Hid ((It.mk t false s).rlp = rHead 128 t.size ++ t.data.toList) := Lib.hid (by rw [It.rlp, if_neg (by simp), if_neg hs1])
    have hlt : t.size ≤ 1099511627776 := by rw [HX.out] at hlen; simp at hlen; omega
    generalize (It.mk t false s).rlp = X at *
    have HHD := Lib.hid (fun w => refHead_c 128 t.size w (by omega) hlt)
    have HT : Hid ((⟨X.toArray⟩ : ByteArray) = ⟨(rHead 128 t.size).toArray⟩ ++ t) := Lib.hid (bytes_ext (by rw [toList_app, HX.out]))
    have hDz := rHead_size 128 t.size hlt
    generalize (⟨(rHead 128 t.size).toArray⟩ : ByteArray) = D at *
    clear hlen
    by_cases hs2 : t.size = 1
    ·have hs3 : ((t.size : Int) == 1) = true := by simp [hs2]
     have hs0 : 0 < t.size := by omega
     have hs4 : ¬ t[0].toNat < 128 := fun h => hs1 ⟨hs2, by rw [List.getD_eq_getElem?_getD, byte_at t 0 hs0]; exact h⟩
     clear hs1
     go_enter Tryz.func56, Tryz.ntmps56
     go_wp2_with fail
     have c0 : (w.alloc (.cells #[.string t, .bool false, .slice A s.length cap] 28)).cell? ⟨w.heap.size, 0, none⟩ = some (.string t) := by simp
     refine wp_region_below (by kernel_rfl) (by kernel_rfl) ?_
     refine wpQuiet_run (.pointer (some ⟨w.heap.size, 0, none⟩)) (by rfl) (fun _ _ => by first | rfl | (go_simp; done) | (go_simp; omega)) ?_
     simp only [Act.put, List.setIfInBounds_toArray, List.set_cons_zero, List.set_cons_succ]
     refine wpQuiet_run (.string t) (by rfl) (fun w' hw' => by have q := (hw'.cell (p := ⟨w.heap.size, 0, none⟩) (by simp)).trans c0; go_simp) ?_
     simp only [Act.put, List.setIfInBounds_toArray, List.set_cons_zero, List.set_cons_succ]
     refine wpQuiet_run (.int .i64 t.size) (by rfl) (fun _ _ => by first | rfl | (go_simp; done) | (go_simp; omega)) ?_
     simp only [Act.put, List.setIfInBounds_toArray, List.set_cons_zero, List.set_cons_succ]
     refine wpQuiet_callB 88 _ _ (by rfl) (fun _ => by first | rfl | go_simp) (fun w _ => HHD.out _) ?_
     simp only [Act.put, List.setIfInBounds_toArray, List.set_cons_zero, List.set_cons_succ]
     refine wpQuiet_run (.pointer (some ⟨w.heap.size, 0, none⟩)) (by rfl) (fun _ _ => by first | rfl | (go_simp; done) | (go_simp; omega)) ?_
     simp only [Act.put, List.setIfInBounds_toArray, List.set_cons_zero, List.set_cons_succ]
     refine wpQuiet_run (.string t) (by rfl) (fun w' hw' => by have q := (hw'.cell (p := ⟨w.heap.size, 0, none⟩) (by simp)).trans c0; go_simp) ?_
     simp only [Act.put, List.setIfInBounds_toArray, List.set_cons_zero, List.set_cons_succ]
     refine wpQuiet_run (.string (D ++ t)) (by rfl) (fun _ _ => by first | rfl | (go_simp; done) | (go_simp; omega)) ?_
     simp only [Act.put, List.setIfInBounds_toArray, List.set_cons_zero, List.set_cons_succ]
     refine wpQuiet_run (.string (D ++ t)) (by rfl) (fun _ _ => by first | rfl | (go_simp; done) | (go_simp; omega)) ?_
     simp only [Act.put, List.setIfInBounds_toArray, List.set_cons_zero, List.set_cons_succ]
     refine wpQuiet_nil ?_
     intro w2 hw2
     go_wp2
     go_ret
     exact ⟨by rw [HT.out]; rfl, ((Below.refl w.heap.size w).alloc (Nat.le_refl _) _).trans (hw2.mono (by simp))⟩
    ·have hs3 : ((t.size : Int) == 1) = false := by simp; omega
     clear hs1
     go_enter Tryz.func56, Tryz.ntmps56
     go_wp2_with fail
     have c0 : (w.alloc (.cells #[.string t, .bool false, .slice A s.length cap] 28)).cell? ⟨w.heap.size, 0, none⟩ = some (.string t) := by simp
     refine wp_region_below (by kernel_rfl) (by kernel_rfl) ?_
     refine wpQuiet_run (.pointer (some ⟨w.heap.size, 0, none⟩)) (by rfl) (fun _ _ => by first | rfl | (go_simp; done) | (go_simp; omega)) ?_
     simp only [Act.put, List.setIfInBounds_toArray, List.set_cons_zero, List.set_cons_succ]
     refine wpQuiet_run (.string t) (by rfl) (fun w' hw' => by have q := (hw'.cell (p := ⟨w.heap.size, 0, none⟩) (by simp)).trans c0; go_simp) ?_
     simp only [Act.put, List.setIfInBounds_toArray, List.set_cons_zero, List.set_cons_succ]
     refine wpQuiet_run (.int .i64 t.size) (by rfl) (fun _ _ => by first | rfl | (go_simp; done) | (go_simp; omega)) ?_
     simp only [Act.put, List.setIfInBounds_toArray, List.set_cons_zero, List.set_cons_succ]
     refine wpQuiet_callB 88 _ _ (by rfl) (fun _ => by first | rfl | go_simp) (fun w _ => HHD.out _) ?_
     simp only [Act.put, List.setIfInBounds_toArray, List.set_cons_zero, List.set_cons_succ]
     refine wpQuiet_run (.pointer (some ⟨w.heap.size, 0, none⟩)) (by rfl) (fun _ _ => by first | rfl | (go_simp; done) | (go_simp; omega)) ?_
     simp only [Act.put, List.setIfInBounds_toArray, List.set_cons_zero, List.set_cons_succ]
     refine wpQuiet_run (.string t) (by rfl) (fun w' hw' => by have q := (hw'.cell (p := ⟨w.heap.size, 0, none⟩) (by simp)).trans c0; go_simp) ?_
     simp only [Act.put, List.setIfInBounds_toArray, List.set_cons_zero, List.set_cons_succ]
     refine wpQuiet_run (.string (D ++ t)) (by rfl) (fun _ _ => by first | rfl | (go_simp; done) | (go_simp; omega)) ?_
     simp only [Act.put, List.setIfInBounds_toArray, List.set_cons_zero, List.set_cons_succ]
     refine wpQuiet_run (.string (D ++ t)) (by rfl) (fun _ _ => by first | rfl | (go_simp; done) | (go_simp; omega)) ?_
     simp only [Act.put, List.setIfInBounds_toArray, List.set_cons_zero, List.set_cons_succ]
     refine wpQuiet_nil ?_
     intro w2 hw2
     go_wp2
     go_ret
     exact ⟨by rw [HT.out]; rfl, ((Below.refl w.heap.size w).alloc (Nat.le_refl _) _).trans (hw2.mono (by simp))⟩
end Go.Proofs.YtnfpgadegpmhkaaGreatDoor
