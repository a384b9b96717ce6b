/- rlp.Get tells getE, getX. -/
/- Hellos: numbers' items. -/
/- An append of an item inside a region that draws its order. -/
/- A region that draws its order and whose last operation waits for all the others: a condition on the world lets loads be taken first, and need not stand behind the last operation. Own law; no program in sight. -/
import Derived.Test.YtacikiambpfipaaDoorKRlpNext
import Derived.Test.YtacikiambpfipaaDoorKA4
import Derived.Test.YtacikiambpfipaaDoorKHelP
import Derived.Test.YtacikiambpfipaaDoorKA6
import Derived.Test.YtacikiambpfipaaDoorKItemS
import Derived.Deep.RegionLaw
import Derived.Deep.AppendLies
import Derived.StillTail
import Derived.Deep.RegionHeld3
namespace Go.Proofs.YtacikiambpfipaaDoor
set_option linter.unusedVariables false
set_option linter.unusedSimpArgs false
open Go.RowKit

/-- How Get ends: the item, the error. -/
def GtEnd (w w' : World) (x : It) (er : Int) (e : Ending) : Prop :=
  Below w.heap.size w w' ∧ ∃ c0 c1 c2, e = .returned (.tuple #[.agg #[c0, c1, c2], .int .i64 er]) ∧ ItS w' (w.heap.size ≤ ·) x c0 c1 c2
theorem noIt_S (w : World) (S : Nat → Prop) : ItS w S noIt (.string ⟨#[]⟩) (.bool false) (.slice none 0 0) := ItS.text false (by simp [ByteArray.size])
theorem box3 {w W : World} {z0 z1 z2 : Value} (h : W = w.alloc (.cells #[z0, z1, z2] 27)) : Below w.heap.size w W ∧ W.heap.size = w.heap.size + 1 ∧ Blk W w.heap.size 27 #[z0, z1, z2] := by
  subst h
  exact ⟨(Below.refl _ _).alloc (Nat.le_refl _) _, by simp, Blk.new w _ _⟩
set_option maxRecDepth 100000 in
set_option maxHeartbeats 2000000 in
theorem rlpGet_c (s : ByteArray) (D M : Int) (w : World) (hs : s.size ≤ 4611686018427387904) :
    Calls Tryd.prog 76 #[.string s, .int .i64 D, .int .i64 M] w fun e w' => GtEnd w w' (getX D M s) (getE D M s) e := by
  obtain ⟨W0, hW0⟩ : ∃ W0, w.alloc (.cells #[.string ⟨#[]⟩, .bool false, .slice none 0 0] 27) = W0 := ⟨_, rfl⟩
  obtain ⟨b1, b2, b3⟩ := box3 hW0.symm
  have HC := Lib.hid (rlpNext_c s D M W0 hs)
  have HGE : Hid (getE D M s = if (rdItem D M s 1 0).e ≠ 0 then (rdItem D M s 1 0).e else if (rdItem D M s 1 0).size < s.size then 3 else 0) := Lib.hid rfl
  have HGX : Hid (getX D M s = if getE D M s ≠ 0 then noIt else (rdItem D M s 1 0).x) := Lib.hid rfl
  generalize getX D M s = X at *
  generalize getE D M s = E at *
  generalize rdItem D M s 1 0 = R at *
  obtain ⟨x, size, items, re⟩ := R
  have HB1 := Lib.hid b1
  have HB2 := Lib.hid b2
  have HB3 := Lib.hid b3
  have HW0 := Lib.hid hW0
  clear b1 b2 b3 hW0
  by_cases h0 : re = 0
  · subst h0
    by_cases h1 : size < s.size
    · have HE : Hid (E = 3 ∧ X = noIt) := Lib.hid (by
        have h2 : E = 3 := by rw [HGE.out, if_neg (by simp), if_pos h1]
        exact ⟨h2, by rw [HGX.out, if_pos (by omega)]⟩)
      clear HGE HGX
      go_enter Tryd.func76, Tryd.ntmps76
      go_wp2_with fail
      rw [HW0.out]
      refine HC.out.mono ?_
      rintro e w1 ⟨hb, _, hx⟩
      obtain ⟨c0, c1, c2, rfl, hit⟩ := hx rfl
      obtain ⟨A, k, rfl, rfl, rfl, _⟩ := hit.open_
      have HIT := Lib.hid hit
      clear hit
      have h6 := HB3.out.keep hb (by have := HB2.out; omega)
      have hz := hb.size
      have hz0 := HB2.out
      obtain ⟨p0, p1, p2, pf0, pf1, pf2⟩ := blk3 h6
      have HB6 := Lib.hid h6
      have HBB : Hid (Below w.heap.size w w1) := Lib.hid (HB1.out.trans (hb.mono (by omega)))
      have hlt : w.heap.size < w1.heap.size := by omega
      clear h6 hb hx hz hz0
      go_wp2
      obtain ⟨d0, d1, d2, _⟩ := blk3 ((put3 HB6.out (.string ⟨#[]⟩) (.bool false) (.slice none 0 0)).alloc (.cells #[.string x.text, .bool x.list, .slice A x.sub.length k] 27))
      refine bodyPost_ret (v := .tuple #[.agg #[(.string ⟨#[]⟩), (.bool false), (.slice none 0 0)], .int .i64 3]) (by simp [results, Tryd.results76, go_sem, d0, d1, d2]) rfl ?_
      rw [HE.out.1, HE.out.2]
      refine ⟨(((HBB.out.setCell (by simp) _).setCell (by simp) _).setCell (by simp) _).alloc (by simp [World.setCell]; omega) _, _, _, _, rfl, ?_⟩
      exact noIt_S _ _
    · have HE : Hid (E = 0 ∧ X = x) := Lib.hid (by
        have h2 : E = 0 := by rw [HGE.out, if_neg (by simp), if_neg h1]
        exact ⟨h2, by rw [HGX.out, if_neg (by omega)]⟩)
      clear HGE HGX
      go_enter Tryd.func76, Tryd.ntmps76
      go_wp2_with fail
      rw [HW0.out]
      refine HC.out.mono ?_
      rintro e w1 ⟨hb, _, hx⟩
      obtain ⟨c0, c1, c2, rfl, hit⟩ := hx rfl
      obtain ⟨A, k, rfl, rfl, rfl, _⟩ := hit.open_
      have HIT := Lib.hid hit
      clear hit
      have h6 := HB3.out.keep hb (by have := HB2.out; omega)
      have hz := hb.size
      have hz0 := HB2.out
      obtain ⟨p0, p1, p2, pf0, pf1, pf2⟩ := blk3 h6
      have HB6 := Lib.hid h6
      have HBB : Hid (Below w.heap.size w w1) := Lib.hid (HB1.out.trans (hb.mono (by omega)))
      have hlt : w.heap.size < w1.heap.size := by omega
      clear h6 hb hx hz hz0
      go_wp2
      obtain ⟨d0, d1, d2, _⟩ := blk3 ((put3 HB6.out (.string x.text) (.bool x.list) (.slice A x.sub.length k)).alloc (.cells #[.string x.text, .bool x.list, .slice A x.sub.length k] 27))
      refine bodyPost_ret (v := .tuple #[.agg #[(.string x.text), (.bool x.list), (.slice A x.sub.length k)], .int .i64 0]) (by simp [results, Tryd.results76, go_sem, d0, d1, d2]) rfl ?_
      rw [HE.out.1, HE.out.2]
      refine ⟨(((HBB.out.setCell (by simp) _).setCell (by simp) _).setCell (by simp) _).alloc (by simp [World.setCell]; omega) _, _, _, _, rfl, ?_⟩
      have := HB2.out
      exact HIT.out.only (((((Only.refl [w.heap.size] w1).setCell (by simp) _).setCell (by simp) _).setCell (by simp) _).alloc _) (by simp; omega) (fun k _ h => by omega)
  · have HE : Hid (E = re ∧ X = noIt) := Lib.hid (by
      have h2 : E = re := by rw [HGE.out, if_pos h0]
      exact ⟨h2, by rw [HGX.out, if_pos (by omega)]⟩)
    have k0 : (re == 0) = false := beq_eq_false_iff_ne.2 h0
    have k1 : (re != 0) = true := by simp [h0]
    have H0 := Lib.hid h0
    clear HGE HGX h0
    go_enter Tryd.func76, Tryd.ntmps76
    go_wp2_with fail
    rw [HW0.out]
    refine HC.out.mono ?_
    rintro e w1 ⟨hb, hx, _⟩
    obtain rfl := hx H0.out
    dsimp only
    have h6 := HB3.out.keep hb (by have := HB2.out; omega)
    have hz := hb.size
    have hz0 := HB2.out
    obtain ⟨p0, p1, p2, pf0, pf1, pf2⟩ := blk3 h6
    have HB6 := Lib.hid h6
    have HBB : Hid (Below w.heap.size w w1) := Lib.hid (HB1.out.trans (hb.mono (by omega)))
    have hlt : w.heap.size < w1.heap.size := by omega
    clear h6 hb hx hz hz0
    go_wp2
    obtain ⟨d0, d1, d2, _⟩ := blk3 ((put3 HB6.out (.string ⟨#[]⟩) (.bool false) (.slice none 0 0)).alloc (.cells #[.string ⟨#[]⟩, .bool false, .slice none 0 0] 27))
    refine bodyPost_ret (v := .tuple #[.agg #[.string ⟨#[]⟩, .bool false, .slice none 0 0], .int .i64 re]) (by simp [results, Tryd.results76, go_sem, d0, d1, d2]) rfl ?_
    rw [HE.out.1, HE.out.2]
    refine ⟨(((HBB.out.setCell (by simp) _).setCell (by simp) _).setCell (by simp) _).alloc (by simp [World.setCell]; omega) _, _, _, _, rfl, ?_⟩
    exact noIt_S _ _
end Go.Proofs.YtacikiambpfipaaDoor
namespace Go.Proofs.YtacikiambpfipaaDoor
set_option linter.unusedVariables false
set_option linter.unusedSimpArgs false
open Go.RowKit

def numT (k : Nat) : ByteArray := ⟨(minL k).toArray⟩
theorem numT_size (k : Nat) (h : k < 18446744073709551616) : (numT k).size ≤ 8 := by
  unfold numT; rw [size_of]; exact minL_length 8 k (by simpa using h)
set_option maxHeartbeats 400000 in
theorem helNum_c (k : Nat) (w : World) (hk : k ≤ 4611686018427387904) :
    Calls Tryd.prog 82 #[.int .i64 k] w fun e w' => e = .returned (.agg #[.string (numT k), .bool false, .slice none 0 0]) ∧ Below w.heap.size w w' := by
  have HC := Lib.hid (fun w => number_c k w (by omega))
  have HB := Lib.hid (Blk.new w 27 #[.string ⟨#[]⟩, .bool false, .slice none 0 0])
  change Hid (∀ w, Calls Tryd.prog 83 #[.int .u64 k] w fun e w' => e = .returned (.agg #[.string (numT k), .bool false, .slice none 0 0]) ∧ Below w.heap.size w w') at HC
  generalize numT k = T at *
  go_enter Tryd.func82, Tryd.ntmps82
  go_wp2_with fail
  refine (HC.out _).mono ?_
  rintro e w1 ⟨rfl, hb⟩
  have h1 := HB.out.keep hb (by simp)
  obtain ⟨p0, p1, p2, pf0, pf1, pf2⟩ := blk3 h1
  have H1 := Lib.hid h1
  have HBB : Hid (Below w.heap.size w w1) := Lib.hid (((Below.refl w.heap.size w).alloc (Nat.le_refl _) _).trans (hb.mono (by simp)))
  clear hb h1
  go_wp2
  obtain ⟨d0, d1, d2, _⟩ := blk3 (((H1.out.set 0 (.string T)).set 1 (.bool false)).set 2 (.slice none 0 0))
  refine bodyPost_ret (v := .agg #[.string T, .bool false, .slice none 0 0]) (by simp [results, Tryd.results82, go_sem, d0, d1, d2]) rfl ⟨rfl, ?_⟩
  exact ((HBB.out.setCell (by simp) _).setCell (by simp) _).setCell (by simp) _
set_option maxHeartbeats 400000 in
theorem refNum_c (k : Nat) (w : World) (hk : k ≤ 4611686018427387904) :
    Calls Tryd.prog 92 #[.int .i64 k] w fun e w' => e = .returned (.agg #[.string (numT k), .bool false, .slice none 0 0]) ∧ Below w.heap.size w w' := by
  have HC := Lib.hid (fun w => refLeast_c k w (by omega))
  have HB := Lib.hid (Blk.new w 27 #[.string ⟨#[]⟩, .bool false, .slice none 0 0])
  change Hid (∀ w, Calls Tryd.prog 130 #[.int .u64 k] w fun e w' => e = .returned (.string (numT k)) ∧ Below w.heap.size w w') at HC
  generalize numT k = T at *
  go_enter Tryd.func92, Tryd.ntmps92
  go_wp2_with fail
  refine (HC.out _).mono ?_
  rintro e w1 ⟨rfl, hb⟩
  have h1 := HB.out.keep hb (by simp)
  obtain ⟨p0, p1, p2, pf0, pf1, pf2⟩ := blk3 h1
  have H1 := Lib.hid h1
  have HBB : Hid (Below w.heap.size w w1) := Lib.hid (((Below.refl w.heap.size w).alloc (Nat.le_refl _) _).trans (hb.mono (by simp)))
  clear hb h1
  go_wp2
  obtain ⟨d0, d1, d2, _⟩ := blk3 (((H1.out.set 0 (.string T)).set 1 (.bool false)).set 2 (.slice none 0 0))
  refine bodyPost_ret (v := .agg #[.string T, .bool false, .slice none 0 0]) (by simp [results, Tryd.results92, go_sem, d0, d1, d2]) rfl ⟨rfl, ?_⟩
  exact ((HBB.out.setCell (by simp) _).setCell (by simp) _).setCell (by simp) _
end Go.Proofs.YtacikiambpfipaaDoor
namespace Go.Proofs.YtacikiambpfipaaDoor
set_option linter.unusedVariables false
set_option linter.unusedSimpArgs false
open Go.RowKit

/-- append(x.Sub, sub), inside a region that draws its order. -/
theorem step_append_itemR {w : World} {ops : Array Oper} {o : Oper} {a : Act} {K : Act → World → Prop} {Q : Exit → Act → World → Prop} {E' : Prop} (hgd : o.guard = none) (s x : Operand)
    (ho : o.op = .call { callee := .builtin .append, args := #[s, x], argTypes := #[25, 25] }) (lo : Nat) (acc : List It) {v : Value} (hs : a.eval s = v) (hacc : Acc w lo acc v) (y : It) {c0 c1 c2 : Value}
    (hy : ItS w (fun k => lo ≤ k ∧ v.ownBlock ≠ some k) y c0 c1 c2) (g : Nat) (hx : a.eval x = .slice (some ⟨g, 0, none⟩) 1 1) (hg0 : w.cell? ⟨g, 0, none⟩ = some c0) (hg1 : w.cell? ⟨g, 1, none⟩ = some c1) (hg2 : w.cell? ⟨g, 2, none⟩ = some c2)
    (hlen : acc.length ≤ 1000000) (hlo : lo ≤ w.heap.size)
    (hK : ∀ g' n' cap w', Hid (n' = acc.length + 1) → Acc w' lo (acc ++ [y]) (.slice (some ⟨g', 0, none⟩) n' cap) → w.grownBy w' v.ownBlock → lo ≤ g' → K (a.put o.dst (.slice (some ⟨g', 0, none⟩) n' cap)) w') :
    if Region.wanted o (yielded ops a.tmps) = true then Oper.wp Tryd.prog o a w K Q else E' := by
  obtain ⟨i0, hi, hz0, hz1, hz2⟩ := info_parts info_item
  obtain ⟨cs, h1, h2⟩ := hacc
  refine step_append_lies w hgd s x 25 ho lo 27 i0 _ 3 48 Tryd.underlying25 hi hz0 hz1 hz2 rfl (by decide) v acc.length cs hs h1 ⟨g, 0, none⟩ 1 1 [c0, c1, c2] hx rfl ?_ (one3 hy) (by decide) (by simp only [maxLen]; omega) (by omega) hlo w.heap.size rfl ?_
  · intro j u hu
    have e1 : ∀ j, (⟨g, 0, none⟩ : Addr).add j = ⟨g, j, none⟩ := by intro j; unfold Addr.add; split <;> simp_all
    rw [e1]
    match j, hu with
    | 0, hu => simp at hu; subst hu; exact hg0
    | 1, hu => simp at hu; subst hu; exact hg1
    | 2, hu => simp at hu; subst hu; exact hg2
  · intro g' cap w' ho' hgr hat hlt
    have hge := own_ge ho' g' rfl
    refine hK g' _ cap w' (Lib.hid rfl) ⟨cs ++ [c0, c1, c2], by rw [List.length_append]; exact ho', ?_⟩ hgr hge
    refine ((h2.snoc hy).keep (fun k hk hS => ⟨hS.1, ?_⟩) fun p hp hS => World.cell?_of_block (hgr.block _ hp (fun e => hS.2 e.symm)))
    intro e
    have e : g' = k := by simpa [Value.ownBlock] using e
    rcases hat with hat | hat
    · exact hS.2 (by rw [hat, e])
    · omega
end Go.Proofs.YtacikiambpfipaaDoor
namespace Go.Proofs.YtacikiambpfipaaDoor
set_option linter.unusedVariables false
set_option linter.unusedSimpArgs false
open Go

section
variable {P : Program} {ops : Array Oper} {Q : Exit → Act → World → Prop} {md : Region.Mode} {S : World → Prop} {n : Nat}

def wpAnyT (P : Program) (md : Region.Mode) (ops : Array Oper) (Q : Exit → Act → World → Prop) (S : World → Prop) (n : Nat) : Nat → Array Bool → Act → World → Prop
  | 0, listed, a, w => Region.ready md ops listed = [] ∧ Q .normal a w
  | fuel + 1, listed, a, w =>
    (Region.ready md ops listed = [] → Q .normal a w) ∧
    ∀ i ∈ Region.ready md ops listed, wpOp P ops Q i (fun a' w' => (i ≠ n → S w') ∧ wpAnyT P md ops Q S n fuel (listed.setIfInBounds i true) a' w') a w

theorem wpAny_of_T : ∀ (fuel : Nat) (listed : Array Bool) (a : Act) (w : World), wpAnyT P md ops Q S n fuel listed a w → wpAny P md ops Q fuel listed a w
  | 0, _, _, _, h => h
  | fuel + 1, _, _, _, h => ⟨h.1, fun i hi => wpOp_mono (fun a' w' h' => wpAny_of_T fuel _ a' w' h'.2) (h.2 i hi)⟩

theorem wpAnyT_first {i : Nat} {oi : Oper} {v : Value} (hi : ops[i]? = some oi) (hsel : ∀ (j : Nat) (o : Oper) cs b, ops[j]? = some o → o.op ≠ .select cs b)
    (hs : Region.sinkB md ops n = true) (hc : Region.chainB md ops n = true) (hn : n < ops.size) (hin : i < n)
    (hQ : ∀ c a w, Q (.panic c) (a.put oi.dst v) w → Q (.panic c) a w) :
    ∀ (fuel : Nat) (listed : Array Bool) (a : Act) (w : World), HeadInv md ops n listed →
      (∀ j oj, ops[j]? = some oj → j ≠ i → listed.getD j true = false → (∀ e ∈ oj.after, Region.binds md e = true → e.on ≠ i) → oi.apart ops oj = true) →
      i ∈ Region.ready md ops listed → YieldsIf P ops S oi v a → S w →
      wpAnyT P md ops Q S n fuel (listed.setIfInBounds i true) (a.put oi.dst v) w → wpAnyT P md ops Q S n (fuel + 1) listed a w := by
  intro fuel
  induction fuel with
  | zero =>
    intro listed a w _ _ hr hy hS H
    refine ⟨fun h => (by rw [h] at hr; cases hr), fun j hj => ?_⟩
    by_cases hji : j = i
    · subst hji; exact hy.wpOp hi hS ⟨fun _ => hS, H⟩
    · have := ready_mono hj hji
      rw [H.1] at this
      cases this
  | succ fuel ih =>
    intro listed a w inv hfree hr hy hS H
    have hun := (mem_ready.1 hr).1
    refine ⟨fun h => (by rw [h] at hr; cases hr), fun j hj => ?_⟩
    have hjn : j < n := by
      rcases Nat.lt_or_ge j n with h | h
      · exact h
      · exact absurd hj (tail_waits hs hc hn inv _ i rfl hin hun j h)
    by_cases hji : j = i
    · subst hji; exact hy.wpOp hi hS ⟨fun _ => hS, H⟩
    · have h1 := H.2 j (ready_mono hj hji)
      obtain ⟨hjun, oj, hoj, hall⟩ := mem_ready.1 hj
      have hnot : ∀ e ∈ oj.after, Region.binds md e = true → e.on ≠ i := fun e he hb heq => by
        have h1 := hall e he hb
        rw [heq, getD_both hun] at h1
        cases h1
      have h2 := wpOp_putIf hoj (hfree j oj hoj hji hjun hnot) (fun cs b => hsel i oi cs b hi) (fun cs b => hsel j oj cs b hoj) hQ hy h1
      have hfree' : ∀ k ok, ops[k]? = some ok → k ≠ i → (listed.setIfInBounds j true).getD k true = false →
          (∀ e ∈ ok.after, Region.binds md e = true → e.on ≠ i) → oi.apart ops ok = true := fun k ok hk hki hun hno => by
        refine hfree k ok hk hki ?_ hno
        by_cases hjk : j = k
        · subst hjk; exact hjun
        · rw [getD_set_ne true hjk] at hun; exact hun
      refine wpOp_mono (fun a' w' h3 => ⟨fun _ => h3.2.1 (by omega), ih (listed.setIfInBounds j true) a' w' (inv.set hj hjn) hfree' (ready_mono hr (Ne.symm hji)) h3.1 (h3.2.1 (by omega)) ?_⟩) h2
      rw [Array.setIfInBounds_comm _ _ hji]
      exact h3.2.2

/-- The walk's goal. -/
def GT (P : Program) (md : Region.Mode) (ops : Array Oper) (Q : Exit → Act → World → Prop) (S : World → Prop) (n : Nat) (fuel : Nat) (listed : Array Bool) (a : Act) (w : World) : Prop :=
  HeadInv md ops n listed → wpAnyT P md ops Q S n fuel listed a w
def lastB (md : Region.Mode) (ops : Array Oper) (n : Nat) : Bool := Region.noSelect ops && decide (n < ops.size) && Region.sinkB md ops n && Region.chainB md ops n

theorem GT.take {i : Nat} {oi : Oper} {v : Value} {fuel : Nat} {listed : Array Bool} {a : Act} {w : World} (hi : ops[i]? = some oi) (hin : decide (i < n) = true)
    (hs : lastB md ops n = true) (hf : Region.free md ops listed i = true) (hr : (Region.ready md ops listed).contains i = true)
    (hQ : ∀ c a w, Q (.panic c) (a.put oi.dst v) w → Q (.panic c) a w) (hy : YieldsIf P ops S oi v a) (hS : S w)
    (h : GT P md ops Q S n fuel (listed.setIfInBounds i true) (a.put oi.dst v) w) : GT P md ops Q S n (fuel + 1) listed a w := fun inv => by
  simp only [lastB, Bool.and_eq_true, decide_eq_true_eq] at hs hin
  obtain ⟨⟨⟨h1, h2⟩, h3⟩, h4⟩ := hs
  have hr' : i ∈ Region.ready md ops listed := by simpa using hr
  exact wpAnyT_first hi (Region.noSelect_spec h1) h3 h4 h2 hin hQ fuel listed a w inv (Region.free_spec hi hf) hr' hy hS (h (inv.set hr' hin))
/-- One operation is next, and is not the last. -/
theorem GT.step {i : Nat} {o : Oper} {fuel : Nat} {listed : Array Bool} {a : Act} {w : World} (ho : ops[i]? = some o) (hin : decide (i < n) = true) (hr : Region.ready md ops listed = [i])
    (h : ∀ K' : Act → World → Prop, Shut (∀ a w, S w → (S w → GT P md ops Q S n fuel (listed.setIfInBounds i true) a w) → K' a w) → if Region.wanted o (yielded ops a.tmps) = true then Oper.wp P o a w K' Q else K' (a.put o.dst undef) w) : GT P md ops Q S n (fuel + 1) listed a w := fun inv => by
  refine ⟨fun h0 => (by rw [h0] at hr; cases hr), fun j hj => ?_⟩
  have hji : j = i := by rw [hr] at hj; simpa using hj
  subst hji
  have hin' : j < n := by simpa using hin
  exact wpOp_step ho (fun K' hK => h K' (fun a w hS hW => hK a w ⟨fun _ => hS, hW hS (inv.set hj hin')⟩))
/-- The last operation. -/
theorem GT.last {i : Nat} {o : Oper} {fuel : Nat} {listed : Array Bool} {a : Act} {w : World} (ho : ops[i]? = some o) (hin : decide (i = n) = true) (hr : Region.ready md ops listed = [i]) (hr2 : Region.ready md ops (listed.setIfInBounds i true) = [])
    (h : if Region.wanted o (yielded ops a.tmps) = true then Oper.wp P o a w (fun a' w' => Q .normal a' w') Q else Q .normal (a.put o.dst undef) w) : GT P md ops Q S n (fuel + 1) listed a w := fun inv => by
  refine ⟨fun h0 => (by rw [h0] at hr; cases hr), fun j hj => ?_⟩
  have hji : j = i := by rw [hr] at hj; simpa using hj
  subst hji
  have hjn : j = n := by simpa using hin
  subst hjn
  have hdone : ∀ (f : Nat) (a : Act) (w : World), Q .normal a w → wpAnyT P md ops Q S j f (listed.setIfInBounds j true) a w := fun f a w h => by
    cases f with
    | zero => exact ⟨hr2, h⟩
    | succ f => exact ⟨fun _ => h, by rw [hr2]; simp⟩
  refine wpOp_step ho (fun K' hK => ?_)
  split
  · rename_i hw
    rw [if_pos hw] at h
    exact Oper.wp_mono (fun a' w' h' => hK a' w' ⟨fun h0 => absurd rfl h0, hdone _ _ _ h'⟩) h
  · rename_i hw
    rw [if_neg hw] at h
    exact hK _ _ ⟨fun h0 => absurd rfl h0, hdone _ _ _ h⟩
theorem wp_region_last {id : Nat} {a : Act} {w : World} (n : Nat) (S : World → Prop) (hm : P.follows .mixedOrders = true) (hn : lastB .any ops n = true) (h : GT P .any ops Q S n ops.size (Array.replicate ops.size false) a w.drew) : (Code.region id ops true).wp P Q a w := by
  have h' := hn
  simp only [lastB, Bool.and_eq_true, decide_eq_true_eq] at h'
  exact wp_region_any hm (wpAny_of_T _ _ _ _ (h ⟨by simp, fun j oj _ hl => (by rw [getD_replicate_false] at hl; cases hl), fun t _ ht => getD_in (by simpa using ht) (getD_replicate_false _ _)⟩))
end
end Go.Proofs.YtacikiambpfipaaDoor
