/- rlp.Next: its closure add. -/
import Derived.Test.YtacikiambpfipaaDoorKRdW
import Derived.Deep.RegionLaw
import Derived.Deep.AppendLies
namespace Go.Proofs.YtacikiambpfipaaDoor
set_option linter.unusedVariables false
set_option linter.unusedSimpArgs false
open Go.RowKit

theorem setCell_comm {w : World} {a b : Addr} (h : a.block ≠ b.block) (x y : Value) : (w.setCell a x).setCell b y = (w.setCell b y).setCell a x := by
  unfold World.setCell
  dsimp only
  congr 1
  apply Array.ext
  · simp
  · intro i h1 h2
    simp only [Array.getElem_modify]
    by_cases e1 : a.block = i
    · have e2 : ¬ b.block = i := fun e => h (e1.trans e.symm)
      simp [e1, e2]
    · simp [e1]
/-- append(top.sub, the zero item), inside a region that draws its order. -/
theorem step_append_zero {w : World} {ops : Array Oper} {o : Oper} {a : Act} {K : Act → World → Prop} {Q : Exit → Act → World → Prop} {E' : Prop} (hgd : o.guard = none) (s x : Operand)
    (ho : o.op = .call { callee := .builtin .append, args := #[s, x], argTypes := #[25, 25] }) (m n : Nat) {v : Value} {cs : List Value} (hs : a.eval s = v) (hrow : w.ownsRow m 27 3 v n cs) (B : Nat)
    (hx : a.eval x = .slice (some ⟨B, 0, none⟩) 1 1) (hb : Blk w B 27 #[.string ⟨#[]⟩, .bool false, .slice none 0 0]) (hlen : n ≤ 1000000) (hlo : m ≤ w.heap.size)
    (hK : ∀ g' c' w', Hid (w'.ownsRow m 27 3 (.slice (some ⟨g', 0, none⟩) (n + 1) c') (n + 1) (cs ++ [.string ⟨#[]⟩, .bool false, .slice none 0 0])) → Hid (w.grownBy w' v.ownBlock) → Hid (v.ownBlock = some g' ∨ w.heap.size ≤ g') → n + 1 ≤ c' → c' ≤ 9223372036854775807 →
      w'.cell? ⟨g', n * 3, none⟩ = some (.string ⟨#[]⟩) → w'.cell? ⟨g', n * 3 + 1, none⟩ = some (.bool false) → w'.cell? ⟨g', n * 3 + 2, none⟩ = some (.slice none 0 0) →
      w'.frozen? ⟨g', n * 3, none⟩ = false → w'.frozen? ⟨g', n * 3 + 1, none⟩ = false → w'.frozen? ⟨g', n * 3 + 2, none⟩ = false → K (a.put o.dst (.slice (some ⟨g', 0, none⟩) (n + 1) c')) w') :
    if Region.wanted o (yielded ops a.tmps) = true then Oper.wp Tryd.prog o a w K Q else E' := by
  obtain ⟨i0, hi, hz0, hz1, hz2⟩ := info_parts info_item
  refine step_append_lies w hgd s x 25 ho m 27 i0 _ 3 48 Tryd.underlying25 hi hz0 hz1 hz2 rfl (by decide) v n cs hs hrow ⟨B, 0, none⟩ 1 1 [.string ⟨#[]⟩, .bool false, .slice none 0 0] hx rfl ?_ ?_ (by decide) (by simp only [maxLen]; omega) (by omega) hlo w.heap.size rfl ?_
  · exact fun j u hu => World.news_of_block hb j u (by simpa using hu)
  · intro u hu
    simp at hu
    rcases hu with rfl | rfl | rfl <;> rfl
  · intro g' c' w' ho' hgr hat hlt
    obtain ⟨_, _, hc1, hc2, cur, hh⟩ := ownsRow_block ho'
    have hl := hrow.1
    have e1 : ∀ j, (⟨g', 0, none⟩ : Addr).add j = ⟨g', j, none⟩ := by intro j; unfold Addr.add; split <;> simp_all
    have h0 := ho'.cells (g := g') rfl (n * 3) (.string ⟨#[]⟩) (by rw [List.getElem?_append_right (by omega), hl, Nat.sub_self]; rfl)
    have h1 := ho'.cells (g := g') rfl (n * 3 + 1) (.bool false) (by rw [List.getElem?_append_right (by omega), hl, show n * 3 + 1 - n * 3 = 1 from by omega]; rfl)
    have h2 := ho'.cells (g := g') rfl (n * 3 + 2) (.slice none 0 0) (by rw [List.getElem?_append_right (by omega), hl, show n * 3 + 2 - n * 3 = 2 from by omega]; rfl)
    rw [e1] at h0 h1 h2
    exact hK g' c' w' (Lib.hid ho') (Lib.hid hgr) (Lib.hid (hat.imp id fun h => by omega)) hc1 hc2 h0 h1 h2 (frozen_at hh (.inl rfl)) (frozen_at hh (.inl rfl)) (frozen_at hh (.inl rfl))
/-- There is no open list: it is the whole. -/
theorem add_none (W : World) (b9 b10 : Nat) (A : Option Addr) (cp : Nat) (t : ByteArray) (l : Bool) (A2 : Option Addr) (n2 k2 : Nat) (z0 z1 z2 : Value) (hcp : cp ≤ 9223372036854775807) (h9 : Blk W b9 179 #[.slice A 0 cp]) (h10 : Blk W b10 27 #[z0, z1, z2]) (h9n : b9 ≠ b10) :
    Calls Tryd.prog 154 #[.agg #[.string t, .bool l, .slice A2 n2 k2], .pointer (some ⟨b9, 0, none⟩), .pointer (some ⟨b10, 0, none⟩)] W fun e w' => e = .returned (.tuple #[]) ∧ Blk w' b10 27 #[.string t, .bool l, .slice A2 n2 k2] ∧ Only [b10] W w' := by
  have q9 := h9.cell 0
  have q9 : W.cell? ⟨b9, 0, none⟩ = some (.slice A 0 cp) := h9.cell 0
  have h9l := h9.lt
  have h10l := h10.lt
  obtain ⟨g0, g1, g2, f0, f1, f2⟩ := blk3 h10
  have H10 := Lib.hid h10
  clear h9 h10
  go_enter Tryd.func154, Tryd.ntmps154
  go_wp2
  refine bodyPost_ret (v := .tuple #[]) (results_none rfl _ _ _) rfl ⟨rfl, ((((H10.out.set 0 _).set 1 _).set 2 _).alloc _), ?_⟩
  exact ((((Only.refl [b10] W).setCell (by simp) _).setCell (by simp) _).setCell (by simp) _).alloc _
set_option maxRecDepth 100000 in
set_option maxHeartbeats 2000000 in
theorem add_some (W : World) (lo hi g cp b9 b10 : Nat) (acc : List It) (en : Nat) (fs : List (List It × Nat)) (v0 v1 : Value) (vs : List (Value × Value)) (y : It) (c0 c1 c2 : Value)
    (h9 : Blk W b9 179 #[.slice (some ⟨g, 0, none⟩) (fs.length + 1) cp]) (hR : RdO W lo hi g cp ((acc, en) :: fs) ((v0, v1) :: vs)) (hy : ItS W (fun k => hi ≤ k ∧ NoRd W k) y c0 c1 c2) (hlen : acc.length ≤ 1000000) :
    Calls Tryd.prog 154 #[.agg #[c0, c1, c2], .pointer (some ⟨b9, 0, none⟩), .pointer (some ⟨b10, 0, none⟩)] W fun e w' => e = .returned (.tuple #[]) ∧ Below lo W w' ∧ ∃ v0', RdO w' lo w'.heap.size g cp ((acc ++ [y], en) :: fs) ((v0', v1) :: vs) := by
  have HR := Lib.hid hR
  obtain ⟨m, hm1, hm2, ⟨hv1, hown, cs, hrow, hit⟩, hlow⟩ := hR.rds
  obtain ⟨hgS, hgl, hcp, hcpm, cur, hh⟩ := hR.block
  obtain ⟨t0, t1, tf0, tf1⟩ := hR.top
  have hle := hR.le
  simp only [List.length_cons] at hcp
  dsimp only at hv1 hown hrow hit t0
  have HRW := Lib.hid hrow
  have HIT := Lib.hid hit
  have HLW := Lib.hid hlow
  have HOW := Lib.hid hown
  have HY := Lib.hid hy
  have HF : Hid (∃ A n cap, v0 = .slice A n cap ∧ n = acc.length ∧ n ≤ cap ∧ cap ≤ 9223372036854775807) := Lib.hid (by
    rcases hrow.2 with ⟨e1, e2⟩ | ⟨g2, cap2, cur2, hv2, _, _, hn2, hm2, _⟩
    · exact ⟨none, 0, 0, e1, e2.symm, by simp, by simp⟩
    · exact ⟨_, _, cap2, hv2, rfl, hn2, by simpa [maxLen] using hm2⟩)
  obtain ⟨A0, n0, cap0, rfl, hn0, hc0, hc0m⟩ := HF.out
  have HN0 := Lib.hid hn0
  obtain ⟨AA, ck, rfl, rfl, rfl, hty, hck, hckm, _⟩ := hy.open_
  have hq9 := h9.cell 0
  have h9l := h9.lt
  obtain ⟨r, hr⟩ : ∃ r, fs.length = r := ⟨_, rfl⟩
  have HRR := Lib.hid hr
  rw [hr] at t0 t1 tf0 tf1 hcp h9 hq9
  have HNO : Hid (∀ k, W.heap.size ≤ k → Value.ownBlock (.slice A0 n0 cap0) ≠ some k) := Lib.hid (fun k hk e => by have := hown k e; omega)
  have HNG : Hid (Value.ownBlock (.slice A0 n0 cap0) ≠ some g) := Lib.hid (by
    intro e
    rcases hrow.2 with ⟨e1, _⟩ | ⟨g2, cap2, cur2, hv2, _, hh2, _⟩
    · rw [e1] at e; cases e
    · rw [hv2] at e
      have : g2 = g := by simpa [Value.ownBlock] using e
      subst this
      rw [hh] at hh2
      injection hh2 with hh2
      injection hh2 with _ hh2
      exact absurd hh2 (by decide))
  subst hv1
  clear hit hlow hown hrow hy hR hh hr hn0
  have HLIT : Hid (Blk (((W.alloc (.cells #[.string y.text, .bool y.list, .slice AA y.sub.length ck] 27)).drew).alloc (.cells #[.string ⟨#[]⟩, .bool false, .slice none 0 0] 27)) (W.heap.size + 1) 27 #[.string ⟨#[]⟩, .bool false, .slice none 0 0]) := Lib.hid (by have := Blk.new (W.alloc (.cells #[.string y.text, .bool y.list, .slice AA y.sub.length ck] 27)).drew 27 #[.string ⟨#[]⟩, .bool false, .slice none 0 0]; simpa using this)
  have HBX : Hid (Blk (((W.alloc (.cells #[.string y.text, .bool y.list, .slice AA y.sub.length ck] 27)).drew).alloc (.cells #[.string ⟨#[]⟩, .bool false, .slice none 0 0] 27)) W.heap.size 27 #[.string y.text, .bool y.list, .slice AA y.sub.length ck]) := Lib.hid (((Blk.new W 27 #[.string y.text, .bool y.list, .slice AA y.sub.length ck]).drew).alloc _)
  have HRO : Hid ((((W.alloc (.cells #[.string y.text, .bool y.list, .slice AA y.sub.length ck] 27)).drew).alloc (.cells #[.string ⟨#[]⟩, .bool false, .slice none 0 0] 27)).ownsRow m 27 3 (.slice A0 n0 cap0) acc.length cs) := Lib.hid ((HRW.out.alloc _).drew.alloc _)
  have HBD : Hid (Below W.heap.size W (((W.alloc (.cells #[.string y.text, .bool y.list, .slice AA y.sub.length ck] 27)).drew).alloc (.cells #[.string ⟨#[]⟩, .bool false, .slice none 0 0] 27))) := Lib.hid ((((Below.refl W.heap.size W).alloc (Nat.le_refl _) _).drew).alloc (by simp) _)
  have HGD : Hid (g < (((W.alloc (.cells #[.string y.text, .bool y.list, .slice AA y.sub.length ck] 27)).drew).alloc (.cells #[.string ⟨#[]⟩, .bool false, .slice none 0 0] 27)).heap.size) := Lib.hid (by simp; omega)
  have HT0 : Hid ((((W.alloc (.cells #[.string y.text, .bool y.list, .slice AA y.sub.length ck] 27)).drew).alloc (.cells #[.string ⟨#[]⟩, .bool false, .slice none 0 0] 27)).cell? ⟨g, r * 2, none⟩ = some (.slice A0 n0 cap0) ∧ (((W.alloc (.cells #[.string y.text, .bool y.list, .slice AA y.sub.length ck] 27)).drew).alloc (.cells #[.string ⟨#[]⟩, .bool false, .slice none 0 0] 27)).frozen? ⟨g, r * 2, none⟩ = false) := Lib.hid ⟨(HBD.out.cell hgl).trans t0, (HBD.out.frozen hgl).trans tf0⟩
  have HGG : Hid (∀ g' : Nat, (Value.ownBlock (.slice A0 n0 cap0) = some g' ∨ (((W.alloc (.cells #[.string y.text, .bool y.list, .slice AA y.sub.length ck] 27)).drew).alloc (.cells #[.string ⟨#[]⟩, .bool false, .slice none 0 0] 27)).heap.size ≤ g') → g' ≠ g) := Lib.hid (fun g' h e => by
    subst e
    rcases h with h | h
    · exact HNG.out h
    · have := HGD.out; omega)
  have HMD : Hid (m ≤ (((W.alloc (.cells #[.string y.text, .bool y.list, .slice AA y.sub.length ck] 27)).drew).alloc (.cells #[.string ⟨#[]⟩, .bool false, .slice none 0 0] 27)).heap.size) := Lib.hid (by simp; omega)
  rw [← HN0.out] at hlen
  rw [← HN0.out] at HRO
  have hnn : (n0 : Int) < n0 + 1 := by omega
  go_enter Tryd.func154, Tryd.ntmps154
  go_wp2_with fail
  go_region_law (refine step_append_zero (by rfl) (.tmp 17) (.tmp 20) (by rfl) m n0 (by rfl) HRO.out (W.heap.size + 1) (by rfl) HLIT.out hlen HMD.out ?_; intro g' c' w1 HR1 HG1 HA1 hc1 hc2 q0 q1 q2 qf0 qf1 qf2; obtain ⟨x0, x1, x2, _⟩ := blk3 (HBX.out.grown HG1.out (HNO.out _ (Nat.le_refl _))); have e3 : w1.cell? ⟨g, r * 2, none⟩ = some (.slice A0 n0 cap0) := (HG1.out.cell_far ⟨g, r * 2, none⟩ HGD.out (Ne.symm HNG.out)).trans HT0.out.1; have e4 : w1.frozen? ⟨g, r * 2, none⟩ = false := (HG1.out.frozen_far ⟨g, r * 2, none⟩ HGD.out (Ne.symm HNG.out)).trans HT0.out.2; have hgg : g' ≠ g := HGG.out g' HA1.out; have hgg2 : g ≠ g' := Ne.symm hgg)
  all_goals
    have HD : Hid (RdO ((((w1.setCell ⟨g', n0 * 3, none⟩ (.string y.text)).setCell ⟨g', n0 * 3 + 1, none⟩ (.bool y.list)).setCell ⟨g', n0 * 3 + 2, none⟩ (.slice AA y.sub.length ck)).setCell ⟨g, r * 2, none⟩ (.slice (some ⟨g', 0, none⟩) (n0 + 1) c')) lo w1.heap.size g cp ((acc ++ [y], en) :: fs) ((.slice (some ⟨g', 0, none⟩) (n0 + 1) c', .int .i64 en) :: vs)) := Lib.hid (by
      have h1 := HA1.out
      have h2 := HR1.out
      have h3 := HRW.out
      rw [← HRR.out, HN0.out]
      rw [HN0.out] at h2
      exact RdO.added HR.out.row hle hm1 hm2 rfl HOW.out HRW.out HIT.out HLW.out HY.out ((grownBy_any (grownBy_none HBD.out) _).trans HG1.out) h2 (h1.imp id fun h => Nat.le_trans HBD.out.size h))
    have HBB : Hid (Below lo W ((((w1.setCell ⟨g', n0 * 3, none⟩ (.string y.text)).setCell ⟨g', n0 * 3 + 1, none⟩ (.bool y.list)).setCell ⟨g', n0 * 3 + 2, none⟩ (.slice AA y.sub.length ck)).setCell ⟨g, r * 2, none⟩ (.slice (some ⟨g', 0, none⟩) (n0 + 1) c'))) := Lib.hid (by
      have h1 : ∀ k, Value.ownBlock (.slice A0 n0 cap0) = some k → lo ≤ k := fun k hk => Nat.le_trans hm1 (HRW.out.lt k hk).1
      have hg' : lo ≤ g' := by
        rcases HA1.out with e | e
        · exact h1 _ e
        · have e2 := e
          simp at e2
          omega
      exact ((((((HBD.out.mono (by omega)).grown HG1.out (by simp; omega) h1).setCell (by simpa using hg') _).setCell (by simpa using hg') _).setCell (by simpa using hg') _).setCell (by simpa using hgS) _))
    have HCM : Hid (∀ (v : World) (x a b c : Value), (((v.setCell ⟨g, r * 2, none⟩ x).setCell ⟨g', n0 * 3, none⟩ a).setCell ⟨g', n0 * 3 + 1, none⟩ b).setCell ⟨g', n0 * 3 + 2, none⟩ c = (((v.setCell ⟨g', n0 * 3, none⟩ a).setCell ⟨g', n0 * 3 + 1, none⟩ b).setCell ⟨g', n0 * 3 + 2, none⟩ c).setCell ⟨g, r * 2, none⟩ x) := Lib.hid (fun v x a b c => by rw [setCell_comm (a := ⟨g, r * 2, none⟩) (b := ⟨g', n0 * 3, none⟩) hgg2, setCell_comm (a := ⟨g, r * 2, none⟩) (b := ⟨g', n0 * 3 + 1, none⟩) hgg2, setCell_comm (a := ⟨g, r * 2, none⟩) (b := ⟨g', n0 * 3 + 2, none⟩) hgg2])
    clear HR1 HG1 HA1 q0 q1 q2 qf0 qf1 qf2 x0 x1 x2 e3 e4
    go_wp2
    go_end0
    try rw [HCM.out]
    refine ⟨rfl, HBB.out, .slice (some ⟨g', 0, none⟩) (n0 + 1) c', ?_⟩
    have h2 := HD.out
    have hz : ((((w1.setCell ⟨g', n0 * 3, none⟩ (.string y.text)).setCell ⟨g', n0 * 3 + 1, none⟩ (.bool y.list)).setCell ⟨g', n0 * 3 + 2, none⟩ (.slice AA y.sub.length ck)).setCell ⟨g, r * 2, none⟩ (.slice (some ⟨g', 0, none⟩) (n0 + 1) c')).heap.size = w1.heap.size := by simp [World.setCell]
    rw [hz]; exact h2
end Go.Proofs.YtacikiambpfipaaDoor
