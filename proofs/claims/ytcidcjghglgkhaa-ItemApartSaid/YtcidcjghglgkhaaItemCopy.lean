/- item.anew and Copy: an item like it, all lists within it new, and free to be written. -/
import Derived.Test.YtcidcjghglgkhaaItemS
import Derived.Test.YtcidcjghglgkhaaItemMay
import Derived.Test.YtcidcjghglgkhaaItemRef
namespace Go.Proofs.Ytcidcjghglgkhaa
set_option linter.unusedVariables false
set_option linter.unusedSimpArgs false
open Go.RowKit

mutual
/-- The three cells are the item x, whose lists lie from block lo on, each at its row's head; their cells may be written. -/
def ItF (w : World) (lo : Nat) : It → Value → Value → Value → Prop
  | .mk t l s, c0, c1, c2 => c0 = .string t ∧ c1 = .bool l ∧ t.size ≤ 9223372036854775807 ∧ s.length ≤ 9223372036854775807 ∧ ∃ A cap, c2 = .slice A s.length cap ∧ s.length ≤ cap ∧ cap ≤ 9223372036854775807 ∧ ItsF w lo s A 0
def ItsF (w : World) (lo : Nat) : List It → Option Addr → Nat → Prop
  | [], _, _ => True
  | x :: xs, A, i => (∃ b c0 c1 c2, A = some ⟨b, 0, none⟩ ∧ lo ≤ b ∧ w.cell? ⟨b, i * 3, none⟩ = some c0 ∧ w.cell? ⟨b, i * 3 + 1, none⟩ = some c1 ∧ w.cell? ⟨b, i * 3 + 2, none⟩ = some c2 ∧ (∀ o, w.frozen? ⟨b, o, none⟩ = false) ∧ ItF w lo x c0 c1 c2) ∧ ItsF w lo xs A (i + 1)
end
theorem ItsF.at_ {w : World} {lo : Nat} {A : Option Addr} : ∀ {s : List It} {i : Nat}, ItsF w lo s A i → ∀ (j : Nat) (h : j < s.length), ∃ b c0 c1 c2, A = some ⟨b, 0, none⟩ ∧ lo ≤ b ∧ w.cell? ⟨b, (i + j) * 3, none⟩ = some c0 ∧ w.cell? ⟨b, (i + j) * 3 + 1, none⟩ = some c1 ∧ w.cell? ⟨b, (i + j) * 3 + 2, none⟩ = some c2 ∧ (∀ o, w.frozen? ⟨b, o, none⟩ = false) ∧ ItF w lo s[j] c0 c1 c2
  | [], _, _, j, h => by simp at h
  | x :: xs, i, hi, 0, _ => by simpa [ItsF] using hi.1
  | x :: xs, i, hi, j + 1, h => by
    have := ItsF.at_ hi.2 j (by simpa using h)
    rw [show i + 1 + j = i + (j + 1) from by omega] at this
    simpa using this
theorem ItsF.mk_ {w : World} {lo : Nat} {A : Option Addr} : ∀ {s : List It} {i : Nat}, (∀ (j : Nat) (h : j < s.length), ∃ b c0 c1 c2, A = some ⟨b, 0, none⟩ ∧ lo ≤ b ∧ w.cell? ⟨b, (i + j) * 3, none⟩ = some c0 ∧ w.cell? ⟨b, (i + j) * 3 + 1, none⟩ = some c1 ∧ w.cell? ⟨b, (i + j) * 3 + 2, none⟩ = some c2 ∧ (∀ o, w.frozen? ⟨b, o, none⟩ = false) ∧ ItF w lo s[j] c0 c1 c2) → ItsF w lo s A i
  | [], _, _ => by simp [ItsF]
  | x :: xs, i, h => by
    refine ⟨h 0 (Nat.zero_lt_succ _), ItsF.mk_ fun j hj => ?_⟩
    have := h (j + 1) (by simpa using hj)
    rw [show i + (j + 1) = i + 1 + j from by omega] at this
    simpa using this
theorem ItF.open_ {w : World} {lo : Nat} {x : It} {c0 c1 c2 : Value} (h : ItF w lo x c0 c1 c2) : ∃ A cap, c0 = .string x.text ∧ c1 = .bool x.list ∧ c2 = .slice A x.sub.length cap ∧ x.text.size ≤ 9223372036854775807 ∧ x.sub.length ≤ cap ∧ cap ≤ 9223372036854775807 ∧ ItsF w lo x.sub A 0 := by
  cases x with
  | mk t l s =>
    obtain ⟨h0, h1, ht, hs, A, cap, h2, hc, hm, h3⟩ := h
    exact ⟨A, cap, h0, h1, h2, ht, hc, hm, h3⟩
/-- It stands where its blocks do. -/
theorem ItF.keep {w w' : World} {lo lo' : Nat} (hlo : lo' ≤ lo) (hk : ∀ b, lo ≤ b → b < w.heap.size → w'.heap[b]? = w.heap[b]?) : ∀ (x : It) {c0 c1 c2 : Value}, ItF w lo x c0 c1 c2 → ItF w' lo' x c0 c1 c2 := by
  intro x
  induction x using It.ind with
  | h t l s ih =>
    intro c0 c1 c2 h
    obtain ⟨h0, h1, ht, hs, A, cap, h2, hc, hm, h3⟩ := h
    refine ⟨h0, h1, ht, hs, A, cap, h2, hc, hm, ItsF.mk_ fun j hj => ?_⟩
    obtain ⟨b, d0, d1, d2, hA, hb, e0, e1, e2, hf, hi⟩ := h3.at_ j hj
    have hbl := hk b hb (lt_of_cell e0)
    exact ⟨b, d0, d1, d2, hA, by omega, (World.cell?_of_block hbl).trans e0, (World.cell?_of_block hbl).trans e1, (World.cell?_of_block hbl).trans e2, fun o => (World.frozen?_of_block hbl).trans (hf o), ih _ (List.getElem_mem hj) hi⟩
theorem ItF.below {w w' : World} {lo : Nat} {x : It} {c0 c1 c2 : Value} (h : ItF w lo x c0 c1 c2) (hb : Below w.heap.size w w') : ItF w' lo x c0 c1 c2 := ItF.keep (Nat.le_refl _) (fun b _ hl => hb.block b hl) x h
theorem ItF.toIn {w : World} {lo : Nat} : ∀ (x : It) {c0 c1 c2 : Value}, ItF w lo x c0 c1 c2 → ItIn w w.heap.size x c0 c1 c2 := by
  intro x
  induction x using It.ind with
  | h t l s ih =>
    intro c0 c1 c2 h
    obtain ⟨h0, h1, ht, hs, A, cap, h2, hc, hm, h3⟩ := h
    refine ⟨h0, h1, ht, hs, A, cap, h2, hc, hm, ItsIn.mk_ fun j hj => ?_⟩
    obtain ⟨b, d0, d1, d2, hA, hb, e0, e1, e2, _, hi⟩ := h3.at_ j hj
    exact ⟨b, 0, d0, d1, d2, hA, lt_of_cell e0, by simpa using e0, by simpa using e1, by simpa using e2, ih _ (List.getElem_mem hj) hi⟩
/-- Half way: of the row in block g the first k items are new ones, the others those that were. -/
def Half (w : World) (lo B g n k : Nat) (s : List It) : Prop :=
  (∃ cur, Blk w g 24 cur ∧ n * 3 ≤ cur.size) ∧ ∀ j (h : j < s.length), ∃ d0 d1 d2, w.cell? ⟨g, j * 3, none⟩ = some d0 ∧ w.cell? ⟨g, j * 3 + 1, none⟩ = some d1 ∧ w.cell? ⟨g, j * 3 + 2, none⟩ = some d2 ∧ (k ≤ j → ItIn w B s[j] d0 d1 d2) ∧ (j < k → ItF w lo s[j] d0 d1 d2)
theorem Half.keep {w w' : World} {lo B g n k : Nat} {s : List It} (h : Half w lo B g n k s) (hb : Below w.heap.size w w') (hB : B ≤ w.heap.size) : Half w' lo B g n k s := by
  obtain ⟨⟨cur, hc, hn⟩, h2⟩ := h
  refine ⟨⟨cur, hc.keep hb hc.lt, hn⟩, fun j hj => ?_⟩
  obtain ⟨d0, d1, d2, e0, e1, e2, h3, h4⟩ := h2 j hj
  exact ⟨d0, d1, d2, (hb.cell hc.lt).trans e0, (hb.cell hc.lt).trans e1, (hb.cell hc.lt).trans e2, fun hk => (h3 hk).below (hb.mono hB), fun hk => (h4 hk).below hb⟩
/-- sub[k] = y. -/
theorem Half.put {w : World} {lo B g n k : Nat} {s : List It} (h : Half w lo B g n k s) (hk : k < s.length) (hn : s.length = n) (hg : g < lo) (hB : B ≤ g) {c0 c1 c2 : Value} (hy : ItF w lo s[k] c0 c1 c2) :
    Half (((w.setCell ⟨g, k * 3, none⟩ c0).setCell ⟨g, k * 3 + 1, none⟩ c1).setCell ⟨g, k * 3 + 2, none⟩ c2) lo B g n (k + 1) s := by
  obtain ⟨⟨cur, hc, hcn⟩, h2⟩ := h
  have hb1 : Only [g] w (((w.setCell ⟨g, k * 3, none⟩ c0).setCell ⟨g, k * 3 + 1, none⟩ c1).setCell ⟨g, k * 3 + 2, none⟩ c2) := ((((Only.refl [g] w).setCell (p := ⟨g, k * 3, none⟩) (by simp) _).setCell (p := ⟨g, k * 3 + 1, none⟩) (by simp) _).setCell (p := ⟨g, k * 3 + 2, none⟩) (by simp) _)
  have hc2 := ((hc.set (k * 3) c0).set (k * 3 + 1) c1).set (k * 3 + 2) c2
  refine ⟨⟨_, hc2, by simpa using hcn⟩, fun j hj => ?_⟩
  obtain ⟨d0, d1, d2, e0, e1, e2, h3, h4⟩ := h2 j hj
  have hkeepI : ∀ {x : It} {a0 a1 a2 : Value}, ItIn w B x a0 a1 a2 → ItIn (((w.setCell ⟨g, k * 3, none⟩ c0).setCell ⟨g, k * 3 + 1, none⟩ c1).setCell ⟨g, k * 3 + 2, none⟩ c2) B x a0 a1 a2 := fun {x} {a0} {a1} {a2} hi =>
    ItIn.keep (Nat.le_refl _) (fun p hp => hb1.cell (by have := hc.lt; omega) (by simp; omega)) x hi
  have hkeepF : ∀ {x : It} {a0 a1 a2 : Value}, ItF w lo x a0 a1 a2 → ItF (((w.setCell ⟨g, k * 3, none⟩ c0).setCell ⟨g, k * 3 + 1, none⟩ c1).setCell ⟨g, k * 3 + 2, none⟩ c2) lo x a0 a1 a2 := fun {x} {a0} {a1} {a2} hi =>
    ItF.keep (Nat.le_refl _) (fun b hb hl => hb1.block b hl (by simp; omega)) x hi
  by_cases hjk : j = k
  · subst hjk
    refine ⟨c0, c1, c2, ?_, ?_, ?_, fun h => by omega, fun _ => hkeepF hy⟩
    · rw [hc2.cell]; simp [Array.getElem?_setIfInBounds]; omega
    · rw [hc2.cell]; simp [Array.getElem?_setIfInBounds]; omega
    · rw [hc2.cell]; simp [Array.getElem?_setIfInBounds]; omega
  · refine ⟨d0, d1, d2, ?_, ?_, ?_, fun h => hkeepI (h3 (by omega)), fun h => hkeepF (h4 (by omega))⟩
    · rw [hc2.cell]; rw [hc.cell] at e0; simp [Array.getElem?_setIfInBounds]; rw [if_neg (by omega), if_neg (by omega), if_neg (by omega)]; exact e0
    · rw [hc2.cell]; rw [hc.cell] at e1; simp [Array.getElem?_setIfInBounds]; rw [if_neg (by omega), if_neg (by omega), if_neg (by omega)]; exact e1
    · rw [hc2.cell]; rw [hc.cell] at e2; simp [Array.getElem?_setIfInBounds]; rw [if_neg (by omega), if_neg (by omega), if_neg (by omega)]; exact e2
theorem Half.done {w : World} {lo B g n k : Nat} {s : List It} (h : Half w lo B g n k s) (hk : s.length ≤ k) (hg : g < lo) {lo' : Nat} (hlo : lo' ≤ g) : ItsF w lo' s (some ⟨g, 0, none⟩) 0 := by
  obtain ⟨⟨cur, hc, hn⟩, h2⟩ := h
  refine ItsF.mk_ fun j hj => ?_
  obtain ⟨d0, d1, d2, e0, e1, e2, _, h4⟩ := h2 j hj
  exact ⟨g, d0, d1, d2, rfl, hlo, by simpa using e0, by simpa using e1, by simpa using e2, fun o => hc.frozen o, ItF.keep (by omega) (fun _ _ _ => rfl) _ (h4 (by omega))⟩
theorem half_start {w w' : World} {base B cap : Nat} {A : Option Addr} {s : List It} {cs : List Value} (hs : s ≠ []) (ho : w'.ownsRow base 24 3 (.slice A s.length cap) s.length cs) (ha : ItsAre w B s cs) (hb : Below w.heap.size w w') (hB : B ≤ w.heap.size) :
    ∃ g, A = some ⟨g, 0, none⟩ ∧ base ≤ g ∧ g < w'.heap.size ∧ Half w' (g + 1) B g s.length 0 s := by
  rcases ho.2 with ⟨h1, h2⟩ | ⟨g, cap', cur, hv, hg, hh, hn, hm, hz, ht⟩
  · exact absurd (List.eq_nil_of_length_eq_zero h2) hs
  · injection hv with hA _ hc
    subst hA; subst hc
    refine ⟨g, rfl, hg, lt_of_block hh, ⟨cur, hh, by rw [hz]; omega⟩, fun j hj => ?_⟩
    -- the cells of place j
    have key : ∀ {s : List It} {cs : List Value}, ItsAre w B s cs → ∀ j (hj : j < s.length), ∃ d0 d1 d2, cs[j * 3]? = some d0 ∧ cs[j * 3 + 1]? = some d1 ∧ cs[j * 3 + 2]? = some d2 ∧ ItIn w B s[j] d0 d1 d2 := by
      intro s
      induction s with
      | nil => intro cs _ j hj; simp at hj
      | cons x xs ih =>
        intro cs h j hj
        obtain ⟨e0, e1, e2, ds, rfl, h1, h2⟩ := h
        cases j with
        | zero => exact ⟨e0, e1, e2, rfl, rfl, rfl, h1⟩
        | succ j =>
          obtain ⟨d0, d1, d2, k0, k1, k2, k3⟩ := ih h2 j (by simpa using hj)
          refine ⟨d0, d1, d2, ?_, ?_, ?_, by simpa using k3⟩
          · rw [show (j + 1) * 3 = j * 3 + 3 from by omega]; simpa using k0
          · rw [show (j + 1) * 3 + 1 = (j * 3 + 1) + 3 from by omega]; simpa using k1
          · rw [show (j + 1) * 3 + 2 = (j * 3 + 2) + 3 from by omega]; simpa using k2
    obtain ⟨d0, d1, d2, k0, k1, k2, k3⟩ := key ha j hj
    have cell : ∀ i u, cs[i]? = some u → w'.cell? ⟨g, i, none⟩ = some u := fun i u hu => by
      have := ho.cells rfl i u hu
      have e1 : (⟨g, 0, none⟩ : Addr).add i = ⟨g, i, none⟩ := by unfold Addr.add; split <;> simp_all
      rwa [e1] at this
    exact ⟨d0, d1, d2, cell _ _ k0, cell _ _ k1, cell _ _ k2, fun _ => k3.below (hb.mono hB), fun h => by omega⟩
set_option maxRecDepth 100000 in
set_option maxHeartbeats 1600000 in
theorem anew_c : ∀ (x : It) (B : Nat) (w : World) (c0 c1 c2 : Value), ItIn w B x c0 c1 c2 → B ≤ w.heap.size → x.count ≤ 1000000 →
    Calls Try.prog 53 #[.agg #[c0, c1, c2]] w fun e w' => (∃ d2, e = .returned (.agg #[c0, c1, d2]) ∧ ItF w' w.heap.size x c0 c1 d2) ∧ Below w.heap.size w w' := by
  intro x
  induction x using It.ind with
  | h t l s ih =>
    intro B w c0 c1 c2 h hB hcnt
    obtain ⟨rfl, rfl, ht, hs, A, cap, rfl, hcap, hcm, hsub⟩ := h
    have IH := Lib.hid ih
    have HS := Lib.hid hsub
    clear ih hsub
    have hcs : countL s ≤ 1000000 := by simp only [It.count] at hcnt; omega
    have hln := length_le_countL s
    clear hcnt
    have hbb : Below w.heap.size w ((w.alloc (.cells #[.string t, .bool l, .slice A s.length cap] 24)).alloc (.cells #[.string ⟨#[]⟩, .bool false, .slice none 0 0] 24)) := (by repeat (first | exact Below.refl _ _ | assumption | with_reducible refine Below.drewN' ?_ _ | with_reducible refine Below.drew ?_ | ((with_reducible refine Below.alloc' ?_ ?_ _); · (first | omega | (simp <;> omega)))))
    have HC := Lib.hid (clone_c s A B cap _ (HS.out.below (hbb.mono hB)) (by simp; omega) (by omega))
    have HBB := Lib.hid hbb
    have hx0 : Blk ((w.alloc (.cells #[.string t, .bool l, .slice A s.length cap] 24)).alloc (.cells #[.string ⟨#[]⟩, .bool false, .slice none 0 0] 24)) w.heap.size 24 #[.string t, .bool l, .slice A s.length cap] := (Blk.new w _ _).alloc _
    have hr0 : Blk ((w.alloc (.cells #[.string t, .bool l, .slice A s.length cap] 24)).alloc (.cells #[.string ⟨#[]⟩, .bool false, .slice none 0 0] 24)) (w.heap.size + 1) 24 #[.string ⟨#[]⟩, .bool false, .slice none 0 0] := by
      have := Blk.new (w.alloc (.cells #[.string t, .bool l, .slice A s.length cap] 24)) 24 #[.string ⟨#[]⟩, .bool false, .slice none 0 0]
      simpa using this
    have HX0 := Lib.hid hx0
    have HR0 := Lib.hid hr0
    clear hbb hx0 hr0
    go_enter Try.func53, Try.ntmps53
    go_wp2_with fail
    refine HC.out.mono ?_
    rintro e w2 ⟨⟨A', cap', cs, rfl, h1, h2, _, ha, ho⟩, hb2⟩
    have hz2 := hb2.size
    simp only [World.size_alloc] at hz2
    have HX := Lib.hid (HX0.out.keep hb2 (by simp; omega))
    have HR := Lib.hid (HR0.out.keep hb2 (by simp))
    have HB : Hid (Below w.heap.size w w2) := Lib.hid (HBB.out.trans (hb2.mono (by simp; omega)))
    have HS2 := Lib.hid (fun hs => half_start hs ho ha hb2 (by simp; omega))
    clear ha ho hb2 HC HX0 HR0 HBB
    obtain ⟨g0, g1, g2, gf0, gf1, gf2⟩ := blk3 HX.out
    obtain ⟨r0, r1, r2, rf0, rf1, rf2⟩ := blk3 HR.out
    by_cases hs0 : s = []
    · subst hs0
      go_wp2_with fail
      refine wp_loop_rounds 1 ?_
      rw [rounds_succ]
      go_wp2
      refine bodyPost_ret (v := .agg #[.string t, .bool l, .slice A' 0 cap']) (by simp [results, Try.results53, go_sem, r0, r1, r2]) rfl ?_
      exact ⟨⟨_, rfl, rfl, rfl, ht, by simp, A', cap', rfl, by simp, h2, trivial⟩, ((HB.out.setCell (by simp) _).setCell (by simp) _).setCell (by simp) _⟩
    · obtain ⟨g, rfl, hg1, hg2, hhalf⟩ := HS2.out hs0
      simp only [World.size_alloc] at hg1
      have HH := Lib.hid hhalf
      clear hhalf hs0 HS2
      go_wp2_with fail
      go_loopw [10] (fun i wr => ∃ k : Nat, k ≤ s.length ∧ i = .int .i64 k ∧ Half wr (g + 1) B g s.length k s ∧ Below w.heap.size w wr ∧ Blk wr w.heap.size 24 #[.string t, .bool l, .slice A s.length cap] ∧ Blk wr (w.heap.size + 1) 24 #[.string ⟨#[]⟩, .bool false, .slice none 0 0] ∧ g < wr.heap.size) (fun i _ => s.length - (intOf i).toNat)
      case atStart => exact ⟨0, by omega, rfl, HH.out, HB.out, HX.out, HR.out, hg2⟩
      case round =>
        clear g0 g1 g2 gf0 gf1 gf2 r0 r1 r2 rf0 rf1 rf2 HH HB HX HR
        obtain ⟨k, hk, rfl, hhalf, hb, hx, hr, hgz⟩ := hrel
        have HH := Lib.hid hhalf
        have HB := Lib.hid hb
        have HX := Lib.hid hx
        have HR := Lib.hid hr
        have hwz := hb.size
        obtain ⟨g0, g1, g2, gf0, gf1, gf2⟩ := blk3 hx
        obtain ⟨r0, r1, r2, rf0, rf1, rf2⟩ := blk3 hr
        clear hb hx hr
        by_cases hlt : k < s.length
        · obtain ⟨d0, d1, d2, e0, e1, e2, hin, _⟩ := hhalf.2 k hlt
          have hin := hin (Nat.le_refl _)
          have hmem := List.getElem_mem hlt
          have hcl : s[k].count ≤ 1000000 := by
            have := countL_take_le s (k + 1)
            rw [take_succ_it s k hlt, countL_append] at this
            simp only [countL] at this
            omega
          have HC := Lib.hid (IH.out _ hmem B wr d0 d1 d2 hin (by omega) hcl)
          obtain ⟨AA, ccap, rfl, rfl, rfl, _⟩ := hin.open_
          clear hin hhalf
          go_wp2_with fail
          refine HC.out.mono ?_
          rintro e w3 ⟨⟨f2, rfl, hy⟩, hb3⟩
          have hz3 := hb3.size
          obtain ⟨BB, bcap, _, _, rfl, _⟩ := hy.open_
          have hH3 := HH.out.keep hb3 (by omega)
          obtain ⟨⟨cur, hcur, _⟩, hat⟩ := hH3
          obtain ⟨k0, k1, k2, m0, m1, m2, _⟩ := hat k hlt
          have n0 := hcur.frozen (k * 3)
          have n1 := hcur.frozen (k * 3 + 1)
          have n2 := hcur.frozen (k * 3 + 2)
          have HB3 := Lib.hid (HB.out.trans (hb3.mono hwz))
          have HX3 := Lib.hid (HX.out.keep hb3 HX.out.lt)
          have HR3 := Lib.hid (HR.out.keep hb3 HR.out.lt)
          have HP3 := Lib.hid ((HH.out.keep hb3 (by omega)).put hlt rfl (by omega) (by omega) (ItF.keep (lo' := g + 1) (by omega) (fun _ _ _ => rfl) _ hy))
          clear hb3 hy hcur hat
          go_wp2
          go_roundw
          case rel =>
            refine ⟨k + 1, by omega, by go_num, HP3.out, ((HB3.out.setCell (by simp; omega) _).setCell (by simp; omega) _).setCell (by simp; omega) _, ((HX3.out.far (by simp; omega) _).far (by simp; omega) _).far (by simp; omega) _, ((HR3.out.far (by simp; omega) _).far (by simp; omega) _).far (by simp; omega) _, by simp [World.setCell]; omega⟩
          case measure => simp [intOf]; omega
        · have HD := Lib.hid (hhalf.done (by omega) (by omega) (lo' := w.heap.size + 2) (by omega))
          clear hhalf
          go_wp2
          refine bodyPost_ret (v := .agg #[.string t, .bool l, .slice (some ⟨g, 0, none⟩) s.length cap']) (by simp [results, Try.results53, go_sem, r0, r1, r2]) rfl ?_
          refine ⟨⟨_, rfl, rfl, rfl, ht, hs, some ⟨g, 0, none⟩, cap', rfl, h1, h2, ?_⟩, ((HB.out.setCell (by simp) _).setCell (by simp) _).setCell (by simp) _⟩
          have hit : ItF wr (w.heap.size + 2) (.mk t l s) (.string t) (.bool l) (.slice (some ⟨g, 0, none⟩) s.length cap') := ⟨rfl, rfl, ht, hs, some ⟨g, 0, none⟩, cap', rfl, h1, h2, HD.out⟩
          have hit2 := ItF.keep (lo' := w.heap.size) (w' := ((wr.setCell ⟨w.heap.size + 1, 0, none⟩ (.string t)).setCell ⟨w.heap.size + 1, 1, none⟩ (.bool l)).setCell ⟨w.heap.size + 1, 2, none⟩ (.slice (some ⟨g, 0, none⟩) s.length cap')) (by omega) (fun b hb hl => ((((Only.refl [w.heap.size + 1] wr).setCell (p := ⟨w.heap.size + 1, 0, none⟩) (by simp) _).setCell (p := ⟨w.heap.size + 1, 1, none⟩) (by simp) _).setCell (p := ⟨w.heap.size + 1, 2, none⟩) (by simp) _).block b hl (by simp; omega)) _ hit
          obtain ⟨_, _, _, _, A9, cap9, h9, _, _, h10⟩ := hit2
          injection h9 with h9
          subst h9
          exact h10
set_option maxRecDepth 100000 in
set_option maxHeartbeats 800000 in
theorem copy_c (x : It) (B : Nat) (w : World) (c0 c1 c2 : Value) (h : ItIn w B x c0 c1 c2) (hB : B ≤ w.heap.size) (hm : x.may = true) :
    Calls Try.prog 16 #[.agg #[c0, c1, c2]] w fun e w' => (∃ d2, e = .returned (.agg #[c0, c1, d2]) ∧ ItF w' w.heap.size x c0 c1 d2) ∧ Below w.heap.size w w' := by
  have hcnt : x.count ≤ 1000000 := by simp only [It.may, Bool.and_eq_true, decide_eq_true_eq] at hm; omega
  have HI := Lib.hid h
  obtain ⟨A, cap, rfl, rfl, rfl, _⟩ := h.open_
  have hbb : Below w.heap.size w ((w.alloc (.cells #[.string x.text, .bool x.list, .slice A x.sub.length cap] 24)).alloc (.cells #[.string ⟨#[]⟩, .bool false, .slice none 0 0] 24)) := (by repeat (first | exact Below.refl _ _ | assumption | with_reducible refine Below.drewN' ?_ _ | with_reducible refine Below.drew ?_ | ((with_reducible refine Below.alloc' ?_ ?_ _); · (first | omega | (simp <;> omega)))))
  have HC := Lib.hid (may_c x B _ _ _ _ (HI.out.below (hbb.mono hB)) (by simp; omega))
  rw [hm] at HC
  have hx0 : Blk ((w.alloc (.cells #[.string x.text, .bool x.list, .slice A x.sub.length cap] 24)).alloc (.cells #[.string ⟨#[]⟩, .bool false, .slice none 0 0] 24)) w.heap.size 24 #[.string x.text, .bool x.list, .slice A x.sub.length cap] := (Blk.new w _ _).alloc _
  have hr0 : Blk ((w.alloc (.cells #[.string x.text, .bool x.list, .slice A x.sub.length cap] 24)).alloc (.cells #[.string ⟨#[]⟩, .bool false, .slice none 0 0] 24)) (w.heap.size + 1) 24 #[.string ⟨#[]⟩, .bool false, .slice none 0 0] := by
    have := Blk.new (w.alloc (.cells #[.string x.text, .bool x.list, .slice A x.sub.length cap] 24)) 24 #[.string ⟨#[]⟩, .bool false, .slice none 0 0]
    simpa using this
  have HBB := Lib.hid hbb
  have HX0 := Lib.hid hx0
  have HR0 := Lib.hid hr0
  clear h hbb hm hx0 hr0
  go_enter Try.func16, Try.ntmps16
  go_wp2_with fail
  refine HC.out.mono ?_
  rintro e w2 ⟨rfl, hb2⟩
  have hz2 := hb2.size
  simp only [World.size_alloc] at hz2
  have HB : Hid (Below w.heap.size w w2) := Lib.hid (HBB.out.trans (hb2.mono (by simp; omega)))
  obtain ⟨g0, g1, g2, gf0, gf1, gf2⟩ := blk3 (HX0.out.keep hb2 (by simp; omega))
  have HR := Lib.hid (HR0.out.keep hb2 (by simp))
  have HC2 := Lib.hid (anew_c x B w2 _ _ _ (HI.out.below (HB.out.mono hB)) (by omega) hcnt)
  clear hb2
  go_wp2_with fail
  refine HC2.out.mono ?_
  rintro e w3 ⟨⟨d2, rfl, hy⟩, hb3⟩
  have hz3 := hb3.size
  obtain ⟨r0, r1, r2, rf0, rf1, rf2⟩ := blk3 (HR.out.keep hb3 (by omega))
  have HY := Lib.hid hy
  have HB3 : Hid (Below w.heap.size w w3) := Lib.hid (HB.out.trans (hb3.mono (by omega)))
  obtain ⟨BB, bcap, _, _, rfl, _⟩ := hy.open_
  clear hy hb3
  go_wp2
  refine bodyPost_ret (v := .agg #[.string x.text, .bool x.list, .slice BB x.sub.length bcap]) (by simp [results, Try.results16, go_sem, r0, r1, r2]) rfl ?_
  refine ⟨⟨_, rfl, ?_⟩, ((HB3.out.setCell (by simp) _).setCell (by simp) _).setCell (by simp) _⟩
  exact ItF.keep (by omega) (fun b hb hl => ((((Only.refl [w.heap.size + 1] w3).setCell (p := ⟨w.heap.size + 1, 0, none⟩) (by simp) _).setCell (p := ⟨w.heap.size + 1, 1, none⟩) (by simp) _).setCell (p := ⟨w.heap.size + 1, 2, none⟩) (by simp) _).block b hl (by simp; omega)) _ HY.out
end Go.Proofs.Ytcidcjghglgkhaa
