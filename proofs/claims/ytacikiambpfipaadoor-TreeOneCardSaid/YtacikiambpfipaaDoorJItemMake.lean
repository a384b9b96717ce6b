/- slices.Clone at items, item.List, item.Text. -/
import Derived.Test.YtacikiambpfipaaDoorProg
import Derived.Test.YtacikiambpfipaaDoorJA5
import Derived.Test.YtacikiambpfipaaDoorJA4
import Derived.Deep.DeepFit
import Derived.WalkSpells
import Derived.Lib.BufferMore
namespace Go.Proofs.YtacikiambpfipaaDoor
set_option linter.unusedVariables false
set_option linter.unusedSimpArgs false
open Go.RowKit

theorem info_item : (Tryd.prog.info? 27).map (fun i => (i.zero, i.size, i.bytes)) = some (some (.agg #[.string ⟨#[]⟩, .bool false, .slice none 0 0]), 3, 48) := by kernel_rfl

theorem lt_of_cell' {w : World} {p : Addr} {v : Value} (h : w.cell? p = some v) : p.block < w.heap.size := by
  rcases Nat.lt_or_ge p.block w.heap.size with h' | h'
  · exact h'
  · simp [World.cell?, Array.getElem?_eq_none h'] at h
theorem block_add (a : Addr) (n : Nat) : (a.add n).block = a.block := by unfold Addr.add; split <;> rfl

set_option maxRecDepth 100000 in
set_option maxHeartbeats 400000 in
theorem clone_some (ad : Addr) (n cap : Nat) (cs : List Value) (w : World) (hl : cs.length = n * 3) (hc : ∀ j u, cs[j]? = some u → w.cell? (ad.add j) = some u) (h1 : ∀ u ∈ cs, u.oneCell' = true) (hn : n ≤ 1000000) :
    Calls Tryd.prog 125 #[.slice (some ad) n cap] w fun e w' => (∃ g cap', e = .returned (.slice (some ⟨g, 0, none⟩) n cap') ∧ w'.ownsRow w.heap.size 27 3 (.slice (some ⟨g, 0, none⟩) n cap') n cs) ∧ Below w.heap.size w w' := by
  obtain ⟨i0, hi, hz0, hz1, hz2⟩ := info_parts info_item
  have hne := fun (w : World) (a : Addr) (n c : Nat) => Lib.run_eql_slice_some_nil (P := Tryd.prog) w a n c Tryd.underlying25
  have HL := Lib.hid hl
  have HC := Lib.hid hc
  have H1 := Lib.hid h1
  clear hl hc h1
  go_enter Tryd.func125, Tryd.ntmps125
  go_wp2_with (at_builtin; refine wpList_append_own _ (by rfl) (.tmp 5) (.tmp 6) 25 (by rfl) w.heap.size 27 i0 (.agg #[.string ⟨#[]⟩, .bool false, .slice none 0 0]) 3 48 Tryd.underlying25 hi hz0 hz1 hz2 rfl (by decide) (.slice (some ⟨w.heap.size, 0, none⟩) 0 0) 0 [] (by rfl) (World.ownsRow_lit w #[] 0 (Nat.le_refl _) (by simp [maxLen]) rfl) ad n cap cs (by rfl) HL.out (fun j u hu => (World.cell?_alloc_lt _ _ _ (lt_of_cell' (HC.out j u hu))).trans (HC.out j u hu)) H1.out (by simp only [maxLen]; omega) (by omega) (by simp) ?_; intro v' w1 hown' hgrow hat)
  go_ret
  simp only [Nat.zero_add, List.nil_append] at hown'
  obtain ⟨g, cap', rfl⟩ := own_form hown' (by rw [ne_eq, hat]; simp)
  exact ⟨⟨g, cap', rfl, hown'⟩, (Below.alloc (Below.refl w.heap.size w) (Nat.le_refl _) _).grown hgrow (by simp) (by simp [Value.ownBlock])⟩

set_option maxHeartbeats 400000 in
theorem clone_nil (n c : Nat) (w : World) :
    Calls Tryd.prog 125 #[.slice none n c] w fun e w' => e = .returned (.slice none 0 0) ∧ w = w' := by
  have hne := fun (w : World) (n c : Nat) => Lib.run_eql_slice_nil_nil (P := Tryd.prog) w n c Tryd.underlying25
  go_enter Tryd.func125, Tryd.ntmps125
  go_wp2
  go_ret
  exact ⟨rfl, rfl⟩

set_option maxHeartbeats 400000 in
theorem text_c (s : ByteArray) (w : World) :
    Calls Tryd.prog 85 #[.string s] w fun e w' => e = .returned (.agg #[.string s, .bool false, .slice none 0 0]) ∧ Below w.heap.size w w' := by
  go_enter Tryd.func85, Tryd.ntmps85
  go_wp2
  refine bodyPost_ret (v := .agg #[.string s, .bool false, .slice none 0 0]) (by simp [results, Tryd.results85, go_sem]) rfl ⟨rfl, ?_⟩
  exact (by repeat (first | exact Below.refl _ _ | assumption | with_reducible refine Below.drewN' ?_ _ | with_reducible refine Below.drew ?_ | ((with_reducible refine Below.alloc' ?_ ?_ _); · (first | omega | (simp <;> omega)))))

theorem own_its {w : World} {base g cap : Nat} {s : List It} {cs : List Value} {B : Nat} (ho : w.ownsRow base 27 3 (.slice (some ⟨g, 0, none⟩) s.length cap) s.length cs) (ha : ItsAre w B s cs) (hB : B ≤ w.heap.size) : ItsIn w w.heap.size s (some ⟨g, 0, none⟩) 0 :=
  ItsIn.of_cells (own_bd ho).2.2.2 (ha.keep hB (fun _ _ => rfl)) fun j u hu => by
    have := ho.cells rfl j u hu
    have e1 : (⟨g, 0, none⟩ : Addr).add j = ⟨g, j, none⟩ := by unfold Addr.add; split <;> simp_all
    rw [e1] at this
    simpa using this
theorem own_its' {w : World} {base cap : Nat} {A : Option Addr} {s : List It} {cs : List Value} {B : Nat} (ho : w.ownsRow base 27 3 (.slice A s.length cap) s.length cs) (ha : ItsAre w B s cs) (hB : B ≤ w.heap.size) : ItsIn w w.heap.size s A 0 := by
  have ho2 := ho.2
  rcases ho2 with ⟨h1, h2⟩ | ⟨g, cap', cur, hv, _⟩
  · obtain rfl : s = [] := List.eq_nil_of_length_eq_zero h2
    trivial
  · injection hv with hA _ hc
    subst hA; subst hc
    exact own_its ho ha hB
theorem own_ge {w : World} {base cap n : Nat} {A : Option Addr} {cs : List Value} {e : TypeId} {k : Nat} (ho : w.ownsRow base e k (.slice A n cap) n cs) : ∀ g, (Value.slice A n cap).ownBlock = some g → base ≤ g := by
  intro g hg
  rcases ho.2 with ⟨h1, h2⟩ | ⟨g', cap', cur, hv, hb, _⟩
  · rw [h1] at hg; cases hg
  · rw [hv] at hg
    have : g' = g := by simpa [Value.ownBlock] using hg
    omega
theorem its_none {w : World} {B i : Nat} {s : List It} (h : ItsIn w B s none i) : s = [] := by
  cases s with
  | nil => rfl
  | cons x xs => obtain ⟨⟨b, o, c0, c1, c2, hA, _⟩, _⟩ := h; cases hA
theorem its_cells {w : World} {B : Nat} {s : List It} {ad : Addr} (h : ItsIn w B s (some ad) 0) : ∃ cs, ItsAre w B s cs ∧ ∀ j u, cs[j]? = some u → w.cell? (ad.add j) = some u := by
  cases s with
  | nil => exact ⟨[], rfl, by simp⟩
  | cons x xs =>
    obtain ⟨b, o, _, _, _, hA, _⟩ := h.at_ 0 (by simp)
    injection hA with hA
    subst hA
    obtain ⟨cs, h1, h2⟩ := h.cells
    refine ⟨cs, h1, fun j u hu => ?_⟩
    have := h2 j u hu
    have e1 : (⟨b, o, none⟩ : Addr).add j = ⟨b, o + j, none⟩ := by unfold Addr.add; split <;> simp_all
    rw [e1]
    simpa using this
/-- A clone: new, the same items; what was stands. -/
theorem clone_c (s : List It) (A : Option Addr) (B cap : Nat) (w : World) (h : ItsIn w B s A 0) (hB : B ≤ w.heap.size) (hn : s.length ≤ 1000000) :
    Calls Tryd.prog 125 #[.slice A s.length cap] w fun e w' => (∃ A' cap' cs, e = .returned (.slice A' s.length cap') ∧ s.length ≤ cap' ∧ cap' ≤ 9223372036854775807 ∧ ItsIn w' w'.heap.size s A' 0 ∧ ItsAre w B s cs ∧ w'.ownsRow w.heap.size 27 3 (.slice A' s.length cap') s.length cs) ∧ Below w.heap.size w w' := by
  cases A with
  | none =>
    obtain rfl := its_none h
    refine (clone_nil 0 cap w).mono ?_
    rintro e w' ⟨rfl, rfl⟩
    exact ⟨⟨none, 0, [], rfl, by simp, by simp, trivial, rfl, ⟨by simp, .inl ⟨rfl, rfl⟩⟩⟩, Below.refl _ _⟩
  | some ad =>
    obtain ⟨cs, h1, h2⟩ := its_cells h
    refine (clone_some ad s.length cap cs w h1.length h2 h1.one hn).mono ?_
    rintro e w' ⟨⟨g, cap', rfl, ho⟩, hb⟩
    obtain ⟨b1, b2, b3, b4⟩ := own_bd ho
    exact ⟨⟨some ⟨g, 0, none⟩, cap', cs, rfl, b1, b2, own_its ho (h1.keep hB (fun p hp => hb.cell (by omega))) hb.size, h1, ho⟩, hb⟩
set_option maxHeartbeats 400000 in
theorem list_own (s : List It) (A : Option Addr) (B cap : Nat) (w : World) (h : ItsIn w B s A 0) (hB : B ≤ w.heap.size) (hn : s.length ≤ 1000000) :
    Calls Tryd.prog 84 #[.slice A s.length cap] w fun e w' => (∃ c2, e = .returned (.agg #[.string ⟨#[]⟩, .bool true, c2]) ∧ ItIn w' w'.heap.size (.mk ⟨#[]⟩ true s) (.string ⟨#[]⟩) (.bool true) c2 ∧ ∃ cs, w'.ownsRow w.heap.size 27 3 c2 s.length cs) ∧ Below w.heap.size w w' := by
  have HC := Lib.hid (clone_c s A B cap (w.alloc (.cells #[.string ⟨#[]⟩, .bool false, .slice none 0 0] 27)) (h.below ((Below.refl _ _).alloc hB _)) (by simp; omega) hn)
  have HN := Lib.hid hn
  clear h hn
  go_enter Tryd.func84, Tryd.ntmps84
  go_wp2_with fail
  refine HC.out.mono ?_
  rintro e w1 ⟨⟨A', cap', cs, rfl, h1, h2, _, ha, ho⟩, hb⟩
  have hz := hb.size
  simp only [World.size_alloc] at hz
  have hbk := (Blk.new w 27 #[.string ⟨#[]⟩, .bool false, .slice none 0 0]).keep hb (by simp)
  obtain ⟨g0, g1, g2, f0, f1, f2⟩ := blk3 hbk
  have HK := Lib.hid hbk
  clear hbk
  have HA := Lib.hid ha
  have HO := Lib.hid ho
  have HB := Lib.hid hb
  clear ha ho hb HC
  go_wp2
  have hon : Only [w.heap.size] w1 (((w1.setCell ⟨w.heap.size, 0, none⟩ (.string ⟨#[]⟩)).setCell ⟨w.heap.size, 1, none⟩ (.bool true)).setCell ⟨w.heap.size, 2, none⟩ (.slice A' s.length cap')) := (by repeat (first | exact Only.refl _ _ | assumption | with_reducible refine Only.drewN ?_ _ | with_reducible refine Only.drew ?_ | with_reducible refine Only.alloc ?_ _ | ((with_reducible refine Only.put ?_ ?_ _); · (first | omega | (simp <;> omega)))))
  refine bodyPost_ret (v := .agg #[.string ⟨#[]⟩, .bool true, .slice A' s.length cap']) (by simp [results, Tryd.results84, go_sem, g0, g1, g2]) rfl ⟨⟨_, rfl, ⟨rfl, rfl, Nat.zero_le _, ?_, A', cap', rfl, h1, h2, ?_⟩, cs, ?_⟩, ?_⟩
  · have := HN.out; omega
  · have hge := own_ge HO.out
    refine own_its' (hon.own HO.out fun g hg hm => ?_) (HA.out.keep (Nat.le_refl _) fun p hp => ?_) (by have := hon.size; omega)
    · have := hge g hg
      simp at hm this; omega
    · rw [hon.cell (by omega) (by simp; omega)]
      exact HB.out.cell (by simp; omega)
  · have hge := own_ge HO.out
    have := hon.own HO.out fun g hg hm => by
      have := hge g hg
      simp at hm this; omega
    refine ⟨this.1, ?_⟩
    rcases this.2 with h | ⟨g, c, cur, hv, hg, r⟩
    · exact .inl h
    · exact .inr ⟨g, c, cur, hv, by simp at hg; omega, r⟩
  · exact ((Below.refl w.heap.size w).alloc (Nat.le_refl _) _).trans ((HB.out.mono (by simp)).trans (hon.below (by omega) (by simp)))
theorem list_c (s : List It) (A : Option Addr) (B cap : Nat) (w : World) (h : ItsIn w B s A 0) (hB : B ≤ w.heap.size) (hn : s.length ≤ 1000000) :
    Calls Tryd.prog 84 #[.slice A s.length cap] w fun e w' => (∃ c2, e = .returned (.agg #[.string ⟨#[]⟩, .bool true, c2]) ∧ ItIn w' w'.heap.size (.mk ⟨#[]⟩ true s) (.string ⟨#[]⟩) (.bool true) c2) ∧ Below w.heap.size w w' :=
  (list_own s A B cap w h hB hn).mono fun _ _ ⟨⟨c2, h1, h2, _⟩, h3⟩ => ⟨⟨c2, h1, h2⟩, h3⟩
end Go.Proofs.YtacikiambpfipaaDoor
