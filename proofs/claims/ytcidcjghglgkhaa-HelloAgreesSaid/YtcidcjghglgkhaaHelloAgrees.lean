/- hatchwaylaw32.HelloAgrees: what two peers agree upon is the document's, whoever asks, and so are the offsets. -/
import Derived.Test.YtcidcjghglgkhaaCapOf
import Derived.Test.YtcidcjghglgkhaaCapRA
import Derived.Test.YtcidcjghglgkhaaCapRMay
import Derived.Test.YtcidcjghglgkhaaCapAlive
namespace Go.Proofs.Ytcidcjghglgkhaa
set_option linter.unusedVariables false
set_option linter.unusedSimpArgs false
open Go.RowKit

/-- The error, the version and the capabilities that two peers agree upon. -/
def agE (la ma : Int) (a : List Cp) (lb mb : Int) (b : List Cp) : Int × Int × List Cp :=
  if helB la ma a = true ∧ helB lb mb b = true then (if min ma mb < max la lb then (7, 0, []) else (0, min ma mb, dealL (bothL a b))) else (1, 0, [])
theorem agE_symm (la ma : Int) (a : List Cp) (lb mb : Int) (b : List Cp) : agE la ma a lb mb b = agE lb mb b la ma a := by
  unfold agE
  simp only [and_comm (a := helB la ma a = true), Int.min_comm ma mb, Int.max_comm la lb, deal_symm a b]
theorem helB_caps {least most : Int} {l : List Cp} (h : helB least most l = true) : capsB l = true := by
  simp only [helB, Bool.and_eq_true] at h
  exact h.2.2.2.2
theorem agE_len (la ma : Int) (a : List Cp) (lb mb : Int) (b : List Cp) (hla : a.length ≤ 40) : (agE la ma a lb mb b).2.2.length ≤ 1000 := by
  unfold agE
  split
  · rename_i h
    split
    · simp
    · have h1 := capsB_rises (helB_caps h.1)
      have h2 := capsB_rises (helB_caps h.2)
      have h3 := dealL_len (bothL a b)
      rw [bothL_filter _ a b (Nat.le_refl _) h1 h2] at h3 ⊢
      have := List.length_filter_le (memB b) a
      show (dealL (a.filter (memB b))).length ≤ 1000
      omega
  · simp
theorem gr_no {l : List Cp} (h : grB l = false) : l.length ≤ 40 ∧ NmOk l := by
  simp only [grB, Bool.or_eq_false_iff, decide_eq_false_iff_not, List.any_eq_false, decide_eq_true_eq] at h
  exact ⟨by omega, fun c hc => by have := h.2 c hc; omega⟩
theorem agree_e (la ma : Int) (a : List Cp) (va : Value) (lb mb : Int) (b : List Cp) (vb : Value) (B : Nat) (w : World) (ha : CpR w B va a) (hb : CpR w B vb b) (hB : B ≤ w.heap.size) (na : NmOk a) (nb : NmOk b) (ala : a.length ≤ 1000) (alb : b.length ≤ 1000) (E X : Int) (L : List Cp) (hE : agE la ma a lb mb b = (E, X, L)) :
    Calls Try.prog 23 #[.agg #[.int .i64 la, .int .i64 ma, va], .agg #[.int .i64 lb, .int .i64 mb, vb]] w fun e w' => Below w.heap.size w w' ∧ ∃ A n cap, e = .returned (.tuple #[.agg #[.int .i64 X, .slice A n cap], .int .i64 E]) ∧ CpR w' w'.heap.size (.slice A n cap) L := by
  refine (agree_c la ma a va lb mb b vb B w ha hb hB na nb ala alb).mono ?_
  rintro e w' ⟨hw, he⟩
  refine ⟨hw, ?_⟩
  unfold agE at hE
  split at he
  · rename_i h1
    rw [if_pos h1] at hE
    split at he
    · rename_i h2
      rw [if_pos h2] at hE
      injection hE with e1 e2
      injection e2 with e2 e3
      subst e1; subst e2; subst e3
      exact ⟨_, _, _, he, CpR.nil _ _⟩
    · rename_i h2
      rw [if_neg h2] at hE
      injection hE with e1 e2
      injection e2 with e2 e3
      subst e1; subst e2; subst e3
      obtain ⟨v, he, hc⟩ := he
      obtain ⟨A, n, cap, rfl, _⟩ := hc.form'
      exact ⟨_, _, _, he, hc⟩
  · rename_i h1
    rw [if_neg h1] at hE
    injection hE with e1 e2
    injection e2 with e2 e3
    subst e1; subst e2; subst e3
    exact ⟨_, _, _, he, CpR.nil _ _⟩
theorem CpR.up {w w' : World} {v : Value} {l : List Cp} (h : CpR w w.heap.size v l) (hb : Below w.heap.size w w') : CpR w' w'.heap.size v l := (h.below hb).mono hb.size
theorem CpR.al {w : World} {v : Value} {l : List Cp} (h : CpR w w.heap.size v l) (o : Obj) : CpR (w.alloc o) (w.alloc o).heap.size v l := h.up ((Below.refl _ _).alloc (Nat.le_refl _) _)
theorem of1 {la ma : Int} {a : List Cp} {A : Option Addr} {n cap B : Nat} {W V : World} (hF : ∀ V, Below W.heap.size W V → CpR V B (.slice A n cap) a ∧ B ≤ V.heap.size ∧ a.length ≤ 40) (hV : Below W.heap.size W V) :
    Calls Try.prog 24 #[.agg #[.int .i64 la, .int .i64 ma, .slice A n cap]] V fun e w' => ∃ P m c, e = .returned (.agg #[.int .i64 la, .int .i64 ma, .slice P m c]) ∧ Below W.heap.size W w' ∧ Below V.heap.size V w' ∧ CpR w' w'.heap.size (.slice P m c) a := by
  obtain ⟨h1, h2, h3⟩ := hF V hV
  refine (of_c la ma a _ B V h1 h2 (by omega)).mono ?_
  rintro e w' ⟨hb, v, he, hc⟩
  obtain ⟨P, m, c, rfl, _⟩ := hc.form'
  exact ⟨P, m, c, he, hV.trans (hb.mono hV.size), hb, hc⟩
theorem of1k {la ma : Int} {a : List Cp} {A : Option Addr} {n cap B : Nat} {W V : World} {g : Nat} (hF : ∀ V, Below W.heap.size W V → CpR V B (.slice A n cap) a ∧ B ≤ V.heap.size ∧ a.length ≤ 40) (hV : Below W.heap.size W V) (hg : W.heap.size ≤ g) (hk : Blk V g 38 #[.int .i64 0, .slice none 0 0]) :
    Calls Try.prog 24 #[.agg #[.int .i64 la, .int .i64 ma, .slice A n cap]] V fun e w' => ∃ P m c, e = .returned (.agg #[.int .i64 la, .int .i64 ma, .slice P m c]) ∧ Below W.heap.size W w' ∧ W.heap.size ≤ g ∧ Blk w' g 38 #[.int .i64 0, .slice none 0 0] ∧ CpR w' w'.heap.size (.slice P m c) a := by
  refine (of1 (la := la) (ma := ma) hF hV).mono ?_
  rintro e w' ⟨P, m, c, he, h1, h2, h3⟩
  exact ⟨P, m, c, he, h1, hg, hk.keep h2 hk.lt, h3⟩
theorem of2 {la ma : Int} {a : List Cp} {A : Option Addr} {n cap B : Nat} {W V : World} {v : Value} {l : List Cp} (hF : ∀ V, Below W.heap.size W V → CpR V B (.slice A n cap) a ∧ B ≤ V.heap.size ∧ a.length ≤ 40) (hV : Below W.heap.size W V) (hc : CpR V V.heap.size v l) :
    Calls Try.prog 24 #[.agg #[.int .i64 la, .int .i64 ma, .slice A n cap]] V fun e w' => ∃ P m c, e = .returned (.agg #[.int .i64 la, .int .i64 ma, .slice P m c]) ∧ Below W.heap.size W w' ∧ CpR w' w'.heap.size v l ∧ CpR w' w'.heap.size (.slice P m c) a := by
  refine (of1 (la := la) (ma := ma) hF hV).mono ?_
  rintro e w' ⟨P, m, c, he, h1, h2, h3⟩
  exact ⟨P, m, c, he, h1, hc.up h2, h3⟩
theorem of2k {la ma : Int} {a : List Cp} {A : Option Addr} {n cap B : Nat} {W V : World} {g : Nat} {v : Value} {l : List Cp} (hF : ∀ V, Below W.heap.size W V → CpR V B (.slice A n cap) a ∧ B ≤ V.heap.size ∧ a.length ≤ 40) (hV : Below W.heap.size W V) (hg : W.heap.size ≤ g) (hk : Blk V g 38 #[.int .i64 0, .slice none 0 0]) (hc : CpR V V.heap.size v l) :
    Calls Try.prog 24 #[.agg #[.int .i64 la, .int .i64 ma, .slice A n cap]] V fun e w' => ∃ P m c, e = .returned (.agg #[.int .i64 la, .int .i64 ma, .slice P m c]) ∧ Below W.heap.size W w' ∧ W.heap.size ≤ g ∧ Blk w' g 38 #[.int .i64 0, .slice none 0 0] ∧ CpR w' w'.heap.size v l ∧ CpR w' w'.heap.size (.slice P m c) a := by
  refine (of1 (la := la) (ma := ma) hF hV).mono ?_
  rintro e w' ⟨P, m, c, he, h1, h2, h3⟩
  exact ⟨P, m, c, he, h1, hg, hk.keep h2 hk.lt, hc.up h2, h3⟩
theorem ag1 {la ma : Int} {a : List Cp} {va : Value} {lb mb : Int} {b : List Cp} {vb : Value} {W V : World} {E X : Int} {L : List Cp} (hE : agE la ma a lb mb b = (E, X, L)) (ha : a.length ≤ 40 ∧ NmOk a) (hb : b.length ≤ 40 ∧ NmOk b) (hV : Below W.heap.size W V) (h1 : CpR V V.heap.size va a) (h2 : CpR V V.heap.size vb b) :
    Calls Try.prog 23 #[.agg #[.int .i64 la, .int .i64 ma, va], .agg #[.int .i64 lb, .int .i64 mb, vb]] V fun e w' => ∃ Q q k, e = .returned (.tuple #[.agg #[.int .i64 X, .slice Q q k], .int .i64 E]) ∧ Below W.heap.size W w' ∧ Below V.heap.size V w' ∧ CpR w' w'.heap.size (.slice Q q k) L := by
  refine (agree_e la ma a va lb mb b vb _ V h1 h2 (Nat.le_refl _) ha.2 hb.2 (by omega) (by omega) E X L hE).mono ?_
  rintro e w' ⟨hb, Q, q, k, he, hc⟩
  exact ⟨Q, q, k, he, hV.trans (hb.mono hV.size), hb, hc⟩
theorem ag1k {la ma : Int} {a : List Cp} {va : Value} {lb mb : Int} {b : List Cp} {vb : Value} {W V : World} {g : Nat} {E X : Int} {L : List Cp} (hE : agE la ma a lb mb b = (E, X, L)) (ha : a.length ≤ 40 ∧ NmOk a) (hb : b.length ≤ 40 ∧ NmOk b) (hV : Below W.heap.size W V) (hg : W.heap.size ≤ g) (hk : Blk V g 38 #[.int .i64 0, .slice none 0 0]) (h1 : CpR V V.heap.size va a) (h2 : CpR V V.heap.size vb b) :
    Calls Try.prog 23 #[.agg #[.int .i64 la, .int .i64 ma, va], .agg #[.int .i64 lb, .int .i64 mb, vb]] V fun e w' => ∃ Q q k, e = .returned (.tuple #[.agg #[.int .i64 X, .slice Q q k], .int .i64 E]) ∧ Below W.heap.size W w' ∧ W.heap.size ≤ g ∧ Blk w' g 38 #[.int .i64 0, .slice none 0 0] ∧ CpR w' w'.heap.size (.slice Q q k) L := by
  refine (ag1 hE ha hb hV h1 h2).mono ?_
  rintro e w' ⟨P, m, c, he, h1, h2, h3⟩
  exact ⟨P, m, c, he, h1, hg, hk.keep h2 hk.lt, h3⟩
theorem CpR.put {w : World} {v : Value} {l : List Cp} {g : Nat} {t : TypeId} (h : CpR w w.heap.size v l) (hk : Blk w g t #[.int .i64 0, .slice none 0 0]) (x y : Value) : CpR ((w.setCell ⟨g, 0, none⟩ x).setCell ⟨g, 1, none⟩ y) ((w.setCell ⟨g, 0, none⟩ x).setCell ⟨g, 1, none⟩ y).heap.size v l := by
  obtain ⟨A, cap, h1, h2, h3, h4⟩ := h
  refine ⟨A, cap, h1, h2, h3, fun j hj => ?_⟩
  obtain ⟨g', o, hA, hg, e0, e1⟩ := h4 j hj
  have hne : g' ≠ g := by
    rintro rfl
    rw [hk.cell] at e0
    rcases hi : o + j * 2 with _ | _ | i <;> rw [hi] at e0 <;> simp at e0
  have hb : ∀ i, ((w.setCell ⟨g, 0, none⟩ x).setCell ⟨g, 1, none⟩ y).cell? ⟨g', i, none⟩ = w.cell? ⟨g', i, none⟩ := fun i => by
    rw [World.cell?_setCell_far _ _ _ _ (Ne.symm hne), World.cell?_setCell_far _ _ _ _ (Ne.symm hne)]
  exact ⟨g', o, hA, by simpa using hg, (hb _).trans e0, (hb _).trans e1⟩
theorem blk2f {w : World} {g : Nat} {t : TypeId} {a b : Value} (h : Blk w g t #[a, b]) : w.frozen? ⟨g, 0, none⟩ = false ∧ w.frozen? ⟨g, 1, none⟩ = false ∧ w.cell? ⟨g, 0, none⟩ = some a ∧ w.cell? ⟨g, 1, none⟩ = some b := ⟨h.frozen 0, h.frozen 1, h.cell 0, h.cell 1⟩
theorem helB_bounds {least most : Int} {l : List Cp} (h : helB least most l = true) : 1 ≤ least ∧ least ≤ most ∧ most ≤ 65535 := by
  simp only [helB, Bool.and_eq_true, decide_eq_true_eq] at h
  exact ⟨h.1, h.2.1, h.2.2.1⟩
set_option maxRecDepth 100000 in
set_option maxHeartbeats 6400000 in
theorem helloAgrees_walk (la ma : Int) (a : List Cp) (va : Value) (lb mb : Int) (b : List Cp) (vb : Value) (name : ByteArray) (B : Nat) (w : World) (ha : CpR w B va a) (hb : CpR w B vb b) (hB : B ≤ w.heap.size) (hnm : name.size ≤ 9223372036854775807) :
    Calls Try.prog 5 #[.agg #[.int .i64 la, .int .i64 ma, va], .agg #[.int .i64 lb, .int .i64 mb, vb], .string name] w fun e w' => e = .returned (.bool true) ∧ Below w.heap.size w w' := by
  obtain ⟨A, n, cap, rfl, hn, hnc, hcm⟩ := ha.form'
  obtain ⟨A', n', cap', rfl, hn', hnc', hcm'⟩ := hb.form'
  obtain ⟨W0, hW0⟩ : ∃ W0, (w.alloc (.cells #[.int .i64 la, .int .i64 ma, .slice A n cap] 34)).alloc (.cells #[.int .i64 lb, .int .i64 mb, .slice A' n' cap'] 34) = W0 := ⟨_, rfl⟩
  have HW0 : Hid (Below w.heap.size w W0) := Lib.hid (by rw [← hW0]; exact ((Below.refl _ w).alloc (Nat.le_refl _) _).alloc (by simp) _)
  have HZ0 : Hid (W0.heap.size = w.heap.size + 2) := Lib.hid (by rw [← hW0]; simp)
  have HK0 : Hid (Blk W0 w.heap.size 34 #[.int .i64 la, .int .i64 ma, .slice A n cap]) := Lib.hid (by rw [← hW0]; exact (Blk.new w _ _).alloc _)
  have HK1 : Hid (Blk W0 (w.heap.size + 1) 34 #[.int .i64 lb, .int .i64 mb, .slice A' n' cap']) := Lib.hid (by
    rw [← hW0]
    have := Blk.new (w.alloc (.cells #[.int .i64 la, .int .i64 ma, .slice A n cap] 34)) 34 #[.int .i64 lb, .int .i64 mb, .slice A' n' cap']
    rw [World.size_alloc] at this
    exact this)
  have HRA : Hid (CpR W0 B (.slice A n cap) a) := Lib.hid (ha.below (HW0.out.mono hB))
  have HRB : Hid (CpR W0 B (.slice A' n' cap') b) := Lib.hid (hb.below (HW0.out.mono hB))
  have HWW := Lib.hid hW0
  have FX : Hid (∀ V, Below (w.heap.size + 2) W0 V → V.cell? ⟨w.heap.size, 0, none⟩ = some (.int .i64 la) ∧ V.cell? ⟨w.heap.size, 1, none⟩ = some (.int .i64 ma) ∧ V.cell? ⟨w.heap.size, 2, none⟩ = some (.slice A n cap) ∧ V.cell? ⟨w.heap.size + 1, 0, none⟩ = some (.int .i64 lb) ∧ V.cell? ⟨w.heap.size + 1, 1, none⟩ = some (.int .i64 mb) ∧ V.cell? ⟨w.heap.size + 1, 2, none⟩ = some (.slice A' n' cap') ∧ Hid (CpR V B (.slice A n cap) a ∧ CpR V B (.slice A' n' cap') b ∧ w.heap.size + 2 ≤ V.heap.size ∧ B ≤ V.heap.size)) := Lib.hid (fun V hV => by
    obtain ⟨a0, a1, a2, _⟩ := blk3 (HK0.out.keep hV (by omega))
    obtain ⟨b0, b1, b2, _⟩ := blk3 (HK1.out.keep hV (by omega))
    have hz : w.heap.size + 2 ≤ V.heap.size := by have := hV.size; have := HZ0.out; omega
    exact ⟨a0, a1, a2, b0, b1, b2, Lib.hid ⟨HRA.out.below (hV.mono (by omega)), HRB.out.below (hV.mono (by omega)), hz, by omega⟩⟩)
  have HFIN : Hid (∀ V, Below (w.heap.size + 2) W0 V → Below w.heap.size w V) := Lib.hid (fun V hV => HW0.out.trans (hV.mono (by omega)))
  have HGA : Hid (∀ V, Below (w.heap.size + 2) W0 V → Calls Try.prog 22 #[.agg #[.int .i64 la, .int .i64 ma, .slice A n cap]] V fun e w' => e = .returned (.bool (grB a)) ∧ Below (w.heap.size + 2) W0 w') := Lib.hid (fun V hV => by
    obtain ⟨_, _, _, _, _, _, h⟩ := FX.out V hV
    exact (great32_c la ma a _ B V h.out.1 h.out.2.2.2).mono fun e w' ⟨he, hb⟩ => ⟨he, hV.trans (hb.mono h.out.2.2.1)⟩)
  have HGB : Hid (∀ V, Below (w.heap.size + 2) W0 V → Calls Try.prog 22 #[.agg #[.int .i64 lb, .int .i64 mb, .slice A' n' cap']] V fun e w' => e = .returned (.bool (grB b)) ∧ Below (w.heap.size + 2) W0 w') := Lib.hid (fun V hV => by
    obtain ⟨_, _, _, _, _, _, h⟩ := FX.out V hV
    exact (great32_c lb mb b _ B V h.out.2.1 h.out.2.2.2).mono fun e w' ⟨he, hb⟩ => ⟨he, hV.trans (hb.mono h.out.2.2.1)⟩)
  have HNM := Lib.hid hB
  clear hW0 ha hb hB
  go_enter Try.func5, Try.ntmps5
  go_wp2_with fail
  rw [HWW.out]
  refine (alive32_c W0).mono ?_
  rintro e w1 ⟨rfl, hb1⟩
  have V1 : Hid (Below (w.heap.size + 2) W0 w1) := Lib.hid (hb1.mono (by have := HZ0.out; omega))
  obtain ⟨a0, a1, a2, b0, b1, b2, _⟩ := FX.out _ V1.out
  clear hb1
  go_wp2_with fail
  refine (HGA.out _ V1.out).mono ?_
  rintro e w2 ⟨rfl, hb2⟩
  have V2 := Lib.hid hb2
  clear a0 a1 a2 b0 b1 b2
  obtain ⟨a0, a1, a2, b0, b1, b2, _⟩ := FX.out _ V2.out
  clear hb2
  cases hga : grB a
  case true =>
    go_wp2
    go_ret
    exact ⟨rfl, HFIN.out _ V2.out⟩
  go_wp2_with fail
  refine (HGB.out _ V2.out).mono ?_
  rintro e w3 ⟨rfl, hb3⟩
  have V3 := Lib.hid hb3
  clear a0 a1 a2 b0 b1 b2
  obtain ⟨a0, a1, a2, b0, b1, b2, _⟩ := FX.out _ V3.out
  clear hb3
  cases hgb : grB b
  case true =>
    go_wp2
    go_ret
    exact ⟨rfl, HFIN.out _ V3.out⟩
  by_cases hns : 100 < name.size
  · go_wp2
    go_ret
    exact ⟨rfl, HFIN.out _ V3.out⟩
  have hga' : a.length ≤ 40 ∧ NmOk a := gr_no hga
  have hgb' : b.length ≤ 40 ∧ NmOk b := gr_no hgb
  obtain ⟨E, X, L, hE⟩ : ∃ E X L, agE la ma a lb mb b = (E, X, L) := ⟨_, _, _, rfl⟩
  have HL : Hid (L.length ≤ 1000) := Lib.hid (by have := agE_len la ma a lb mb b hga'.1; rw [hE] at this; exact this)
  have HE := Lib.hid hE
  have HNA := Lib.hid hga'
  have HNB := Lib.hid hgb'
  have HGR := Lib.hid (And.intro hga hgb)
  clear hE hga hgb hga' hgb' HGA HGB
  go_wp2_with fail
  go_cut [2, 3, 4, 6, 7, 8] from 16 (fun s2 s3 s4 s6 s7 s8 V => s2 = .string name ∧ s3 = .pointer (some ⟨w.heap.size, 0, none⟩) ∧ s4 = .pointer (some ⟨w.heap.size + 1, 0, none⟩) ∧ s6 = .bool false ∧ s8 = .int .i64 E ∧ Below w3.heap.size w3 V ∧ ∃ g P m c, s7 = .pointer (some ⟨g, 0, none⟩) ∧ w3.heap.size ≤ g ∧ Blk V g 38 #[.int .i64 X, .slice P m c] ∧ CpR V V.heap.size (.slice P m c) L)
  case first =>
    have hv : Below w3.heap.size w3 w3 := Below.refl _ _
    have KP : Hid (∀ V, Below w3.heap.size w3 V → V.cell? ⟨w.heap.size, 0, none⟩ = some (.int .i64 la) ∧ V.cell? ⟨w.heap.size, 1, none⟩ = some (.int .i64 ma) ∧ V.cell? ⟨w.heap.size, 2, none⟩ = some (.slice A n cap) ∧ V.cell? ⟨w.heap.size + 1, 0, none⟩ = some (.int .i64 lb) ∧ V.cell? ⟨w.heap.size + 1, 1, none⟩ = some (.int .i64 mb) ∧ V.cell? ⟨w.heap.size + 1, 2, none⟩ = some (.slice A' n' cap')) := Lib.hid (fun V hV => by
      obtain ⟨a0, a1, a2, b0, b1, b2, _⟩ := FX.out V (V3.out.trans (hV.mono (by have := V3.out.size; have := HZ0.out; omega)))
      exact ⟨a0, a1, a2, b0, b1, b2⟩)
    have HF1 : Hid (∀ V, Below w3.heap.size w3 V → CpR V B (.slice A n cap) a ∧ B ≤ V.heap.size ∧ a.length ≤ 40) := Lib.hid (fun V hV => by
      obtain ⟨_, _, _, _, _, _, h⟩ := FX.out V (V3.out.trans (hV.mono (by have := V3.out.size; have := HZ0.out; omega)))
      exact ⟨h.out.1, h.out.2.2.2, HNA.out.1⟩)
    have HF2 : Hid (∀ V, Below w3.heap.size w3 V → CpR V B (.slice A' n' cap') b ∧ B ≤ V.heap.size ∧ b.length ≤ 40) := Lib.hid (fun V hV => by
      obtain ⟨_, _, _, _, _, _, h⟩ := FX.out V (V3.out.trans (hV.mono (by have := V3.out.size; have := HZ0.out; omega)))
      exact ⟨h.out.2.1, h.out.2.2.2, HNB.out.1⟩)
    go_region_held3 (fun V => V.cell? ⟨w.heap.size, 0, none⟩ = some (.int .i64 la) ∧ V.cell? ⟨w.heap.size, 1, none⟩ = some (.int .i64 ma) ∧ V.cell? ⟨w.heap.size, 2, none⟩ = some (.slice A n cap) ∧ V.cell? ⟨w.heap.size + 1, 0, none⟩ = some (.int .i64 lb) ∧ V.cell? ⟨w.heap.size + 1, 1, none⟩ = some (.int .i64 mb) ∧ V.cell? ⟨w.heap.size + 1, 2, none⟩ = some (.slice A' n' cap'))
      (first | exact KP.out _ hv | exact KP.out _ hv.drew | exact KP.out _ (by assumption) | exact KP.out _ (Below.drew (by assumption)) | exact KP.out _ (hv.alloc hv.size _) | exact KP.out _ (hv.alloc hv.size _).drew | exact KP.out _ (hv.drew.alloc hv.size _) | exact KP.out _ ((hv.setCell hg _).setCell hg _) | exact KP.out _ ((hv.setCell hg _).setCell hg _).drew | exact KP.out _ (((hv.alloc hv.size _).setCell hv.size _).setCell hv.size _))
      (first
        | (go_at_call 24; ((with_reducible refine (of1k HF1.out (hv.alloc hv.size _).drew hv.size (Blk.new _ _ _).drew).mono ?_); rintro e w' ⟨P, m, c, rfl, hv, hg, hk, hc⟩))
        | (go_at_call 24; ((with_reducible refine (of1k HF1.out (hv.drew.alloc hv.size _) hv.size (Blk.new _ _ _)).mono ?_); rintro e w' ⟨P, m, c, rfl, hv, hg, hk, hc⟩))
        | (go_at_call 24; ((with_reducible refine (of1k HF1.out (hv.alloc hv.size _) hv.size (Blk.new _ _ _)).mono ?_); rintro e w' ⟨P, m, c, rfl, hv, hg, hk, hc⟩))
        | (go_at_call 24; ((with_reducible refine (of1 HF1.out (by first | assumption | exact Below.drew (by assumption))).mono ?_); rintro e w' ⟨P, m, c, rfl, hv, _, hc⟩))
        | (go_at_call 24; ((with_reducible refine (of2k HF2.out hv hg hk hc).mono ?_); rintro e w' ⟨P', m', c', rfl, hv, hg, hk, hc, hc'⟩))
        | (go_at_call 24; ((with_reducible refine (of2k HF2.out (hv.alloc hv.size _) hv.size (Blk.new _ _ _) (hc.al _)).mono ?_); rintro e w' ⟨P', m', c', rfl, hv, hg, hk, hc, hc'⟩))
        | (go_at_call 24; ((with_reducible refine (of2 HF2.out hv hc).mono ?_); rintro e w' ⟨P', m', c', rfl, hv, hc, hc'⟩))
        | (go_at_call 23; ((with_reducible refine (ag1k HE.out HNA.out HNB.out hv hg hk hc hc').mono ?_); rintro e w'' ⟨Q, q, k, rfl, hv, hg, hk, hc⟩; obtain ⟨f0, f1, f2, f3⟩ := blk2f hk))
        | (go_at_call 23; ((with_reducible refine (ag1k HE.out HNA.out HNB.out (hv.alloc hv.size _) hv.size (Blk.new _ _ _) (hc.al _) (hc'.al _)).mono ?_); rintro e w'' ⟨Q, q, k, rfl, hv, hg, hk, hc⟩; obtain ⟨f0, f1, f2, f3⟩ := blk2f hk))
        | (go_at_call 23; ((with_reducible refine (ag1 HE.out HNA.out HNB.out hv hc hc').mono ?_); rintro e w' ⟨Q, q, k, rfl, hv, _, hc⟩))
       )
    all_goals
      go_wp2
      go_meet
      case rel => exact (by first
        | exact ⟨rfl, rfl, rfl, rfl, rfl, (hv.setCell hg _).setCell hg _, _, _, _, _, rfl, hg, (hk.set 0 _).set 1 _, hc.put hk _ _⟩
        | exact ⟨rfl, rfl, rfl, rfl, rfl, hv.alloc hv.size _, _, _, _, _, rfl, hv.size, Blk.new _ _ _, hc.al _⟩)
  obtain ⟨rfl, rfl, rfl, rfl, rfl, hv, gd, P, m, c, rfl, hgd, hkd, hcd⟩ := hcut
  generalize wc = w5 at *
  have V5 : Hid (Below (w.heap.size + 2) W0 w5) := Lib.hid (V3.out.trans (hv.mono (by have := V3.out.size; have := HZ0.out; omega)))
  have HD5 : Hid (Blk w5 gd 38 #[.int .i64 X, .slice P m c] ∧ CpR w5 w5.heap.size (.slice P m c) L) := Lib.hid ⟨hkd, hcd⟩
  have HES : Hid (agE lb mb b la ma a = (E, X, L)) := Lib.hid (by rw [agE_symm]; exact HE.out)
  clear a0 a1 a2 b0 b1 b2 hv hgd hkd hcd
  obtain ⟨a0, a1, a2, b0, b1, b2, _⟩ := FX.out _ V5.out
  go_wp2_with fail
  go_cut [2, 3, 4, 6, 7, 8, 9, 10] from 16 (fun s2 s3 s4 s6 s7 s8 s9 s10 V => s2 = .string name ∧ s3 = .pointer (some ⟨w.heap.size, 0, none⟩) ∧ s4 = .pointer (some ⟨w.heap.size + 1, 0, none⟩) ∧ s6 = .bool false ∧ s7 = .pointer (some ⟨gd, 0, none⟩) ∧ s8 = .int .i64 E ∧ s10 = .int .i64 E ∧ Below w5.heap.size w5 V ∧ ∃ g P m c, s9 = .pointer (some ⟨g, 0, none⟩) ∧ w5.heap.size ≤ g ∧ Blk V g 38 #[.int .i64 X, .slice P m c] ∧ CpR V V.heap.size (.slice P m c) L)
  case first =>
    have hv : Below w5.heap.size w5 w5 := Below.refl _ _
    have KP : Hid (∀ V, Below w5.heap.size w5 V → V.cell? ⟨w.heap.size, 0, none⟩ = some (.int .i64 la) ∧ V.cell? ⟨w.heap.size, 1, none⟩ = some (.int .i64 ma) ∧ V.cell? ⟨w.heap.size, 2, none⟩ = some (.slice A n cap) ∧ V.cell? ⟨w.heap.size + 1, 0, none⟩ = some (.int .i64 lb) ∧ V.cell? ⟨w.heap.size + 1, 1, none⟩ = some (.int .i64 mb) ∧ V.cell? ⟨w.heap.size + 1, 2, none⟩ = some (.slice A' n' cap')) := Lib.hid (fun V hV => by
      obtain ⟨a0, a1, a2, b0, b1, b2, _⟩ := FX.out V (V5.out.trans (hV.mono (by have := V5.out.size; have := HZ0.out; omega)))
      exact ⟨a0, a1, a2, b0, b1, b2⟩)
    have HF1 : Hid (∀ V, Below w5.heap.size w5 V → CpR V B (.slice A n cap) a ∧ B ≤ V.heap.size ∧ a.length ≤ 40) := Lib.hid (fun V hV => by
      obtain ⟨_, _, _, _, _, _, h⟩ := FX.out V (V5.out.trans (hV.mono (by have := V5.out.size; have := HZ0.out; omega)))
      exact ⟨h.out.1, h.out.2.2.2, HNA.out.1⟩)
    have HF2 : Hid (∀ V, Below w5.heap.size w5 V → CpR V B (.slice A' n' cap') b ∧ B ≤ V.heap.size ∧ b.length ≤ 40) := Lib.hid (fun V hV => by
      obtain ⟨_, _, _, _, _, _, h⟩ := FX.out V (V5.out.trans (hV.mono (by have := V5.out.size; have := HZ0.out; omega)))
      exact ⟨h.out.2.1, h.out.2.2.2, HNB.out.1⟩)
    go_region_held3 (fun V => V.cell? ⟨w.heap.size, 0, none⟩ = some (.int .i64 la) ∧ V.cell? ⟨w.heap.size, 1, none⟩ = some (.int .i64 ma) ∧ V.cell? ⟨w.heap.size, 2, none⟩ = some (.slice A n cap) ∧ V.cell? ⟨w.heap.size + 1, 0, none⟩ = some (.int .i64 lb) ∧ V.cell? ⟨w.heap.size + 1, 1, none⟩ = some (.int .i64 mb) ∧ V.cell? ⟨w.heap.size + 1, 2, none⟩ = some (.slice A' n' cap'))
      (first | exact KP.out _ hv | exact KP.out _ hv.drew | exact KP.out _ (by assumption) | exact KP.out _ (Below.drew (by assumption)) | exact KP.out _ (hv.alloc hv.size _) | exact KP.out _ (hv.alloc hv.size _).drew | exact KP.out _ (hv.drew.alloc hv.size _) | exact KP.out _ ((hv.setCell hg _).setCell hg _) | exact KP.out _ ((hv.setCell hg _).setCell hg _).drew | exact KP.out _ (((hv.alloc hv.size _).setCell hv.size _).setCell hv.size _))
      (first
        | (go_at_call 24; ((with_reducible refine (of1k HF2.out (hv.alloc hv.size _).drew hv.size (Blk.new _ _ _).drew).mono ?_); rintro e w' ⟨P, m, c, rfl, hv, hg, hk, hc⟩))
        | (go_at_call 24; ((with_reducible refine (of1k HF2.out (hv.drew.alloc hv.size _) hv.size (Blk.new _ _ _)).mono ?_); rintro e w' ⟨P, m, c, rfl, hv, hg, hk, hc⟩))
        | (go_at_call 24; ((with_reducible refine (of1k HF2.out (hv.alloc hv.size _) hv.size (Blk.new _ _ _)).mono ?_); rintro e w' ⟨P, m, c, rfl, hv, hg, hk, hc⟩))
        | (go_at_call 24; ((with_reducible refine (of1 HF2.out (by first | assumption | exact Below.drew (by assumption))).mono ?_); rintro e w' ⟨P, m, c, rfl, hv, _, hc⟩))
        | (go_at_call 24; ((with_reducible refine (of2k HF1.out hv hg hk hc).mono ?_); rintro e w' ⟨P', m', c', rfl, hv, hg, hk, hc, hc'⟩))
        | (go_at_call 24; ((with_reducible refine (of2k HF1.out (hv.alloc hv.size _) hv.size (Blk.new _ _ _) (hc.al _)).mono ?_); rintro e w' ⟨P', m', c', rfl, hv, hg, hk, hc, hc'⟩))
        | (go_at_call 24; ((with_reducible refine (of2 HF1.out hv hc).mono ?_); rintro e w' ⟨P', m', c', rfl, hv, hc, hc'⟩))
        | (go_at_call 23; ((with_reducible refine (ag1k HES.out HNB.out HNA.out hv hg hk hc hc').mono ?_); rintro e w'' ⟨Q, q, k, rfl, hv, hg, hk, hc⟩; obtain ⟨f0, f1, f2, f3⟩ := blk2f hk))
        | (go_at_call 23; ((with_reducible refine (ag1k HES.out HNB.out HNA.out (hv.alloc hv.size _) hv.size (Blk.new _ _ _) (hc.al _) (hc'.al _)).mono ?_); rintro e w'' ⟨Q, q, k, rfl, hv, hg, hk, hc⟩; obtain ⟨f0, f1, f2, f3⟩ := blk2f hk))
        | (go_at_call 23; ((with_reducible refine (ag1 HES.out HNB.out HNA.out hv hc hc').mono ?_); rintro e w' ⟨Q, q, k, rfl, hv, _, hc⟩))
       )
    all_goals
      go_wp2
      go_meet
      case rel => exact (by first
        | exact ⟨rfl, rfl, rfl, rfl, rfl, rfl, rfl, (hv.setCell hg _).setCell hg _, _, _, _, _, rfl, hg, (hk.set 0 _).set 1 _, hc.put hk _ _⟩
        | exact ⟨rfl, rfl, rfl, rfl, rfl, rfl, rfl, hv.alloc hv.size _, _, _, _, _, rfl, hv.size, Blk.new _ _ _, hc.al _⟩)
  obtain ⟨rfl, rfl, rfl, rfl, rfl, rfl, rfl, hv, gf, P', m', c', rfl, hgf, hkf, hcf⟩ := hcut
  generalize wc = w6 at *
  have V6 : Hid (Below (w.heap.size + 2) W0 w6) := Lib.hid (V5.out.trans (hv.mono (by have := V5.out.size; have := HZ0.out; omega)))
  have FY : Hid (∀ V, Below w6.heap.size w6 V → V.cell? ⟨gd, 0, none⟩ = some (.int .i64 X) ∧ V.cell? ⟨gd, 1, none⟩ = some (.slice P m c) ∧ V.cell? ⟨gf, 0, none⟩ = some (.int .i64 X) ∧ V.cell? ⟨gf, 1, none⟩ = some (.slice P' m' c') ∧ Hid (CpR V w6.heap.size (.slice P m c) L ∧ CpR V w6.heap.size (.slice P' m' c') L ∧ Below (w.heap.size + 2) W0 V ∧ w6.heap.size ≤ V.heap.size)) := Lib.hid (fun V hV => by
    have k1 := HD5.out.1.keep hv HD5.out.1.lt
    have k2 := k1.keep hV k1.lt
    have k3 := hkf.keep hV hkf.lt
    exact ⟨k2.cell 0, k2.cell 1, k3.cell 0, k3.cell 1, Lib.hid ⟨(HD5.out.2.up hv).below hV, hcf.below hV, V6.out.trans (hV.mono (by have := V6.out.size; have := HZ0.out; omega)), hV.size⟩⟩)
  have HP1 : Hid (∀ V, Below w6.heap.size w6 V → Calls Try.prog 26 #[.slice P m c] V fun e w' => ∃ Q q k, e = .returned (.slice Q q k) ∧ Below w6.heap.size w6 w' ∧ CpR w' w'.heap.size (.slice Q q k) L) := Lib.hid (fun V hV => by
    obtain ⟨_, _, _, _, h⟩ := FY.out V hV
    refine (plain_c L _ w6.heap.size V h.out.1 h.out.2.2.2 HL.out).mono ?_
    rintro e w' ⟨hb, v, he, hc⟩
    have hc := CpR.of_own hc
    obtain ⟨Q, q, k, rfl, _⟩ := hc.form'
    exact ⟨Q, q, k, he, hV.trans (hb.mono hV.size), hc⟩)
  have HP2 : Hid (∀ V Q q k, Below w6.heap.size w6 V → CpR V V.heap.size (.slice Q q k) L → Calls Try.prog 26 #[.slice P' m' c'] V fun e w' => ∃ Q' q' k', e = .returned (.slice Q' q' k') ∧ Below w6.heap.size w6 w' ∧ CpR w' w'.heap.size (.slice Q q k) L ∧ CpR w' w'.heap.size (.slice Q' q' k') L) := Lib.hid (fun V Q q k hV h1 => by
    obtain ⟨_, _, _, _, h⟩ := FY.out V hV
    refine (plain_c L _ w6.heap.size V h.out.2.1 h.out.2.2.2 HL.out).mono ?_
    rintro e w' ⟨hb, v, he, hc⟩
    have hc := CpR.of_own hc
    obtain ⟨Q', q', k', rfl, _⟩ := hc.form'
    exact ⟨Q', q', k', he, hV.trans (hb.mono hV.size), h1.up hb, hc⟩)
  have HSA : Hid (∀ V Q q k Q' q' k', Below w6.heap.size w6 V → CpR V V.heap.size (.slice Q q k) L → CpR V V.heap.size (.slice Q' q' k') L → Calls Try.prog 25 #[.slice Q q k, .slice Q' q' k'] V fun e w' => e = .returned (.bool true) ∧ Below w6.heap.size w6 w') := Lib.hid (fun V Q q k Q' q' k' hV h1 h2 => by
    refine (sameC_c L L _ _ _ V h1 h2 (Nat.le_refl _) (by have := HL.out; omega) (by have := HL.out; omega)).mono ?_
    rintro e w' ⟨he, hb⟩
    exact ⟨by rw [he, decide_eq_true rfl], hV.trans (hb.mono hV.size)⟩)
  clear a0 a1 a2 b0 b1 b2 hv hgf hkf hcf HES HD5
  have hv : Below w6.heap.size w6 w6 := Below.refl _ _
  have KY : Hid (∀ V, Below w6.heap.size w6 V → V.cell? ⟨gd, 0, none⟩ = some (.int .i64 X) ∧ V.cell? ⟨gd, 1, none⟩ = some (.slice P m c) ∧ V.cell? ⟨gf, 0, none⟩ = some (.int .i64 X) ∧ V.cell? ⟨gf, 1, none⟩ = some (.slice P' m' c')) := Lib.hid (fun V hV => by
    obtain ⟨h1, h2, h3, h4, _⟩ := FY.out V hV
    exact ⟨h1, h2, h3, h4⟩)
  obtain ⟨d0, d1, d2, d3⟩ := KY.out _ hv
  have q1 : (E != E) = false := by simp
  have q2 : (X != X) = false := by simp
  go_wp2_with fail
  go_region_held3 (fun V => V.cell? ⟨gd, 0, none⟩ = some (.int .i64 X) ∧ V.cell? ⟨gd, 1, none⟩ = some (.slice P m c) ∧ V.cell? ⟨gf, 0, none⟩ = some (.int .i64 X) ∧ V.cell? ⟨gf, 1, none⟩ = some (.slice P' m' c'))
    (first | exact KY.out _ hv | exact KY.out _ hv.drew | exact KY.out _ (by assumption) | exact KY.out _ (Below.drew (by assumption)))
    (first
      | (go_at_call 26; ((with_reducible refine (HP1.out _ (by first | assumption | exact Below.drew (by assumption))).mono ?_); rintro e w' ⟨Q, q, k, rfl, hv, hc⟩))
      | (go_at_call 26; ((with_reducible refine (HP2.out _ _ _ _ (by first | assumption | exact Below.drew (by assumption)) hc).mono ?_); rintro e w' ⟨Q', q', k', rfl, hv, hc, hc'⟩))
      | (go_at_call 25; ((with_reducible refine (HSA.out _ _ _ _ _ _ _ hv hc hc').mono ?_); rintro e w' ⟨rfl, hv⟩)))
  clear d0 d1 d2 d3 HP1 HP2 HSA
  have HM : Hid (m = L.length) := Lib.hid (by
    obtain ⟨_, _, _, _, h⟩ := FY.out w6 (Below.refl _ _)
    obtain ⟨A0, n0, c0, e, hn0, _⟩ := h.out.1.form'
    injection e with _ e _
    rw [e]; exact hn0.out)
  have HMA : Hid (∀ V, Below w6.heap.size w6 V → Calls Try.prog 27 #[.agg #[.int .i64 la, .int .i64 ma, .slice A n cap]] V fun e w' => e = .returned (.bool (helB la ma a)) ∧ Below w6.heap.size w6 w') := Lib.hid (fun V hV => by
    obtain ⟨_, _, _, _, h⟩ := FY.out V hV
    obtain ⟨_, _, _, _, _, _, h2⟩ := FX.out V h.out.2.2.1
    exact (refMay32_c la ma a _ B V h2.out.1 h2.out.2.2.2 HNA.out.2 (by have := HNA.out.1; omega)).mono fun e w' ⟨he, hb⟩ => ⟨he, hV.trans (hb.mono hV.size)⟩)
  have HMB : Hid (∀ V, Below w6.heap.size w6 V → Calls Try.prog 27 #[.agg #[.int .i64 lb, .int .i64 mb, .slice A' n' cap']] V fun e w' => e = .returned (.bool (helB lb mb b)) ∧ Below w6.heap.size w6 w') := Lib.hid (fun V hV => by
    obtain ⟨_, _, _, _, h⟩ := FY.out V hV
    obtain ⟨_, _, _, _, _, _, h2⟩ := FX.out V h.out.2.2.1
    exact (refMay32_c lb mb b _ B V h2.out.2.1 h2.out.2.2.2 HNB.out.2 (by have := HNB.out.1; omega)).mono fun e w' ⟨he, hb⟩ => ⟨he, hV.trans (hb.mono hV.size)⟩)
  have FZ : Hid (∀ V, Below w6.heap.size w6 V → V.cell? ⟨w.heap.size, 0, none⟩ = some (.int .i64 la) ∧ V.cell? ⟨w.heap.size, 1, none⟩ = some (.int .i64 ma) ∧ V.cell? ⟨w.heap.size, 2, none⟩ = some (.slice A n cap) ∧ V.cell? ⟨w.heap.size + 1, 0, none⟩ = some (.int .i64 lb) ∧ V.cell? ⟨w.heap.size + 1, 1, none⟩ = some (.int .i64 mb) ∧ V.cell? ⟨w.heap.size + 1, 2, none⟩ = some (.slice A' n' cap') ∧ V.cell? ⟨gd, 0, none⟩ = some (.int .i64 X) ∧ V.cell? ⟨gd, 1, none⟩ = some (.slice P m c) ∧ Hid (Below w.heap.size w V)) := Lib.hid (fun V hV => by
    obtain ⟨d0, d1, _, _, h⟩ := FY.out V hV
    obtain ⟨a0, a1, a2, b0, b1, b2, _⟩ := FX.out V h.out.2.2.1
    exact ⟨a0, a1, a2, b0, b1, b2, d0, d1, Lib.hid (HFIN.out V h.out.2.2.1)⟩)
  generalize w' = w7 at *
  obtain ⟨a0, a1, a2, b0, b1, b2, d0, d1, _⟩ := FZ.out _ hv
  go_wp2_with fail
  refine (HMA.out _ hv).mono ?_
  rintro e w8 ⟨rfl, hv8⟩
  clear a0 a1 a2 b0 b1 b2 d0 d1
  obtain ⟨a0, a1, a2, b0, b1, b2, d0, d1, HF8⟩ := FZ.out _ hv8
  cases hma : helB la ma a
  case false =>
    have HQ := HE.out
    unfold agE at HQ
    rw [if_neg (by rw [hma]; simp)] at HQ
    injection HQ with e1 e2
    injection e2 with e2 e3
    have hm0 : m = 0 := by rw [HM.out, ← e3]; rfl
    subst e1; subst e2; subst hm0
    clear e3
    go_wp2
    go_ret
    exact ⟨rfl, HF8.out⟩
  go_wp2_with fail
  refine (HMB.out _ hv8).mono ?_
  rintro e w9 ⟨rfl, hv9⟩
  clear a0 a1 a2 b0 b1 b2 d0 d1
  obtain ⟨a0, a1, a2, b0, b1, b2, d0, d1, HF9⟩ := FZ.out _ hv9
  cases hmb : helB lb mb b
  case false =>
    have HQ := HE.out
    unfold agE at HQ
    rw [if_neg (by rw [hmb]; simp)] at HQ
    injection HQ with e1 e2
    injection e2 with e2 e3
    have hm0 : m = 0 := by rw [HM.out, ← e3]; rfl
    subst e1; subst e2; subst hm0
    clear e3
    go_wp2
    go_ret
    exact ⟨rfl, HF9.out⟩
  obtain ⟨l1, l2, l3⟩ := helB_bounds hma
  obtain ⟨l4, l5, l6⟩ := helB_bounds hmb
  have HRX : Hid (Calls Try.prog 28 #[.agg #[.int .i64 la, .int .i64 ma, .slice A n cap], .agg #[.int .i64 lb, .int .i64 mb, .slice A' n' cap']] w9 fun e w' => RaEnd la ma a lb mb b w9 e w') := Lib.hid (by
    obtain ⟨_, _, _, _, h⟩ := FY.out _ hv9
    obtain ⟨_, _, _, _, _, _, h2⟩ := FX.out _ h.out.2.2.1
    exact refAgree_c la ma a _ lb mb b _ B w9 h2.out.1 h2.out.2.1 h2.out.2.2.2 (by have := HNA.out.1; omega) (by have := HNB.out.1; omega) l1 l2 l3 l4 l5 l6)
  have HHH := Lib.hid (And.intro hma hmb)
  clear l1 l2 l3 l4 l5 l6 hma hmb HMA HMB
  go_wp2_with fail
  refine HRX.out.mono ?_
  rintro e w10 ⟨hb10, hend⟩
  have hv10 : Below w6.heap.size w6 w10 := hv9.trans (hb10.mono hv9.size)
  clear a0 a1 a2 b0 b1 b2 d0 d1 HF8 HF9
  obtain ⟨a0, a1, a2, b0, b1, b2, d0, d1, HF10⟩ := FZ.out _ hv10
  clear a0 a1 a2 b0 b1 b2
  split at hend
  · rename_i hlt
    subst hend
    have HQ := HE.out
    unfold agE at HQ
    rw [if_pos HHH.out, if_pos hlt] at HQ
    injection HQ with e1 e2
    injection e2 with e2 e3
    have hm0 : m = 0 := by rw [HM.out, ← e3]; rfl
    subst e1; subst e2; subst hm0
    clear e3
    have hlg := FZ.out _ (hv10.alloc hv10.size (.cells #[.int .i64 0, .slice none 0 0] 48))
    obtain ⟨_, _, _, _, _, _, g0, g1, HFA⟩ := hlg
    go_wp2
    go_ret
    exact ⟨rfl, HFA.out⟩
  rename_i hlt
  have HQ := HE.out
  unfold agE at HQ
  rw [if_pos HHH.out, if_neg hlt] at HQ
  injection HQ with e1 e2
  injection e2 with e2 e3
  rw [deal_ref a b (capsB_rises (helB_caps HHH.out.1)) (capsB_rises (helB_caps HHH.out.2))] at e3
  rw [e2, e3] at hend
  obtain ⟨v, rfl, hcx⟩ := hend
  obtain ⟨R, r, s, rfl, hr, hrs, hsm⟩ := hcx.form'
  subst e1
  obtain ⟨W11, hW11⟩ : ∃ W11, w10.alloc (.cells #[.int .i64 X, .slice R r s] 48) = W11 := ⟨_, rfl⟩
  have FW : Hid (∀ V, Below W11.heap.size W11 V → V.cell? ⟨gd, 0, none⟩ = some (.int .i64 X) ∧ V.cell? ⟨gd, 1, none⟩ = some (.slice P m c) ∧ V.cell? ⟨w10.heap.size, 0, none⟩ = some (.int .i64 X) ∧ V.cell? ⟨w10.heap.size, 1, none⟩ = some (.slice R r s) ∧ Hid (CpR V W11.heap.size (.slice P m c) L ∧ CpR V W11.heap.size (.slice R r s) L ∧ Below w.heap.size w V ∧ W11.heap.size ≤ V.heap.size)) := Lib.hid (fun V hV => by
    have h11 : Below w6.heap.size w6 W11 := by rw [← hW11]; exact hv10.alloc hv10.size _
    have k0 : Below w10.heap.size w10 W11 := by rw [← hW11]; exact (Below.refl _ _).alloc (Nat.le_refl _) _
    have hV6 : Below w6.heap.size w6 V := h11.trans (hV.mono h11.size)
    have kb : Blk W11 w10.heap.size 48 #[.int .i64 X, .slice R r s] := by rw [← hW11]; exact Blk.new _ _ _
    have kv := kb.keep hV kb.lt
    obtain ⟨_, _, _, _, _, _, g0, g1, hf⟩ := FZ.out V hV6
    obtain ⟨_, _, _, _, h⟩ := FY.out V hV6
    exact ⟨g0, g1, kv.cell 0, kv.cell 1, Lib.hid ⟨h.out.1.mono (h11.size), (hcx.up k0).below hV, hf.out, hV.size⟩⟩)
  have HW11 := Lib.hid hW11
  have KW : Hid (∀ V, Below W11.heap.size W11 V → V.cell? ⟨gd, 0, none⟩ = some (.int .i64 X) ∧ V.cell? ⟨gd, 1, none⟩ = some (.slice P m c) ∧ V.cell? ⟨w10.heap.size, 0, none⟩ = some (.int .i64 X) ∧ V.cell? ⟨w10.heap.size, 1, none⟩ = some (.slice R r s)) := Lib.hid (fun V hV => by
    obtain ⟨h1, h2, h3, h4, _⟩ := FW.out V hV
    exact ⟨h1, h2, h3, h4⟩)
  have HP1 : Hid (∀ V, Below W11.heap.size W11 V → Calls Try.prog 26 #[.slice P m c] V fun e w' => ∃ Q q k, e = .returned (.slice Q q k) ∧ Below W11.heap.size W11 w' ∧ CpR w' w'.heap.size (.slice Q q k) L) := Lib.hid (fun V hV => by
    obtain ⟨_, _, _, _, h⟩ := FW.out V hV
    refine (plain_c L _ W11.heap.size V h.out.1 h.out.2.2.2 HL.out).mono ?_
    rintro e w' ⟨hb, v, he, hc⟩
    have hc := CpR.of_own hc
    obtain ⟨Q, q, k, rfl, _⟩ := hc.form'
    exact ⟨Q, q, k, he, hV.trans (hb.mono hV.size), hc⟩)
  have HSA : Hid (∀ V Q q k, Below W11.heap.size W11 V → CpR V V.heap.size (.slice Q q k) L → Calls Try.prog 25 #[.slice Q q k, .slice R r s] V fun e w' => e = .returned (.bool true) ∧ Below W11.heap.size W11 w') := Lib.hid (fun V Q q k hV h1 => by
    obtain ⟨_, _, _, _, h⟩ := FW.out V hV
    refine (sameC_c L L _ _ _ V h1 (h.out.2.1.mono h.out.2.2.2) (Nat.le_refl _) (by have := HL.out; omega) (by have := HL.out; omega)).mono ?_
    rintro e w' ⟨he, hb⟩
    exact ⟨by rw [he, decide_eq_true rfl], hV.trans (hb.mono hV.size)⟩)
  have HOF : Hid (∃ nv iv, (∀ k : Nat, offI L name = some k → nv = 16 * ((k : Int) + 1) ∧ iv = true) ∧ (offI L name = none → nv = 0 ∧ iv = false) ∧ ∀ V, Below W11.heap.size W11 V → Calls Try.prog 29 #[.agg #[.int .i64 X, .slice P m c], .string name] V fun e w' => e = .returned (.tuple #[.int .i64 nv, .bool iv]) ∧ Below W11.heap.size W11 w') := Lib.hid (by
    have key : ∀ V, Below W11.heap.size W11 V → Calls Try.prog 29 #[.agg #[.int .i64 X, .slice P m c], .string name] V fun e w' => e = offEnd (offI L name) ∧ Below W11.heap.size W11 w' := fun V hV => by
      obtain ⟨_, _, _, _, h⟩ := FW.out V hV
      exact (offset_c X L _ name W11.heap.size V h.out.1 h.out.2.2.2 (by have := HL.out; omega)).mono fun e w' ⟨he, hb⟩ => ⟨he, hV.trans (hb.mono hV.size)⟩
    rcases hD : offI L name with _ | k
    · rw [hD] at key
      exact ⟨0, false, by simp, by simp, key⟩
    · rw [hD] at key
      exact ⟨((16 + 16 * k : Nat) : Int), true, fun k' h => by injection h with h; subst h; exact ⟨by push_cast; omega, rfl⟩, by simp, key⟩)
  obtain ⟨nv, iv, hof1, hof2, hof3⟩ := HOF.out
  have HO1 := Lib.hid hof1
  have HO2 := Lib.hid hof2
  have HO3 := Lib.hid hof3
  have HR := Lib.hid (show r ≤ 1000 by have := hr.out; have := HL.out; omega)
  have hr1 := HR.out
  clear hof1 hof2 hof3 HOF hlt e2 e3 hcx hW11 d0 d1 hb10 hv10 hv hv8 hv9
  go_wp2_with fail
  rw [HW11.out]
  have hv : Below W11.heap.size W11 W11 := Below.refl _ _
  obtain ⟨d0, d1, d2, d3⟩ := KW.out _ hv
  go_region_held3 (fun V => V.cell? ⟨gd, 0, none⟩ = some (.int .i64 X) ∧ V.cell? ⟨gd, 1, none⟩ = some (.slice P m c) ∧ V.cell? ⟨w10.heap.size, 0, none⟩ = some (.int .i64 X) ∧ V.cell? ⟨w10.heap.size, 1, none⟩ = some (.slice R r s))
    (first | exact KW.out _ hv | exact KW.out _ hv.drew | exact KW.out _ (by assumption) | exact KW.out _ (Below.drew (by assumption)))
    (first
      | (go_at_call 26; ((with_reducible refine (HP1.out _ (by first | assumption | exact Below.drew (by assumption))).mono ?_); rintro e w' ⟨Q, q, k, rfl, hv, hc⟩))
      | (go_at_call 25; ((with_reducible refine (HSA.out _ _ _ _ hv hc).mono ?_); rintro e w' ⟨rfl, hv⟩)))
  clear d0 d1 d2 d3 HP1 HSA
  generalize w' = w12 at *
  obtain ⟨d0, d1, d2, d3⟩ := KW.out _ hv
  go_wp2_with fail
  refine (HO3.out _ hv).mono ?_
  rintro e w13 ⟨rfl, hv13⟩
  clear d0 d1 d2 d3
  go_wp2_with fail
  go_loopw [15] (fun i wr => ∃ k : Nat, k ≤ r ∧ i = .int .i64 k ∧ Hid (∀ j (hj : j < L.length), j < k → L[j].1 ≠ name) ∧ Below W11.heap.size W11 wr) (fun i _ => r - (intOf i).toNat)
  case atStart => exact ⟨0, by omega, rfl, Lib.hid (by omega), hv13⟩
  case round =>
    obtain ⟨k, hk, rfl, Hk, hbw⟩ := hrel
    obtain ⟨d0, d1, d2, d3, HH⟩ := FW.out _ hbw
    by_cases hlt : k < r
    · have hkl : k < L.length := by rw [← hr.out]; exact hlt
      obtain ⟨g, o, rfl, hg, e0, e1⟩ := HH.out.2.1.at_ hkl
      rcases str_ways L[k].1 name with ⟨hq, q1, q2⟩ | ⟨hq, q1, q2⟩
      · obtain ⟨rfl, rfl⟩ := HO1.out k (off_at hkl Hk.out hq)
        obtain ⟨y, hy⟩ : ∃ y, L[k] = y := ⟨_, rfl⟩
        rw [hy] at e0 e1 q1 q2
        clear hy hq
        obtain ⟨y1, y2⟩ := y
        simp only at e0 e1 q1 q2
        go_wp2
        go_ret
        exact ⟨by simp, HH.out.2.2.1⟩
      · have HGO : Hid (∀ j (hj : j < L.length), j < k + 1 → L[j].1 ≠ name) := Lib.hid (fun j hj hjk => by
          by_cases h : j = k
          · subst h; exact hq
          · exact Hk.out j hj (by omega))
        obtain ⟨y, hy⟩ : ∃ y, L[k] = y := ⟨_, rfl⟩
        rw [hy] at e0 e1 q1 q2
        clear hy hq
        obtain ⟨y1, y2⟩ := y
        simp only at e0 e1 q1 q2
        go_wp2
        go_roundw
        case rel => exact ⟨k + 1, by omega, by go_num, HGO, hbw⟩
        case measure => simp [intOf]; omega
    · obtain ⟨rfl, rfl⟩ := HO2.out (off_no (fun j hj => Hk.out j hj (by rw [← hr.out] at hj; omega)))
      go_wp2
      go_ret
      exact ⟨by simp, HH.out.2.2.1⟩
theorem helloAgrees_row (la ma : Int) (a : List Cp) (va : Value) (lb mb : Int) (b : List Cp) (vb : Value) (name : ByteArray) (w : World) (ha : CpR w w.heap.size va a) (hb : CpR w w.heap.size vb b) (hn : name.size ≤ maxLen) :
    Calls Try.prog 5 #[.agg #[.int .i64 la, .int .i64 ma, va], .agg #[.int .i64 lb, .int .i64 mb, vb], .string name] w fun e w' => e = .returned (.bool true) ∧ Below w.heap.size w w' :=
  helloAgrees_walk la ma a va lb mb b vb name w.heap.size w ha hb (Nat.le_refl _) (by simpa [maxLen] using hn)
end Go.Proofs.Ytcidcjghglgkhaa
