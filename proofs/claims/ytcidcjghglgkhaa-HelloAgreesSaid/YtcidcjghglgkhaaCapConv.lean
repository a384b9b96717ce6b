/- hatchwaylaw32.caps, plain. -/
import Derived.Test.YtcidcjghglgkhaaCapOwn
import Derived.Deep.AppendLies
import Derived.Deep.RegionLaw
namespace Go.Proofs.Ytcidcjghglgkhaa
set_option linter.unusedVariables false
set_option linter.unusedSimpArgs false
open Go.RowKit

/-- A new row of these capabilities. -/
def NewCaps (E : TypeId) (l : List Cp) (w : World) (e : Ending) (w' : World) : Prop := Below w.heap.size w w' ∧ ∃ v, e = .returned v ∧ w'.ownsRow w.heap.size E 2 v l.length (cc l)
theorem take_cp (l : List Cp) (k : Nat) (h : k < l.length) : l.take (k + 1) = l.take k ++ [l[k]] := List.take_succ_eq_append_getElem h
theorem newsD {w : World} {g : Nat} {cs : Array Value} {t : TypeId} (hg : g = w.heap.size) : ∀ j u, cs.toList[j]? = some u → (w.alloc (.cells cs t)).drew.cell? ((⟨g, 0, none⟩ : Addr).add j) = some u := by
  subst hg
  exact fun j u h => World.news_of_block (heap_alloc_new w (.cells cs t)) j u h
set_option maxRecDepth 100000 in
set_option maxHeartbeats 1600000 in
theorem caps_c (l : List Cp) (v : Value) (B : Nat) (w : World) (h : CpR w B v l) (hB : B ≤ w.heap.size) (hl : l.length ≤ 1000) :
    Calls Try.prog 58 #[v] w (NewCaps 74 l w) := by
  obtain ⟨i0, hi, hz0, hz1, hz2⟩ := info_parts info_cap
  obtain ⟨A, n, cap, rfl, hn, hnc, hcm⟩ := h.form'
  have hn1 : n ≤ 1000 := by rw [hn.out]; exact hl
  have HC := Lib.hid h
  clear h
  go_enter Try.func58, Try.ntmps58
  go_wp2_with fail
  go_loopw [3, 4] (fun b i wr => ∃ k : Nat, k ≤ n ∧ i = .int .i64 k ∧ Below w.heap.size w wr ∧ wr.ownsRow w.heap.size 74 2 b k (cc (l.take k))) (fun _ i _ => n - (intOf i).toNat)
  case atStart => exact ⟨0, by omega, rfl, Below.refl _ _, World.ownsRow_nil _ _ _ _⟩
  case round =>
    obtain ⟨k, hk, rfl, hb, hown⟩ := hrel
    have hwz := hb.size
    obtain ⟨A2, cap2, rfl, hk2, hc2, _⟩ := own_form' hown
    by_cases hlt : k < n
    · have hkl : k < l.length := by rw [← hn.out]; exact hlt
      obtain ⟨g, o, rfl, hg, e0, e1⟩ := (HC.out.below (hb.mono hB)).at_ hkl
      have HT := Lib.hid (take_cp l k hkl)
      obtain ⟨c, hc⟩ : ∃ c, l[k] = c := ⟨_, rfl⟩
      rw [hc] at e0 e1 HT
      obtain ⟨x1, x2⟩ := c
      simp only at e0 e1
      clear hc hkl
      have HO := Lib.hid hown
      have HB := Lib.hid hb
      clear hown hb
      go_wp2_with fail
      have j0 : (k : Int) < (n : Int) := by omega
      go_region_law (refine step_append_lies _ (by rfl) (.tmp 11) (.tmp 23) 36 (by rfl) w.heap.size 74 i0 _ 2 24 Try.underlying36 hi hz0 hz1 hz2 (by rfl) (by decide) _ k (cc (l.take k)) (by rfl) ((HO.out.alloc _).drew) ⟨wr.heap.size, 0, none⟩ 1 1 [.string x1, .int .i64 x2] (by rfl) (by rfl) (newsD (by rfl)) (by simp [Value.oneCell']) (by omega) (by simp only [maxLen]; omega) (by omega) (by simp; omega) _ rfl ?_; intro g1 cap1 w1 hown1 hgrow1 hat1 hlt1)
      all_goals
        have HO1 : Hid (w1.ownsRow w.heap.size 74 2 (.slice (some ⟨g1, 0, none⟩) (k + 1) cap1) (k + 1) (cc (l.take (k + 1)))) := Lib.hid (by rw [HT.out, cc_append, cc_one]; exact hown1)
        have HB1 : Hid (Below w.heap.size w w1) := Lib.hid ((((HB.out.alloc hwz _).drew)).grown hgrow1 (by simp; omega) (fun r e => (own_ge HO.out r e)))
        clear hown1 hgrow1 hat1
        go_wp2
        go_roundw
        case rel => exact ⟨k + 1, by omega, by go_num, HB1.out, HO1.out⟩
        case measure => simp [intOf]; omega
    · have HF : Hid (wr.ownsRow w.heap.size 74 2 (.slice A2 k cap2) l.length (cc l)) := Lib.hid (by
        have hkn : l.take k = l := List.take_of_length_le (by rw [← hn.out]; omega)
        have hkl : l.length = k := by rw [← hn.out]; omega
        rw [hkn] at hown
        rw [hkl]
        exact hown)
      go_wp2
      go_ret
      exact ⟨hb, _, rfl, HF.out⟩
set_option maxRecDepth 100000 in
set_option maxHeartbeats 1600000 in
theorem plain_c (l : List Cp) (v : Value) (B : Nat) (w : World) (h : CpR w B v l) (hB : B ≤ w.heap.size) (hl : l.length ≤ 1000) :
    Calls Try.prog 26 #[v] w (NewCaps 54 l w) := by
  obtain ⟨i0, hi, hz0, hz1, hz2⟩ := info_parts info_rcap
  obtain ⟨A, n, cap, rfl, hn, hnc, hcm⟩ := h.form'
  have hn1 : n ≤ 1000 := by rw [hn.out]; exact hl
  have HC := Lib.hid h
  clear h
  go_enter Try.func26, Try.ntmps26
  go_wp2_with fail
  go_loopw [3, 4] (fun b i wr => ∃ k : Nat, k ≤ n ∧ i = .int .i64 k ∧ Below w.heap.size w wr ∧ wr.ownsRow w.heap.size 54 2 b k (cc (l.take k))) (fun _ i _ => n - (intOf i).toNat)
  case atStart => exact ⟨0, by omega, rfl, Below.refl _ _, World.ownsRow_nil _ _ _ _⟩
  case round =>
    obtain ⟨k, hk, rfl, hb, hown⟩ := hrel
    have hwz := hb.size
    obtain ⟨A2, cap2, rfl, hk2, hc2, _⟩ := own_form' hown
    by_cases hlt : k < n
    · have hkl : k < l.length := by rw [← hn.out]; exact hlt
      obtain ⟨g, o, rfl, hg, e0, e1⟩ := (HC.out.below (hb.mono hB)).at_ hkl
      have HT := Lib.hid (take_cp l k hkl)
      obtain ⟨c, hc⟩ : ∃ c, l[k] = c := ⟨_, rfl⟩
      rw [hc] at e0 e1 HT
      obtain ⟨x1, x2⟩ := c
      simp only at e0 e1
      clear hc hkl
      have HO := Lib.hid hown
      have HB := Lib.hid hb
      clear hown hb
      go_wp2_with fail
      have j0 : (k : Int) < (n : Int) := by omega
      go_region_law (refine step_append_lies _ (by rfl) (.tmp 11) (.tmp 23) 32 (by rfl) w.heap.size 54 i0 _ 2 24 Try.underlying32 hi hz0 hz1 hz2 (by rfl) (by decide) _ k (cc (l.take k)) (by rfl) ((HO.out.alloc _).drew) ⟨wr.heap.size, 0, none⟩ 1 1 [.string x1, .int .i64 x2] (by rfl) (by rfl) (newsD (by rfl)) (by simp [Value.oneCell']) (by omega) (by simp only [maxLen]; omega) (by omega) (by simp; omega) _ rfl ?_; intro g1 cap1 w1 hown1 hgrow1 hat1 hlt1)
      all_goals
        have HO1 : Hid (w1.ownsRow w.heap.size 54 2 (.slice (some ⟨g1, 0, none⟩) (k + 1) cap1) (k + 1) (cc (l.take (k + 1)))) := Lib.hid (by rw [HT.out, cc_append, cc_one]; exact hown1)
        have HB1 : Hid (Below w.heap.size w w1) := Lib.hid ((((HB.out.alloc hwz _).drew)).grown hgrow1 (by simp; omega) (fun r e => (own_ge HO.out r e)))
        clear hown1 hgrow1 hat1
        go_wp2
        go_roundw
        case rel => exact ⟨k + 1, by omega, by go_num, HB1.out, HO1.out⟩
        case measure => simp [intOf]; omega
    · have HF : Hid (wr.ownsRow w.heap.size 54 2 (.slice A2 k cap2) l.length (cc l)) := Lib.hid (by
        have hkn : l.take k = l := List.take_of_length_le (by rw [← hn.out]; omega)
        have hkl : l.length = k := by rw [← hn.out]; omega
        rw [hkn] at hown
        rw [hkl]
        exact hown)
      go_wp2
      go_ret
      exact ⟨hb, _, rfl, HF.out⟩
end Go.Proofs.Ytcidcjghglgkhaa
