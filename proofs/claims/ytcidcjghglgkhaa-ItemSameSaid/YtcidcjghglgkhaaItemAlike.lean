/- item.alike, slices.EqualFunc at items, item.Same. -/
import Derived.Test.YtcidcjghglgkhaaItemRef2
import Derived.Test.YtcidcjghglgkhaaItemMay
namespace Go.Proofs.Ytcidcjghglgkhaa
set_option linter.unusedVariables false
set_option linter.unusedSimpArgs false
open Go.RowKit

/-- It tells whether both lists are one. -/
def SameL (a b : List It) (e : Ending) : Prop := ∃ r : Bool, e = .returned (.bool r) ∧ (r = true ↔ a = b)
theorem SameL.no {a b : List It} (h : a ≠ b) : SameL a b (.returned (.bool false)) := ⟨false, rfl, by simp [h]⟩
theorem SameL.yes {a b : List It} (h : a = b) : SameL a b (.returned (.bool true)) := ⟨true, rfl, by simp [h]⟩
set_option maxRecDepth 100000 in
set_option maxHeartbeats 1600000 in
theorem equalFunc_c (s s' : List It) (A A' : Option Addr) (cap cap' B : Nat) (w : World) (h : ItsIn w B s A 0) (h' : ItsIn w B s' A' 0) (hB : B ≤ w.heap.size) (hs : s.length ≤ 9223372036854775807) (hs' : s'.length ≤ 9223372036854775807) (hc : s.length ≤ cap) (hc' : s'.length ≤ cap') (hm : cap ≤ 9223372036854775807) (hm' : cap' ≤ 9223372036854775807)
    (ih : ∀ x ∈ s, ∀ (B : Nat) (w : World) (c0 c1 c2 : Value), ItIn w B x c0 c1 c2 → B ≤ w.heap.size → ∀ (y : It) (d0 d1 d2 : Value), ItIn w B y d0 d1 d2 → Calls Try.prog 55 #[.agg #[c0, c1, c2], .agg #[d0, d1, d2]] w fun e w' => SameIs x y e ∧ Below w.heap.size w w') :
    Calls Try.prog 76 #[.slice A s.length cap, .slice A' s'.length cap', .func (.func 55) #[] #[]] w fun e w' => SameL s s' e ∧ Below w.heap.size w w' := by
  have IH := Lib.hid ih
  have HS := Lib.hid h
  have HS' := Lib.hid h'
  clear ih h h'
  by_cases h3 : s.length = s'.length
  · have H3 := Lib.hid h3
    have e3 : ((s.length : Int) != (s'.length : Int)) = false := by simp [h3]
    have e3' : (s.length != s'.length) = false := by simp [h3]
    clear h3
    go_enter Try.func76, Try.ntmps76
    go_wp2_with fail
    go_loopw [17] (fun i wr => ∃ k : Nat, k ≤ s.length ∧ i = .int .i64 k ∧ Hid (∀ j (h1 : j < s.length) (h2 : j < s'.length), j < k → s[j] = s'[j]) ∧ Below w.heap.size w wr) (fun i _ => s.length - (intOf i).toNat)
    case atStart => exact ⟨0, by omega, rfl, Lib.hid (by omega), (by repeat (first | exact Below.refl _ _ | assumption | with_reducible refine Below.drewN' ?_ _ | with_reducible refine Below.drew ?_ | ((with_reducible refine Below.alloc' ?_ ?_ _); · (first | omega | (simp <;> omega)))))⟩
    case round =>
      obtain ⟨k, hk, rfl, hag, hb⟩ := hrel
      by_cases hlt : k < s.length
      · have hlt' : k < s'.length := by have := H3.out; omega
        obtain ⟨b, o, d0, d1, d2, rfl, hbB, e0, e1, e2, hi⟩ := HS.out.at_ k hlt
        obtain ⟨b', o', d0', d1', d2', rfl, hbB', e0', e1', e2', hi'⟩ := HS'.out.at_ k hlt'
        simp only [Nat.zero_add] at e0 e1 e2 e0' e1' e2'
        replace e0 := (hb.cell (p := ⟨b, o + k * 3, none⟩) (by simp; omega)).trans e0
        replace e1 := (hb.cell (p := ⟨b, o + k * 3 + 1, none⟩) (by simp; omega)).trans e1
        replace e2 := (hb.cell (p := ⟨b, o + k * 3 + 2, none⟩) (by simp; omega)).trans e2
        replace e0' := (hb.cell (p := ⟨b', o' + k * 3, none⟩) (by simp; omega)).trans e0'
        replace e1' := (hb.cell (p := ⟨b', o' + k * 3 + 1, none⟩) (by simp; omega)).trans e1'
        replace e2' := (hb.cell (p := ⟨b', o' + k * 3 + 2, none⟩) (by simp; omega)).trans e2'
        have hbz := hb.size
        have hmem := List.getElem_mem hlt
        have h1 := hi.below (hb.mono hB)
        have h2 := hi'.below (hb.mono hB)
        obtain ⟨AA, ccap, rfl, rfl, rfl, _⟩ := hi.open_
        obtain ⟨AB, dcap, rfl, rfl, rfl, _⟩ := hi'.open_
        have hbb : Below wr.heap.size wr ((wr.alloc (.cells #[.string s[k].text, .bool s[k].list, .slice AA s[k].sub.length ccap] 24)).alloc (.cells #[.string s'[k].text, .bool s'[k].list, .slice AB s'[k].sub.length dcap] 24)) := (by repeat (first | exact Below.refl _ _ | assumption | with_reducible refine Below.drewN' ?_ _ | with_reducible refine Below.drew ?_ | ((with_reducible refine Below.alloc' ?_ ?_ _); · (first | omega | (simp <;> omega)))))
        have HC := Lib.hid (IH.out _ hmem B _ _ _ _ (h1.below (hbb.mono (by omega))) (by simp; omega) _ _ _ _ (h2.below (hbb.mono (by omega))))
        have HBB := Lib.hid hbb
        clear hi hi' h1 h2 hbb
        have hob : b < wr.heap.size := by omega
        have hob' : b' < wr.heap.size := by omega
        go_wp2_with fail
        refine HC.out.mono ?_
        rintro e w2 ⟨⟨r, rfl, hr⟩, hb2⟩
        have HR := Lib.hid hr
        have HB2 : Hid (Below w.heap.size w w2) := Lib.hid (hb.trans ((HBB.out.mono hbz).trans (hb2.mono (by simp; omega))))
        clear hr hb2
        cases r with
        | true =>
          go_wp2
          go_roundw
          case rel =>
            refine ⟨k + 1, by omega, by go_num, Lib.hid fun j h1 h2 hj => ?_, HB2.out⟩
            by_cases hjk : j = k
            · subst hjk; exact HR.out.1 (by simp)
            · exact hag.out j h1 h2 (by omega)
          case measure => simp [intOf]; omega
        | false =>
          have HN : Hid (s ≠ s') := Lib.hid (by
            intro e
            subst e
            have := HR.out.2 rfl; simp at this)
          go_wp2
          go_ret
          exact ⟨SameL.no HN.out, HB2.out⟩
      · have HE : Hid (s = s') := Lib.hid (list_eq_of H3.out (fun j h1 h2 => hag.out j h1 h2 (by omega)))
        go_wp2
        go_ret
        exact ⟨SameL.yes HE.out, hb⟩
  · have HN : Hid (s ≠ s') := Lib.hid (by intro e; exact h3 (by rw [e]))
    have e3 : ((s.length : Int) != (s'.length : Int)) = true := by simp; omega
    have e3' : (s.length != s'.length) = true := by simp; omega
    clear h3
    go_enter Try.func76, Try.ntmps76
    go_wp2
    go_ret
    exact ⟨SameL.no HN.out, (by repeat (first | exact Below.refl _ _ | assumption | with_reducible refine Below.drewN' ?_ _ | with_reducible refine Below.drew ?_ | ((with_reducible refine Below.alloc' ?_ ?_ _); · (first | omega | (simp <;> omega)))))⟩
set_option maxRecDepth 100000 in
set_option maxHeartbeats 800000 in
theorem alike_c : ∀ (x : It) (B : Nat) (w : World) (c0 c1 c2 : Value), ItIn w B x c0 c1 c2 → B ≤ w.heap.size → ∀ (y : It) (d0 d1 d2 : Value), ItIn w B y d0 d1 d2 →
    Calls Try.prog 55 #[.agg #[c0, c1, c2], .agg #[d0, d1, d2]] w fun e w' => SameIs x y e ∧ Below w.heap.size w w' := by
  intro x
  induction x using It.ind with
  | h t l s ih =>
    intro B w c0 c1 c2 h hB y d0 d1 d2 hy
    obtain ⟨rfl, rfl, ht, hs, A, cap, rfl, hcap, hcm, hsub⟩ := h
    have IH := Lib.hid ih
    have HS := Lib.hid hsub
    clear ih hsub
    obtain ⟨t', l', s'⟩ := y
    obtain ⟨rfl, rfl, ht', hs', A', cap', rfl, hcap', hcm', hsub'⟩ := hy
    have hbb : Below w.heap.size w ((w.alloc (.cells #[.string t, .bool l, .slice A s.length cap] 24)).alloc (.cells #[.string t', .bool l', .slice A' s'.length cap'] 24)) := (by repeat (first | exact Below.refl _ _ | assumption | with_reducible refine Below.drewN' ?_ _ | with_reducible refine Below.drew ?_ | ((with_reducible refine Below.alloc' ?_ ?_ _); · (first | omega | (simp <;> omega)))))
    have HC := Lib.hid (equalFunc_c s s' A A' cap cap' B _ (HS.out.below (hbb.mono hB)) (hsub'.below (hbb.mono hB)) (by simp; omega) hs hs' hcap hcap' hcm hcm' IH.out)
    have HBB := Lib.hid hbb
    clear hsub' hbb
    by_cases h1 : l = l'
    · subst h1
      have e1' : (l == l) = true := by simp
      rcases str_ways t t' with ⟨rfl, q1, q2⟩ | ⟨hne, q1, q2⟩
      · go_enter Try.func55, Try.ntmps55
        go_wp2_with fail
        refine HC.out.mono ?_
        rintro e w2 ⟨⟨r, rfl, hr⟩, hb2⟩
        have HR : Hid (r = true ↔ It.mk t l s = It.mk t l s') := Lib.hid (by rw [hr]; simp)
        have HB2 : Hid (Below w.heap.size w w2) := Lib.hid (HBB.out.trans (hb2.mono (by simp; omega)))
        clear hr hb2
        go_wp2
        go_ret
        exact ⟨⟨r, rfl, HR.out⟩, HB2.out⟩
      · have HN : Hid (It.mk t l s ≠ It.mk t' l s') := Lib.hid (by intro e; injection e with e; exact hne e)
        clear hne
        go_enter Try.func55, Try.ntmps55
        go_wp2
        go_ret
        exact ⟨SameIs.no HN.out, (by repeat (first | exact Below.refl _ _ | assumption | with_reducible refine Below.drewN' ?_ _ | with_reducible refine Below.drew ?_ | ((with_reducible refine Below.alloc' ?_ ?_ _); · (first | omega | (simp <;> omega)))))⟩
    · have HN : Hid (It.mk t l s ≠ It.mk t' l' s') := Lib.hid (by intro e; injection e with _ e; exact h1 e)
      cases l <;> cases l'
      · exact absurd rfl h1
      · clear h1
        go_enter Try.func55, Try.ntmps55
        go_wp2
        go_ret
        exact ⟨SameIs.no HN.out, (by repeat (first | exact Below.refl _ _ | assumption | with_reducible refine Below.drewN' ?_ _ | with_reducible refine Below.drew ?_ | ((with_reducible refine Below.alloc' ?_ ?_ _); · (first | omega | (simp <;> omega)))))⟩
      · clear h1
        go_enter Try.func55, Try.ntmps55
        go_wp2
        go_ret
        exact ⟨SameIs.no HN.out, (by repeat (first | exact Below.refl _ _ | assumption | with_reducible refine Below.drewN' ?_ _ | with_reducible refine Below.drew ?_ | ((with_reducible refine Below.alloc' ?_ ?_ _); · (first | omega | (simp <;> omega)))))⟩
      · exact absurd rfl h1
/-- It tells whether both may be and are one. -/
def SameMay (a b : It) (e : Ending) : Prop := ∃ r : Bool, e = .returned (.bool r) ∧ (r = true ↔ a.may = true ∧ b.may = true ∧ a = b)
set_option maxRecDepth 100000 in
set_option maxHeartbeats 800000 in
theorem itemSame_c (x y : It) (B : Nat) (w : World) (c0 c1 c2 d0 d1 d2 : Value) (h : ItIn w B x c0 c1 c2) (hB : B ≤ w.heap.size) (h' : ItIn w B y d0 d1 d2) :
    Calls Try.prog 20 #[.agg #[c0, c1, c2], .agg #[d0, d1, d2]] w fun e w' => SameMay x y e ∧ Below w.heap.size w w' := by
  have HI := Lib.hid h
  have HI' := Lib.hid h'
  obtain ⟨A, cap, rfl, rfl, rfl, _⟩ := h.open_
  obtain ⟨A', cap', rfl, rfl, rfl, _⟩ := h'.open_
  have hbb : Below w.heap.size w ((w.alloc (.cells #[.string x.text, .bool x.list, .slice A x.sub.length cap] 24)).alloc (.cells #[.string y.text, .bool y.list, .slice A' y.sub.length cap'] 24)) := (by repeat (first | exact Below.refl _ _ | assumption | with_reducible refine Below.drewN' ?_ _ | with_reducible refine Below.drew ?_ | ((with_reducible refine Below.alloc' ?_ ?_ _); · (first | omega | (simp <;> omega)))))
  have HC := Lib.hid (may_c x B _ _ _ _ (HI.out.below (hbb.mono hB)) (by simp; omega))
  have HBB := Lib.hid hbb
  clear h h' hbb
  cases hm : x.may with
  | false =>
    have HN : Hid (false = true ↔ x.may = true ∧ y.may = true ∧ x = y) := Lib.hid (by simp [hm])
    rw [hm] at HC
    clear hm
    go_enter Try.func20, Try.ntmps20
    go_wp2_with fail
    refine HC.out.mono ?_
    rintro e w2 ⟨rfl, hb2⟩
    have HB2 : Hid (Below w.heap.size w w2) := Lib.hid (HBB.out.trans (hb2.mono (by simp; omega)))
    clear hb2
    go_wp2
    go_ret
    exact ⟨⟨false, rfl, HN.out⟩, HB2.out⟩
  | true =>
    rw [hm] at HC
    go_enter Try.func20, Try.ntmps20
    go_wp2_with fail
    refine HC.out.mono ?_
    rintro e w2 ⟨rfl, hb2⟩
    have HB2 : Hid (Below w.heap.size w w2) := Lib.hid (HBB.out.trans (hb2.mono (by simp; omega)))
    have hz2 := hb2.size
    simp only [World.size_alloc] at hz2
    have HK := Lib.hid (((Blk.new w 24 #[.string x.text, .bool x.list, .slice A x.sub.length cap]).alloc _).keep hb2 (by simp; omega))
    have HK' : Hid (Blk w2 (w.heap.size + 1) 24 #[.string y.text, .bool y.list, .slice A' y.sub.length cap']) := Lib.hid (by
      have := (Blk.new (w.alloc (.cells #[.string x.text, .bool x.list, .slice A x.sub.length cap] 24)) 24 #[.string y.text, .bool y.list, .slice A' y.sub.length cap']).keep hb2 (by simp)
      simpa using this)
    obtain ⟨g0, g1, g2, _⟩ := blk3 HK.out
    obtain ⟨r0, r1, r2, _⟩ := blk3 HK'.out
    have HC2 := Lib.hid (may_c y B w2 _ _ _ (HI'.out.below (HB2.out.mono hB)) (by omega))
    clear hb2
    cases hm' : y.may with
    | false =>
      have HN : Hid (false = true ↔ x.may = true ∧ y.may = true ∧ x = y) := Lib.hid (by simp [hm'])
      rw [hm'] at HC2
      clear hm hm'
      go_wp2_with fail
      refine HC2.out.mono ?_
      rintro e w3 ⟨rfl, hb3⟩
      have HB3 : Hid (Below w.heap.size w w3) := Lib.hid (HB2.out.trans (hb3.mono (by omega)))
      clear hb3
      go_wp2
      go_ret
      exact ⟨⟨false, rfl, HN.out⟩, HB3.out⟩
    | true =>
      have HN : Hid (∀ r : Bool, (r = true ↔ x = y) → (r = true ↔ x.may = true ∧ y.may = true ∧ x = y)) := Lib.hid (by intro r hr; rw [hr]; simp [hm, hm'])
      rw [hm'] at HC2
      clear hm hm'
      go_wp2_with fail
      refine HC2.out.mono ?_
      rintro e w3 ⟨rfl, hb3⟩
      have HB3 : Hid (Below w.heap.size w w3) := Lib.hid (HB2.out.trans (hb3.mono (by omega)))
      have hz3 := hb3.size
      clear g0 g1 g2 r0 r1 r2
      obtain ⟨g0, g1, g2, _⟩ := blk3 (HK.out.keep hb3 (by omega))
      obtain ⟨r0, r1, r2, _⟩ := blk3 (HK'.out.keep hb3 (by omega))
      have HC3 := Lib.hid (alike_c x B w3 _ _ _ (HI.out.below (HB3.out.mono hB)) (by omega) y _ _ _ (HI'.out.below (HB3.out.mono hB)))
      clear hb3
      go_wp2_with fail
      refine HC3.out.mono ?_
      rintro e w4 ⟨⟨r, rfl, hr⟩, hb4⟩
      have HR := Lib.hid (HN.out r hr)
      have HB4 : Hid (Below w.heap.size w w4) := Lib.hid (HB3.out.trans (hb4.mono (by omega)))
      clear hr hb4
      go_wp2
      go_ret
      exact ⟨⟨r, rfl, HR.out⟩, HB4.out⟩
end Go.Proofs.Ytcidcjghglgkhaa
