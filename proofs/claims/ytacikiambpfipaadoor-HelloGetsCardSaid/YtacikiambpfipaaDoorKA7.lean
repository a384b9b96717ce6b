/- rlp.Put: its closure head. -/
/- item.Caps, and the document's. -/
import Derived.Test.YtacikiambpfipaaDoorKLayW
import Derived.Test.YtacikiambpfipaaDoorKA6
import Derived.Test.YtacikiambpfipaaDoorKRlpRP
import Derived.Test.YtacikiambpfipaaDoorKA5
namespace Go.Proofs.YtacikiambpfipaaDoor
set_option linter.unusedVariables false
set_option linter.unusedSimpArgs false
open Go.RowKit

theorem info_byteL : (Tryd.prog.info? 5).map (fun i => (i.zero, i.size, i.bytes)) = some (some (.int .u8 0), 1, 1) := by kernel_rfl
theorem info_lay : (Tryd.prog.info? 136).map (fun i => (i.zero, i.size, i.bytes)) = some (some (.agg #[.slice none 0 0, .slice none 0 0]), 2, 48) := by kernel_rfl
set_option maxRecDepth 100000 in
set_option maxHeartbeats 1000000 in
theorem head_c (b n base : Nat) (v : Value) (l : List UInt8) (w : World) (hv : Buf w base 5 v l) (hbw : base ≤ w.heap.size) (hb : b ≤ 192) (hn : n ≤ 1099511627776) (hl : l.length ≤ 2199023255552) :
    Calls Tryd.prog 103 #[v, .int .i64 b, .int .i64 n] w fun e w' => ∃ v', e = .returned v' ∧ Buf w' base 5 v' (l ++ rHead b n) ∧ GrB w w' v v' := by
  obtain ⟨i0, hi, hz0, hz1, hz2⟩ := info_parts info_byteL
  have HB := Lib.hid hv
  obtain ⟨A, k, cap, rfl, hk, hkc, hcm⟩ := hv.form'
  clear hv
  by_cases h : n ≤ 55
  · have HR : Hid (rHead b n = [ub ((b + n : Nat) : Int)]) := Lib.hid (by unfold rHead; rw [if_pos h])
    go_enter Tryd.func103, Tryd.ntmps103
    go_wp2_with
      (at_builtin; refine wpList_append_bufO (by rfl) (.tmp 10) (.tmp 15) 54 54 (by rfl) base 5 i0 Tryd.underlying54 hi hz0 hz1 hz2 (by rfl) (HB.out.alloc _) _ [ub ((b + n : Nat) : Int)] (by rfl) (src_lit Tryd.underlying54 _ 5 _ _ 1 _ (by simp only [World.size_alloc]) (cb_ub1 (by omega) (by omega))) (by simp only [World.size_alloc]; omega) (by simp only [List.length_cons, List.length_nil]; omega) ?_)
    intro A1 n1 cap1 w1 hb1 hg1
    have HB1 := Lib.hid hb1
    have HG1 := Lib.hid hg1
    clear hb1 hg1
    go_wp2
    go_ret
    exact ⟨_, rfl, by rw [HR.out]; exact HB1.out, HG1.out.ahead (by repeat (first | exact Below.refl _ _ | assumption | with_reducible refine Below.drewN' ?_ _ | with_reducible refine Below.drew ?_ | ((with_reducible refine Below.alloc' ?_ ?_ _); · (first | omega | (simp <;> omega)))))⟩
  · obtain ⟨T, hT⟩ : ∃ T : ByteArray, (⟨(minL n).toArray⟩ : ByteArray) = T := ⟨_, rfl⟩
    have hTL : T.data.toList = minL n := by rw [← hT]
    have hTz : T.size ≤ 8 := by rw [← hT, size_of]; exact minL_length 8 n (by omega)
    have HR : Hid (rHead b n = ub ((b + 55 + T.size : Nat) : Int) :: T.data.toList) := Lib.hid (by unfold rHead; rw [if_neg h, hTL, ← toList_size, hTL])
    have HL := Lib.hid (fun w => least_c n w (by omega))
    rw [hT] at HL
    clear hT hTL
    go_enter Tryd.func103, Tryd.ntmps103
    go_wp2_with fail
    refine (HL.out _).mono ?_
    rintro e w1 ⟨rfl, hb1⟩
    have hw1 := hb1.size
    have HB1 := Lib.hid (HB.out.below hb1)
    have HBL := Lib.hid hb1
    clear hb1
    go_wp2_with
      (at_builtin; refine wpList_append_bufO (by rfl) (.tmp 20) (.tmp 27) 54 54 (by rfl) base 5 i0 Tryd.underlying54 hi hz0 hz1 hz2 (by rfl) (HB1.out.alloc _) _ [ub ((b + 55 + T.size : Nat) : Int)] (by rfl) (src_lit Tryd.underlying54 _ 5 _ _ 1 _ (by simp only [World.size_alloc]) (cb_ub1 (by omega) (by omega))) (by simp only [World.size_alloc]; omega) (by simp only [List.length_cons, List.length_nil]; omega) ?_)
    intro A2 n2 cap2 w2 hb2 hg2
    have hz2' := hg2.size
    simp only [World.size_alloc] at hz2'
    have HB2 := Lib.hid hb2
    have HG2 := Lib.hid hg2
    clear hb2 hg2
    go_wp2_with
      (at_builtin; refine wpList_append_bufO (by rfl) (.tmp 28) (.tmp 29) 54 9 (by rfl) base 5 i0 Tryd.underlying54 hi hz0 hz1 hz2 (by rfl) HB2.out _ T.data.toList (by rfl) (src_str Tryd.underlying9 _ T) (by omega) (by rw [toList_size]; simp only [List.length_append, List.length_cons, List.length_nil]; omega) ?_)
    intro A3 n3 cap3 w3 hb3 hg3
    have HB3 := Lib.hid hb3
    have HG3 := Lib.hid hg3
    clear hb3 hg3
    go_wp2
    go_ret
    refine ⟨_, rfl, ?_, ?_⟩
    · have := HB3.out
      rw [HR.out]
      simpa using this
    · exact (HG2.out.ahead (HBL.out.trans (((Below.refl _ w1).alloc (Nat.le_refl _) _).mono hw1))).trans HG3.out
/-- append(open, laying{items: next.Sub}). -/
theorem wpList_append_lay {w : World} {ops : Array Oper} {rest : List Oper} {o : Oper} {a : Act} {Q : Exit → Act → World → Prop} (hgd : o.guard = none) (s x : Operand)
    (ho : o.op = .call { callee := .builtin .append, args := #[s, x], argTypes := #[137, 137] }) {S g cap n : Nat} {fs : List (List It × List UInt8)} {vs : List (Value × Value)} (hL : Lay w S g cap fs vs) (hS : S ≤ w.heap.size) (hn : n = fs.length) (hs : a.eval s = .slice (some ⟨g, 0, none⟩) n cap)
    {sub : List It} {A : Option Addr} {c : Nat} (hc : sub.length ≤ c) (hc2 : c ≤ 9223372036854775807) (hI : ItsIn w S sub A 0) (B : Nat) (hx : a.eval x = .slice (some ⟨B, 0, none⟩) 1 1) (hx0 : w.cell? ⟨B, 0, none⟩ = some (.slice A sub.length c)) (hx1 : w.cell? ⟨B, 1, none⟩ = some (.slice none 0 0)) (hlen : fs.length ≤ 1099511627777)
    (hK : ∀ g' n' cap' w', Hid (n' = fs.length + 1) → Hid (Lay w' S g' cap' ((sub, []) :: fs) ((.slice A sub.length c, .slice none 0 0) :: vs)) → Hid (w.grownBy w' (some g)) → wpList Tryd.prog ops Q rest (a.put o.dst (.slice (some ⟨g', 0, none⟩) n' cap')) w') : wpList Tryd.prog ops Q (o :: rest) a w := by
  subst hn
  obtain ⟨i1, hi1, hzz0, hzz1, hzz2⟩ := info_parts info_lay
  refine wpList_append_lies w hgd s x 137 ho S 136 i1 _ 2 48 Tryd.underlying137 hi1 hzz0 hzz1 hzz2 rfl (by decide) _ fs.length (flatV vs) hs hL.row ⟨B, 0, none⟩ 1 1 [.slice A sub.length c, .slice none 0 0] hx rfl ?_ ?_ (by decide) (by simp only [maxLen]; omega) (by omega) hS w.heap.size rfl ?_
  · intro j u hu
    have e1 : ∀ j, (⟨B, 0, none⟩ : Addr).add j = ⟨B, j, none⟩ := by intro j; unfold Addr.add; split <;> simp_all
    rw [e1]
    match j, hu with
    | 0, hu => simp at hu; subst hu; exact hx0
    | 1, hu => simp at hu; subst hu; exact hx1
  · intro u hu
    simp at hu
    rcases hu with rfl | rfl <;> rfl
  · intro g' cap' w' hown hgr _ _
    exact hK g' _ cap' w' (Lib.hid rfl) (Lib.hid (hL.push hS hc hc2 hI hown hgr)) (Lib.hid hgr)
end Go.Proofs.YtacikiambpfipaaDoor
namespace Go.Proofs.YtacikiambpfipaaDoor
set_option linter.unusedVariables false
set_option linter.unusedSimpArgs false
open Go.RowKit

set_option maxHeartbeats 400000 in
theorem caps_c (x : It) (D M : Int) (B : Nat) (w : World) (c0 c1 c2 : Value) (h : ItIn w B x c0 c1 c2) (hB : B ≤ w.heap.size) :
    Calls Tryd.prog 45 #[.agg #[c0, c1, c2], .int .i64 D, .int .i64 M] w fun e w' => e = .returned (.int .i64 (capsE x D M)) ∧ Below w.heap.size w w' := by
  have HC := Lib.hid (scan_c x B (w.alloc (.cells #[c0, c1, c2] 27)) c0 c1 c2 (h.below (by repeat (first | exact Below.refl _ _ | assumption | with_reducible refine Below.drewN' ?_ _ | with_reducible refine Below.drew ?_ | ((with_reducible refine Below.alloc' ?_ ?_ _); · (first | omega | (simp <;> omega)))))) (by simp; omega))
  obtain ⟨A, cap, rfl, rfl, rfl, _⟩ := h.open_
  clear h
  cases hm : x.may with
  | false =>
    have HS : Hid (scanV x = .tuple #[.int .i64 0, .int .i64 0, .bool false]) := Lib.hid (by rw [scanV, hm]; rfl)
    have HE : Hid (capsE x D M = 1) := Lib.hid (by rw [capsE, if_pos hm])
    clear hm
    go_enter Tryd.func45, Tryd.ntmps45
    go_wp2_with fail
    refine HC.out.mono ?_
    rintro e w2 ⟨rfl, hb⟩
    rw [HS.out]
    go_wp2
    go_ret
    rw [HE.out]
    exact ⟨rfl, (Below.alloc (Below.refl _ _) (Nat.le_refl _) _).trans (hb.mono (by simp))⟩
  | true =>
    obtain ⟨c, hc⟩ : ∃ c, (x.count : Int) = c := ⟨_, rfl⟩
    obtain ⟨d, hd⟩ : ∃ d, (x.deep : Int) = d := ⟨_, rfl⟩
    have HS : Hid (scanV x = .tuple #[.int .i64 c, .int .i64 d, .bool true]) := Lib.hid (by rw [scanV, hm, ← hc, ← hd]; rfl)
    have hE : capsE x D M = if D < d then 6 else if M < c then 4 else 0 := by rw [capsE, if_neg (by simp [hm]), hc, hd]
    clear hm hc hd
    by_cases h1 : D < d
    · have HE : Hid (capsE x D M = 6) := Lib.hid (by rw [hE, if_pos h1])
      clear hE
      go_enter Tryd.func45, Tryd.ntmps45
      go_wp2_with fail
      refine HC.out.mono ?_
      rintro e w2 ⟨rfl, hb⟩
      rw [HS.out]
      go_wp2
      go_ret
      rw [HE.out]
      exact ⟨rfl, (Below.alloc (Below.refl _ _) (Nat.le_refl _) _).trans (hb.mono (by simp))⟩
    · rw [if_neg h1] at hE
      by_cases h2 : M < c
      · have HE : Hid (capsE x D M = 4) := Lib.hid (by rw [hE, if_pos h2])
        clear hE
        go_enter Tryd.func45, Tryd.ntmps45
        go_wp2_with fail
        refine HC.out.mono ?_
        rintro e w2 ⟨rfl, hb⟩
        rw [HS.out]
        go_wp2
        go_ret
        rw [HE.out]
        exact ⟨rfl, (Below.alloc (Below.refl _ _) (Nat.le_refl _) _).trans (hb.mono (by simp))⟩
      · have HE : Hid (capsE x D M = 0) := Lib.hid (by rw [hE, if_neg h2])
        clear hE
        go_enter Tryd.func45, Tryd.ntmps45
        go_wp2_with fail
        refine HC.out.mono ?_
        rintro e w2 ⟨rfl, hb⟩
        rw [HS.out]
        go_wp2
        go_ret
        rw [HE.out]
        exact ⟨rfl, (Below.alloc (Below.refl _ _) (Nat.le_refl _) _).trans (hb.mono (by simp))⟩

set_option maxRecDepth 100000 in
set_option maxHeartbeats 400000 in
theorem refCaps_c (x : It) (D M : Int) (B : Nat) (w : World) (c0 c1 c2 : Value) (h : ItIn w B x c0 c1 c2) (hB : B ≤ w.heap.size) (hc : x.count ≤ 4611686018427387904) :
    Calls Tryd.prog 71 #[.agg #[c0, c1, c2], .int .i64 D, .int .i64 M] w fun e w' => e = .returned (.int .i64 (capsE x D M)) ∧ Below w.heap.size w w' := by
  have hdl := deep_le x
  have h1 : ItIn (w.alloc (.cells #[c0, c1, c2] 27)) B x c0 c1 c2 := h.below (by repeat (first | exact Below.refl _ _ | assumption | with_reducible refine Below.drewN' ?_ _ | with_reducible refine Below.drew ?_ | ((with_reducible refine Below.alloc' ?_ ?_ _); · (first | omega | (simp <;> omega)))))
  have H1 := Lib.hid (refMay_c x B _ c0 c1 c2 h1 (by simp; omega) hc)
  have H2 := Lib.hid (fun w1 hb hz => refDeep_c x B w1 c0 c1 c2 (ItIn.below h1 hb) hz (by omega))
  have H3 := Lib.hid (fun w1 hb hz => refCount_c x B w1 c0 c1 c2 (ItIn.below h1 hb) hz (by omega))
  obtain ⟨A, cap, rfl, rfl, rfl, _⟩ := h.open_
  clear h h1 hdl hc
  cases hm : x.may with
  | false =>
    rw [hm] at H1
    have HE : Hid (capsE x D M = 1) := Lib.hid (by rw [capsE, if_pos hm])
    clear hm
    go_enter Tryd.func71, Tryd.ntmps71
    go_wp2_with fail
    refine H1.out.mono ?_
    rintro e w1 ⟨rfl, hb⟩
    have hbz := hb.size
    simp only [World.size_alloc] at hbz
    obtain ⟨g0, g1, g2⟩ := box_cells w 27 _ _ _ w1 (by simpa using hb)
    have hB1 := (Below.alloc (Below.refl w.heap.size w) (Nat.le_refl _) _).trans (hb.mono (by simp))
    go_wp2
    go_ret
    rw [HE.out]
    exact ⟨rfl, hB1⟩
  | true =>
    rw [hm] at H1
    have hE : capsE x D M = if D < x.deep then 6 else if M < x.count then 4 else 0 := by rw [capsE, if_neg (by simp [hm])]
    clear hm
    obtain ⟨c, hc⟩ : ∃ c, (x.count : Int) = c := ⟨_, rfl⟩
    obtain ⟨d, hd⟩ : ∃ d, (x.deep : Int) = d := ⟨_, rfl⟩
    rw [hc, hd] at hE
    rw [hd] at H2
    rw [hc] at H3
    clear hc hd
    by_cases h1 : D < d
    · have HE : Hid (capsE x D M = 6) := Lib.hid (by rw [hE, if_pos h1])
      clear hE
      go_enter Tryd.func71, Tryd.ntmps71
      go_wp2_with fail
      refine H1.out.mono ?_
      rintro e w1 ⟨rfl, hb⟩
      have hbz := hb.size
      simp only [World.size_alloc] at hbz
      obtain ⟨g0, g1, g2⟩ := box_cells w 27 _ _ _ w1 (by simpa using hb)
      have hB1 := (Below.alloc (Below.refl w.heap.size w) (Nat.le_refl _) _).trans (hb.mono (by simp))
      go_wp2_with fail
      refine (H2.out w1 (hb.mono (by simp; omega)) (by omega)).mono ?_
      rintro e w2 ⟨rfl, hb2⟩
      have hb3 := hb.trans (hb2.mono (by simp; omega))
      have hbz2 := hb2.size
      obtain ⟨k0, k1, k2⟩ := box_cells w 27 _ _ _ w2 (by simpa using hb3)
      have hB2 := hB1.trans (hb2.mono (by omega))
      go_wp2
      go_ret
      rw [HE.out]
      exact ⟨rfl, hB2⟩
    · rw [if_neg h1] at hE
      have HE : Hid (capsE x D M = if M < c then 4 else 0) := Lib.hid hE
      clear hE
      go_enter Tryd.func71, Tryd.ntmps71
      go_wp2_with fail
      refine H1.out.mono ?_
      rintro e w1 ⟨rfl, hb⟩
      have hbz := hb.size
      simp only [World.size_alloc] at hbz
      obtain ⟨g0, g1, g2⟩ := box_cells w 27 _ _ _ w1 (by simpa using hb)
      have hB1 := (Below.alloc (Below.refl w.heap.size w) (Nat.le_refl _) _).trans (hb.mono (by simp))
      go_wp2_with fail
      refine (H2.out w1 (hb.mono (by simp; omega)) (by omega)).mono ?_
      rintro e w2 ⟨rfl, hb2⟩
      have hb3 := hb.trans (hb2.mono (by simp; omega))
      have hbz2 := hb2.size
      obtain ⟨k0, k1, k2⟩ := box_cells w 27 _ _ _ w2 (by simpa using hb3)
      have hB2 := hB1.trans (hb2.mono (by omega))
      go_wp2_with fail
      refine (H3.out w2 (hb3.mono (by simp; omega)) (by omega)).mono ?_
      rintro e w3 ⟨rfl, hb4⟩
      by_cases h2 : M < c
      · go_wp2
        go_ret
        refine ⟨?_, hB2.trans (hb4.mono (by omega))⟩
        rw [HE.out, if_pos h2]; rfl
      · go_wp2
        go_ret
        refine ⟨?_, hB2.trans (hb4.mono (by omega))⟩
        rw [HE.out, if_neg (by omega)]; rfl
end Go.Proofs.YtacikiambpfipaaDoor
