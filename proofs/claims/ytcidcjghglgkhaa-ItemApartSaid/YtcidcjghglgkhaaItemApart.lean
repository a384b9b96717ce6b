/- hatchwaylaw08.ItemApart: what is turned in a copy turns nothing in the item. -/
import Derived.Test.YtcidcjghglgkhaaItemCopy
import Derived.Test.YtcidcjghglgkhaaItemShows
namespace Go.Proofs.Ytcidcjghglgkhaa
set_option linter.unusedVariables false
set_option linter.unusedSimpArgs false
open Go.RowKit

/-- From w0 to wr texts and marks of items have turned, from block lo on, and nothing else. -/
structure Turned (lo : Nat) (w0 wr : World) : Prop where
  below : Below lo w0 wr
  same : wr.heap.size = w0.heap.size
  free : ∀ b o, wr.frozen? ⟨b, o, none⟩ = w0.frozen? ⟨b, o, none⟩
  there : ∀ b o, (wr.cell? ⟨b, o, none⟩).isSome = (w0.cell? ⟨b, o, none⟩).isSome
  sub : ∀ b o, o % 3 = 2 → wr.cell? ⟨b, o, none⟩ = w0.cell? ⟨b, o, none⟩
theorem Turned.refl (lo : Nat) (w : World) : Turned lo w w := ⟨Below.refl _ _, rfl, fun _ _ => rfl, fun _ _ => rfl, fun _ _ _ => rfl⟩
theorem setCell_cell (w : World) (b o b' o' : Nat) (v : Value) : (w.setCell ⟨b, o, none⟩ v).cell? ⟨b', o', none⟩ = if b' = b ∧ o' = o ∧ (w.cell? ⟨b, o, none⟩).isSome then some v else w.cell? ⟨b', o', none⟩ := by
  by_cases hb : b' = b
  · subst hb
    cases hh : w.heap[b']? with
    | none => simp [World.cell?, World.setCell, Array.getElem?_modify, hh]
    | some ob =>
      cases ob with
      | cells cs t fr =>
        by_cases ho : o' = o
        · subst ho
          by_cases hl : o' < cs.size
          · simp [World.cell?, World.setCell, Array.getElem?_modify, hh, hl]
          · simp [World.cell?, World.setCell, Array.getElem?_modify, hh, hl]
        · simp [World.cell?, World.setCell, Array.getElem?_modify, hh, ho, Array.getElem?_setIfInBounds, Ne.symm ho]
      | _ => simp [World.cell?, World.setCell, Array.getElem?_modify, hh]
  · have : (w.setCell ⟨b, o, none⟩ v).cell? ⟨b', o', none⟩ = w.cell? ⟨b', o', none⟩ := World.cell?_of_block (Below.heap_setCell w ⟨b, o, none⟩ v b' hb)
    rw [this]; simp [hb]
theorem setCell_frozen (w : World) (b o b' o' : Nat) (v : Value) : (w.setCell ⟨b, o, none⟩ v).frozen? ⟨b', o', none⟩ = w.frozen? ⟨b', o', none⟩ := by
  by_cases hb : b' = b
  · subst hb
    cases hh : w.heap[b']? with
    | none => simp [World.frozen?, World.setCell, Array.getElem?_modify, hh]
    | some ob => cases ob <;> simp [World.frozen?, World.setCell, Array.getElem?_modify, hh]
  · exact World.frozen?_of_block (Below.heap_setCell w ⟨b, o, none⟩ v b' hb)
theorem Turned.set {lo : Nat} {w0 wr : World} (h : Turned lo w0 wr) {b o : Nat} (hb : lo ≤ b) (ho : o % 3 ≠ 2) (v : Value) : Turned lo w0 (wr.setCell ⟨b, o, none⟩ v) := by
  refine ⟨h.below.setCell hb _, by simpa [World.setCell] using h.same, fun b' o' => by rw [setCell_frozen]; exact h.free b' o', fun b' o' => ?_, fun b' o' ho' => ?_⟩
  · rw [setCell_cell]
    by_cases hc : b' = b ∧ o' = o ∧ (wr.cell? ⟨b, o, none⟩).isSome
    · rw [if_pos hc]
      obtain ⟨rfl, rfl, hs⟩ := hc
      rw [← h.there]
      simpa using hs.symm
    · rw [if_neg hc]; exact h.there b' o'
  · rw [setCell_cell, if_neg (by rintro ⟨_, rfl, _⟩; exact ho ho')]
    exact h.sub b' o' ho'
theorem Turned.has {lo : Nat} {w0 wr : World} (h : Turned lo w0 wr) {b o : Nat} {v : Value} (hv : w0.cell? ⟨b, o, none⟩ = some v) : ∃ u, wr.cell? ⟨b, o, none⟩ = some u := by
  have := h.there b o
  rw [hv] at this
  exact Option.isSome_iff_exists.1 (by simpa using this)
set_option maxRecDepth 100000 in
set_option maxHeartbeats 1600000 in
theorem itemApart_w (x : It) (c0 c1 c2 : Value) (w : World) (h : ItIn w w.heap.size x c0 c1 c2) :
    Calls Try.prog 3 #[.agg #[c0, c1, c2]] w fun e w' => e = .returned (.bool true) ∧ Below w.heap.size w w' := by
  have HI := Lib.hid h
  obtain ⟨A, cap, rfl, rfl, rfl, _⟩ := h.open_
  have HA := Lib.hid (itemAlive (w.alloc (.cells #[.string x.text, .bool x.list, .slice A x.sub.length cap] 24)))
  clear h
  go_enter Try.func3, Try.ntmps3
  go_wp2_with fail
  refine HA.out.mono ?_
  rintro e w1 ⟨rfl, hb1⟩
  have HBN := Lib.hid ((((Below.refl w.heap.size w).alloc (Nat.le_refl _) _)).trans (hb1.mono (by first | exact (((Below.refl w.heap.size w).alloc (Nat.le_refl _) _)).size | (simp only [World.size_alloc]; omega))))
  have HKN := Lib.hid (((Blk.new w _ _)).keep hb1 (by first | exact ((Blk.new w _ _)).lt | simp))
  have HB : Hid (Below w.heap.size w w1) := HBN
  have HK : Hid (Blk w1 w.heap.size 24 #[.string x.text, .bool x.list, .slice A x.sub.length cap]) := HKN
  clear HBN HKN hb1
  obtain ⟨g0, g1, g2, _, _, _⟩ := blk3 HK.out
  have HG := Lib.hid (great_c x w.heap.size w1 _ _ _ (HI.out.below HB.out) HB.out.size)
  cases hg : x.great with
  | true =>
    rw [hg] at HG
    go_wp2_with fail
    refine HG.out.mono ?_
    rintro e w2 ⟨rfl, hb2⟩
    have HB2 := Lib.hid (HB.out.trans (hb2.mono HB.out.size))
    clear hb2
    go_wp2
    go_ret
    exact ⟨rfl, HB2.out⟩
  | false =>
    rw [hg] at HG
    have hcnt := great_count x hg
    have hlen := great_show x hg
    clear hg
    go_wp2_with fail
    refine HG.out.mono ?_
    rintro e w2 ⟨rfl, hb2⟩
    have HBN := Lib.hid ((HB.out).trans (hb2.mono (by first | exact (HB.out).size | (simp only [World.size_alloc]; omega))))
    have HKN := Lib.hid ((HK.out).keep hb2 (by first | exact (HK.out).lt | simp))
    have HB : Hid (Below w.heap.size w w2) := HBN
    have HK : Hid (Blk w2 w.heap.size 24 #[.string x.text, .bool x.list, .slice A x.sub.length cap]) := HKN
    clear HBN HKN hb2
    obtain ⟨g0, g1, g2, _, _, _⟩ := blk3 HK.out
    have HM := Lib.hid (refMay_c x w.heap.size w2 _ _ _ (HI.out.below HB.out) HB.out.size (by omega))
    cases hm : x.may with
    | false =>
      rw [hm] at HM
      go_wp2_with fail
      refine HM.out.mono ?_
      rintro e w3 ⟨rfl, hb3⟩
      have HB2 := Lib.hid (HB.out.trans (hb3.mono HB.out.size))
      clear hb3
      go_wp2
      go_ret
      exact ⟨rfl, HB2.out⟩
    | true =>
      rw [hm] at HM
      go_wp2_with fail
      refine HM.out.mono ?_
      rintro e w3 ⟨rfl, hb3⟩
      have HBN := Lib.hid ((HB.out).trans (hb3.mono (by first | exact (HB.out).size | (simp only [World.size_alloc]; omega))))
      have HKN := Lib.hid ((HK.out).keep hb3 (by first | exact (HK.out).lt | simp))
      have HB : Hid (Below w.heap.size w w3) := HBN
      have HK : Hid (Blk w3 w.heap.size 24 #[.string x.text, .bool x.list, .slice A x.sub.length cap]) := HKN
      clear HBN HKN hb3
      obtain ⟨g0, g1, g2, _, _, _⟩ := blk3 HK.out
      have HW := Lib.hid (fun w' (hb : Below w.heap.size w w') => refShow_c x w.heap.size w' _ _ _ (HI.out.below hb) hb.size (by omega))
      obtain ⟨X, HX⟩ : ∃ X, Hid ((⟨x.show.toArray⟩ : ByteArray) = X) := ⟨_, Lib.hid rfl⟩
      rw [HX.out] at HW
      have q1 : (X.toList == X.toList) = true := by simp
      go_wp2_with fail
      refine (HW.out _ HB.out).mono ?_
      rintro e w4 ⟨rfl, hb4⟩
      have HBN := Lib.hid ((HB.out).trans (hb4.mono (by first | exact (HB.out).size | (simp only [World.size_alloc]; omega))))
      have HKN := Lib.hid ((HK.out).keep hb4 (by first | exact (HK.out).lt | simp))
      have HB : Hid (Below w.heap.size w w4) := HBN
      have HK : Hid (Blk w4 w.heap.size 24 #[.string x.text, .bool x.list, .slice A x.sub.length cap]) := HKN
      clear HBN HKN hb4
      obtain ⟨g0, g1, g2, _, _, _⟩ := blk3 HK.out
      have HC := Lib.hid (copy_c x w.heap.size w4 _ _ _ (HI.out.below HB.out) HB.out.size hm)
      clear hm
      go_wp2_with fail
      refine HC.out.mono ?_
      rintro e w5 ⟨⟨d2, rfl, hy⟩, hb5⟩
      have hz5 := hb5.size
      have hlo := HK.out.lt
      have HBN := Lib.hid ((HB.out).trans (hb5.mono (by first | exact (HB.out).size | (simp only [World.size_alloc]; omega))))
      have HKN := Lib.hid ((HK.out).keep hb5 (by first | exact (HK.out).lt | simp))
      have HB : Hid (Below w.heap.size w w5) := HBN
      have HK : Hid (Blk w5 w.heap.size 24 #[.string x.text, .bool x.list, .slice A x.sub.length cap]) := HKN
      clear HBN HKN hb5
      obtain ⟨g0, g1, g2, _, _, _⟩ := blk3 HK.out
      have HY := Lib.hid hy
      obtain ⟨BB, bcap, _, _, rfl, _, hbc1, hbc2, _⟩ := hy.open_
      have hlw : w.heap.size < w5.heap.size := HK.out.lt
      have hbl : Below w.heap.size w ((w5.alloc (.cells #[.string x.text, .bool x.list, .slice BB x.sub.length bcap] 24)).alloc (.cells #[.string x.text, .bool x.list, .slice A x.sub.length cap] 24)) := (HB.out.alloc HB.out.size _).alloc (by have := HB.out.size; simp; omega) _
      have hits : ItsIn ((w5.alloc (.cells #[.string x.text, .bool x.list, .slice BB x.sub.length bcap] 24)).alloc (.cells #[.string x.text, .bool x.list, .slice A x.sub.length cap] 24)) (w5.heap.size + 2) [x] (some ⟨w5.heap.size + 1, 0, none⟩) 0 :=
        ⟨⟨_, _, _, _, _, rfl, by omega, by simp, by simp, by simp, (HI.out.below hbl).mono (by omega)⟩, trivial⟩
      have HL := Lib.hid (list_own [x] _ _ 1 _ hits (by simp) (by simp))
      clear hy hits hbl
      go_wp2_with fail
      refine HL.out.mono ?_
      rintro e w6 ⟨⟨l2, rfl, hli, lcs, hlo2⟩, hb6⟩
      have hz6 := hb6.size
      simp only [World.size_alloc] at hz6
      obtain ⟨lg, lcap, lcur, rfl, hlg, hlblk, hlsz⟩ : ∃ lg lcap lcur, l2 = .slice (some ⟨lg, 0, none⟩) 1 lcap ∧ w5.heap.size ≤ lg ∧ Blk w6 lg 24 lcur ∧ 3 ≤ lcur.size ∧ 1 ≤ lcap ∧ lcap ≤ 9223372036854775807 := by
        rcases hlo2.2 with ⟨_, h2⟩ | ⟨g, c, cur, hv, hg, hh, hn, hm, hz, _⟩
        · simp at h2
        · simp only [World.size_alloc] at hg
          simp only [List.length_cons, List.length_nil] at hn
          exact ⟨g, c, cur, hv, by omega, hh, by omega, by omega, by simpa [maxLen] using hm⟩
      obtain ⟨hlsz, hlc1, hlc2⟩ := hlsz
      have hkx := ((HK.out.alloc _).alloc _).keep hb6 (by simp; omega)
      have hkc := ((Blk.new w5 24 #[.string x.text, .bool x.list, .slice BB x.sub.length bcap]).alloc _).keep hb6 (by simp; omega)
      have hyf : ItF (w6.alloc (.cells #[.string ⟨#[]⟩, .bool true, .slice (some ⟨lg, 0, none⟩) 1 lcap] 24)) w4.heap.size x (.string x.text) (.bool x.list) (.slice BB x.sub.length bcap) :=
        (((HY.out.below ((Below.refl _ _).alloc (Nat.le_refl _) _)).below ((Below.refl _ _).alloc (Nat.le_refl _) _)).below hb6).below ((Below.refl _ _).alloc (Nat.le_refl _) _)
      have hbw : Below w.heap.size w (w6.alloc (.cells #[.string ⟨#[]⟩, .bool true, .slice (some ⟨lg, 0, none⟩) 1 lcap] 24)) := (((HB.out.alloc HB.out.size _).alloc (by have := HB.out.size; simp; omega) _).trans (hb6.mono (by simp; omega))).alloc (by omega) _
      have HKX := Lib.hid (hkx.alloc (.cells #[.string ⟨#[]⟩, .bool true, .slice (some ⟨lg, 0, none⟩) 1 lcap] 24))
      have HKC := Lib.hid (hkc.alloc (.cells #[.string ⟨#[]⟩, .bool true, .slice (some ⟨lg, 0, none⟩) 1 lcap] 24))
      have HKL := Lib.hid (Blk.new w6 24 #[.string ⟨#[]⟩, .bool true, .slice (some ⟨lg, 0, none⟩) 1 lcap])
      have HKR := Lib.hid (hlblk.alloc (.cells #[.string ⟨#[]⟩, .bool true, .slice (some ⟨lg, 0, none⟩) 1 lcap] 24))
      have HYF := Lib.hid hyf
      have HBW := Lib.hid hbw
      have hx5 : x.sub.length ≤ 9223372036854775807 := by omega
      clear hli hlo2 hb6 hkx hkc hyf hbw hlblk g0 g1 g2 HA HG HM HC HY HL
      obtain ⟨W0, HW0⟩ : ∃ W0, Hid (w6.alloc (.cells #[.string ⟨#[]⟩, .bool true, .slice (some ⟨lg, 0, none⟩) 1 lcap] 24) = W0) := ⟨_, Lib.hid rfl⟩
      rw [HW0.out] at HKX HKC HKL HKR HYF HBW
      go_wp2_with fail
      rw [HW0.out]
      go_loopw [6, 7] (fun i _ wr => ∃ k : Nat, k ≤ x.sub.length ∧ i = .int .i64 k ∧ Turned w4.heap.size W0 wr) (fun i _ _ => x.sub.length - (intOf i).toNat)
      case atStart => exact ⟨0, by omega, rfl, Turned.refl _ _⟩
      case round =>
        obtain ⟨k, hk, rfl, hT⟩ := hrel
        have gc : wr.cell? ⟨w5.heap.size, 2, none⟩ = some (.slice BB x.sub.length bcap) := (hT.sub _ _ rfl).trans (HKC.out.cell 2)
        have HT := Lib.hid hT
        clear hT
        by_cases hlt : k < x.sub.length
        · obtain ⟨_, _, _, _, _, _, _, _, hsubs⟩ := HYF.out.open_
          obtain ⟨BB', bcap', _, _, hbb, _, _, _, hsubs⟩ := HYF.out.open_
          injection hbb with hbb1 _ hbb2
          subst hbb1; subst hbb2
          obtain ⟨b, d0, d1, d2, rfl, hbl, e0, e1, e2, hfz, hi⟩ := hsubs.at_ k hlt
          simp only [Nat.zero_add] at e0 e1 e2
          obtain ⟨CC, ccap, rfl, rfl, rfl, _, hcc1, hcc2, hsub2⟩ := hi.open_
          have HS2 := Lib.hid hsub2
          have E0 := Lib.hid e0
          have E1 := Lib.hid e1
          have E2 := Lib.hid e2
          have HFZ := Lib.hid hfz
          have ge : wr.cell? ⟨b, k * 3 + 2, none⟩ = some (.slice CC x.sub[k].sub.length ccap) := (HT.out.sub _ _ (by omega)).trans e2
          clear e0 e1 e2 hfz hi hsub2 hsubs
          generalize x.sub[k].sub = ss at *
          generalize x.sub[k].text = tt at *
          generalize x.sub[k].list = ll at *
          go_wp2_with fail
          go_loopw [7] (fun i wr => ∃ j : Nat, j ≤ ss.length ∧ i = .int .i64 j ∧ Turned w4.heap.size W0 wr) (fun i _ => ss.length - (intOf i).toNat)
          case atStart => exact ⟨0, by omega, rfl, HT.out⟩
          case round =>
            clear gc ge HT
            obtain ⟨j, hj, rfl, hT⟩ := hrel
            have gc : wr.cell? ⟨w5.heap.size, 2, none⟩ = some (.slice (some ⟨b, 0, none⟩) x.sub.length bcap) := (hT.sub _ _ rfl).trans (HKC.out.cell 2)
            have ge : wr.cell? ⟨b, k * 3 + 2, none⟩ = some (.slice CC ss.length ccap) := (hT.sub _ _ (by omega)).trans E2.out
            have HT := Lib.hid hT
            by_cases hjlt : j < ss.length
            · obtain ⟨b', f0, f1, f2, rfl, hbl', p0, _, _, hfz', _⟩ := HS2.out.at_ j hjlt
              simp only [Nat.zero_add] at p0
              obtain ⟨u, hu⟩ := hT.has p0
              have hf : wr.frozen? ⟨b', j * 3, none⟩ = false := (hT.free _ _).trans (hfz' _)
              clear p0 hfz' hT
              go_wp2
              go_roundw
              case rel => exact ⟨j + 1, by omega, by go_num, HT.out.set hbl' (by omega) _⟩
              case measure => simp [intOf]; omega
            · obtain ⟨u0, hu0⟩ := hT.has E0.out
              obtain ⟨u1, hu1⟩ := hT.has E1.out
              have hf0 : wr.frozen? ⟨b, k * 3, none⟩ = false := (hT.free _ _).trans (HFZ.out _)
              have hf1 : wr.frozen? ⟨b, k * 3 + 1, none⟩ = false := (hT.free _ _).trans (HFZ.out _)
              clear hT
              go_wp2
              go_roundw
              case rel => exact ⟨k + 1, by omega, by go_num, (HT.out.set hbl (by omega) _).set hbl (by omega) _⟩
              case measure => simp [intOf]; omega
        · have gl : wr.cell? ⟨w6.heap.size, 2, none⟩ = some (.slice (some ⟨lg, 0, none⟩) 1 lcap) := (HT.out.sub _ _ rfl).trans (HKL.out.cell 2)
          have k0 : ∃ v, W0.cell? ⟨lg, 0, none⟩ = some v := ⟨_, by rw [HKR.out.cell]; exact Array.getElem?_eq_getElem (by omega)⟩
          have k1 : ∃ v, W0.cell? ⟨lg, 1, none⟩ = some v := ⟨_, by rw [HKR.out.cell]; exact Array.getElem?_eq_getElem (by omega)⟩
          have k2 : ∃ v, W0.cell? ⟨lg, 2, none⟩ = some v := ⟨_, by rw [HKR.out.cell]; exact Array.getElem?_eq_getElem (by omega)⟩
          obtain ⟨v0, k0⟩ := k0
          obtain ⟨v1, k1⟩ := k1
          obtain ⟨v2, k2⟩ := k2
          obtain ⟨u0, hu0⟩ := HT.out.has k0
          obtain ⟨u1, hu1⟩ := HT.out.has k1
          obtain ⟨u2, hu2⟩ := HT.out.has k2
          have hf0 : wr.frozen? ⟨lg, 0, none⟩ = false := (HT.out.free _ _).trans (HKR.out.frozen _)
          have hf1 : wr.frozen? ⟨lg, 1, none⟩ = false := (HT.out.free _ _).trans (HKR.out.frozen _)
          have hf2 : wr.frozen? ⟨lg, 2, none⟩ = false := (HT.out.free _ _).trans (HKR.out.frozen _)
          obtain ⟨g0, g1, g2, _, _, _⟩ := blk3 (HKX.out.keep HT.out.below hlo)
          have hne : w.heap.size ≠ lg := by omega
          have HBF : Hid (Below w.heap.size w (((wr.setCell ⟨lg, 0, none⟩ (.string ⟨#[]⟩)).setCell ⟨lg, 1, none⟩ (.bool false)).setCell ⟨lg, 2, none⟩ (.slice none 0 0))) := Lib.hid ((((HBW.out.trans (HT.out.below.mono (by omega))).setCell (by simp; omega) _).setCell (by simp; omega) _).setCell (by simp; omega) _)
          clear k0 k1 k2
          go_wp2_with fail
          refine (HW.out _ HBF.out).mono ?_
          rintro e w9 ⟨rfl, hb9⟩
          have HB9 := Lib.hid (HBF.out.trans (hb9.mono HBF.out.size))
          clear hb9
          go_wp2
          go_ret
          exact ⟨rfl, HB9.out⟩
end Go.Proofs.Ytcidcjghglgkhaa
