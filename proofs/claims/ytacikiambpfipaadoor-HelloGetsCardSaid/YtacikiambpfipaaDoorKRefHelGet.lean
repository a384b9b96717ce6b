/- The document's Get of hellos. -/
import Derived.Test.YtacikiambpfipaaDoorKHelGet
import Derived.Test.YtacikiambpfipaaDoorKA12
import Derived.Test.YtacikiambpfipaaDoorKCapRMay
import Derived.Test.YtacikiambpfipaaDoorKA11
namespace Go.Proofs.YtacikiambpfipaaDoor
set_option linter.unusedVariables false
set_option linter.unusedSimpArgs false
open Go.RowKit

theorem capI_le {s : ByteArray} {a b c : It} (h0 : getE 16 1024 s = 0) (h : (getX 16 1024 s).sub = [a, b, c]) : c.sub.length ≤ 1024 := by
  have hm := ((capsE_zero _ _ _).1 (put_getE 16 1024 s h0).1).1
  have hc := ((may_parts _).1 hm).2.2
  generalize getX 16 1024 s = X at *
  obtain ⟨t, l, sb⟩ := X
  obtain ⟨t', l', s'⟩ := c
  have h : sb = _ := h
  subst h
  have := length_le_countL s'
  simp only [It.count, countL] at hc
  show s'.length ≤ 1024
  omega
set_option maxRecDepth 100000 in
set_option maxHeartbeats 8000000 in
theorem refHelGet_c (s : ByteArray) (w : World) (hs : s.size ≤ 4611686018427387904) :
    Calls Tryd.prog 36 #[.string s] w fun e w' => GhEnd w w' (hGetL s) (hGetM s) (hGetC s) (hGetE s) e := by
  obtain ⟨W0, hW0⟩ : ∃ W0, w.alloc (.cells #[.int .i64 0, .int .i64 0, .slice none 0 0] 63) = W0 := ⟨_, rfl⟩
  have hb0 : Below w.heap.size w W0 := by rw [← hW0]; exact (Below.refl _ w).alloc (Nat.le_refl _) _
  have hz0 : W0.heap.size = w.heap.size + 1 := by rw [← hW0]; simp
  have hk0 : Blk W0 w.heap.size 63 #[.int .i64 0, .int .i64 0, .slice none 0 0] := by rw [← hW0]; exact Blk.new _ _ _
  have HC := Lib.hid (refGet9_c s 16 1024 W0 hs)
  obtain ⟨E1, hE1⟩ : ∃ E, getE 16 1024 s = E := ⟨_, rfl⟩
  obtain ⟨X, hX⟩ : ∃ X, getX 16 1024 s = X := ⟨_, rfl⟩
  rw [hE1, hX] at HC
  have HE1 := Lib.hid hE1
  have HX := Lib.hid hX
  have HK0 := Lib.hid hk0
  have HB0 := Lib.hid hb0
  have HZ0 := Lib.hid hz0
  have HW0 := Lib.hid hW0
  clear hE1 hX hk0 hb0 hz0 hW0
  go_enter Tryd.func36, Tryd.ntmps36
  go_wp2_with fail
  rw [HW0.out]
  refine HC.out.mono ?_
  rintro e w1 ⟨hb1, c0, c1, c2, rfl, hy⟩
  obtain ⟨AX, kX, rfl, rfl, rfl, hfx⟩ := hy.open_
  obtain ⟨W2, hW2⟩ : ∃ W2, w1.alloc (.cells #[.string X.text, .bool X.list, .slice AX X.sub.length kX] 27) = W2 := ⟨_, rfl⟩
  obtain ⟨b2a, b2b, b2c⟩ := box3 hW2.symm
  have hz1 := hb1.size
  have hz0 := HZ0.out
  have HK2 := Lib.hid ((HK0.out.keep hb1 (by omega)).keep b2a (by omega))
  have HB2 : Hid (Below w.heap.size w W2) := Lib.hid (HB0.out.trans ((hb1.trans (b2a.mono hb1.size)).mono (by omega)))
  have HI2 := Lib.hid ((hy.below b2a).toIn)
  have HX2 := Lib.hid b2c
  have HZ2 : Hid (W2.heap.size = w1.heap.size + 1 ∧ w.heap.size + 1 ≤ w1.heap.size) := Lib.hid ⟨b2b, by omega⟩
  have HW2 := Lib.hid hW2
  obtain ⟨x0, x1, x2, xf0, xf1, xf2⟩ := blk3 b2c
  obtain ⟨p0, p1, p2, pf0, pf1, pf2⟩ := blk3 HK2.out
  clear hb1 hy hW2 b2a b2b b2c hz1 hz0
  go_upto_region 2 with fail
  rw [HW2.out]
  rcases beq0 E1 with ⟨he, k1, k2⟩ | ⟨he, k1, k2⟩
  case inr =>
    have HE : Hid (hGetE s = 3 ∧ hGetL s = 0 ∧ hGetM s = 0 ∧ hGetC s = []) := Lib.hid (hGet_bad (.inl (by rw [HE1.out]; exact he)))
    go_wp2
    obtain ⟨d0, d1, d2, _⟩ := blk3 (put3 HK2.out (.int .i64 0) (.int .i64 0) (.slice none 0 0))
    refine bodyPost_ret (v := .tuple #[.agg #[.int .i64 0, .int .i64 0, .slice none 0 0], .int .i64 3]) (by simp [results, Tryd.results36, go_sem, d0, d1, d2]) rfl ?_
    obtain ⟨z1, z2, z3, z4⟩ := HE.out
    rw [z1, z2, z3, z4]
    exact ⟨((HB2.out.setCell (by simp) _).setCell (by simp) _).setCell (by simp) _, _, rfl, CpR.nil _ _, (fun c hc => by cases hc), by simp⟩
  case inl =>
    subst he
    by_cases hn3 : X.sub.length = 3
    case neg =>
      have HE : Hid (hGetE s = 3 ∧ hGetL s = 0 ∧ hGetM s = 0 ∧ hGetC s = []) := Lib.hid (hGet_bad (.inr (.inl (by rw [HX.out]; exact hOk_len hn3))))
      obtain ⟨nX, hnX⟩ : ∃ nX, X.sub.length = nX := ⟨_, rfl⟩
      rw [hnX] at x2 hn3
      have hne : ¬ ((nX : Int) = 3) := by omega
      have hne2 : ((nX : Int) == 3) = false := by simpa using hne
      have hne3 : ((nX : Int) != 3) = true := by simpa using hne
      go_wp2
      obtain ⟨d0, d1, d2, _⟩ := blk3 (put3 HK2.out (.int .i64 0) (.int .i64 0) (.slice none 0 0))
      refine bodyPost_ret (v := .tuple #[.agg #[.int .i64 0, .int .i64 0, .slice none 0 0], .int .i64 3]) (by simp [results, Tryd.results36, go_sem, d0, d1, d2]) rfl ?_
      obtain ⟨z1, z2, z3, z4⟩ := HE.out
      rw [z1, z2, z3, z4]
      exact ⟨((HB2.out.setCell (by simp) _).setCell (by simp) _).setCell (by simp) _, _, rfl, CpR.nil _ _, (fun c hc => by cases hc), by simp⟩
    case pos =>
      obtain ⟨xa, xb, xc, hsub⟩ := three_of hn3
      have his : ItsIn W2 W2.heap.size [xa, xb, xc] AX 0 := by
        obtain ⟨t, l, sb⟩ := X
        have hsub : sb = _ := hsub
        subst hsub
        obtain ⟨_, _, _, _, A', k', h4, _, _, h7⟩ := HI2.out
        have h4 : Value.slice AX _ kX = _ := h4
        injection h4 with h4
        rw [h4]; exact h7
      have hcl := capI_le HE1.out (by rw [HX.out]; exact hsub)
      obtain ⟨g, o, Aa, ka, rfl, hg, u0, u1, u2, _, _, hta, _⟩ := his.cells3 0 (by simp)
      obtain ⟨g', o', Ab, kb, hA, _, u3, u4, u5, _, _, htb, _⟩ := his.cells3 1 (by simp)
      injection hA with hA
      injection hA with hg' ho'
      subst hg'; subst ho'
      obtain ⟨g', o', Ac, kc, hA, _, u6, u7, u8, hc1, hc2, _, hic⟩ := his.cells3 2 (by simp)
      injection hA with hA
      injection hA with hg' ho'
      subst hg'; subst ho'
      simp only [List.getElem_cons_zero, List.getElem_cons_succ, Nat.zero_mul, Nat.one_mul, Nat.add_zero] at u0 u1 u2 u3 u4 u5 u6 u7 u8 hta htb hc1 hic
      rw [hn3] at x2
      obtain ⟨cs, hcs⟩ : ∃ cs, xc.sub = cs := ⟨_, rfl⟩
      obtain ⟨na, hna⟩ : ∃ na, vNt xa.list xa.text = na := ⟨_, rfl⟩
      obtain ⟨nb, hnb⟩ : ∃ nb, vNt xb.list xb.text = nb := ⟨_, rfl⟩
      have HNE : Hid (xc.list = true → (∀ d ∈ cs, capBad d = false) → hOk X = true ∧ hL X = na ∧ hM X = nb ∧ hC X = cs.map cp1) := Lib.hid (fun h1 h2 => by rw [← hna, ← hnb, ← hcs]; exact hOk_yes hsub h1 (by rw [hcs]; exact h2))
      have HBL : Hid (xc.list = false → hGetE s = 3 ∧ hGetL s = 0 ∧ hGetM s = 0 ∧ hGetC s = []) := Lib.hid (fun h1 => hGet_bad (.inr (.inl (by rw [HX.out]; exact hOk_list hsub h1))))
      have HBC : Hid (∀ d ∈ cs, capBad d = true → hGetE s = 3 ∧ hGetL s = 0 ∧ hGetM s = 0 ∧ hGetC s = []) := Lib.hid (fun d hd h1 => hGet_bad (.inr (.inl (by rw [HX.out]; exact hOk_cap hsub (by rw [hcs]; exact hd) h1))))
      have HNA := Lib.hid (fun V => refVal_c xa.text xa.list (.slice Aa xa.sub.length ka) V hta ⟨_, _, _, rfl⟩)
      have HNB := Lib.hid (fun V => refVal_c xb.text xb.list (.slice Ab xb.sub.length kb) V htb ⟨_, _, _, rfl⟩)
      rw [hna] at HNA
      rw [hnb] at HNB
      rw [hcs] at hic u8 hcl hc1
      obtain ⟨ta, hta'⟩ : ∃ t, xa.text = t := ⟨_, rfl⟩
      obtain ⟨tb, htb'⟩ : ∃ t, xb.text = t := ⟨_, rfl⟩
      obtain ⟨la, hla'⟩ : ∃ t, xa.list = t := ⟨_, rfl⟩
      obtain ⟨lb, hlb'⟩ : ∃ t, xb.list = t := ⟨_, rfl⟩
      obtain ⟨ma, hma'⟩ : ∃ t, xa.sub.length = t := ⟨_, rfl⟩
      obtain ⟨mb, hmb'⟩ : ∃ t, xb.sub.length = t := ⟨_, rfl⟩
      obtain ⟨lc, hlc'⟩ : ∃ t, xc.list = t := ⟨_, rfl⟩
      rw [hta', hla', hma'] at HNA
      rw [htb', hlb', hmb'] at HNB
      rw [hta'] at u0
      rw [hla'] at u1
      rw [hma'] at u2
      rw [htb'] at u3
      rw [hlb'] at u4
      rw [hmb'] at u5
      rw [hlc'] at u7 HNE HBL
      obtain ⟨n2, hn2⟩ : ∃ n2, cs.length = n2 := ⟨_, rfl⟩
      rw [hn2] at u8 hcl hc1
      have HIC := Lib.hid hic
      have HN2 := Lib.hid hn2
      clear hsub his hna hnb hcs hta' htb' hla' hlb' hma' hmb' hlc' hta htb hic hn2 hn3
      cases lc with
      | false =>
        have HE := Lib.hid (HBL.out rfl)
        clear HBL HNA HNB HNE HBC u0 u1 u2 u3 u4 u5 u6 u8
        go_wp2
        obtain ⟨d0, d1, d2, _⟩ := blk3 (put3 HK2.out (.int .i64 0) (.int .i64 0) (.slice none 0 0))
        refine bodyPost_ret (v := .tuple #[.agg #[.int .i64 0, .int .i64 0, .slice none 0 0], .int .i64 3]) (by simp [results, Tryd.results36, go_sem, d0, d1, d2]) rfl ?_
        obtain ⟨z1, z2, z3, z4⟩ := HE.out
        rw [z1, z2, z3, z4]
        exact ⟨((HB2.out.setCell (by simp) _).setCell (by simp) _).setCell (by simp) _, _, rfl, CpR.nil _ _, (fun c hc => by cases hc), by simp⟩
      | true =>
        have HNG := Lib.hid (HNE.out rfl)
        clear HBL HNE
        have HNA0 : Hid (Calls Tryd.prog 95 #[.agg #[.string ta, .bool la, .slice Aa ma ka]] W2.drew fun e w' => e = .returned (.int .i64 na) ∧ Below W2.heap.size W2 w') := Lib.hid ((HNA.out _).mono fun e w' ⟨h1, h2⟩ => ⟨h1, (Below.refl _ W2).drew.trans h2⟩)
        have HNA1 : Hid (Calls Tryd.prog 95 #[.agg #[.string ta, .bool la, .slice Aa ma ka]] (W2.alloc (.cells #[.int .i64 0, .int .i64 0, .slice none 0 0] 63)).drew fun e w' => e = .returned (.int .i64 na) ∧ Below W2.heap.size W2 w' ∧ Blk w' W2.heap.size 63 #[.int .i64 0, .int .i64 0, .slice none 0 0]) := Lib.hid ((HNA.out _).mono fun e w' ⟨h1, h2⟩ => ⟨h1, (((Below.refl W2.heap.size W2).alloc (Nat.le_refl _) _).drew).trans (h2.mono (by simp)), ((Blk.new W2 _ _).drew).keep h2 (by simp)⟩)
        have HNBA : Hid (∀ V, Below W2.heap.size W2 V → Blk V W2.heap.size 63 #[.int .i64 0, .int .i64 0, .slice none 0 0] → Calls Tryd.prog 95 #[.agg #[.string tb, .bool lb, .slice Ab mb kb]] V fun e w' => e = .returned (.int .i64 nb) ∧ Below W2.heap.size W2 w' ∧ Blk w' W2.heap.size 63 #[.int .i64 0, .int .i64 0, .slice none 0 0]) := Lib.hid (fun V hV hz => (HNB.out V).mono fun e w' ⟨h1, h2⟩ => ⟨h1, hV.trans (h2.mono hV.size), hz.keep h2 hz.lt⟩)
        have HNBB : Hid (∀ V, Below W2.heap.size W2 V → Calls Tryd.prog 95 #[.agg #[.string tb, .bool lb, .slice Ab mb kb]] (V.alloc (.cells #[.int .i64 0, .int .i64 0, .slice none 0 0] 63)) fun e w' => e = .returned (.int .i64 nb) ∧ Below W2.heap.size W2 w' ∧ Blk w' V.heap.size 63 #[.int .i64 0, .int .i64 0, .slice none 0 0]) := Lib.hid (fun V hV => (HNB.out _).mono fun e w' ⟨h1, h2⟩ => ⟨h1, (hV.alloc hV.size _).trans (h2.mono (by have := hV.size; simp; omega)), (Blk.new V _ _).keep h2 (by simp)⟩)
        have HNB0 : Hid (∀ V, Below W2.heap.size W2 V → Calls Tryd.prog 95 #[.agg #[.string tb, .bool lb, .slice Ab mb kb]] V fun e w' => e = .returned (.int .i64 nb) ∧ Below W2.heap.size W2 w') := Lib.hid (fun V hV => (HNB.out V).mono fun e w' ⟨h1, h2⟩ => ⟨h1, hV.trans (h2.mono hV.size)⟩)
        clear HNA HNB
        have HKW : Hid (∀ V, Below W2.heap.size W2 V → V.cell? ⟨w1.heap.size, 2, none⟩ = some (.slice (some ⟨g, o, none⟩) 3 kX) ∧ V.cell? ⟨g, o, none⟩ = some (.string ta) ∧ V.cell? ⟨g, o + 1, none⟩ = some (.bool la) ∧ V.cell? ⟨g, o + 2, none⟩ = some (.slice Aa ma ka) ∧ V.cell? ⟨g, o + 3, none⟩ = some (.string tb) ∧ V.cell? ⟨g, o + 4, none⟩ = some (.bool lb) ∧ V.cell? ⟨g, o + 5, none⟩ = some (.slice Ab mb kb)) := Lib.hid (fun V hV => ⟨(hV.cell (by simp; have := HZ2.out; omega)).trans x2, (hV.cell (by simp; omega)).trans u0, (hV.cell (by simp; omega)).trans u1, (hV.cell (by simp; omega)).trans u2, (hV.cell (by simp; omega)).trans u3, (hV.cell (by simp; omega)).trans u4, (hV.cell (by simp; omega)).trans u5⟩)
        have HU8 := Lib.hid u8
        go_upto_region 4 with fail
        clear u0 u1 u2 u3 u4 u5 u6 u7 u8 x0 x1 x2 xf0 xf1 xf2 p0 p1 p2 pf0 pf1 pf2
        obtain ⟨x0, x1, x2, x3, x4, x5, x6⟩ := HKW.out W2 (Below.refl _ _)
        go_cut [6] (fun v wx => ∃ b6 : Nat, v = .pointer (some ⟨b6, 0, none⟩) ∧ Hid (W2.heap.size ≤ b6) ∧ Hid (Blk wx b6 63 #[.int .i64 na, .int .i64 nb, .slice none 0 0]) ∧ Hid (Below W2.heap.size W2 wx))
        case first =>
          go_wp2_with fail
          go_region_held3 (fun V => V.cell? ⟨w1.heap.size, 2, none⟩ = some (.slice (some ⟨g, o, none⟩) 3 kX) ∧ V.cell? ⟨g, o, none⟩ = some (.string ta) ∧ V.cell? ⟨g, o + 1, none⟩ = some (.bool la) ∧ V.cell? ⟨g, o + 2, none⟩ = some (.slice Aa ma ka) ∧ V.cell? ⟨g, o + 3, none⟩ = some (.string tb) ∧ V.cell? ⟨g, o + 4, none⟩ = some (.bool lb) ∧ V.cell? ⟨g, o + 5, none⟩ = some (.slice Ab mb kb))
            (first | exact HKW.out _ (Below.refl _ _) | exact HKW.out _ (Below.refl _ _).drew | exact HKW.out _ hv2 | exact HKW.out _ hv | exact HKW.out _ (((Below.refl _ _).alloc (Nat.le_refl _) _).drew) | exact HKW.out _ (((Below.refl _ _).drew).alloc (by simp) _) | exact HKW.out _ (hv.alloc hv.size _) | exact HKW.out _ (hv2.alloc hv2.size _) | exact HKW.out _ (((hv2.setCell (by first | (simp; done) | exact hv.size | (simp <;> omega)) _).setCell (by first | (simp; done) | exact hv.size | (simp <;> omega)) _).setCell (by first | (simp; done) | exact hv.size | (simp <;> omega)) _))
            (first
              | (go_at_call 95; ((with_reducible refine (HNBA.out w' hv hz).mono ?_); rintro e w2 ⟨rfl, hv2, hz2⟩; obtain ⟨z0, z1, z2, zf0, zf1, zf2⟩ := blk3 hz2))
              | (go_at_call 95; ((with_reducible refine (HNBB.out w' hv).mono ?_); rintro e w2 ⟨rfl, hv2, hz2⟩; obtain ⟨z0, z1, z2, zf0, zf1, zf2⟩ := blk3 hz2))
              | (go_at_call 95; ((with_reducible refine (HNB0.out w' hv).mono ?_); rintro e w2 ⟨rfl, hv2⟩))
              | (go_at_call 95; ((with_reducible refine HNA1.out.mono ?_); rintro e w' ⟨rfl, hv, hz⟩; obtain ⟨z0, z1, z2, zf0, zf1, zf2⟩ := blk3 hz))
              | (go_at_call 95; ((with_reducible refine HNA0.out.mono ?_); rintro e w' ⟨rfl, hv⟩)))
          all_goals
            go_wp2_with fail
            go_meet
            case rel =>
              first
                | exact ⟨_, rfl, Lib.hid hv2.size, Lib.hid (Blk.new _ _ _), Lib.hid (hv2.alloc hv2.size _)⟩
                | exact ⟨_, rfl, Lib.hid (by simp), Lib.hid (put3 hz2 _ _ _), Lib.hid (((hv2.setCell (by simp) _).setCell (by simp) _).setCell (by simp) _)⟩
                | exact ⟨_, rfl, Lib.hid hv.size, Lib.hid (put3 hz2 _ _ _), Lib.hid (((hv2.setCell hv.size _).setCell hv.size _).setCell hv.size _)⟩
        case rest =>
          obtain ⟨b6, rfl, HB6, HK6, HV6⟩ := hcut
          have hzc := HV6.out.size
          have hz2 := HZ2.out
          have HKC2 := Lib.hid (HK2.out.keep HV6.out HK2.out.lt)
          have HBC2 : Hid (Below w.heap.size w wc) := Lib.hid (HB2.out.trans (HV6.out.mono HB2.out.size))
          have HIT2 := Lib.hid (HIC.out.below HV6.out)
          have y2 := (HKW.out wc HV6.out).1
          have y8 : wc.cell? ⟨g, o + 6 + 2, none⟩ = some (.slice Ac n2 kc) := (HV6.out.cell (by simp; omega)).trans HU8.out
          have HZC : Hid (W2.heap.size ≤ wc.heap.size ∧ w.heap.size + 2 ≤ W2.heap.size ∧ W2.heap.size ≤ b6 ∧ b6 < wc.heap.size ∧ g < W2.heap.size ∧ w1.heap.size < W2.heap.size) := Lib.hid ⟨hzc, by omega, HB6.out, HK6.out.lt, hg, by omega⟩
          clear HKW x0 x1 x2 x3 x4 x5 x6 hzc hz2 HNA0 HNA1 HNBA HNBB HNB0 HU8 HIC
          obtain ⟨i0, hi, hzz0, hzz1, hzz2⟩ := info_parts info_rcap
          go_wp2_with fail
          go_loopw [7] (fun i wr => ∃ (k2 : Nat) (v7 : Value), k2 ≤ n2 ∧ i = .int .i64 k2 ∧ Hid (∀ d ∈ cs.take k2, capBad d = false) ∧ Hid (wr.ownsRow wc.heap.size 111 2 v7 k2 (cc ((cs.take k2).map cp1))) ∧ Hid (Blk wr b6 63 #[.int .i64 na, .int .i64 nb, v7]) ∧ Hid (Only [b6] wc wr)) (fun i _ => n2 - (intOf i).toNat)
          case atStart => exact ⟨0, _, by omega, rfl, Lib.hid (by simp), Lib.hid (World.ownsRow_nil _ _ _ _), HK6, Lib.hid (Only.refl _ _)⟩
          case round =>
            obtain ⟨k2, v7, hk2, rfl, HGD, HO, HKB, HON⟩ := hrel
            obtain ⟨A7, cap7, rfl, hc7, hm7, _⟩ := own_form' HO.out
            have hzr := HON.out.size
            have hzc := HZC.out
            have HKR := Lib.hid (HKC2.out.only HON.out (by simp; omega))
            have HBR : Hid (Below w.heap.size w wr) := Lib.hid (HBC2.out.trans (HON.out.below HBC2.out.size (by simp; omega)))
            have y2r : wr.cell? ⟨w1.heap.size, 2, none⟩ = some (.slice (some ⟨g, o, none⟩) 3 kX) := (HON.out.cell (by simp; omega) (by simp; omega)).trans y2
            have y8r : wr.cell? ⟨g, o + 6 + 2, none⟩ = some (.slice Ac n2 kc) := (HON.out.cell (by simp; omega) (by simp; omega)).trans y8
            by_cases hlt : k2 < n2
            · have hlt2 : k2 < cs.length := by have := HN2.out; omega
              have hmem := List.getElem_mem hlt2
              obtain ⟨g2, o2, Ak, k3, rfl, hg2, u0, u1, u2, hk31, hk32, _, hid⟩ := HIT2.out.cells3 k2 hlt2
              have htk := List.take_succ_eq_append_getElem hlt2
              obtain ⟨d, hd⟩ : ∃ d, cs[k2] = d := ⟨_, rfl⟩
              rw [hd] at u0 u1 u2 hid htk hmem hk31
              have hon : ∀ q : Addr, q.block < W2.heap.size → wr.cell? q = wc.cell? q := fun q hq => HON.out.cell (by omega) (by simp; omega)
              have v0 := (hon _ hg2).trans u0
              have v1 := (hon _ hg2).trans u1
              have v2 := (hon _ hg2).trans u2
              obtain ⟨td, htd⟩ : ∃ t, d.text = t := ⟨_, rfl⟩
              obtain ⟨ld, hld⟩ : ∃ t, d.list = t := ⟨_, rfl⟩
              obtain ⟨md, hmd⟩ : ∃ t, d.sub.length = t := ⟨_, rfl⟩
              rw [htd] at v0
              rw [hld] at v1
              rw [hmd] at v2 hk31
              obtain ⟨W8, hW8⟩ : ∃ W8, wr.alloc (.cells #[.string td, .bool ld, .slice Ak md k3] 27) = W8 := ⟨_, rfl⟩
              have hb8 : Below wr.heap.size wr W8 := by rw [← hW8]; exact (Below.refl _ wr).alloc (Nat.le_refl _) _
              have hz8 : W8.heap.size = wr.heap.size + 1 := by rw [← hW8]; simp
              have hk8 : Blk W8 wr.heap.size 27 #[.string td, .bool ld, .slice Ak md k3] := by rw [← hW8]; exact Blk.new _ _ _
              have HKR8 := Lib.hid (HKR.out.keep hb8 HKR.out.lt)
              have HBR8 : Hid (Below w.heap.size w W8) := Lib.hid (HBR.out.trans (hb8.mono HBR.out.size))
              have HW8 := Lib.hid hW8
              have j0 : (k2 : Int) < (n2 : Int) := by omega
              have j1 : (0 : Int) ≤ (k2 : Int) := by omega
              obtain ⟨x0, x1, x2, xf0, xf1, xf2⟩ := blk3 hk8
              obtain ⟨p0, p1, p2, pf0, pf1, pf2⟩ := blk3 HKR8.out
              by_cases hm2 : md = 2
              case neg =>
                have HE := Lib.hid (HBC.out d hmem (capBad_len (by rw [hmd]; exact hm2)))
                have hne : ¬ ((md : Int) = 2) := by omega
                have hne2 : ((md : Int) == 2) = false := by simpa using hne
                have hne3 : ((md : Int) != 2) = true := by simpa using hne
                clear hmem hid htk hd hon u0 u1 u2 hmd htd hld hW8 hb8 hz8 hzc hzr hk8
                go_upto_region 9 with fail
                rw [HW8.out]
                go_wp2
                obtain ⟨d0, d1, d2, _⟩ := blk3 (put3 HKR8.out (.int .i64 0) (.int .i64 0) (.slice none 0 0))
                refine bodyPost_ret (v := .tuple #[.agg #[.int .i64 0, .int .i64 0, .slice none 0 0], .int .i64 3]) (by simp [results, Tryd.results36, go_sem, d0, d1, d2]) rfl ?_
                obtain ⟨z1, z2, z3, z4⟩ := HE.out
                rw [z1, z2, z3, z4]
                exact ⟨((HBR8.out.setCell (by simp) _).setCell (by simp) _).setCell (by simp) _, _, rfl, CpR.nil _ _, (fun c hc => by cases hc), by simp⟩
              case pos =>
                subst hm2
                obtain ⟨ea, eb, hsb⟩ := two_of hmd
                rw [hsb] at hid
                obtain ⟨g3, o3, An, kn, rfl, hg3, m0, m1, m2, _, _, _, _⟩ := hid.cells3 0 (by simp)
                obtain ⟨g3', o3', Av, kv, hA, _, m3, m4, m5, _, _, htv, _⟩ := hid.cells3 1 (by simp)
                injection hA with hA
                injection hA with hg' ho'
                subst hg'; subst ho'
                simp only [List.getElem_cons_zero, List.getElem_cons_succ, Nat.zero_mul, Nat.one_mul, Nat.add_zero] at m0 m1 m2 m3 m4 m5 htv
                have hc3 : ∀ i, W8.cell? ⟨g3, i, none⟩ = wc.cell? ⟨g3, i, none⟩ := fun i => (hb8.cell (by simp; omega)).trans (hon _ hg3)
                have f1 := (hc3 _).trans m1
                cases hel : ea.list with
                | true =>
                  rw [hel] at f1
                  have HE := Lib.hid (HBC.out d hmem (capBad_list hsb hel))
                  clear hmem hid htk hd hon u0 u1 u2 hmd htd hld hW8 hb8 hz8 hzc hzr hk8 m0 m1 m2 m3 m4 m5 hc3 hel hsb
                  go_upto_region 9 with fail
                  rw [HW8.out]
                  go_wp2
                  obtain ⟨d0, d1, d2, _⟩ := blk3 (put3 HKR8.out (.int .i64 0) (.int .i64 0) (.slice none 0 0))
                  refine bodyPost_ret (v := .tuple #[.agg #[.int .i64 0, .int .i64 0, .slice none 0 0], .int .i64 3]) (by simp [results, Tryd.results36, go_sem, d0, d1, d2]) rfl ?_
                  obtain ⟨z1, z2, z3, z4⟩ := HE.out
                  rw [z1, z2, z3, z4]
                  exact ⟨((HBR8.out.setCell (by simp) _).setCell (by simp) _).setCell (by simp) _, _, rfl, CpR.nil _ _, (fun c hc => by cases hc), by simp⟩
                | false =>
                  rw [hel] at f1
                  obtain ⟨hgood, hcp⟩ := capBad_ok hsb hel
                  obtain ⟨tn, htn⟩ : ∃ t, ea.text = t := ⟨_, rfl⟩
                  obtain ⟨tv, htv'⟩ : ∃ t, eb.text = t := ⟨_, rfl⟩
                  obtain ⟨lv, hlv⟩ : ∃ t, eb.list = t := ⟨_, rfl⟩
                  obtain ⟨mv, hmv⟩ : ∃ t, eb.sub.length = t := ⟨_, rfl⟩
                  rw [htn] at m0 hcp
                  rw [htv'] at m3 htv hcp
                  rw [hlv] at m4 hcp
                  rw [hmv] at m5
                  have hown : ∀ j, (Value.slice A7 k2 cap7).ownBlock = some j → wc.heap.size ≤ j ∧ j < wr.heap.size := fun j hj => own_in HO.out hj
                  have HOW := Lib.hid hown
                  have HKS : Hid (∀ (L : List Nat) V, Only L W8 V → (∀ j ∈ L, wc.heap.size ≤ j ∧ j < wr.heap.size) → V.cell? ⟨b6, 2, none⟩ = some (.slice A7 k2 cap7) ∧ V.frozen? ⟨b6, 2, none⟩ = false ∧ V.cell? ⟨wr.heap.size, 2, none⟩ = some (.slice (some ⟨g3, o3, none⟩) 2 k3) ∧ V.cell? ⟨g3, o3, none⟩ = some (.string tn) ∧ V.cell? ⟨g3, o3 + 3, none⟩ = some (.string tv) ∧ V.cell? ⟨g3, o3 + 4, none⟩ = some (.bool lv) ∧ V.cell? ⟨g3, o3 + 5, none⟩ = some (.slice Av mv kv)) := Lib.hid (fun L V hV hL => by
                    have n1 : b6 ∉ L := fun hb => by have := hL _ hb; omega
                    have n2' : wr.heap.size ∉ L := fun hb => by have := hL _ hb; omega
                    have n3 : g3 ∉ L := fun hb => by have := hL _ hb; omega
                    have hkb := (HKB.out.keep hb8 (by omega)).only hV n1
                    have hkk := hk8.only hV n2'
                    obtain ⟨p0, p1, p2, pf0, pf1, pf2⟩ := blk3 hkb
                    obtain ⟨q0, q1, q2, _⟩ := blk3 hkk
                    have hc4 : ∀ i, V.cell? ⟨g3, i, none⟩ = wc.cell? ⟨g3, i, none⟩ := fun i => (hV.cell (by simp; omega) n3).trans (hc3 i)
                    exact ⟨p2, pf2, q2, (hc4 _).trans m0, (hc4 _).trans m3, (hc4 _).trans m4, (hc4 _).trans m5⟩)
                  have HTK : Hid ((cs.take (k2 + 1)).map cp1 = (cs.take k2).map cp1 ++ [(tn, vNt lv tv)]) := Lib.hid (by rw [htk, List.map_append, List.map_cons, List.map_nil, hcp])
                  have HGD1 : Hid (∀ x ∈ cs.take (k2 + 1), capBad x = false) := Lib.hid (by
                    rw [htk]
                    intro x hx
                    rcases List.mem_append.1 hx with h1 | h1
                    · exact HGD.out x h1
                    · rw [List.mem_singleton.1 h1]; exact hgood)
                  obtain ⟨nv, hnv⟩ : ∃ nv, vNt lv tv = nv := ⟨_, rfl⟩
                  rw [hnv] at HTK
                  have HNV := Lib.hid (fun V => refVal_c tv lv (.slice Av mv kv) V htv ⟨_, _, _, rfl⟩)
                  rw [hnv] at HNV
                  have HO8 := Lib.hid (HO.out.alloc (.cells #[.string td, .bool ld, .slice (some ⟨g3, o3, none⟩) 2 k3] 27))
                  rw [hW8] at HO8
                  have HON8 : Hid (Only [b6] wc W8) := Lib.hid (by rw [← hW8]; exact HON.out.alloc _)
                  have HKB8 := Lib.hid (HKB.out.keep hb8 (by omega))
                  have HZ8 : Hid (W8.heap.size = wr.heap.size + 1 ∧ wc.heap.size ≤ wr.heap.size) := Lib.hid ⟨hz8, hzr⟩
                  clear hmem hid htk hd hon u0 u1 u2 hmd htd hld hW8 hb8 hz8 hzc hzr hk8 m1 m2 m0 m3 m4 m5 hc3 hel hsb hcp hgood htn htv' hlv hmv htv hnv hown
                  go_upto_region 9 with fail
                  rw [HW8.out]
                  go_wp2_with fail
                  refine wp_region_last 16 (fun V => V.cell? ⟨b6, 2, none⟩ = some (.slice A7 k2 cap7) ∧ V.frozen? ⟨b6, 2, none⟩ = false ∧ V.cell? ⟨wr.heap.size, 2, none⟩ = some (.slice (some ⟨g3, o3, none⟩) 2 k3) ∧ V.cell? ⟨g3, o3, none⟩ = some (.string tn) ∧ V.cell? ⟨g3, o3 + 3, none⟩ = some (.string tv) ∧ V.cell? ⟨g3, o3 + 4, none⟩ = some (.bool lv) ∧ V.cell? ⟨g3, o3 + 5, none⟩ = some (.slice Av mv kv)) (by kernel_rfl) (by kernel_rfl) ?_
                  have hHeld := HKS.out [] W8.drew (Only.refl _ _).drew (by simp)
                  refine GT.take (i := 0) (v := ?_) (by simp only [List.getElem?_toArray, List.getElem?_cons_zero, List.getElem?_cons_succ]; rfl) (by kernel_rfl) (by kernel_rfl) (by kernel_rfl) (by kernel_rfl) (by intro _ _ _ h; exact h) (Or.inl ⟨by rfl, ?_⟩) hHeld ?_
                  rotate_left
                  · intro V hV
                    (try dsimp only at hV)
                    (first | (go_simp; done) | (go_simp; with_reducible rfl))
                  try simp only [Act.put, List.setIfInBounds_toArray, List.set_cons_zero, List.set_cons_succ]
                  refine GT.take (i := 1) (v := ?_) (by simp only [List.getElem?_toArray, List.getElem?_cons_zero, List.getElem?_cons_succ]; rfl) (by kernel_rfl) (by kernel_rfl) (by kernel_rfl) (by kernel_rfl) (by intro _ _ _ h; exact h) (Or.inl ⟨by rfl, ?_⟩) hHeld ?_
                  rotate_left
                  · intro V hV
                    (try dsimp only at hV)
                    (first | (go_simp; done) | (go_simp; with_reducible rfl))
                  try simp only [Act.put, List.setIfInBounds_toArray, List.set_cons_zero, List.set_cons_succ]
                  refine GT.take (i := 2) (v := ?_) (by simp only [List.getElem?_toArray, List.getElem?_cons_zero, List.getElem?_cons_succ]; rfl) (by kernel_rfl) (by kernel_rfl) (by kernel_rfl) (by kernel_rfl) (by intro _ _ _ h; exact h) (Or.inl ⟨by rfl, ?_⟩) hHeld ?_
                  rotate_left
                  · intro V hV
                    (try dsimp only at hV)
                    (first | (go_simp; done) | (go_simp; with_reducible rfl))
                  try simp only [Act.put, List.setIfInBounds_toArray, List.set_cons_zero, List.set_cons_succ]
                  refine GT.take (i := 3) (v := ?_) (by simp only [List.getElem?_toArray, List.getElem?_cons_zero, List.getElem?_cons_succ]; rfl) (by kernel_rfl) (by kernel_rfl) (by kernel_rfl) (by kernel_rfl) (by intro _ _ _ h; exact h) (Or.inl ⟨by rfl, ?_⟩) hHeld ?_
                  rotate_left
                  · intro V hV
                    (try dsimp only at hV)
                    (first | (go_simp; done) | (go_simp; with_reducible rfl))
                  try simp only [Act.put, List.setIfInBounds_toArray, List.set_cons_zero, List.set_cons_succ]
                  refine GT.take (i := 4) (v := ?_) (by simp only [List.getElem?_toArray, List.getElem?_cons_zero, List.getElem?_cons_succ]; rfl) (by kernel_rfl) (by kernel_rfl) (by kernel_rfl) (by kernel_rfl) (by intro _ _ _ h; exact h) (Or.inl ⟨by rfl, ?_⟩) hHeld ?_
                  rotate_left
                  · intro V hV
                    (try dsimp only at hV)
                    (first | (go_simp; done) | (go_simp; with_reducible rfl))
                  try simp only [Act.put, List.setIfInBounds_toArray, List.set_cons_zero, List.set_cons_succ]
                  refine GT.take (i := 5) (v := ?_) (by simp only [List.getElem?_toArray, List.getElem?_cons_zero, List.getElem?_cons_succ]; rfl) (by kernel_rfl) (by kernel_rfl) (by kernel_rfl) (by kernel_rfl) (by intro _ _ _ h; exact h) (Or.inl ⟨by rfl, ?_⟩) hHeld ?_
                  rotate_left
                  · intro V hV
                    (try dsimp only at hV)
                    (first | (go_simp; done) | (go_simp; with_reducible rfl))
                  try simp only [Act.put, List.setIfInBounds_toArray, List.set_cons_zero, List.set_cons_succ]
                  refine GT.take (i := 6) (v := ?_) (by simp only [List.getElem?_toArray, List.getElem?_cons_zero, List.getElem?_cons_succ]; rfl) (by kernel_rfl) (by kernel_rfl) (by kernel_rfl) (by kernel_rfl) (by intro _ _ _ h; exact h) (Or.inl ⟨by rfl, ?_⟩) hHeld ?_
                  rotate_left
                  · intro V hV
                    (try dsimp only at hV)
                    (first | (go_simp; done) | (go_simp; with_reducible rfl))
                  try simp only [Act.put, List.setIfInBounds_toArray, List.set_cons_zero, List.set_cons_succ]
                  refine GT.take (i := 7) (v := ?_) (by simp only [List.getElem?_toArray, List.getElem?_cons_zero, List.getElem?_cons_succ]; rfl) (by kernel_rfl) (by kernel_rfl) (by kernel_rfl) (by kernel_rfl) (by intro _ _ _ h; exact h) (Or.inl ⟨by rfl, ?_⟩) hHeld ?_
                  rotate_left
                  · intro V hV
                    (try dsimp only at hV)
                    (first | (go_simp; done) | (go_simp; with_reducible rfl))
                  try simp only [Act.put, List.setIfInBounds_toArray, List.set_cons_zero, List.set_cons_succ]
                  refine GT.take (i := 8) (v := ?_) (by simp only [List.getElem?_toArray, List.getElem?_cons_zero, List.getElem?_cons_succ]; rfl) (by kernel_rfl) (by kernel_rfl) (by kernel_rfl) (by kernel_rfl) (by intro _ _ _ h; exact h) (Or.inl ⟨by rfl, ?_⟩) hHeld ?_
                  rotate_left
                  · intro V hV
                    (try dsimp only at hV)
                    (first | (go_simp; done) | (go_simp; with_reducible rfl))
                  try simp only [Act.put, List.setIfInBounds_toArray, List.set_cons_zero, List.set_cons_succ]
                  refine GT.take (i := 9) (v := ?_) (by simp only [List.getElem?_toArray, List.getElem?_cons_zero, List.getElem?_cons_succ]; rfl) (by kernel_rfl) (by kernel_rfl) (by kernel_rfl) (by kernel_rfl) (by intro _ _ _ h; exact h) (Or.inl ⟨by rfl, ?_⟩) hHeld ?_
                  rotate_left
                  · intro V hV
                    (try dsimp only at hV)
                    (first | (go_simp; done) | (go_simp; with_reducible rfl))
                  try simp only [Act.put, List.setIfInBounds_toArray, List.set_cons_zero, List.set_cons_succ]
                  refine GT.take (i := 10) (v := ?_) (by simp only [List.getElem?_toArray, List.getElem?_cons_zero, List.getElem?_cons_succ]; rfl) (by kernel_rfl) (by kernel_rfl) (by kernel_rfl) (by kernel_rfl) (by intro _ _ _ h; exact h) (Or.inl ⟨by rfl, ?_⟩) hHeld ?_
                  rotate_left
                  · intro V hV
                    (try dsimp only at hV)
                    (first | (go_simp; done) | (go_simp; with_reducible rfl))
                  try simp only [Act.put, List.setIfInBounds_toArray, List.set_cons_zero, List.set_cons_succ]
                  refine GT.step (i := 11) (by simp only [List.getElem?_toArray, List.getElem?_cons_zero, List.getElem?_cons_succ]; rfl) (by kernel_rfl) (by kernel_rfl) (fun K hK => ?_)
                  go_simp
                  go_at_call 95
                  refine (HNV.out _).mono ?_
                  rintro e wv ⟨rfl, hv⟩
                  have hvz := hv.size
                  have ho1 : Only [] W8 wv := (Only.refl [] W8).drew.trans (Only.of_below hv (by simp))
                  have hows := own_below (HO8.out.drew) hv (by simp)
                  go_wp2_with fail
                  refine hK.out _ _ (HKS.out [] wv ho1 (by simp)) (fun hHeld => ?_)
                  clear hK K
                  try simp only [Act.put, List.setIfInBounds_toArray, List.set_cons_zero, List.set_cons_succ]
                  refine GT.take (i := 12) (v := ?_) (by simp only [List.getElem?_toArray, List.getElem?_cons_zero, List.getElem?_cons_succ]; rfl) (by kernel_rfl) (by kernel_rfl) (by kernel_rfl) (by kernel_rfl) (by intro _ _ _ h; exact h) (Or.inl ⟨by rfl, ?_⟩) hHeld ?_
                  rotate_left
                  · intro V hV
                    (try dsimp only at hV)
                    (first | (go_simp; done) | (go_simp; with_reducible rfl))
                  try simp only [Act.put, List.setIfInBounds_toArray, List.set_cons_zero, List.set_cons_succ]
                  refine GT.step (i := 13) (by simp only [List.getElem?_toArray, List.getElem?_cons_zero, List.getElem?_cons_succ]; rfl) (by kernel_rfl) (by kernel_rfl) (fun K hK => ?_)
                  go_simp
                  refine hK.out _ _ (HKS.out [] _ (ho1.alloc _) (by simp)) (fun hHeld => ?_)
                  clear hK K
                  try simp only [Act.put, List.setIfInBounds_toArray, List.set_cons_zero, List.set_cons_succ]
                  refine GT.step (i := 14) (by simp only [List.getElem?_toArray, List.getElem?_cons_zero, List.getElem?_cons_succ]; rfl) (by kernel_rfl) (by kernel_rfl) (fun K hK => ?_)
                  refine step_append_lies _ (by rfl) (.tmp 73) (.tmp 85) 61 (by rfl) wc.heap.size 111 i0 _ 2 24 Tryd.underlying61 hi hzz0 hzz1 hzz2 (by rfl) (by decide) _ k2 (cc ((cs.take k2).map cp1)) (by rfl) (hows.alloc _) ⟨wv.heap.size, 0, none⟩ 1 1 [.string tn, .int .i64 nv] (by rfl) (by rfl) (World.news_of_block (heap_alloc_new wv (.cells #[.string tn, .int .i64 nv] 111))) (by simp [Value.oneCell']) (by omega) (by simp only [maxLen]; omega) (by omega) (by have := HZ8.out; simp at hvz ⊢; omega) _ rfl ?_
                  intro g1 cap1 w9 hown1 hgrow1 hat1 hlt1
                  have ho9 : Only [b6] wc w9 := ((HON8.out.trans (ho1.mono (by simp))).alloc _).grown hgrow1 (fun j hj => .inr (HOW.out j hj).1)
                  have ho98 := ((ho1.alloc (.cells #[.string tn, .int .i64 nv] 111)).mono (by simp)).trans (Only.of_grown hgrow1)
                  refine hK.out _ _ (HKS.out _ _ ho98 (fun j hj => HOW.out j (by simpa using hj))) (fun hHeld => ?_)
                  clear hK K
                  try simp only [Act.put, List.setIfInBounds_toArray, List.set_cons_zero, List.set_cons_succ]
                  refine GT.take (i := 15) (v := ?_) (by simp only [List.getElem?_toArray, List.getElem?_cons_zero, List.getElem?_cons_succ]; rfl) (by kernel_rfl) (by kernel_rfl) (by kernel_rfl) (by kernel_rfl) (by intro _ _ _ h; exact h) (Or.inl ⟨by rfl, ?_⟩) hHeld ?_
                  rotate_left
                  · intro V hV
                    (try dsimp only at hV)
                    (first | (go_simp; done) | (go_simp; with_reducible rfl))
                  try simp only [Act.put, List.setIfInBounds_toArray, List.set_cons_zero, List.set_cons_succ]
                  refine GT.last (i := 16) (by simp only [List.getElem?_toArray, List.getElem?_cons_zero, List.getElem?_cons_succ]; rfl) (by kernel_rfl) (by kernel_rfl) (by kernel_rfl) ?_
                  obtain ⟨z0, z1, z2, z3, z4, z5, z6⟩ := hHeld
                  go_simp
                  have HO9 := Lib.hid hown1
                  have HON9 := Lib.hid ho9
                  have HKB9 := Lib.hid (HKB8.out.only ho98 (fun hb => by have := HOW.out _ (by simpa using hb); have := HZC.out; omega))
                  clear hown1 hgrow1 hat1 hlt1 ho98 ho9 hows ho1 hv hvz hg3
                  go_wp2
                  go_roundw
                  case rel => exact ⟨k2 + 1, .slice (some ⟨g1, 0, none⟩) (k2 + 1) cap1, by omega, by go_num, HGD1, Lib.hid (by rw [HTK.out, cc_append, cc_one]; exact own_block HO9.out fun j hj _ => Below.heap_setCell _ _ _ j (by have := HZC.out; simp; omega)), Lib.hid (HKB9.out.set 2 _), Lib.hid (HON9.out.setCell (by simp) _)⟩
                  case measure => simp [intOf]; omega
            · obtain rfl : k2 = n2 := by omega
              have htk : cs.take k2 = cs := List.take_of_length_le (by have := HN2.out; omega)
              rw [htk] at HGD HO
              obtain ⟨hok, e1, e2, e3⟩ := HNG.out HGD.out
              have hlen : (cs.map cp1).length = k2 := by rw [List.length_map]; exact HN2.out
              have HNM : Hid (NmOk (cs.map cp1)) := Lib.hid (caps_nm HIT2.out HGD.out)
              obtain ⟨Y, hY⟩ : ∃ Y, cs.map cp1 = Y := ⟨_, rfl⟩
              rw [hY] at HO hlen HNM e3
              have HOF : Hid (wr.ownsRow wc.heap.size 111 2 (.slice A7 k2 cap7) Y.length (cc Y)) := Lib.hid (by rw [hlen]; exact HO.out)
              have HZW : Hid (w.heap.size < wc.heap.size) := Lib.hid (by omega)
              have HCP : Hid (CpR wr wr.heap.size (.slice A7 k2 cap7) Y) := Lib.hid (CpR.of_own HOF.out)
              have HMY := Lib.hid (refMay32_c na nb Y (.slice A7 k2 cap7) wr.heap.size wr HCP.out (Nat.le_refl _) HNM.out (by omega))
              obtain ⟨q0, q1, q2, _⟩ := blk3 HKB.out
              have HZR : Hid (b6 < wr.heap.size ∧ w.heap.size + 2 ≤ b6) := Lib.hid (by omega)
              cases hmb : helB na nb Y with
              | false =>
                rw [hmb] at HMY
                have HE := Lib.hid (hGet_bad (s := s) (.inr (.inr (by rw [HX.out, e1, e2, e3]; exact hmb))))
                clear htk hlen hok hmb e1 e2 e3 hY hzc hzr
                go_wp2_with fail
                refine HMY.out.mono ?_
                rintro e w5 ⟨rfl, hb5⟩
                have hkk := HKR.out.keep hb5 HKR.out.lt
                obtain ⟨p0, p1, p2, pf0, pf1, pf2⟩ := blk3 hkk
                have HKK := Lib.hid hkk
                have HB5 := Lib.hid (HBR.out.trans (hb5.mono HBR.out.size))
                clear hb5 hkk
                go_wp2
                obtain ⟨d0, d1, d2, _⟩ := blk3 (put3 HKK.out (.int .i64 0) (.int .i64 0) (.slice none 0 0))
                refine bodyPost_ret (v := .tuple #[.agg #[.int .i64 0, .int .i64 0, .slice none 0 0], .int .i64 3]) (by simp [results, Tryd.results36, go_sem, d0, d1, d2]) rfl ?_
                obtain ⟨z1, z2, z3, z4⟩ := HE.out
                rw [z1, z2, z3, z4]
                exact ⟨((HB5.out.setCell (by simp) _).setCell (by simp) _).setCell (by simp) _, _, rfl, CpR.nil _ _, (fun c hc => by cases hc), by simp⟩
              | true =>
                rw [hmb] at HMY
                have HL16 : Hid (Y.length ≤ 1000) := Lib.hid (by have := (helB_parts hmb).2.2.2.1; omega)
                have HE : Hid (hGetE s = 0 ∧ hGetL s = na ∧ hGetM s = nb ∧ hGetC s = Y) := Lib.hid (by
                  have := hGet_ok (s := s) HE1.out (by rw [HX.out]; exact hok) (by rw [HX.out, e1, e2, e3]; exact hmb)
                  rw [HX.out, e1, e2, e3] at this
                  exact this)
                clear htk hlen hok hmb e1 e2 e3 hY hzc hzr
                go_wp2_with fail
                refine HMY.out.mono ?_
                rintro e w5 ⟨rfl, hb5⟩
                have hkk := HKR.out.keep hb5 HKR.out.lt
                obtain ⟨p0, p1, p2, pf0, pf1, pf2⟩ := blk3 hkk
                obtain ⟨q0, q1, q2, _⟩ := blk3 (HKB.out.keep hb5 HZR.out.1)
                have HKK := Lib.hid hkk
                have HB5 := Lib.hid (HBR.out.trans (hb5.mono HBR.out.size))
                have hcl5 : w.heap.size < wr.heap.size := by have := HZR.out; omega
                have HBW := Lib.hid hb5
                clear hb5 hkk
                go_wp2
                obtain ⟨d0, d1, d2, _⟩ := blk3 (put3 HKK.out (.int .i64 na) (.int .i64 nb) (.slice A7 k2 cap7))
                refine bodyPost_ret (v := .tuple #[.agg #[.int .i64 na, .int .i64 nb, .slice A7 k2 cap7], .int .i64 0]) (by simp [results, Tryd.results36, go_sem, d0, d1, d2]) rfl ?_
                obtain ⟨z1, z2, z3, z4⟩ := HE.out
                rw [z1, z2, z3, z4]
                refine ⟨((HB5.out.setCell (by simp) _).setCell (by simp) _).setCell (by simp) _, _, rfl, ?_, HNM.out, HL16.out⟩
                have h5 := own_below HOF.out HBW.out (Nat.le_refl _)
                have hzw := HZW.out
                exact CpR.of_own (own_block (own_block (own_block h5 (fun j hj _ => Below.heap_setCell _ _ _ j (by simp; omega))) (fun j hj _ => Below.heap_setCell _ _ _ j (by simp; omega))) (fun j hj _ => Below.heap_setCell _ _ _ j (by simp; omega)))
end Go.Proofs.YtacikiambpfipaaDoor
