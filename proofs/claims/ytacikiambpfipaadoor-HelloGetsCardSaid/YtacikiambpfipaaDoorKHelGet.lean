/- hello.Get. -/
import Derived.Test.YtacikiambpfipaaDoorKA8
import Derived.Test.YtacikiambpfipaaDoorKCapMay
import Derived.Test.YtacikiambpfipaaDoorKA9
import Derived.Test.YtacikiambpfipaaDoorKA10
import Derived.Test.YtacikiambpfipaaDoorKA6
import Derived.Test.YtacikiambpfipaaDoorKHelPut
import Derived.Deep.DeepCutAuto
namespace Go.Proofs.YtacikiambpfipaaDoor
set_option linter.unusedVariables false
set_option linter.unusedSimpArgs false
open Go.RowKit

/-- What Get tells: the error; the hello is (hL x, hM x, hC x) of the item. -/
def hGetE (s : ByteArray) : Int := if getE 16 1024 s ≠ 0 ∨ hOk (getX 16 1024 s) = false ∨ helB (hL (getX 16 1024 s)) (hM (getX 16 1024 s)) (hC (getX 16 1024 s)) = false then 3 else 0
def hGetL (s : ByteArray) : Int := if hGetE s = 0 then hL (getX 16 1024 s) else 0
def hGetM (s : ByteArray) : Int := if hGetE s = 0 then hM (getX 16 1024 s) else 0
def hGetC (s : ByteArray) : List Cp := if hGetE s = 0 then hC (getX 16 1024 s) else []
theorem hGet_bad {s : ByteArray} (h : getE 16 1024 s ≠ 0 ∨ hOk (getX 16 1024 s) = false ∨ helB (hL (getX 16 1024 s)) (hM (getX 16 1024 s)) (hC (getX 16 1024 s)) = false) : hGetE s = 3 ∧ hGetL s = 0 ∧ hGetM s = 0 ∧ hGetC s = [] := by
  have h1 : hGetE s = 3 := by unfold hGetE; rw [if_pos h]
  exact ⟨h1, by unfold hGetL; rw [h1]; rfl, by unfold hGetM; rw [h1]; rfl, by unfold hGetC; rw [h1]; rfl⟩
theorem hGet_ok {s : ByteArray} (h0 : getE 16 1024 s = 0) (h1 : hOk (getX 16 1024 s) = true) (h2 : helB (hL (getX 16 1024 s)) (hM (getX 16 1024 s)) (hC (getX 16 1024 s)) = true) : hGetE s = 0 ∧ hGetL s = hL (getX 16 1024 s) ∧ hGetM s = hM (getX 16 1024 s) ∧ hGetC s = hC (getX 16 1024 s) := by
  have h3 : hGetE s = 0 := by unfold hGetE; rw [if_neg (by simp [h0, h1, h2])]
  exact ⟨h3, by unfold hGetL; rw [h3]; rfl, by unfold hGetM; rw [h3]; rfl, by unfold hGetC; rw [h3]; rfl⟩
/-- What does not fit is none. -/
theorem hGet_unfit {s : ByteArray} (h0 : getE 16 1024 s = 0) (h : fitE shp (getX 16 1024 s) ≠ 0) : hGetE s = 3 ∧ hGetL s = 0 ∧ hGetM s = 0 ∧ hGetC s = [] := by
  apply hGet_bad
  cases ho : hOk (getX 16 1024 s) with
  | false => exact .inr (.inl rfl)
  | true =>
    cases hb : helB (hL (getX 16 1024 s)) (hM (getX 16 1024 s)) (hC (getX 16 1024 s)) with
    | false => exact .inr (.inr rfl)
    | true =>
      have hm := ((capsE_zero _ _ _).1 (put_getE 16 1024 s h0).1).1
      have := read_helIt ((may_parts _).1 hm).1 ho hb
      rw [this] at h
      exact absurd (helIt_fits hb) h
theorem own_in {w : World} {base : Nat} {E : TypeId} {sz n j : Nat} {v : Value} {xs : List Value} (h : w.ownsRow base E sz v n xs) (e : v.ownBlock = some j) : base ≤ j ∧ j < w.heap.size := by
  rcases h.2 with ⟨h2, h3⟩ | ⟨g', cap', cur, hv, hb, hh, _⟩
  · rw [h2] at e; cases e
  · rw [hv] at e
    cases e
    exact ⟨hb, lt_of_block hh⟩
theorem own_below {w w' : World} {base B : Nat} {E : TypeId} {sz : Nat} {v : Value} {n : Nat} {xs : List Value} (h : w.ownsRow base E sz v n xs) (hb : Below B w w') (hB : w.heap.size ≤ B) : w'.ownsRow base E sz v n xs :=
  own_block h fun k _ hk => hb.block k (by omega)
def GhEnd (w w' : World) (l m : Int) (cs : List Cp) (er : Int) (e : Ending) : Prop :=
  Below w.heap.size w w' ∧ ∃ v, e = .returned (.tuple #[.agg #[.int .i64 l, .int .i64 m, v], .int .i64 er]) ∧ CpR w' w'.heap.size v cs ∧ NmOk cs ∧ cs.length ≤ 1000
set_option maxRecDepth 100000 in
set_option maxHeartbeats 8000000 in
theorem helGet_c (s : ByteArray) (w : World) (hs : s.size ≤ 4611686018427387904) (hL : Laid w) :
    Calls Tryd.prog 33 #[.string s] w fun e w' => GhEnd w w' (hGetL s) (hGetM s) (hGetC s) (hGetE s) e := by
  obtain ⟨W0, hW0⟩ : ∃ W0, w.alloc (.cells #[.int .i64 0, .int .i64 0, .slice none 0 0] 68) = W0 := ⟨_, rfl⟩
  have hb0 : Below w.heap.size w W0 := by rw [← hW0]; exact (Below.refl _ w).alloc (Nat.le_refl _) _
  have hz0 : W0.heap.size = w.heap.size + 1 := by rw [← hW0]; simp
  have hk0 : Blk W0 w.heap.size 68 #[.int .i64 0, .int .i64 0, .slice none 0 0] := by rw [← hW0]; exact Blk.new _ _ _
  have HC := Lib.hid (rlpGet_c s 16 1024 W0 hs)
  obtain ⟨E1, hE1⟩ : ∃ E, getE 16 1024 s = E := ⟨_, rfl⟩
  obtain ⟨X, hX⟩ : ∃ X, getX 16 1024 s = X := ⟨_, rfl⟩
  rw [hE1, hX] at HC
  have HE1 := Lib.hid hE1
  have HX := Lib.hid hX
  have HK0 := Lib.hid hk0
  have HB0 := Lib.hid hb0
  have HZ0 := Lib.hid hz0
  have HW0 := Lib.hid hW0
  have HLD := Lib.hid (hL.below hb0 hL.pos)
  clear hE1 hX hk0 hb0 hz0 hW0 hL
  rcases beq0 E1 with ⟨he, k1, k2⟩ | ⟨he, k1, k2⟩
  · subst he
    obtain ⟨F, hF⟩ : ∃ F, fitE shp X = F := ⟨_, rfl⟩
    go_enter Tryd.func33, Tryd.ntmps33
    go_wp2_with fail
    rw [HW0.out]
    refine HC.out.mono ?_
    rintro e w1 ⟨hb1, c0, c1, c2, rfl, hy⟩
    obtain ⟨AX, kX, rfl, rfl, rfl, _⟩ := hy.open_
    obtain ⟨W2, hW2⟩ : ∃ W2, w1.alloc (.cells #[.string X.text, .bool X.list, .slice AX X.sub.length kX] 27) = W2 := ⟨_, rfl⟩
    obtain ⟨b2a, b2b, b2c⟩ := box3 hW2.symm
    have hz1 := hb1.size
    have hz0 := HZ0.out
    have HK2 := Lib.hid ((HK0.out.keep hb1 (by omega)).keep b2a (by omega))
    have HB2 : Hid (Below w.heap.size w W2) := Lib.hid (HB0.out.trans ((hb1.trans (b2a.mono hb1.size)).mono (by omega)))
    have HI2 := Lib.hid ((hy.below b2a).toIn)
    have HL2 := Lib.hid ((HLD.out.below hb1 (by omega)).below b2a (by omega))
    have HX2 := Lib.hid b2c
    have HZ2 : Hid (W2.heap.size = w1.heap.size + 1 ∧ w.heap.size + 1 ≤ w1.heap.size) := Lib.hid ⟨b2b, by omega⟩
    have HW2 := Lib.hid hW2
    have HFT : Hid (∀ V c2', Below W2.heap.size W2 V → TyIn V V.heap.size shp (.int .i64 5) (.int .i64 0) c2' (.int .i64 0) → Calls Tryd.prog 43 #[.agg #[.int .i64 5, .int .i64 0, c2', .int .i64 0], .agg #[.string X.text, .bool X.list, .slice AX X.sub.length kX]] V fun e w' => e = .returned (.int .i64 F) ∧ Below W2.heap.size W2 w') := Lib.hid (fun V c2' hV hT => by
      have := fits_c shp X V.heap.size V _ _ _ _ _ _ _ hT ((HI2.out.below hV).mono hV.size) (Nat.le_refl _) (HL2.out.below hV (by have := HZ2.out; omega))
      rw [hF] at this
      exact this.mono fun e w' ⟨h1, h2⟩ => ⟨h1, hV.trans (h2.mono hV.size)⟩)
    have HKV : Hid (∀ V, Below W2.heap.size W2 V → V.cell? ⟨w1.heap.size, 0, none⟩ = some (.string X.text) ∧ V.cell? ⟨w1.heap.size, 1, none⟩ = some (.bool X.list) ∧ V.cell? ⟨w1.heap.size, 2, none⟩ = some (.slice AX X.sub.length kX)) := Lib.hid (fun V hV => by
      obtain ⟨y0, y1, y2, _⟩ := blk3 (HX2.out.keep hV (by have := HZ2.out; omega))
      exact ⟨y0, y1, y2⟩)
    have hfi : 68 = 68 := rfl
    have HFF := Lib.hid hF
    clear hb1 hy hW2 b2a b2b b2c hz1 hz0 hF hfi
    go_upto_region 2 with fail
    rw [HW2.out]
    go_cut [22] (fun v wx => v = .bool (F != 0) ∧ Hid (Below W2.heap.size W2 wx))
    case first =>
      obtain ⟨x0, x1, x2⟩ := HKV.out W2 (Below.refl _ _)
      go_wp2_with fail
      go_region_law (first
        | (go_simp; go_at_call 89; refine (shape_c _).mono ?_; rintro e wa ⟨c2', rfl, hty, hba⟩; have HTY := Lib.hid hty; have HVA : Hid (Below W2.heap.size W2 wa) := Lib.hid ((Below.refl _ W2).drew.trans hba); obtain ⟨y0, y1, y2⟩ := HKV.out wa HVA.out)
        | (go_simp; go_at_call 43; refine (HFT.out wa _ HVA.out HTY.out).mono ?_; rintro e wb ⟨rfl, hvb⟩))
      all_goals
        go_wp2_with fail
        go_meet
        case rel => exact ⟨rfl, Lib.hid hvb⟩
    case rest =>
      obtain ⟨rfl, HV⟩ := hcut
      have hzc := HV.out.size
      have hz2 := HZ2.out
      have HKC := Lib.hid (HK2.out.keep HV.out (by omega))
      have HBC : Hid (Below w.heap.size w wc) := Lib.hid (HB2.out.trans (HV.out.mono (by omega)))
      rcases beq0 F with ⟨hf, k3, k4⟩ | ⟨hf, k3, k4⟩
      · subst hf
        obtain ⟨ta, tb, cs, hXe, ha1, hb1, ha2, hb2, hcl, hcs⟩ := fits_shape HFF.out
        have hix := HI2.out.below HV.out
        obtain ⟨g, o, k, Aa, ka, Ab, kb, Ac, kc, e0, e1, e2, hk3, hkm, hgB, f0, f1, f2, f3, f4, f5, f8, hc1, hc2, hits⟩ := threeIn (by rw [hXe] at hix; exact hix)
        obtain ⟨x0, x1, x2⟩ := HKV.out wc HV.out
        have x2' : wc.cell? ⟨w1.heap.size, 2, none⟩ = some (.slice (some ⟨g, o, none⟩) 3 k) := by rw [x2, ← e2, hXe]
        have HXE := Lib.hid hXe
        have HCS := Lib.hid hcs
        have HITS := Lib.hid hits
        obtain ⟨na, hna⟩ : ∃ na, vNt false ta = na := ⟨_, rfl⟩
        obtain ⟨nb, hnb⟩ : ∃ nb, vNt false tb = nb := ⟨_, rfl⟩
        have HNA := Lib.hid (fun V => helNumG_c ta (.slice Aa 0 ka) V ha1 ha2 ⟨_, _, _, rfl⟩)
        have HNB := Lib.hid (fun V => helNumG_c tb (.slice Ab 0 kb) V hb1 hb2 ⟨_, _, _, rfl⟩)
        rw [hna] at HNA
        rw [hnb] at HNB
        have HNA0 : Hid (Calls Tryd.prog 90 #[.agg #[.string ta, .bool false, .slice Aa 0 ka]] wc.drew fun e w' => e = .returned (.int .i64 na) ∧ Below wc.heap.size wc w') := Lib.hid ((HNA.out _).mono fun e w' ⟨h1, h2⟩ => ⟨h1, (Below.refl _ wc).drew.trans h2⟩)
        have HNA1 : Hid (Calls Tryd.prog 90 #[.agg #[.string ta, .bool false, .slice Aa 0 ka]] (wc.alloc (.cells #[.int .i64 0, .int .i64 0, .slice none 0 0] 68)).drew fun e w' => e = .returned (.int .i64 na) ∧ Below wc.heap.size wc w' ∧ Blk w' wc.heap.size 68 #[.int .i64 0, .int .i64 0, .slice none 0 0]) := Lib.hid ((HNA.out _).mono fun e w' ⟨h1, h2⟩ => ⟨h1, (((Below.refl wc.heap.size wc).alloc (Nat.le_refl _) _).drew).trans (h2.mono (by simp)), ((Blk.new wc _ _).drew).keep h2 (by simp)⟩)
        have HNBA : Hid (∀ V, Below wc.heap.size wc V → Blk V wc.heap.size 68 #[.int .i64 0, .int .i64 0, .slice none 0 0] → Calls Tryd.prog 90 #[.agg #[.string tb, .bool false, .slice Ab 0 kb]] V fun e w' => e = .returned (.int .i64 nb) ∧ Below wc.heap.size wc w' ∧ Blk w' wc.heap.size 68 #[.int .i64 0, .int .i64 0, .slice none 0 0]) := Lib.hid (fun V hV hz => (HNB.out V).mono fun e w' ⟨h1, h2⟩ => ⟨h1, hV.trans (h2.mono hV.size), hz.keep h2 hz.lt⟩)
        have HNBB : Hid (∀ V, Below wc.heap.size wc V → Calls Tryd.prog 90 #[.agg #[.string tb, .bool false, .slice Ab 0 kb]] (V.alloc (.cells #[.int .i64 0, .int .i64 0, .slice none 0 0] 68)) fun e w' => e = .returned (.int .i64 nb) ∧ Below wc.heap.size wc w' ∧ Blk w' V.heap.size 68 #[.int .i64 0, .int .i64 0, .slice none 0 0]) := Lib.hid (fun V hV => (HNB.out _).mono fun e w' ⟨h1, h2⟩ => ⟨h1, (hV.alloc hV.size _).trans (h2.mono (by have := hV.size; simp; omega)), (Blk.new V _ _).keep h2 (by simp)⟩)
        have HNB0 : Hid (∀ V, Below wc.heap.size wc V → Calls Tryd.prog 90 #[.agg #[.string tb, .bool false, .slice Ab 0 kb]] V fun e w' => e = .returned (.int .i64 nb) ∧ Below wc.heap.size wc w') := Lib.hid (fun V hV => (HNB.out V).mono fun e w' ⟨h1, h2⟩ => ⟨h1, hV.trans (h2.mono hV.size)⟩)
        clear HNA HNB
        have HNE : Hid (hL X = na ∧ hM X = nb ∧ hC X = cs.map cp1) := Lib.hid (by rw [hXe]; exact ⟨hna, hnb, rfl⟩)
        have HKW : Hid (∀ V, Below wc.heap.size wc V → V.cell? ⟨w1.heap.size, 2, none⟩ = some (.slice (some ⟨g, o, none⟩) 3 k) ∧ V.cell? ⟨g, o, none⟩ = some (.string ta) ∧ V.cell? ⟨g, o + 1, none⟩ = some (.bool false) ∧ V.cell? ⟨g, o + 2, none⟩ = some (.slice Aa 0 ka) ∧ V.cell? ⟨g, o + 3, none⟩ = some (.string tb) ∧ V.cell? ⟨g, o + 4, none⟩ = some (.bool false) ∧ V.cell? ⟨g, o + 5, none⟩ = some (.slice Ab 0 kb)) := Lib.hid (fun V hV => ⟨(hV.cell (by simp; omega)).trans x2', (hV.cell (by simp; omega)).trans f0, (hV.cell (by simp; omega)).trans f1, (hV.cell (by simp; omega)).trans f2, (hV.cell (by simp; omega)).trans f3, (hV.cell (by simp; omega)).trans f4, (hV.cell (by simp; omega)).trans f5⟩)
        have HF8 := Lib.hid f8
        clear e0 e1 e2 x0 x1 x2 hXe hcs hits hix hna hnb ha1 hb1 ha2 hb2 HFT HKV x2' f0 f1 f2 f3 f4 f5 f8
        obtain ⟨x0, x1, x2, x3, x4, x5, x6⟩ := HKW.out wc (Below.refl _ _)
        go_upto_region 5 with fail
        go_cut [7] (fun v wx => ∃ b7 : Nat, v = .pointer (some ⟨b7, 0, none⟩) ∧ Hid (wc.heap.size ≤ b7) ∧ Hid (Blk wx b7 68 #[.int .i64 na, .int .i64 nb, .slice none 0 0]) ∧ Hid (Below wc.heap.size wc wx))
        case first =>
          go_wp2_with fail
          go_region_held3 (fun V => V.cell? ⟨w1.heap.size, 2, none⟩ = some (.slice (some ⟨g, o, none⟩) 3 k) ∧ V.cell? ⟨g, o, none⟩ = some (.string ta) ∧ V.cell? ⟨g, o + 1, none⟩ = some (.bool false) ∧ V.cell? ⟨g, o + 2, none⟩ = some (.slice Aa 0 ka) ∧ V.cell? ⟨g, o + 3, none⟩ = some (.string tb) ∧ V.cell? ⟨g, o + 4, none⟩ = some (.bool false) ∧ V.cell? ⟨g, o + 5, none⟩ = some (.slice Ab 0 kb))
            (first | exact HKW.out _ (Below.refl _ _) | exact HKW.out _ (Below.refl _ _).drew | exact HKW.out _ hv2 | exact HKW.out _ hv | exact HKW.out _ (((Below.refl _ _).alloc (Nat.le_refl _) _).drew) | exact HKW.out _ (((Below.refl _ _).drew).alloc (by simp) _) | exact HKW.out _ (hv.alloc hv.size _) | exact HKW.out _ (hv2.alloc hv2.size _) | exact HKW.out _ (((hv2.setCell (by first | (simp; done) | exact hv.size | (simp <;> omega)) _).setCell (by first | (simp; done) | exact hv.size | (simp <;> omega)) _).setCell (by first | (simp; done) | exact hv.size | (simp <;> omega)) _))
            (first
              | (go_at_call 90; ((with_reducible refine (HNBA.out w' hv hz).mono ?_); rintro e w2 ⟨rfl, hv2, hz2⟩; obtain ⟨z0, z1, z2, zf0, zf1, zf2⟩ := blk3 hz2))
              | (go_at_call 90; ((with_reducible refine (HNBB.out w' hv).mono ?_); rintro e w2 ⟨rfl, hv2, hz2⟩; obtain ⟨z0, z1, z2, zf0, zf1, zf2⟩ := blk3 hz2))
              | (go_at_call 90; ((with_reducible refine (HNB0.out w' hv).mono ?_); rintro e w2 ⟨rfl, hv2⟩))
              | (go_at_call 90; ((with_reducible refine HNA1.out.mono ?_); rintro e w' ⟨rfl, hv, hz⟩; obtain ⟨z0, z1, z2, zf0, zf1, zf2⟩ := blk3 hz))
              | (go_at_call 90; ((with_reducible refine HNA0.out.mono ?_); rintro e w' ⟨rfl, hv⟩)))
          all_goals
            go_wp2_with fail
            go_meet
            case rel =>
              first
                | exact ⟨_, rfl, Lib.hid hv2.size, Lib.hid (Blk.new _ _ _), Lib.hid (hv2.alloc hv2.size _)⟩
                | exact ⟨_, rfl, Lib.hid (by simp), Lib.hid (put3 hz2 _ _ _), Lib.hid (((hv2.setCell (by simp) _).setCell (by simp) _).setCell (by simp) _)⟩
                | exact ⟨_, rfl, Lib.hid hv.size, Lib.hid (put3 hz2 _ _ _), Lib.hid (((hv2.setCell hv.size _).setCell hv.size _).setCell hv.size _)⟩
        case rest =>
          obtain ⟨b7, rfl, HB7, HK7, HV7⟩ := hcut
          have HKC2 := Lib.hid (HKC.out.keep HV7.out HKC.out.lt)
          have HBC2 : Hid (Below w.heap.size w wc) := Lib.hid (HBC.out.trans (HV7.out.mono HBC.out.size))
          have HIT2 := Lib.hid (HITS.out.below (HV7.out.mono hzc))
          have y2 := (HKW.out wc HV7.out).1
          have y8 : wc.cell? ⟨g, o + 8, none⟩ = some (.slice Ac cs.length kc) := (HV7.out.cell (by simp; omega)).trans HF8.out
          have HZC : Hid (W2.heap.size ≤ wc.heap.size ∧ w.heap.size + 2 ≤ W2.heap.size ∧ W2.heap.size ≤ b7 ∧ b7 < wc.heap.size) := Lib.hid ⟨Nat.le_trans hzc HV7.out.size, by omega, Nat.le_trans hzc HB7.out, HK7.out.lt⟩
          obtain ⟨n2, hn2⟩ : ∃ n2, cs.length = n2 := ⟨_, rfl⟩
          rw [hn2] at y8 hcl hc1
          have HN2 := Lib.hid hn2
          clear HKW HKC HBC HITS HF8 x0 x1 x2 x3 x4 x5 x6 hn2 hzc hz2
          obtain ⟨W3, hW3⟩ : ∃ W3, wc = W3 := ⟨_, rfl⟩
          have HW3 := Lib.hid hW3
          clear hW3
          obtain ⟨i0, hi, hzz0, hzz1, hzz2⟩ := info_parts info_cap
          go_wp2_with fail
          go_loopw [43] (fun i wr => ∃ (k2 : Nat) (v7 : Value), k2 ≤ n2 ∧ i = .int .i64 k2 ∧ Hid (wr.ownsRow wc.heap.size 104 2 v7 k2 (cc ((cs.take k2).map cp1))) ∧ Hid (Blk wr b7 68 #[.int .i64 na, .int .i64 nb, v7]) ∧ Hid (Only [b7] wc wr)) (fun i _ => n2 - (intOf i).toNat)
          case atStart => exact ⟨0, _, by omega, rfl, Lib.hid (World.ownsRow_nil _ _ _ _), HK7, Lib.hid (Only.refl _ _)⟩
          case round =>
            obtain ⟨k2, v7, hk2, rfl, HO, HKB, HON⟩ := hrel
            obtain ⟨A7, cap7, rfl, hc7, hm7, _⟩ := own_form' HO.out
            have hzr := HON.out.size
            by_cases hlt : k2 < n2
            · have hlt2 : k2 < cs.length := by have := HN2.out; omega
              have hmem := List.getElem_mem hlt2
              obtain ⟨tn, tv, hce, htv, htl⟩ := HCS.out _ hmem
              obtain ⟨g2, o2, a0, a1, a2, rfl, hg2, u0, u1, u2, hii⟩ := HIT2.out.at_ k2 hlt2
              rw [Nat.zero_add] at u0 u1 u2
              rw [hce] at hii
              obtain ⟨g3, o3, k3, An, kn, Av, kv, rfl, rfl, rfl, hk3, hkm3, hg3, m0, m1, m2, m3, m4, m5⟩ := twoIn hii
              have hzc := HZC.out
              have hon : ∀ q : Addr, q.block < W2.heap.size → wr.cell? q = wc.cell? q := fun q hq => HON.out.cell (by omega) (by simp; omega)
              have v0 := (hon _ hg2).trans u0
              have v1 := (hon _ hg2).trans u1
              have v2 := (hon _ hg2).trans u2
              obtain ⟨W8, hW8⟩ : ∃ W8, wr.alloc (.cells #[.string ⟨#[]⟩, .bool true, .slice (some ⟨g3, o3, none⟩) 2 k3] 27) = W8 := ⟨_, rfl⟩
              have hb8 : Below wr.heap.size wr W8 := by rw [← hW8]; exact (Below.refl _ wr).alloc (Nat.le_refl _) _
              have hz8 : W8.heap.size = wr.heap.size + 1 := by rw [← hW8]; simp
              have hk8 : Blk W8 wr.heap.size 27 #[.string ⟨#[]⟩, .bool true, .slice (some ⟨g3, o3, none⟩) 2 k3] := by rw [← hW8]; exact Blk.new _ _ _
              have hown : ∀ j, (Value.slice A7 k2 cap7).ownBlock = some j → wc.heap.size ≤ j ∧ j < wr.heap.size := fun j hj => own_in HO.out hj
              have HOW := Lib.hid hown
              have HKS : Hid (∀ (L : List Nat) V, Only L W8 V → (∀ j ∈ L, wc.heap.size ≤ j ∧ j < wr.heap.size) → V.cell? ⟨b7, 2, none⟩ = some (.slice A7 k2 cap7) ∧ V.frozen? ⟨b7, 2, none⟩ = false ∧ V.cell? ⟨wr.heap.size, 2, none⟩ = some (.slice (some ⟨g3, o3, none⟩) 2 k3) ∧ V.cell? ⟨g3, o3, none⟩ = some (.string tn) ∧ V.cell? ⟨g3, o3 + 3, none⟩ = some (.string tv) ∧ V.cell? ⟨g3, o3 + 4, none⟩ = some (.bool false) ∧ V.cell? ⟨g3, o3 + 5, none⟩ = some (.slice Av 0 kv)) := Lib.hid (fun L V hV hL => by
                have n1 : b7 ∉ L := fun hb => by have := hL _ hb; omega
                have n2' : wr.heap.size ∉ L := fun hb => by have := hL _ hb; omega
                have n3 : g3 ∉ L := fun hb => by have := hL _ hb; omega
                have hkb := (HKB.out.keep hb8 (by omega)).only hV n1
                have hkk := hk8.only hV n2'
                obtain ⟨p0, p1, p2, pf0, pf1, pf2⟩ := blk3 hkb
                obtain ⟨q0, q1, q2, _⟩ := blk3 hkk
                have hc3 : ∀ i, V.cell? ⟨g3, i, none⟩ = wc.cell? ⟨g3, i, none⟩ := fun i => (hV.cell (by simp; omega) n3).trans ((hb8.cell (by simp; omega)).trans (hon _ hg3))
                exact ⟨p2, pf2, q2, (hc3 _).trans m0, (hc3 _).trans m3, (hc3 _).trans m4, (hc3 _).trans m5⟩)
              have HTK : Hid ((cs.take (k2 + 1)).map cp1 = (cs.take k2).map cp1 ++ [(tn, vNt false tv)]) := Lib.hid (by rw [List.take_succ_eq_append_getElem hlt2, List.map_append, hce]; rfl)
              obtain ⟨nv, hnv⟩ : ∃ nv, vNt false tv = nv := ⟨_, rfl⟩
              rw [hnv] at HTK
              have HNV := Lib.hid (fun V => helNumG_c tv (.slice Av 0 kv) V htv htl ⟨_, _, _, rfl⟩)
              rw [hnv] at HNV
              have HO8 := Lib.hid (HO.out.alloc (.cells #[.string ⟨#[]⟩, .bool true, .slice (some ⟨g3, o3, none⟩) 2 k3] 27))
              rw [hW8] at HO8
              have HON8 : Hid (Only [b7] wc W8) := Lib.hid (by rw [← hW8]; exact HON.out.alloc _)
              have HKB8 := Lib.hid (HKB.out.keep hb8 (by omega))
              have HZ8 : Hid (W8.heap.size = wr.heap.size + 1 ∧ wc.heap.size ≤ wr.heap.size) := Lib.hid ⟨hz8, hzr⟩
              have HW8 := Lib.hid hW8
              have j0 : (k2 : Int) < (n2 : Int) := by omega
              have j1 : (0 : Int) ≤ (k2 : Int) := by omega
              clear hii hce hmem hk8 hb8 hz8 hW8 hown hon u0 u1 u2 m0 m1 m2 m3 m4 m5 htv htl hnv hzc hzr
              go_wp2_with fail
              rw [HW8.out]
              refine wp_region_last 17 (fun V => V.cell? ⟨b7, 2, none⟩ = some (.slice A7 k2 cap7) ∧ V.frozen? ⟨b7, 2, none⟩ = false ∧ V.cell? ⟨wr.heap.size, 2, none⟩ = some (.slice (some ⟨g3, o3, none⟩) 2 k3) ∧ V.cell? ⟨g3, o3, none⟩ = some (.string tn) ∧ V.cell? ⟨g3, o3 + 3, none⟩ = some (.string tv) ∧ V.cell? ⟨g3, o3 + 4, none⟩ = some (.bool false) ∧ V.cell? ⟨g3, o3 + 5, none⟩ = some (.slice Av 0 kv)) (by kernel_rfl) (by kernel_rfl) ?_
              have hHeld := HKS.out [] W8.drew (Only.refl _ _).drew (by simp)
              refine GT.take (i := 0) (v := ?_) (by simp only [List.getElem?_toArray, List.getElem?_cons_zero, List.getElem?_cons_succ]; rfl) (by kernel_rfl) (by kernel_rfl) (by kernel_rfl) (by kernel_rfl) (by intro _ _ _ h; exact h) (Or.inl ⟨by rfl, ?_⟩) hHeld ?_
              rotate_left
              · intro V hV
                (try dsimp only at hV)
                (first | (go_simp; done) | (go_simp; with_reducible rfl))
              try simp only [Act.put, List.setIfInBounds_toArray, List.set_cons_zero, List.set_cons_succ]
              refine GT.take (i := 1) (v := ?_) (by simp only [List.getElem?_toArray, List.getElem?_cons_zero, List.getElem?_cons_succ]; rfl) (by kernel_rfl) (by kernel_rfl) (by kernel_rfl) (by kernel_rfl) (by intro _ _ _ h; exact h) (Or.inl ⟨by rfl, ?_⟩) hHeld ?_
              rotate_left
              · intro V hV
                (try dsimp only at hV)
                (first | (go_simp; done) | (go_simp; with_reducible rfl))
              try simp only [Act.put, List.setIfInBounds_toArray, List.set_cons_zero, List.set_cons_succ]
              refine GT.take (i := 2) (v := ?_) (by simp only [List.getElem?_toArray, List.getElem?_cons_zero, List.getElem?_cons_succ]; rfl) (by kernel_rfl) (by kernel_rfl) (by kernel_rfl) (by kernel_rfl) (by intro _ _ _ h; exact h) (Or.inl ⟨by rfl, ?_⟩) hHeld ?_
              rotate_left
              · intro V hV
                (try dsimp only at hV)
                (first | (go_simp; done) | (go_simp; with_reducible rfl))
              try simp only [Act.put, List.setIfInBounds_toArray, List.set_cons_zero, List.set_cons_succ]
              refine GT.take (i := 3) (v := ?_) (by simp only [List.getElem?_toArray, List.getElem?_cons_zero, List.getElem?_cons_succ]; rfl) (by kernel_rfl) (by kernel_rfl) (by kernel_rfl) (by kernel_rfl) (by intro _ _ _ h; exact h) (Or.inl ⟨by rfl, ?_⟩) hHeld ?_
              rotate_left
              · intro V hV
                (try dsimp only at hV)
                (first | (go_simp; done) | (go_simp; with_reducible rfl))
              try simp only [Act.put, List.setIfInBounds_toArray, List.set_cons_zero, List.set_cons_succ]
              refine GT.take (i := 4) (v := ?_) (by simp only [List.getElem?_toArray, List.getElem?_cons_zero, List.getElem?_cons_succ]; rfl) (by kernel_rfl) (by kernel_rfl) (by kernel_rfl) (by kernel_rfl) (by intro _ _ _ h; exact h) (Or.inl ⟨by rfl, ?_⟩) hHeld ?_
              rotate_left
              · intro V hV
                (try dsimp only at hV)
                (first | (go_simp; done) | (go_simp; with_reducible rfl))
              try simp only [Act.put, List.setIfInBounds_toArray, List.set_cons_zero, List.set_cons_succ]
              refine GT.take (i := 5) (v := ?_) (by simp only [List.getElem?_toArray, List.getElem?_cons_zero, List.getElem?_cons_succ]; rfl) (by kernel_rfl) (by kernel_rfl) (by kernel_rfl) (by kernel_rfl) (by intro _ _ _ h; exact h) (Or.inl ⟨by rfl, ?_⟩) hHeld ?_
              rotate_left
              · intro V hV
                (try dsimp only at hV)
                (first | (go_simp; done) | (go_simp; with_reducible rfl))
              try simp only [Act.put, List.setIfInBounds_toArray, List.set_cons_zero, List.set_cons_succ]
              refine GT.take (i := 6) (v := ?_) (by simp only [List.getElem?_toArray, List.getElem?_cons_zero, List.getElem?_cons_succ]; rfl) (by kernel_rfl) (by kernel_rfl) (by kernel_rfl) (by kernel_rfl) (by intro _ _ _ h; exact h) (Or.inl ⟨by rfl, ?_⟩) hHeld ?_
              rotate_left
              · intro V hV
                (try dsimp only at hV)
                (first | (go_simp; done) | (go_simp; with_reducible rfl))
              try simp only [Act.put, List.setIfInBounds_toArray, List.set_cons_zero, List.set_cons_succ]
              refine GT.take (i := 7) (v := ?_) (by simp only [List.getElem?_toArray, List.getElem?_cons_zero, List.getElem?_cons_succ]; rfl) (by kernel_rfl) (by kernel_rfl) (by kernel_rfl) (by kernel_rfl) (by intro _ _ _ h; exact h) (Or.inl ⟨by rfl, ?_⟩) hHeld ?_
              rotate_left
              · intro V hV
                (try dsimp only at hV)
                (first | (go_simp; done) | (go_simp; with_reducible rfl))
              try simp only [Act.put, List.setIfInBounds_toArray, List.set_cons_zero, List.set_cons_succ]
              refine GT.take (i := 8) (v := ?_) (by simp only [List.getElem?_toArray, List.getElem?_cons_zero, List.getElem?_cons_succ]; rfl) (by kernel_rfl) (by kernel_rfl) (by kernel_rfl) (by kernel_rfl) (by intro _ _ _ h; exact h) (Or.inl ⟨by rfl, ?_⟩) hHeld ?_
              rotate_left
              · intro V hV
                (try dsimp only at hV)
                (first | (go_simp; done) | (go_simp; with_reducible rfl))
              try simp only [Act.put, List.setIfInBounds_toArray, List.set_cons_zero, List.set_cons_succ]
              refine GT.take (i := 9) (v := ?_) (by simp only [List.getElem?_toArray, List.getElem?_cons_zero, List.getElem?_cons_succ]; rfl) (by kernel_rfl) (by kernel_rfl) (by kernel_rfl) (by kernel_rfl) (by intro _ _ _ h; exact h) (Or.inl ⟨by rfl, ?_⟩) hHeld ?_
              rotate_left
              · intro V hV
                (try dsimp only at hV)
                (first | (go_simp; done) | (go_simp; with_reducible rfl))
              try simp only [Act.put, List.setIfInBounds_toArray, List.set_cons_zero, List.set_cons_succ]
              refine GT.take (i := 10) (v := ?_) (by simp only [List.getElem?_toArray, List.getElem?_cons_zero, List.getElem?_cons_succ]; rfl) (by kernel_rfl) (by kernel_rfl) (by kernel_rfl) (by kernel_rfl) (by intro _ _ _ h; exact h) (Or.inl ⟨by rfl, ?_⟩) hHeld ?_
              rotate_left
              · intro V hV
                (try dsimp only at hV)
                (first | (go_simp; done) | (go_simp; with_reducible rfl))
              try simp only [Act.put, List.setIfInBounds_toArray, List.set_cons_zero, List.set_cons_succ]
              refine GT.take (i := 11) (v := ?_) (by simp only [List.getElem?_toArray, List.getElem?_cons_zero, List.getElem?_cons_succ]; rfl) (by kernel_rfl) (by kernel_rfl) (by kernel_rfl) (by kernel_rfl) (by intro _ _ _ h; exact h) (Or.inl ⟨by rfl, ?_⟩) hHeld ?_
              rotate_left
              · intro V hV
                (try dsimp only at hV)
                (first | (go_simp; done) | (go_simp; with_reducible rfl))
              try simp only [Act.put, List.setIfInBounds_toArray, List.set_cons_zero, List.set_cons_succ]
              refine GT.step (i := 12) (by simp only [List.getElem?_toArray, List.getElem?_cons_zero, List.getElem?_cons_succ]; rfl) (by kernel_rfl) (by kernel_rfl) (fun K hK => ?_)
              go_simp
              go_at_call 90
              refine (HNV.out _).mono ?_
              rintro e wv ⟨rfl, hv⟩
              have hvz := hv.size
              have ho1 : Only [] W8 wv := (Only.refl [] W8).drew.trans (Only.of_below hv (by simp))
              have hows := own_below (HO8.out.drew) hv (by simp)
              go_wp2_with fail
              refine hK.out _ _ (HKS.out [] wv ho1 (by simp)) (fun hHeld => ?_)
              clear hK K
              try simp only [Act.put, List.setIfInBounds_toArray, List.set_cons_zero, List.set_cons_succ]
              refine GT.take (i := 13) (v := ?_) (by simp only [List.getElem?_toArray, List.getElem?_cons_zero, List.getElem?_cons_succ]; rfl) (by kernel_rfl) (by kernel_rfl) (by kernel_rfl) (by kernel_rfl) (by intro _ _ _ h; exact h) (Or.inl ⟨by rfl, ?_⟩) hHeld ?_
              rotate_left
              · intro V hV
                (try dsimp only at hV)
                (first | (go_simp; done) | (go_simp; with_reducible rfl))
              try simp only [Act.put, List.setIfInBounds_toArray, List.set_cons_zero, List.set_cons_succ]
              refine GT.step (i := 14) (by simp only [List.getElem?_toArray, List.getElem?_cons_zero, List.getElem?_cons_succ]; rfl) (by kernel_rfl) (by kernel_rfl) (fun K hK => ?_)
              go_simp
              refine hK.out _ _ (HKS.out [] _ (ho1.alloc _) (by simp)) (fun hHeld => ?_)
              clear hK K
              try simp only [Act.put, List.setIfInBounds_toArray, List.set_cons_zero, List.set_cons_succ]
              refine GT.step (i := 15) (by simp only [List.getElem?_toArray, List.getElem?_cons_zero, List.getElem?_cons_succ]; rfl) (by kernel_rfl) (by kernel_rfl) (fun K hK => ?_)
              refine step_append_lies _ (by rfl) (.tmp 48) (.tmp 61) 66 (by rfl) wc.heap.size 104 i0 _ 2 24 Tryd.underlying66 hi hzz0 hzz1 hzz2 (by rfl) (by decide) _ k2 (cc ((cs.take k2).map cp1)) (by rfl) (hows.alloc _) ⟨wv.heap.size, 0, none⟩ 1 1 [.string tn, .int .i64 nv] (by rfl) (by rfl) (World.news_of_block (heap_alloc_new wv (.cells #[.string tn, .int .i64 nv] 104))) (by simp [Value.oneCell']) (by omega) (by simp only [maxLen]; omega) (by omega) (by have := HZ8.out; simp at hvz ⊢; omega) _ rfl ?_
              intro g1 cap1 w9 hown1 hgrow1 hat1 hlt1
              have ho9 : Only [b7] wc w9 := ((HON8.out.trans (ho1.mono (by simp))).alloc _).grown hgrow1 (fun j hj => .inr (HOW.out j hj).1)
              have ho98 := ((ho1.alloc (.cells #[.string tn, .int .i64 nv] 104)).mono (by simp)).trans (Only.of_grown hgrow1)
              refine hK.out _ _ (HKS.out _ _ ho98 (fun j hj => HOW.out j (by simpa using hj))) (fun hHeld => ?_)
              clear hK K
              try simp only [Act.put, List.setIfInBounds_toArray, List.set_cons_zero, List.set_cons_succ]
              refine GT.take (i := 16) (v := ?_) (by simp only [List.getElem?_toArray, List.getElem?_cons_zero, List.getElem?_cons_succ]; rfl) (by kernel_rfl) (by kernel_rfl) (by kernel_rfl) (by kernel_rfl) (by intro _ _ _ h; exact h) (Or.inl ⟨by rfl, ?_⟩) hHeld ?_
              rotate_left
              · intro V hV
                (try dsimp only at hV)
                (first | (go_simp; done) | (go_simp; with_reducible rfl))
              try simp only [Act.put, List.setIfInBounds_toArray, List.set_cons_zero, List.set_cons_succ]
              refine GT.last (i := 17) (by simp only [List.getElem?_toArray, List.getElem?_cons_zero, List.getElem?_cons_succ]; rfl) (by kernel_rfl) (by kernel_rfl) (by kernel_rfl) ?_
              obtain ⟨z0, z1, z2, z3, z4, z5, z6⟩ := hHeld
              go_simp
              have HO9 := Lib.hid hown1
              have HON9 := Lib.hid ho9
              have HKB9 := Lib.hid (HKB8.out.only ho98 (fun hb => by have := HOW.out _ (by simpa using hb); have := HZC.out; omega))
              clear hown1 hgrow1 hat1 hlt1 ho98 ho9 hows ho1 hv hvz hlt2 hg2 hg3 hk3 hkm3
              go_wp2
              go_roundw
              case rel => exact ⟨k2 + 1, .slice (some ⟨g1, 0, none⟩) (k2 + 1) cap1, by omega, by go_num, Lib.hid (by rw [HTK.out, cc_append, cc_one]; exact own_block HO9.out fun j hj _ => Below.heap_setCell _ _ _ j (by have := HZC.out; simp; omega)), Lib.hid (HKB9.out.set 2 _), Lib.hid (HON9.out.setCell (by simp) _)⟩
              case measure => simp [intOf]; omega
            · obtain rfl : k2 = n2 := by omega
              have hfull : (cs.take k2).map cp1 = hC X := by rw [HNE.out.2.2, List.take_of_length_le (by have := HN2.out; omega)]
              have hlen : (hC X).length = k2 := by rw [HNE.out.2.2, List.length_map]; exact HN2.out
              have HOF : Hid (wr.ownsRow wc.heap.size 104 2 (.slice A7 k2 cap7) (hC X).length (cc (hC X))) := Lib.hid (by have := HO.out; rw [hfull] at this; rw [hlen]; exact this)
              have HZW : Hid (w.heap.size < wc.heap.size) := Lib.hid (by have := HZC.out; omega)
              have HCP : Hid (CpR wr wr.heap.size (.slice A7 k2 cap7) (hC X)) := Lib.hid (CpR.of_own (lo := wc.heap.size) (E := 104) (by have := HO.out; rw [hfull] at this; rw [hlen]; exact this))
              have hok := (fits_read HFF.out).1
              have HNM : Hid (NmOk (hC X)) := Lib.hid (by rw [HNE.out.2.2]; exact its_nm HIT2.out HCS.out)
              have HMY := Lib.hid (helMay_c na nb (hC X) (.slice A7 k2 cap7) wr.heap.size wr HCP.out (Nat.le_refl _) HNM.out (by omega))
              have HL16 : Hid ((hC X).length ≤ 1000) := Lib.hid (by omega)
              obtain ⟨q0, q1, q2, _⟩ := blk3 HKB.out
              have HB2R := Lib.hid (HKC2.out.only HON.out (by have := HZC.out; simp; omega))
              have HBR : Hid (Below w.heap.size w wr) := Lib.hid (HBC2.out.trans (HON.out.below HBC2.out.size (by have := HZC.out; simp; omega)))
              have HZR : Hid (b7 < wr.heap.size ∧ w.heap.size + 2 ≤ b7) := Lib.hid (by have := HZC.out; omega)
              cases hmb : helB na nb (hC X) with
              | false =>
                rw [hmb] at HMY
                have HE := Lib.hid (hGet_bad (s := s) (.inr (.inr (by rw [HX.out, HNE.out.1, HNE.out.2.1]; exact hmb))))
                clear hfull hlen hok hmb
                go_wp2_with fail
                refine HMY.out.mono ?_
                rintro e w5 ⟨rfl, hb5⟩
                have hkk := HB2R.out.keep hb5 HB2R.out.lt
                obtain ⟨p0, p1, p2, pf0, pf1, pf2⟩ := blk3 hkk
                have HKK := Lib.hid hkk
                have HB5 := Lib.hid (HBR.out.trans (hb5.mono HBR.out.size))
                clear hb5 hkk
                go_wp2
                obtain ⟨d0, d1, d2, _⟩ := blk3 (put3 HKK.out (.int .i64 0) (.int .i64 0) (.slice none 0 0))
                refine bodyPost_ret (v := .tuple #[.agg #[.int .i64 0, .int .i64 0, .slice none 0 0], .int .i64 3]) (by simp [results, Tryd.results33, go_sem, d0, d1, d2]) rfl ?_
                obtain ⟨z1, z2, z3, z4⟩ := HE.out
                rw [z1, z2, z3, z4]
                exact ⟨((HB5.out.setCell (by simp) _).setCell (by simp) _).setCell (by simp) _, _, rfl, CpR.nil _ _, (fun c hc => by cases hc), by simp⟩
              | true =>
                rw [hmb] at HMY
                have HE : Hid (hGetE s = 0 ∧ hGetL s = na ∧ hGetM s = nb ∧ hGetC s = hC X) := Lib.hid (by
                  have := hGet_ok (s := s) HE1.out (by rw [HX.out]; exact hok) (by rw [HX.out, HNE.out.1, HNE.out.2.1]; exact hmb)
                  rw [HX.out, HNE.out.1, HNE.out.2.1] at this
                  exact this)
                clear hfull hlen hok hmb
                go_wp2_with fail
                refine HMY.out.mono ?_
                rintro e w5 ⟨rfl, hb5⟩
                have hkk := HB2R.out.keep hb5 HB2R.out.lt
                obtain ⟨p0, p1, p2, pf0, pf1, pf2⟩ := blk3 hkk
                obtain ⟨q0, q1, q2, _⟩ := blk3 (HKB.out.keep hb5 HZR.out.1)
                have HKK := Lib.hid hkk
                have HB5 := Lib.hid (HBR.out.trans (hb5.mono HBR.out.size))
                have HCP5 := Lib.hid ((HCP.out.below hb5).mono hb5.size)
                have hcl5 : w.heap.size < wr.heap.size := by have := HZR.out; omega
                have HLT5 := Lib.hid hcl5
                have HBW := Lib.hid hb5
                clear hb5 hkk hcl5
                go_wp2
                obtain ⟨d0, d1, d2, _⟩ := blk3 (put3 HKK.out (.int .i64 na) (.int .i64 nb) (.slice A7 k2 cap7))
                refine bodyPost_ret (v := .tuple #[.agg #[.int .i64 na, .int .i64 nb, .slice A7 k2 cap7], .int .i64 0]) (by simp [results, Tryd.results33, go_sem, d0, d1, d2]) rfl ?_
                obtain ⟨z1, z2, z3, z4⟩ := HE.out
                rw [z1, z2, z3, z4]
                refine ⟨((HB5.out.setCell (by simp) _).setCell (by simp) _).setCell (by simp) _, _, rfl, ?_, HNM.out, HL16.out⟩
                have h5 := own_below HOF.out HBW.out (Nat.le_refl _)
                have hzw := HZW.out
                exact CpR.of_own (own_block (own_block (own_block h5 (fun j hj _ => Below.heap_setCell _ _ _ j (by simp; omega))) (fun j hj _ => Below.heap_setCell _ _ _ j (by simp; omega))) (fun j hj _ => Below.heap_setCell _ _ _ j (by simp; omega)))
      · have HE := Lib.hid (hGet_unfit (s := s) HE1.out (by rw [HX.out, HFF.out]; exact hf))
        obtain ⟨p0, p1, p2, pf0, pf1, pf2⟩ := blk3 HKC.out
        go_wp2
        obtain ⟨d0, d1, d2, _⟩ := blk3 (put3 HKC.out (.int .i64 0) (.int .i64 0) (.slice none 0 0))
        refine bodyPost_ret (v := .tuple #[.agg #[.int .i64 0, .int .i64 0, .slice none 0 0], .int .i64 3]) (by simp [results, Tryd.results33, go_sem, d0, d1, d2]) rfl ?_
        obtain ⟨z1, z2, z3, z4⟩ := HE.out
        rw [z1, z2, z3, z4]
        exact ⟨((HBC.out.setCell (by simp) _).setCell (by simp) _).setCell (by simp) _, _, rfl, CpR.nil _ _, (fun c hc => by cases hc), by simp⟩
  · have HE : Hid (hGetE s = 3 ∧ hGetL s = 0 ∧ hGetM s = 0 ∧ hGetC s = []) := Lib.hid (hGet_bad (.inl (by rw [HE1.out]; exact he)))
    go_enter Tryd.func33, Tryd.ntmps33
    go_wp2_with fail
    rw [HW0.out]
    refine HC.out.mono ?_
    rintro e w1 ⟨hb1, c0, c1, c2, rfl, hy⟩
    obtain ⟨AX, kX, rfl, rfl, rfl, _⟩ := hy.open_
    have hz1 := hb1.size
    have hz0 := HZ0.out
    have hkk := HK0.out.keep hb1 (by omega)
    obtain ⟨p0, p1, p2, pf0, pf1, pf2⟩ := blk3 hkk
    have HKK := Lib.hid hkk
    have hlt : w.heap.size < w1.heap.size := by omega
    have HB2 : Hid (Below w.heap.size w w1) := Lib.hid (HB0.out.trans (hb1.mono (by omega)))
    clear hb1 hy hz1 hz0 hkk
    go_wp2_with fail
    go_quiet (fail)
    go_wp2
    obtain ⟨d0, d1, d2, _⟩ := blk3 (put3 ((HKK.out.alloc (.cells #[.string X.text, .bool X.list, .slice AX X.sub.length kX] 27)).drewN nq) (.int .i64 0) (.int .i64 0) (.slice none 0 0))
    refine bodyPost_ret (v := .tuple #[.agg #[.int .i64 0, .int .i64 0, .slice none 0 0], .int .i64 3]) (by simp [results, Tryd.results33, go_sem, d0, d1, d2]) rfl ?_
    obtain ⟨z1, z2, z3, z4⟩ := HE.out
    rw [z1, z2, z3, z4]
    exact ⟨((((HB2.out.alloc (by omega) _).drewN' nq).setCell (by simp) _).setCell (by simp) _).setCell (by simp) _, _, rfl, CpR.nil _ _, (fun c hc => by cases hc), by simp⟩
end Go.Proofs.YtacikiambpfipaaDoor
