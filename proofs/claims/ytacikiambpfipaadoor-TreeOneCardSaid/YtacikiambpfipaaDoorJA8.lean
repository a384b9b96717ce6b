/- hatchwaylaw22.alive. -/
/- rlp.Get tells getE, getX. -/
/- The document's Same, of items. -/
import Derived.Test.YtacikiambpfipaaDoorJTreePut
import Derived.Test.YtacikiambpfipaaDoorJTyGet
import Derived.Test.YtacikiambpfipaaDoorJRlpNext
import Derived.Test.YtacikiambpfipaaDoorJA4
import Derived.Test.YtacikiambpfipaaDoorJItemRef
import Derived.StillTailTactics
import Derived.Deep.Draws
namespace Go.Proofs.YtacikiambpfipaaDoor
set_option linter.unusedVariables false
set_option linter.unusedSimpArgs false
open Go.RowKit

theorem exTy2_may : exTy2.may = true := by
  simp [exTy2, Ty.may, Ty.count, Ty.deep, Ty.right, countT, deepT, rightT, tyOk]
theorem exTy2_get : readTy [123, 117, 49, 54, 44, 115, 53, 125] = some exTy2 := by rw [readTy_eq, exTy2_read]; simp [readT, exTy2_may]
def exIt22 : It := .mk ⟨#[]⟩ true [.mk ⟨#[1, 44]⟩ false [], .mk ⟨#[97, 98]⟩ false []]
theorem exIt22_fits : fitE exTy2 exIt22 = 0 := by
  unfold fitE
  rw [exTy2_may]
  simp [exTy2, exIt22, It.may, It.right, It.deep, It.count, rightL, deepL, countL, formed, It.isOf, isOfL, is1, Ty.at, lead0, ByteArray.size]
theorem exIt22_caps : capsE exIt22 2 3 = 0 := by
  rw [capsE_zero]
  simp [exIt22, It.may, It.right, It.deep, It.count, rightL, deepL, countL, formed, ByteArray.size]
theorem exIt22_rlp : exIt22.rlp = [198, 130, 1, 44, 130, 97, 98] := by
  simp [exIt22, It.rlp, rlpL, rHead, ub, ByteArray.size]
theorem exIt22_put : tPutE exTy2 exIt22 2 3 = 0 := (tPutE_zero _ _ _ _).2 ⟨exIt22_fits, exIt22_caps⟩
theorem leaf_in' (w : World) (B : Nat) (t : ByteArray) (l : Bool) (h : t.size ≤ 9223372036854775807) : ItIn w B (.mk t l []) (.string t) (.bool l) (.slice none 0 0) := ⟨rfl, rfl, h, by simp, none, 0, rfl, by simp, by simp, trivial⟩
set_option maxRecDepth 100000 in
set_option maxHeartbeats 1600000 in
theorem alive22_c (w : World) (hL : Laid w) : Calls Tryd.prog 11 #[] w fun e w' => e = .returned (.bool true) ∧ Below w.heap.size w w' := by
  have HG := Lib.hid (refGet20_c ⟨#[123, 117, 49, 54, 44, 115, 53, 125]⟩ w (by simp [ByteArray.size]))
  have HL := Lib.hid hL
  have hpos := hL.pos
  clear hL
  go_enter Tryd.func11, Tryd.ntmps11
  go_wp2_with fail
  refine HG.out.mono ?_
  rintro e w1 hend
  rw [exTy2_get] at hend
  obtain ⟨hb, c0, c1, c2, c3, rfl, hy⟩ := hend
  have hz := hb.size
  obtain ⟨AA, ccap, rfl, rfl, rfl, rfl, _⟩ := hy.open_
  obtain ⟨W1, hW1⟩ : ∃ W1, w1.alloc (.cells #[.int .i64 exTy2.kind, .int .i64 exTy2.size, .slice AA exTy2.sub.length ccap, .int .i64 exTy2.tail] 24) = W1 := ⟨_, rfl⟩
  obtain ⟨W2, hW2⟩ : ∃ W2, W1.alloc (.cells #[.string ⟨#[1, 44]⟩, .bool false, .slice none 0 0, .string ⟨#[97, 98]⟩, .bool false, .slice none 0 0] 27) = W2 := ⟨_, rfl⟩
  have hz1 : W1.heap.size = w1.heap.size + 1 := by rw [← hW1]; simp
  have hz2 : W2.heap.size = w1.heap.size + 2 := by rw [← hW2]; simp [hz1]
  have hb1 : Below w1.heap.size w1 W1 := by rw [← hW1]; exact (Below.refl _ _).alloc (Nat.le_refl _) _
  have hb2 : Below W1.heap.size W1 W2 := by rw [← hW2]; exact (Below.refl _ _).alloc (Nat.le_refl _) _
  have hbi : Blk W2 W1.heap.size 27 #[.string ⟨#[1, 44]⟩, .bool false, .slice none 0 0, .string ⟨#[97, 98]⟩, .bool false, .slice none 0 0] := by rw [← hW2]; exact Blk.new _ _ _
  have hty2 : TyIn W2 w1.heap.size exTy2 (.int .i64 exTy2.kind) (.int .i64 exTy2.size) (.slice AA exTy2.sub.length ccap) (.int .i64 exTy2.tail) := ((TyS.toIn exTy2 hy).below hb1).below (hb2.mono (by omega))
  have hit2 : ItIn W2 W2.heap.size exIt22 (.string ⟨#[]⟩) (.bool true) (.slice (some ⟨W1.heap.size, 0, none⟩) 2 2) := ⟨rfl, rfl, by simp [ByteArray.size], by simp, _, 2, rfl, by simp, by simp, ⟨_, _, _, _, _, rfl, by omega, hbi.cell 0, hbi.cell 1, hbi.cell 2, leaf_in' _ _ _ _ (by simp [ByteArray.size])⟩, ⟨_, _, _, _, _, rfl, by omega, hbi.cell 3, hbi.cell 4, hbi.cell 5, leaf_in' _ _ _ _ (by simp [ByteArray.size])⟩, trivial⟩
  have hl2 : Laid W2 := ((HL.out.below hb hpos).below hb1 (by omega)).below hb2 (by omega)
  have HF1 := Lib.hid (treePut_c exTy2 exIt22 2 3 W2.heap.size W2 _ _ _ _ _ _ _ (hty2.mono (by omega)) hit2 (Nat.le_refl _) hl2 (by rw [exIt22_rlp]; simp))
  rw [exIt22_put, if_pos rfl, exIt22_rlp] at HF1
  have HB2 : Hid (Below w.heap.size w W2) := Lib.hid (hb.trans ((hb1.mono hz).trans (hb2.mono (by omega))))
  have HZ := Lib.hid (And.intro hz (And.intro hz1 hz2))
  have HW1 := Lib.hid hW1
  have HW2 := Lib.hid hW2
  rw [hz1] at HF1
  clear hb hy hW1 hW2 hb1 hb2 hbi hty2 hit2 hl2 hz1 hz2
  generalize exTy2.kind = k0 at *
  generalize exTy2.size = k1 at *
  generalize exTy2.sub.length = k2 at *
  generalize exTy2.tail = k3 at *
  go_wp2_with fail
  rw [HW1.out]
  first | rw [HW2.out] | skip
  refine HF1.out.mono ?_
  rintro e w3 ⟨rfl, hb3⟩
  have HB3 : Hid (Below w.heap.size w w3) := Lib.hid (HB2.out.trans (hb3.mono (by have := HZ.out; omega)))
  clear hb3
  go_wp2
  go_ret
  exact ⟨rfl, HB3.out⟩
end Go.Proofs.YtacikiambpfipaaDoor
namespace Go.Proofs.YtacikiambpfipaaDoor
set_option linter.unusedVariables false
set_option linter.unusedSimpArgs false
open Go.RowKit

/-- How Get ends: the item, the error. -/
def GtEnd (w w' : World) (x : It) (er : Int) (e : Ending) : Prop :=
  Below w.heap.size w w' ∧ ∃ c0 c1 c2, e = .returned (.tuple #[.agg #[c0, c1, c2], .int .i64 er]) ∧ ItS w' (w.heap.size ≤ ·) x c0 c1 c2
theorem noIt_S (w : World) (S : Nat → Prop) : ItS w S noIt (.string ⟨#[]⟩) (.bool false) (.slice none 0 0) := ItS.text false (by simp [ByteArray.size])
theorem box3 {w W : World} {z0 z1 z2 : Value} (h : W = w.alloc (.cells #[z0, z1, z2] 27)) : Below w.heap.size w W ∧ W.heap.size = w.heap.size + 1 ∧ Blk W w.heap.size 27 #[z0, z1, z2] := by
  subst h
  exact ⟨(Below.refl _ _).alloc (Nat.le_refl _) _, by simp, Blk.new w _ _⟩
set_option maxRecDepth 100000 in
set_option maxHeartbeats 2000000 in
theorem rlpGet_c (s : ByteArray) (D M : Int) (w : World) (hs : s.size ≤ 4611686018427387904) :
    Calls Tryd.prog 76 #[.string s, .int .i64 D, .int .i64 M] w fun e w' => GtEnd w w' (getX D M s) (getE D M s) e := by
  obtain ⟨W0, hW0⟩ : ∃ W0, w.alloc (.cells #[.string ⟨#[]⟩, .bool false, .slice none 0 0] 27) = W0 := ⟨_, rfl⟩
  obtain ⟨b1, b2, b3⟩ := box3 hW0.symm
  have HC := Lib.hid (rlpNext_c s D M W0 hs)
  have HGE : Hid (getE D M s = if (rdItem D M s 1 0).e ≠ 0 then (rdItem D M s 1 0).e else if (rdItem D M s 1 0).size < s.size then 3 else 0) := Lib.hid rfl
  have HGX : Hid (getX D M s = if getE D M s ≠ 0 then noIt else (rdItem D M s 1 0).x) := Lib.hid rfl
  generalize getX D M s = X at *
  generalize getE D M s = E at *
  generalize rdItem D M s 1 0 = R at *
  obtain ⟨x, size, items, re⟩ := R
  have HB1 := Lib.hid b1
  have HB2 := Lib.hid b2
  have HB3 := Lib.hid b3
  have HW0 := Lib.hid hW0
  clear b1 b2 b3 hW0
  by_cases h0 : re = 0
  · subst h0
    by_cases h1 : size < s.size
    · have HE : Hid (E = 3 ∧ X = noIt) := Lib.hid (by
        have h2 : E = 3 := by rw [HGE.out, if_neg (by simp), if_pos h1]
        exact ⟨h2, by rw [HGX.out, if_pos (by omega)]⟩)
      clear HGE HGX
      go_enter Tryd.func76, Tryd.ntmps76
      go_wp2_with fail
      rw [HW0.out]
      refine HC.out.mono ?_
      rintro e w1 ⟨hb, _, hx⟩
      obtain ⟨c0, c1, c2, rfl, hit⟩ := hx rfl
      obtain ⟨A, k, rfl, rfl, rfl, _⟩ := hit.open_
      have HIT := Lib.hid hit
      clear hit
      have h6 := HB3.out.keep hb (by have := HB2.out; omega)
      have hz := hb.size
      have hz0 := HB2.out
      obtain ⟨p0, p1, p2, pf0, pf1, pf2⟩ := blk3 h6
      have HB6 := Lib.hid h6
      have HBB : Hid (Below w.heap.size w w1) := Lib.hid (HB1.out.trans (hb.mono (by omega)))
      have hlt : w.heap.size < w1.heap.size := by omega
      clear h6 hb hx hz hz0
      go_wp2
      obtain ⟨d0, d1, d2, _⟩ := blk3 ((put3 HB6.out (.string ⟨#[]⟩) (.bool false) (.slice none 0 0)).alloc (.cells #[.string x.text, .bool x.list, .slice A x.sub.length k] 27))
      refine bodyPost_ret (v := .tuple #[.agg #[(.string ⟨#[]⟩), (.bool false), (.slice none 0 0)], .int .i64 3]) (by simp [results, Tryd.results76, go_sem, d0, d1, d2]) rfl ?_
      rw [HE.out.1, HE.out.2]
      refine ⟨(((HBB.out.setCell (by simp) _).setCell (by simp) _).setCell (by simp) _).alloc (by simp [World.setCell]; omega) _, _, _, _, rfl, ?_⟩
      exact noIt_S _ _
    · have HE : Hid (E = 0 ∧ X = x) := Lib.hid (by
        have h2 : E = 0 := by rw [HGE.out, if_neg (by simp), if_neg h1]
        exact ⟨h2, by rw [HGX.out, if_neg (by omega)]⟩)
      clear HGE HGX
      go_enter Tryd.func76, Tryd.ntmps76
      go_wp2_with fail
      rw [HW0.out]
      refine HC.out.mono ?_
      rintro e w1 ⟨hb, _, hx⟩
      obtain ⟨c0, c1, c2, rfl, hit⟩ := hx rfl
      obtain ⟨A, k, rfl, rfl, rfl, _⟩ := hit.open_
      have HIT := Lib.hid hit
      clear hit
      have h6 := HB3.out.keep hb (by have := HB2.out; omega)
      have hz := hb.size
      have hz0 := HB2.out
      obtain ⟨p0, p1, p2, pf0, pf1, pf2⟩ := blk3 h6
      have HB6 := Lib.hid h6
      have HBB : Hid (Below w.heap.size w w1) := Lib.hid (HB1.out.trans (hb.mono (by omega)))
      have hlt : w.heap.size < w1.heap.size := by omega
      clear h6 hb hx hz hz0
      go_wp2
      obtain ⟨d0, d1, d2, _⟩ := blk3 ((put3 HB6.out (.string x.text) (.bool x.list) (.slice A x.sub.length k)).alloc (.cells #[.string x.text, .bool x.list, .slice A x.sub.length k] 27))
      refine bodyPost_ret (v := .tuple #[.agg #[(.string x.text), (.bool x.list), (.slice A x.sub.length k)], .int .i64 0]) (by simp [results, Tryd.results76, go_sem, d0, d1, d2]) rfl ?_
      rw [HE.out.1, HE.out.2]
      refine ⟨(((HBB.out.setCell (by simp) _).setCell (by simp) _).setCell (by simp) _).alloc (by simp [World.setCell]; omega) _, _, _, _, rfl, ?_⟩
      have := HB2.out
      exact HIT.out.only (((((Only.refl [w.heap.size] w1).setCell (by simp) _).setCell (by simp) _).setCell (by simp) _).alloc _) (by simp; omega) (fun k _ h => by omega)
  · have HE : Hid (E = re ∧ X = noIt) := Lib.hid (by
      have h2 : E = re := by rw [HGE.out, if_pos h0]
      exact ⟨h2, by rw [HGX.out, if_pos (by omega)]⟩)
    have k0 : (re == 0) = false := beq_eq_false_iff_ne.2 h0
    have k1 : (re != 0) = true := by simp [h0]
    have H0 := Lib.hid h0
    clear HGE HGX h0
    go_enter Tryd.func76, Tryd.ntmps76
    go_wp2_with fail
    rw [HW0.out]
    refine HC.out.mono ?_
    rintro e w1 ⟨hb, hx, _⟩
    obtain rfl := hx H0.out
    dsimp only
    have h6 := HB3.out.keep hb (by have := HB2.out; omega)
    have hz := hb.size
    have hz0 := HB2.out
    obtain ⟨p0, p1, p2, pf0, pf1, pf2⟩ := blk3 h6
    have HB6 := Lib.hid h6
    have HBB : Hid (Below w.heap.size w w1) := Lib.hid (HB1.out.trans (hb.mono (by omega)))
    have hlt : w.heap.size < w1.heap.size := by omega
    clear h6 hb hx hz hz0
    go_wp2
    obtain ⟨d0, d1, d2, _⟩ := blk3 ((put3 HB6.out (.string ⟨#[]⟩) (.bool false) (.slice none 0 0)).alloc (.cells #[.string ⟨#[]⟩, .bool false, .slice none 0 0] 27))
    refine bodyPost_ret (v := .tuple #[.agg #[.string ⟨#[]⟩, .bool false, .slice none 0 0], .int .i64 re]) (by simp [results, Tryd.results76, go_sem, d0, d1, d2]) rfl ?_
    rw [HE.out.1, HE.out.2]
    refine ⟨(((HBB.out.setCell (by simp) _).setCell (by simp) _).setCell (by simp) _).alloc (by simp [World.setCell]; omega) _, _, _, _, rfl, ?_⟩
    exact noIt_S _ _
end Go.Proofs.YtacikiambpfipaaDoor
namespace Go.Proofs.YtacikiambpfipaaDoor
set_option linter.unusedVariables false
set_option linter.unusedSimpArgs false
open Go.RowKit

def SameIs (a b : It) (e : Ending) : Prop := ∃ r : Bool, e = .returned (.bool r) ∧ (r = true ↔ a = b)
theorem SameIs.no {a b : It} (h : a ≠ b) : SameIs a b (.returned (.bool false)) := ⟨false, rfl, by simp [h]⟩
theorem SameIs.yes {a b : It} (h : a = b) : SameIs a b (.returned (.bool true)) := ⟨true, rfl, by simp [h]⟩
theorem list_eq_of {s s' : List It} (hl : s.length = s'.length) (h : ∀ j (h1 : j < s.length) (h2 : j < s'.length), s[j] = s'[j]) : s = s' := List.ext_getElem hl h
set_option maxRecDepth 100000 in
set_option maxHeartbeats 1600000 in
theorem refSame_c : ∀ (x : It) (B : Nat) (w : World) (c0 c1 c2 : Value), ItIn w B x c0 c1 c2 → B ≤ w.heap.size → ∀ (y : It) (d0 d1 d2 : Value), ItIn w B y d0 d1 d2 →
    Calls Tryd.prog 15 #[.agg #[c0, c1, c2], .agg #[d0, d1, d2]] w fun e w' => SameIs x y e ∧ Below w.heap.size w w' := by
  intro x
  induction x using It.ind with
  | h t l s ih =>
    intro B w c0 c1 c2 h hB y d0 d1 d2 hy
    obtain ⟨rfl, rfl, ht, hs, A, cap, rfl, hcap, hcm, hsub⟩ := h
    have IH := Lib.hid ih
    have HS := Lib.hid hsub
    clear ih hsub
    obtain ⟨t', l', s'⟩ := y
    obtain ⟨rfl, rfl, ht', hs', A', cap', rfl, hcap', hcm', hsub'⟩ := hy
    have HS' := Lib.hid hsub'
    clear hsub'
    by_cases h1 : l = l'
    · subst h1
      have e1 : (l != l) = false := by simp
      have e1' : (l == l) = true := by simp
      rcases str_ways t t' with ⟨rfl, q1, q2⟩ | ⟨hne, q1, q2⟩
      · by_cases h3 : s.length = s'.length
        · have H3 := Lib.hid h3
          have e3 : ((s.length : Int) != (s'.length : Int)) = false := by simp [h3]
          have e3' : (s.length != s'.length) = false := by simp [h3]
          clear h3
          go_enter Tryd.func15, Tryd.ntmps15
          go_wp2_with fail
          go_loopw [5] (fun i wr => ∃ k : Nat, k ≤ s.length ∧ i = .int .i64 k ∧ Hid (∀ j (h1 : j < s.length) (h2 : j < s'.length), j < k → s[j] = s'[j]) ∧ Below w.heap.size w wr ∧ Blk wr w.heap.size 27 #[.string t, .bool l, .slice A s.length cap] ∧ Blk wr (w.heap.size + 1) 27 #[.string t, .bool l, .slice A' s'.length cap']) (fun i _ => s.length - (intOf i).toNat)
          case atStart => exact ⟨0, by omega, rfl, Lib.hid (by omega), (by repeat (first | exact Below.refl _ _ | assumption | with_reducible refine Below.drewN' ?_ _ | with_reducible refine Below.drew ?_ | ((with_reducible refine Below.alloc' ?_ ?_ _); · (first | omega | (simp <;> omega))))), (Blk.new w _ _).alloc _, by have := Blk.new (w.alloc (.cells #[.string t, .bool l, .slice A s.length cap] 27)) 27 #[.string t, .bool l, .slice A' s'.length cap']; simpa using this⟩
          case round =>
            obtain ⟨k, hk, rfl, hag, hb, hk1, hk2⟩ := hrel
            have g1 : wr.cell? ⟨w.heap.size, 2, none⟩ = some (.slice A s.length cap) := hk1.cell 2
            have g2 : wr.cell? ⟨w.heap.size + 1, 2, none⟩ = some (.slice A' s'.length cap') := hk2.cell 2
            have hl1 := hk2.lt
            have K1 := Lib.hid hk1
            have K2 := Lib.hid hk2
            clear hk1 hk2
            by_cases hlt : k < s.length
            · have hlt' : k < s'.length := by have := H3.out; omega
              obtain ⟨b, o, d0, d1, d2, rfl, hbB, e0, e1, e2, hi⟩ := HS.out.at_ k hlt
              obtain ⟨b', o', d0', d1', d2', rfl, hbB', e0', e1', e2', hi'⟩ := HS'.out.at_ k hlt'
              simp only [Nat.zero_add] at e0 e1 e2 e0' e1' e2'
              replace e0 := (hb.cell (p := ⟨b, o + k * 3, none⟩) (by simp; omega)).trans e0
              replace e1 := (hb.cell (p := ⟨b, o + k * 3 + 1, none⟩) (by simp; omega)).trans e1
              replace e2 := (hb.cell (p := ⟨b, o + k * 3 + 2, none⟩) (by simp; omega)).trans e2
              replace e0' := (hb.cell (p := ⟨b', o' + k * 3, none⟩) (by simp; omega)).trans e0'
              replace e1' := (hb.cell (p := ⟨b', o' + k * 3 + 1, none⟩) (by simp; omega)).trans e1'
              replace e2' := (hb.cell (p := ⟨b', o' + k * 3 + 2, none⟩) (by simp; omega)).trans e2'
              have hbz := hb.size
              have hmem := List.getElem_mem hlt
              have HC := Lib.hid (IH.out _ hmem B wr.drew d0 d1 d2 ((hi.below (hb.mono hB)).below (Below.refl _ _).drew) (by simp; omega) _ d0' d1' d2' ((hi'.below (hb.mono hB)).below (Below.refl _ _).drew))
              clear hi hi'
              go_wp2_with fail
              go_still_tail 10, (by kernel_rfl)
              change wpList _ _ _ _ _ wr.drew
              go_wp2_with fail
              refine HC.out.mono ?_
              rintro e w2 ⟨⟨r, rfl, hr⟩, hb2⟩
              have HR := Lib.hid hr
              have HB2 := Lib.hid hb2
              clear hr hb2
              cases r with
              | true =>
                go_wp2
                go_roundw
                case rel =>
                  refine ⟨k + 1, by omega, by go_num, Lib.hid fun j h1 h2 hj => ?_, hb.drew.trans (HB2.out.mono (by simpa using hbz)), K1.out.drew.keep HB2.out (by simp; omega), K2.out.drew.keep HB2.out (by simpa using hl1)⟩
                  by_cases hjk : j = k
                  · subst hjk; exact HR.out.1 (by simp)
                  · exact hag.out j h1 h2 (by omega)
                case measure => simp [intOf]; omega
              | false =>
                have HN : Hid (It.mk t l s ≠ It.mk t l s') := Lib.hid (by
                  intro e
                  injection e with _ _ e
                  subst e
                  have := HR.out.2 rfl; simp at this)
                go_wp2
                go_ret
                exact ⟨SameIs.no HN.out, hb.drew.trans (HB2.out.mono (by simpa using hbz))⟩
            · have HE : Hid (It.mk t l s = It.mk t l s') := Lib.hid (by rw [list_eq_of H3.out (fun j h1 h2 => hag.out j h1 h2 (by omega))])
              go_wp2
              go_ret
              exact ⟨SameIs.yes HE.out, hb⟩
        · have HN : Hid (It.mk t l s ≠ It.mk t l s') := Lib.hid (by intro e; injection e with _ _ e; exact h3 (by rw [e]))
          have e3 : ((s.length : Int) != (s'.length : Int)) = true := by simp; omega
          have e3' : (s.length != s'.length) = true := by simp; omega
          clear h3
          go_enter Tryd.func15, Tryd.ntmps15
          go_wp2
          go_ret
          exact ⟨SameIs.no HN.out, (by repeat (first | exact Below.refl _ _ | assumption | with_reducible refine Below.drewN' ?_ _ | with_reducible refine Below.drew ?_ | ((with_reducible refine Below.alloc' ?_ ?_ _); · (first | omega | (simp <;> omega)))))⟩
      · have HN : Hid (It.mk t l s ≠ It.mk t' l s') := Lib.hid (by intro e; injection e with e; exact hne e)
        clear hne
        go_enter Tryd.func15, Tryd.ntmps15
        go_wp2
        go_ret
        exact ⟨SameIs.no HN.out, (by repeat (first | exact Below.refl _ _ | assumption | with_reducible refine Below.drewN' ?_ _ | with_reducible refine Below.drew ?_ | ((with_reducible refine Below.alloc' ?_ ?_ _); · (first | omega | (simp <;> omega)))))⟩
    · have HN : Hid (It.mk t l s ≠ It.mk t' l' s') := Lib.hid (by intro e; injection e with _ e; exact h1 e)
      cases l <;> cases l'
      · exact absurd rfl h1
      · clear h1
        go_enter Tryd.func15, Tryd.ntmps15
        go_wp2
        go_ret
        exact ⟨SameIs.no HN.out, (by repeat (first | exact Below.refl _ _ | assumption | with_reducible refine Below.drewN' ?_ _ | with_reducible refine Below.drew ?_ | ((with_reducible refine Below.alloc' ?_ ?_ _); · (first | omega | (simp <;> omega)))))⟩
      · clear h1
        go_enter Tryd.func15, Tryd.ntmps15
        go_wp2
        go_ret
        exact ⟨SameIs.no HN.out, (by repeat (first | exact Below.refl _ _ | assumption | with_reducible refine Below.drewN' ?_ _ | with_reducible refine Below.drew ?_ | ((with_reducible refine Below.alloc' ?_ ?_ _); · (first | omega | (simp <;> omega)))))⟩
      · exact absurd rfl h1
end Go.Proofs.YtacikiambpfipaaDoor
