/- The document's Get, of types. -/
import Derived.Test.YtacikiambpfipaaDoorJA7
import Derived.Test.YtacikiambpfipaaDoorJTyMay
namespace Go.Proofs.YtacikiambpfipaaDoor
set_option linter.unusedVariables false
set_option linter.unusedSimpArgs false
open Go.RowKit

theorem tLoop_count {p : List UInt8 → Option (Ty × List UInt8)} (hp : ∀ l y r, p l = some (y, r) → y.count + r.length ≤ l.length) : ∀ n l acc tl y r, tLoop p n l acc tl = some (y, r) → y.count + r.length ≤ countT acc + l.length
  | 0, _, _, _, _, _, h => by simp [tLoop] at h
  | n + 1, [], _, _, _, _, h => by simp [tLoop] at h
  | n + 1, c :: l, acc, tl, y, r, h => by
    unfold tLoop at h
    split at h
    · injection h with h; injection h with h1 h2
      rw [← h1, ← h2]; simp [Ty.count]; omega
    · split at h
      · cases h
      · rename_i l1 h1
        split at h
        · cases h
        · rename_i l2 tl' h2
          split at h
          · cases h
          · rename_i y' r' h3
            have k1 := (tSep_some h1).length_le
            have k2 := (tQ_some h2).length_le
            have k3 := hp _ _ _ h3
            have k4 := tLoop_count hp n _ _ _ _ _ h
            rw [countT_append] at k4
            simp only [countT] at k4
            omega
theorem tItem_count : ∀ (f : Nat) (l : List UInt8) (y : Ty) (r : List UInt8), tItem f l = some (y, r) → y.count + r.length ≤ l.length
  | 0, _, _, _, h => by simp [tItem] at h
  | f + 1, [], _, _, h => by simp [tItem] at h
  | f + 1, c :: l, y, r, h => by
    have hl := (tItem_sfx _ _ _ _ h).2
    have hs := tItem_sfx _ _ _ _ h
    unfold tItem at h
    split at h
    · split at h
      · cases h
      · split at h
        · injection h with h; injection h with h1 h2; subst h1; simp [Ty.count, countT] at hl ⊢; omega
        · cases h
    · split at h
      · split at h
        · cases h
        · injection h with h; injection h with h1 h2; subst h1; simp [Ty.count, countT] at hl ⊢; omega
      · split at h
        · split at h
          · cases h
          · injection h with h; injection h with h1 h2; subst h1; simp [Ty.count, countT] at hl ⊢; omega
        · split at h
          · split at h
            · cases h
            · rename_i x r' h1
              have k1 := tItem_count f _ _ _ h1
              have k2 := tTail_sfx h
              have k3 : y.count = 1 + x.count := by
                unfold tTail at h
                match r', h with
                | d :: r', h =>
                  simp only at h
                  split at h
                  · split at h
                    · cases h
                    · cases h
                    · split at h
                      · injection h with h; injection h with h3 h4; rw [← h3]; simp [Ty.count, countT]
                      · cases h
                  · cases h
              have := k2.2
              simp; omega
          · split at h
            · have k := tLoop_count (tItem_count f) _ _ _ _ _ _ h
              simp [countT] at k ⊢; omega
            · cases h
def readT : Option (Ty × List UInt8) → Option Ty
  | none => none
  | some (x, []) => if x.may then some x else none
  | some (_, _ :: _) => none
theorem readTy_eq (l : List UInt8) : readTy l = readT (tItem 8 l) := by
  unfold readTy
  rcases tItem 8 l with _ | ⟨x, r⟩
  · rfl
  · cases r <;> rfl
def GetEnd20 (w : World) (R : Option Ty) (e : Ending) (w' : World) : Prop :=
  Below w.heap.size w w' ∧ match R with
    | none => e = .returned (.tuple #[.agg #[.int .i64 0, .int .i64 0, .slice none 0 0, .int .i64 0], .int .i64 3])
    | some x => ∃ c0 c1 c2 c3, e = .returned (.tuple #[.agg #[c0, c1, c2, c3], .int .i64 0]) ∧ TyS w' (w.heap.size ≤ ·) x c0 c1 c2 c3
set_option maxRecDepth 100000 in
set_option maxHeartbeats 1600000 in
theorem refGet20_c (s : ByteArray) (w : World) (hs : s.size ≤ 100000) :
    Calls Tryd.prog 37 #[.string s] w fun e w' => GetEnd20 w (readTy s.data.toList) e w' := by
  have HC := Lib.hid (tyParse_c 8 1 rfl s 0 (w.alloc (.cells #[.int .i64 0, .int .i64 0, .slice none 0 0, .int .i64 0] 24)) (Nat.zero_le _) hs)
  obtain ⟨T, HT⟩ : ∃ T, Hid (tItem 8 s.data.toList = T) := ⟨_, Lib.hid rfl⟩
  rw [List.drop_zero, HT.out] at HC
  obtain ⟨R, HR⟩ : ∃ R, Hid (readTy s.data.toList = R) := ⟨_, Lib.hid rfl⟩
  rw [HR.out]
  have HRD : Hid (readT T = R) := Lib.hid (by rw [← HR.out, readTy_eq, HT.out])
  clear HR
  cases T with
  | none =>
    have HE : Hid (R = none) := Lib.hid HRD.out.symm
    go_enter Tryd.func37, Tryd.ntmps37
    go_wp2_with fail
    refine HC.out.mono ?_
    rintro e w4 ⟨hb, v0, v1, rfl⟩
    have hbk := (Blk.new w 24 #[.int .i64 0, .int .i64 0, .slice none 0 0, .int .i64 0]).keep hb (by simp)
    have HBK := Lib.hid hbk
    obtain ⟨r0, r1, r2, r3, rf0, rf1, rf2, rf3⟩ := blk4 hbk
    have hz := hb.size
    simp only [World.size_alloc] at hz
    have hlw : w.heap.size < w4.heap.size := by omega
    have HB4 : Hid (Below w.heap.size w w4) := Lib.hid (((Below.refl w.heap.size w).alloc (Nat.le_refl _) _).trans (hb.mono (by simp)))
    clear hb hbk
    have n1 : ((-1 : Int) != (s.size : Int)) = true := by simp
    go_wp2
    refine bodyPost_ret (v := .tuple #[.agg #[.int .i64 0, .int .i64 0, .slice none 0 0, .int .i64 0], .int .i64 3]) (by simp [results, Tryd.results37, go_sem, r0, r1, r2, r3, World.cell?_alloc_lt, hlw]) rfl ?_
    rw [HE.out]
    exact ⟨(((((HB4.out.setCell (by simp) _).setCell (by simp) _).setCell (by simp) _).setCell (by simp) _).alloc (by simp [World.setCell]; omega) _), rfl⟩
  | some z =>
    obtain ⟨x, r⟩ := z
    have hcnt := tItem_count _ _ _ _ HT.out
    have hlen := (tItem_sfx _ _ _ _ HT.out).2
    rw [toList_size] at hcnt hlen
    cases r with
    | cons c r =>
      have HE : Hid (R = none) := Lib.hid HRD.out.symm
      have n1 : (((s.size - (c :: r).length : Nat) : Int) != (s.size : Int)) = true := by simp at hlen ⊢; omega
      have n2 : ((s.size - (c :: r).length) != s.size) = true := by simp at hlen ⊢; omega
      generalize s.size - (c :: r).length = q at *
      go_enter Tryd.func37, Tryd.ntmps37
      go_wp2_with fail
      refine HC.out.mono ?_
      rintro e w4 ⟨hb, c0, c1, c2, c3, rfl, hy⟩
      obtain ⟨AA, ccap, rfl, rfl, rfl, rfl, _⟩ := hy.open_
      have hbk := (Blk.new w 24 #[.int .i64 0, .int .i64 0, .slice none 0 0, .int .i64 0]).keep hb (by simp)
      have HBK := Lib.hid hbk
      obtain ⟨r0, r1, r2, r3, rf0, rf1, rf2, rf3⟩ := blk4 hbk
      have hz := hb.size
      simp only [World.size_alloc] at hz
      have hlw : w.heap.size < w4.heap.size := by omega
      have HB4 : Hid (Below w.heap.size w w4) := Lib.hid (((Below.refl w.heap.size w).alloc (Nat.le_refl _) _).trans (hb.mono (by simp)))
      clear hb hbk
      go_wp2
      refine bodyPost_ret (v := .tuple #[.agg #[.int .i64 0, .int .i64 0, .slice none 0 0, .int .i64 0], .int .i64 3]) (by simp [results, Tryd.results37, go_sem, r0, r1, r2, r3, World.cell?_alloc_lt, hlw]) rfl ?_
      rw [HE.out]
      exact ⟨(((((HB4.out.setCell (by simp) _).setCell (by simp) _).setCell (by simp) _).setCell (by simp) _).alloc (by simp [World.setCell]; omega) _), rfl⟩
    | nil =>
      have n1 : ((s.size : Int) != (s.size : Int)) = false := by simp
      have n2 : (s.size != s.size) = false := by simp
      have HCN := Lib.hid hcnt
      obtain ⟨m, hm⟩ : ∃ m, x.may = m := ⟨_, rfl⟩
      have HE : Hid (R = if m then some x else none) := Lib.hid (by rw [← hm]; exact HRD.out.symm)
      clear hcnt hlen
      go_enter Tryd.func37, Tryd.ntmps37
      go_wp2_with fail
      refine HC.out.mono ?_
      rintro e w4 ⟨hb, c0, c1, c2, c3, rfl, hy⟩
      have HY := Lib.hid hy
      obtain ⟨AA, ccap, rfl, rfl, rfl, rfl, _⟩ := hy.open_
      have hbk := (Blk.new w 24 #[.int .i64 0, .int .i64 0, .slice none 0 0, .int .i64 0]).keep hb (by simp)
      have HBK := Lib.hid hbk
      obtain ⟨r0, r1, r2, r3, rf0, rf1, rf2, rf3⟩ := blk4 hbk
      have hz := hb.size
      simp only [World.size_alloc] at hz
      have hlw : w.heap.size < w4.heap.size := by omega
      have HB4 : Hid (Below w.heap.size w w4) := Lib.hid (((Below.refl w.heap.size w).alloc (Nat.le_refl _) _).trans (hb.mono (by simp)))
      clear hb hbk
      have hin := TyS.toIn x (HY.out.below ((Below.refl _ _).alloc (Nat.le_refl _) (.cells #[.int .i64 x.kind, .int .i64 x.size, .slice AA x.sub.length ccap, .int .i64 x.tail] 24)))
      have HM := Lib.hid (may20_c x _ (w4.alloc (.cells #[.int .i64 x.kind, .int .i64 x.size, .slice AA x.sub.length ccap, .int .i64 x.tail] 24)) _ _ _ _ hin (Nat.le_refl _) (by have := HCN.out; omega))
      rw [hm] at HM
      have HXO := Lib.hid hm
      clear hin hm hy
      have HS0 : Hid (s.size - ([] : List UInt8).length = s.size) := Lib.hid rfl
      go_wp2_with fail
      refine HM.out.mono ?_
      rintro e w5 ⟨rfl, hb5⟩
      have hz5 := hb5.size
      simp only [World.size_alloc] at hz5
      clear r0 r1 r2 r3 rf0 rf1 rf2 rf3
      obtain ⟨r0, r1, r2, r3, rf0, rf1, rf2, rf3⟩ := blk4 ((HBK.out.alloc _).keep hb5 (by simp; omega))
      obtain ⟨b0, b1, b2, b3, bf0, bf1, bf2, bf3⟩ := blk4 ((Blk.new w4 24 #[.int .i64 x.kind, .int .i64 x.size, .slice AA x.sub.length ccap, .int .i64 x.tail]).keep hb5 (by simp))
      have HB5 : Hid (Below w.heap.size w w5) := Lib.hid ((HB4.out.alloc (by omega) _).trans (hb5.mono (by simp; omega)))
      have HY5 := Lib.hid ((HY.out.below ((Below.refl _ _).alloc (Nat.le_refl _) (.cells #[.int .i64 x.kind, .int .i64 x.size, .slice AA x.sub.length ccap, .int .i64 x.tail] 24))).below hb5)
      clear hb5
      cases m with
      | true =>
        go_wp2
        refine bodyPost_ret (v := .tuple #[.agg #[.int .i64 x.kind, .int .i64 x.size, .slice AA x.sub.length ccap, .int .i64 x.tail], .int .i64 0]) (by simp [results, Tryd.results37, go_sem, r0, r1, r2, r3]) rfl ?_
        rw [HE.out]
        refine ⟨(((HB5.out.setCell (by simp) _).setCell (by simp) _).setCell (by simp) _).setCell (by simp) _, _, _, _, _, rfl, ?_⟩
        refine HY5.out.only (L := [w.heap.size]) (by repeat (first | exact Only.refl _ _ | assumption | with_reducible refine Only.drewN ?_ _ | with_reducible refine Only.drew ?_ | with_reducible refine Only.alloc ?_ _ | ((with_reducible refine Only.put ?_ ?_ _); · (first | omega | (simp <;> omega))))) ?_ ?_
        · intro k hk hs
          have hk : k = w.heap.size := by simpa using hk
          have hs : (w.alloc (.cells #[.int .i64 0, .int .i64 0, .slice none 0 0, .int .i64 0] 24)).heap.size ≤ k := hs
          simp at hs
          omega
        · intro k _ hs
          have hs : (w.alloc (.cells #[.int .i64 0, .int .i64 0, .slice none 0 0, .int .i64 0] 24)).heap.size ≤ k := hs
          simp at hs
          show w.heap.size ≤ k
          omega
      | false =>
        go_wp2
        refine bodyPost_ret (v := .tuple #[.agg #[.int .i64 0, .int .i64 0, .slice none 0 0, .int .i64 0], .int .i64 3]) (by simp [results, Tryd.results37, go_sem, r0, r1, r2, r3, World.cell?_alloc_lt, hlw]) rfl ?_
        rw [HE.out]
        exact ⟨(((HB5.out.setCell (by simp) _).setCell (by simp) _).setCell (by simp) _).setCell (by simp) _, rfl⟩
end Go.Proofs.YtacikiambpfipaaDoor
