/- hatchwaylaw08.alive; the document's Read. -/
import Derived.Test.YtcidcjghglgkhaaItemRead3
import Derived.Test.YtcidcjghglgkhaaItemParse
namespace Go.Proofs.Ytcidcjghglgkhaa
set_option linter.unusedVariables false
set_option linter.unusedSimpArgs false
open Go.RowKit

theorem show_pos (x : It) : 1 ≤ x.show.length := by
  cases x with
  | mk t l s =>
    cases l with
    | true => simp [It.show]
    | false =>
      by_cases h : t.size = 0
      · simp [It.show, h]
      · have : 1 ≤ t.size := by omega
        simp [It.show, h, hxL_length]; omega
theorem countL_show (s : List It) (ih : ∀ x ∈ s, x.right = true → x.count ≤ x.show.length) : ∀ f, rightL s = true → countL s ≤ (showL f s).length := by
  induction s with
  | nil => intro f _; simp [countL]
  | cons x xs hxs =>
    intro f h
    simp only [rightL, Bool.and_eq_true] at h
    have h1 := ih x (by simp) h.1
    have h2 := hxs (fun y hy => ih y (by simp [hy])) false h.2
    simp only [countL, showL, List.length_append]; omega
theorem count_show (x : It) : x.right = true → x.count ≤ x.show.length := by
  induction x using It.ind with
  | h t l s ih =>
    intro h
    have hp := show_pos (.mk t l s)
    simp only [It.right, Bool.and_eq_true] at h
    cases l with
    | true =>
      have := countL_show s ih true h.2
      simp only [It.count, It.show, if_true, List.length_cons, List.length_append, List.length_nil]; omega
    | false =>
      have hs : s = [] := List.eq_nil_of_length_eq_zero (by simpa [formed] using h.1)
      subst hs
      simpa [It.count, countL] using hp
theorem rItem_whole {f : Nat} {l : List UInt8} {x : It} (h : rItem f l = some (x, [])) : x.right = true ∧ x.count ≤ l.length := by
  have h1 := rItem_p f x.count l x [] h rfl (Nat.le_refl _)
  have h2 := (pItem_r _ _ _ _ _ _ h1).2.2.2
  have h3 := rItem_show _ _ _ _ h
  rw [List.append_nil] at h3
  exact ⟨h2, by rw [h3]; exact count_show x h2⟩
theorem readR_none {l : List UInt8} (h : rItem 16 l = none) : readIt l = none := by unfold readIt; rw [h]
theorem readR_part {l : List UInt8} {x : It} {c : UInt8} {r : List UInt8} (h : rItem 16 l = some (x, c :: r)) : readIt l = none := by unfold readIt; rw [h]
theorem readR_whole {l : List UInt8} {x : It} (h : rItem 16 l = some (x, [])) : readIt l = if x.may = true then some x else none := by unfold readIt; rw [h]
set_option maxRecDepth 100000 in
set_option maxHeartbeats 800000 in
theorem refRead_c (s : ByteArray) (w : World) (hs : s.size ≤ 100000) :
    Calls Try.prog 37 #[.string s] w fun e w' => ReadEnd w (readIt s.data.toList) e w' := by
  have HC := Lib.hid (parse_c 16 1 rfl s 0 (w.alloc (.cells #[.string ⟨#[]⟩, .bool false, .slice none 0 0] 24)) (Nat.zero_le _) hs)
  obtain ⟨T, HT⟩ : ∃ T, Hid (rItem 16 s.data.toList = T) := ⟨_, Lib.hid rfl⟩
  rw [List.drop_zero, HT.out] at HC
  obtain ⟨R, HR⟩ : ∃ R, Hid (readIt s.data.toList = R) := ⟨_, Lib.hid rfl⟩
  rw [HR.out]
  go_enter Try.func37, Try.ntmps37
  go_wp2_with fail
  refine HC.out.mono ?_
  rintro e w4 hend
  cases T with
  | none =>
    obtain ⟨hb, rfl⟩ := hend
    have HE : Hid (R = none) := Lib.hid (by rw [← HR.out, readR_none HT.out])
    obtain ⟨r0, r1, r2, rf0, rf1, rf2⟩ := blk3 ((Blk.new w 24 #[.string ⟨#[]⟩, .bool false, .slice none 0 0]).keep hb (by simp))
    have hz := hb.size
    simp only [World.size_alloc] at hz
    have hlw : w.heap.size < w4.heap.size := by omega
    have HB4 : Hid (Below w.heap.size w w4) := Lib.hid (((Below.refl w.heap.size w).alloc (Nat.le_refl _) _).trans (hb.mono (by simp)))
    have n1 : ((-1 : Int) != (s.size : Int)) = true := by simp
    clear hb
    go_wp2
    refine bodyPost_ret (v := .tuple #[.agg #[.string ⟨#[]⟩, .bool false, .slice none 0 0], .int .i64 3]) (by simp [results, Try.results37, go_sem, r0, r1, r2, World.cell?_alloc_lt, hlw]) rfl ?_
    rw [HE.out]
    exact ⟨((((HB4.out.setCell (by simp) _).setCell (by simp) _).setCell (by simp) _).alloc (by simp [World.setCell]; omega) _), rfl⟩
  | some z =>
    obtain ⟨x, r⟩ := z
    obtain ⟨hb, c0, c1, c2, rfl, hy⟩ := hend
    obtain ⟨r0, r1, r2, rf0, rf1, rf2⟩ := blk3 ((Blk.new w 24 #[.string ⟨#[]⟩, .bool false, .slice none 0 0]).keep hb (by simp))
    have hbk := (Blk.new w 24 #[.string ⟨#[]⟩, .bool false, .slice none 0 0]).keep hb (by simp)
    have HBK := Lib.hid hbk
    have hz := hb.size
    simp only [World.size_alloc] at hz
    have hlw : w.heap.size < w4.heap.size := by omega
    have HB4 : Hid (Below w.heap.size w w4) := Lib.hid (((Below.refl w.heap.size w).alloc (Nat.le_refl _) _).trans (hb.mono (by simp)))
    have HY := Lib.hid hy
    have HLN := Lib.hid (rItem_len _ _ _ _ HT.out)
    obtain ⟨AA, ccap, rfl, rfl, rfl, _⟩ := hy.open_
    clear hb hy hbk
    cases r with
    | cons c r =>
      have HE : Hid (R = none) := Lib.hid (by rw [← HR.out, readR_part HT.out])
      have n1 : (((s.size - (c :: r).length : Nat) : Int) != (s.size : Int)) = true := by
        have := HLN.out
        rw [toList_size] at this
        simp at this ⊢
        omega
      have n2 : ((s.size - (c :: r).length) != s.size) = true := by
        have := HLN.out
        rw [toList_size] at this
        simp at this ⊢
        omega
      generalize s.size - (c :: r).length = q at *
      go_wp2
      refine bodyPost_ret (v := .tuple #[.agg #[.string ⟨#[]⟩, .bool false, .slice none 0 0], .int .i64 3]) (by simp [results, Try.results37, go_sem, r0, r1, r2, World.cell?_alloc_lt, hlw]) rfl ?_
      rw [HE.out]
      exact ⟨((((HB4.out.setCell (by simp) _).setCell (by simp) _).setCell (by simp) _).alloc (by simp [World.setCell]; omega) _), rfl⟩
    | nil =>
      obtain ⟨hrx, hcx⟩ := rItem_whole HT.out
      rw [toList_size] at hcx
      have hin := (HY.out.below ((Below.refl _ _).alloc (Nat.le_refl _) (.cells #[.string x.text, .bool x.list, .slice AA x.sub.length ccap] 24))).toIn
      have HM := Lib.hid (refMay_c x _ (w4.alloc (.cells #[.string x.text, .bool x.list, .slice AA x.sub.length ccap] 24)) _ _ _ hin (Nat.le_refl _) (by omega))
      have n1 : ((s.size : Int) != (s.size : Int)) = false := by simp
      have n2 : (s.size != s.size) = false := by simp
      clear hin
      cases hm : x.may with
      | true =>
        have HE : Hid (R = some x) := Lib.hid (by rw [← HR.out, readR_whole HT.out, if_pos hm])
        rw [hm] at HM
        clear hm
        go_wp2_with fail
        refine HM.out.mono ?_
        rintro e w5 ⟨rfl, hb5⟩
        have hz5 := hb5.size
        simp only [World.size_alloc] at hz5
        clear r0 r1 r2 rf0 rf1 rf2
        obtain ⟨r0, r1, r2, rf0, rf1, rf2⟩ := blk3 ((HBK.out.alloc _).keep hb5 (by simp; omega))
        obtain ⟨b0, b1, b2, bf0, bf1, bf2⟩ := blk3 ((Blk.new w4 24 #[.string x.text, .bool x.list, .slice AA x.sub.length ccap]).keep hb5 (by simp))
        have HB5 : Hid (Below w.heap.size w w5) := Lib.hid ((HB4.out.alloc (by omega) _).trans (hb5.mono (by simp; omega)))
        have HY5 := Lib.hid ((HY.out.below ((Below.refl _ _).alloc (Nat.le_refl _) (.cells #[.string x.text, .bool x.list, .slice AA x.sub.length ccap] 24))).below hb5)
        clear hb5
        go_wp2
        refine bodyPost_ret (v := .tuple #[.agg #[.string x.text, .bool x.list, .slice AA x.sub.length ccap], .int .i64 0]) (by simp [results, Try.results37, go_sem, r0, r1, r2]) rfl ?_
        rw [HE.out]
        refine ⟨((HB5.out.setCell (by simp) _).setCell (by simp) _).setCell (by simp) _, _, _, _, rfl, ?_⟩
        refine HY5.out.only (L := [w.heap.size]) (by repeat (first | exact Only.refl _ _ | assumption | with_reducible refine Only.drewN ?_ _ | with_reducible refine Only.drew ?_ | with_reducible refine Only.alloc ?_ _ | ((with_reducible refine Only.put ?_ ?_ _); · (first | omega | (simp <;> omega))))) ?_ ?_
        · intro k hk hs
          simp at hk hs
          omega
        · intro k _ hs
          simp at hs
          show w.heap.size ≤ k
          omega
      | false =>
        have HE : Hid (R = none) := Lib.hid (by rw [← HR.out, readR_whole HT.out, if_neg (by simp [hm])])
        rw [hm] at HM
        clear hm
        go_wp2_with fail
        refine HM.out.mono ?_
        rintro e w5 ⟨rfl, hb5⟩
        have hz5 := hb5.size
        simp only [World.size_alloc] at hz5
        clear r0 r1 r2 rf0 rf1 rf2 hlw
        obtain ⟨r0, r1, r2, rf0, rf1, rf2⟩ := blk3 ((HBK.out.alloc _).keep hb5 (by simp; omega))
        have hlw : w.heap.size < w5.heap.size := by omega
        have HB5 : Hid (Below w.heap.size w w5) := Lib.hid ((HB4.out.alloc (by omega) _).trans (hb5.mono (by simp; omega)))
        clear hb5
        go_wp2
        refine bodyPost_ret (v := .tuple #[.agg #[.string ⟨#[]⟩, .bool false, .slice none 0 0], .int .i64 3]) (by simp [results, Try.results37, go_sem, r0, r1, r2, World.cell?_alloc_lt, hlw]) rfl ?_
        rw [HE.out]
        exact ⟨((HB5.out.setCell (by simp) _).setCell (by simp) _).setCell (by simp) _, rfl⟩

/-- The document's example. -/
def aliveIt : It := .mk ⟨#[]⟩ true [.mk ⟨#[97]⟩ false [], .mk ⟨#[]⟩ false [], .mk ⟨#[]⟩ true []]
theorem aliveIt_may : aliveIt.may = true := by
  simp [aliveIt, It.may, It.right, It.deep, It.count, rightL, deepL, countL, formed, ByteArray.size]
theorem aliveIt_show : aliveIt.show = [40, 54, 49, 32, 45, 32, 40, 41, 41] := by
  simp [aliveIt, It.show, showL, hxL, hx, hxd, ByteArray.size]
set_option maxRecDepth 100000 in
set_option maxHeartbeats 800000 in
theorem itemAlive (w : World) : Calls Try.prog 12 #[] w fun e w' => e = .returned (.bool true) ∧ Below w.heap.size w w' := by
  go_enter Try.func12, Try.ntmps12
  go_wp2_with fail
  refine (text_c ⟨#[97]⟩ _).mono ?_
  rintro e w1 ⟨rfl, hb1⟩
  go_wp2_with fail
  refine (text_c ⟨#[]⟩ _).mono ?_
  rintro e w2 ⟨rfl, hb2⟩
  go_wp2_with fail
  refine (list_c [] none 0 0 _ trivial (Nat.zero_le _) (by simp)).mono ?_
  rintro e w3 ⟨⟨c2, rfl, hl⟩, hb3⟩
  have HB3 : Hid (Below w.heap.size w w3) := Lib.hid (hb1.trans ((hb2.mono hb1.size).trans (hb3.mono (Nat.le_trans hb1.size hb2.size))))
  have HL := Lib.hid (hl.below ((Below.refl _ _).alloc (Nat.le_refl _) (.cells #[.string ⟨#[97]⟩, .bool false, .slice none 0 0, .string ⟨#[]⟩, .bool false, .slice none 0 0, .string ⟨#[]⟩, .bool true, c2] 24)))
  obtain ⟨A, cap, _, _, rfl, _⟩ := hl.open_
  have hits : ItsIn (w3.alloc (.cells #[.string ⟨#[97]⟩, .bool false, .slice none 0 0, .string ⟨#[]⟩, .bool false, .slice none 0 0, .string ⟨#[]⟩, .bool true, .slice A 0 cap] 24)) (w3.heap.size + 1) [.mk ⟨#[97]⟩ false [], .mk ⟨#[]⟩ false [], .mk ⟨#[]⟩ true []] (some ⟨w3.heap.size, 0, none⟩) 0 := by
    refine ⟨⟨_, _, _, _, _, rfl, by simp, by simp, by simp, by simp, ⟨rfl, rfl, by simp [ByteArray.size], by simp, none, 0, rfl, by simp, by simp, trivial⟩⟩, ⟨_, _, _, _, _, rfl, by simp, by simp, by simp, by simp, ⟨rfl, rfl, by simp [ByteArray.size], by simp, none, 0, rfl, by simp, by simp, trivial⟩⟩, ⟨_, _, _, _, _, rfl, by simp, by simp, by simp, by simp, HL.out.mono (by omega)⟩, trivial⟩
  have HC := Lib.hid (list_c _ _ _ 3 _ hits (by simp) (by simp))
  clear hl hits hb1 hb2 hb3
  go_wp2_with fail
  refine HC.out.mono ?_
  rintro e w4 ⟨⟨d2, rfl, hi⟩, hb4⟩
  have HS := Lib.hid (show_yes aliveIt w4.heap.size w4 _ _ _ hi (Nat.le_refl _) aliveIt_may (by rw [aliveIt_show]; simp))
  rw [aliveIt_show] at HS
  have HB4 : Hid (Below w.heap.size w w4) := Lib.hid (((HB3.out.alloc HB3.out.size _)).trans (hb4.mono (by have := HB3.out.size; simp; omega)))
  clear hi hb4
  go_wp2_with fail
  refine HS.out.mono ?_
  rintro e w5 ⟨rfl, hb5⟩
  have HB5 : Hid (Below w.heap.size w w5) := Lib.hid (HB4.out.trans (hb5.mono HB4.out.size))
  clear hb5
  go_wp2
  go_ret
  exact ⟨rfl, HB5.out⟩
end Go.Proofs.Ytcidcjghglgkhaa
