/- The document's Show and Same. -/
import Derived.Test.YtcidcjghglgkhaaItemRef
import Derived.Test.YtcidcjghglgkhaaItemShow
namespace Go.Proofs.Ytcidcjghglgkhaa
set_option linter.unusedVariables false
set_option linter.unusedSimpArgs false
open Go.RowKit

theorem cut_dig (i : Nat) (h : i < 16) : ((⟨#[48, 49, 50, 51, 52, 53, 54, 55, 56, 57, 97, 98, 99, 100, 101, 102]⟩ : ByteArray).extract i (i + 1)) = ⟨#[hxd i]⟩ := by
  apply bytes_ext
  rw [cut_one _ i (by simpa [ByteArray.size] using h)]
  have := dig_get i i rfl h (by simpa [ByteArray.size] using h)
  simpa using this
theorem app_list (a : ByteArray) (l : List UInt8) : (a ++ ⟨l.toArray⟩ : ByteArray) = ⟨(a.data.toList ++ l).toArray⟩ := bytes_ext (by rw [toList_app])
set_option maxRecDepth 100000 in
set_option maxHeartbeats 1600000 in
theorem refShow_c : ∀ (x : It) (B : Nat) (w : World) (c0 c1 c2 : Value), ItIn w B x c0 c1 c2 → B ≤ w.heap.size → x.show.length ≤ 1099511627776 →
    Calls Try.prog 15 #[.agg #[c0, c1, c2]] w fun e w' => e = .returned (.string ⟨x.show.toArray⟩) ∧ Below w.heap.size w w' := by
  intro x
  induction x using It.ind with
  | h t l s ih =>
    intro B w c0 c1 c2 h hB hlen
    obtain ⟨rfl, rfl, ht, hs, A, cap, rfl, hcap, hcm, hsub⟩ := h
    have IH := Lib.hid ih
    have HS := Lib.hid hsub
    clear ih hsub
    cases l with
    | true =>
      have HX : Hid ((It.mk t true s).show = 40 :: (showL true s ++ [41])) := Lib.hid (by simp [It.show])
      have hlen2 : (showL true s).length + 2 ≤ 1099511627776 := by rw [HX.out] at hlen; simp at hlen; omega
      generalize (It.mk t true s).show = X at *
      clear hlen
      go_enter Try.func15, Try.ntmps15
      go_wp2_with fail
      go_loopw [3, 4] (fun y i wr => ∃ k : Nat, k ≤ s.length ∧ i = .int .i64 k ∧ ∃ z : ByteArray, y = .string z ∧ Hid (z.data.toList = 40 :: showL true (s.take k)) ∧ Below w.heap.size w wr ∧ wr.cell? ⟨w.heap.size, 2, none⟩ = some (.slice A s.length cap)) (fun _ i _ => s.length - (intOf i).toNat)
      case atStart => exact ⟨0, by omega, rfl, _, rfl, Lib.hid (by simp [showL]), (by repeat (first | exact Below.refl _ _ | assumption | with_reducible refine Below.drewN' ?_ _ | with_reducible refine Below.drew ?_ | ((with_reducible refine Below.alloc' ?_ ?_ _); · (first | omega | (simp <;> omega))))), by simp⟩
      case round =>
        obtain ⟨k, hk, rfl, z, rfl, Hz, hb, hcell⟩ := hrel
        have hzs : z.size = 1 + (showL true (s.take k)).length := by rw [← toList_size, Hz.out]; simp; omega
        have htk := showL_take_le s k
        have hzl : z.size ≤ 1099511627776 := by omega
        by_cases hlt : k < s.length
        · obtain ⟨b, o, d0, d1, d2, rfl, hbB, e0, e1, e2, hi⟩ := HS.out.at_ k hlt
          simp only [Nat.zero_add] at e0 e1 e2
          replace e0 := (hb.cell (p := ⟨b, o + k * 3, none⟩) (by simp; omega)).trans e0
          replace e1 := (hb.cell (p := ⟨b, o + k * 3 + 1, none⟩) (by simp; omega)).trans e1
          replace e2 := (hb.cell (p := ⟨b, o + k * 3 + 2, none⟩) (by simp; omega)).trans e2
          have hbz := hb.size
          have hmem := List.getElem_mem hlt
          have hiw := hi.below (hb.mono hB)
          have hst := showL_take s k hlt
          have htk1 := showL_take_le s (k + 1)
          have HC := Lib.hid (IH.out _ hmem B wr d0 d1 d2 hiw (by omega) (by rw [hst] at htk1; simp at htk1; omega))
          have hT : s[k].show.length ≤ 1099511627776 := by rw [hst] at htk1; simp at htk1; omega
          rw [← size_of] at hT
          by_cases hk0 : 0 < k
          · have HT : Hid ((z ++ ⟨#[32]⟩ ++ (⟨s[k].show.toArray⟩ : ByteArray)).data.toList = 40 :: showL true (s.take (k + 1))) := Lib.hid (by
              rw [toList_app, toList_app, Hz.out, hst, if_neg (by omega)]; simp)
            generalize (⟨s[k].show.toArray⟩ : ByteArray) = T at *
            clear hst htk1 hi hiw hzs htk
            go_wp2_with fail
            refine HC.out.mono ?_
            rintro e w2 ⟨rfl, hb2⟩
            have hbz2 := hb2.size
            have hbl := lt_of_cell hcell
            have hcell2 := (hb2.cell (p := ⟨w.heap.size, 2, none⟩) (by simp; omega)).trans hcell
            have hb3 := hb.trans (hb2.mono hbz)
            go_wp2
            go_roundw
            case rel => exact ⟨k + 1, by omega, by go_num, _, rfl, HT, hb3, hcell2⟩
            case measure => simp [intOf]; omega
          · have HT : Hid ((z ++ (⟨s[k].show.toArray⟩ : ByteArray)).data.toList = 40 :: showL true (s.take (k + 1))) := Lib.hid (by
              rw [toList_app, Hz.out, hst, if_pos (by omega)]; simp)
            generalize (⟨s[k].show.toArray⟩ : ByteArray) = T at *
            clear hst htk1 hi hiw hzs htk
            go_wp2_with fail
            refine HC.out.mono ?_
            rintro e w2 ⟨rfl, hb2⟩
            have hbz2 := hb2.size
            have hbl := lt_of_cell hcell
            have hcell2 := (hb2.cell (p := ⟨w.heap.size, 2, none⟩) (by simp; omega)).trans hcell
            have hb3 := hb.trans (hb2.mono hbz)
            go_wp2
            go_roundw
            case rel => exact ⟨k + 1, by omega, by go_num, _, rfl, HT, hb3, hcell2⟩
            case measure => simp [intOf]; omega
        · have HT : Hid ((⟨X.toArray⟩ : ByteArray) = z ++ ⟨#[41]⟩) := Lib.hid (bytes_ext (by rw [toList_app, Hz.out, HX.out, List.take_of_length_le (by omega)]; simp))
          clear hzs htk
          go_wp2
          go_ret
          exact ⟨by rw [HT.out]; rfl, hb⟩
    | false =>
      rcases empty_ways t with ⟨hz, rfl⟩ | ⟨hz, hz1', hz2'⟩
      · have HX : Hid ((It.mk ⟨#[]⟩ false s).show = [45]) := Lib.hid (by simp [It.show, ByteArray.size])
        generalize (It.mk ⟨#[]⟩ false s).show = X at *
        clear hlen hz
        go_enter Try.func15, Try.ntmps15
        go_wp2
        go_ret
        exact ⟨by rw [HX.out]; rfl, (by repeat (first | exact Below.refl _ _ | assumption | with_reducible refine Below.drewN' ?_ _ | with_reducible refine Below.drew ?_ | ((with_reducible refine Below.alloc' ?_ ?_ _); · (first | omega | (simp <;> omega)))))⟩
      · have HX : Hid ((It.mk t false s).show = hxL t.data.toList) := Lib.hid (by simp [It.show, hz])
        have hlen2 : 2 * t.size ≤ 1099511627776 := by rw [HX.out, hxL_length] at hlen; simpa using hlen
        generalize (It.mk t false s).show = X at *
        clear hlen hz
        go_enter Try.func15, Try.ntmps15
        go_wp2_with fail
        go_loopw [5, 6] (fun y i wr => ∃ k : Nat, k ≤ t.size ∧ i = .int .i64 k ∧ ∃ z : ByteArray, y = .string z ∧ Hid (z.data.toList = hxL (t.data.toList.take k)) ∧ Below w.heap.size w wr ∧ wr.cell? ⟨w.heap.size, 0, none⟩ = some (.string t)) (fun _ i _ => t.size - (intOf i).toNat)
        case atStart => exact ⟨0, by omega, rfl, _, rfl, Lib.hid (by simp [hxL]), (by repeat (first | exact Below.refl _ _ | assumption | with_reducible refine Below.drewN' ?_ _ | with_reducible refine Below.drew ?_ | ((with_reducible refine Below.alloc' ?_ ?_ _); · (first | omega | (simp <;> omega))))), by simp⟩
        case round =>
          obtain ⟨k, hk, rfl, z, rfl, Hz, hb, hcell⟩ := hrel
          have hzs : z.size = 2 * k := by rw [← toList_size, Hz.out, hxL_length, length_take t k hk]
          have hzl : z.size ≤ 1099511627776 := by omega
          by_cases hlt : k < t.size
          · have hbt := t[k].toNat_lt
            have HT : Hid ((z ++ ⟨#[hxd (t[k].toNat / 16)]⟩ ++ ⟨#[hxd (t[k].toNat % 16)]⟩).data.toList = hxL (t.data.toList.take (k + 1))) := Lib.hid (by
              rw [toList_app, toList_app, Hz.out, take_snoc t k hlt, hxL_append, hxL_one]; simp [hx])
            clear hzs
            go_wp2_with fail
            go_quiet (fail)
            go_wp2_with fail
            rw [show ((t[k].toNat : Int) / 16) = ((t[k].toNat / 16 : Nat) : Int) from by omega, show ((t[k].toNat : Int) % 16) = ((t[k].toNat % 16 : Nat) : Int) from by omega]
            have hp : t[k].toNat / 16 < 16 := by omega
            have hq : t[k].toNat % 16 < 16 := by omega
            generalize t[k].toNat / 16 = p at *
            generalize t[k].toNat % 16 = q at *
            have c1 := cut_dig p hp
            have c2 := cut_dig q hq
            have z1 : (⟨#[hxd p]⟩ : ByteArray).size = 1 := rfl
            have z2 : (⟨#[hxd q]⟩ : ByteArray).size = 1 := rfl
            generalize (⟨#[hxd p]⟩ : ByteArray) = P at *
            generalize (⟨#[hxd q]⟩ : ByteArray) = Q at *
            have w1 : IntKind.i64.wrap ((p : Int) + 1) = (p : Int) + 1 := IntWalk.i64_in _ (by omega)
            have w2 : IntKind.i64.wrap ((q : Int) + 1) = (q : Int) + 1 := IntWalk.i64_in _ (by omega)
            have t1 : ((p : Int) + 1).toNat = p + 1 := by omega
            have t2 : ((q : Int) + 1).toNat = q + 1 := by omega
            go_quiet (fail)
            clear w1 w2 t1 t2 c1 c2
            go_wp2
            go_roundw
            case rel => exact ⟨k + 1, by omega, by go_num, _, rfl, HT, hb.drewN' _, hcell⟩
            case measure => simp [intOf]; omega
          · have HT : Hid ((⟨X.toArray⟩ : ByteArray) = z) := Lib.hid (bytes_ext (by rw [Hz.out, HX.out, List.take_of_length_le (by simp; omega)]))
            clear hzs
            go_wp2
            go_ret
            exact ⟨by rw [HT.out]; rfl, hb⟩

/-- It tells whether both are one item. -/
def SameIs (a b : It) (e : Ending) : Prop := ∃ r : Bool, e = .returned (.bool r) ∧ (r = true ↔ a = b)
theorem SameIs.no {a b : It} (h : a ≠ b) : SameIs a b (.returned (.bool false)) := ⟨false, rfl, by simp [h]⟩
theorem SameIs.yes {a b : It} (h : a = b) : SameIs a b (.returned (.bool true)) := ⟨true, rfl, by simp [h]⟩
theorem list_eq_of {s s' : List It} (hl : s.length = s'.length) (h : ∀ j (h1 : j < s.length) (h2 : j < s'.length), s[j] = s'[j]) : s = s' := List.ext_getElem hl h
set_option maxRecDepth 100000 in
set_option maxHeartbeats 1600000 in
theorem refSame_c : ∀ (x : It) (B : Nat) (w : World) (c0 c1 c2 : Value), ItIn w B x c0 c1 c2 → B ≤ w.heap.size → ∀ (y : It) (d0 d1 d2 : Value), ItIn w B y d0 d1 d2 →
    Calls Try.prog 18 #[.agg #[c0, c1, c2], .agg #[d0, d1, d2]] w fun e w' => SameIs x y e ∧ Below w.heap.size w w' := by
  intro x
  induction x using It.ind with
  | h t l s ih =>
    intro B w c0 c1 c2 h hB y d0 d1 d2 hy
    obtain ⟨rfl, rfl, ht, hs, A, cap, rfl, hcap, hcm, hsub⟩ := h
    have IH := Lib.hid ih
    have HS := Lib.hid hsub
    clear ih hsub
    obtain ⟨t', l', s'⟩ := y
    obtain ⟨rfl, rfl, ht', hs', A', cap', rfl, hcap', hcm', hsub'⟩ := hy
    have HS' := Lib.hid hsub'
    clear hsub'
    by_cases h1 : l = l'
    · subst h1
      have e1 : (l != l) = false := by simp
      have e1' : (l == l) = true := by simp
      rcases str_ways t t' with ⟨rfl, q1, q2⟩ | ⟨hne, q1, q2⟩
      · by_cases h3 : s.length = s'.length
        · have H3 := Lib.hid h3
          have e3 : ((s.length : Int) != (s'.length : Int)) = false := by simp [h3]
          have e3' : (s.length != s'.length) = false := by simp [h3]
          clear h3
          go_enter Try.func18, Try.ntmps18
          go_wp2_with fail
          go_loopw [5] (fun i wr => ∃ k : Nat, k ≤ s.length ∧ i = .int .i64 k ∧ Hid (∀ j (h1 : j < s.length) (h2 : j < s'.length), j < k → s[j] = s'[j]) ∧ Below w.heap.size w wr ∧ Blk wr w.heap.size 24 #[.string t, .bool l, .slice A s.length cap] ∧ Blk wr (w.heap.size + 1) 24 #[.string t, .bool l, .slice A' s'.length cap']) (fun i _ => s.length - (intOf i).toNat)
          case atStart => exact ⟨0, by omega, rfl, Lib.hid (by omega), (by repeat (first | exact Below.refl _ _ | assumption | with_reducible refine Below.drewN' ?_ _ | with_reducible refine Below.drew ?_ | ((with_reducible refine Below.alloc' ?_ ?_ _); · (first | omega | (simp <;> omega))))), (Blk.new w _ _).alloc _, by have := Blk.new (w.alloc (.cells #[.string t, .bool l, .slice A s.length cap] 24)) 24 #[.string t, .bool l, .slice A' s'.length cap']; simpa using this⟩
          case round =>
            obtain ⟨k, hk, rfl, hag, hb, hk1, hk2⟩ := hrel
            have g1 : wr.cell? ⟨w.heap.size, 2, none⟩ = some (.slice A s.length cap) := hk1.cell 2
            have g2 : wr.cell? ⟨w.heap.size + 1, 2, none⟩ = some (.slice A' s'.length cap') := hk2.cell 2
            have hl1 := hk2.lt
            have K1 := Lib.hid hk1
            have K2 := Lib.hid hk2
            clear hk1 hk2
            by_cases hlt : k < s.length
            · have hlt' : k < s'.length := by have := H3.out; omega
              obtain ⟨b, o, d0, d1, d2, rfl, hbB, e0, e1, e2, hi⟩ := HS.out.at_ k hlt
              obtain ⟨b', o', d0', d1', d2', rfl, hbB', e0', e1', e2', hi'⟩ := HS'.out.at_ k hlt'
              simp only [Nat.zero_add] at e0 e1 e2 e0' e1' e2'
              replace e0 := (hb.cell (p := ⟨b, o + k * 3, none⟩) (by simp; omega)).trans e0
              replace e1 := (hb.cell (p := ⟨b, o + k * 3 + 1, none⟩) (by simp; omega)).trans e1
              replace e2 := (hb.cell (p := ⟨b, o + k * 3 + 2, none⟩) (by simp; omega)).trans e2
              replace e0' := (hb.cell (p := ⟨b', o' + k * 3, none⟩) (by simp; omega)).trans e0'
              replace e1' := (hb.cell (p := ⟨b', o' + k * 3 + 1, none⟩) (by simp; omega)).trans e1'
              replace e2' := (hb.cell (p := ⟨b', o' + k * 3 + 2, none⟩) (by simp; omega)).trans e2'
              have hbz := hb.size
              have hmem := List.getElem_mem hlt
              have HC := Lib.hid (IH.out _ hmem B wr.drew d0 d1 d2 ((hi.below (hb.mono hB)).below (Below.refl _ _).drew) (by simp; omega) _ d0' d1' d2' ((hi'.below (hb.mono hB)).below (Below.refl _ _).drew))
              clear hi hi'
              go_wp2_with fail
              go_still_tail 10, (by kernel_rfl)
              change wpList _ _ _ _ _ wr.drew
              go_wp2_with fail
              refine HC.out.mono ?_
              rintro e w2 ⟨⟨r, rfl, hr⟩, hb2⟩
              have HR := Lib.hid hr
              have HB2 := Lib.hid hb2
              clear hr hb2
              cases r with
              | true =>
                go_wp2
                go_roundw
                case rel =>
                  refine ⟨k + 1, by omega, by go_num, Lib.hid fun j h1 h2 hj => ?_, hb.drew.trans (HB2.out.mono (by simpa using hbz)), K1.out.drew.keep HB2.out (by simp; omega), K2.out.drew.keep HB2.out (by simpa using hl1)⟩
                  by_cases hjk : j = k
                  · subst hjk; exact HR.out.1 (by simp)
                  · exact hag.out j h1 h2 (by omega)
                case measure => simp [intOf]; omega
              | false =>
                have HN : Hid (It.mk t l s ≠ It.mk t l s') := Lib.hid (by
                  intro e
                  injection e with _ _ e
                  subst e
                  have := HR.out.2 rfl; simp at this)
                go_wp2
                go_ret
                exact ⟨SameIs.no HN.out, hb.drew.trans (HB2.out.mono (by simpa using hbz))⟩
            · have HE : Hid (It.mk t l s = It.mk t l s') := Lib.hid (by rw [list_eq_of H3.out (fun j h1 h2 => hag.out j h1 h2 (by omega))])
              go_wp2
              go_ret
              exact ⟨SameIs.yes HE.out, hb⟩
        · have HN : Hid (It.mk t l s ≠ It.mk t l s') := Lib.hid (by intro e; injection e with _ _ e; exact h3 (by rw [e]))
          have e3 : ((s.length : Int) != (s'.length : Int)) = true := by simp; omega
          have e3' : (s.length != s'.length) = true := by simp; omega
          clear h3
          go_enter Try.func18, Try.ntmps18
          go_wp2
          go_ret
          exact ⟨SameIs.no HN.out, (by repeat (first | exact Below.refl _ _ | assumption | with_reducible refine Below.drewN' ?_ _ | with_reducible refine Below.drew ?_ | ((with_reducible refine Below.alloc' ?_ ?_ _); · (first | omega | (simp <;> omega)))))⟩
      · have HN : Hid (It.mk t l s ≠ It.mk t' l s') := Lib.hid (by intro e; injection e with e; exact hne e)
        clear hne
        go_enter Try.func18, Try.ntmps18
        go_wp2
        go_ret
        exact ⟨SameIs.no HN.out, (by repeat (first | exact Below.refl _ _ | assumption | with_reducible refine Below.drewN' ?_ _ | with_reducible refine Below.drew ?_ | ((with_reducible refine Below.alloc' ?_ ?_ _); · (first | omega | (simp <;> omega)))))⟩
    · have HN : Hid (It.mk t l s ≠ It.mk t' l' s') := Lib.hid (by intro e; injection e with _ e; exact h1 e)
      cases l <;> cases l'
      · exact absurd rfl h1
      · clear h1
        go_enter Try.func18, Try.ntmps18
        go_wp2
        go_ret
        exact ⟨SameIs.no HN.out, (by repeat (first | exact Below.refl _ _ | assumption | with_reducible refine Below.drewN' ?_ _ | with_reducible refine Below.drew ?_ | ((with_reducible refine Below.alloc' ?_ ?_ _); · (first | omega | (simp <;> omega)))))⟩
      · clear h1
        go_enter Try.func18, Try.ntmps18
        go_wp2
        go_ret
        exact ⟨SameIs.no HN.out, (by repeat (first | exact Below.refl _ _ | assumption | with_reducible refine Below.drewN' ?_ _ | with_reducible refine Below.drew ?_ | ((with_reducible refine Below.alloc' ?_ ?_ _); · (first | omega | (simp <;> omega)))))⟩
      · exact absurd rfl h1
end Go.Proofs.Ytcidcjghglgkhaa
