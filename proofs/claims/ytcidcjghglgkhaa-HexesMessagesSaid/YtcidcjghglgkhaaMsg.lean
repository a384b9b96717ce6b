/- Messages as lines: hexes.Show and the document's; hatchwayref24.Same. -/
import Derived.Test.YtcidcjghglgkhaaItemAlive
import Derived.Test.YtcidcjghglgkhaaItemBulkP
import Derived.Test.YtcidcjghglgkhaaCommandM
import Derived.Deep.RegionHeld3
namespace Go.Proofs.Ytcidcjghglgkhaa
set_option linter.unusedVariables false
set_option linter.unusedSimpArgs false
open Go.RowKit

/-- The line of a message. -/
def msgL (n : ByteArray) (x : It) : ByteArray := n ++ ⟨#[32]⟩ ++ ⟨x.show.toArray⟩
def msgEnd (n : ByteArray) (x : It) : Ending :=
  if nmMay n = true then (if x.may = true then .returned (.tuple #[.string (msgL n x), .int .i64 0]) else .returned (.tuple #[.string ⟨#[]⟩, .int .i64 1])) else .returned (.tuple #[.string ⟨#[]⟩, .int .i64 11])
theorem blk4 {w : World} {g : Nat} {t : TypeId} {a b c d : Value} (h : Blk w g t #[a, b, c, d]) : w.cell? ⟨g, 0, none⟩ = some a ∧ w.cell? ⟨g, 1, none⟩ = some b ∧ w.cell? ⟨g, 2, none⟩ = some c ∧ w.cell? ⟨g, 3, none⟩ = some d :=
  ⟨h.cell 0, h.cell 1, h.cell 2, h.cell 3⟩
set_option maxRecDepth 100000 in
set_option maxHeartbeats 800000 in
theorem msgShow_c (n : ByteArray) (x : It) (B : Nat) (w : World) (c0 c1 c2 : Value) (h : ItIn w B x c0 c1 c2) (hB : B ≤ w.heap.size) (hn : n.size ≤ 9223372036854775807) (hl : x.show.length ≤ 1099511627776) :
    Calls Try.prog 42 #[.agg #[.string n, c0, c1, c2]] w fun e w' => e = msgEnd n x ∧ Below w.heap.size w w' := by
  obtain ⟨A, cap, rfl, rfl, rfl, _⟩ := h.open_
  have HM := Lib.hid (fun w => cmdMay_c n w hn)
  have hin := h.below (B := B) (w' := w.alloc (.cells #[.string n, .string x.text, .bool x.list, .slice A x.sub.length cap] 65)) ((Below.refl B w).alloc hB _)
  have hb0 : Below w.heap.size w (w.alloc (.cells #[.string n, .string x.text, .bool x.list, .slice A x.sub.length cap] 65)) := (Below.refl _ w).alloc (Nat.le_refl _) _
  have HK := Lib.hid (Blk.new w 65 #[.string n, .string x.text, .bool x.list, .slice A x.sub.length cap])
  have HB0 := Lib.hid hb0
  clear hb0
  cases hm : nmMay n with
  | false =>
    have HE : Hid (msgEnd n x = .returned (.tuple #[.string ⟨#[]⟩, .int .i64 11])) := Lib.hid (by simp [msgEnd, hm])
    rw [hm] at HM
    clear hm
    rw [HE.out]
    go_enter Try.func42, Try.ntmps42
    go_wp2_with fail
    refine (HM.out _).mono ?_
    rintro e w' ⟨rfl, rfl⟩
    go_wp2
    go_ret2
    exact ⟨rfl, HB0.out⟩
  | true =>
    have hns := (nmMay_size hm).2
    rw [hm] at HM
    cases hx : x.may with
    | false =>
      have HE : Hid (msgEnd n x = .returned (.tuple #[.string ⟨#[]⟩, .int .i64 1])) := Lib.hid (by simp [msgEnd, hm, hx])
      have HS := Lib.hid (show_no x B _ _ _ _ hin (by simp; omega) hx)
      rw [HE.out]
      clear hm hx
      go_enter Try.func42, Try.ntmps42
      go_wp2_with fail
      refine (HM.out _).mono ?_
      rintro e w' ⟨rfl, rfl⟩
      go_wp2_with fail
      refine HS.out.mono ?_
      rintro e w2 ⟨rfl, hb2⟩
      have HB2 : Hid (Below w.heap.size w w2) := Lib.hid (HB0.out.trans (hb2.mono (by simp)))
      clear hb2
      go_wp2
      go_ret2
      exact ⟨rfl, HB2.out⟩
    | true =>
      have HE : Hid (msgEnd n x = .returned (.tuple #[.string (msgL n x), .int .i64 0])) := Lib.hid (by simp [msgEnd, hm, hx])
      have HS := Lib.hid (show_yes x B _ _ _ _ hin (by simp; omega) hx hl)
      rw [HE.out, msgL]
      have hls : (⟨x.show.toArray⟩ : ByteArray).size ≤ 1099511627776 := by rw [size_of]; exact hl
      generalize (⟨x.show.toArray⟩ : ByteArray) = Y at *
      clear hm hx hl HE
      go_enter Try.func42, Try.ntmps42
      go_wp2_with fail
      refine (HM.out _).mono ?_
      rintro e w' ⟨rfl, rfl⟩
      go_wp2_with fail
      refine HS.out.mono ?_
      rintro e w2 ⟨rfl, hb2⟩
      have HB2 : Hid (Below w.heap.size w w2) := Lib.hid (HB0.out.trans (hb2.mono (by simp)))
      obtain ⟨g0, g1, g2, g3⟩ := blk4 (HK.out.keep hb2 (by simp))
      clear hb2
      go_wp2
      go_ret2
      exact ⟨rfl, HB2.out⟩
set_option maxRecDepth 100000 in
set_option maxHeartbeats 800000 in
theorem refShowM_c (n : ByteArray) (x : It) (B : Nat) (w : World) (c0 c1 c2 : Value) (h : ItIn w B x c0 c1 c2) (hB : B ≤ w.heap.size) (hn : n.size ≤ 9223372036854775807) (hl : x.show.length ≤ 1099511627776) (hc : x.count ≤ 4611686018427387904) :
    Calls Try.prog 43 #[.agg #[.string n, c0, c1, c2]] w fun e w' => e = msgEnd n x ∧ Below w.heap.size w w' := by
  obtain ⟨A, cap, rfl, rfl, rfl, _⟩ := h.open_
  have HM := Lib.hid (fun w => refMayN_c n w hn)
  have hin := h.below (B := B) (w' := w.alloc (.cells #[.string n, .string x.text, .bool x.list, .slice A x.sub.length cap] 65)) ((Below.refl B w).alloc hB _)
  have hb0 : Below w.heap.size w (w.alloc (.cells #[.string n, .string x.text, .bool x.list, .slice A x.sub.length cap] 65)) := (Below.refl _ w).alloc (Nat.le_refl _) _
  have HK := Lib.hid (Blk.new w 65 #[.string n, .string x.text, .bool x.list, .slice A x.sub.length cap])
  have HB0 := Lib.hid hb0
  clear hb0
  cases hm : nmMay n with
  | false =>
    have HE : Hid (msgEnd n x = .returned (.tuple #[.string ⟨#[]⟩, .int .i64 11])) := Lib.hid (by simp [msgEnd, hm])
    rw [hm] at HM
    clear hm
    rw [HE.out]
    go_enter Try.func43, Try.ntmps43
    go_wp2_with fail
    refine (HM.out _).mono ?_
    rintro e w' ⟨rfl, rfl⟩
    go_wp2
    go_ret2
    exact ⟨rfl, HB0.out⟩
  | true =>
    have hns := (nmMay_size hm).2
    rw [hm] at HM
    have HY := Lib.hid (refMay_c x B _ _ _ _ hin (by simp; omega) hc)
    cases hx : x.may with
    | false =>
      have HE : Hid (msgEnd n x = .returned (.tuple #[.string ⟨#[]⟩, .int .i64 1])) := Lib.hid (by simp [msgEnd, hm, hx])
      rw [hx] at HY
      rw [HE.out]
      clear hm hx
      go_enter Try.func43, Try.ntmps43
      go_wp2_with fail
      refine (HM.out _).mono ?_
      rintro e w' ⟨rfl, rfl⟩
      go_wp2_with fail
      refine HY.out.mono ?_
      rintro e w2 ⟨rfl, hb2⟩
      have HB2 : Hid (Below w.heap.size w w2) := Lib.hid (HB0.out.trans (hb2.mono (by simp)))
      clear hb2
      go_wp2
      go_ret2
      exact ⟨rfl, HB2.out⟩
    | true =>
      have HE : Hid (msgEnd n x = .returned (.tuple #[.string (msgL n x), .int .i64 0])) := Lib.hid (by simp [msgEnd, hm, hx])
      rw [hx] at HY
      rw [HE.out, msgL]
      have HIN := Lib.hid hin
      clear hm hx HE hin
      go_enter Try.func43, Try.ntmps43
      go_wp2_with fail
      refine (HM.out _).mono ?_
      rintro e w' ⟨rfl, rfl⟩
      go_wp2_with fail
      refine HY.out.mono ?_
      rintro e w2 ⟨rfl, hb2⟩
      have HB2 : Hid (Below w.heap.size w w2) := Lib.hid (HB0.out.trans (hb2.mono (by simp)))
      have hz2 := HB2.out.size
      have hls : (⟨x.show.toArray⟩ : ByteArray).size ≤ 1099511627776 := by rw [size_of]; exact hl
      have hz2' : w.heap.size + 1 ≤ w2.heap.size := by have := hb2.size; simpa using this
      have HKB : Hid (Blk w2 w.heap.size 65 #[.string n, .string x.text, .bool x.list, .slice A x.sub.length cap]) := Lib.hid (HK.out.keep hb2 (by simp))
      have KP : Hid (∀ V, Below (w.heap.size + 1) w2 V → V.cell? ⟨w.heap.size, 0, none⟩ = some (.string n) ∧ V.cell? ⟨w.heap.size, 1, none⟩ = some (.string x.text) ∧ V.cell? ⟨w.heap.size, 2, none⟩ = some (.bool x.list) ∧ V.cell? ⟨w.heap.size, 3, none⟩ = some (.slice A x.sub.length cap) ∧ Below (w.heap.size + 1) w2 V) := Lib.hid (fun V hV => by
        obtain ⟨a0, a1, a2, a3⟩ := blk4 (HKB.out.keep hV (by omega))
        exact ⟨a0, a1, a2, a3, hV⟩)
      have HS : Hid (∀ V, Below (w.heap.size + 1) w2 V → Calls Try.prog 15 #[.agg #[.string x.text, .bool x.list, .slice A x.sub.length cap]] V fun e w' => e = .returned (.string ⟨x.show.toArray⟩) ∧ Below (w.heap.size + 1) w2 w') := Lib.hid (fun V hV => by
        have := hV.size
        exact (refShow_c x B V _ _ _ ((HIN.out.below (hb2.mono (by simp; omega))).below (hV.mono (by omega))) (by omega) hl).mono fun e w' ⟨he, hb⟩ => ⟨he, hV.trans (hb.mono (by omega))⟩)
      have hV5 : Below (w.heap.size + 1) w2 w2 := Below.refl _ _
      obtain ⟨a0, a1, a2, a3, _⟩ := KP.out w2 hV5
      obtain ⟨Y, HYY⟩ : ∃ Y, Hid ((⟨x.show.toArray⟩ : ByteArray) = Y) := ⟨_, Lib.hid rfl⟩
      rw [HYY.out] at HS hls
      clear hb2
      have ra : ¬ 9223372036854775807 < n.size + 1 := by omega
      have rb : ¬ 9223372036854775807 < n.size + 1 + Y.size := by omega
      have rc : n.size + 1 ≤ 9223372036854775807 := by omega
      have rd : n.size + 1 + Y.size ≤ 9223372036854775807 := by omega
      go_wp2_with fail
      go_region_held3 (fun V => V.cell? ⟨w.heap.size, 0, none⟩ = some (.string n) ∧ V.cell? ⟨w.heap.size, 1, none⟩ = some (.string x.text) ∧ V.cell? ⟨w.heap.size, 2, none⟩ = some (.bool x.list) ∧ V.cell? ⟨w.heap.size, 3, none⟩ = some (.slice A x.sub.length cap) ∧ Below (w.heap.size + 1) w2 V)
        (first | exact KP.out _ hV5 | exact KP.out _ hv | exact KP.out _ hv.drew | exact KP.out _ hV5.drew | exact KP.out _ (by assumption) | exact KP.out _ (Below.drew (by assumption)))
        (first | (go_at_call 15; ((with_reducible refine (HS.out _ (by first | assumption | exact Below.drew (by assumption) | exact Below.drewN' (by assumption) _)).mono ?_); rintro e w' ⟨rfl, hv⟩)))
      all_goals
        go_wp2
        go_ret2
        exact ⟨by rw [HYY.out]; rfl, HB2.out.trans (hv.mono (by omega))⟩
end Go.Proofs.Ytcidcjghglgkhaa
