/- tree.Put: its three checks, and it itself. -/
/- hello.shape. -/
/- Hellos: the number of an item. -/
/- Names: command.May and the document's. -/
/- Capabilities in memory; hello.compare. -/
/- Slices of capabilities in memory. -/
/- Hellos' items in memory. -/
/- hello.compare. -/
/- Two capabilities compared by '=='. -/
/- A range over a function whose iterator keeps state of its own in cells: the body writes blocks of the list L alone. -/
import Derived.Test.YtacikiambpfipaaDoorKA5
import Derived.Test.YtacikiambpfipaaDoorKA4
import Derived.Test.YtacikiambpfipaaDoorKA6
import Derived.Test.YtacikiambpfipaaDoorKRlpPut
import Derived.Test.YtacikiambpfipaaDoorKA7
import Derived.Test.YtacikiambpfipaaDoorKHelP
import Derived.Test.YtacikiambpfipaaDoorKTypedA
import Derived.Test.YtacikiambpfipaaDoorProg
import Derived.Test.YtacikiambpfipaaDoorKA1
import Derived.WalkSpells
import Derived.Lib.BufferWrite
import Derived.Deep.WholeRow
import Derived.Test.YtacikiambpfipaaDoorKCapP
import Derived.Test.YtacikiambpfipaaDoorKItemS
import Derived.Deep.RegionHeld3
import Derived.Deep.RegionWith
import Derived.LoopTactic
import Derived.Laws.Cover1
import Derived.Laws.StructEq
import Derived.RangeFuncNested
import Derived.RangeFuncBound
import Derived.RangeFuncCalls
import Derived.RangeFuncLeaves
import Derived.Shelf.Abstract
import Derived.Shelf.RegionOpen
import Derived.WalkKit
import Derived.OwnWalkIn
import Derived.TacticsInMore
import Derived.LoopNIn
import Derived.LoopIn
namespace Go.Proofs.YtacikiambpfipaaDoor
set_option linter.unusedVariables false
set_option linter.unusedSimpArgs false
open Go.RowKit

theorem Blk.at_ {w0 : World} {k : Nat} {t : TypeId} {cs : Array Value} (hz : w0.heap.size = k) : Blk (w0.alloc (.cells cs t)) k t cs := hz ▸ Blk.new w0 t cs
set_option maxRecDepth 100000 in
set_option maxHeartbeats 1000000 in
theorem putA_c (ty : Ty) (x : It) (B g4 g5 : Nat) (w : World) (t0 t1 t2 t3 c0 c1 c2 : Value) (h4 : Blk w g4 24 #[t0, t1, t2, t3]) (h5 : Blk w g5 27 #[c0, c1, c2]) (hT : TyIn w B ty t0 t1 t2 t3) (hI : ItIn w B x c0 c1 c2) (hB : B ≤ w.heap.size) (hL : Laid w) :
    Calls Tryd.prog 42 #[.pointer (some ⟨g4, 0, none⟩), .pointer (some ⟨g5, 0, none⟩)] w fun e w' => e = .returned (.int .i64 (fitE ty x)) ∧ Below w.heap.size w w' := by
  have HC := Lib.hid (fits_c ty x B w t0 t1 t2 t3 c0 c1 c2 hT hI hB hL)
  obtain ⟨q0, q1, q2, q3, _⟩ := blk4 h4
  obtain ⟨p0, p1, p2⟩ := blk3' h5
  obtain ⟨A, cap, rfl, rfl, rfl, rfl, _⟩ := hT.open_
  obtain ⟨A', cap', rfl, rfl, rfl, _⟩ := hI.open_
  generalize fitE ty x = E at *
  clear hT hI h4 h5
  go_enter Tryd.func42, Tryd.ntmps42
  go_wp2_with fail
  refine HC.out.mono ?_
  rintro e w1 ⟨rfl, hb⟩
  go_wp2
  go_ret
  exact ⟨rfl, hb⟩
set_option maxRecDepth 100000 in
set_option maxHeartbeats 1000000 in
theorem putB_c (x : It) (D M : Int) (B g5 g6 g7 : Nat) (w : World) (c0 c1 c2 : Value) (h5 : Blk w g5 27 #[c0, c1, c2]) (h6 : Blk w g6 3 #[.int .i64 D]) (h7 : Blk w g7 3 #[.int .i64 M]) (hI : ItIn w B x c0 c1 c2) (hB : B ≤ w.heap.size) :
    Calls Tryd.prog 44 #[.pointer (some ⟨g5, 0, none⟩), .pointer (some ⟨g6, 0, none⟩), .pointer (some ⟨g7, 0, none⟩)] w fun e w' => e = .returned (.int .i64 (capsE x D M)) ∧ Below w.heap.size w w' := by
  have HC := Lib.hid (caps_c x D M B w c0 c1 c2 hI hB)
  obtain ⟨p0, p1, p2⟩ := blk3' h5
  have q6 : w.cell? ⟨g6, 0, none⟩ = some (.int .i64 D) := h6.cell 0
  have q7 : w.cell? ⟨g7, 0, none⟩ = some (.int .i64 M) := h7.cell 0
  obtain ⟨A', cap', rfl, rfl, rfl, _⟩ := hI.open_
  generalize capsE x D M = E at *
  clear hI h5 h6 h7
  go_enter Tryd.func44, Tryd.ntmps44
  go_wp2_with fail
  refine HC.out.mono ?_
  rintro e w1 ⟨rfl, hb⟩
  go_wp2
  go_ret
  exact ⟨rfl, hb⟩
set_option maxRecDepth 100000 in
set_option maxHeartbeats 1000000 in
theorem putC_c (x : It) (B g5 g10 : Nat) (w : World) (z c0 c1 c2 : Value) (h5 : Blk w g5 27 #[c0, c1, c2]) (h10 : Blk w g10 9 #[z]) (hI : ItIn w B x c0 c1 c2) (hB : B ≤ w.heap.size) (hm : x.may = true) (hl : x.rlp.length ≤ 1099511627776) :
    Calls Tryd.prog 46 #[.pointer (some ⟨g5, 0, none⟩), .pointer (some ⟨g10, 0, none⟩)] w fun e w' => e = .returned (.int .i64 0) ∧ Blk w' g10 9 #[.string ⟨x.rlp.toArray⟩] ∧ Only [g10] w w' := by
  have HC := Lib.hid (rlpPut_c x B w c0 c1 c2 hI hB hm hl)
  obtain ⟨p0, p1, p2⟩ := blk3' h5
  obtain ⟨A', cap', rfl, rfl, rfl, _⟩ := hI.open_
  have H10 := Lib.hid h10
  have hlt := h10.lt
  generalize (⟨x.rlp.toArray⟩ : ByteArray) = S at *
  clear hI h5 hl hm h10
  go_enter Tryd.func46, Tryd.ntmps46
  go_wp2_with fail
  refine HC.out.mono ?_
  rintro e w1 ⟨rfl, hb⟩
  have h1 := H10.out.keep hb hlt
  have q1 : w1.cell? ⟨g10, 0, none⟩ = some z := h1.cell 0
  have q1f : w1.frozen? ⟨g10, 0, none⟩ = false := h1.frozen 0
  have HB1 := Lib.hid h1
  have HO : Hid (Only [g10] w w1) := Lib.hid ((Only.of_below hb (Nat.le_refl _)).mono (by simp))
  clear h1 hb
  go_wp2
  go_ret
  exact ⟨rfl, HB1.out.set 0 _, HO.out.setCell (by simp) _⟩
set_option maxRecDepth 100000 in
set_option maxHeartbeats 2000000 in
theorem treePut_c (ty : Ty) (x : It) (D M : Int) (B : Nat) (w : World) (t0 t1 t2 t3 c0 c1 c2 : Value) (hT : TyIn w B ty t0 t1 t2 t3) (hI : ItIn w B x c0 c1 c2) (hB : B ≤ w.heap.size) (hL : Laid w) (hl : x.rlp.length ≤ 1099511627776) :
    Calls Tryd.prog 14 #[.agg #[t0, t1, t2, t3], .agg #[c0, c1, c2], .int .i64 D, .int .i64 M] w fun e w' => e = .returned (.tuple #[.string (if tPutE ty x D M = 0 then ⟨x.rlp.toArray⟩ else ⟨#[]⟩), .int .i64 (tPutE ty x D M)]) ∧ Below w.heap.size w w' := by
  obtain ⟨W6, hW6⟩ : ∃ W6, ((((((w.alloc (.cells #[t0, t1, t2, t3] 24)).alloc (.cells #[c0, c1, c2] 27)).alloc (.cells #[.int .i64 D] 3)).alloc (.cells #[.int .i64 M] 3)).alloc (.cells #[.string ⟨#[]⟩] 9)).alloc (.cells #[.func (.func 42) #[] #[.pointer (some ⟨w.heap.size, 0, none⟩), .pointer (some ⟨w.heap.size + 1, 0, none⟩)], .func (.func 44) #[] #[.pointer (some ⟨w.heap.size + 1, 0, none⟩), .pointer (some ⟨w.heap.size + 1 + 1, 0, none⟩), .pointer (some ⟨w.heap.size + 1 + 1 + 1, 0, none⟩)], .func (.func 46) #[] #[.pointer (some ⟨w.heap.size + 1, 0, none⟩), .pointer (some ⟨w.heap.size + 1 + 1 + 1 + 1, 0, none⟩)]] 84)) = W6 := ⟨_, rfl⟩
  have hz : W6.heap.size = w.heap.size + 6 := by rw [← hW6]; simp
  have hb : Below w.heap.size w W6 := by rw [← hW6]; exact (by repeat (first | exact Below.refl _ _ | assumption | with_reducible refine Below.drewN' ?_ _ | with_reducible refine Below.drew ?_ | ((with_reducible refine Below.alloc' ?_ ?_ _); · (first | omega | (simp <;> omega)))))
  have h4 : Blk W6 (w.heap.size) 24 #[t0, t1, t2, t3] := by rw [← hW6]; exact (((((Blk.at_ (by simp)).alloc _).alloc _).alloc _).alloc _).alloc _
  have h5 : Blk W6 (w.heap.size + 1) 27 #[c0, c1, c2] := by rw [← hW6]; exact ((((Blk.at_ (by simp)).alloc _).alloc _).alloc _).alloc _
  have h6 : Blk W6 (w.heap.size + 1 + 1) 3 #[.int .i64 D] := by rw [← hW6]; exact (((Blk.at_ (by simp)).alloc _).alloc _).alloc _
  have h7 : Blk W6 (w.heap.size + 1 + 1 + 1) 3 #[.int .i64 M] := by rw [← hW6]; exact ((Blk.at_ (by simp)).alloc _).alloc _
  have h10 : Blk W6 (w.heap.size + 1 + 1 + 1 + 1) 9 #[.string ⟨#[]⟩] := by rw [← hW6]; exact (Blk.at_ (by simp)).alloc _
  have hF : Blk W6 (w.heap.size + 1 + 1 + 1 + 1 + 1) 84 #[.func (.func 42) #[] #[.pointer (some ⟨w.heap.size, 0, none⟩), .pointer (some ⟨w.heap.size + 1, 0, none⟩)], .func (.func 44) #[] #[.pointer (some ⟨w.heap.size + 1, 0, none⟩), .pointer (some ⟨w.heap.size + 1 + 1, 0, none⟩), .pointer (some ⟨w.heap.size + 1 + 1 + 1, 0, none⟩)], .func (.func 46) #[] #[.pointer (some ⟨w.heap.size + 1, 0, none⟩), .pointer (some ⟨w.heap.size + 1 + 1 + 1 + 1, 0, none⟩)]] := by rw [← hW6]; exact Blk.at_ (by simp)
  have HF := Lib.hid (firstPut_c W6 (w.heap.size + 1 + 1 + 1 + 1 + 1) #[.pointer (some ⟨w.heap.size, 0, none⟩), .pointer (some ⟨w.heap.size + 1, 0, none⟩)] #[.pointer (some ⟨w.heap.size + 1, 0, none⟩), .pointer (some ⟨w.heap.size + 1 + 1, 0, none⟩), .pointer (some ⟨w.heap.size + 1 + 1 + 1, 0, none⟩)] #[.pointer (some ⟨w.heap.size + 1, 0, none⟩), .pointer (some ⟨w.heap.size + 1 + 1 + 1 + 1, 0, none⟩)] (fitE ty x) (capsE x D M) 0 (fun w' => Below W6.heap.size W6 w') (fun w' => Below W6.heap.size W6 w') (fun w' => Blk w' (w.heap.size + 1 + 1 + 1 + 1) 9 #[.string ⟨x.rlp.toArray⟩] ∧ Only [w.heap.size + 1 + 1 + 1 + 1] W6 w') hF
    (putA_c ty x B _ _ W6 t0 t1 t2 t3 c0 c1 c2 h4 h5 (hT.below (hb.mono hB)) (hI.below (hb.mono hB)) (by omega) (hL.below hb hL.pos))
    (fun _ w1 h1 => (putB_c x D M B _ _ _ w1 c0 c1 c2 (h5.keep h1 (by omega)) (h6.keep h1 (by omega)) (h7.keep h1 (by omega)) ((hI.below (hb.mono hB)).below (h1.mono (by omega))) (by have := h1.size; omega)).mono fun e w' ⟨he, hb'⟩ => ⟨he, h1.trans (hb'.mono h1.size)⟩)
    (fun hf _ w2 h2 => (putC_c x B _ _ w2 _ c0 c1 c2 (h5.keep h2 (by omega)) (h10.keep h2 (by omega)) ((hI.below (hb.mono hB)).below (h2.mono (by omega))) (by have := h2.size; omega) ((fitE_zero ty x).1 hf).2.1 hl).mono fun e w' ⟨he, hk, ho⟩ => ⟨he, hk, ((Only.of_below h2 (Nat.le_refl _)).mono (by simp)).trans ho⟩)
    (fun w' h1 => hF.keep h1 (by omega)) (fun w' h1 => hF.keep h1 (by omega)))
  have HB := Lib.hid hb
  have HZ := Lib.hid hz
  have HPE : Hid (tPutE ty x D M = fstE (fitE ty x) (capsE x D M) 0) := Lib.hid (by
    unfold tPutE fstE
    by_cases h1 : fitE ty x ≠ 0
    · rw [if_pos h1, if_pos h1]
    · rw [if_neg h1, if_neg h1]
      by_cases h2 : capsE x D M ≠ 0
      · rw [if_pos h2]
      · rw [if_neg h2]; exact Decidable.not_not.1 h2)
  have HW6 := Lib.hid hW6
  obtain ⟨A, cap, rfl, rfl, rfl, rfl, _⟩ := hT.open_
  obtain ⟨A', cap', rfl, rfl, rfl, _⟩ := hI.open_
  have HTZ : Hid (tPutE ty x D M = 0 → fitE ty x = 0 ∧ capsE x D M = 0) := Lib.hid (tPutE_zero ty x D M).1
  generalize tPutE ty x D M = E at *
  generalize (⟨x.rlp.toArray⟩ : ByteArray) = S at *
  generalize fitE ty x = E0 at *
  generalize capsE x D M = E1 at *
  clear h4 h5 h6 h7 h10 hF hb hz hW6 hT hI hl
  rcases beq0 E with ⟨he, k1, k2⟩ | ⟨he, k1, k2⟩
  · subst he
    obtain ⟨rfl, rfl⟩ := HTZ.out rfl
    go_enter Tryd.func14, Tryd.ntmps14
    go_wp2_with fail
    rw [HW6.out]
    refine HF.out.mono ?_
    rintro e w1 ⟨rfl, hi⟩
    have hi : Blk w1 (w.heap.size + 1 + 1 + 1 + 1) 9 #[.string S] ∧ Only [w.heap.size + 1 + 1 + 1 + 1] W6 w1 := by
      have := hi
      simpa [fstI] using this
    rw [← HPE.out]
    have q1 : w1.cell? ⟨w.heap.size + 1 + 1 + 1 + 1, 0, none⟩ = some (.string S) := hi.1.cell 0
    have HO := Lib.hid hi.2
    clear hi HF HPE HTZ
    go_wp2
    go_ret2
    refine ⟨?_, HB.out.trans (HO.out.below (by have := HZ.out; omega) (by simp; omega))⟩
    rfl
  · go_enter Tryd.func14, Tryd.ntmps14
    go_wp2_with fail
    rw [HW6.out]
    refine HF.out.mono ?_
    rintro e w1 ⟨rfl, hi⟩
    have hbe : Below w.heap.size w w1 := by
      unfold fstI at hi
      have hz := HZ.out
      split at hi
      · exact HB.out.trans (hi.mono (by omega))
      · split at hi
        · exact HB.out.trans (hi.mono (by omega))
        · exact HB.out.trans (hi.2.below (by omega) (by simp; omega))
    rw [← HPE.out]
    have HBE := Lib.hid hbe
    clear hi HF HPE HTZ hbe
    go_wp2
    go_ret2
    exact ⟨rfl, HBE.out⟩
end Go.Proofs.YtacikiambpfipaaDoor
namespace Go.Proofs.YtacikiambpfipaaDoor
set_option linter.unusedVariables false
set_option linter.unusedSimpArgs false
open Go.RowKit

theorem leafTy {w : World} {B : Nat} (k s : Int) (h1 : okI k) (h2 : okI s) : TyIn w B (.mk k s [] 0) (.int .i64 k) (.int .i64 s) (.slice none 0 0) (.int .i64 0) :=
  ⟨rfl, rfl, rfl, h1, h2, ⟨by omega, by omega⟩, by simp, none, 0, rfl, by simp, by simp, trivial⟩
theorem okI_lit {k : Int} (h : 0 ≤ k ∧ k ≤ 100) : okI k := ⟨by omega, by omega⟩
theorem shape_in {W : World} {h : Nat} (k2 : Blk W (h + 1 + 1) 24 #[.int .i64 3, .int .i64 12, .slice none 0 0, .int .i64 0, .int .i64 1, .int .i64 1, .slice none 0 0, .int .i64 0])
    (k4 : Blk W (h + 1 + 1 + 1 + 1) 24 #[.int .i64 5, .int .i64 0, .slice (some ⟨h + 1 + 1, 0, none⟩) 2 2, .int .i64 0])
    (k6 : Blk W (h + 1 + 1 + 1 + 1 + 1 + 1) 24 #[.int .i64 1, .int .i64 2, .slice none 0 0, .int .i64 0, .int .i64 1, .int .i64 2, .slice none 0 0, .int .i64 0, .int .i64 4, .int .i64 16, .slice (some ⟨h + 1 + 1 + 1 + 1, 0, none⟩) 1 1, .int .i64 0]) :
    TyIn W W.heap.size shp (.int .i64 5) (.int .i64 0) (.slice (some ⟨h + 1 + 1 + 1 + 1 + 1 + 1, 0, none⟩) 3 3) (.int .i64 0) := by
  have l2 := k2.lt
  have l4 := k4.lt
  have l6 := k6.lt
  have hc : TyIn W W.heap.size capTy (.int .i64 5) (.int .i64 0) (.slice (some ⟨h + 1 + 1, 0, none⟩) 2 2) (.int .i64 0) :=
    ⟨rfl, rfl, rfl, okI_lit (by omega), okI_lit (by omega), okI_lit (by omega), by simp, _, 2, rfl, by simp, by simp,
      ⟨_, _, _, _, _, _, rfl, l2, k2.cell 0, k2.cell 1, k2.cell 2, k2.cell 3, leafTy 3 12 (okI_lit (by omega)) (okI_lit (by omega))⟩, ⟨_, _, _, _, _, _, rfl, l2, k2.cell 4, k2.cell 5, k2.cell 6, k2.cell 7, leafTy 1 1 (okI_lit (by omega)) (okI_lit (by omega))⟩, trivial⟩
  have hl : TyIn W W.heap.size (.mk 4 16 [capTy] 0) (.int .i64 4) (.int .i64 16) (.slice (some ⟨h + 1 + 1 + 1 + 1, 0, none⟩) 1 1) (.int .i64 0) :=
    ⟨rfl, rfl, rfl, okI_lit (by omega), okI_lit (by omega), okI_lit (by omega), by simp, _, 1, rfl, by simp, by simp, ⟨_, _, _, _, _, _, rfl, l4, k4.cell 0, k4.cell 1, k4.cell 2, k4.cell 3, hc⟩, trivial⟩
  exact ⟨rfl, rfl, rfl, okI_lit (by omega), okI_lit (by omega), okI_lit (by omega), by simp, _, 3, rfl, by simp, by simp,
    ⟨_, _, _, _, _, _, rfl, l6, k6.cell 0, k6.cell 1, k6.cell 2, k6.cell 3, leafTy 1 2 (okI_lit (by omega)) (okI_lit (by omega))⟩, ⟨_, _, _, _, _, _, rfl, l6, k6.cell 4, k6.cell 5, k6.cell 6, k6.cell 7, leafTy 1 2 (okI_lit (by omega)) (okI_lit (by omega))⟩, ⟨_, _, _, _, _, _, rfl, l6, k6.cell 8, k6.cell 9, k6.cell 10, k6.cell 11, hl⟩, trivial⟩
set_option maxRecDepth 100000 in
set_option maxHeartbeats 1000000 in
theorem shape_c (w : World) :
    Calls Tryd.prog 89 #[] w fun e w' => ∃ c2, e = .returned (.agg #[.int .i64 5, .int .i64 0, c2, .int .i64 0]) ∧ TyIn w' w'.heap.size shp (.int .i64 5) (.int .i64 0) c2 (.int .i64 0) ∧ Below w.heap.size w w' := by
  go_enter Tryd.func89, Tryd.ntmps89
  go_wp2
  refine bodyPost_ret (v := .agg #[.int .i64 5, .int .i64 0, .slice (some ⟨w.heap.size + 1 + 1 + 1 + 1 + 1 + 1, 0, none⟩) 3 3, .int .i64 0]) (by simp [results, Tryd.results89, go_sem]) rfl ?_
  refine ⟨_, rfl, shape_in (h := w.heap.size) ?_ ?_ ?_, (by repeat (first | exact Below.refl _ _ | assumption | with_reducible refine Below.drewN' ?_ _ | with_reducible refine Below.drew ?_ | ((with_reducible refine Below.alloc' ?_ ?_ _); · (first | omega | (simp <;> omega)))))⟩
  · exact ((((Blk.at_ (by simp)).alloc _).alloc _).alloc _).alloc _
  · exact ((Blk.at_ (by simp)).alloc _).alloc _
  · exact Blk.at_ (by simp)
end Go.Proofs.YtacikiambpfipaaDoor
namespace Go.Proofs.YtacikiambpfipaaDoor
set_option linter.unusedVariables false
set_option linter.unusedSimpArgs false
open Go.RowKit

theorem beL_small {t : ByteArray} (h : t.size ≤ 2) : beL t.data.toList < 65536 := by
  have h2 := beL_lt t.data.toList
  rw [toList_size] at h2
  have h3 : 2 ^ (8 * t.size) ≤ 2 ^ (8 * 2) := Nat.pow_le_pow_right (by omega) (by omega)
  exact Nat.lt_of_lt_of_le h2 h3
theorem vNt_beL {t : ByteArray} (h : t.size ≤ 2) (hl : lead0 t.data.toList = false) : vNt false t = beL t.data.toList := by
  unfold vNt; rw [if_neg]; simp [hl]; omega
theorem vNt_bd (l : Bool) (t : ByteArray) : -1 ≤ vNt l t ∧ vNt l t ≤ 65535 := by
  unfold vNt
  split
  · omega
  · rename_i h
    simp only [not_or] at h
    have := beL_small (t := t) (by omega)
    omega
set_option maxHeartbeats 400000 in
theorem helNumG_c (t : ByteArray) (c2 : Value) (w : World) (h : t.size ≤ 2) (hl : lead0 t.data.toList = false) (hc : ∃ A n cap, c2 = .slice A n cap) :
    Calls Tryd.prog 90 #[.agg #[.string t, .bool false, c2]] w fun e w' => e = .returned (.int .i64 (vNt false t)) ∧ Below w.heap.size w w' := by
  have hN : ofN t false = beL t.data.toList := by
    unfold ofN glN glE
    rw [hl]
    simp
    intro h1 h2
    omega
  have HC := Lib.hid (of_c t false c2 (w.alloc (.cells #[.string t, .bool false, c2] 27)) (by omega))
  have hb := beL_small h
  rw [hN] at HC
  have HV := Lib.hid (vNt_beL h hl)
  generalize vNt false t = V at *
  generalize beL t.data.toList = N at *
  generalize ofE t false = E at *
  obtain ⟨A, n, cap, rfl⟩ := hc
  clear hN hl
  go_enter Tryd.func90, Tryd.ntmps90
  go_wp2_with fail
  refine HC.out.mono ?_
  rintro e w1 ⟨rfl, hb1⟩
  have HB := Lib.hid (((Below.refl w.heap.size w).alloc (Nat.le_refl _) (.cells #[.string t, .bool false, .slice A n cap] 27)).trans (hb1.mono (by simp)))
  clear hb1
  go_wp2
  go_ret
  rw [HV.out]
  exact ⟨rfl, HB.out⟩
set_option maxRecDepth 100000 in
set_option maxHeartbeats 1000000 in
theorem refVal_c (t : ByteArray) (l : Bool) (c2 : Value) (w : World) (hs : t.size ≤ 9223372036854775807) (hc : ∃ A n cap, c2 = .slice A n cap) :
    Calls Tryd.prog 95 #[.agg #[.string t, .bool l, c2]] w fun e w' => e = .returned (.int .i64 (vNt l t)) ∧ Below w.heap.size w w' := by
  obtain ⟨A, n, cap, rfl⟩ := hc
  cases l with
  | true =>
    have HE : Hid (vNt true t = -1) := Lib.hid (by unfold vNt; rw [if_pos (.inl rfl)])
    generalize vNt true t = V at *
    go_enter Tryd.func95, Tryd.ntmps95
    go_wp2
    go_ret
    rw [HE.out]
    exact ⟨rfl, (by repeat (first | exact Below.refl _ _ | assumption | with_reducible refine Below.drewN' ?_ _ | with_reducible refine Below.drew ?_ | ((with_reducible refine Below.alloc' ?_ ?_ _); · (first | omega | (simp <;> omega)))))⟩
  | false =>
    by_cases h2 : 2 < t.size
    · have HE : Hid (vNt false t = -1) := Lib.hid (by unfold vNt; rw [if_pos (.inr (.inl h2))])
      generalize vNt false t = V at *
      go_enter Tryd.func95, Tryd.ntmps95
      go_wp2
      go_ret
      rw [HE.out]
      exact ⟨rfl, (by repeat (first | exact Below.refl _ _ | assumption | with_reducible refine Below.drewN' ?_ _ | with_reducible refine Below.drew ?_ | ((with_reducible refine Below.alloc' ?_ ?_ _); · (first | omega | (simp <;> omega)))))⟩
    · have HN := Lib.hid (fun w => refNumber_c t w (by omega))
      have hb := beL_small (t := t) (by omega)
      rcases Nat.eq_zero_or_pos t.size with h0 | h0
      · have HE : Hid (vNt false t = beL t.data.toList) := Lib.hid (vNt_beL (by omega) (by rw [List.eq_nil_of_length_eq_zero (l := t.data.toList) (by rw [toList_size]; exact h0)]; rfl))
        generalize vNt false t = V at *
        generalize beL t.data.toList = N at *
        go_enter Tryd.func95, Tryd.ntmps95
        go_wp2_with fail
        refine (HN.out _).mono ?_
        rintro e w1 ⟨rfl, rfl⟩
        go_wp2
        go_ret
        rw [HE.out]
        exact ⟨rfl, (by repeat (first | exact Below.refl _ _ | assumption | with_reducible refine Below.drewN' ?_ _ | with_reducible refine Below.drew ?_ | ((with_reducible refine Below.alloc' ?_ ?_ _); · (first | omega | (simp <;> omega)))))⟩
      · have hl := lead0_at t h0
        by_cases hz : t[0].toNat = 0
        · have HE : Hid (vNt false t = -1) := Lib.hid (by unfold vNt; rw [if_pos (.inr (.inr ⟨h0, by rw [hl]; simpa using hz⟩))])
          have k1 : ((t[0].toNat : Int) == 0) = true := by simp [hz]
          have k2 : (t[0].toNat == 0) = true := by simp [hz]
          generalize vNt false t = V at *
          clear hl
          go_enter Tryd.func95, Tryd.ntmps95
          go_wp2
          go_ret
          rw [HE.out]
          exact ⟨rfl, (by repeat (first | exact Below.refl _ _ | assumption | with_reducible refine Below.drewN' ?_ _ | with_reducible refine Below.drew ?_ | ((with_reducible refine Below.alloc' ?_ ?_ _); · (first | omega | (simp <;> omega)))))⟩
        · have HE : Hid (vNt false t = beL t.data.toList) := Lib.hid (vNt_beL (by omega) (by rw [hl]; simpa using hz))
          have k1 : ((t[0].toNat : Int) == 0) = false := beq_eq_false_iff_ne.2 (by omega)
          have k2 : (t[0].toNat == 0) = false := beq_eq_false_iff_ne.2 hz
          generalize vNt false t = V at *
          generalize beL t.data.toList = N at *
          clear hl
          go_enter Tryd.func95, Tryd.ntmps95
          go_wp2_with fail
          refine (HN.out _).mono ?_
          rintro e w1 ⟨rfl, rfl⟩
          go_wp2
          go_ret
          rw [HE.out]
          exact ⟨rfl, (by repeat (first | exact Below.refl _ _ | assumption | with_reducible refine Below.drewN' ?_ _ | with_reducible refine Below.drew ?_ | ((with_reducible refine Below.alloc' ?_ ?_ _); · (first | omega | (simp <;> omega)))))⟩
end Go.Proofs.YtacikiambpfipaaDoor
namespace Go.Proofs.YtacikiambpfipaaDoor
set_option linter.unusedVariables false
set_option linter.unusedSimpArgs false
open Go.RowKit

theorem may_next {s : ByteArray} {k : Nat} (hlt : k < s.size) (h : nameL (s.data.toList.take k) = true) (hb : nameB s[k].toNat = true) : nameL (s.data.toList.take (k + 1)) = true := by
  rw [take_snoc s k hlt, nameL_snoc, h, hb]; rfl
theorem may_stop {s : ByteArray} {k : Nat} (hlt : k < s.size) (hb : nameB s[k].toNat = false) : nmMay s = false := by
  have : nameL (s.data.toList.take (k + 1)) = false := by rw [take_snoc s k hlt, nameL_snoc, hb]; simp
  rw [nmMay, nameL_take_no _ _ this]; rfl
theorem may_end {s : ByteArray} {k : Nat} (hk : ¬ k < s.size) (h1 : 1 ≤ s.size) (h2 : s.size ≤ 12) (h : nameL (s.data.toList.take k) = true) : nmMay s = true := by
  rw [List.take_of_length_le (by simp; omega)] at h
  rw [nmMay_of h1 h2, h]
set_option maxRecDepth 100000 in
set_option maxHeartbeats 1000000 in
theorem cmdMay_c (s : ByteArray) (w : World) (hs : s.size ≤ 9223372036854775807) :
    Calls Tryd.prog 87 #[.string s] w fun e w' => e = .returned (.bool (nmMay s)) ∧ w = w' := by
  by_cases h1 : 1 ≤ s.size
  · by_cases h2 : s.size ≤ 12
    · go_enter Tryd.func87, Tryd.ntmps87
      go_wp2
      go_loop [15] (fun i => ∃ k : Nat, k ≤ s.size ∧ Hid (nameL (s.data.toList.take k) = true) ∧ i = .int .i64 k) (fun i => s.size - (intOf i).toNat)
      case atStart => exact ⟨0, by omega, Lib.hid (by simp [nameL]), rfl⟩
      case round =>
        obtain ⟨k, hk, hm, rfl⟩ := hrel
        by_cases hlt : k < s.size
        · rcases name_ways s[k].toNat s[k].toNat_lt with ⟨hb, hw, hne⟩ | ⟨hb, hw⟩
          · have HB := Lib.hid hb
            have e5 : (((s[k].toNat : Nat) : Int) != 95) = true := bne_iff_ne.2 (by omega)
            clear hb hne
            rcases hw with h | ⟨h, h'⟩ | ⟨h, h'⟩ | h
            all_goals
              go_wp2
              go_ret
              exact ⟨ret_bool (may_stop hlt HB.out), rfl⟩
          · have HB := Lib.hid hb
            clear hb
            rcases hw with ⟨h, h'⟩ | h | ⟨h, h'⟩
            · go_wp2
              go_round
              case rel => exact ⟨k + 1, by omega, Lib.hid (may_next hlt hm.out HB.out), by go_num⟩
              case measure => simp [intOf]; omega
            · have e5 : (((s[k].toNat : Nat) : Int) != 95) = false := by simp [h]
              have h6 : 94 < s[k].toNat := by omega
              have h7 : s[k].toNat < 96 := by omega
              clear h
              go_wp2
              go_round
              case rel => exact ⟨k + 1, by omega, Lib.hid (may_next hlt hm.out HB.out), by go_num⟩
              case measure => simp [intOf]; omega
            · go_wp2
              go_round
              case rel => exact ⟨k + 1, by omega, Lib.hid (may_next hlt hm.out HB.out), by go_num⟩
              case measure => simp [intOf]; omega
        · go_wp2
          go_ret
          exact ⟨ret_bool (may_end hlt h1 h2 hm.out), rfl⟩
    · go_enter Tryd.func87, Tryd.ntmps87
      go_wp2
      go_ret
      exact ⟨ret_bool (nmMay_no (by omega)), rfl⟩
  · go_enter Tryd.func87, Tryd.ntmps87
    go_wp2
    go_ret
    exact ⟨ret_bool (nmMay_no (by omega)), rfl⟩

set_option maxRecDepth 100000 in
set_option maxHeartbeats 1000000 in
theorem refMayN_c (s : ByteArray) (w : World) (hs : s.size ≤ 9223372036854775807) :
    Calls Tryd.prog 18 #[.string s] w fun e w' => e = .returned (.bool (nmMay s)) ∧ w = w' := by
  go_enter Tryd.func18, Tryd.ntmps18
  go_wp2
  go_loop [3] (fun i => ∃ k : Nat, k ≤ s.size ∧ Hid (nameL (s.data.toList.take k) = true) ∧ i = .int .i64 k) (fun i => s.size - (intOf i).toNat)
  case atStart => exact ⟨0, by omega, Lib.hid (by simp [nameL]), rfl⟩
  case round =>
    obtain ⟨k, hk, hm, rfl⟩ := hrel
    by_cases hlt : k < s.size
    · rcases name_ways s[k].toNat s[k].toNat_lt with ⟨hb, hw, hne⟩ | ⟨hb, hw⟩
      · have HB := Lib.hid hb
        have e5 : (((s[k].toNat : Nat) : Int) == 95) = false := beq_eq_false_iff_ne.2 (by omega)
        clear hb hne
        rcases hw with h | ⟨h, h'⟩ | ⟨h, h'⟩ | h
        · go_wp2
          go_ret
          exact ⟨ret_bool (may_stop hlt HB.out), rfl⟩
        · have d1 : decide (((s[k].toNat : Nat) : Int) ≤ 57) = false := decide_eq_false (by omega)
          go_wp2
          go_ret
          exact ⟨ret_bool (may_stop hlt HB.out), rfl⟩
        · have d1 : decide (((s[k].toNat : Nat) : Int) ≤ 57) = false := decide_eq_false (by omega)
          go_wp2
          go_ret
          exact ⟨ret_bool (may_stop hlt HB.out), rfl⟩
        · have d1 : decide (((s[k].toNat : Nat) : Int) ≤ 57) = false := decide_eq_false (by omega)
          have d2 : decide (((s[k].toNat : Nat) : Int) ≤ 122) = false := decide_eq_false (by omega)
          go_wp2
          go_ret
          exact ⟨ret_bool (may_stop hlt HB.out), rfl⟩
      · have HB := Lib.hid hb
        clear hb
        rcases hw with ⟨h, h'⟩ | h | ⟨h, h'⟩
        · go_wp2
          go_round
          case rel => exact ⟨k + 1, by omega, Lib.hid (may_next hlt hm.out HB.out), by go_num⟩
          case measure => simp [intOf]; omega
        · have e5 : (((s[k].toNat : Nat) : Int) == 95) = true := by simp [h]
          have h6 : 94 < s[k].toNat := by omega
          have h7 : s[k].toNat < 96 := by omega
          clear h
          go_wp2
          go_round
          case rel => exact ⟨k + 1, by omega, Lib.hid (may_next hlt hm.out HB.out), by go_num⟩
          case measure => simp [intOf]; omega
        · go_wp2
          go_round
          case rel => exact ⟨k + 1, by omega, Lib.hid (may_next hlt hm.out HB.out), by go_num⟩
          case measure => simp [intOf]; omega
    · by_cases h1 : 1 ≤ s.size
      · by_cases h2 : s.size ≤ 12
        · have d1 : decide ((s.size : Int) ≤ 12) = true := decide_eq_true (by omega)
          go_wp2
          go_ret
          exact ⟨ret_bool (may_end hlt h1 h2 hm.out), rfl⟩
        · have d1 : decide ((s.size : Int) ≤ 12) = false := decide_eq_false (by omega)
          go_wp2
          go_ret
          exact ⟨ret_bool (nmMay_no (by omega)), rfl⟩
      · go_wp2
        go_ret
        exact ⟨ret_bool (nmMay_no (by omega)), rfl⟩
end Go.Proofs.YtacikiambpfipaaDoor
namespace Go.Proofs.YtacikiambpfipaaDoor
set_option linter.unusedVariables false
set_option linter.unusedSimpArgs false
open Go.RowKit

theorem sCmp_lt (a b : ByteArray) : (Op.bytesLess a.toList b.toList) = sLess a b := rfl
set_option maxRecDepth 100000 in
theorem cmpStr_c (a b : ByteArray) (w : World) : Calls Tryd.prog 127 #[.string a, .string b] w fun e w' => e = .returned (.int .i64 (sCmp a b)) ∧ w = w' := by
  have qa : (a.toList != a.toList) = false := by simp
  have qb : (b.toList != b.toList) = false := by simp
  cases h1 : sLess a b with
  | true =>
    have HE : Hid (sCmp a b = -1) := Lib.hid (by simp [sCmp, h1])
    have q1 : Op.bytesLess a.toList b.toList = true := h1
    clear h1
    rw [HE.out]
    go_enter Tryd.func127, Tryd.ntmps127
    go_wp2
    go_ret
    exact ⟨rfl, rfl⟩
  | false =>
    have q1 : Op.bytesLess a.toList b.toList = false := h1
    rcases str_ways a b with ⟨rfl, q2, q3⟩ | ⟨hne, q2, q3⟩
    · have HE : Hid (sCmp a a = 0) := Lib.hid (sCmp_zero.2 rfl)
      clear h1
      rw [HE.out]
      go_enter Tryd.func127, Tryd.ntmps127
      go_wp2
      go_ret
      exact ⟨rfl, rfl⟩
    · have h2 : sLess b a = true := by
        cases h2 : sLess b a with
        | true => rfl
        | false => exact absurd (sLess_total h1 h2) hne
      have HE : Hid (sCmp a b = 1) := Lib.hid (by simp [sCmp, h1, h2])
      clear h1 h2 hne
      rw [HE.out]
      go_enter Tryd.func127, Tryd.ntmps127
      go_wp2
      go_ret
      exact ⟨rfl, rfl⟩
set_option maxRecDepth 100000 in
theorem cmpInt_c (a b : Int) (w : World) : Calls Tryd.prog 128 #[.int .i64 a, .int .i64 b] w fun e w' => e = .returned (.int .i64 (iCmp a b)) ∧ w = w' := by
  have qa : (a != a) = false := by simp
  have qb : (b != b) = false := by simp
  by_cases h1 : a < b
  · have HE : Hid (iCmp a b = -1) := Lib.hid (by simp [iCmp, h1])
    rw [HE.out]
    go_enter Tryd.func128, Tryd.ntmps128
    go_wp2
    go_ret
    exact ⟨rfl, rfl⟩
  · by_cases h2 : b < a
    · have HE : Hid (iCmp a b = 1) := Lib.hid (by simp [iCmp, h1, h2])
      rw [HE.out]
      go_enter Tryd.func128, Tryd.ntmps128
      go_wp2
      go_ret
      exact ⟨rfl, rfl⟩
    · have HE : Hid (iCmp a b = 0) := Lib.hid (by simp [iCmp, h1, h2])
      rw [HE.out]
      go_enter Tryd.func128, Tryd.ntmps128
      go_wp2
      go_ret
      exact ⟨rfl, rfl⟩
def orI (x y : Int) : Int := if x = 0 then y else x
set_option maxRecDepth 100000 in
theorem or_c (x y : Int) (g : Nat) (w : World) (h0 : w.cell? ⟨g, 0, none⟩ = some (.int .i64 x)) (h1 : w.cell? ⟨g, 1, none⟩ = some (.int .i64 y)) :
    Calls Tryd.prog 126 #[.slice (some ⟨g, 0, none⟩) 2 2] w fun e w' => e = .returned (.int .i64 (orI x y)) ∧ w = w' := by
  obtain ⟨D, HD⟩ : ∃ D, Hid (orI x y = D) := ⟨_, Lib.hid rfl⟩
  rw [HD.out]
  go_enter Tryd.func126, Tryd.ntmps126
  go_wp2_with fail
  go_loop [8] (fun i => ∃ k : Nat, k ≤ 2 ∧ i = .int .i64 k ∧ Hid (1 ≤ k → x = 0) ∧ Hid (2 ≤ k → y = 0)) (fun i => 2 - (intOf i).toNat)
  case atStart => exact ⟨0, by omega, rfl, Lib.hid (by omega), Lib.hid (by omega)⟩
  case round =>
    obtain ⟨k, hk, rfl, Hx, Hy⟩ := hrel
    by_cases hk0 : k = 0
    · subst hk0
      rcases beq0 x with ⟨hx, q1, q2⟩ | ⟨hx, q1, q2⟩
      · have HX := Lib.hid hx
        clear hx
        go_wp2
        go_round
        case rel => exact ⟨1, by omega, by go_num, Lib.hid (fun _ => HX.out), Lib.hid (by omega)⟩
        case measure => simp [intOf]
      · have HE : Hid (D = x) := Lib.hid (by rw [← HD.out, orI, if_neg hx])
        clear hx
        go_wp2
        go_ret
        exact ⟨by rw [HE.out]; rfl, rfl⟩
    · by_cases hk1 : k = 1
      · subst hk1
        have hx0 := Hx.out (by omega)
        rcases beq0 y with ⟨hx, q1, q2⟩ | ⟨hx, q1, q2⟩
        · have HX := Lib.hid hx
          have HX0 := Lib.hid hx0
          clear hx hx0
          go_wp2
          go_round
          case rel => exact ⟨2, by omega, by go_num, Lib.hid (fun _ => HX0.out), Lib.hid (fun _ => HX.out)⟩
          case measure => simp [intOf]
        · have HE : Hid (D = y) := Lib.hid (by rw [← HD.out, orI, if_pos hx0])
          clear hx hx0
          go_wp2
          go_ret
          exact ⟨by rw [HE.out]; rfl, rfl⟩
      · obtain rfl : k = 2 := by omega
        have HE : Hid (D = 0) := Lib.hid (by rw [← HD.out, orI, if_pos (Hx.out (by omega)), Hy.out (by omega)])
        go_wp2
        go_ret
        exact ⟨by rw [HE.out]; rfl, rfl⟩
end Go.Proofs.YtacikiambpfipaaDoor
namespace Go.Proofs.YtacikiambpfipaaDoor
set_option linter.unusedVariables false
set_option linter.unusedSimpArgs false
open Go.RowKit

def cc (l : List Cp) : List Value := l.flatMap fun c => [.string c.1, .int .i64 c.2]
theorem cc_append (a b : List Cp) : cc (a ++ b) = cc a ++ cc b := by simp [cc]
theorem cc_one (c : Cp) : cc [c] = [.string c.1, .int .i64 c.2] := by simp [cc]
theorem cc_at : ∀ (l : List Cp) (j : Nat) (h : j < l.length), (cc l)[j * 2]? = some (.string l[j].1) ∧ (cc l)[j * 2 + 1]? = some (.int .i64 l[j].2)
  | [], j, h => by simp at h
  | c :: l, 0, _ => by simp [cc]
  | c :: l, j + 1, h => by
    have := cc_at l j (by simpa using h)
    have e : cc (c :: l) = .string c.1 :: .int .i64 c.2 :: cc l := by simp [cc]
    rw [e, show (j + 1) * 2 = j * 2 + 2 from by omega]
    simpa using this
/-- The value is a slice that reads as these capabilities, in blocks below B. -/
def CpR (w : World) (B : Nat) (v : Value) (l : List Cp) : Prop := ∃ A cap, v = .slice A l.length cap ∧ l.length ≤ cap ∧ cap ≤ 9223372036854775807 ∧ ∀ j (h : j < l.length), ∃ g o, A = some ⟨g, o, none⟩ ∧ g < B ∧ w.cell? ⟨g, o + j * 2, none⟩ = some (.string l[j].1) ∧ w.cell? ⟨g, o + j * 2 + 1, none⟩ = some (.int .i64 l[j].2)
theorem CpR.keep {w w' : World} {B B' : Nat} {v : Value} {l : List Cp} (h : CpR w B v l) (hB : B ≤ B') (hk : ∀ p : Addr, p.block < B → w'.cell? p = w.cell? p) : CpR w' B' v l := by
  obtain ⟨A, cap, h1, h2, h3, h4⟩ := h
  refine ⟨A, cap, h1, h2, h3, fun j hj => ?_⟩
  obtain ⟨g, o, hA, hg, e0, e1⟩ := h4 j hj
  exact ⟨g, o, hA, by omega, (hk _ hg).trans e0, (hk _ hg).trans e1⟩
theorem CpR.below {w w' : World} {B : Nat} {v : Value} {l : List Cp} (h : CpR w B v l) (hb : Below B w w') : CpR w' B v l := h.keep (Nat.le_refl _) (fun _ hp => hb.cell hp)
theorem CpR.mono {w : World} {B B' : Nat} {v : Value} {l : List Cp} (h : CpR w B v l) (hB : B ≤ B') : CpR w B' v l := h.keep hB (fun _ _ => rfl)
theorem CpR.form' {w : World} {B : Nat} {v : Value} {l : List Cp} (h : CpR w B v l) : ∃ A n cap, v = .slice A n cap ∧ Hid (n = l.length) ∧ n ≤ cap ∧ cap ≤ 9223372036854775807 := by
  obtain ⟨A, cap, h1, h2, h3, _⟩ := h
  exact ⟨A, _, cap, h1, Lib.hid rfl, h2, h3⟩
theorem CpR.at_ {w : World} {B : Nat} {A : Option Addr} {n cap : Nat} {l : List Cp} (h : CpR w B (.slice A n cap) l) {j : Nat} (hj : j < l.length) : ∃ g o, A = some ⟨g, o, none⟩ ∧ g < B ∧ w.cell? ⟨g, o + j * 2, none⟩ = some (.string l[j].1) ∧ w.cell? ⟨g, o + j * 2 + 1, none⟩ = some (.int .i64 l[j].2) := by
  obtain ⟨A', cap', h1, h2, h3, h4⟩ := h
  injection h1 with hA _ _
  subst hA
  exact h4 j hj
theorem CpR.nil (w : World) (B : Nat) : CpR w B (.slice none 0 0) [] := ⟨none, 0, rfl, by simp, by simp, fun j hj => by simp at hj⟩
theorem CpR.of_own {w : World} {lo : Nat} {E : TypeId} {v : Value} {l : List Cp} (h : w.ownsRow lo E 2 v l.length (cc l)) : CpR w w.heap.size v l := by
  obtain ⟨h1, h2⟩ := h
  rcases h2 with ⟨h2, h3⟩ | ⟨g, cap, cur, hv, hg, hh, hn, hm, hs, ht⟩
  · obtain rfl : l = [] := List.eq_nil_of_length_eq_zero h3
    rw [h2]; exact CpR.nil _ _
  · refine ⟨_, cap, hv, hn, by simpa [maxLen] using hm, fun j hj => ?_⟩
    have hc := cc_at l j hj
    have key : ∀ i u, (cc l)[i]? = some u → w.cell? ⟨g, i, none⟩ = some u := by
      intro i u hu
      have hlt : i < l.length * 2 := by
        have := (List.getElem?_eq_some_iff.1 hu).1
        rw [h1] at this; exact this
      rw [← ht, List.getElem?_take_of_lt (by omega)] at hu
      simp only [World.cell?, hh]
      simpa using hu
    exact ⟨g, 0, rfl, lt_of_block hh, by rw [Nat.zero_add]; exact key _ _ hc.1, by rw [Nat.zero_add]; exact key _ _ hc.2⟩
/-- The names are no longer than strings are. -/
def NmOk (l : List Cp) : Prop := ∀ c ∈ l, c.1.size ≤ 9223372036854775807
theorem okAt_at {l : List Cp} {k : Nat} (h : k < l.length) : okAt l k = (nmMay l[k].1 && (decide (1 ≤ l[k].2) && (decide (l[k].2 ≤ 255) && (decide (k = 0) || cpLt (l.getD (k - 1) (⟨#[]⟩, 0)) l[k])))) := by
  have e : l.getD k (⟨#[]⟩, 0) = l[k] := by rw [List.getD_eq_getElem?_getD, List.getElem?_eq_getElem h]; rfl
  unfold okAt
  rw [e]
end Go.Proofs.YtacikiambpfipaaDoor
namespace Go.Proofs.YtacikiambpfipaaDoor
set_option linter.unusedVariables false
set_option linter.unusedSimpArgs false
open Go.RowKit

theorem leafIn {w : World} {B : Nat} {t : ByteArray} {l : Bool} {c0 c1 c2 : Value} (h : ItIn w B (.mk t l []) c0 c1 c2) : ∃ A k, c0 = .string t ∧ c1 = .bool l ∧ c2 = .slice A 0 k := by
  obtain ⟨h1, h2, _, _, A, k, h3, _⟩ := h
  exact ⟨A, k, h1, h2, h3⟩
/-- A hello's item. -/
theorem threeIn {w : World} {B : Nat} {ta tb : ByteArray} {cs : List It} {c0 c1 c2 : Value} (h : ItIn w B (.mk ⟨#[]⟩ true [.mk ta false [], .mk tb false [], .mk ⟨#[]⟩ true cs]) c0 c1 c2) :
    ∃ g o k Aa ka Ab kb Ac kc, c0 = .string ⟨#[]⟩ ∧ c1 = .bool true ∧ c2 = .slice (some ⟨g, o, none⟩) 3 k ∧ 3 ≤ k ∧ k ≤ 9223372036854775807 ∧ g < B ∧ w.cell? ⟨g, o, none⟩ = some (.string ta) ∧ w.cell? ⟨g, o + 1, none⟩ = some (.bool false) ∧ w.cell? ⟨g, o + 2, none⟩ = some (.slice Aa 0 ka) ∧
      w.cell? ⟨g, o + 3, none⟩ = some (.string tb) ∧ w.cell? ⟨g, o + 4, none⟩ = some (.bool false) ∧ w.cell? ⟨g, o + 5, none⟩ = some (.slice Ab 0 kb) ∧ w.cell? ⟨g, o + 8, none⟩ = some (.slice Ac cs.length kc) ∧ cs.length ≤ kc ∧ kc ≤ 9223372036854775807 ∧ ItsIn w B cs Ac 0 := by
  obtain ⟨h1, h2, _, _, A, k, h3, h4, h5, h6⟩ := h
  obtain ⟨g, o, a0, a1, a2, rfl, hg, e0, e1, e2, hi⟩ := h6.at_ 0 (by simp)
  obtain ⟨g', o', b0, b1, b2, hA, _, f0, f1, f2, hj⟩ := h6.at_ 1 (by simp)
  injection hA with hA
  injection hA with hg' ho'
  subst hg'; subst ho'
  obtain ⟨g', o', d0, d1, d2, hA, _, g0, g1, g2, hl⟩ := h6.at_ 2 (by simp)
  injection hA with hA
  injection hA with hg' ho'
  subst hg'; subst ho'
  obtain ⟨Aa, ka, rfl, rfl, rfl⟩ := leafIn hi
  obtain ⟨Ab, kb, rfl, rfl, rfl⟩ := leafIn hj
  obtain ⟨rfl, rfl, _, _, Ac, kc, rfl, l1, l2, l3⟩ := hl
  exact ⟨g, o, k, Aa, ka, Ab, kb, Ac, kc, h1, h2, h3, h4, h5, hg, by simpa using e0, by simpa using e1, by simpa using e2, by simpa using f0, by simpa using f1, by simpa using f2, by simpa using g2, l1, l2, l3⟩
/-- A capability's item. -/
theorem twoIn {w : World} {B : Nat} {tn tv : ByteArray} {c0 c1 c2 : Value} (h : ItIn w B (.mk ⟨#[]⟩ true [.mk tn false [], .mk tv false []]) c0 c1 c2) :
    ∃ g o k An kn Av kv, c0 = .string ⟨#[]⟩ ∧ c1 = .bool true ∧ c2 = .slice (some ⟨g, o, none⟩) 2 k ∧ 2 ≤ k ∧ k ≤ 9223372036854775807 ∧ g < B ∧ w.cell? ⟨g, o, none⟩ = some (.string tn) ∧ w.cell? ⟨g, o + 1, none⟩ = some (.bool false) ∧ w.cell? ⟨g, o + 2, none⟩ = some (.slice An 0 kn) ∧
      w.cell? ⟨g, o + 3, none⟩ = some (.string tv) ∧ w.cell? ⟨g, o + 4, none⟩ = some (.bool false) ∧ w.cell? ⟨g, o + 5, none⟩ = some (.slice Av 0 kv) := by
  obtain ⟨h1, h2, _, _, A, k, h3, h4, h5, h6⟩ := h
  obtain ⟨g, o, a0, a1, a2, rfl, hg, e0, e1, e2, hi⟩ := h6.at_ 0 (by simp)
  obtain ⟨g', o', b0, b1, b2, hA, _, f0, f1, f2, hj⟩ := h6.at_ 1 (by simp)
  injection hA with hA
  injection hA with hg' ho'
  subst hg'; subst ho'
  obtain ⟨An, kn, rfl, rfl, rfl⟩ := leafIn hi
  obtain ⟨Av, kv, rfl, rfl, rfl⟩ := leafIn hj
  exact ⟨g, o, k, An, kn, Av, kv, h1, h2, h3, h4, h5, hg, by simpa using e0, by simpa using e1, by simpa using e2, by simpa using f0, by simpa using f1, by simpa using f2⟩
theorem ItIn.text_le {w : World} {B : Nat} {t : ByteArray} {l : Bool} {s : List It} {c0 c1 c2 : Value} (h : ItIn w B (.mk t l s) c0 c1 c2) : t.size ≤ 9223372036854775807 := h.2.2.1
theorem its_nm {w : World} {B : Nat} {cs : List It} {A : Option Addr} (h : ItsIn w B cs A 0) (hc : ∀ c ∈ cs, ∃ tn tv, c = .mk ⟨#[]⟩ true [.mk tn false [], .mk tv false []] ∧ tv.size ≤ 2 ∧ lead0 tv.data.toList = false) : NmOk (cs.map cp1) := by
  intro c hm
  obtain ⟨x, hx, rfl⟩ := List.mem_map.1 hm
  obtain ⟨j, hj, rfl⟩ := List.mem_iff_getElem.1 hx
  obtain ⟨b, o, c0, c1, c2, _, _, _, _, _, hi⟩ := h.at_ j hj
  obtain ⟨tn, tv, hxe, _⟩ := hc _ hx
  rw [hxe] at hi ⊢
  obtain ⟨_, _, _, _, A', k', _, _, _, h6⟩ := hi
  obtain ⟨_, _, _, _, _, _, _, _, _, _, hn⟩ := h6.at_ 0 (by simp)
  exact hn.text_le
/-- What lies at place j of a slice of items. -/
theorem ItsIn.cells3 {w : World} {B : Nat} {s : List It} {A : Option Addr} (h : ItsIn w B s A 0) (j : Nat) (hj : j < s.length) :
    ∃ b o A' k, A = some ⟨b, o, none⟩ ∧ b < B ∧ w.cell? ⟨b, o + j * 3, none⟩ = some (.string s[j].text) ∧ w.cell? ⟨b, o + j * 3 + 1, none⟩ = some (.bool s[j].list) ∧ w.cell? ⟨b, o + j * 3 + 2, none⟩ = some (.slice A' s[j].sub.length k) ∧ s[j].sub.length ≤ k ∧ k ≤ 9223372036854775807 ∧ s[j].text.size ≤ 9223372036854775807 ∧ ItsIn w B s[j].sub A' 0 := by
  obtain ⟨b, o, c0, c1, c2, hA, hb, e0, e1, e2, hi⟩ := h.at_ j hj
  rw [Nat.zero_add] at e0 e1 e2
  cases hx : s[j] with
  | mk t l s' =>
    rw [hx] at hi
    obtain ⟨h1, h2, h3, _, A', k, h4, h5, h6, h7⟩ := hi
    subst h1; subst h2; subst h4
    exact ⟨b, o, A', k, hA, hb, e0, e1, e2, h5, h6, h3, h7⟩
theorem caps_nm {w : World} {B : Nat} {cs : List It} {A : Option Addr} (h : ItsIn w B cs A 0) (hc : ∀ c ∈ cs, capBad c = false) : NmOk (cs.map cp1) := by
  intro c hm
  obtain ⟨x, hx, rfl⟩ := List.mem_map.1 hm
  obtain ⟨j, hj, rfl⟩ := List.mem_iff_getElem.1 hx
  obtain ⟨b, o, A', k, _, _, _, _, _, _, _, _, hi⟩ := h.cells3 j hj
  have hb := hc _ hx
  unfold capBad at hb
  rw [Bool.or_eq_false_iff] at hb
  have h2 : cs[j].sub.length = 2 := by simpa using hb.1
  obtain ⟨_, _, _, _, _, _, _, _, _, _, _, hn, _⟩ := hi.cells3 0 (by omega)
  have : (cp1 cs[j]).1 = (cs[j].sub[0]'(by omega)).text := by
    unfold cp1 sub0
    rw [List.getD_eq_getElem?_getD, List.getElem?_eq_getElem (by omega)]; rfl
  rw [this]; exact hn
theorem two_of {s : List It} (h : s.length = 2) : ∃ a b, s = [a, b] := by
  match s, h with
  | [a, b], _ => exact ⟨a, b, rfl⟩
theorem three_of {s : List It} (h : s.length = 3) : ∃ a b c, s = [a, b, c] := by
  match s, h with
  | [a, b, c], _ => exact ⟨a, b, c, rfl⟩
theorem capBad_ok {c x y : It} (h : c.sub = [x, y]) (hl : x.list = false) : capBad c = false ∧ cp1 c = (x.text, vNt y.list y.text) := by
  have e0 : sub0 c = x := by unfold sub0; rw [h]; rfl
  have e1 : sub1 c = y := by unfold sub1; rw [h]; rfl
  exact ⟨by unfold capBad; rw [e0, hl, h]; rfl, by unfold cp1 vN; rw [e0, e1]⟩
theorem capBad_len {c : It} (h2 : c.sub.length ≠ 2) : capBad c = true := by unfold capBad; simp [h2]
theorem capBad_list {c x y : It} (h : c.sub = [x, y]) (hl : x.list = true) : capBad c = true := by
  have e0 : sub0 c = x := by unfold sub0; rw [h]; rfl
  unfold capBad; rw [e0, hl, Bool.or_true]
theorem hOk_len {x : It} (h : x.sub.length ≠ 3) : hOk x = false := by unfold hOk; simp [h]
theorem hOk_list {x a b c : It} (h : x.sub = [a, b, c]) (hl : c.list = false) : hOk x = false := by
  have e2 : sub2 x = c := by unfold sub2; rw [h]; rfl
  unfold hOk; rw [e2, hl]; simp
theorem hOk_cap {x a b c d : It} (h : x.sub = [a, b, c]) (hm : d ∈ c.sub) (hd : capBad d = true) : hOk x = false := by
  have e2 : sub2 x = c := by unfold sub2; rw [h]; rfl
  have : (c.sub.all fun c => !capBad c) = false := by
    rw [List.all_eq_false]
    exact ⟨_, hm, by simp [hd]⟩
  unfold hOk; rw [e2, this]; simp
theorem hOk_yes {x a b c : It} (h : x.sub = [a, b, c]) (hl : c.list = true) (hc : ∀ d ∈ c.sub, capBad d = false) :
    hOk x = true ∧ hL x = vNt a.list a.text ∧ hM x = vNt b.list b.text ∧ hC x = c.sub.map cp1 := by
  have e0 : sub0 x = a := by unfold sub0; rw [h]; rfl
  have e1 : sub1 x = b := by unfold sub1; rw [h]; rfl
  have e2 : sub2 x = c := by unfold sub2; rw [h]; rfl
  refine ⟨?_, by unfold hL vN; rw [e0], by unfold hM vN; rw [e1], by unfold hC; rw [e2]⟩
  have : (c.sub.all fun c => !capBad c) = true := List.all_eq_true.2 fun d hd => by rw [hc d hd]; rfl
  unfold hOk; rw [e2, hl, h, this]; rfl
end Go.Proofs.YtacikiambpfipaaDoor
namespace Go.Proofs.YtacikiambpfipaaDoor
set_option linter.unusedVariables false
set_option linter.unusedSimpArgs false
open Go.RowKit

theorem pairA {w : World} {g : Nat} {x y : Value} {t : TypeId} (hg : g = w.heap.size) : (w.alloc (.cells #[x, y] t)).cell? ⟨g, 0, none⟩ = some x ∧ (w.alloc (.cells #[x, y] t)).cell? ⟨g, 1, none⟩ = some y := by
  subst hg; exact ⟨(Blk.new w t #[x, y]).cell 0, (Blk.new w t #[x, y]).cell 1⟩
theorem pairD {w : World} {g : Nat} {x y : Value} {t : TypeId} (hg : g = w.heap.size) : (w.alloc (.cells #[x, y] t)).drew.cell? ⟨g, 0, none⟩ = some x ∧ (w.alloc (.cells #[x, y] t)).drew.cell? ⟨g, 1, none⟩ = some y := pairA hg
set_option maxRecDepth 100000 in
set_option maxHeartbeats 800000 in
theorem compare_c (a b : Cp) (w : World) : Calls Tryd.prog 88 #[.agg #[.string a.1, .int .i64 a.2], .agg #[.string b.1, .int .i64 b.2]] w fun e w' => e = .returned (.int .i64 (cpCmp a b)) ∧ Below w.heap.size w w' := by
  obtain ⟨a1, a2⟩ := a
  obtain ⟨b1, b2⟩ := b
  have HS := Lib.hid (fun w => cmpStr_c a1 b1 w)
  have HI := Lib.hid (fun w => cmpInt_c a2 b2 w)
  have HE : Hid (cpCmp (a1, a2) (b1, b2) = orI (sCmp a1 b1) (iCmp a2 b2)) := Lib.hid rfl
  rw [HE.out]
  have HO := Lib.hid (fun g w => or_c (sCmp a1 b1) (iCmp a2 b2) g w)
  generalize sCmp a1 b1 = X at *
  generalize iCmp a2 b2 = Y at *
  generalize orI X Y = Z at *
  clear HE
  go_enter Tryd.func88, Tryd.ntmps88
  go_wp2_with fail
  go_region_law (first
    | (go_simp; go_at_call 127; refine (HS.out _).mono ?_; rintro e w' ⟨rfl, rfl⟩)
    | (go_simp; go_at_call 128; refine (HI.out _).mono ?_; rintro e w' ⟨rfl, rfl⟩)
    | (go_simp; go_at_call 126; refine (HO.out _ _ (by first | exact (pairA (by simp)).1 | exact (pairD (by simp)).1) (by first | exact (pairA (by simp)).2 | exact (pairD (by simp)).2)).mono ?_; rintro e w' ⟨rfl, rfl⟩))
  all_goals
    go_wp2
    go_ret
    exact ⟨rfl, (by repeat (first | exact Below.refl _ _ | assumption | with_reducible refine Below.drewN' ?_ _ | with_reducible refine Below.drew ?_ | ((with_reducible refine Below.alloc' ?_ ?_ _); · (first | omega | (simp <;> omega)))))⟩
end Go.Proofs.YtacikiambpfipaaDoor
namespace Go.Proofs.YtacikiambpfipaaDoor
set_option linter.unusedVariables false
set_option linter.unusedSimpArgs false
open Go.RowKit

theorem eqg_cap : (Tryd.prog).eqGuardType (Tryd.prog).depth 104 = false := by kernel_rfl
theorem eqg_rcap : (Tryd.prog).eqGuardType (Tryd.prog).depth 111 = false := by kernel_rfl
theorem fld_cap : (Tryd.prog).underlying 104 = some (.struct ((Tryd.prog).fieldsOf 104)) := by kernel_rfl
theorem fld_rcap : (Tryd.prog).underlying 111 = some (.struct ((Tryd.prog).fieldsOf 111)) := by kernel_rfl
theorem held_cap : (Tryd.prog).stoodInHeld 104 = false := by kernel_rfl
theorem held_rcap : (Tryd.prog).stoodInHeld 111 = false := by kernel_rfl
theorem flds_cap : ((Tryd.prog).fieldsOf 104).toList.map (fun f => (f.type, f.offset, decide (f.name ≠ "_"))) = [(9, 0, true), (3, 1, true)] := by kernel_rfl
theorem flds_rcap : ((Tryd.prog).fieldsOf 111).toList.map (fun f => (f.type, f.offset, decide (f.name ≠ "_"))) = [(9, 0, true), (3, 1, true)] := by kernel_rfl
theorem eqFields2 (fs : List Field) (h : fs.map (fun f => (f.type, f.offset, decide (f.name ≠ "_"))) = [(9, 0, true), (3, 1, true)]) (x1 y1 : ByteArray) (x2 y2 : Int) (w : World) :
    (Op.eqFields 9999 #[.string x1, .int .i64 x2] #[.string y1, .int .i64 y2] fs).run Tryd.prog w = .ok (decide ((x1, x2) = (y1, y2))) w := by
  have hl : fs.length = 2 := by have := congrArg List.length h; simpa using this
  obtain ⟨f1, f2, rfl⟩ : ∃ f1 f2, fs = [f1, f2] := by
    match fs, hl with
    | [f1, f2], _ => exact ⟨f1, f2, rfl⟩
  simp only [List.map_cons, List.map_nil, List.cons.injEq, Prod.mk.injEq, and_true] at h
  obtain ⟨⟨h1, h2, h3⟩, h4, h5, h6⟩ := h
  have n1 := of_decide_eq_true h3
  have n2 := of_decide_eq_true h6
  have a1 : ∀ w, (isAgg 9).run Tryd.prog w = .ok false w := fun _ => by kernel_rfl
  have a2 : ∀ w, (isAgg 3).run Tryd.prog w = .ok false w := fun _ => by kernel_rfl
  have p1 : ∀ (a : Value) (b : Value) w, (part 9 #[a, b] 0).run Tryd.prog w = .ok a w := by
    intro a b w
    simp [part, Sem.run_bind, a1]
  have p2 : ∀ (a : Value) (b : Value) w, (part 3 #[a, b] 1).run Tryd.prog w = .ok b w := by
    intro a b w
    simp [part, Sem.run_bind, a2]
  have q1 := run_equalIn_string (P := Tryd.prog) w 9998 9 x1 y1 Tryd.underlying9
  have q2 := run_equalIn_int (P := Tryd.prog) w 9998 3 .i64 .i64 x2 y2 Tryd.underlying3
  simp only [Op.eqFields, n1, n2, h1, h2, h4, h5, ne_eq, not_false_eq_true, if_true, Sem.run_bind, p1, p2, Result.andThen_ok, q1, q2]
  rcases str_ways x1 y1 with ⟨rfl, e1, _⟩ | ⟨hne, e1, _⟩
  · rw [e1]
    simp only [Bool.not_true, Bool.false_eq_true, if_false, Sem.run_bind, p2, Result.andThen_ok, q2]
    by_cases e2 : x2 = y2
    · subst e2; simp
    · have : (x2 == y2) = false := beq_eq_false_iff_ne.2 e2
      rw [this]; simp [e2]
  · rw [e1]
    simp [hne]
theorem eqCap_run (x1 y1 : ByteArray) (x2 y2 : Int) (w : World) : (Op.equalIn 10000 104 (.agg #[.string x1, .int .i64 x2]) (.agg #[.string y1, .int .i64 y2])).run Tryd.prog w = .ok (decide ((x1, x2) = (y1, y2))) w := by
  rw [run_equalIn_struct w 9999 104 _ _ fld_cap held_cap]
  exact eqFields2 _ flds_cap x1 y1 x2 y2 w
theorem eqRCap_run (x1 y1 : ByteArray) (x2 y2 : Int) (w : World) : (Op.equalIn 10000 111 (.agg #[.string x1, .int .i64 x2]) (.agg #[.string y1, .int .i64 y2])).run Tryd.prog w = .ok (decide ((x1, x2) = (y1, y2))) w := by
  rw [run_equalIn_struct w 9999 111 _ _ fld_rcap held_rcap]
  exact eqFields2 _ flds_rcap x1 y1 x2 y2 w
end Go.Proofs.YtacikiambpfipaaDoor
namespace Go.Proofs.YtacikiambpfipaaDoor
set_option linter.unusedVariables false
set_option linter.unusedSimpArgs false
open Go.RowKit Go.Shelf

theorem only_putObj (w : World) (l : Nat) (o : Obj) : Only [l] w (w.putObj l o) := Only.of_grown (grownBy_putObj' w l o)
/-- Told of the iterator: it hands on the list xs, whatever the body, if the body writes blocks of L (and the loop's record) alone. -/
def SeqOnly {α : Type} (F : Fence) (n : Nat) (P : Program) (g : Nat) (lb : Array Value) (encs : α → Array Value) (xs : List α) (L : List Nat) (w : World) : Prop :=
  ∀ (l : Nat) (J : List α → World → Prop) (W : World), Only [] w W → w.heap.size ≤ l → l < W.heap.size → (∀ s A B, J s A → Below W.heap.size A B → J s B) →
    (∀ pre x W1, J pre W1 → pre ++ [x] <+: xs → YieldAt F (n - 1) P l (encs x) W1 fun e W' => e = .returned (.bool true) ∧ J (pre ++ [x]) W' ∧ Only (l :: L) W1 W') →
    J [] W →
    CallsIn F n P g (#[.func (.yield l) #[] #[]] ++ lb) W fun e W' => (∃ v, e = .returned v) ∧ J xs W'

variable {F : Fence} {n : Nat} {P : Program}

theorem rangeFunc_only {α : Type} {g : Operand} {ps : Array Tmp} {assign body : Code} {Q : Exit → Act → World → Prop} {a : Act} {w : World}
    (hro : F.round = none) (h1 : 1 ≤ n) {gf : Nat} {lb : Array Value} (hg : a.eval g = .func (.func gf) #[] lb) (hFg : F.fn gf) (eg : ∀ args w, (callFunc gf args).run P w = .ok (.enter gf args) w)
    {encs : α → Array Value} {xs : List α} {L : List Nat} (hseq : SeqOnly F (n - 1) P gf lb encs xs L w) (hL : ∀ i, i ∈ L → i < w.heap.size) (hps : ∀ x, (encs x).size = ps.size)
    (I : List α → World → Prop) (hI : ∀ s A B, I s A → Below w.heap.size A B → I s B) (h0 : I [] w) (a₁ : α → Act)
    (hassign : ∀ (l : Nat) (x : α) (W : World) (K : Act → World → Prop), K (a₁ x) W →
      assign.wpIn (F.inRound l) (n - 1 - 1) P (Exit.then K (fun _ _ _ => False)) { tmps := (ps.zip (encs x)).foldl (fun t (p, v) => t.setIfInBounds p v) a.tmps, defers := [] } W)
    (hbody : ∀ (l : Nat) (pre : List α) (x : α) (W : World), w.heap.size ≤ l → I pre W → pre ++ [x] <+: xs → body.wpIn (F.inRound l) (n - 1 - 1) P (fun e _ W' => e = .normal ∧ Only L W W' ∧ I (pre ++ [x]) W') (a₁ x) W)
    (hdone : ∀ (D : Nat) (W : World), w.heap.size ≤ D → I xs W → W.heap[D]? = some (.deferred (some [])) → Q .normal { a with defers := { target := .collected D, args := #[] } :: a.defers } W) :
    (Code.rangeFunc g ps assign body).wpIn F n P Q a w := by
  refine wpIn_rangeFunc fun fn hfn => ?_
  rw [hro]
  let r0 : Loop := { state := .ready, pending := none, fn, tmps := a.tmps, params := ps, assign, body, defers := w.heap.size }
  obtain ⟨W1, hW1⟩ : ∃ W1, (w.alloc (.deferred (some []))).alloc (.loop r0) = W1 := ⟨_, rfl⟩
  have hL1 : W1.heap[w.heap.size + 1]? = some (.loop r0) := by
    rw [← hW1]; have := World.alloc_heap_new (w.alloc (.deferred (some []))) (.loop r0); rwa [World.size_alloc] at this
  have hK1 : W1.heap[w.heap.size]? = some (.deferred (some [])) := by
    rw [← hW1]; exact (Below.heap_alloc _ _ _ (by simp)).trans (World.alloc_heap_new w _)
  have hO1 : Only [] w W1 := by rw [← hW1]; exact ((Only.refl [] w).alloc _).alloc _
  have hz1 : W1.heap.size = w.heap.size + 2 := by rw [← hW1]; simp
  refine ⟨w.heap.size + 1, [{ target := .collected w.heap.size, args := #[] }], W1, { target := .fn (.func gf) lb, args := #[.func (.yield (w.heap.size + 1)) #[] #[]] }, W1, gf,
    #[.func (.yield (w.heap.size + 1)) #[] #[]] ++ lb, W1, ?_, ?_, ?_, ?_, fun _ => h1, ?_⟩
  · rw [← hW1]; exact run_enterLoop_outer _ _ _ _ _
  · simp only [resolve, hg]
    simp [go_sem]
  · intro f' hf'; simp [Target.leads] at hf'; subst hf'; exact hFg
  · simp [invoke, go_sem, eg]
  refine (hseq (w.heap.size + 1) (fun pre W => I pre W ∧ W.heap[w.heap.size + 1]? = some (.loop r0) ∧ W.heap[w.heap.size]? = some (.deferred (some []))) W1 hO1 (by omega) (by omega) ?_ ?_
    ⟨hI _ _ _ h0 (hO1.below (Nat.le_refl _) (by simp)), hL1, hK1⟩).mono ?_
  · rintro s A B ⟨hi, hl, hk⟩ hb
    exact ⟨hI _ _ _ hi (hb.mono (by omega)), (hb.block _ (by omega)).trans hl, (hb.block _ (by omega)).trans hk⟩
  · rintro pre x W ⟨hi, hl, hk⟩ hpre
    have hlt : w.heap.size + 1 < W.heap.size := (Array.getElem?_eq_some_iff.1 hl).1
    have hy := run_yield (P := P) (args := encs x) hl (hps x)
    refine ⟨fn, _, assign, body, hy, roundIn_of_wpIn hfn (hassign _ x W _ ⟨_, run_beginRound hl rfl, ?_⟩)⟩
    obtain ⟨W2, hW2⟩ : ∃ W2, W.putObj (w.heap.size + 1) (.loop { r0 with state := .busy }) = W2 := ⟨_, rfl⟩
    rw [hW2]
    have hO2 : Only [w.heap.size + 1] W W2 := hW2 ▸ only_putObj W _ _
    have hl2 : W2.heap[w.heap.size + 1]? = some (.loop { r0 with state := .busy }) := by rw [← hW2]; exact World.putObj_heap_same hlt
    have hk2 : W2.heap[w.heap.size]? = some (.deferred (some [])) := (hO2.block _ (by omega) (by simp)).trans hk
    have hi2 : I pre W2 := hI _ _ _ hi (hO2.below (by omega) (by simp))
    refine wpIn_mono (hbody _ pre x W2 (by omega) hi2 hpre) ?_
    rintro e a3 W3 ⟨rfl, hO3, hi3⟩
    have hl3 := (hO3.block (w.heap.size + 1) (by have := hO2.size; omega) (fun h => by have := hL _ h; omega)).trans hl2
    have hk3 := (hO3.block w.heap.size (by have := hO2.size; omega) (fun h => by have := hL _ h; omega)).trans hk2
    have hO4 := only_putObj W3 (w.heap.size + 1) (.loop r0)
    refine ⟨_, _, run_endRound (P := P) none hl3, rfl, ⟨hI _ _ _ hi3 (hO4.below (by have := hO2.size; have := hO3.size; omega) (by simp)), World.putObj_heap_same (Array.getElem?_eq_some_iff.1 hl3).1, (hO4.block _ (by have := hO2.size; have := hO3.size; omega) (by simp)).trans hk3⟩, ?_⟩
    exact ((hO2.mono (by simp)).trans (hO3.mono (fun _ h => List.mem_cons_of_mem _ h))).trans (hO4.mono (by simp))
  · rintro e W2 ⟨⟨v, rfl⟩, hi, hl, hk⟩
    have hO4 := only_putObj W2 (w.heap.size + 1) (.loop { r0 with state := .exhausted })
    have hlt := (Array.getElem?_eq_some_iff.1 hl).1
    exact ⟨none, _, run_endLoop (P := P) hl (by simp [r0]), hdone _ _ (Nat.le_refl _) (hI _ _ _ hi (hO4.below (by omega) (by simp))) ((hO4.block _ (by omega) (by simp)).trans hk)⟩
end Go.Proofs.YtacikiambpfipaaDoor
