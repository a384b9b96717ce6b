/- tree.Put: its three checks, and it itself. -/
import Derived.Test.YtacikiambpfipaaDoorJTreeFirst
import Derived.Test.YtacikiambpfipaaDoorJA4
import Derived.Test.YtacikiambpfipaaDoorJA5
import Derived.Test.YtacikiambpfipaaDoorJRlpPut
import Derived.Test.YtacikiambpfipaaDoorJA6
namespace Go.Proofs.YtacikiambpfipaaDoor
set_option linter.unusedVariables false
set_option linter.unusedSimpArgs false
open Go.RowKit

theorem Blk.at_ {w0 : World} {k : Nat} {t : TypeId} {cs : Array Value} (hz : w0.heap.size = k) : Blk (w0.alloc (.cells cs t)) k t cs := hz ▸ Blk.new w0 t cs
set_option maxRecDepth 100000 in
set_option maxHeartbeats 1000000 in
theorem putA_c (ty : Ty) (x : It) (B g4 g5 : Nat) (w : World) (t0 t1 t2 t3 c0 c1 c2 : Value) (h4 : Blk w g4 24 #[t0, t1, t2, t3]) (h5 : Blk w g5 27 #[c0, c1, c2]) (hT : TyIn w B ty t0 t1 t2 t3) (hI : ItIn w B x c0 c1 c2) (hB : B ≤ w.heap.size) (hL : Laid w) :
    Calls Tryd.prog 42 #[.pointer (some ⟨g4, 0, none⟩), .pointer (some ⟨g5, 0, none⟩)] w fun e w' => e = .returned (.int .i64 (fitE ty x)) ∧ Below w.heap.size w w' := by
  have HC := Lib.hid (fits_c ty x B w t0 t1 t2 t3 c0 c1 c2 hT hI hB hL)
  obtain ⟨q0, q1, q2, q3, _⟩ := blk4 h4
  obtain ⟨p0, p1, p2⟩ := blk3' h5
  obtain ⟨A, cap, rfl, rfl, rfl, rfl, _⟩ := hT.open_
  obtain ⟨A', cap', rfl, rfl, rfl, _⟩ := hI.open_
  generalize fitE ty x = E at *
  clear hT hI h4 h5
  go_enter Tryd.func42, Tryd.ntmps42
  go_wp2_with fail
  refine HC.out.mono ?_
  rintro e w1 ⟨rfl, hb⟩
  go_wp2
  go_ret
  exact ⟨rfl, hb⟩
set_option maxRecDepth 100000 in
set_option maxHeartbeats 1000000 in
theorem putB_c (x : It) (D M : Int) (B g5 g6 g7 : Nat) (w : World) (c0 c1 c2 : Value) (h5 : Blk w g5 27 #[c0, c1, c2]) (h6 : Blk w g6 3 #[.int .i64 D]) (h7 : Blk w g7 3 #[.int .i64 M]) (hI : ItIn w B x c0 c1 c2) (hB : B ≤ w.heap.size) :
    Calls Tryd.prog 44 #[.pointer (some ⟨g5, 0, none⟩), .pointer (some ⟨g6, 0, none⟩), .pointer (some ⟨g7, 0, none⟩)] w fun e w' => e = .returned (.int .i64 (capsE x D M)) ∧ Below w.heap.size w w' := by
  have HC := Lib.hid (caps_c x D M B w c0 c1 c2 hI hB)
  obtain ⟨p0, p1, p2⟩ := blk3' h5
  have q6 : w.cell? ⟨g6, 0, none⟩ = some (.int .i64 D) := h6.cell 0
  have q7 : w.cell? ⟨g7, 0, none⟩ = some (.int .i64 M) := h7.cell 0
  obtain ⟨A', cap', rfl, rfl, rfl, _⟩ := hI.open_
  generalize capsE x D M = E at *
  clear hI h5 h6 h7
  go_enter Tryd.func44, Tryd.ntmps44
  go_wp2_with fail
  refine HC.out.mono ?_
  rintro e w1 ⟨rfl, hb⟩
  go_wp2
  go_ret
  exact ⟨rfl, hb⟩
set_option maxRecDepth 100000 in
set_option maxHeartbeats 1000000 in
theorem putC_c (x : It) (B g5 g10 : Nat) (w : World) (z c0 c1 c2 : Value) (h5 : Blk w g5 27 #[c0, c1, c2]) (h10 : Blk w g10 9 #[z]) (hI : ItIn w B x c0 c1 c2) (hB : B ≤ w.heap.size) (hm : x.may = true) (hl : x.rlp.length ≤ 1099511627776) :
    Calls Tryd.prog 46 #[.pointer (some ⟨g5, 0, none⟩), .pointer (some ⟨g10, 0, none⟩)] w fun e w' => e = .returned (.int .i64 0) ∧ Blk w' g10 9 #[.string ⟨x.rlp.toArray⟩] ∧ Only [g10] w w' := by
  have HC := Lib.hid (rlpPut_c x B w c0 c1 c2 hI hB hm hl)
  obtain ⟨p0, p1, p2⟩ := blk3' h5
  obtain ⟨A', cap', rfl, rfl, rfl, _⟩ := hI.open_
  have H10 := Lib.hid h10
  have hlt := h10.lt
  generalize (⟨x.rlp.toArray⟩ : ByteArray) = S at *
  clear hI h5 hl hm h10
  go_enter Tryd.func46, Tryd.ntmps46
  go_wp2_with fail
  refine HC.out.mono ?_
  rintro e w1 ⟨rfl, hb⟩
  have h1 := H10.out.keep hb hlt
  have q1 : w1.cell? ⟨g10, 0, none⟩ = some z := h1.cell 0
  have q1f : w1.frozen? ⟨g10, 0, none⟩ = false := h1.frozen 0
  have HB1 := Lib.hid h1
  have HO : Hid (Only [g10] w w1) := Lib.hid ((Only.of_below hb (Nat.le_refl _)).mono (by simp))
  clear h1 hb
  go_wp2
  go_ret
  exact ⟨rfl, HB1.out.set 0 _, HO.out.setCell (by simp) _⟩
set_option maxRecDepth 100000 in
set_option maxHeartbeats 2000000 in
theorem treePut_c (ty : Ty) (x : It) (D M : Int) (B : Nat) (w : World) (t0 t1 t2 t3 c0 c1 c2 : Value) (hT : TyIn w B ty t0 t1 t2 t3) (hI : ItIn w B x c0 c1 c2) (hB : B ≤ w.heap.size) (hL : Laid w) (hl : x.rlp.length ≤ 1099511627776) :
    Calls Tryd.prog 14 #[.agg #[t0, t1, t2, t3], .agg #[c0, c1, c2], .int .i64 D, .int .i64 M] w fun e w' => e = .returned (.tuple #[.string (if tPutE ty x D M = 0 then ⟨x.rlp.toArray⟩ else ⟨#[]⟩), .int .i64 (tPutE ty x D M)]) ∧ Below w.heap.size w w' := by
  obtain ⟨W6, hW6⟩ : ∃ W6, ((((((w.alloc (.cells #[t0, t1, t2, t3] 24)).alloc (.cells #[c0, c1, c2] 27)).alloc (.cells #[.int .i64 D] 3)).alloc (.cells #[.int .i64 M] 3)).alloc (.cells #[.string ⟨#[]⟩] 9)).alloc (.cells #[.func (.func 42) #[] #[.pointer (some ⟨w.heap.size, 0, none⟩), .pointer (some ⟨w.heap.size + 1, 0, none⟩)], .func (.func 44) #[] #[.pointer (some ⟨w.heap.size + 1, 0, none⟩), .pointer (some ⟨w.heap.size + 1 + 1, 0, none⟩), .pointer (some ⟨w.heap.size + 1 + 1 + 1, 0, none⟩)], .func (.func 46) #[] #[.pointer (some ⟨w.heap.size + 1, 0, none⟩), .pointer (some ⟨w.heap.size + 1 + 1 + 1 + 1, 0, none⟩)]] 84)) = W6 := ⟨_, rfl⟩
  have hz : W6.heap.size = w.heap.size + 6 := by rw [← hW6]; simp
  have hb : Below w.heap.size w W6 := by rw [← hW6]; exact (by repeat (first | exact Below.refl _ _ | assumption | with_reducible refine Below.drewN' ?_ _ | with_reducible refine Below.drew ?_ | ((with_reducible refine Below.alloc' ?_ ?_ _); · (first | omega | (simp <;> omega)))))
  have h4 : Blk W6 (w.heap.size) 24 #[t0, t1, t2, t3] := by rw [← hW6]; exact (((((Blk.at_ (by simp)).alloc _).alloc _).alloc _).alloc _).alloc _
  have h5 : Blk W6 (w.heap.size + 1) 27 #[c0, c1, c2] := by rw [← hW6]; exact ((((Blk.at_ (by simp)).alloc _).alloc _).alloc _).alloc _
  have h6 : Blk W6 (w.heap.size + 1 + 1) 3 #[.int .i64 D] := by rw [← hW6]; exact (((Blk.at_ (by simp)).alloc _).alloc _).alloc _
  have h7 : Blk W6 (w.heap.size + 1 + 1 + 1) 3 #[.int .i64 M] := by rw [← hW6]; exact ((Blk.at_ (by simp)).alloc _).alloc _
  have h10 : Blk W6 (w.heap.size + 1 + 1 + 1 + 1) 9 #[.string ⟨#[]⟩] := by rw [← hW6]; exact (Blk.at_ (by simp)).alloc _
  have hF : Blk W6 (w.heap.size + 1 + 1 + 1 + 1 + 1) 84 #[.func (.func 42) #[] #[.pointer (some ⟨w.heap.size, 0, none⟩), .pointer (some ⟨w.heap.size + 1, 0, none⟩)], .func (.func 44) #[] #[.pointer (some ⟨w.heap.size + 1, 0, none⟩), .pointer (some ⟨w.heap.size + 1 + 1, 0, none⟩), .pointer (some ⟨w.heap.size + 1 + 1 + 1, 0, none⟩)], .func (.func 46) #[] #[.pointer (some ⟨w.heap.size + 1, 0, none⟩), .pointer (some ⟨w.heap.size + 1 + 1 + 1 + 1, 0, none⟩)]] := by rw [← hW6]; exact Blk.at_ (by simp)
  have HF := Lib.hid (firstPut_c W6 (w.heap.size + 1 + 1 + 1 + 1 + 1) #[.pointer (some ⟨w.heap.size, 0, none⟩), .pointer (some ⟨w.heap.size + 1, 0, none⟩)] #[.pointer (some ⟨w.heap.size + 1, 0, none⟩), .pointer (some ⟨w.heap.size + 1 + 1, 0, none⟩), .pointer (some ⟨w.heap.size + 1 + 1 + 1, 0, none⟩)] #[.pointer (some ⟨w.heap.size + 1, 0, none⟩), .pointer (some ⟨w.heap.size + 1 + 1 + 1 + 1, 0, none⟩)] (fitE ty x) (capsE x D M) 0 (fun w' => Below W6.heap.size W6 w') (fun w' => Below W6.heap.size W6 w') (fun w' => Blk w' (w.heap.size + 1 + 1 + 1 + 1) 9 #[.string ⟨x.rlp.toArray⟩] ∧ Only [w.heap.size + 1 + 1 + 1 + 1] W6 w') hF
    (putA_c ty x B _ _ W6 t0 t1 t2 t3 c0 c1 c2 h4 h5 (hT.below (hb.mono hB)) (hI.below (hb.mono hB)) (by omega) (hL.below hb hL.pos))
    (fun _ w1 h1 => (putB_c x D M B _ _ _ w1 c0 c1 c2 (h5.keep h1 (by omega)) (h6.keep h1 (by omega)) (h7.keep h1 (by omega)) ((hI.below (hb.mono hB)).below (h1.mono (by omega))) (by have := h1.size; omega)).mono fun e w' ⟨he, hb'⟩ => ⟨he, h1.trans (hb'.mono h1.size)⟩)
    (fun hf _ w2 h2 => (putC_c x B _ _ w2 _ c0 c1 c2 (h5.keep h2 (by omega)) (h10.keep h2 (by omega)) ((hI.below (hb.mono hB)).below (h2.mono (by omega))) (by have := h2.size; omega) ((fitE_zero ty x).1 hf).2.1 hl).mono fun e w' ⟨he, hk, ho⟩ => ⟨he, hk, ((Only.of_below h2 (Nat.le_refl _)).mono (by simp)).trans ho⟩)
    (fun w' h1 => hF.keep h1 (by omega)) (fun w' h1 => hF.keep h1 (by omega)))
  have HB := Lib.hid hb
  have HZ := Lib.hid hz
  have HPE : Hid (tPutE ty x D M = fstE (fitE ty x) (capsE x D M) 0) := Lib.hid (by
    unfold tPutE fstE
    by_cases h1 : fitE ty x ≠ 0
    · rw [if_pos h1, if_pos h1]
    · rw [if_neg h1, if_neg h1]
      by_cases h2 : capsE x D M ≠ 0
      · rw [if_pos h2]
      · rw [if_neg h2]; exact Decidable.not_not.1 h2)
  have HW6 := Lib.hid hW6
  obtain ⟨A, cap, rfl, rfl, rfl, rfl, _⟩ := hT.open_
  obtain ⟨A', cap', rfl, rfl, rfl, _⟩ := hI.open_
  have HTZ : Hid (tPutE ty x D M = 0 → fitE ty x = 0 ∧ capsE x D M = 0) := Lib.hid (tPutE_zero ty x D M).1
  generalize tPutE ty x D M = E at *
  generalize (⟨x.rlp.toArray⟩ : ByteArray) = S at *
  generalize fitE ty x = E0 at *
  generalize capsE x D M = E1 at *
  clear h4 h5 h6 h7 h10 hF hb hz hW6 hT hI hl
  rcases beq0 E with ⟨he, k1, k2⟩ | ⟨he, k1, k2⟩
  · subst he
    obtain ⟨rfl, rfl⟩ := HTZ.out rfl
    go_enter Tryd.func14, Tryd.ntmps14
    go_wp2_with fail
    rw [HW6.out]
    refine HF.out.mono ?_
    rintro e w1 ⟨rfl, hi⟩
    have hi : Blk w1 (w.heap.size + 1 + 1 + 1 + 1) 9 #[.string S] ∧ Only [w.heap.size + 1 + 1 + 1 + 1] W6 w1 := by
      have := hi
      simpa [fstI] using this
    rw [← HPE.out]
    have q1 : w1.cell? ⟨w.heap.size + 1 + 1 + 1 + 1, 0, none⟩ = some (.string S) := hi.1.cell 0
    have HO := Lib.hid hi.2
    clear hi HF HPE HTZ
    go_wp2
    go_ret2
    refine ⟨?_, HB.out.trans (HO.out.below (by have := HZ.out; omega) (by simp; omega))⟩
    rfl
  · go_enter Tryd.func14, Tryd.ntmps14
    go_wp2_with fail
    rw [HW6.out]
    refine HF.out.mono ?_
    rintro e w1 ⟨rfl, hi⟩
    have hbe : Below w.heap.size w w1 := by
      unfold fstI at hi
      have hz := HZ.out
      split at hi
      · exact HB.out.trans (hi.mono (by omega))
      · split at hi
        · exact HB.out.trans (hi.mono (by omega))
        · exact HB.out.trans (hi.2.below (by omega) (by simp; omega))
    rw [← HPE.out]
    have HBE := Lib.hid hbe
    clear hi HF HPE HTZ hbe
    go_wp2
    go_ret2
    exact ⟨rfl, HBE.out⟩
end Go.Proofs.YtacikiambpfipaaDoor
