/- Package typed: Zero, whole. -/
import Derived.Test.YtmcdgmepheibkaaDoorTypedZ3
namespace Go.Proofs.YtmcdgmepheibkaaDoor
set_option linter.unusedVariables false
set_option linter.unusedSimpArgs false
open Go.RowKit

def TZEnd (w : World) (x : Ty) (e : Ending) (w' : World) : Prop := (match x.may with
    | true => ∃ c0 c1 c2, e = .returned (.tuple #[.agg #[c0, c1, c2], .int .i64 0]) ∧ ItS w' (w.heap.size ≤ ·) x.zero c0 c1 c2
    | false => e = .returned (.tuple #[.agg #[.string ⟨#[]⟩, .bool false, .slice none 0 0], .int .i64 1])) ∧ Below w.heap.size w w'
set_option maxRecDepth 100000 in
set_option maxHeartbeats 1600000 in
theorem tZero_c (ty : Ty) (B : Nat) (w : World) (t0 t1 t2 t3 : Value) (hT : TyIn w B ty t0 t1 t2 t3) (hB : B ≤ w.heap.size) (hL : Laid w) :
    Calls Tryd.prog 17 #[.agg #[t0, t1, t2, t3]] w fun e w' => TZEnd w ty e w' := by
  have hpos := hL.pos
  obtain ⟨W0, hW0⟩ : ∃ W0, (w.alloc (.cells #[t0, t1, t2, t3] 24)).alloc (.cells #[.string ⟨#[]⟩, .bool false, .slice none 0 0] 27) = W0 := ⟨_, rfl⟩
  have hb0 : Below w.heap.size w W0 := by rw [← hW0]; exact ((Below.refl _ w).alloc (Nat.le_refl _) _).alloc (by simp) _
  have hz0 : W0.heap.size = w.heap.size + 2 := by rw [← hW0]; simp
  have m1 : Blk W0 w.heap.size 24 #[t0, t1, t2, t3] := by rw [← hW0]; exact (Blk.new w _ _).alloc _
  have m2 : Blk W0 (w.heap.size + 1) 27 #[.string ⟨#[]⟩, .bool false, .slice none 0 0] := by rw [← hW0]; have := Blk.new (w.alloc (.cells #[t0, t1, t2, t3] 24)) 27 #[.string ⟨#[]⟩, .bool false, .slice none 0 0]; simpa using this
  have HC1 := Lib.hid (schemaMay_c ty B W0 t0 t1 t2 t3 (hT.below (hb0.mono hB)) (by omega) (hL.below hb0 hpos))
  have HM1 := Lib.hid m1
  have HM2 := Lib.hid m2
  have HB0 := Lib.hid hb0
  have HT := Lib.hid hT
  have HW0 := Lib.hid hW0
  obtain ⟨a, ha⟩ : ∃ a, ty.may = a := ⟨_, rfl⟩
  have HA := Lib.hid ha
  rw [ha] at HC1
  obtain ⟨A, cap, rfl, rfl, rfl, rfl, _⟩ := hT.open_
  unfold TZEnd
  rw [ha]
  generalize ty.kind = ki at *
  generalize ty.size = si at *
  generalize ty.tail = ta at *
  generalize ty.sub.length = nt at *
  clear ha hT hW0 m1 m2 hb0 hL
  cases a with
  | false =>
    go_enter Tryd.func17, Tryd.ntmps17
    go_wp2_with fail
    rw [HW0.out]
    refine HC1.out.mono ?_
    rintro e w1 ⟨rfl, hb1⟩
    have hz1 := hb1.size
    obtain ⟨r0, r1, r2, rf0, rf1, rf2⟩ := blk3 (HM2.out.keep hb1 (by omega))
    have HB1 : Hid (Below w.heap.size w w1) := Lib.hid (HB0.out.trans (hb1.mono (by omega)))
    clear hb1
    go_wp2
    refine bodyPost_ret (v := .tuple #[.agg #[.string ⟨#[]⟩, .bool false, .slice none 0 0], .int .i64 1]) (by simp [results, Tryd.results17, go_sem, r0, r1, r2]) rfl ⟨rfl, ?_⟩
    exact ((HB1.out.setCell (by simp) _).setCell (by simp) _).setCell (by simp) _
  | true =>
    go_enter Tryd.func17, Tryd.ntmps17
    go_wp2_with fail
    rw [HW0.out]
    refine HC1.out.mono ?_
    rintro e w1 ⟨rfl, hb1⟩
    have hz1 := hb1.size
    have HB1 : Hid (Below (w.heap.size + 2) W0 w1) := Lib.hid (hb1.mono (by omega))
    clear hb1
    go_wp2_with fail
    refine (kinds_c w1).mono ?_
    rintro e w3 ⟨rfl, rfl⟩
    obtain ⟨W5, hW5⟩ : ∃ W5, ((w1.alloc (.map kEs.toArray 5)).alloc (.cells #[.map (some w1.heap.size)] 76)).alloc (.cells #[.func (.func 54) #[] #[.pointer (some ⟨w1.heap.size + 1, 0, none⟩), .pointer (some ⟨w1.heap.size + 1 + 1, 0, none⟩)]] 39) = W5 := ⟨_, rfl⟩
    have hz5 : W5.heap.size = w1.heap.size + 3 := by rw [← hW5]; simp
    have hb5 : Below w1.heap.size w1 W5 := by rw [← hW5]; exact (((Below.refl _ _).alloc (Nat.le_refl _) _).alloc (by simp) _).alloc (by simp; omega) _
    have HZV : Hid (ZV W5 (w1.heap.size + 1) (w1.heap.size + 1 + 1) w1.heap.size) := Lib.hid (by
      rw [← hW5]
      refine ⟨?_, ?_, ?_⟩
      · have := (Blk.new (w1.alloc (.map kEs.toArray 5)) 76 #[.map (some w1.heap.size)])
        rw [World.size_alloc] at this
        exact this.alloc _
      · have := Blk.new ((w1.alloc (.map kEs.toArray 5)).alloc (.cells #[.map (some w1.heap.size)] 76)) 39 #[.func (.func 54) #[] #[.pointer (some ⟨w1.heap.size + 1, 0, none⟩), .pointer (some ⟨w1.heap.size + 1 + 1, 0, none⟩)]]
        rw [World.size_alloc, World.size_alloc] at this
        exact this
      · have h3 : (w1.alloc (.map kEs.toArray 5)).heap[w1.heap.size]? = some (.map kEs.toArray 5) := heap_alloc_new w1 _
        rw [Below.heap_alloc _ _ _ (by simp; omega), Below.heap_alloc _ _ _ (by simp)]
        exact h3)
    have HB5 : Hid (Below (w.heap.size + 2) W0 W5) := Lib.hid (HB1.out.trans (hb5.mono (by omega)))
    have hbB : Below B w W5 := (HB0.out.mono hB).trans (HB5.out.mono (by omega))
    obtain ⟨_, _, hrt⟩ := ty_may HA.out
    have HF := Lib.hid (zeroC_c ty B W5 _ _ _ _ (HT.out.below hbB) (by omega) hrt _ _ _ HZV.out)
    have HW5 := Lib.hid hW5
    have n1 := HM1.out.keep HB5.out (by omega)
    have q0 : W5.cell? ⟨w.heap.size, 0, none⟩ = some (.int .i64 ki) := n1.cell 0
    have q1 : W5.cell? ⟨w.heap.size, 1, none⟩ = some (.int .i64 si) := n1.cell 1
    have q2 : W5.cell? ⟨w.heap.size, 2, none⟩ = some (.slice A nt cap) := n1.cell 2
    have q3 : W5.cell? ⟨w.heap.size, 3, none⟩ = some (.int .i64 ta) := n1.cell 3
    rw [← hW5] at q0 q1 q2 q3
    have HZ5 := Lib.hid (And.intro hz0 (And.intro hz1 hz5))
    clear hW5 hb5 hbB hrt n1 hz5
    go_wp2_with fail
    rw [HW5.out]
    refine HF.out.mono ?_
    rintro e w6 ⟨⟨c0, c1, c2, rfl, hit⟩, hb6⟩
    obtain ⟨hz0, hz1, hz5⟩ := HZ5.out
    have HIT := Lib.hid hit
    obtain ⟨r0, r1, r2, rf0, rf1, rf2⟩ := blk3 ((HM2.out.keep HB5.out (by omega)).keep hb6 (by omega))
    have HB6 : Hid (Below w.heap.size w w6) := Lib.hid (HB0.out.trans ((HB5.out.mono (by omega)).trans (hb6.mono (by omega))))
    have HGE : Hid (w.heap.size + 2 ≤ W5.heap.size) := Lib.hid (by omega)
    obtain ⟨AA, ccap, rfl, rfl, rfl, _⟩ := hit.open_
    clear hit hb6 hz0 hz1 hz5
    go_wp2
    refine bodyPost_ret (v := .tuple #[.agg #[.string ty.zero.text, .bool ty.zero.list, .slice AA ty.zero.sub.length ccap], .int .i64 0]) (by simp [results, Tryd.results17, go_sem, r0, r1, r2]) rfl ⟨⟨_, _, _, rfl, ?_⟩, ?_⟩
    · refine HIT.out.only (L := [w.heap.size + 1]) (by repeat (first | exact Only.refl _ _ | assumption | with_reducible refine Only.drewN ?_ _ | with_reducible refine Only.drew ?_ | with_reducible refine Only.alloc ?_ _ | ((with_reducible refine Only.put ?_ ?_ _); · (first | omega | (simp <;> omega))))) ?_ ?_
      · intro k hk hs
        have hk : k = w.heap.size + 1 := by simpa using hk
        have hs : W5.heap.size ≤ k := hs
        have := HGE.out
        omega
      · intro k _ hs
        have hs : W5.heap.size ≤ k := hs
        have := HGE.out
        show w.heap.size ≤ k
        omega
    · exact ((HB6.out.setCell (by simp) _).setCell (by simp) _).setCell (by simp) _
end Go.Proofs.YtmcdgmepheibkaaDoor
