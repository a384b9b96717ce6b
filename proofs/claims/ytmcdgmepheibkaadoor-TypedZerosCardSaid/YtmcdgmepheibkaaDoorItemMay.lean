/- Package item: item.May. -/
import Derived.Test.YtmcdgmepheibkaaDoorItem
import Derived.Laws.EntriesVeiled
namespace Go.Proofs.YtmcdgmepheibkaaDoor
set_option linter.unusedVariables false
set_option linter.unusedSimpArgs false
open Go.RowKit

/-- The world in which scan begins its walk: five new blocks. -/
def scanW (w : World) (c0 c1 c2 : Value) : World :=
  ((((w.alloc (.cells #[c0, c1, c2] 27)).alloc (.cells #[.func (.func 93) #[] #[]] 30)).alloc (.cells #[.int .i64 0] 3)).alloc (.cells #[.int .i64 0] 3)).alloc
    (.cells #[.func (.func 121) #[] #[.pointer (some ⟨w.heap.size + 1 + 1, 0, none⟩), .pointer (some ⟨w.heap.size + 1, 0, none⟩), .pointer (some ⟨w.heap.size + 1 + 1 + 1, 0, none⟩), .pointer (some ⟨w.heap.size + 1 + 1 + 1 + 1, 0, none⟩)]] 139)
theorem scan_vars (w : World) (c0 c1 c2 : Value) : Vars (scanW w c0 c1 c2) (w.heap.size + 1 + 1) (w.heap.size + 1) (w.heap.size + 1 + 1 + 1) (w.heap.size + 1 + 1 + 1 + 1) 0 0 := by
  unfold scanW
  refine ⟨?_, ?_, ?_, ?_⟩
  · refine Blk.alloc (Blk.alloc ?_ _) _
    have := Blk.new ((w.alloc (.cells #[c0, c1, c2] 27)).alloc (.cells #[.func (.func 93) #[] #[]] 30)) 3 #[.int .i64 0]
    simpa using this
  · refine Blk.alloc (Blk.alloc (Blk.alloc ?_ _) _) _
    have := Blk.new (w.alloc (.cells #[c0, c1, c2] 27)) 30 #[.func (.func 93) #[] #[]]
    simpa using this
  · refine Blk.alloc ?_ _
    have := Blk.new (((w.alloc (.cells #[c0, c1, c2] 27)).alloc (.cells #[.func (.func 93) #[] #[]] 30)).alloc (.cells #[.int .i64 0] 3)) 3 #[.int .i64 0]
    simpa using this
  · have := Blk.new ((((w.alloc (.cells #[c0, c1, c2] 27)).alloc (.cells #[.func (.func 93) #[] #[]] 30)).alloc (.cells #[.int .i64 0] 3)).alloc (.cells #[.int .i64 0] 3)) 139 #[.func (.func 121) #[] #[.pointer (some ⟨w.heap.size + 1 + 1, 0, none⟩), .pointer (some ⟨w.heap.size + 1, 0, none⟩), .pointer (some ⟨w.heap.size + 1 + 1 + 1, 0, none⟩), .pointer (some ⟨w.heap.size + 1 + 1 + 1 + 1, 0, none⟩)]]
    simpa using this
theorem scan_below (w : World) (c0 c1 c2 : Value) : Below w.heap.size w (scanW w c0 c1 c2) := by
  unfold scanW
  exact (by repeat (first | exact Below.refl _ _ | assumption | with_reducible refine Below.drewN' ?_ _ | with_reducible refine Below.drew ?_ | ((with_reducible refine Below.alloc' ?_ ?_ _); · (first | omega | (simp <;> omega)))))
theorem scan_size (w : World) (c0 c1 c2 : Value) : (scanW w c0 c1 c2).heap.size = w.heap.size + 5 := by
  unfold scanW; simp

set_option maxRecDepth 100000 in
set_option maxHeartbeats 800000 in
theorem scan_c (x : It) (B : Nat) (w : World) (c0 c1 c2 : Value) (h : ItIn w B x c0 c1 c2) (hB : B ≤ w.heap.size) :
    Calls Tryd.prog 92 #[.agg #[c0, c1, c2], .func (.func 93) #[] #[]] w fun e w' => (∃ a b : Int, e = .returned (.tuple #[.int .i64 a, .int .i64 b, .bool x.may])) ∧ Below w.heap.size w w' := by
  have hsz := scan_size w c0 c1 c2
  have HC := Lib.hid (visit_c x B (scanW w c0 c1 c2) c0 c1 c2 (h.below ((scan_below w c0 c1 c2).mono hB)) (by omega) _ _ _ _ 1 0 0 (scan_vars w c0 c1 c2) (by omega) (by omega) (by omega) (by omega) (by omega) (by omega) (by omega))
  have hsb := scan_below w c0 c1 c2
  have HB := Lib.hid hsb
  have HM : Hid (x.may = (x.vis 1 0 0).1) := Lib.hid (vis_may x).symm
  obtain ⟨⟨r, c, d⟩, hT⟩ : ∃ T, x.vis 1 0 0 = T := ⟨_, rfl⟩
  rw [hT] at HC HM
  obtain ⟨A, cap, rfl, rfl, rfl, _⟩ := h.open_
  have HZ := Lib.hid hsz
  clear hT h hsb hsz
  cases r with
  | true =>
    go_enter Tryd.func92, Tryd.ntmps92
    go_wp2_with fail
    refine HC.out.mono ?_
    rintro e w2 ⟨rfl, hV, ho⟩
    have hb2 : Below w.heap.size w w2 := HB.out.trans (ho.below (by have := HZ.out; omega) (by simp; omega))
    have p1 : w2.cell? ⟨w.heap.size + 1 + 1, 0, none⟩ = some (.int .i64 c) := cell_of_one hV.cnt
    have p1f : w2.frozen? ⟨w.heap.size + 1 + 1, 0, none⟩ = false := free_of_one hV.cnt
    have p3 : w2.cell? ⟨w.heap.size + 1 + 1 + 1, 0, none⟩ = some (.int .i64 d) := cell_of_one hV.dp
    have p3f : w2.frozen? ⟨w.heap.size + 1 + 1 + 1, 0, none⟩ = false := free_of_one hV.dp
    clear ho hV
    go_wp2
    go_region
    all_goals go_wp2
    all_goals
      refine bodyPost_ret (v := .tuple #[.int .i64 c, .int .i64 d, .bool true]) (by simp [results, Tryd.results92, go_sem, p1, p3]) rfl ⟨⟨_, _, by rw [HM.out]⟩, ?_⟩
      exact (((hb2.setCell (by simp; omega) _).setCell (by simp; omega) _).drew)
  | false =>
    go_enter Tryd.func92, Tryd.ntmps92
    go_wp2_with fail
    refine HC.out.mono ?_
    rintro e w2 ⟨rfl, hV, ho⟩
    have hb2 : Below w.heap.size w w2 := HB.out.trans (ho.below (by have := HZ.out; omega) (by simp; omega))
    have p1 : w2.cell? ⟨w.heap.size + 1 + 1, 0, none⟩ = some (.int .i64 c) := cell_of_one hV.cnt
    have p1f : w2.frozen? ⟨w.heap.size + 1 + 1, 0, none⟩ = false := free_of_one hV.cnt
    have p3 : w2.cell? ⟨w.heap.size + 1 + 1 + 1, 0, none⟩ = some (.int .i64 d) := cell_of_one hV.dp
    have p3f : w2.frozen? ⟨w.heap.size + 1 + 1 + 1, 0, none⟩ = false := free_of_one hV.dp
    clear ho hV
    go_wp2
    refine bodyPost_ret (v := .tuple #[.int .i64 0, .int .i64 0, .bool false]) (by simp [results, Tryd.results92, go_sem, p1, p3]) rfl ⟨⟨_, _, by rw [HM.out]⟩, ?_⟩
    exact ((hb2.setCell (by simp; omega) _).setCell (by simp; omega) _)

set_option maxHeartbeats 400000 in
theorem may_c (x : It) (B : Nat) (w : World) (c0 c1 c2 : Value) (h : ItIn w B x c0 c1 c2) (hB : B ≤ w.heap.size) :
    Calls Tryd.prog 48 #[.agg #[c0, c1, c2]] w fun e w' => e = .returned (.bool x.may) ∧ Below w.heap.size w w' := by
  have HC := Lib.hid (scan_c x B (w.alloc (.cells #[c0, c1, c2] 27)) c0 c1 c2 (h.below (by repeat (first | exact Below.refl _ _ | assumption | with_reducible refine Below.drewN' ?_ _ | with_reducible refine Below.drew ?_ | ((with_reducible refine Below.alloc' ?_ ?_ _); · (first | omega | (simp <;> omega)))))) (by simp; omega))
  obtain ⟨A, cap, rfl, rfl, rfl, _⟩ := h.open_
  generalize x.may = R at *
  clear h
  go_enter Tryd.func48, Tryd.ntmps48
  go_wp2_with fail
  refine HC.out.mono ?_
  rintro e w2 ⟨⟨a, b, rfl⟩, hb⟩
  go_wp2
  go_ret
  exact ⟨rfl, (Below.alloc (Below.refl _ _) (Nat.le_refl _) _).trans (hb.mono (by simp))⟩
end Go.Proofs.YtmcdgmepheibkaaDoor
