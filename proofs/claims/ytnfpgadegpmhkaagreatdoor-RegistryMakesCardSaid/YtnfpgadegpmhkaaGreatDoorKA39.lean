/- package registry: Config, Len, ByFrame, ByName. -/
import Derived.Test.YtnfpgadegpmhkaaGreatDoorKA11
import Derived.Test.YtnfpgadegpmhkaaGreatDoorKA38
import Derived.Test.YtnfpgadegpmhkaaGreatDoorKA6
set_option linter.unusedVariables false
set_option linter.unusedSimpArgs false
set_option maxRecDepth 100000
set_option maxHeartbeats 800000
namespace Go.Proofs.YtnfpgadegpmhkaaGreatDoor
open Go.RowKit
theorem mE_len : ∀ (l : List (Value × Value)) (b : Nat), (mE l b).length = l.length
 | [], _ => rfl
 | x :: xs, b => by simp [mE, mE_len xs]
theorem rgCfg_c (lo hi g gn gi : Nat) (c : Cfg) (l : List RgRow) (w : World) (h : RgM w lo hi g gn gi c l) :
 Calls Tryz.prog 19 #[.pointer (some ⟨g, 0, none⟩)] w fun e w' => e = .returned c.val ∧ Below w.heap.size w w' := by
 obtain ⟨g0, g1, g2, g3, g4, g5⟩ := h.cfg
 have hgw : g < w.heap.size := Nat.lt_of_lt_of_le h.g2 h.his
 have hb := Blk.new w 24 #[.int .i64 c.fm, .int .u32 c.mg, .int .i64 c.fr, .int .i64 c.un, .int .i64 c.de, .int .i64 c.it]
 clear h
 go_enter Tryz.func19, Tryz.ntmps19
 go_wp2
 have q0 := hb.cell 0
 have q1 := hb.cell 1
 have q2 := hb.cell 2
 have q3 := hb.cell 3
 have q4 := hb.cell 4
 have q5 := hb.cell 5
 simp at q0 q1 q2 q3 q4 q5
 refine bodyPost_ret (v := c.val) (by simp [Cfg.val, results, Tryz.results19, go_sem, q0, q1, q2, q3, q4, q5]) rfl ?_
 exact ⟨rfl, blw⟩
theorem run_len {w : World} {g : Nat} {es : Array MapEntry} {k : Nat} (hb : w.heap[g]? = some (.map es k)) : (Builtin.len_ #[73] 3 #[.map (some g)]).run Tryz.prog w = .ok (.int .i64 es.size) w := by
 simp [Builtin.len_, run_underlying Tryz.underlying73, MapKept.run_getObj_map hb, goInt, Result.andThen]
theorem rgLen_c (lo hi g gn gi : Nat) (c : Cfg) (l : List RgRow) (w : World) (h : RgM w lo hi g gn gi c l) :
 Calls Tryz.prog 18 #[.pointer (some ⟨g, 0, none⟩)] w fun e w' => e = .returned (.int .i64 l.length) ∧ w' = w := by
 obtain ⟨_, g6, _, _, _⟩ := h.cells
 have hm : w.heap[gn]? = some (.map (mE (nmL l) 0).toArray (nmL l).length) := h.nm
 have hl := run_len hm
 rw [show (mE (nmL l) 0).toArray.size = l.length from by rw [List.size_toArray, mE_len]; simp [nmL]] at hl
 clear h hm
 go_enter Tryz.func18, Tryz.ntmps18
 go_wp2
 go_ret
 exact ⟨rfl, rfl⟩
end Go.Proofs.YtnfpgadegpmhkaaGreatDoor
