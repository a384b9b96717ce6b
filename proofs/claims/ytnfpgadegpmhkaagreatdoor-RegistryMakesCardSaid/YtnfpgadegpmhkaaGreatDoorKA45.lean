/- hatchwayref17.Right. -/
import Derived.Test.YtnfpgadegpmhkaaGreatDoorKA44
import Derived.Deep.RegionHeld3
set_option linter.unusedVariables false
set_option linter.unusedSimpArgs false
set_option maxRecDepth 100000
set_option maxHeartbeats 4000000
namespace Go.Proofs.YtnfpgadegpmhkaaGreatDoor
open Go.RowKit
theorem refRight17_c (c : Cfg) (w : World) : Calls Tryz.prog 32 #[c.val] w fun e w' => e = .returned (.bool c.right) ∧ Below w.heap.size w w' := by
 unfold Cfg.val
 by_cases h0 : 1 ≤ c.fm
 ·have d0 : decide (1 ≤ c.fm) = true := decide_eq_true h0
  by_cases h1 : c.fm ≤ 3
  ·have d1 : decide (c.fm ≤ 3) = true := decide_eq_true h1
   by_cases h2 : 1 ≤ c.fr
   ·have d2 : decide (1 ≤ c.fr) = true := decide_eq_true h2
    by_cases h3 : c.fr ≤ 65536
    ·have d3 : decide (c.fr ≤ 65536) = true := decide_eq_true h3
     by_cases h4 : 1 ≤ c.un
     ·have d4 : decide (1 ≤ c.un) = true := decide_eq_true h4
      by_cases h5 : c.un ≤ 65536
      ·have d5 : decide (c.un ≤ 65536) = true := decide_eq_true h5
       by_cases h6 : 1 ≤ c.de
       ·have d6 : decide (1 ≤ c.de) = true := decide_eq_true h6
        by_cases h7 : c.de ≤ 16
        ·have d7 : decide (c.de ≤ 16) = true := decide_eq_true h7
         by_cases h8 : 1 ≤ c.it
         ·have d8 : decide (1 ≤ c.it) = true := decide_eq_true h8
          by_cases h9 : c.it ≤ 1024
          ·have d9 : decide (c.it ≤ 1024) = true := decide_eq_true h9
           go_enter Tryz.func32, Tryz.ntmps32
           go_wp2
           go_ret
           exact ⟨ret_bool (by simp_all [Cfg.right] <;> (intros; omega)), blw⟩
          ·have d9 : decide (c.it ≤ 1024) = false := decide_eq_false h9
           go_enter Tryz.func32, Tryz.ntmps32
           go_wp2
           go_ret
           exact ⟨ret_bool (by simp_all [Cfg.right] <;> (intros; omega)), blw⟩
         ·have d8 : decide (1 ≤ c.it) = false := decide_eq_false h8
          go_enter Tryz.func32, Tryz.ntmps32
          go_wp2
          go_ret
          exact ⟨ret_bool (by simp_all [Cfg.right] <;> (intros; omega)), blw⟩
        ·have d7 : decide (c.de ≤ 16) = false := decide_eq_false h7
         go_enter Tryz.func32, Tryz.ntmps32
         go_wp2
         go_ret
         exact ⟨ret_bool (by simp_all [Cfg.right] <;> (intros; omega)), blw⟩
       ·have d6 : decide (1 ≤ c.de) = false := decide_eq_false h6
        go_enter Tryz.func32, Tryz.ntmps32
        go_wp2
        go_ret
        exact ⟨ret_bool (by simp_all [Cfg.right] <;> (intros; omega)), blw⟩
      ·have d5 : decide (c.un ≤ 65536) = false := decide_eq_false h5
       go_enter Tryz.func32, Tryz.ntmps32
       go_wp2
       go_ret
       exact ⟨ret_bool (by simp_all [Cfg.right] <;> (intros; omega)), blw⟩
     ·have d4 : decide (1 ≤ c.un) = false := decide_eq_false h4
      go_enter Tryz.func32, Tryz.ntmps32
      go_wp2
      go_ret
      exact ⟨ret_bool (by simp_all [Cfg.right] <;> (intros; omega)), blw⟩
    ·have d3 : decide (c.fr ≤ 65536) = false := decide_eq_false h3
     go_enter Tryz.func32, Tryz.ntmps32
     go_wp2
     go_ret
     exact ⟨ret_bool (by simp_all [Cfg.right] <;> (intros; omega)), blw⟩
   ·have d2 : decide (1 ≤ c.fr) = false := decide_eq_false h2
    go_enter Tryz.func32, Tryz.ntmps32
    go_wp2
    go_ret
    exact ⟨ret_bool (by simp_all [Cfg.right] <;> (intros; omega)), blw⟩
  ·have d1 : decide (c.fm ≤ 3) = false := decide_eq_false h1
   go_enter Tryz.func32, Tryz.ntmps32
   go_wp2
   go_ret
   exact ⟨ret_bool (by simp_all [Cfg.right] <;> (intros; omega)), blw⟩
 ·have d0 : decide (1 ≤ c.fm) = false := decide_eq_false h0
  go_enter Tryz.func32, Tryz.ntmps32
  go_wp2
  go_ret
  exact ⟨ret_bool (by simp_all [Cfg.right] <;> (intros; omega)), blw⟩
end Go.Proofs.YtnfpgadegpmhkaaGreatDoor
