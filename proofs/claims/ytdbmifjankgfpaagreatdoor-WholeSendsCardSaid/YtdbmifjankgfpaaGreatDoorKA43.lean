/- hatchwayref17.Right. -/
import Derived.Test.YtdbmifjankgfpaaGreatDoorKA9
import Derived.Deep.RegionHeld3
set_option linter.all false
set_option maxRecDepth 100000
set_option maxHeartbeats 4000000
namespace Go.Proofs.YtdbmifjankgfpaaGreatDoor
open Go.RowKit
def xp:=@Tryz.ntmps49
def xF:=@Tryz.func49
theorem Dr (c:aP)(w:World):Calls Tryz.prog 49 #[c.val] w fun e w'=>e= .returned (.bool c.right)/\Below w.heap.size w w':=by
 unfold aP.val;by_cases j:1<=c.fm
 ·skip
  by_cases h:c.fm<=3
  ·skip
   by_cases l:1<=c.fr
   ·skip
    by_cases n:c.fr<=65536
    ·skip
     by_cases b:1<=c.un
     ·skip
      by_cases d:c.un<=65536
      ·skip
       by_cases i:1<=c.de
       ·skip
        by_cases k:c.de<=16
        ·skip
         by_cases o:1<=c.it
         ·skip
          by_cases m:c.it<=1024
          ·skip
           go_enter xF,xp
           go_wp2;go_ret;exact⟨aT (by simp_all[aP.right]<;>(intros;omega)),bD⟩
          skip
          go_enter xF,xp
          go_wp2;go_ret;exact⟨aT (by simp_all[aP.right]<;>(intros;omega)),bD⟩
         skip
         go_enter xF,xp
         go_wp2;go_ret;exact⟨aT (by simp_all[aP.right]<;>(intros;omega)),bD⟩
        skip
        go_enter xF,xp
        go_wp2;go_ret;exact⟨aT (by simp_all[aP.right]<;>(intros;omega)),bD⟩
       skip
       go_enter xF,xp
       go_wp2;go_ret;exact⟨aT (by simp_all[aP.right]<;>(intros;omega)),bD⟩
      skip
      go_enter xF,xp
      go_wp2;go_ret;exact⟨aT (by simp_all[aP.right]<;>(intros;omega)),bD⟩
     skip
     go_enter xF,xp
     go_wp2;go_ret;exact⟨aT (by simp_all[aP.right]<;>(intros;omega)),bD⟩
    skip
    go_enter xF,xp
    go_wp2;go_ret;exact⟨aT (by simp_all[aP.right]<;>(intros;omega)),bD⟩
   skip
   go_enter xF,xp
   go_wp2;go_ret;exact⟨aT (by simp_all[aP.right]<;>(intros;omega)),bD⟩
  skip
  go_enter xF,xp
  go_wp2;go_ret;exact⟨aT (by simp_all[aP.right]<;>(intros;omega)),bD⟩
 skip
 go_enter xF,xp
 go_wp2;go_ret;exact⟨aT (by simp_all[aP.right]<;>(intros;omega)),bD⟩
