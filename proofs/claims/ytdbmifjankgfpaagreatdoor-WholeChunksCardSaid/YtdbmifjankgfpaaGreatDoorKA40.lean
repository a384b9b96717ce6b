/- hatchwayref17.Right. -/
import Derived.Test.YtdbmifjankgfpaaGreatDoorKA8
import Derived.Deep.RegionHeld3
set_option linter.all false
set_option maxRecDepth 100000
set_option maxHeartbeats 4000000
namespace Go.Proofs.YtdbmifjankgfpaaGreatDoor
open Go.RowKit
def xm:=@Tryz.ntmps49
def xB:=@Tryz.func49
theorem DE (c:aN)(w:World):Calls Tryz.prog 49 #[c.val] w fun e w'=>e= .returned (.bool c.right)/\Below w.heap.size w w':=by
 unfold aN.val;by_cases i:1<=c.fm
 ·skip
  by_cases l:c.fm<=3
  ·skip
   by_cases j:1<=c.fr
   ·skip
    by_cases n:c.fr<=65536
    ·skip
     by_cases m:1<=c.un
     ·skip
      by_cases b:c.un<=65536
      ·skip
       by_cases h:1<=c.de
       ·skip
        by_cases d:c.de<=16
        ·skip
         by_cases k:1<=c.it
         ·skip
          by_cases o:c.it<=1024
          ·skip
           go_enter xB,xm
           go_wp2;go_ret;exact⟨aY (by simp_all[aN.right]<;>(intros;omega)),bQ⟩
          skip
          go_enter xB,xm
          go_wp2;go_ret;exact⟨aY (by simp_all[aN.right]<;>(intros;omega)),bQ⟩
         skip
         go_enter xB,xm
         go_wp2;go_ret;exact⟨aY (by simp_all[aN.right]<;>(intros;omega)),bQ⟩
        skip
        go_enter xB,xm
        go_wp2;go_ret;exact⟨aY (by simp_all[aN.right]<;>(intros;omega)),bQ⟩
       skip
       go_enter xB,xm
       go_wp2;go_ret;exact⟨aY (by simp_all[aN.right]<;>(intros;omega)),bQ⟩
      skip
      go_enter xB,xm
      go_wp2;go_ret;exact⟨aY (by simp_all[aN.right]<;>(intros;omega)),bQ⟩
     skip
     go_enter xB,xm
     go_wp2;go_ret;exact⟨aY (by simp_all[aN.right]<;>(intros;omega)),bQ⟩
    skip
    go_enter xB,xm
    go_wp2;go_ret;exact⟨aY (by simp_all[aN.right]<;>(intros;omega)),bQ⟩
   skip
   go_enter xB,xm
   go_wp2;go_ret;exact⟨aY (by simp_all[aN.right]<;>(intros;omega)),bQ⟩
  skip
  go_enter xB,xm
  go_wp2;go_ret;exact⟨aY (by simp_all[aN.right]<;>(intros;omega)),bQ⟩
 skip
 go_enter xB,xm
 go_wp2;go_ret;exact⟨aY (by simp_all[aN.right]<;>(intros;omega)),bQ⟩
