/- hatchwayref17.Right. -/
import Derived.Test.YtpjgigllldipiaaGreatDoorKA9
import Derived.Deep.RegionHeld3
set_option linter.all false
set_option maxRecDepth 100000
set_option maxHeartbeats 4000000
namespace Go.Proofs.YtpjgigllldipiaaGreatDoor
open Go.RowKit
def xC:=@Tryz.ntmps22
def xO:=@Tryz.func22
theorem Da (c:aS)(w:World):Calls Tryz.prog 22 #[c.val] w fun e w'=>e= .returned (.bool c.right)/\Below w.heap.size w w':=by
 unfold aS.val;by_cases h:1<=c.fm
 ·skip
  by_cases k:c.fm<=3
  ·skip
   by_cases d:1<=c.fr
   ·skip
    by_cases n:c.fr<=65536
    ·skip
     by_cases b:1<=c.un
     ·skip
      by_cases l:c.un<=65536
      ·skip
       by_cases i:1<=c.de
       ·skip
        by_cases m:c.de<=16
        ·skip
         by_cases j:1<=c.it
         ·skip
          by_cases o:c.it<=1024
          ·skip
           go_enter xO,xC
           go_wp2;go_ret;exact⟨aV (by simp_all[aS.right]<;>(intros;omega)),bM⟩
          skip
          go_enter xO,xC
          go_wp2;go_ret;exact⟨aV (by simp_all[aS.right]<;>(intros;omega)),bM⟩
         skip
         go_enter xO,xC
         go_wp2;go_ret;exact⟨aV (by simp_all[aS.right]<;>(intros;omega)),bM⟩
        skip
        go_enter xO,xC
        go_wp2;go_ret;exact⟨aV (by simp_all[aS.right]<;>(intros;omega)),bM⟩
       skip
       go_enter xO,xC
       go_wp2;go_ret;exact⟨aV (by simp_all[aS.right]<;>(intros;omega)),bM⟩
      skip
      go_enter xO,xC
      go_wp2;go_ret;exact⟨aV (by simp_all[aS.right]<;>(intros;omega)),bM⟩
     skip
     go_enter xO,xC
     go_wp2;go_ret;exact⟨aV (by simp_all[aS.right]<;>(intros;omega)),bM⟩
    skip
    go_enter xO,xC
    go_wp2;go_ret;exact⟨aV (by simp_all[aS.right]<;>(intros;omega)),bM⟩
   skip
   go_enter xO,xC
   go_wp2;go_ret;exact⟨aV (by simp_all[aS.right]<;>(intros;omega)),bM⟩
  skip
  go_enter xO,xC
  go_wp2;go_ret;exact⟨aV (by simp_all[aS.right]<;>(intros;omega)),bM⟩
 skip
 go_enter xO,xC
 go_wp2;go_ret;exact⟨aV (by simp_all[aS.right]<;>(intros;omega)),bM⟩
