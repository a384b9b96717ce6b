/- hatchwayref17.Right. -/
import Derived.Test.YtpjgigllldipiaaGreatDoorKA9
import Derived.Deep.RegionHeld3
set_option linter.all false
set_option maxRecDepth 100000
set_option maxHeartbeats 4000000
namespace Go.Proofs.YtpjgigllldipiaaGreatDoor
open Go.RowKit
def xx:=@Tryz.ntmps22
def xK:=@Tryz.func22
theorem C2 (c:aR)(w:World):Calls Tryz.prog 22 #[c.val] w fun e w'=>e= .returned (.bool c.right)/\Below w.heap.size w w':=by
 unfold aR.val;by_cases d:1<=c.fm
 ·skip
  by_cases m:c.fm<=3
  ·skip
   by_cases o:1<=c.fr
   ·skip
    by_cases n:c.fr<=65536
    ·skip
     by_cases k:1<=c.un
     ·skip
      by_cases h:c.un<=65536
      ·skip
       by_cases i:1<=c.de
       ·skip
        by_cases j:c.de<=16
        ·skip
         by_cases b:1<=c.it
         ·skip
          by_cases l:c.it<=1024
          ·skip
           go_enter xK,xx
           go_wp2;go_ret;exact⟨aT (by simp_all[aR.right]<;>(intros;omega)),bN⟩
          skip
          go_enter xK,xx
          go_wp2;go_ret;exact⟨aT (by simp_all[aR.right]<;>(intros;omega)),bN⟩
         skip
         go_enter xK,xx
         go_wp2;go_ret;exact⟨aT (by simp_all[aR.right]<;>(intros;omega)),bN⟩
        skip
        go_enter xK,xx
        go_wp2;go_ret;exact⟨aT (by simp_all[aR.right]<;>(intros;omega)),bN⟩
       skip
       go_enter xK,xx
       go_wp2;go_ret;exact⟨aT (by simp_all[aR.right]<;>(intros;omega)),bN⟩
      skip
      go_enter xK,xx
      go_wp2;go_ret;exact⟨aT (by simp_all[aR.right]<;>(intros;omega)),bN⟩
     skip
     go_enter xK,xx
     go_wp2;go_ret;exact⟨aT (by simp_all[aR.right]<;>(intros;omega)),bN⟩
    skip
    go_enter xK,xx
    go_wp2;go_ret;exact⟨aT (by simp_all[aR.right]<;>(intros;omega)),bN⟩
   skip
   go_enter xK,xx
   go_wp2;go_ret;exact⟨aT (by simp_all[aR.right]<;>(intros;omega)),bN⟩
  skip
  go_enter xK,xx
  go_wp2;go_ret;exact⟨aT (by simp_all[aR.right]<;>(intros;omega)),bN⟩
 skip
 go_enter xK,xx
 go_wp2;go_ret;exact⟨aT (by simp_all[aR.right]<;>(intros;omega)),bN⟩
