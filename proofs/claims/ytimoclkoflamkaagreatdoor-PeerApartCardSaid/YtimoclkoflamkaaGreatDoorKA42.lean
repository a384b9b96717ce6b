/- hatchwayref17.Right. -/
import Derived.Test.YtimoclkoflamkaaGreatDoorKA31
import Derived.Deep.RegionHeld3
set_option linter.all false
set_option maxRecDepth 100000
set_option maxHeartbeats 4000000
namespace Go.Proofs.YtimoclkoflamkaaGreatDoor
open Go.RowKit
def xk:=@Tryz.ntmps24
def xE:=@Tryz.func24
theorem Dr (c:aM)(w:World):Calls Tryz.prog 24 #[c.val] w fun e w'=>e= .returned c.right/\(w,w'):=by
 unfold aM.val;by_cases d:1<=c.fm
 ·skip
  by_cases l:c.fm<=3
  ·skip
   by_cases b:1<=c.fr
   ·skip
    by_cases m:c.fr<=65536
    ·skip
     by_cases o:1<=c.un
     ·skip
      by_cases j:c.un<=65536
      ·skip
       by_cases h:1<=c.de
       ·skip
        by_cases k:c.de<=16
        ·skip
         by_cases n:1<=c.it
         ·skip
          by_cases i:c.it<=1024
          ·skip
           go_enter xE,xk
           go_wp2;go_ret;exact⟨aV (by simp_all[aM.right]<;>(intros;omega)),bO⟩
          skip
          go_enter xE,xk
          go_wp2;go_ret;exact⟨aV (by simp_all[aM.right]<;>(intros;omega)),bO⟩
         skip
         go_enter xE,xk
         go_wp2;go_ret;exact⟨aV (by simp_all[aM.right]<;>(intros;omega)),bO⟩
        skip
        go_enter xE,xk
        go_wp2;go_ret;exact⟨aV (by simp_all[aM.right]<;>(intros;omega)),bO⟩
       skip
       go_enter xE,xk
       go_wp2;go_ret;exact⟨aV (by simp_all[aM.right]<;>(intros;omega)),bO⟩
      skip
      go_enter xE,xk
      go_wp2;go_ret;exact⟨aV (by simp_all[aM.right]<;>(intros;omega)),bO⟩
     skip
     go_enter xE,xk
     go_wp2;go_ret;exact⟨aV (by simp_all[aM.right]<;>(intros;omega)),bO⟩
    skip
    go_enter xE,xk
    go_wp2;go_ret;exact⟨aV (by simp_all[aM.right]<;>(intros;omega)),bO⟩
   skip
   go_enter xE,xk
   go_wp2;go_ret;exact⟨aV (by simp_all[aM.right]<;>(intros;omega)),bO⟩
  skip
  go_enter xE,xk
  go_wp2;go_ret;exact⟨aV (by simp_all[aM.right]<;>(intros;omega)),bO⟩
 skip
 go_enter xE,xk
 go_wp2;go_ret;exact⟨aV (by simp_all[aM.right]<;>(intros;omega)),bO⟩
