/- wire.Right. -/
import Derived.Test.YtdbmifjankgfpaaGreatDoorKA7
import Derived.Laws.EntriesVeiled
set_option linter.all false
set_option maxRecDepth 100000
set_option maxHeartbeats 1000000
namespace Go.Proofs.YtdbmifjankgfpaaGreatDoor
open Tryz
open Go.RowKit
theorem NA (n m:Int)(w:World):Calls prog 67 #[.int .i64 n,.int .i64 m] w fun e w'=>e= .returned (.bool (decide (1<=n)&&decide (n<=m)))/\w=w':=by
 by_cases h:1<=n
 ·go_enter func67,ntmps67
  go_wp2;go_ret;exact⟨aY (by simp[h]),rfl⟩
 have hd:decide (1<=n)=false:=zu h;go_enter func67,ntmps67
 go_wp2;go_ret;exact⟨aY (by simp[h]),rfl⟩
theorem jB (c:aN)(w:World):Calls prog 45 #[c.val] w fun e w'=>e= .returned (.bool c.right)/\Below w.heap.size w w':=by
 have b:=za NA;unfold aN.val;go_enter func45,ntmps45
 go_wp2_with ((go_at_call 67;refine(b.out _ _ _).mono ?_;rintro e w' ⟨rfl,rfl⟩))
 all_goals
  go_ret;refine⟨aY ?_,bQ⟩;rw[yP];simp_all[aN.right]
  try(intros;omega)
def j9 (f:Nat):Value:= .func (.func f) #[] #[]
def pV :Value:= .agg #[.nilFunc,.nilFunc,.nilFunc,.nilFunc,j9 69,j9 70,j9 72,j9 74,j9 68,j9 75,j9 77,j9 79,j9 68,j9 80,j9 82,j9 79]
def fm1 :Value:= .agg #[j9 69,j9 70,j9 72,j9 74]
def fm2 :Value:= .agg #[j9 68,j9 75,j9 77,j9 79]
def fm3 :Value:= .agg #[j9 68,j9 80,j9 82,j9 79]
theorem dt (w:World):Calls prog 46 #[] w fun e w'=>e= .returned pV/\Below w.heap.size w w':=by
 go_enter func46,ntmps46
 go_wp2_with fail
 refine zk (v:=pV) (by simp[results,results46,go_sem,pV,j9]) rfl ?_;exact⟨rfl,bQ⟩
theorem QK (w:World):(Instr.index 109 pV (.int .i64 1)).run prog w= .ok fm1 w:=by kernel_rfl
theorem QL (w:World):(Instr.index 109 pV (.int .i64 2)).run prog w= .ok fm2 w:=by kernel_rfl
theorem QM (w:World):(Instr.index 109 pV (.int .i64 3)).run prog w= .ok fm3 w:=by kernel_rfl
theorem NB (w:World):(Instr.field 108 fm1 2).run prog w= .ok (j9 72) w:=by kernel_rfl
theorem abq (w:World):(Instr.field 108 fm1 3).run prog w= .ok (j9 74) w:=by kernel_rfl
theorem NC (w:World):(Instr.field 108 fm2 2).run prog w= .ok (j9 77) w:=by kernel_rfl
theorem abr (w:World):(Instr.field 108 fm2 3).run prog w= .ok (j9 79) w:=by kernel_rfl
theorem ND (w:World):(Instr.field 108 fm3 2).run prog w= .ok (j9 82) w:=by kernel_rfl
theorem abt (w:World):(Instr.field 108 fm3 3).run prog w= .ok (j9 79) w:=by kernel_rfl
