/- wire.Right. -/
import Derived.Test.YtdbmifjankgfpaaGreatDoorKA8
import Derived.Laws.EntriesVeiled
set_option linter.all false
set_option maxRecDepth 100000
set_option maxHeartbeats 1000000
open Go.Proofs.Tryz
namespace Go.Proofs.YtdbmifjankgfpaaGreatDoor
open Go.RowKit
theorem NR (n m:Int)(w:World):Calls prog 67 #[.int .i64 n,.int .i64 m] w fun e w'=>e= .returned (.bool (decide (1<=n)&&decide (n<=m)))/\w=w':=by
 by_cases h:1<=n
 ·go_enter func67,ntmps67
  go_wp2;go_ret;exact⟨aT (by simp[h]),rfl⟩
 have hd:decide (1<=n)=false:=zu h;go_enter func67,ntmps67
 go_wp2;go_ret;exact⟨aT (by simp[h]),rfl⟩
theorem js (c:aP)(w:World):Calls prog 45 #[c.val] w fun e w'=>e= .returned (.bool c.right)/\Below w.heap.size w w':=by
 have b:=za NR;unfold aP.val;go_enter func45,ntmps45
 go_wp2_with ((go_at_call 67;refine(b.out _ _ _).mono ?_;rintro e w' ⟨rfl,rfl⟩))
 all_goals
  go_ret;refine⟨aT ?_,bD⟩;rw[yE];simp_all[aP.right]
  try(intros;omega)
def kJ (f:Nat):Value:= .func (.func f) #[] #[]
def pO :Value:= .agg #[.nilFunc,.nilFunc,.nilFunc,.nilFunc,kJ 69,kJ 70,kJ 72,kJ 74,kJ 68,kJ 75,kJ 77,kJ 79,kJ 68,kJ 80,kJ 82,kJ 79]
def fm1 :Value:= .agg #[kJ 69,kJ 70,kJ 72,kJ 74]
def fm2 :Value:= .agg #[kJ 68,kJ 75,kJ 77,kJ 79]
def fm3 :Value:= .agg #[kJ 68,kJ 80,kJ 82,kJ 79]
theorem dz (w:World):Calls prog 46 #[] w fun e w'=>e= .returned pO/\Below w.heap.size w w':=by
 go_enter func46,ntmps46
 go_wp2_with fail
 refine zk (v:=pO) (by simp[results,results46,go_sem,pO,kJ]) rfl ?_;exact⟨rfl,bD⟩
theorem Q4 (w:World):(Instr.index 109 pO (.int .i64 1)).run prog w= .ok fm1 w:=by kernel_rfl
theorem Q5 (w:World):(Instr.index 109 pO (.int .i64 2)).run prog w= .ok fm2 w:=by kernel_rfl
theorem Q6 (w:World):(Instr.index 109 pO (.int .i64 3)).run prog w= .ok fm3 w:=by kernel_rfl
theorem NS (w:World):(Instr.field 108 fm1 2).run prog w= .ok (kJ 72) w:=by kernel_rfl
theorem NT (w:World):(Instr.field 108 fm2 2).run prog w= .ok (kJ 77) w:=by kernel_rfl
theorem NU (w:World):(Instr.field 108 fm3 2).run prog w= .ok (kJ 82) w:=by kernel_rfl
