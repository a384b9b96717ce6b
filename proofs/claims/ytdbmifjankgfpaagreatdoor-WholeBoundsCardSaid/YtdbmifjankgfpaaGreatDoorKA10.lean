/- wire.Right. -/
import Derived.Test.YtdbmifjankgfpaaGreatDoorKA8
import Derived.WalkSpells
import Derived.Laws.EntriesVeiled
set_option linter.all false
set_option maxRecDepth 100000
set_option maxHeartbeats 1000000
open Go.Proofs.Tryz
namespace Go.Proofs.YtdbmifjankgfpaaGreatDoor
open Go.RowKit
def zk:=@bodyPost_ret
theorem Ns (n m:Int)(w:World):Calls prog 67 #[.int .i64 n,.int .i64 m] w fun e w'=>e= .returned (.bool (decide (1<=n)&&decide (n<=m)))/\w=w':=by
 by_cases h:1<=n
 ·go_enter func67,ntmps67
  go_wp2;go_ret;exact⟨aV (by simp[h]),rfl⟩
 have hd:decide (1<=n)=false:=zv h;go_enter func67,ntmps67
 go_wp2;go_ret;exact⟨aV (by simp[h]),rfl⟩
theorem eW (c:aI)(w:World):Calls prog 45 #[c.val] w fun e w'=>e= .returned (.bool c.right)/\Below w.heap.size w w':=by
 have b:=za Ns;unfold aI.val;go_enter func45,ntmps45
 go_wp2_with ((go_at_call 67;refine(b.out _ _ _).mono ?_;rintro e w' ⟨rfl,rfl⟩))
 all_goals
  go_ret;refine⟨aV ?_,bT⟩;rw[yT];simp_all[aI.right]
  try(intros;omega)
def iD (f:Nat):Value:= .func (.func f) #[] #[]
def l7 :Value:= .agg #[.nilFunc,.nilFunc,.nilFunc,.nilFunc,iD 69,iD 70,iD 72,iD 74,iD 68,iD 75,iD 77,iD 79,iD 68,iD 80,iD 82,iD 79]
def Vt :Value:= .agg #[iD 69,iD 70,iD 72,iD 74]
def Vu :Value:= .agg #[iD 68,iD 75,iD 77,iD 79]
def Vv :Value:= .agg #[iD 68,iD 80,iD 82,iD 79]
theorem cB (w:World):Calls prog 46 #[] w fun e w'=>e= .returned l7/\Below w.heap.size w w':=by
 go_enter func46,ntmps46
 go_wp2_with fail
 refine zk (v:=l7) (by simp[results,results46,go_sem,l7,iD]) rfl ?_;exact⟨rfl,bT⟩
theorem Jc (w:World):(Instr.index 109 l7 (.int .i64 1)).run prog w= .ok Vt w:=by kernel_rfl
theorem Jd (w:World):(Instr.index 109 l7 (.int .i64 2)).run prog w= .ok Vu w:=by kernel_rfl
theorem Je (w:World):(Instr.index 109 l7 (.int .i64 3)).run prog w= .ok Vv w:=by kernel_rfl
theorem Nt (w:World):(Instr.field 108 Vt 2).run prog w= .ok (iD 72) w:=by kernel_rfl
theorem Nu (w:World):(Instr.field 108 Vt 3).run prog w= .ok (iD 74) w:=by kernel_rfl
theorem Nv (w:World):(Instr.field 108 Vu 2).run prog w= .ok (iD 77) w:=by kernel_rfl
theorem Nw (w:World):(Instr.field 108 Vu 3).run prog w= .ok (iD 79) w:=by kernel_rfl
theorem Ny (w:World):(Instr.field 108 Vv 2).run prog w= .ok (iD 82) w:=by kernel_rfl
theorem NA (w:World):(Instr.field 108 Vv 3).run prog w= .ok (iD 79) w:=by kernel_rfl
