/- wire.Right. -/
import Derived.Test.YtpjgigllldipiaaGreatDoorKA8
import Derived.Laws.EntriesVeiled
set_option linter.all false
set_option maxRecDepth 100000
set_option maxHeartbeats 1000000
namespace Go.Proofs.YtpjgigllldipiaaGreatDoor
open Go.RowKit
theorem MZ (n m:Int)(w:World):Calls Tryz.prog 57 #[.int .i64 n,.int .i64 m] w fun e w'=>e= .returned (.bool (decide (1<=n)&&decide (n<=m)))/\w=w':=by
 by_cases h:1<=n
 ·go_enter Tryz.func57,Tryz.ntmps57
  go_wp2;go_ret;exact⟨aV (by simp[h]),rfl⟩
 have hd:decide (1<=n)=false:=zz h;go_enter Tryz.func57,Tryz.ntmps57
 go_wp2;go_ret;exact⟨aV (by simp[h]),rfl⟩
theorem jf (c:aS)(w:World):Calls Tryz.prog 38 #[c.val] w fun e w'=>e= .returned (.bool c.right)/\Below w.heap.size w w':=by
 have b:=za MZ;unfold aS.val;go_enter Tryz.func38,Tryz.ntmps38
 go_wp2_with ((go_at_call 57;refine(b.out _ _ _).mono ?_;rintro e w' ⟨rfl,rfl⟩))
 all_goals
  go_ret;refine⟨aV ?_,bM⟩;rw[yY];simp_all[aS.right]
  try(intros;omega)
def kt (f:Nat):Value:= .func (.func f) #[] #[]
def pf :Value:= .agg #[.nilFunc,.nilFunc,.nilFunc,.nilFunc,kt 66,kt 67,kt 69,kt 71,kt 65,kt 72,kt 74,kt 76,kt 65,kt 77,kt 79,kt 76]
def fm1 :Value:= .agg #[kt 66,kt 67,kt 69,kt 71]
def fm2 :Value:= .agg #[kt 65,kt 72,kt 74,kt 76]
def fm3 :Value:= .agg #[kt 65,kt 77,kt 79,kt 76]
theorem dr (w:World):Calls Tryz.prog 44 #[] w fun e w'=>e= .returned pf/\Below w.heap.size w w':=by
 go_enter Tryz.func44,Tryz.ntmps44
 go_wp2_with fail
 refine zp (v:=pf) (by simp[results,Tryz.results44,go_sem,pf,kt]) rfl ?_;exact⟨rfl,bM⟩
theorem Qc (w:World):(Instr.index 105 pf (.int .i64 1)).run Tryz.prog w= .ok fm1 w:=by kernel_rfl
theorem Qd (w:World):(Instr.index 105 pf (.int .i64 2)).run Tryz.prog w= .ok fm2 w:=by kernel_rfl
theorem Qe (w:World):(Instr.index 105 pf (.int .i64 3)).run Tryz.prog w= .ok fm3 w:=by kernel_rfl
theorem M0 (w:World):(Instr.field 104 fm1 2).run Tryz.prog w= .ok (kt 69) w:=by kernel_rfl
theorem M3 (w:World):(Instr.field 104 fm2 2).run Tryz.prog w= .ok (kt 74) w:=by kernel_rfl
theorem M4 (w:World):(Instr.field 104 fm3 2).run Tryz.prog w= .ok (kt 79) w:=by kernel_rfl
