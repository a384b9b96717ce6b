/- wire.Right. -/
import Derived.Test.YtpjgigllldipiaaGreatDoorKA8
import Derived.Laws.EntriesVeiled
set_option linter.all false
set_option maxRecDepth 100000
set_option maxHeartbeats 1000000
namespace Go.Proofs.YtpjgigllldipiaaGreatDoor
open Tryz
open Go.RowKit
theorem MC (n m:Int)(w:World):Calls prog 57 #[.int .i64 n,.int .i64 m] w fun e w'=>e= .returned (.bool (decide (1<=n)&&decide (n<=m)))/\w=w':=by
 by_cases h:1<=n
 ·go_enter func57,ntmps57
  go_wp2;go_ret;exact⟨aT (by simp[h]),rfl⟩
 have hd:decide (1<=n)=false:=zz h;go_enter func57,ntmps57
 go_wp2;go_ret;exact⟨aT (by simp[h]),rfl⟩
theorem i' (c:aR)(w:World):Calls prog 38 #[c.val] w fun e w'=>e= .returned (.bool c.right)/\Below w.heap.size w w':=by
 have b:=za MC;unfold aR.val;go_enter func38,ntmps38
 go_wp2_with ((go_at_call 57;refine(b.out _ _ _).mono ?_;rintro e w' ⟨rfl,rfl⟩))
 all_goals
  go_ret;refine⟨aT ?_,bN⟩;rw[yX];simp_all[aR.right]
  try(intros;omega)
def kh (f:Nat):Value:= .func (.func f) #[] #[]
def pa :Value:= .agg #[.nilFunc,.nilFunc,.nilFunc,.nilFunc,kh 66,kh 67,kh 69,kh 71,kh 65,kh 72,kh 74,kh 76,kh 65,kh 77,kh 79,kh 76]
def fm1 :Value:= .agg #[kh 66,kh 67,kh 69,kh 71]
def fm2 :Value:= .agg #[kh 65,kh 72,kh 74,kh 76]
def fm3 :Value:= .agg #[kh 65,kh 77,kh 79,kh 76]
theorem dg (w:World):Calls prog 44 #[] w fun e w'=>e= .returned pa/\Below w.heap.size w w':=by
 go_enter func44,ntmps44
 go_wp2_with fail
 refine zo (v:=pa) (by simp[results,results44,go_sem,pa,kh]) rfl ?_;exact⟨rfl,bN⟩
theorem PT (w:World):(Instr.index 105 pa (.int .i64 1)).run prog w= .ok fm1 w:=by kernel_rfl
theorem PU (w:World):(Instr.index 105 pa (.int .i64 2)).run prog w= .ok fm2 w:=by kernel_rfl
theorem PV (w:World):(Instr.index 105 pa (.int .i64 3)).run prog w= .ok fm3 w:=by kernel_rfl
theorem MD (w:World):(Instr.field 104 fm1 2).run prog w= .ok (kh 69) w:=by kernel_rfl
theorem ME (w:World):(Instr.field 104 fm2 2).run prog w= .ok (kh 74) w:=by kernel_rfl
theorem MF (w:World):(Instr.field 104 fm3 2).run prog w= .ok (kh 79) w:=by kernel_rfl
