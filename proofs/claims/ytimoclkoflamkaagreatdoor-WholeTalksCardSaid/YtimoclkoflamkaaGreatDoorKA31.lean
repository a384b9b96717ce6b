/- wire.Right. -/
import Derived.Test.YtimoclkoflamkaaGreatDoorKA9
import Derived.Laws.EntriesVeiled
set_option linter.all false
set_option maxRecDepth 100000
set_option maxHeartbeats 1000000
open Go.Proofs.Tryz
namespace Go.Proofs.YtimoclkoflamkaaGreatDoor
open Go.RowKit
theorem O7 (n m:Int)(w:World):Calls prog 78 #[n,m] w fun e w'=>e= .returned (.bool (decide (1<=n)&&decide (n<=m)))/\w=w':=by
 by_cases h:1<=n
 ·go_enter func78,ntmps78
  go_wp2;go_ret;exact⟨aU (by simp[h]),rfl⟩
 have hd:decide (1<=n)=false:=zt h;go_enter func78,ntmps78
 go_wp2;go_ret;exact⟨aU (by simp[h]),rfl⟩
theorem rz (c:aF)(w:World):Calls prog 60 #[c.val] w fun e w'=>e= .returned c.right/\(w,w'):=by
 have b:=za O7;unfold aF.val;go_enter func60,ntmps60
 go_wp2_with ((go_at_call 78;refine(b.out _ _ _).mono ?_;rintro e w' ⟨rfl,rfl⟩))
 all_goals
  go_ret;refine⟨aU ?_,bQ⟩;rw[yP];simp_all[aF.right]
  try(intros;omega)
def kP (f:Nat):Value:= .func (.func f) #[] #[]
def Fk :Value:= .agg #[.nilFunc,.nilFunc,.nilFunc,.nilFunc,kP 87,kP 88,kP 90,kP 92,kP 86,kP 93,kP 95,kP 97,kP 86,kP 98,kP 100,kP 97]
def fm1 :Value:= .agg #[kP 87,kP 88,kP 90,kP 92]
def fm2 :Value:= .agg #[kP 86,kP 93,kP 95,kP 97]
def fm3 :Value:= .agg #[kP 86,kP 98,kP 100,kP 97]
theorem oJ (w:World):Calls prog 66 #[] w fun e w'=>e= .returned Fk/\(w,w'):=by
 go_enter func66,ntmps66
 go_wp2_with fail
 refine zj (v:=Fk) (by simp[results,results66,go_sem,Fk,kP]) rfl ?_;exact⟨rfl,bQ⟩
theorem SI (w:World):(Instr.index 132 Fk (1:Int)).run prog w= .ok fm1 w:=by kernel_rfl
theorem SJ (w:World):(Instr.index 132 Fk (2:Int)).run prog w= .ok fm2 w:=by kernel_rfl
theorem SK (w:World):(Instr.index 132 Fk (3:Int)).run prog w= .ok fm3 w:=by kernel_rfl
theorem O8 (w:World):(Instr.field 131 fm1 2).run prog w= .ok (kP 90) w:=by kernel_rfl
theorem O9 (w:World):(Instr.field 131 fm2 2).run prog w= .ok (kP 95) w:=by kernel_rfl
theorem O' (w:World):(Instr.field 131 fm3 2).run prog w= .ok (kP 100) w:=by kernel_rfl
