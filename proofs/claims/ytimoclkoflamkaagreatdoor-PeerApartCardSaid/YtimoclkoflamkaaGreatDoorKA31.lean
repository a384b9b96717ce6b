/- wire.Right. -/
import Derived.Test.YtimoclkoflamkaaGreatDoorKA9
import Derived.Laws.EntriesVeiled
set_option linter.all false
set_option maxRecDepth 100000
set_option maxHeartbeats 1000000
open Go.Proofs.Tryz
namespace Go.Proofs.YtimoclkoflamkaaGreatDoor
open Go.RowKit
theorem Nn (n m:Int)(w:World):Calls prog 78 #[n,m] w fun e w'=>e= .returned (.bool (decide (1<=n)&&decide (n<=m)))/\w=w':=by
 by_cases h:1<=n
 ·go_enter func78,ntmps78
  go_wp2;go_ret;exact⟨aV (by simp[h]),rfl⟩
 have hd:decide (1<=n)=false:=zv h;go_enter func78,ntmps78
 go_wp2;go_ret;exact⟨aV (by simp[h]),rfl⟩
theorem qK (c:aM)(w:World):Calls prog 60 #[c.val] w fun e w'=>e= .returned c.right/\(w,w'):=by
 have b:=za Nn;unfold aM.val;go_enter func60,ntmps60
 go_wp2_with ((go_at_call 78;refine(b.out _ _ _).mono ?_;rintro e w' ⟨rfl,rfl⟩))
 all_goals
  go_ret;refine⟨aV ?_,bO⟩;rw[yP];simp_all[aM.right]
  try(intros;omega)
def kE (f:Nat):Value:= .func (.func f) #[] #[]
def DY :Value:= .agg #[.nilFunc,.nilFunc,.nilFunc,.nilFunc,kE 87,kE 88,kE 90,kE 92,kE 86,kE 93,kE 95,kE 97,kE 86,kE 98,kE 100,kE 97]
def XR :Value:= .agg #[kE 87,kE 88,kE 90,kE 92]
def XS :Value:= .agg #[kE 86,kE 93,kE 95,kE 97]
def XT :Value:= .agg #[kE 86,kE 98,kE 100,kE 97]
theorem n7 (w:World):Calls prog 66 #[] w fun e w'=>e= .returned DY/\(w,w'):=by
 go_enter func66,ntmps66
 go_wp2_with fail
 refine zl (v:=DY) (by simp[results,results66,go_sem,DY,kE]) rfl ?_;exact⟨rfl,bO⟩
theorem QC (w:World):(Instr.index 132 DY (1:Int)).run prog w= .ok XR w:=by kernel_rfl
theorem QD (w:World):(Instr.index 132 DY (2:Int)).run prog w= .ok XS w:=by kernel_rfl
theorem QE (w:World):(Instr.index 132 DY (3:Int)).run prog w= .ok XT w:=by kernel_rfl
theorem No (w:World):(Instr.field 131 XR 2).run prog w= .ok (kE 90) w:=by kernel_rfl
theorem Np (w:World):(Instr.field 131 XS 2).run prog w= .ok (kE 95) w:=by kernel_rfl
theorem Nq (w:World):(Instr.field 131 XT 2).run prog w= .ok (kE 100) w:=by kernel_rfl
