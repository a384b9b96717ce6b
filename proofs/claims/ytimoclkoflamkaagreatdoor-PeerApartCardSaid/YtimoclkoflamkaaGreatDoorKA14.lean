/- bits.Len64 and leb.Size. -/
import Derived.Test.YtimoclkoflamkaaGreatDoorProg
import Derived.Test.YtimoclkoflamkaaGreatDoorKA2
import Derived.WalkSpells
import Derived.Shelf.Strconv.Itoa0
set_option linter.all false
set_option maxRecDepth 100000
open Go.Proofs.Tryz
namespace Go.Proofs.YtimoclkoflamkaaGreatDoor
open Go.RowKit
def yR:=@List.length_singleton
def Di :Nat->Nat->Nat
 |0,_=>0
 |f+1,n=>if n=0 then 0 else Di f (n/2)+1
def bl (n:Nat):Nat:=Di 64 n
theorem kZ (f:Nat):Di f 0=0:=by cases f<;>simp[Di]
theorem FO (f g n:Nat)(b:n<2^f)(d:n<2^g):Di f n=Di g n:=by
 induction f generalizing g n with
 |zero=>simp at b;subst b;rw[kZ,kZ]
 |succ f ih=>
  by_cases c:n=0
  ·subst c;rw[kZ,kZ]
  cases g with
  |zero=>simp at d;omega
  |succ g=>simp only[Di,zi c];rw[ih g (n/2) (by rw[Zu]at b;omega) (by rw[Zu]at d;omega)]
theorem KI (n:Nat)(b:0<n)(h:n<2^64):bl n=bl (n/2)+1:=by
 unfold bl;rw[show(64:Nat)=63+1 from rfl,Di,zi (by omega),FO 63 (63+1) (n/2) (by omega) (by omega)]
theorem Qj (k n:Nat)(h:2^k<=n)(c:n<2^64):bl n=bl (n/2^k)+k:=by
 induction k generalizing n with
 |zero=>simp
 |succ k ih=>
  have b:2^(k+1)=2^k*2:=Zu ..;have d:0<2^k:=Nat.pow_pos (by omega);rw[KI n (by omega) c,ih (n/2) (by omega) (by omega),Nat.div_div_eq_div_mul,Zv 2,<-b];omega
theorem KJ (k n:Nat)(h:n<2^k)(b:k<=64):bl n<=k:=by
 unfold bl;have c:n<2^64:=zQ h (yq (by omega) b);rw[FO 64 k n c h];clear c h b;induction k generalizing n with
 |zero=>simp[Di]
 |succ k ih=>simp only[Di];split;omega;have:=ih (n/2);omega
theorem Xx (n:Nat)(b:0<n)(h:n<2^64):1<=bl n:=by rw[KI n b h];omega
def Xy :Go.Shelf.Ren:=⟨fun x=>if x=129 then 174 else x,fun x=>if x=3 then 3 else if x=4 then 4 else if x=5 then 5 else if x=9 then 9 else if x=46 then 232 else if x=53 then 61 else x,fun x=>x⟩
theorem TR :Go.Proofs.Lays.n129 prog Xy where
 mixed:=by kernel_rfl
 f129:=by kernel_rfl
 t3:=by kernel_rfl
 a3:=fun _=>by kernel_rfl
 z3:=fun _=>by kernel_rfl
 v3:=fun _=>by kernel_rfl
 t4:=by kernel_rfl
 a4:=fun _=>by kernel_rfl
 z4:=fun _=>by kernel_rfl
 v4:=fun _=>by kernel_rfl
 t5:=by kernel_rfl
 a5:=fun _=>by kernel_rfl
 z5:=fun _=>by kernel_rfl
 v5:=fun _=>by kernel_rfl
 t9:=by kernel_rfl
 a9:=fun _=>by kernel_rfl
 z9:=fun _=>by kernel_rfl
 v9:=fun _=>by kernel_rfl
 t46:=by kernel_rfl
 a46:=fun _=>by kernel_rfl
 z46:=fun _=>by kernel_rfl
 v46:=fun _=>by kernel_rfl
 t53:=by kernel_rfl
 a53:=fun _=>by kernel_rfl
 z53:=fun _=>by kernel_rfl
 v53:=fun _=>by kernel_rfl
theorem M0 (n:Nat):Lib.bitLen n=bl n:=by
 unfold Lib.bitLen bl;have h:∀f n,Lib.bitLenAux f n=Di f n:=by
  intro f;induction f with
  |zero=>intro n;rfl
  |succ f ih=>intro n;simp only[Lib.bitLenAux,Di,ih];split<;>omega
 exact h 64 n
theorem KK (n:Nat)(w:World)(d:n<18446744073709551616):
 Calls prog 174 #[.int .u64 n] w fun e w'=>e= .returned (.int .i64 (bl n))/\w=w':=by
 have h:Calls prog 174 #[.int .u64 n] w fun e w'=>e= .returned (.int .i64 (Lib.bitLen (n:Int).toNat))/\w'=w:=Any.bits_Len64 TR n w (by omega) (by omega)
 exact h.mono fun e w' ⟨c,b⟩=>⟨by rw[c,Int.toNat_natCast,M0],b.symm⟩
theorem Xz (n:Nat):n<2^64->(aR n).length=max 1 ((bl n+6)/7):=by
 induction n using Nat.strongRecOn with
 |ind n ih=>
  intro c;by_cases h:n<128
  ·have:=KJ 7 n h (by omega);rw[ie h];simp only[yR];omega
  rw[jq h,zz,ih (n/128) (by omega) (by omega)];have d:=Qj 7 n (by omega) c;have b:=Xx (n/2^7) (by omega) (by omega);rw[show(2:Nat)^7=128 from rfl]at d b;omega
theorem B7 (n:Nat)(w:World)(d:n<18446744073709551616):
 Calls prog 139 #[.int .u64 n] w fun e w'=>e= .returned (.int .i64 (aR n).length)/\w=w':=by
 have h:=Xz n (by simpa using d);have j:=KJ 64 n (by simpa using d) (by omega);have i:=za (KK n w d);have c:=za h;generalize bl n=b at*;clear h;by_cases l:1<=b
 ·have k:1<=(b+6)/7:=by omega
  go_enter func139,ntmps139
  go_wp2_with fail
  refine i.out.mono ?_;rintro e w' ⟨rfl,rfl⟩;by_cases m:8<=b
  ·go_wp2;go_ret;exact⟨lD (by rw[c.out];omega),rfl⟩
  go_wp2;go_ret;exact⟨lD (by rw[c.out];omega),rfl⟩
 obtain rfl:b=0:=by omega
 go_enter func139,ntmps139
 go_wp2_with fail
 refine i.out.mono ?_;rintro e w' ⟨rfl,rfl⟩;go_wp2;go_ret;exact⟨lD (by rw[c.out];omega),rfl⟩
