/- bits.Len64 and leb.Size. -/
import Derived.Test.YtimoclkoflamkaaGreatDoorProg
import Derived.Test.YtimoclkoflamkaaGreatDoorKA2
import Derived.WalkSpells
import Derived.Shelf.Strconv.Itoa0
set_option linter.all false
set_option maxRecDepth 100000
open Go.Proofs.Tryz
namespace Go.Proofs.YtimoclkoflamkaaGreatDoor
open Go.RowKit
def yJ:=@List.length_singleton
def Eo :Nat->Nat->Nat
 |0,_=>0
 |f+1,n=>if n=0 then 0 else Eo f (n/2)+1
def bl (n:Nat):Nat:=Eo 64 n
theorem ll (f:Nat):Eo f 0=0:=by cases f<;>simp[Eo]
theorem GX (f g n:Nat)(b:n<2^f)(c:n<2^g):Eo f n=Eo g n:=by
 induction f generalizing g n with
 |zero=>simp at b;subst b;rw[ll,ll]
 |succ f ih=>
  by_cases d:n=0
  ·subst d;rw[ll,ll]
  cases g with
  |zero=>simp at c;omega
  |succ g=>simp only[Eo,zf d];rw[ih g (n/2) (by rw[Zv]at b;omega) (by rw[Zv]at c;omega)]
theorem Mp (n:Nat)(b:0<n)(h:n<2^64):bl n=bl (n/2)+1:=by
 unfold bl;rw[show(64:Nat)=63+1 from rfl,Eo,zf (by omega),GX 63 (63+1) (n/2) (by omega) (by omega)]
theorem Sp (k n:Nat)(h:2^k<=n)(b:n<2^64):bl n=bl (n/2^k)+k:=by
 induction k generalizing n with
 |zero=>simp
 |succ k ih=>
  have c:2^(k+1)=2^k*2:=Zv ..;have d:0<2^k:=Nat.pow_pos (by omega);rw[Mp n (by omega) b,ih (n/2) (by omega) (by omega),Nat.div_div_eq_div_mul,Zw 2,<-c];omega
theorem Mq (k n:Nat)(h:n<2^k)(c:k<=64):bl n<=k:=by
 unfold bl;have b:n<2^64:=zJ h (yu (by omega) c);rw[GX 64 k n b h];clear b h c;induction k generalizing n with
 |zero=>simp[Eo]
 |succ k ih=>simp only[Eo];split;omega;have:=ih (n/2);omega
theorem aaT (n:Nat)(b:0<n)(h:n<2^64):1<=bl n:=by rw[Mp n b h];omega
def aaU :Go.Shelf.Ren:=⟨fun x=>if x=129 then 174 else x,fun x=>if x=3 then 3 else if x=4 then 4 else if x=5 then 5 else if x=9 then 9 else if x=46 then 232 else if x=53 then 61 else x,fun x=>x⟩
theorem VM :Go.Proofs.Lays.n129 prog aaU where
 mixed:=by kernel_rfl
 f129:=by kernel_rfl
 t3:=by kernel_rfl
 a3:=fun _=>by kernel_rfl
 z3:=fun _=>by kernel_rfl
 v3:=fun _=>by kernel_rfl
 t4:=by kernel_rfl
 a4:=fun _=>by kernel_rfl
 z4:=fun _=>by kernel_rfl
 v4:=fun _=>by kernel_rfl
 t5:=by kernel_rfl
 a5:=fun _=>by kernel_rfl
 z5:=fun _=>by kernel_rfl
 v5:=fun _=>by kernel_rfl
 t9:=by kernel_rfl
 a9:=fun _=>by kernel_rfl
 z9:=fun _=>by kernel_rfl
 v9:=fun _=>by kernel_rfl
 t46:=by kernel_rfl
 a46:=fun _=>by kernel_rfl
 z46:=fun _=>by kernel_rfl
 v46:=fun _=>by kernel_rfl
 t53:=by kernel_rfl
 a53:=fun _=>by kernel_rfl
 z53:=fun _=>by kernel_rfl
 v53:=fun _=>by kernel_rfl
theorem OO (n:Nat):Lib.bitLen n=bl n:=by
 unfold Lib.bitLen bl;have h:∀f n,Lib.bitLenAux f n=Eo f n:=by
  intro f;induction f with
  |zero=>intro n;rfl
  |succ f ih=>intro n;simp only[Lib.bitLenAux,Eo,ih];split<;>omega
 exact h 64 n
theorem Mr (n:Nat)(w:World)(d:n<18446744073709551616):
 Calls prog 174 #[.int .u64 n] w fun e w'=>e= .returned (.int .i64 (bl n))/\w=w':=by
 have h:Calls prog 174 #[.int .u64 n] w fun e w'=>e= .returned (.int .i64 (Lib.bitLen (n:Int).toNat))/\w'=w:=Any.bits_Len64 VM n w (by omega) (by omega)
 exact h.mono fun e w' ⟨b,c⟩=>⟨by rw[b,Int.toNat_natCast,OO],c.symm⟩
theorem aaV (n:Nat):n<2^64->(aR n).length=max 1 ((bl n+6)/7):=by
 induction n using Nat.strongRecOn with
 |ind n ih=>
  intro b;by_cases h:n<128
  ·have:=Mq 7 n h (by omega);rw[il h];simp only[yJ];omega
  rw[jy h,zx,ih (n/128) (by omega) (by omega)];have c:=Sp 7 n (by omega) b;have d:=aaT (n/2^7) (by omega) (by omega);rw[show(2:Nat)^7=128 from rfl]at c d;omega
theorem Db (n:Nat)(w:World)(d:n<18446744073709551616):
 Calls prog 139 #[.int .u64 n] w fun e w'=>e= .returned (.int .i64 (aR n).length)/\w=w':=by
 have h:=aaV n (by simpa using d);have m:=Mq 64 n (by simpa using d) (by omega);have i:=za (Mr n w d);have c:=za h;generalize bl n=b at*;clear h;by_cases k:1<=b
 ·have l:1<=(b+6)/7:=by omega
  go_enter func139,ntmps139
  go_wp2_with fail
  refine i.out.mono ?_;rintro e w' ⟨rfl,rfl⟩;by_cases j:8<=b
  ·go_wp2;go_ret;exact⟨lO (by rw[c.out];omega),rfl⟩
  go_wp2;go_ret;exact⟨lO (by rw[c.out];omega),rfl⟩
 obtain rfl:b=0:=by omega
 go_enter func139,ntmps139
 go_wp2_with fail
 refine i.out.mono ?_;rintro e w' ⟨rfl,rfl⟩;go_wp2;go_ret;exact⟨lO (by rw[c.out];omega),rfl⟩
