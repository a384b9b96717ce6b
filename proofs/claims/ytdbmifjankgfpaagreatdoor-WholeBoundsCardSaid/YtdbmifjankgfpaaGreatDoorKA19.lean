/- bits.Len64 and leb.Size. -/
import Derived.Test.YtdbmifjankgfpaaGreatDoorProg
import Derived.Test.YtdbmifjankgfpaaGreatDoorKA1
import Derived.WalkSpells
import Derived.Shelf.Strconv.Itoa0
set_option linter.all false
set_option maxRecDepth 100000
open Go.Proofs.Tryz
namespace Go.Proofs.YtdbmifjankgfpaaGreatDoor
open Go.RowKit
def yM:=@List.length_singleton
def Dg :Nat->Nat->Nat
 |0,_=>0
 |f+1,n=>if n=0 then 0 else Dg f (n/2)+1
def bl (n:Nat):Nat:=Dg 64 n
theorem ll (f:Nat):Dg f 0=0:=by cases f<;>simp[Dg]
theorem FF (f g n:Nat)(b:n<2^f)(c:n<2^g):Dg f n=Dg g n:=by
 induction f generalizing g n with
 |zero=>simp at b;subst b;rw[ll,ll]
 |succ f ih=>
  by_cases d:n=0
  ·subst d;rw[ll,ll]
  cases g with
  |zero=>simp at c;omega
  |succ g=>simp only[Dg,zh d];rw[ih g (n/2) (by rw[Zl]at b;omega) (by rw[Zl]at c;omega)]
theorem KO (n:Nat)(b:0<n)(h:n<2^64):bl n=bl (n/2)+1:=by
 unfold bl;rw[show(64:Nat)=63+1 from rfl,Dg,zh (by omega),FF 63 (63+1) (n/2) (by omega) (by omega)]
theorem Qx (k n:Nat)(h:2^k<=n)(c:n<2^64):bl n=bl (n/2^k)+k:=by
 induction k generalizing n with
 |zero=>simp
 |succ k ih=>
  have b:2^(k+1)=2^k*2:=Zl ..;have d:0<2^k:=Nat.pow_pos (by omega);rw[KO n (by omega) c,ih (n/2) (by omega) (by omega),Nat.div_div_eq_div_mul,Zm 2,<-b];omega
theorem KP (k n:Nat)(h:n<2^k)(c:k<=64):bl n<=k:=by
 unfold bl;have b:n<2^64:=zU h (yu (by omega) c);rw[FF 64 k n b h];clear b h c;induction k generalizing n with
 |zero=>simp[Dg]
 |succ k ih=>simp only[Dg];split;omega;have:=ih (n/2);omega
theorem Xt (n:Nat)(b:0<n)(h:n<2^64):1<=bl n:=by rw[KO n b h];omega
def Xu :Go.Shelf.Ren:=⟨fun x=>if x=129 then 131 else x,fun x=>if x=3 then 3 else if x=4 then 4 else if x=5 then 5 else if x=9 then 9 else if x=46 then 65 else if x=53 then 46 else x,fun x=>x⟩
theorem T5 :Go.Proofs.Lays.n129 prog Xu where
 mixed:=by kernel_rfl
 f129:=by kernel_rfl
 t3:=by kernel_rfl
 a3:=fun _=>by kernel_rfl
 z3:=fun _=>by kernel_rfl
 v3:=fun _=>by kernel_rfl
 t4:=by kernel_rfl
 a4:=fun _=>by kernel_rfl
 z4:=fun _=>by kernel_rfl
 v4:=fun _=>by kernel_rfl
 t5:=by kernel_rfl
 a5:=fun _=>by kernel_rfl
 z5:=fun _=>by kernel_rfl
 v5:=fun _=>by kernel_rfl
 t9:=by kernel_rfl
 a9:=fun _=>by kernel_rfl
 z9:=fun _=>by kernel_rfl
 v9:=fun _=>by kernel_rfl
 t46:=by kernel_rfl
 a46:=fun _=>by kernel_rfl
 z46:=fun _=>by kernel_rfl
 v46:=fun _=>by kernel_rfl
 t53:=by kernel_rfl
 a53:=fun _=>by kernel_rfl
 z53:=fun _=>by kernel_rfl
 v53:=fun _=>by kernel_rfl
theorem M9 (n:Nat):Lib.bitLen n=bl n:=by
 unfold Lib.bitLen bl;have h:∀f n,Lib.bitLenAux f n=Dg f n:=by
  intro f;induction f with
  |zero=>intro n;rfl
  |succ f ih=>intro n;simp only[Lib.bitLenAux,Dg,ih];split<;>omega
 exact h 64 n
theorem KQ (n:Nat)(w:World)(d:n<18446744073709551616):
 Calls prog 131 #[.int .u64 n] w fun e w'=>e= .returned (.int .i64 (bl n))/\w=w':=by
 have h:Calls prog 131 #[.int .u64 n] w fun e w'=>e= .returned (.int .i64 (Lib.bitLen (n:Int).toNat))/\w'=w:=Any.bits_Len64 T5 n w (by omega) (by omega)
 exact h.mono fun e w' ⟨c,b⟩=>⟨by rw[c,Int.toNat_natCast,M9],b.symm⟩
theorem Xv (n:Nat):n<2^64->(aR n).length=max 1 ((bl n+6)/7):=by
 induction n using Nat.strongRecOn with
 |ind n ih=>
  intro d;by_cases h:n<128
  ·have:=KP 7 n h (by omega);rw[iq h];simp only[yM];omega
  rw[jE h,zx,ih (n/128) (by omega) (by omega)];have b:=Qx 7 n (by omega) d;have c:=Xt (n/2^7) (by omega) (by omega);rw[show(2:Nat)^7=128 from rfl]at b c;omega
theorem Cj (n:Nat)(w:World)(d:n<18446744073709551616):
 Calls prog 110 #[.int .u64 n] w fun e w'=>e= .returned (.int .i64 (aR n).length)/\w=w':=by
 have h:=Xv n (by simpa using d);have m:=KP 64 n (by simpa using d) (by omega);have i:=za (KQ n w d);have c:=za h;generalize bl n=b at*;clear h;by_cases j:1<=b
 ·have k:1<=(b+6)/7:=by omega
  go_enter func110,ntmps110
  go_wp2_with fail
  refine i.out.mono ?_;rintro e w' ⟨rfl,rfl⟩;by_cases l:8<=b
  ·go_wp2;go_ret;exact⟨gd (by rw[c.out];omega),rfl⟩
  go_wp2;go_ret;exact⟨gd (by rw[c.out];omega),rfl⟩
 obtain rfl:b=0:=by omega
 go_enter func110,ntmps110
 go_wp2_with fail
 refine i.out.mono ?_;rintro e w' ⟨rfl,rfl⟩;go_wp2;go_ret;exact⟨gd (by rw[c.out];omega),rfl⟩
