/- bits.Len64 and leb.Size. -/
import Derived.Test.YtdbmifjankgfpaaGreatDoorProg
import Derived.Test.YtdbmifjankgfpaaGreatDoorKA1
import Derived.WalkSpells
import Derived.Shelf.Strconv.Itoa0
set_option linter.all false
set_option maxRecDepth 100000
open Go.Proofs.Tryz
namespace Go.Proofs.YtdbmifjankgfpaaGreatDoor
open Go.RowKit
def yM:=@List.length_singleton
def Dl :Nat->Nat->Nat
 |0,_=>0
 |f+1,n=>if n=0 then 0 else Dl f (n/2)+1
def bl (n:Nat):Nat:=Dl 64 n
theorem lu (f:Nat):Dl f 0=0:=by cases f<;>simp[Dl]
theorem F0 (f g n:Nat)(b:n<2^f)(c:n<2^g):Dl f n=Dl g n:=by
 induction f generalizing g n with
 |zero=>simp at b;subst b;rw[lu,lu]
 |succ f ih=>
  by_cases d:n=0
  ·subst d;rw[lu,lu]
  cases g with
  |zero=>simp at c;omega
  |succ g=>simp only[Dl,zh d];rw[ih g (n/2) (by rw[Zm]at b;omega) (by rw[Zm]at c;omega)]
theorem Lb (n:Nat)(b:0<n)(h:n<2^64):bl n=bl (n/2)+1:=by
 unfold bl;rw[show(64:Nat)=63+1 from rfl,Dl,zh (by omega),F0 63 (63+1) (n/2) (by omega) (by omega)]
theorem QL (k n:Nat)(h:2^k<=n)(c:n<2^64):bl n=bl (n/2^k)+k:=by
 induction k generalizing n with
 |zero=>simp
 |succ k ih=>
  have b:2^(k+1)=2^k*2:=Zm ..;have d:0<2^k:=Nat.pow_pos (by omega);rw[Lb n (by omega) c,ih (n/2) (by omega) (by omega),Nat.div_div_eq_div_mul,Zn 2,<-b];omega
theorem Ld (k n:Nat)(h:n<2^k)(c:k<=64):bl n<=k:=by
 unfold bl;have b:n<2^64:=zU h (yp (by omega) c);rw[F0 64 k n b h];clear b h c;induction k generalizing n with
 |zero=>simp[Dl]
 |succ k ih=>simp only[Dl];split;omega;have:=ih (n/2);omega
theorem XI (n:Nat)(b:0<n)(h:n<2^64):1<=bl n:=by rw[Lb n b h];omega
def XJ :Go.Shelf.Ren:=⟨fun x=>if x=129 then 131 else x,fun x=>if x=3 then 3 else if x=4 then 4 else if x=5 then 5 else if x=9 then 9 else if x=46 then 65 else if x=53 then 46 else x,fun x=>x⟩
theorem Ub :Go.Proofs.Lays.n129 prog XJ where
 mixed:=by kernel_rfl
 f129:=by kernel_rfl
 t3:=by kernel_rfl
 a3:=fun _=>by kernel_rfl
 z3:=fun _=>by kernel_rfl
 v3:=fun _=>by kernel_rfl
 t4:=by kernel_rfl
 a4:=fun _=>by kernel_rfl
 z4:=fun _=>by kernel_rfl
 v4:=fun _=>by kernel_rfl
 t5:=by kernel_rfl
 a5:=fun _=>by kernel_rfl
 z5:=fun _=>by kernel_rfl
 v5:=fun _=>by kernel_rfl
 t9:=by kernel_rfl
 a9:=fun _=>by kernel_rfl
 z9:=fun _=>by kernel_rfl
 v9:=fun _=>by kernel_rfl
 t46:=by kernel_rfl
 a46:=fun _=>by kernel_rfl
 z46:=fun _=>by kernel_rfl
 v46:=fun _=>by kernel_rfl
 t53:=by kernel_rfl
 a53:=fun _=>by kernel_rfl
 z53:=fun _=>by kernel_rfl
 v53:=fun _=>by kernel_rfl
theorem Nw (n:Nat):Lib.bitLen n=bl n:=by
 unfold Lib.bitLen bl;have h:∀f n,Lib.bitLenAux f n=Dl f n:=by
  intro f;induction f with
  |zero=>intro n;rfl
  |succ f ih=>intro n;simp only[Lib.bitLenAux,Dl,ih];split<;>omega
 exact h 64 n
theorem Le (n:Nat)(w:World)(d:n<18446744073709551616):
 Calls prog 131 #[.int .u64 n] w fun e w'=>e= .returned (.int .i64 (bl n))/\w=w':=by
 have h:Calls prog 131 #[.int .u64 n] w fun e w'=>e= .returned (.int .i64 (Lib.bitLen (n:Int).toNat))/\w'=w:=Any.bits_Len64 Ub n w (by omega) (by omega)
 exact h.mono fun e w' ⟨b,c⟩=>⟨by rw[b,Int.toNat_natCast,Nw],c.symm⟩
theorem XK (n:Nat):n<2^64->(aR n).length=max 1 ((bl n+6)/7):=by
 induction n using Nat.strongRecOn with
 |ind n ih=>
  intro d;by_cases h:n<128
  ·have:=Ld 7 n h (by omega);rw[ie h];simp only[yM];omega
  rw[jv h,zy,ih (n/128) (by omega) (by omega)];have c:=QL 7 n (by omega) d;have b:=XI (n/2^7) (by omega) (by omega);rw[show(2:Nat)^7=128 from rfl]at c b;omega
theorem Cg (n:Nat)(w:World)(c:n<18446744073709551616):
 Calls prog 110 #[.int .u64 n] w fun e w'=>e= .returned (.int .i64 (aR n).length)/\w=w':=by
 have h:=XK n (by simpa using c);have k:=Ld 64 n (by simpa using c) (by omega);have i:=za (Le n w c);have d:=za h;generalize bl n=b at*;clear h;by_cases j:1<=b
 ·have l:1<=(b+6)/7:=by omega
  go_enter func110,ntmps110
  go_wp2_with fail
  refine i.out.mono ?_;rintro e w' ⟨rfl,rfl⟩;by_cases m:8<=b
  ·go_wp2;go_ret;exact⟨lN (by rw[d.out];omega),rfl⟩
  go_wp2;go_ret;exact⟨lN (by rw[d.out];omega),rfl⟩
 obtain rfl:b=0:=by omega
 go_enter func110,ntmps110
 go_wp2_with fail
 refine i.out.mono ?_;rintro e w' ⟨rfl,rfl⟩;go_wp2;go_ret;exact⟨lN (by rw[d.out];omega),rfl⟩
