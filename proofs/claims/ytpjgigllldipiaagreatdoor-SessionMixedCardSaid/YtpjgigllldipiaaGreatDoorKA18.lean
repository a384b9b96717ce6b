/- bits.Len64 and leb.Size. -/
import Derived.Test.YtpjgigllldipiaaGreatDoorProg
import Derived.WalkSpells
import Derived.Shelf.Strconv.Itoa0
import Derived.Test.YtpjgigllldipiaaGreatDoorKA4
set_option linter.all false
set_option maxRecDepth 100000
namespace Go.Proofs.YtpjgigllldipiaaGreatDoor
open Tryz
open Go.RowKit
def CQ :Nat->Nat->Nat
 |0,_=>0
 |f+1,n=>if n=0 then 0 else CQ f (n/2)+1
def bl (n:Nat):Nat:=CQ 64 n
theorem kO (f:Nat):CQ f 0=0:=by cases f<;>simp[CQ]
theorem Fe (f g n:Nat)(b:n<2^f)(c:n<2^g):CQ f n=CQ g n:=by
 induction f generalizing g n with
 |zero=>simp at b;subst b;rw[kO,kO]
 |succ f ih=>
  by_cases d:n=0
  ·subst d;rw[kO,kO]
  cases g with
  |zero=>simp at c;omega
  |succ g=>simp only[CQ,zj d];rw[ih g (n/2) (by rw[Zy]at b;omega) (by rw[Zy]at c;omega)]
theorem J6 (n:Nat)(b:0<n)(h:n<2^64):bl n=bl (n/2)+1:=by
 unfold bl;rw[show(64:Nat)=63+1 from rfl,CQ,zj (by omega),Fe 63 (63+1) (n/2) (by omega) (by omega)]
theorem Pd (k n:Nat)(h:2^k<=n)(b:n<2^64):bl n=bl (n/2^k)+k:=by
 induction k generalizing n with
 |zero=>simp
 |succ k ih=>
  have c:2^(k+1)=2^k*2:=Zy ..;have d:0<2^k:=Nat.pow_pos (by omega);rw[J6 n (by omega) b,ih (n/2) (by omega) (by omega),Nat.div_div_eq_div_mul,Zz 2,<-c];omega
theorem J7 (k n:Nat)(h:n<2^k)(c:k<=64):bl n<=k:=by
 unfold bl;have b:n<2^64:=yg h (yy (by omega) c);rw[Fe 64 k n b h];clear b h c;induction k generalizing n with
 |zero=>simp[CQ]
 |succ k ih=>simp only[CQ];split;omega;have:=ih (n/2);omega
theorem Wc (n:Nat)(b:0<n)(h:n<2^64):1<=bl n:=by rw[J6 n b h];omega
def Wd :Go.Shelf.Ren:=⟨fun x=>if x=129 then 155 else x,fun x=>if x=3 then 3 else if x=4 then 4 else if x=5 then 5 else if x=9 then 9 else if x=46 then 206 else if x=53 then 55 else x,fun x=>x⟩
theorem S7 :Go.Proofs.Lays.n129 prog Wd where
 mixed:=by kernel_rfl
 f129:=by kernel_rfl
 t3:=by kernel_rfl
 a3:=fun _=>by kernel_rfl
 z3:=fun _=>by kernel_rfl
 v3:=fun _=>by kernel_rfl
 t4:=by kernel_rfl
 a4:=fun _=>by kernel_rfl
 z4:=fun _=>by kernel_rfl
 v4:=fun _=>by kernel_rfl
 t5:=by kernel_rfl
 a5:=fun _=>by kernel_rfl
 z5:=fun _=>by kernel_rfl
 v5:=fun _=>by kernel_rfl
 t9:=by kernel_rfl
 a9:=fun _=>by kernel_rfl
 z9:=fun _=>by kernel_rfl
 v9:=fun _=>by kernel_rfl
 t46:=by kernel_rfl
 a46:=fun _=>by kernel_rfl
 z46:=fun _=>by kernel_rfl
 v46:=fun _=>by kernel_rfl
 t53:=by kernel_rfl
 a53:=fun _=>by kernel_rfl
 z53:=fun _=>by kernel_rfl
 v53:=fun _=>by kernel_rfl
theorem Ma (n:Nat):Lib.bitLen n=bl n:=by
 unfold Lib.bitLen bl;have h:∀f n,Lib.bitLenAux f n=CQ f n:=by
  intro f;induction f with
  |zero=>intro n;rfl
  |succ f ih=>intro n;simp only[Lib.bitLenAux,CQ,ih];split<;>omega
 exact h 64 n
theorem J8 (n:Nat)(w:World)(d:n<18446744073709551616):
 Calls prog 155 #[.int .u64 n] w fun e w'=>e= .returned (.int .i64 (bl n))/\w=w':=by
 have h:Calls prog 155 #[.int .u64 n] w fun e w'=>e= .returned (.int .i64 (Lib.bitLen (n:Int).toNat))/\w'=w:=Any.bits_Len64 S7 n w (by omega) (by omega)
 exact h.mono fun e w' ⟨c,b⟩=>⟨by rw[c,Int.toNat_natCast,Ma],b.symm⟩
theorem We (n:Nat):n<2^64->(aQ n).length=max 1 ((bl n+6)/7):=by
 induction n using Nat.strongRecOn with
 |ind n ih=>
  intro b;by_cases h:n<128
  ·have:=J7 7 n h (by omega);rw[gS h];simp only[yF];omega
  rw[jd h,zD,ih (n/128) (by omega) (by omega)];have c:=Pd 7 n (by omega) b;have d:=Wc (n/2^7) (by omega) (by omega);rw[show(2:Nat)^7=128 from rfl]at c d;omega
theorem BH (n:Nat)(w:World)(c:n<18446744073709551616):
 Calls prog 117 #[.int .u64 n] w fun e w'=>e= .returned (.int .i64 (aQ n).length)/\w=w':=by
 have i:=We n (by simpa using c);have j:=J7 64 n (by simpa using c) (by omega);have h:=za (J8 n w c);have d:=za i;generalize bl n=b at*;clear i;by_cases k:1<=b
 ·have m:1<=(b+6)/7:=by omega
  go_enter func117,ntmps117
  go_wp2_with fail
  refine h.out.mono ?_;rintro e w' ⟨rfl,rfl⟩;by_cases l:8<=b
  ·go_wp2;go_ret;exact⟨lh (by rw[d.out];omega),rfl⟩
  go_wp2;go_ret;exact⟨lh (by rw[d.out];omega),rfl⟩
 obtain rfl:b=0:=by omega
 go_enter func117,ntmps117
 go_wp2_with fail
 refine h.out.mono ?_;rintro e w' ⟨rfl,rfl⟩;go_wp2;go_ret;exact⟨lh (by rw[d.out];omega),rfl⟩
