/- bits.Len64 and leb.Size. -/
import Derived.Test.YtpjgigllldipiaaGreatDoorProg
import Derived.WalkSpells
import Derived.Shelf.Strconv.Itoa0
import Derived.Test.YtpjgigllldipiaaGreatDoorKA4
set_option linter.all false
set_option maxRecDepth 100000
namespace Go.Proofs.YtpjgigllldipiaaGreatDoor
open Go.RowKit
def CZ :Nat->Nat->Nat
 |0,_=>0
 |f+1,n=>if n=0 then 0 else CZ f (n/2)+1
def bl (n:Nat):Nat:=CZ 64 n
theorem kU (f:Nat):CZ f 0=0:=by cases f<;>simp[CZ]
theorem Fo (f g n:Nat)(b:n<2^f)(c:n<2^g):CZ f n=CZ g n:=by
 induction f generalizing g n with
 |zero=>simp at b;subst b;rw[kU,kU]
 |succ f ih=>
  by_cases d:n=0
  ·subst d;rw[kU,kU]
  cases g with
  |zero=>simp at c;omega
  |succ g=>simp only[CZ,zj d];rw[ih g (n/2) (by rw[Zz]at b;omega) (by rw[Zz]at c;omega)]
theorem Kr (n:Nat)(b:0<n)(h:n<2^64):bl n=bl (n/2)+1:=by
 unfold bl;rw[show(64:Nat)=63+1 from rfl,CZ,zj (by omega),Fo 63 (63+1) (n/2) (by omega) (by omega)]
theorem Pu (k n:Nat)(h:2^k<=n)(b:n<2^64):bl n=bl (n/2^k)+k:=by
 induction k generalizing n with
 |zero=>simp
 |succ k ih=>
  have c:2^(k+1)=2^k*2:=Zz ..;have d:0<2^k:=Nat.pow_pos (by omega);rw[Kr n (by omega) b,ih (n/2) (by omega) (by omega),Nat.div_div_eq_div_mul,ZA 2,<-c];omega
theorem Ks (k n:Nat)(h:n<2^k)(b:k<=64):bl n<=k:=by
 unfold bl;have c:n<2^64:=yf h (yy (by omega) b);rw[Fo 64 k n c h];clear c h b;induction k generalizing n with
 |zero=>simp[CZ]
 |succ k ih=>simp only[CZ];split;omega;have:=ih (n/2);omega
theorem WA (n:Nat)(b:0<n)(h:n<2^64):1<=bl n:=by rw[Kr n b h];omega
def WB :Go.Shelf.Ren:=⟨fun x=>if x=129 then 155 else x,fun x=>if x=3 then 3 else if x=4 then 4 else if x=5 then 5 else if x=9 then 9 else if x=46 then 206 else if x=53 then 55 else x,fun x=>x⟩
theorem Tl :Go.Proofs.Lays.n129 Tryz.prog WB where
 mixed:=by kernel_rfl
 f129:=by kernel_rfl
 t3:=by kernel_rfl
 a3:=fun _=>by kernel_rfl
 z3:=fun _=>by kernel_rfl
 v3:=fun _=>by kernel_rfl
 t4:=by kernel_rfl
 a4:=fun _=>by kernel_rfl
 z4:=fun _=>by kernel_rfl
 v4:=fun _=>by kernel_rfl
 t5:=by kernel_rfl
 a5:=fun _=>by kernel_rfl
 z5:=fun _=>by kernel_rfl
 v5:=fun _=>by kernel_rfl
 t9:=by kernel_rfl
 a9:=fun _=>by kernel_rfl
 z9:=fun _=>by kernel_rfl
 v9:=fun _=>by kernel_rfl
 t46:=by kernel_rfl
 a46:=fun _=>by kernel_rfl
 z46:=fun _=>by kernel_rfl
 v46:=fun _=>by kernel_rfl
 t53:=by kernel_rfl
 a53:=fun _=>by kernel_rfl
 z53:=fun _=>by kernel_rfl
 v53:=fun _=>by kernel_rfl
theorem Mw (n:Nat):Lib.bitLen n=bl n:=by
 unfold Lib.bitLen bl;have h:∀f n,Lib.bitLenAux f n=CZ f n:=by
  intro f;induction f with
  |zero=>intro n;rfl
  |succ f ih=>intro n;simp only[Lib.bitLenAux,CZ,ih];split<;>omega
 exact h 64 n
theorem Kt (n:Nat)(w:World)(d:n<18446744073709551616):
 Calls Tryz.prog 155 #[.int .u64 n] w fun e w'=>e= .returned (.int .i64 (bl n))/\w=w':=by
 have h:Calls Tryz.prog 155 #[.int .u64 n] w fun e w'=>e= .returned (.int .i64 (Lib.bitLen (n:Int).toNat))/\w'=w:=Any.bits_Len64 Tl n w (by omega) (by omega)
 exact h.mono fun e w' ⟨b,c⟩=>⟨by rw[b,Int.toNat_natCast,Mw],c.symm⟩
theorem WC (n:Nat):n<2^64->(aO n).length=max 1 ((bl n+6)/7):=by
 induction n using Nat.strongRecOn with
 |ind n ih=>
  intro c;by_cases h:n<128
  ·have:=Ks 7 n h (by omega);rw[gW h];simp only[yF];omega
  rw[jj h,zB,ih (n/128) (by omega) (by omega)];have d:=Pu 7 n (by omega) c;have b:=WA (n/2^7) (by omega) (by omega);rw[show(2:Nat)^7=128 from rfl]at d b;omega
theorem BR (n:Nat)(w:World)(c:n<18446744073709551616):
 Calls Tryz.prog 117 #[.int .u64 n] w fun e w'=>e= .returned (.int .i64 (aO n).length)/\w=w':=by
 have h:=WC n (by simpa using c);have k:=Ks 64 n (by simpa using c) (by omega);have i:=za (Kt n w c);have d:=za h;generalize bl n=b at*;clear h;by_cases l:1<=b
 ·have j:1<=(b+6)/7:=by omega
  go_enter Tryz.func117,Tryz.ntmps117
  go_wp2_with fail
  refine i.out.mono ?_;rintro e w' ⟨rfl,rfl⟩;by_cases m:8<=b
  ·go_wp2;go_ret;exact⟨lq (by rw[d.out];omega),rfl⟩
  go_wp2;go_ret;exact⟨lq (by rw[d.out];omega),rfl⟩
 obtain rfl:b=0:=by omega
 go_enter Tryz.func117,Tryz.ntmps117
 go_wp2_with fail
 refine i.out.mono ?_;rintro e w' ⟨rfl,rfl⟩;go_wp2;go_ret;exact⟨lq (by rw[d.out];omega),rfl⟩
