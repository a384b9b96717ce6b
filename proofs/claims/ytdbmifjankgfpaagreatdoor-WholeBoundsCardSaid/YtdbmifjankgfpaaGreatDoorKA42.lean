/- session.drop, session.needed. -/
import Derived.Test.YtdbmifjankgfpaaGreatDoorKA9
import Derived.Test.YtdbmifjankgfpaaGreatDoorKA26
set_option linter.all false
set_option maxRecDepth 100000
set_option maxHeartbeats 1600000
open Go.Proofs.Tryz
namespace Go.Proofs.YtdbmifjankgfpaaGreatDoor
open Go.RowKit
def Z9:=@ntmps66
theorem FX (base:Nat)(v:Value)(l:List UInt8)(n:Nat)(w:World)(h:bF w base 5 v l)(N:base<=w.heap.size)(B:n<=l.length)(Y:l.length<=1000000):
 Calls prog 66 #[v,.int .i64 n] w fun e w'=>∃j,e= .returned j/\bF w' base 5 j (l.drop n)/\lF w w' v j:=by
 have o:=h;obtain⟨A,cap,rfl,L,mA,U⟩:=h;rcases U with⟨rfl,rfl⟩|⟨g,Z,fr,rfl,_⟩
 ·obtain rfl:l= []:=zp (by omega);obtain rfl:n=0:=by simpa using B
  clear o;have H:=run_copy_none (P:=prog) w 31 31 3 5 none none 0 0 0 0 zt iu (by simp);go_enter func66,Z9
  go_wp2;go_ret;exact⟨_,rfl,bF.nil _ _ _,lF.refl _ _⟩
 obtain⟨W,z,M,K,E,D,J⟩:=o.O5 B;have c:=za M;have b:=za K;clear M K;obtain⟨len,d⟩:∃len,l.length=len:=⟨_,rfl⟩
 have HL:=za d;rw[d]at o L B Y c b⊢;obtain⟨k,y⟩:∃k,len-n=k:=⟨_,rfl⟩
 rw[y]at c b;have R:(len:Int)-n=k:=by omega
 have r:(cb (l.drop n)).length=k:=by rw[bj,zK,d,y]
 by_cases X:n=cap
 ·obtain rfl:k=0:=by omega
  obtain rfl:len=cap:=by omega
  subst X;have O:cb (l.drop n)= []:=zp r;rw[O]at z;obtain rfl:w=W:=z;have H:=run_copy_none (P:=prog) w 31 31 3 5 (some ⟨g,0,none⟩) (some ⟨g,0,none⟩) n n 0 0 zt iu (by simp);clear E D J O r o;rename_i right
  clear right L B y R;have s:=za d;clear d;by_cases S:4096<n
  ·have G:((4096:Int)<n):=by omega
   have q:=za (pU base g 0 n (l.drop n) w (by rw[zK,s.out];omega) c.out (by rw[zK,s.out];omega));go_enter func66,Z9
   go_wp2_with fail
   refine q.out.mono ?_;rintro e F ⟨⟨j,rfl,i,m⟩,x⟩;have C:Hid (lF w F (.slice (some ⟨g,0,none⟩) n n) j):=za ⟨b.out.grown.andThen (cD x) (by simp),.inr (by obtain⟨p,u⟩:=m;exact⟨p,u,(i.ge p u).1⟩)⟩;have I:=za (i.mono N);clear i x q c b m;go_wp2;go_ret;exact⟨_,rfl,I.out,C.out⟩
  have G:¬((4096:Int)<n):=by omega
  go_enter func66,Z9
  go_wp2;go_ret;exact⟨_,rfl,c.out,b.out⟩
 have H:=run_copy_cells (P:=prog) w 31 31 3 5 g 0 len cap ⟨g,n,none⟩ k (cap-n) (cb (l.drop n)) zt iu (by rw[r];show k=min k len;omega) E D J (rE _);rw[r,z]at H;rename_i right
 clear right E D J z o r;have s:=za d;clear d;by_cases S:4*k+4096<cap
 ·have G:(4*(k:Int)+4096<cap):=by omega
  have q:=za (pU base g k cap (l.drop n) W (by rw[zK,s.out,y]) c.out (by rw[zK,s.out];omega));go_enter func66,Z9
  go_wp2_with fail
  refine q.out.mono ?_;rintro e F ⟨⟨j,rfl,i,m⟩,x⟩;have C:Hid (lF w F (.slice (some ⟨g,0,none⟩) len cap) j):=za ⟨b.out.grown.andThen (cD x) (by simp),.inr (by obtain⟨p,u⟩:=m;exact⟨p,u,by have:=(i.ge p u).1;have:=b.out.size;omega⟩)⟩;have I:=za (i.mono (zF N b.out.size));clear i x q c b m;go_wp2;go_ret;exact⟨_,rfl,I.out,C.out⟩
 have G:¬(4*(k:Int)+4096<cap):=by omega
 go_enter func66,Z9
 go_wp2;go_ret;exact⟨_,rfl,c.out,b.out⟩
theorem Jf (c:aI)(s:ByteArray)(w:World)(q:c.right=true)(I:s.size<=1099511627776):
 Calls prog 65 #[c.val,.string s] w fun e w'=>e= .returned (.int .i64 (cL c s:Nat))/\Below w.heap.size w w':=by
 have r:=(c.bB).1 q;obtain⟨i,m,b,l,o,it⟩:=c;simp only at r;obtain⟨z,C,D,A,_⟩:=r;clear q;unfold aI.val;by_cases j:i=1
 ·subst j;clear z C D A;by_cases y:s.size<24
  ·have d:Hid (cL ⟨1,m,b,l,o,it⟩ s=0):=za (by unfold cL;rw[zi rfl,zi y]);go_enter func65,ntmps65
   go_wp2;go_ret;exact⟨by rw[d.out];rfl,bT⟩
  have hz:(s.extract 16 20).size=4:=by rw[an _ _ _ (by omega)]
  have d:Hid (cL ⟨1,m,b,l,o,it⟩ s=24+dh (s.extract 16 20).data.toList):=za (by unfold cL;rw[zi rfl,zh y]);have E:=za (fun V=>eo (s.extract 16 20) V (by omega) (by omega));have F:=qb (s.extract 16 20) hz;generalize dh (s.extract 16 20).data.toList=N at*;have J:IntKind.i64.wrap (N:Int)=N:=zW _ (by omega);clear hz;go_enter func65,ntmps65
  go_wp2_with fail
  refine(E.out _).mono ?_;rintro e w' ⟨rfl,rfl⟩;go_wp2;go_ret;exact⟨by rw[d.out];exact gd (by omega),bT⟩
 have u:=za (fun V=>nG b s V (by omega) (by omega) (by omega));have p:=k7 b s;by_cases h:(au b s).2.2=0
 ·obtain⟨G,M,K,L⟩:=p h;have d:Hid (cL ⟨i,m,b,l,o,it⟩ s=(au b s).2.1+(au b s).1):=za (by unfold cL;rw[zh j,zh (by simp[h])]);generalize au b s=X at*;obtain⟨n,k,x⟩:=X;simp only at*;subst h;clear p;have B:(i !=1)=true:=yz.2 j;go_enter func65,ntmps65
  go_wp2_with fail
  refine(u.out _).mono ?_;rintro e w' ⟨rfl,rfl⟩;go_wp2;go_ret;exact⟨by rw[d.out];exact gd (by omega),bT⟩
 have d:Hid (cL ⟨i,m,b,l,o,it⟩ s=0):=za (by unfold cL;rw[zh j,zi h]);generalize au b s=X at*;obtain⟨n,k,x⟩:=X;simp only at*;clear p;have B:(i !=1)=true:=yz.2 j;have H:(x !=0)=true:=yz.2 h;go_enter func65,ntmps65
 go_wp2_with fail
 refine(u.out _).mono ?_;rintro e w' ⟨rfl,rfl⟩;go_wp2;go_ret;exact⟨by rw[d.out];rfl,bT⟩
def nK (e:bD):Bool:=decide (100<e.name.size)||decide (500<e.ty.size)
def l8 (l:List bD):Bool:=decide (40<l.length)||l.any nK
theorem Cl {l:List bD}(h:l8 l=false)(hid:∀e∈l,e.id<18446744073709551616):l.length<=40/\∀e∈l,oN e:=by
 simp only[l8,Bool.or_eq_false_iff,xj,ZY]at h;refine⟨by omega,fun e b=> ?_⟩;have:=h.2 e b;simp only[nK,Bool.or_eq_true,yb,not_or]at this;exact⟨hid e b,by omega,by omega⟩
theorem NB (l:List bD)(v:Value)(B:Nat)(w:World)(s:qj w B v l):
 Calls prog 29 #[v] w fun e w'=>e= .returned (.bool (l8 l))/\w'=w:=by
 obtain⟨A,n,cap,rfl,m,W,Y⟩:=s.cF;have L:=za s;clear s;by_cases x:40<n
 ·have J:(40:Int)<n:=by omega
  have d:Hid (l8 l=true):=za (by unfold l8;rw[<-m.out];simp[x]);rw[d.out];go_enter func29,ntmps29
  go_wp2;go_ret;exact⟨rfl,rfl⟩
 have J:¬(40:Int)<n:=by omega
 have d:Hid (l8 l=l.any nK):=za (by unfold l8;rw[<-m.out];simp[x]);rw[d.out];obtain⟨R,p⟩:∃R,l.any nK=R:=⟨_,rfl⟩
 rw[p];have D:=za p;clear p d;go_enter func29,ntmps29
 go_wp2;go_loopw [3] (fun i wr=>∃k:Nat,i= .int .i64 k/\k<=n/\Hid (∀j (b:j<l.length),j<k->nK l[j]=false)/\wr=w) (fun i _=>n-(intOf i).toNat)
 case atStart=>exact⟨0,rfl,by omega,za (by omega),rfl⟩
 case round=>
  obtain⟨k,rfl,hk,u,rfl⟩:=hrel;by_cases H:k<n
  ·have C:k<l.length:=by rw[<-m.out];exact H
   obtain⟨g,o,rfl,Z,M,N,O⟩:=L.out.at_ C;have z:Hid (nK l[k]=false->∀j (b:j<l.length),j<k+1->nK l[j]=false):=za (fun q j b X=>by
    by_cases h:j=k
    ·subst h;exact q
    exact u.out j b (by omega))
   have r:Hid (nK l[k]=true->R=true):=za (fun q=>by rw[<-D.out];exact Zv.2 ⟨_,zR C,q⟩);obtain⟨y,E⟩:∃y,l[k]=y:=⟨_,rfl⟩
   rw[E]at M N O z r;clear E;by_cases F:100<y.name.size
   ·have I:(100:Int)<(y.name.size:Int):=by omega
    have c:=za (r.out (by simp[nK,F]));go_wp2;go_ret;exact⟨by rw[c.out];rfl,rfl⟩
   have I:¬(100:Int)<(y.name.size:Int):=by omega
   by_cases G:500<y.ty.size
   ·have S:(500:Int)<(y.ty.size:Int):=by omega
    have c:=za (r.out (by simp[nK,G]));go_wp2;go_ret;exact⟨by rw[c.out];rfl,rfl⟩
   have S:¬(500:Int)<(y.ty.size:Int):=by omega
   have K:=za (z.out (by simp[nK,F,G]));go_wp2;go_roundw
   case rel=>exact⟨k+1,by go_num,by omega,K,trivial⟩
   case measure=>simp[intOf];omega
  have c:Hid (R=false):=za (by
   rw[<-D.out,ZY];intro e U;obtain⟨j,b,rfl⟩:=y7 U;rw[u.out j b (by rw[<-m.out]at b;omega)];simp)
  go_wp2;go_ret;exact⟨by rw[c.out];rfl,rfl⟩
theorem QM (c:aI)(s:ByteArray)(w:World)(q:c.right=true)(I:s.size<=1099511627776):
 Calls prog 84 #[c.val,.string s] w fun e w'=>e= .returned (.int .i64 (cL c s:Nat))/\Below w.heap.size w w':=by
 have r:=(c.bB).1 q;obtain⟨i,m,b,l,o,it⟩:=c;simp only at r;obtain⟨z,C,D,A,_⟩:=r;clear q;unfold aI.val;by_cases j:i=1
 ·subst j;clear z C D A;by_cases y:s.size<24
  ·have d:Hid (cL ⟨1,m,b,l,o,it⟩ s=0):=za (by unfold cL;rw[zi rfl,zi y]);go_enter func84,ntmps84
   go_wp2;go_ret;exact⟨by rw[d.out];rfl,bT⟩
  have hz:(s.extract 16 20).size=4:=by rw[an _ _ _ (by omega)]
  have d:Hid (cL ⟨1,m,b,l,o,it⟩ s=24+dh (s.extract 16 20).data.toList):=za (by unfold cL;rw[zi rfl,zh y]);have E:=za (fun V=>eo (s.extract 16 20) V (by omega) (by omega));have F:=qb (s.extract 16 20) hz;generalize dh (s.extract 16 20).data.toList=N at*;have J:IntKind.i64.wrap (N:Int)=N:=zW _ (by omega);clear hz;go_enter func84,ntmps84
  go_wp2_with fail
  refine(E.out _).mono ?_;rintro e w' ⟨rfl,rfl⟩;go_wp2;go_ret;exact⟨by rw[d.out];exact gd (by omega),bT⟩
 have u:=za (fun V=>nG b s V (by omega) (by omega) (by omega));have p:=k7 b s;by_cases h:(au b s).2.2=0
 ·obtain⟨G,M,K,L⟩:=p h;have d:Hid (cL ⟨i,m,b,l,o,it⟩ s=(au b s).2.1+(au b s).1):=za (by unfold cL;rw[zh j,zh (by simp[h])]);generalize au b s=X at*;obtain⟨n,k,x⟩:=X;simp only at*;subst h;clear p;have B:(i !=1)=true:=yz.2 j;go_enter func84,ntmps84
  go_wp2_with fail
  refine(u.out _).mono ?_;rintro e w' ⟨rfl,rfl⟩;go_wp2;go_ret;exact⟨by rw[d.out];exact gd (by omega),bT⟩
 have d:Hid (cL ⟨i,m,b,l,o,it⟩ s=0):=za (by unfold cL;rw[zh j,zi h]);generalize au b s=X at*;obtain⟨n,k,x⟩:=X;simp only at*;clear p;have B:(i !=1)=true:=yz.2 j;have H:(x !=0)=true:=yz.2 h;go_enter func84,ntmps84
 go_wp2_with fail
 refine(u.out _).mono ?_;rintro e w' ⟨rfl,rfl⟩;go_wp2;go_ret;exact⟨by rw[d.out];rfl,bT⟩
