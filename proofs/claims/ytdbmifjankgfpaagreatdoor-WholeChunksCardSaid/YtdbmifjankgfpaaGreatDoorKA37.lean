/- session.drop, session.needed. -/
import Derived.Test.YtdbmifjankgfpaaGreatDoorKA7
import Derived.Test.YtdbmifjankgfpaaGreatDoorKA23
set_option linter.all false
set_option maxRecDepth 100000
set_option maxHeartbeats 1600000
open Go.Proofs.Tryz
namespace Go.Proofs.YtdbmifjankgfpaaGreatDoor
open Go.RowKit
def Yd:=@ntmps66
theorem Gi (base:Nat)(v:Value)(l:List UInt8)(n:Nat)(w:World)(h:bL w base 5 v l)(L:base<=w.heap.size)(B:n<=l.length)(R:l.length<=1000000):
 Calls prog 66 #[v,.int .i64 n] w fun e w'=>∃i,e= .returned i/\bL w' base 5 i (l.drop n)/\mP w w' v i:=by
 have s:=h;obtain⟨A,cap,rfl,K,mR,U⟩:=h;rcases U with⟨rfl,rfl⟩|⟨g,aa,Z,rfl,_⟩
 ·obtain rfl:l= []:=zo (by omega);obtain rfl:n=0:=by simpa using B
  clear s;have J:=run_copy_none (P:=prog) w 31 31 3 5 none none 0 0 0 0 zr pf (by simp);go_enter func66,Yd
  go_wp2;go_ret;exact⟨_,rfl,bL.nil _ _ _,mP.refl _ _⟩
 obtain⟨W,y,M,O,D,G,C⟩:=s.WS B;have c:=za M;have b:=za O;clear M O;obtain⟨len,d⟩:∃len,l.length=len:=⟨_,rfl⟩
 have HL:=za d;rw[d]at s K B R c b⊢;obtain⟨k,z⟩:∃k,len-n=k:=⟨_,rfl⟩
 rw[z]at c b;have X:(len:Int)-n=k:=by omega
 have o:(cb (l.drop n)).length=k:=by rw[bs,zR,d,z]
 by_cases Y:n=cap
 ·obtain rfl:k=0:=by omega
  obtain rfl:len=cap:=by omega
  subst Y;have N:cb (l.drop n)= []:=zo o;rw[N]at y;obtain rfl:w=W:=y;have J:=run_copy_none (P:=prog) w 31 31 3 5 (some ⟨g,0,none⟩) (some ⟨g,0,none⟩) n n 0 0 zr pf (by simp);clear D G C N o s;rename_i right
  clear right K B z X;have m:=za d;clear d;by_cases S:4096<n
  ·have F:((4096:Int)<n):=by omega
   have u:=za (EZ base g 0 n (l.drop n) w (by rw[zR,m.out];omega) c.out (by rw[zR,m.out];omega));go_enter func66,Yd
   go_wp2_with fail
   refine u.out.mono ?_;rintro e H ⟨⟨i,rfl,j,x⟩,p⟩;have I:Hid (mP w H (.slice (some ⟨g,0,none⟩) n n) i):=za ⟨b.out.grown.andThen (dx p) (by simp),.inr (by obtain⟨r,q⟩:=x;exact⟨r,q,(j.ge r q).1⟩)⟩;have E:=za (j.mono L);clear j p u c b x;go_wp2;go_ret;exact⟨_,rfl,E.out,I.out⟩
  have F:¬((4096:Int)<n):=by omega
  go_enter func66,Yd
  go_wp2;go_ret;exact⟨_,rfl,c.out,b.out⟩
 have J:=run_copy_cells (P:=prog) w 31 31 3 5 g 0 len cap ⟨g,n,none⟩ k (cap-n) (cb (l.drop n)) zr pf (by rw[o];show k=min k len;omega) D G C (ve _);rw[o,y]at J;rename_i right
 clear right D G C y s o;have m:=za d;clear d;by_cases S:4*k+4096<cap
 ·have F:(4*(k:Int)+4096<cap):=by omega
  have u:=za (EZ base g k cap (l.drop n) W (by rw[zR,m.out,z]) c.out (by rw[zR,m.out];omega));go_enter func66,Yd
  go_wp2_with fail
  refine u.out.mono ?_;rintro e H ⟨⟨i,rfl,j,x⟩,p⟩;have I:Hid (mP w H (.slice (some ⟨g,0,none⟩) len cap) i):=za ⟨b.out.grown.andThen (dx p) (by simp),.inr (by obtain⟨r,q⟩:=x;exact⟨r,q,by have:=(j.ge r q).1;have:=b.out.size;omega⟩)⟩;have E:=za (j.mono (zF L b.out.size));clear j p u c b x;go_wp2;go_ret;exact⟨_,rfl,E.out,I.out⟩
 have F:¬(4*(k:Int)+4096<cap):=by omega
 go_enter func66,Yd
 go_wp2;go_ret;exact⟨_,rfl,c.out,b.out⟩
theorem Jn (c:aN)(s:ByteArray)(w:World)(q:c.right=true)(H:s.size<=1099511627776):
 Calls prog 65 #[c.val,.string s] w fun e w'=>e= .returned (.int .i64 (gS c s:Nat))/\Below w.heap.size w w':=by
 have r:=(c.bW).1 q;obtain⟨i,l,b,m,o,it⟩:=c;simp only at r;obtain⟨D,E,z,B,_⟩:=r;clear q;unfold aN.val;by_cases j:i=1
 ·subst j;clear D E z B;by_cases x:s.size<24
  ·have d:Hid (gS ⟨1,l,b,m,o,it⟩ s=0):=za (by unfold gS;rw[zi rfl,zi x]);go_enter func65,ntmps65
   go_wp2;go_ret;exact⟨by rw[d.out];rfl,bQ⟩
  have hz:(s.extract 16 20).size=4:=by rw[aj _ _ _ (by omega)]
  have d:Hid (gS ⟨1,l,b,m,o,it⟩ s=24+cZ (s.extract 16 20).data.toList):=za (by unfold gS;rw[zi rfl,zh x]);have A:=za (fun V=>ff (s.extract 16 20) V (by omega) (by omega));have J:=ui (s.extract 16 20) hz;generalize cZ (s.extract 16 20).data.toList=N at*;have M:IntKind.i64.wrap (N:Int)=N:=zZ _ (by omega);clear hz;go_enter func65,ntmps65
  go_wp2_with fail
  refine(A.out _).mono ?_;rintro e w' ⟨rfl,rfl⟩;go_wp2;go_ret;exact⟨by rw[d.out];exact lU (by omega),bQ⟩
 have y:=za (fun V=>s8 b s V (by omega) (by omega) (by omega));have p:=oh b s;by_cases h:(ar b s).2.2=0
 ·obtain⟨G,L,I,F⟩:=p h;have d:Hid (gS ⟨i,l,b,m,o,it⟩ s=(ar b s).2.1+(ar b s).1):=za (by unfold gS;rw[zh j,zh (by simp[h])]);generalize ar b s=X at*;obtain⟨n,k,u⟩:=X;simp only at*;subst h;clear p;have C:(i !=1)=true:=yL.2 j;go_enter func65,ntmps65
  go_wp2_with fail
  refine(y.out _).mono ?_;rintro e w' ⟨rfl,rfl⟩;go_wp2;go_ret;exact⟨by rw[d.out];exact lU (by omega),bQ⟩
 have d:Hid (gS ⟨i,l,b,m,o,it⟩ s=0):=za (by unfold gS;rw[zh j,zi h]);generalize ar b s=X at*;obtain⟨n,k,u⟩:=X;simp only at*;clear p;have C:(i !=1)=true:=yL.2 j;have K:(u !=0)=true:=yL.2 h;go_enter func65,ntmps65
 go_wp2_with fail
 refine(y.out _).mono ?_;rintro e w' ⟨rfl,rfl⟩;go_wp2;go_ret;exact⟨by rw[d.out];rfl,bQ⟩
def nR (e:bC):Bool:=decide (100<e.name.size)||decide (500<e.ty.size)
def mf (l:List bC):Bool:=decide (40<l.length)||l.any nR
theorem Cw {l:List bC}(h:mf l=false)(hid:∀e∈l,e.id<18446744073709551616):l.length<=40/\∀e∈l,oV e:=by
 simp only[mf,Bool.or_eq_false_iff,xH,Z5]at h;refine⟨by omega,fun e b=> ?_⟩;have:=h.2 e b;simp only[nR,Bool.or_eq_true,zY,not_or]at this;exact⟨hid e b,by omega,by omega⟩
theorem NF (l:List bC)(v:Value)(B:Nat)(w:World)(r:po w B v l):
 Calls prog 29 #[v] w fun e w'=>e= .returned (.bool (mf l))/\w'=w:=by
 obtain⟨A,n,cap,rfl,m,W,X⟩:=r.bT;have N:=za r;clear r;by_cases C:40<n
 ·have J:(40:Int)<n:=by omega
  have d:Hid (mf l=true):=za (by unfold mf;rw[<-m.out];simp[C]);rw[d.out];go_enter func29,ntmps29
  go_wp2;go_ret;exact⟨rfl,rfl⟩
 have J:¬(40:Int)<n:=by omega
 have d:Hid (mf l=l.any nR):=za (by unfold mf;rw[<-m.out];simp[C]);rw[d.out];obtain⟨R,p⟩:∃R,l.any nR=R:=⟨_,rfl⟩
 rw[p];have u:=za p;clear p d;go_enter func29,ntmps29
 go_wp2;go_loopw [3] (fun i wr=>∃k:Nat,i= .int .i64 k/\k<=n/\Hid (∀j (b:j<l.length),j<k->nR l[j]=false)/\wr=w) (fun i _=>n-(intOf i).toNat)
 case atStart=>exact⟨0,rfl,by omega,za (by omega),rfl⟩
 case round=>
  obtain⟨k,rfl,Z,E,rfl⟩:=hrel;by_cases M:k<n
  ·have D:k<l.length:=by rw[<-m.out];exact M
   obtain⟨g,o,rfl,Y,K,I,S⟩:=N.out.at_ D;have x:Hid (nR l[k]=false->∀j (b:j<l.length),j<k+1->nR l[j]=false):=za (fun s j b SV=>by
    by_cases h:j=k
    ·subst h;exact s
    exact E.out j b (by omega))
   have q:Hid (nR l[k]=true->R=true):=za (fun s=>by rw[<-u.out];exact ZD.2 ⟨_,zN D,s⟩);obtain⟨y,z⟩:∃y,l[k]=y:=⟨_,rfl⟩
   rw[z]at K I S x q;clear z;by_cases G:100<y.name.size
   ·have O:(100:Int)<(y.name.size:Int):=by omega
    have c:=za (q.out (by simp[nR,G]));go_wp2;go_ret;exact⟨by rw[c.out];rfl,rfl⟩
   have O:¬(100:Int)<(y.name.size:Int):=by omega
   by_cases F:500<y.ty.size
   ·have L:(500:Int)<(y.ty.size:Int):=by omega
    have c:=za (q.out (by simp[nR,F]));go_wp2;go_ret;exact⟨by rw[c.out];rfl,rfl⟩
   have L:¬(500:Int)<(y.ty.size:Int):=by omega
   have U:=za (x.out (by simp[nR,G,F]));go_wp2;go_roundw
   case rel=>exact⟨k+1,by go_num,by omega,U,trivial⟩
   case measure=>simp[intOf];omega
  have c:Hid (R=false):=za (by
   rw[<-u.out,Z5];intro e H;obtain⟨j,b,rfl⟩:=yW H;rw[E.out j b (by rw[<-m.out]at b;omega)];simp)
  go_wp2;go_ret;exact⟨by rw[c.out];rfl,rfl⟩
