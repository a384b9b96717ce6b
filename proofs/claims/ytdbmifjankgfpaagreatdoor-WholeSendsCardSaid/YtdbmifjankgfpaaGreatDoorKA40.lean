/- session.drop, session.needed. -/
import Derived.Test.YtdbmifjankgfpaaGreatDoorKA8
import Derived.Test.YtdbmifjankgfpaaGreatDoorKA24
set_option linter.all false
set_option maxRecDepth 100000
set_option maxHeartbeats 1600000
open Go.Proofs.Tryz
namespace Go.Proofs.YtdbmifjankgfpaaGreatDoor
open Go.RowKit
def Yd:=@ntmps66
theorem Gf (base:Nat)(v:Value)(l:List UInt8)(n:Nat)(w:World)(h:bP w base 5 v l)(O:base<=w.heap.size)(y:n<=l.length)(R:l.length<=1000000):
 Calls prog 66 #[v,.int .i64 n] w fun e w'=>∃i,e= .returned i/\bP w' base 5 i (l.drop n)/\mH w w' v i:=by
 have r:=h;obtain⟨A,cap,rfl,L,Z,Y⟩:=h;rcases Y with⟨rfl,rfl⟩|⟨g,aa,fr,rfl,_⟩
 ·obtain rfl:l= []:=zo (by omega);obtain rfl:n=0:=by simpa using y
  clear r;have D:=run_copy_none (P:=prog) w 31 31 3 5 none none 0 0 0 0 zr o8 (by simp);go_enter func66,Yd
  go_wp2;go_ret;exact⟨_,rfl,bP.nil _ _ _,mH.refl _ _⟩
 obtain⟨W,B,K,N,J,C,I⟩:=r.WS y;have c:=za K;have b:=za N;clear K N;obtain⟨len,j⟩:∃len,l.length=len:=⟨_,rfl⟩
 have HL:=za j;rw[j]at r L y R c b⊢;obtain⟨k,z⟩:∃k,len-n=k:=⟨_,rfl⟩
 rw[z]at c b;have U:(len:Int)-n=k:=by omega
 have u:(cb (l.drop n)).length=k:=by rw[bs,zS,j,z]
 by_cases S:n=cap
 ·obtain rfl:k=0:=by omega
  obtain rfl:len=cap:=by omega
  subst S;have M:cb (l.drop n)= []:=zo u;rw[M]at B;obtain rfl:w=W:=B;have D:=run_copy_none (P:=prog) w 31 31 3 5 (some ⟨g,0,none⟩) (some ⟨g,0,none⟩) n n 0 0 zr o8 (by simp);clear J C I M u r;rename_i right
  clear right L y z U;have o:=za j;clear j;by_cases X:4096<n
  ·have F:((4096:Int)<n):=by omega
   have m:=za (EO base g 0 n (l.drop n) w (by rw[zS,o.out];omega) c.out (by rw[zS,o.out];omega));go_enter func66,Yd
   go_wp2_with fail
   refine m.out.mono ?_;rintro e H ⟨⟨i,rfl,d,s⟩,x⟩;have E:Hid (mH w H (.slice (some ⟨g,0,none⟩) n n) i):=za ⟨b.out.grown.andThen (dE x) (by simp),.inr (by obtain⟨p,q⟩:=s;exact⟨p,q,(d.ge p q).1⟩)⟩;have G:=za (d.mono O);clear d x m c b s;go_wp2;go_ret;exact⟨_,rfl,G.out,E.out⟩
  have F:¬((4096:Int)<n):=by omega
  go_enter func66,Yd
  go_wp2;go_ret;exact⟨_,rfl,c.out,b.out⟩
 have D:=run_copy_cells (P:=prog) w 31 31 3 5 g 0 len cap ⟨g,n,none⟩ k (cap-n) (cb (l.drop n)) zr o8 (by rw[u];show k=min k len;omega) J C I (uU _);rw[u,B]at D;rename_i right
 clear right J C I B r u;have o:=za j;clear j;by_cases X:4*k+4096<cap
 ·have F:(4*(k:Int)+4096<cap):=by omega
  have m:=za (EO base g k cap (l.drop n) W (by rw[zS,o.out,z]) c.out (by rw[zS,o.out];omega));go_enter func66,Yd
  go_wp2_with fail
  refine m.out.mono ?_;rintro e H ⟨⟨i,rfl,d,s⟩,x⟩;have E:Hid (mH w H (.slice (some ⟨g,0,none⟩) len cap) i):=za ⟨b.out.grown.andThen (dE x) (by simp),.inr (by obtain⟨p,q⟩:=s;exact⟨p,q,by have:=(d.ge p q).1;have:=b.out.size;omega⟩)⟩;have G:=za (d.mono (zK O b.out.size));clear d x m c b s;go_wp2;go_ret;exact⟨_,rfl,G.out,E.out⟩
 have F:¬(4*(k:Int)+4096<cap):=by omega
 go_enter func66,Yd
 go_wp2;go_ret;exact⟨_,rfl,c.out,b.out⟩
theorem Jx (c:aP)(s:ByteArray)(w:World)(y:c.right=true)(M:s.size<=1099511627776):
 Calls prog 65 #[c.val,.string s] w fun e w'=>e= .returned (.int .i64 (gN c s:Nat))/\Below w.heap.size w w':=by
 have r:=(c.dj).1 y;obtain⟨i,o,b,l,m,it⟩:=c;simp only at r;obtain⟨D,z,B,E,_⟩:=r;clear y;unfold aP.val;by_cases j:i=1
 ·subst j;clear D z B E;by_cases q:s.size<24
  ·have d:Hid (gN ⟨1,o,b,l,m,it⟩ s=0):=za (by unfold gN;rw[zi rfl,zi q]);go_enter func65,ntmps65
   go_wp2;go_ret;exact⟨by rw[d.out];rfl,bD⟩
  have hz:(s.extract 16 20).size=4:=by rw[aq _ _ _ (by omega)]
  have d:Hid (gN ⟨1,o,b,l,m,it⟩ s=24+du (s.extract 16 20).data.toList):=za (by unfold gN;rw[zi rfl,zh q]);have C:=za (fun V=>fg (s.extract 16 20) V (by omega) (by omega));have J:=uf (s.extract 16 20) hz;generalize du (s.extract 16 20).data.toList=N at*;have H:IntKind.i64.wrap (N:Int)=N:=yc _ (by omega);clear hz;go_enter func65,ntmps65
  go_wp2_with fail
  refine(C.out _).mono ?_;rintro e w' ⟨rfl,rfl⟩;go_wp2;go_ret;exact⟨by rw[d.out];exact lN (by omega),bD⟩
 have u:=za (fun V=>sW b s V (by omega) (by omega) (by omega));have p:=rE b s;by_cases h:(au b s).2.2=0
 ·obtain⟨F,I,L,K⟩:=p h;have d:Hid (gN ⟨i,o,b,l,m,it⟩ s=(au b s).2.1+(au b s).1):=za (by unfold gN;rw[zh j,zh (by simp[h])]);generalize au b s=X at*;obtain⟨n,k,x⟩:=X;simp only at*;subst h;clear p;have A:(i !=1)=true:=yO.2 j;go_enter func65,ntmps65
  go_wp2_with fail
  refine(u.out _).mono ?_;rintro e w' ⟨rfl,rfl⟩;go_wp2;go_ret;exact⟨by rw[d.out];exact lN (by omega),bD⟩
 have d:Hid (gN ⟨i,o,b,l,m,it⟩ s=0):=za (by unfold gN;rw[zh j,zi h]);generalize au b s=X at*;obtain⟨n,k,x⟩:=X;simp only at*;clear p;have A:(i !=1)=true:=yO.2 j;have G:(x !=0)=true:=yO.2 h;go_enter func65,ntmps65
 go_wp2_with fail
 refine(u.out _).mono ?_;rintro e w' ⟨rfl,rfl⟩;go_wp2;go_ret;exact⟨by rw[d.out];rfl,bD⟩
def nH (e:bz):Bool:=decide (100<e.name.size)||decide (500<e.ty.size)
def l5 (l:List bz):Bool:=decide (40<l.length)||l.any nH
theorem Ci {l:List bz}(h:l5 l=false)(hid:∀e∈l,e.id<18446744073709551616):l.length<=40/\∀e∈l,nz e:=by
 simp only[l5,ZC,yX,Z0]at h;refine⟨by omega,fun e b=> ?_⟩;have:=h.2 e b;simp only[nH,Bool.or_eq_true,zY,not_or]at this;exact⟨hid e b,by omega,by omega⟩
theorem NV (l:List bz)(v:Value)(B:Nat)(w:World)(s:pe w B v l):
 Calls prog 29 #[v] w fun e w'=>e= .returned (.bool (l5 l))/\w'=w:=by
 obtain⟨A,n,cap,rfl,d,W,Y⟩:=s.cH;have I:=za s;clear s;by_cases F:40<n
 ·have S:(40:Int)<n:=by omega
  have m:Hid (l5 l=true):=za (by unfold l5;rw[<-d.out];simp[F]);rw[m.out];go_enter func29,ntmps29
  go_wp2;go_ret;exact⟨rfl,rfl⟩
 have S:¬(40:Int)<n:=by omega
 have m:Hid (l5 l=l.any nH):=za (by unfold l5;rw[<-d.out];simp[F]);rw[m.out];obtain⟨R,p⟩:∃R,l.any nH=R:=⟨_,rfl⟩
 rw[p];have E:=za p;clear p m;go_enter func29,ntmps29
 go_wp2;go_loopw [3] (fun i wr=>∃k:Nat,i= .int .i64 k/\k<=n/\Hid (∀j (b:j<l.length),j<k->nH l[j]=false)/\wr=w) (fun i _=>n-(intOf i).toNat)
 case atStart=>exact⟨0,rfl,by omega,za (by omega),rfl⟩
 case round=>
  obtain⟨k,rfl,Z,C,rfl⟩:=hrel;by_cases K:k<n
  ·have D:k<l.length:=by rw[<-d.out];exact K
   obtain⟨g,o,rfl,X,H,J,L⟩:=I.out.at_ D;have x:Hid (nH l[k]=false->∀j (b:j<l.length),j<k+1->nH l[j]=false):=za (fun r j b RA=>by
    by_cases h:j=k
    ·subst h;exact r
    exact C.out j b (by omega))
   have q:Hid (nH l[k]=true->R=true):=za (fun r=>by rw[<-E.out];exact Zw.2 ⟨_,zE D,r⟩);obtain⟨y,z⟩:∃y,l[k]=y:=⟨_,rfl⟩
   rw[z]at H J L x q;clear z;by_cases G:100<y.name.size
   ·have N:(100:Int)<(y.name.size:Int):=by omega
    have c:=za (q.out (by simp[nH,G]));go_wp2;go_ret;exact⟨by rw[c.out];rfl,rfl⟩
   have N:¬(100:Int)<(y.name.size:Int):=by omega
   by_cases u:500<y.ty.size
   ·have M:(500:Int)<(y.ty.size:Int):=by omega
    have c:=za (q.out (by simp[nH,u]));go_wp2;go_ret;exact⟨by rw[c.out];rfl,rfl⟩
   have M:¬(500:Int)<(y.ty.size:Int):=by omega
   have U:=za (x.out (by simp[nH,G,u]));go_wp2;go_roundw
   case rel=>exact⟨k+1,by go_num,by omega,U,trivial⟩
   case measure=>simp[intOf];omega
  have c:Hid (R=false):=za (by
   rw[<-E.out,Z0];intro e O;obtain⟨j,b,rfl⟩:=yS O;rw[C.out j b (by rw[<-d.out]at b;omega)];simp)
  go_wp2;go_ret;exact⟨by rw[c.out];rfl,rfl⟩
def Jy (l:List bz)(nm:ByteArray):Int:=match l.findIdx? (fun e=>decide (e.name=nm))with|some i=>i|none=> -1
theorem NW (l:List bz)(nm:ByteArray):(Jy l nm= -1/\dw l nm=none)\/∃(i:Nat) (hi:i<l.length),Jy l nm=i/\dw l nm=some l[i]:=by
 unfold Jy dw;cases h:l.findIdx? (fun e=>decide (e.name=nm))with
 |none=>
  refine .inl ⟨rfl, ?_⟩;rw[ZR];exact fun e k=>by simpa using List.findIdx?_eq_none_iff.1 h e k
 |some i=>
  obtain⟨hi,d,b⟩:=List.findIdx?_eq_some_iff_getElem.1 h;refine .inr ⟨i,hi,rfl, ?_⟩;rw[List.find?_eq_some_iff_getElem];exact⟨d,i,hi,rfl,fun j c=>by simpa using b j c⟩
theorem Gg (l:List bz)(v:Value)(nm:ByteArray)(B:Nat)(w:World)(r:pe w B v l):
 Calls prog 12 #[v,.string nm] w fun e w'=>e= .returned (.int .i64 (Jy l nm))/\w'=w:=by
 obtain⟨A,n,cap,rfl,z,K,M⟩:=r.cH;have G:=za r;clear r;obtain⟨R,m⟩:∃R,Jy l nm=R:=⟨_,rfl⟩
 rw[m];have F:=za m;clear m;go_enter func12,ntmps12
 go_wp2;go_loopw [5] (fun i wr=>∃k:Nat,i= .int .i64 k/\k<=n/\Hid (∀j (b:j<l.length),j<k->l[j].name≠nm)/\wr=w) (fun i _=>n-(intOf i).toNat)
 case atStart=>exact⟨0,rfl,by omega,za (by omega),rfl⟩
 case round=>
  obtain⟨k,rfl,N,p,rfl⟩:=hrel;by_cases H:k<n
  ·have E:k<l.length:=by rw[<-z.out];exact H
   obtain⟨g,o,rfl,L,x,C,D⟩:=G.out.at_ E;rcases pW l[k].name nm with⟨d,u,q⟩|⟨d,u,q⟩
   ·have s:Hid (R=k):=za (by
     rw[<-F.out];unfold Jy;have:l.findIdx? (fun e=>decide (e.name=nm))=some k:=by
      rw[List.findIdx?_eq_some_iff_getElem];exact⟨E,by simpa using d,fun j b=>by simpa using p.out j (by omega) b⟩
     rw[this])
    obtain⟨y,c⟩:∃y,l[k]=y:=⟨_,rfl⟩
    rw[c]at x C D u q;clear c d;go_wp2;go_ret;exact⟨by rw[s.out];rfl,rfl⟩
   have I:Hid (∀j (b:j<l.length),j<k+1->l[j].name≠nm):=za (fun j b O=>by
    by_cases h:j=k
    ·subst h;exact d
    exact p.out j b (by omega))
   obtain⟨y,c⟩:∃y,l[k]=y:=⟨_,rfl⟩
   rw[c]at x C D u q;clear c d;go_wp2;go_roundw
   case rel=>exact⟨k+1,by go_num,by omega,I,trivial⟩
   case measure=>simp[intOf];omega
  have s:Hid (R= -1):=za (by
   rw[<-F.out];unfold Jy;have:l.findIdx? (fun e=>decide (e.name=nm))=none:=by
    rw[List.findIdx?_eq_none_iff];intro e J;obtain⟨j,b,rfl⟩:=yS J;simpa using p.out j b (by rw[<-z.out]at b;omega)
   rw[this])
  go_wp2;go_ret;exact⟨by rw[s.out];rfl,rfl⟩
