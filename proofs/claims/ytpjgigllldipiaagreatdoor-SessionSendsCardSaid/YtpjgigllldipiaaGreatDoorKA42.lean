/- session.drop, session.needed. -/
import Derived.Test.YtpjgigllldipiaaGreatDoorKA8
import Derived.Test.YtpjgigllldipiaaGreatDoorKA11
import Derived.Test.YtpjgigllldipiaaGreatDoorKA26
set_option linter.all false
set_option maxRecDepth 100000
set_option maxHeartbeats 1600000
namespace Go.Proofs.YtpjgigllldipiaaGreatDoor
open Go.RowKit
def Yq:=@Tryz.ntmps52
theorem FO (base:Nat)(v:Value)(l:List UInt8)(n:Nat)(w:World)(h:bJ w base 5 v l)(M:base<=w.heap.size)(B:n<=l.length)(X:l.length<=1000000):
 Calls Tryz.prog 52 #[v,.int .i64 n] w fun e w'=>∃j,e= .returned j/\bJ w' base 5 j (l.drop n)/\l8 w w' v j:=by
 have s:=h;obtain⟨A,cap,rfl,N,lM,S⟩:=h;rcases S with⟨rfl,rfl⟩|⟨g,Z,fr,rfl,_⟩
 ·obtain rfl:l= []:=zt (by omega);obtain rfl:n=0:=by simpa using B
  clear s;have E:=run_copy_none (P:=Tryz.prog) w 31 31 3 5 none none 0 0 0 0 zx oE (by simp);go_enter Tryz.func52,Yq
  go_wp2;go_ret;exact⟨_,rfl,bJ.nil _ _ _,l8.refl _ _⟩
 obtain⟨W,y,L,O,G,I,D⟩:=s.V9 B;have c:=za L;have b:=za O;clear L O;obtain⟨len,d⟩:∃len,l.length=len:=⟨_,rfl⟩
 have HL:=za d;rw[d]at s N B X c b⊢;obtain⟨k,z⟩:∃k,len-n=k:=⟨_,rfl⟩
 rw[z]at c b;have U:(len:Int)-n=k:=by omega
 have o:(cb (l.drop n)).length=k:=by rw[bq,zZ,d,z]
 by_cases R:n=cap
 ·obtain rfl:k=0:=by omega
  obtain rfl:len=cap:=by omega
  subst R;have K:cb (l.drop n)= []:=zt o;rw[K]at y;obtain rfl:w=W:=y;have E:=run_copy_none (P:=Tryz.prog) w 31 31 3 5 (some ⟨g,0,none⟩) (some ⟨g,0,none⟩) n n 0 0 zx oE (by simp);clear G I D K o s;rename_i right
  clear right N B z U;have q:=za d;clear d;by_cases Y:4096<n
  ·have C:((4096:Int)<n):=by omega
   have p:=za (Ex base g 0 n (l.drop n) w (by rw[zZ,q.out];omega) c.out (by rw[zZ,q.out];omega));go_enter Tryz.func52,Yq
   go_wp2_with fail
   refine p.out.mono ?_;rintro e H ⟨⟨j,rfl,i,x⟩,m⟩;have F:Hid (l8 w H (.slice (some ⟨g,0,none⟩) n n) j):=za ⟨b.out.grown.andThen (du m) (by simp),.inr (by obtain⟨r,u⟩:=x;exact⟨r,u,(i.ge r u).1⟩)⟩;have J:=za (i.mono M);clear i m p c b x;go_wp2;go_ret;exact⟨_,rfl,J.out,F.out⟩
  have C:¬((4096:Int)<n):=by omega
  go_enter Tryz.func52,Yq
  go_wp2;go_ret;exact⟨_,rfl,c.out,b.out⟩
 have E:=run_copy_cells (P:=Tryz.prog) w 31 31 3 5 g 0 len cap ⟨g,n,none⟩ k (cap-n) (cb (l.drop n)) zx oE (by rw[o];show k=min k len;omega) G I D (uw _);rw[o,y]at E;rename_i right
 clear right G I D y s o;have q:=za d;clear d;by_cases Y:4*k+4096<cap
 ·have C:(4*(k:Int)+4096<cap):=by omega
  have p:=za (Ex base g k cap (l.drop n) W (by rw[zZ,q.out,z]) c.out (by rw[zZ,q.out];omega));go_enter Tryz.func52,Yq
  go_wp2_with fail
  refine p.out.mono ?_;rintro e H ⟨⟨j,rfl,i,x⟩,m⟩;have F:Hid (l8 w H (.slice (some ⟨g,0,none⟩) len cap) j):=za ⟨b.out.grown.andThen (du m) (by simp),.inr (by obtain⟨r,u⟩:=x;exact⟨r,u,by have:=(i.ge r u).1;have:=b.out.size;omega⟩)⟩;have J:=za (i.mono (zP M b.out.size));clear i m p c b x;go_wp2;go_ret;exact⟨_,rfl,J.out,F.out⟩
 have C:¬(4*(k:Int)+4096<cap):=by omega
 go_enter Tryz.func52,Yq
 go_wp2;go_ret;exact⟨_,rfl,c.out,b.out⟩
theorem I0 (c:aS)(s:ByteArray)(w:World)(y:c.right=true)(G:s.size<=1099511627776):
 Calls Tryz.prog 51 #[c.val,.string s] w fun e w'=>e= .returned (.int .i64 (gF c s:Nat))/\Below w.heap.size w w':=by
 have u:=(c.cT).1 y;obtain⟨h,m,b,l,o,it⟩:=c;simp only at u;obtain⟨C,E,A,z,_⟩:=u;clear y;unfold aS.val;by_cases i:h=1
 ·subst i;clear C E A z;by_cases x:s.size<24
  ·have d:Hid (gF ⟨1,m,b,l,o,it⟩ s=0):=za (by unfold gF;rw[zl rfl,zl x]);go_enter Tryz.func51,Tryz.ntmps51
   go_wp2;go_ret;exact⟨by rw[d.out];rfl,bM⟩
  have hz:(s.extract 16 20).size=4:=by rw[an _ _ _ (by omega)]
  have d:Hid (gF ⟨1,m,b,l,o,it⟩ s=24+cZ (s.extract 16 20).data.toList):=za (by unfold gF;rw[zl rfl,zj x]);have B:=za (fun V=>eV (s.extract 16 20) V (by omega) (by omega));have M:=tG (s.extract 16 20) hz;generalize cZ (s.extract 16 20).data.toList=N at*;have I:IntKind.i64.wrap (N:Int)=N:=yg _ (by omega);clear hz;go_enter Tryz.func51,Tryz.ntmps51
  go_wp2_with fail
  refine(B.out _).mono ?_;rintro e w' ⟨rfl,rfl⟩;go_wp2;go_ret;exact⟨by rw[d.out];exact lq (by omega),bM⟩
 have q:=za (fun V=>sG b s V (by omega) (by omega) (by omega));have p:=qW b s;by_cases j:(au b s).2.2=0
 ·obtain⟨H,K,L,F⟩:=p j;have d:Hid (gF ⟨h,m,b,l,o,it⟩ s=(au b s).2.1+(au b s).1):=za (by unfold gF;rw[zj i,zj (by simp[j])]);generalize au b s=X at*;obtain⟨n,k,r⟩:=X;simp only at*;subst j;clear p;have D:(h !=1)=true:=yP.2 i;go_enter Tryz.func51,Tryz.ntmps51
  go_wp2_with fail
  refine(q.out _).mono ?_;rintro e w' ⟨rfl,rfl⟩;go_wp2;go_ret;exact⟨by rw[d.out];exact lq (by omega),bM⟩
 have d:Hid (gF ⟨h,m,b,l,o,it⟩ s=0):=za (by unfold gF;rw[zj i,zl j]);generalize au b s=X at*;obtain⟨n,k,r⟩:=X;simp only at*;clear p;have D:(h !=1)=true:=yP.2 i;have J:(r !=0)=true:=yP.2 j;go_enter Tryz.func51,Tryz.ntmps51
 go_wp2_with fail
 refine(q.out _).mono ?_;rintro e w' ⟨rfl,rfl⟩;go_wp2;go_ret;exact⟨by rw[d.out];rfl,bM⟩
def ng (e:bF):Bool:=decide (100<e.name.size)||decide (500<e.ty.size)
def nh (l:List bF):Bool:=decide (40<l.length)||l.any ng
theorem M5 {l:List bF}(h:nh l=false)(hid:∀e∈l,e.id<18446744073709551616):l.length<=40/\∀e∈l,pV e:=by
 simp only[nh,ZO,xa,Yg]at h;refine⟨by omega,fun e b=> ?_⟩;have:=h.2 e b;simp only[ng,Bool.or_eq_true,yk,not_or]at this;exact⟨hid e b,by omega,by omega⟩
theorem M6 (l:List bF)(v:Value)(B:Nat)(w:World)(q:rq w B v l):
 Calls Tryz.prog 6 #[v] w fun e w'=>e= .returned (.bool (nh l))/\w'=w:=by
 obtain⟨A,n,cap,rfl,d,Z,W⟩:=q.df;have M:=za q;clear q;by_cases C:40<n
 ·have H:(40:Int)<n:=by omega
  have m:Hid (nh l=true):=za (by unfold nh;rw[<-d.out];simp[C]);rw[m.out];go_enter Tryz.func6,Tryz.ntmps6
  go_wp2;go_ret;exact⟨rfl,rfl⟩
 have H:¬(40:Int)<n:=by omega
 have m:Hid (nh l=l.any ng):=za (by unfold nh;rw[<-d.out];simp[C]);rw[m.out];obtain⟨R,r⟩:∃R,l.any ng=R:=⟨_,rfl⟩
 rw[r];have u:=za r;clear r m;go_enter Tryz.func6,Tryz.ntmps6
 go_wp2;go_loopw [3] (fun i wr=>∃k:Nat,i= .int .i64 k/\k<=n/\Hid (∀j (b:j<l.length),j<k->ng l[j]=false)/\wr=w) (fun i _=>n-(intOf i).toNat)
 case atStart=>exact⟨0,rfl,by omega,za (by omega),rfl⟩
 case round=>
  obtain⟨k,rfl,X,z,rfl⟩:=hrel;by_cases U:k<n
  ·have x:k<l.length:=by rw[<-d.out];exact U
   obtain⟨g,o,rfl,Y,I,L,O⟩:=M.out.at_ x;have D:Hid (ng l[k]=false->∀j (b:j<l.length),j<k+1->ng l[j]=false):=za (fun s j b Sf=>by
    by_cases h:j=k
    ·subst h;exact s
    exact z.out j b (by omega))
   have p:Hid (ng l[k]=true->R=true):=za (fun s=>by rw[<-u.out];exact ZJ.2 ⟨_,zM x,s⟩);obtain⟨y,G⟩:∃y,l[k]=y:=⟨_,rfl⟩
   rw[G]at I L O D p;clear G;by_cases E:100<y.name.size
   ·have K:(100:Int)<(y.name.size:Int):=by omega
    have c:=za (p.out (by simp[ng,E]));go_wp2;go_ret;exact⟨by rw[c.out];rfl,rfl⟩
   have K:¬(100:Int)<(y.name.size:Int):=by omega
   by_cases F:500<y.ty.size
   ·have S:(500:Int)<(y.ty.size:Int):=by omega
    have c:=za (p.out (by simp[ng,F]));go_wp2;go_ret;exact⟨by rw[c.out];rfl,rfl⟩
   have S:¬(500:Int)<(y.ty.size:Int):=by omega
   have J:=za (D.out (by simp[ng,E,F]));go_wp2;go_roundw
   case rel=>exact⟨k+1,by go_num,by omega,J,trivial⟩
   case measure=>simp[intOf];omega
  have c:Hid (R=false):=za (by
   rw[<-u.out,Yg];intro e N;obtain⟨j,b,rfl⟩:=xg N;rw[z.out j b (by rw[<-d.out]at b;omega)];simp)
  go_wp2;go_ret;exact⟨by rw[c.out];rfl,rfl⟩
