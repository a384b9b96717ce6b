/- session.drop, session.needed. -/
import Derived.Test.YtpjgigllldipiaaGreatDoorKA8
import Derived.Test.YtpjgigllldipiaaGreatDoorKA11
import Derived.Test.YtpjgigllldipiaaGreatDoorKA26
set_option linter.all false
set_option maxRecDepth 100000
set_option maxHeartbeats 1600000
namespace Go.Proofs.YtpjgigllldipiaaGreatDoor
open Tryz
open Go.RowKit
def Yl:=@Bool.or_eq_true
def Yp:=@ntmps52
theorem FH (base:Nat)(v:Value)(l:List UInt8)(n:Nat)(w:World)(h:bJ w base 5 v l)(N:base<=w.heap.size)(z:n<=l.length)(U:l.length<=1000000):
 Calls prog 52 #[v,.int .i64 n] w fun e w'=>∃d,e= .returned d/\bJ w' base 5 d (l.drop n)/\l6 w w' v d:=by
 have p:=h;obtain⟨A,cap,rfl,O,lI,S⟩:=h;rcases S with⟨rfl,rfl⟩|⟨g,aa,fr,rfl,_⟩
 ·obtain rfl:l= []:=zw (by omega);obtain rfl:n=0:=by simpa using z
  clear p;have H:=run_copy_none (P:=prog) w 31 31 3 5 none none 0 0 0 0 zx oA (by simp);go_enter func52,Yp
  go_wp2;go_ret;exact⟨_,rfl,bJ.nil _ _ _,l6.refl _ _⟩
 obtain⟨W,B,L,K,J,D,G⟩:=p.VL z;have c:=za L;have b:=za K;clear L K;obtain⟨len,j⟩:∃len,l.length=len:=⟨_,rfl⟩
 have Z:=za j;rw[j]at p O z U c b⊢;obtain⟨k,y⟩:∃k,len-n=k:=⟨_,rfl⟩
 rw[y]at c b;have R:(len:Int)-n=k:=by omega
 have o:(cb (l.drop n)).length=k:=by rw[bq,zZ,j,y]
 by_cases X:n=cap
 ·obtain rfl:k=0:=by omega
  obtain rfl:len=cap:=by omega
  subst X;have M:cb (l.drop n)= []:=zw o;rw[M]at B;obtain rfl:w=W:=B;have H:=run_copy_none (P:=prog) w 31 31 3 5 (some ⟨g,0,none⟩) (some ⟨g,0,none⟩) n n 0 0 zx oA (by simp);clear J D G M o p;rename_i right
  clear right O z y R;have m:=za j;clear j;by_cases Y:4096<n
  ·have C:((4096:Int)<n):=by omega
   have u:=za (Ep base g 0 n (l.drop n) w (by rw[zZ,m.out];omega) c.out (by rw[zZ,m.out];omega));go_enter func52,Yp
   go_wp2_with fail
   refine u.out.mono ?_;rintro e F ⟨⟨d,rfl,i,x⟩,q⟩;have I:Hid (l6 w F (.slice (some ⟨g,0,none⟩) n n) d):=za ⟨b.out.grown.andThen (dm q) (by simp),.inr (by obtain⟨s,r⟩:=x;exact⟨s,r,(i.ge s r).1⟩)⟩;have E:=za (i.mono N);clear i q u c b x;go_wp2;go_ret;exact⟨_,rfl,E.out,I.out⟩
  have C:¬((4096:Int)<n):=by omega
  go_enter func52,Yp
  go_wp2;go_ret;exact⟨_,rfl,c.out,b.out⟩
 have H:=run_copy_cells (P:=prog) w 31 31 3 5 g 0 len cap ⟨g,n,none⟩ k (cap-n) (cb (l.drop n)) zx oA (by rw[o];show k=min k len;omega) J D G (uf _);rw[o,B]at H;rename_i right
 clear right J D G B p o;have m:=za j;clear j;by_cases Y:4*k+4096<cap
 ·have C:(4*(k:Int)+4096<cap):=by omega
  have u:=za (Ep base g k cap (l.drop n) W (by rw[zZ,m.out,y]) c.out (by rw[zZ,m.out];omega));go_enter func52,Yp
  go_wp2_with fail
  refine u.out.mono ?_;rintro e F ⟨⟨d,rfl,i,x⟩,q⟩;have I:Hid (l6 w F (.slice (some ⟨g,0,none⟩) len cap) d):=za ⟨b.out.grown.andThen (dm q) (by simp),.inr (by obtain⟨s,r⟩:=x;exact⟨s,r,by have:=(i.ge s r).1;have:=b.out.size;omega⟩)⟩;have E:=za (i.mono (zK N b.out.size));clear i q u c b x;go_wp2;go_ret;exact⟨_,rfl,E.out,I.out⟩
 have C:¬(4*(k:Int)+4096<cap):=by omega
 go_enter func52,Yp
 go_wp2;go_ret;exact⟨_,rfl,c.out,b.out⟩
theorem IJ (c:aR)(s:ByteArray)(w:World)(u:c.right=true)(G:s.size<=1099511627776):
 Calls prog 51 #[c.val,.string s] w fun e w'=>e= .returned (.int .i64 (gB c s:Nat))/\Below w.heap.size w w':=by
 have y:=(c.cQ).1 u;obtain⟨h,m,b,o,l,it⟩:=c;simp only at y;obtain⟨E,D,z,B,_⟩:=y;clear u;unfold aR.val;by_cases j:h=1
 ·subst j;clear E D z B;by_cases r:s.size<24
  ·have d:Hid (gB ⟨1,m,b,o,l,it⟩ s=0):=za (by unfold gB;rw[zl rfl,zl r]);go_enter func51,ntmps51
   go_wp2;go_ret;exact⟨by rw[d.out];rfl,bN⟩
  have hz:(s.extract 16 20).size=4:=by rw[an _ _ _ (by omega)]
  have d:Hid (gB ⟨1,m,b,o,l,it⟩ s=24+cV (s.extract 16 20).data.toList):=za (by unfold gB;rw[zl rfl,zj r]);have A:=za (fun V=>eP (s.extract 16 20) V (by omega) (by omega));have M:=tz (s.extract 16 20) hz;generalize cV (s.extract 16 20).data.toList=N at*;have I:IntKind.i64.wrap (N:Int)=N:=yh _ (by omega);clear hz;go_enter func51,ntmps51
  go_wp2_with fail
  refine(A.out _).mono ?_;rintro e w' ⟨rfl,rfl⟩;go_wp2;go_ret;exact⟨by rw[d.out];exact lh (by omega),bN⟩
 have q:=za (fun V=>sx b s V (by omega) (by omega) (by omega));have p:=qQ b s;by_cases i:(ar b s).2.2=0
 ·obtain⟨K,F,J,L⟩:=p i;have d:Hid (gB ⟨h,m,b,o,l,it⟩ s=(ar b s).2.1+(ar b s).1):=za (by unfold gB;rw[zj j,zj (by simp[i])]);generalize ar b s=X at*;obtain⟨n,k,x⟩:=X;simp only at*;subst i;clear p;have C:(h !=1)=true:=yQ.2 j;go_enter func51,ntmps51
  go_wp2_with fail
  refine(q.out _).mono ?_;rintro e w' ⟨rfl,rfl⟩;go_wp2;go_ret;exact⟨by rw[d.out];exact lh (by omega),bN⟩
 have d:Hid (gB ⟨h,m,b,o,l,it⟩ s=0):=za (by unfold gB;rw[zj j,zl i]);generalize ar b s=X at*;obtain⟨n,k,x⟩:=X;simp only at*;clear p;have C:(h !=1)=true:=yQ.2 j;have H:(x !=0)=true:=yQ.2 i;go_enter func51,ntmps51
 go_wp2_with fail
 refine(q.out _).mono ?_;rintro e w' ⟨rfl,rfl⟩;go_wp2;go_ret;exact⟨by rw[d.out];rfl,bN⟩
def mW (e:bA):Bool:=decide (100<e.name.size)||decide (500<e.ty.size)
def mX (l:List bA):Bool:=decide (40<l.length)||l.any mW
theorem MG {l:List bA}(h:mX l=false)(hid:∀e∈l,e.id<18446744073709551616):l.length<=40/\∀e∈l,pN e:=by
 simp only[mX,Zi,yV,xY]at h;refine⟨by omega,fun e b=> ?_⟩;have:=h.2 e b;simp only[mW,Yl,yj,not_or]at this;exact⟨hid e b,by omega,by omega⟩
theorem MH (l:List bA)(v:Value)(B:Nat)(w:World)(p:rj w B v l):
 Calls prog 6 #[v] w fun e w'=>e= .returned (.bool (mX l))/\w'=w:=by
 obtain⟨A,n,cap,rfl,d,Y,lI⟩:=p.dk;have J:=za p;clear p;by_cases x:40<n
 ·have M:(40:Int)<n:=by omega
  have m:Hid (mX l=true):=za (by unfold mX;rw[<-d.out];simp[x]);rw[m.out];go_enter func6,ntmps6
  go_wp2;go_ret;exact⟨rfl,rfl⟩
 have M:¬(40:Int)<n:=by omega
 have m:Hid (mX l=l.any mW):=za (by unfold mX;rw[<-d.out];simp[x]);rw[m.out];obtain⟨R,s⟩:∃R,l.any mW=R:=⟨_,rfl⟩
 rw[s];have F:=za s;clear s m;go_enter func6,ntmps6
 go_wp2;go_loopw [3] (fun i wr=>∃k:Nat,i= .int .i64 k/\k<=n/\Hid (∀j (b:j<l.length),j<k->mW l[j]=false)/\wr=w) (fun i _=>n-(intOf i).toNat)
 case atStart=>exact⟨0,rfl,by omega,za (by omega),rfl⟩
 case round=>
  obtain⟨k,rfl,Z,z,rfl⟩:=hrel;by_cases U:k<n
  ·have u:k<l.length:=by rw[<-d.out];exact U
   obtain⟨g,o,rfl,W,K,O,H⟩:=J.out.at_ u;have C:Hid (mW l[k]=false->∀j (b:j<l.length),j<k+1->mW l[j]=false):=za (fun r j b X=>by
    by_cases h:j=k
    ·subst h;exact r
    exact z.out j b (by omega))
   have q:Hid (mW l[k]=true->R=true):=za (fun r=>by rw[<-F.out];exact Zk.2 ⟨_,zM u,r⟩);obtain⟨y,E⟩:∃y,l[k]=y:=⟨_,rfl⟩
   rw[E]at K O H C q;clear E;by_cases G:100<y.name.size
   ·have L:(100:Int)<(y.name.size:Int):=by omega
    have c:=za (q.out (by simp[mW,G]));go_wp2;go_ret;exact⟨by rw[c.out];rfl,rfl⟩
   have L:¬(100:Int)<(y.name.size:Int):=by omega
   by_cases D:500<y.ty.size
   ·have I:(500:Int)<(y.ty.size:Int):=by omega
    have c:=za (q.out (by simp[mW,D]));go_wp2;go_ret;exact⟨by rw[c.out];rfl,rfl⟩
   have I:¬(500:Int)<(y.ty.size:Int):=by omega
   have S:=za (C.out (by simp[mW,G,D]));go_wp2;go_roundw
   case rel=>exact⟨k+1,by go_num,by omega,S,trivial⟩
   case measure=>simp[intOf];omega
  have c:Hid (R=false):=za (by
   rw[<-F.out,xY];intro e N;obtain⟨j,b,rfl⟩:=yZ N;rw[z.out j b (by rw[<-d.out]at b;omega)];simp)
  go_wp2;go_ret;exact⟨by rw[c.out];rfl,rfl⟩
