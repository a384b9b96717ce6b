/- session.drop, session.needed. -/
import Derived.Test.YtimoclkoflamkaaGreatDoorKA9
import Derived.Test.YtimoclkoflamkaaGreatDoorKA21
set_option linter.all false
set_option maxRecDepth 100000
set_option maxHeartbeats 1600000
open Go.Proofs.Tryz
namespace Go.Proofs.YtimoclkoflamkaaGreatDoor
open Go.RowKit
def Ym:=@List.mem_cons_of_mem
def Yu:=@ntmps74
theorem Ho (base:Nat)(v:Value)(l:List UInt8)(n:Nat)(w:World)(h:bR w base 5 v l)(K:base<=w.heap.size)(y:n<=l.length)(S:l.length<=100000000):
 Calls prog 74 #[v,n] w fun e w'=>∃i,e= .returned i/\bR w' base 5 i (l.drop n)/\lP w w' v i:=by
 have s:=h;obtain⟨A,cap,rfl,L,jf,R⟩:=h;rcases R with⟨rfl,rfl⟩|⟨g,Z,fr,rfl,_⟩
 ·obtain rfl:l= []:=zk (by omega);obtain rfl:n=0:=by simpa using y
  clear s;have J:=run_copy_none (P:=prog) w 75 75 3 5 none none 0 0 0 0 zm pH (by simp);go_enter func74,Yu
  go_wp2;go_ret;exact⟨_,rfl,bR.nil _ _ _,lP.refl _ _⟩
 obtain⟨W,B,M,O,F,D,G⟩:=s.aac y;have c:=za M;have b:=za O;clear M O;obtain⟨len,j⟩:∃len,l.length=len:=⟨_,rfl⟩
 have HL:=za j;rw[j]at s L y S c b⊢;obtain⟨k,z⟩:∃k,len-n=k:=⟨_,rfl⟩
 rw[z]at c b;have X:(len:Int)-n=k:=by omega
 have r:(cb (l.drop n)).length=k:=by rw[aO,zN,j,z]
 by_cases Y:n=cap
 ·obtain rfl:k=0:=by omega
  obtain rfl:len=cap:=by omega
  subst Y;have N:cb (l.drop n)= []:=zk r;rw[N]at B;obtain rfl:w=W:=B;have J:=run_copy_none (P:=prog) w 75 75 3 5 (some (g,0)) (some (g,0)) n n 0 0 zm pH (by simp);clear F D G N r s;rename_i right
  clear right L y z X;have m:=za j;clear j;by_cases U:4096<n
  ·have C:((4096:Int)<n):=by omega
   have u:=za (F0 base g 0 n (l.drop n) w (by rw[zN,m.out];omega) c.out (by rw[zN,m.out];omega));go_enter func74,Yu
   go_wp2_with fail
   refine u.out.mono ?_;rintro e I ⟨⟨i,rfl,d,o⟩,x⟩;have E:Hid (lP w I (.slice (some (g,0)) n n) i):=za ⟨b.out.grown.andThen (cT x) (by simp),.inr (by obtain⟨p,q⟩:=o;exact⟨p,q,(d.ge p q).1⟩)⟩;have H:=za (d.mono K);clear d x u c b o;go_wp2;go_ret;exact⟨_,rfl,H.out,E.out⟩
  have C:¬((4096:Int)<n):=by omega
  go_enter func74,Yu
  go_wp2;go_ret;exact⟨_,rfl,c.out,b.out⟩
 have J:=run_copy_cells (P:=prog) w 75 75 3 5 g 0 len cap (g,n) k (cap-n) (cb (l.drop n)) zm pH (by rw[r];show k=min k len;omega) F D G (vY _);rw[r,B]at J;rename_i right
 clear right F D G B s r;have m:=za j;clear j;by_cases U:4*k+4096<cap
 ·have C:(4*(k:Int)+4096<cap):=by omega
  have u:=za (F0 base g k cap (l.drop n) W (by rw[zN,m.out,z]) c.out (by rw[zN,m.out];omega));go_enter func74,Yu
  go_wp2_with fail
  refine u.out.mono ?_;rintro e I ⟨⟨i,rfl,d,o⟩,x⟩;have E:Hid (lP w I (.slice (some (g,0)) len cap) i):=za ⟨b.out.grown.andThen (cT x) (by simp),.inr (by obtain⟨p,q⟩:=o;exact⟨p,q,by have:=(d.ge p q).1;have:=b.out.size;omega⟩)⟩;have H:=za (d.mono (zz K b.out.size));clear d x u c b o;go_wp2;go_ret;exact⟨_,rfl,H.out,E.out⟩
 have C:¬(4*(k:Int)+4096<cap):=by omega
 go_enter func74,Yu
 go_wp2;go_ret;exact⟨_,rfl,c.out,b.out⟩
theorem KA (c:aF)(s:ByteArray)(w:World)(u:c.right=true)(L:s.size<=1099511627776):
 Calls prog 73 #[c.val,s] w fun e w'=>e= .returned (gR c s:Nat)/\(w,w'):=by
 have r:=(c.ik).1 u;obtain⟨i,l,b,o,m,it⟩:=c;simp only at r;obtain⟨E,z,D,A,_⟩:=r;clear u;unfold aF.val;by_cases h:i=1
 ·subst h;clear E z D A;by_cases y:s.size<24
  ·have d:Hid (gR ⟨1,l,b,o,m,it⟩ s=0):=za (by unfold gR;rw[zg rfl,zg y]);go_enter func73,ntmps73
   go_wp2;go_ret;exact⟨by rw[d.out];rfl,bQ⟩
  have hz:(s.extract 16 20).size=4:=by rw[ar _ _ _ (by omega)]
  have d:Hid (gR ⟨1,l,b,o,m,it⟩ s=24+dg (s.extract 16 20).data.toList):=za (by unfold gR;rw[zg rfl,zf y]);have B:=za (fun V=>fa (s.extract 16 20) V (by omega) (by omega));have G:=vr (s.extract 16 20) hz;generalize dg (s.extract 16 20).data.toList=N at*;have I:IntKind.i64.wrap (N:Int)=N:=zY _ (by omega);clear hz;go_enter func73,ntmps73
  go_wp2_with fail
  refine(B.out _).mono ?_;rintro e w' ⟨rfl,rfl⟩;go_wp2;go_ret;exact⟨by rw[d.out];exact lO (by omega),bQ⟩
 have x:=za (fun V=>tU b s V (by omega) (by omega) (by omega));have p:=sC b s;by_cases j:(aw b s).2.2=0
 ·obtain⟨K,H,J,M⟩:=p j;have d:Hid (gR ⟨i,l,b,o,m,it⟩ s=(aw b s).2.1+(aw b s).1):=za (by unfold gR;rw[zf h,zf (by simp[j])]);generalize aw b s=X at*;obtain⟨n,k,q⟩:=X;simp only at*;subst j;clear p;have C:(i !=1)=true:=yL.2 h;go_enter func73,ntmps73
  go_wp2_with fail
  refine(x.out _).mono ?_;rintro e w' ⟨rfl,rfl⟩;go_wp2;go_ret;exact⟨by rw[d.out];exact lO (by omega),bQ⟩
 have d:Hid (gR ⟨i,l,b,o,m,it⟩ s=0):=za (by unfold gR;rw[zf h,zg j]);generalize aw b s=X at*;obtain⟨n,k,q⟩:=X;simp only at*;clear p;have C:(i !=1)=true:=yL.2 h;have F:(q !=0)=true:=yL.2 j;go_enter func73,ntmps73
 go_wp2_with fail
 refine(x.out _).mono ?_;rintro e w' ⟨rfl,rfl⟩;go_wp2;go_ret;exact⟨by rw[d.out];rfl,bQ⟩
def KB (w:World)(L:gT)(V:Nat->Value)(Fr:Nat->Prop)(c:aF)(l:List aV)(D:dJ)(j:Nat)(s:ByteArray)(e:Ending)(w':World):Prop:=
 ∃V',e= .returned (.int .i64 (if L.room<(D.way j).size+s.size then 5 else 0))/\gp w' L V' Fr c l (if L.room<(D.way j).size+s.size then D else{D with way:=gj D.way j (D.way j++s)})/\ku w w' L V V' []
theorem V5 (L:gT)(V:Nat->Value)(Fr:Nat->Prop)(c:aF)(l:List aV)(D:dJ)(j:Nat)(o:j<2)(s:ByteArray)(w:World)(h:gp w L V Fr c l D)(hb:(D.way j).size<=1048576)(hs:s.size<=1000000000):
 Calls prog 32 #[(L.p,0),(L.p,j*3),s] w (KB w L V Fr c l D j s):=by
 obtain⟨⟨q0,C,q2,q6⟩,f0,f1,f2⟩:=cB h.blk o;have uw:=L.rl;have p:=h.way j o;obtain⟨A,n,cap,B,hn,PC,jf⟩:=p.bK;have G:=hn.out;rw[aa]at G;rw[B]at C p;have Y:=za h;have R:=za B;have HW:=za p;unfold KB;obtain⟨ag,J⟩:=exh (if L.room<(D.way j).size+s.size then(5:Int)else 0);obtain⟨D',I⟩:=exh (if L.room<(D.way j).size+s.size then D else{D with way:=gj D.way j (D.way j++s)});rw[J.out,I.out];by_cases m:L.room<(D.way j).size+s.size
 ·have d:decide ((L.room:Int)-n<s.size)=true:=zD (by omega);have q:=za m;clear p B h G m;go_enter func32,ntmps32
  go_wp2_with fail
  go_quiet (fail)
  go_wp2;go_ret;exact⟨V,by rw[<-J.out,zg q.out];rfl,by rw[<-I.out,zg q.out];exact Y.out.below (Below.bI (zi _ _) _),ku.below (Below.bI (zi _ _) _)⟩
 have d:decide ((L.room:Int)-n<s.size)=false:=zt (by omega);have q:=za m;have HL:Hid ((D.way j).data.toList.length+s.data.toList.length<=140737488355328):=za (by rw[aa,aa];omega);obtain⟨i0,ad,dB,ab,cC⟩:=yv pG;clear p B h G m;go_enter func32,ntmps32
 go_wp2_with fail
 go_quiet (fail)
 obtain⟨E,K⟩:=dY (w.drewN nq);have H:Hid (w,E):=za (by rw[<-K];exact Below.bI (zi _ _) nq);rw[K];clear q0 C q2 q6 f0 f1 f2 K;have y:=za (Y.out.below H.out);have U:=za (HW.out.ah fun k b _=>H.out.block k b);obtain⟨⟨q0,C,q2,q6⟩,f0,f1,f2⟩:=cB y.out.blk o;rw[R.out]at C;have Cd:=y.out.low;go_wp2_with (
  at_builtin
  refine qM (by rfl) (.tmp 24) (.tmp 25) 75 9 (by rfl) L.base 5 i0 zm ad dB ab cC (by rfl) U.out _ s.data.toList (by rfl) (iE zH E s) Cd HL.out ?_;intro r x u S X F;have O:Hid (af S L.p 80 (ib L V)):=za (af.Ur y.out.blk F (U.out.cw y.out.blk (by decide)));obtain⟨⟨_,p1,_,_⟩,_,g1,_⟩:=cB O.out o;have vc:=za X;have Z:=za F;clear X F)
 obtain⟨w3,z⟩:=dY (S.setCell (L.p,j*3+1) (.slice r x u));have N:ae [L.p] S w3:=by rw[<-z];exact(ae.refl _ _).setCell (.inl (by simp)) _
 have fT:Hid (af w3 L.p 80 (ib L (gj V (2+j) (.slice r x u)))):=za (by rw[<-z];exact gp.GK O.out o _);have M:∀k,(Value.slice r x u).ownBlock=some k->(V (2+j)).ownBlock=some k\/E.heap.size<=k:=fun k e=>by
  rw[R.out];rcases Z.out.own with h|⟨i,h,hi⟩
  ·exact .inl (by rw[<-h];exact e)
  rw[h]at e;injection e with e;exact .inr (by omega)
 have m:ae (L.p::(V (2+j)).ownBlock.toList) E w3:=by
  rw[R.out];exact(Z.out.only.mono fun k b=>Ym _ b).trans' N (by simp)
 have lG:=za (y.out.RM m j o (.slice r x u) (D.way j++s) (fun k b=>by rcases yj.1 b with e|e;exact .inl (by omega);exact .inr (.inr (aM.1 e))) M fT.out (by
  rw[aX];exact vc.out.ah fun k b e=>N.block k b fun W=>by
   simp only[yE]at W;subst W;exact vc.out.cw O.out (by decide) e))
 have ql:=za ((ku.below H.out).trans (ku.one m (2+j) (by omega) (.slice r x u) (fun k b=>by rcases yj.1 b with e|e;exact .inl e;exact .inr (.inr (.inr (aM.1 e)))) M) (by simp):ku w w3 L V _ []);rw[z];clear z N M m p1 g1;go_wp2;go_ret;exact⟨_,by rw[<-J.out,zf q.out];rfl,by rw[<-I.out,zf q.out];exact lG.out,ql.out⟩
def nU (e:aV):Bool:=decide (100<e.name.size)||decide (500<e.ty.size)
def kI (l:List aV):Bool:=decide (40<l.length)||l.any nU
theorem sY {l:List aV}(h:kI l=false)(hid:∀e∈l,e.id<18446744073709551616):l.length<=40/\∀e∈l,mr e:=by
 simp only[kI,Zd,yM,xW]at h;refine⟨by omega,fun e b=> ?_⟩;have:=h.2 e b;simp only[nU,ZY,zU,not_or]at this;exact⟨hid e b,by omega,by omega⟩
theorem De (l:List aV)(v:Value)(B:Nat)(w:World)(p:oA w B v l):
 Calls prog 7 #[v] w fun e w'=>e= .returned (.bool (kI l))/\w'=w:=by
 obtain⟨A,n,cap,rfl,d,W,Y⟩:=p.bK;have S:=za p;clear p;by_cases C:40<n
 ·have M:(40:Int)<n:=by omega
  have m:Hid (kI l=true):=za (by unfold kI;rw[<-d.out];simp[C]);rw[m.out];go_enter func7,ntmps7
  go_wp2;go_ret;exact⟨rfl,rfl⟩
 have M:¬(40:Int)<n:=by omega
 have m:Hid (kI l=l.any nU):=za (by unfold kI;rw[<-d.out];simp[C]);rw[m.out];obtain⟨R,r⟩:∃R,l.any nU=R:=⟨_,rfl⟩
 rw[r];have z:=za r;clear r m;go_enter func7,ntmps7
 go_wp2;go_loopw [3] (fun i wr=>∃k:Nat,i= .int .i64 k/\k<=n/\Hid (∀j (b:j<l.length),j<k->nU l[j]=false)/\wr=w) (fun i _=>n-(intOf i).toNat)
 case atStart=>exact⟨0,rfl,by omega,za (by omega),rfl⟩
 case round=>
  obtain⟨k,rfl,X,x,rfl⟩:=hrel;by_cases I:k<n
  ·have E:k<l.length:=by rw[<-d.out];exact I
   obtain⟨g,o,rfl,hg,K,L,N⟩:=S.out.at_ E;have D:Hid (nU l[k]=false->∀j (b:j<l.length),j<k+1->nU l[j]=false):=za (fun s j b Z=>by
    by_cases h:j=k
    ·subst h;exact s
    exact x.out j b (by omega))
   have q:Hid (nU l[k]=true->R=true):=za (fun s=>by rw[<-z.out];exact Zg.2 ⟨_,zA E,s⟩);obtain⟨y,F⟩:∃y,l[k]=y:=⟨_,rfl⟩
   rw[F]at K L N D q;clear F;by_cases u:100<y.name.size
   ·have H:(100:Int)<(y.name.size:Int):=by omega
    have c:=za (q.out (by simp[nU,u]));go_wp2;go_ret;exact⟨by rw[c.out];rfl,rfl⟩
   have H:¬(100:Int)<(y.name.size:Int):=by omega
   by_cases G:500<y.ty.size
   ·have J:(500:Int)<(y.ty.size:Int):=by omega
    have c:=za (q.out (by simp[nU,G]));go_wp2;go_ret;exact⟨by rw[c.out];rfl,rfl⟩
   have J:¬(500:Int)<(y.ty.size:Int):=by omega
   have U:=za (D.out (by simp[nU,u,G]));go_wp2;go_roundw
   case rel=>exact⟨k+1,by go_num,by omega,U,trivial⟩
   case measure=>simp[intOf];omega
  have c:Hid (R=false):=za (by
   rw[<-z.out,xW];intro e O;obtain⟨j,b,rfl⟩:=yS O;rw[x.out j b (by rw[<-d.out]at b;omega)];simp)
  go_wp2;go_ret;exact⟨by rw[c.out];rfl,rfl⟩
