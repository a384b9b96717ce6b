/- session.drop, session.needed. -/
import Derived.Test.YtimoclkoflamkaaGreatDoorKA9
import Derived.Test.YtimoclkoflamkaaGreatDoorKA21
set_option linter.all false
set_option maxRecDepth 100000
set_option maxHeartbeats 1600000
open Go.Proofs.Tryz
namespace Go.Proofs.YtimoclkoflamkaaGreatDoor
open Go.RowKit
def Yi:=@ntmps74
theorem Gb (base:Nat)(v:Value)(l:List UInt8)(n:Nat)(w:World)(h:bP w base 5 v l)(M:base<=w.heap.size)(y:n<=l.length)(X:l.length<=100000000):
 Calls prog 74 #[v,n] w fun e w'=>∃d,e= .returned d/\bP w' base 5 d (l.drop n)/\lE w w' v d:=by
 have r:=h;obtain⟨A,cap,rfl,O,kr,R⟩:=h;rcases R with⟨rfl,rfl⟩|⟨g,Z,fr,rfl,_⟩
 ·obtain rfl:l= []:=zo (by omega);obtain rfl:n=0:=by simpa using y
  clear r;have E:=run_copy_none (P:=prog) w 75 75 3 5 none none 0 0 0 0 zq o6 (by simp);go_enter func74,Yi
  go_wp2;go_ret;exact⟨_,rfl,bP.nil _ _ _,lE.refl _ _⟩
 obtain⟨W,z,N,L,G,H,C⟩:=r.WG y;have c:=za N;have b:=za L;clear N L;obtain⟨len,j⟩:∃len,l.length=len:=⟨_,rfl⟩
 have HL:=za j;rw[j]at r O y X c b⊢;obtain⟨k,B⟩:∃k,len-n=k:=⟨_,rfl⟩
 rw[B]at c b;have U:(len:Int)-n=k:=by omega
 have q:(cb (l.drop n)).length=k:=by rw[aO,zP,j,B]
 by_cases S:n=cap
 ·obtain rfl:k=0:=by omega
  obtain rfl:len=cap:=by omega
  subst S;have K:cb (l.drop n)= []:=zo q;rw[K]at z;obtain rfl:w=W:=z;have E:=run_copy_none (P:=prog) w 75 75 3 5 (some (g,0)) (some (g,0)) n n 0 0 zq o6 (by simp);clear G H C K q r;rename_i right
  clear right O y B U;have s:=za j;clear j;by_cases Y:4096<n
  ·have D:((4096:Int)<n):=by omega
   have u:=za (EJ base g 0 n (l.drop n) w (by rw[zP,s.out];omega) c.out (by rw[zP,s.out];omega));go_enter func74,Yi
   go_wp2_with fail
   refine u.out.mono ?_;rintro e J ⟨⟨d,rfl,i,o⟩,p⟩;have F:Hid (lE w J (.slice (some (g,0)) n n) d):=za ⟨b.out.grown.andThen (cR p) (by simp),.inr (by obtain⟨x,m⟩:=o;exact⟨x,m,(i.ge x m).1⟩)⟩;have I:=za (i.mono M);clear i p u c b o;go_wp2;go_ret;exact⟨_,rfl,I.out,F.out⟩
  have D:¬((4096:Int)<n):=by omega
  go_enter func74,Yi
  go_wp2;go_ret;exact⟨_,rfl,c.out,b.out⟩
 have E:=run_copy_cells (P:=prog) w 75 75 3 5 g 0 len cap (g,n) k (cap-n) (cb (l.drop n)) zq o6 (by rw[q];show k=min k len;omega) G H C (uZ _);rw[q,z]at E;rename_i right
 clear right G H C z r q;have s:=za j;clear j;by_cases Y:4*k+4096<cap
 ·have D:(4*(k:Int)+4096<cap):=by omega
  have u:=za (EJ base g k cap (l.drop n) W (by rw[zP,s.out,B]) c.out (by rw[zP,s.out];omega));go_enter func74,Yi
  go_wp2_with fail
  refine u.out.mono ?_;rintro e J ⟨⟨d,rfl,i,o⟩,p⟩;have F:Hid (lE w J (.slice (some (g,0)) len cap) d):=za ⟨b.out.grown.andThen (cR p) (by simp),.inr (by obtain⟨x,m⟩:=o;exact⟨x,m,by have:=(i.ge x m).1;have:=b.out.size;omega⟩)⟩;have I:=za (i.mono (zG M b.out.size));clear i p u c b o;go_wp2;go_ret;exact⟨_,rfl,I.out,F.out⟩
 have D:¬(4*(k:Int)+4096<cap):=by omega
 go_enter func74,Yi
 go_wp2;go_ret;exact⟨_,rfl,c.out,b.out⟩
theorem Jo (c:aM)(s:ByteArray)(w:World)(x:c.right=true)(H:s.size<=1099511627776):
 Calls prog 73 #[c.val,s] w fun e w'=>e= .returned (gJ c s:Nat)/\(w,w'):=by
 have y:=(c.ic).1 x;obtain⟨j,o,b,m,l,it⟩:=c;simp only at y;obtain⟨C,B,D,A,_⟩:=y;clear x;unfold aM.val;by_cases h:j=1
 ·subst h;clear C B D A;by_cases q:s.size<24
  ·have d:Hid (gJ ⟨1,o,b,m,l,it⟩ s=0):=za (by unfold gJ;rw[zj rfl,zj q]);go_enter func73,ntmps73
   go_wp2;go_ret;exact⟨by rw[d.out];rfl,bO⟩
  have hz:(s.extract 16 20).size=4:=by rw[ar _ _ _ (by omega)]
  have d:Hid (gJ ⟨1,o,b,m,l,it⟩ s=24+da (s.extract 16 20).data.toList):=za (by unfold gJ;rw[zj rfl,zi q]);have E:=za (fun V=>eX (s.extract 16 20) V (by omega) (by omega));have J:=uk (s.extract 16 20) hz;generalize da (s.extract 16 20).data.toList=N at*;have G:IntKind.i64.wrap (N:Int)=N:=zZ _ (by omega);clear hz;go_enter func73,ntmps73
  go_wp2_with fail
  refine(E.out _).mono ?_;rintro e w' ⟨rfl,rfl⟩;go_wp2;go_ret;exact⟨by rw[d.out];exact lD (by omega),bO⟩
 have u:=za (fun V=>sW b s V (by omega) (by omega) (by omega));have p:=rE b s;by_cases i:(aw b s).2.2=0
 ·obtain⟨L,F,M,K⟩:=p i;have d:Hid (gJ ⟨j,o,b,m,l,it⟩ s=(aw b s).2.1+(aw b s).1):=za (by unfold gJ;rw[zi h,zi (by simp[i])]);generalize aw b s=X at*;obtain⟨n,k,r⟩:=X;simp only at*;subst i;clear p;have z:(j !=1)=true:=yN.2 h;go_enter func73,ntmps73
  go_wp2_with fail
  refine(u.out _).mono ?_;rintro e w' ⟨rfl,rfl⟩;go_wp2;go_ret;exact⟨by rw[d.out];exact lD (by omega),bO⟩
 have d:Hid (gJ ⟨j,o,b,m,l,it⟩ s=0):=za (by unfold gJ;rw[zi h,zj i]);generalize aw b s=X at*;obtain⟨n,k,r⟩:=X;simp only at*;clear p;have z:(j !=1)=true:=yN.2 h;have I:(r !=0)=true:=yN.2 i;go_enter func73,ntmps73
 go_wp2_with fail
 refine(u.out _).mono ?_;rintro e w' ⟨rfl,rfl⟩;go_wp2;go_ret;exact⟨by rw[d.out];rfl,bO⟩
def Jp (w:World)(L:mw)(V:Nat->Value)(Fr:Nat->Prop)(c:aM)(l:List bj)(D:gC)(j:Nat)(s:ByteArray)(e:Ending)(w':World):Prop:=
 ∃V',e= .returned (.int .i64 (if L.room<(D.way j).size+s.size then 5 else 0))/\gT w' L V' Fr c l (if L.room<(D.way j).size+s.size then D else{D with way:=iU D.way j (D.way j++s)})/\l6 w w' L V V' []
theorem T7 (L:mw)(V:Nat->Value)(Fr:Nat->Prop)(c:aM)(l:List bj)(D:gC)(j:Nat)(o:j<2)(s:ByteArray)(w:World)(h:gT w L V Fr c l D)(hb:(D.way j).size<=1048576)(hs:s.size<=1000000000):
 Calls prog 32 #[(L.p,0),(L.p,j*3),s] w (Jp w L V Fr c l D j s):=by
 obtain⟨⟨q0,z,X,q6⟩,f0,f1,f2⟩:=dz h.blk o;have DC:=L.rl;have p:=h.way j o;obtain⟨A,n,cap,B,hn,SB,kr⟩:=p.cy;have I:=hn.out;rw[aa]at I;rw[B]at z p;have HH:=za h;have N:=za B;have HW:=za p;unfold Jp;obtain⟨af,G⟩:=exh (if L.room<(D.way j).size+s.size then(5:Int)else 0);obtain⟨D',S⟩:=exh (if L.room<(D.way j).size+s.size then D else{D with way:=iU D.way j (D.way j++s)});rw[G.out,S.out];by_cases m:L.room<(D.way j).size+s.size
 ·have d:decide ((L.room:Int)-n<s.size)=true:=zF (by omega);have x:=za m;clear p B h I m;go_enter func32,ntmps32
  go_wp2_with fail
  go_quiet (fail)
  go_wp2;go_ret;exact⟨V,by rw[<-G.out,zj x.out];rfl,by rw[<-S.out,zj x.out];exact HH.out.below (Below.bF (zm _ _) _),l6.below (Below.bF (zm _ _) _)⟩
 have d:decide ((L.room:Int)-n<s.size)=false:=zv (by omega);have x:=za m;have HL:Hid ((D.way j).data.toList.length+s.data.toList.length<=140737488355328):=za (by rw[aa,aa];omega);obtain⟨i0,ab,dF,ad,cF⟩:=yz o5;clear p B h I m;go_enter func32,ntmps32
 go_wp2_with fail
 go_quiet (fail)
 obtain⟨E,K⟩:=gL (w.drewN nq);have F:Hid (w,E):=za (by rw[<-K];exact Below.bF (zm _ _) nq);rw[K];clear q0 z X q6 f0 f1 f2 K;have y:=za (HH.out.below F.out);have Y:=za (HW.out.ah fun k b _=>F.out.block k b);obtain⟨⟨q0,z,X,q6⟩,f0,f1,f2⟩:=dz y.out.blk o;rw[N.out]at z;have Cv:=y.out.low;go_wp2_with (
  at_builtin
  refine ql (by rfl) (.tmp 24) (.tmp 25) 75 9 (by rfl) L.base 5 i0 zq ab dF ad cF (by rfl) Y.out _ s.data.toList (by rfl) (iz zM E s) Cv HL.out ?_;intro r u q J aI O;have R:Hid (ag J L.p 80 (gX L V)):=za (ag.Sr y.out.blk O (Y.out.cx y.out.blk (by decide)));obtain⟨⟨_,p1,_,_⟩,_,g1,_⟩:=dz R.out o;have U:=za aI;have W:=za O;clear aI O)
 obtain⟨w3,C⟩:=gL (J.setCell (L.p,j*3+1) (.slice r u q));have M:ae [L.p] J w3:=by rw[<-C];exact(ae.refl _ _).setCell (.inl (by simp)) _
 have gy:Hid (ag w3 L.p 80 (gX L (iU V (2+j) (.slice r u q)))):=za (by rw[<-C];exact gT.FC R.out o _);have H:∀k,(Value.slice r u q).ownBlock=some k->(V (2+j)).ownBlock=some k\/E.heap.size<=k:=fun k e=>by
  rw[N.out];rcases W.out.own with h|⟨i,h,hi⟩
  ·exact .inl (by rw[<-h];exact e)
  rw[h]at e;injection e with e;exact .inr (by omega)
 have m:ae (L.p::(V (2+j)).ownBlock.toList) E w3:=by
  rw[N.out];exact(W.out.only.mono fun k b=>List.mem_cons_of_mem _ b).trans' M (by simp)
 have lu:=za (y.out.PH m j o (.slice r u q) (D.way j++s) (fun k b=>by rcases yI.1 b with e|e;exact .inl (by omega);exact .inr (.inr (bV.1 e))) H gy.out (by
  rw[aW];exact U.out.ah fun k b e=>M.block k b fun Z=>by
   simp only[yL]at Z;subst Z;exact U.out.cx R.out (by decide) e))
 have pN:=za ((l6.below F.out).trans (l6.one m (2+j) (by omega) (.slice r u q) (fun k b=>by rcases yI.1 b with e|e;exact .inl e;exact .inr (.inr (.inr (bV.1 e)))) H) (by simp):l6 w w3 L V _ []);rw[C];clear C M H m p1 g1;go_wp2;go_ret;exact⟨_,by rw[<-G.out,zi x.out];rfl,by rw[<-S.out,zi x.out];exact lu.out,pN.out⟩
def nC (e:bj):Bool:=decide (100<e.name.size)||decide (500<e.ty.size)
def nD (l:List bj):Bool:=decide (40<l.length)||l.any nC
theorem Nr {l:List bj}(h:nD l=false)(hid:∀e∈l,e.id<18446744073709551616):l.length<=40/\∀e∈l,oC e:=by
 simp only[nD,ZL,yV,Z8]at h;refine⟨by omega,fun e b=> ?_⟩;have:=h.2 e b;simp only[nC,Bool.or_eq_true,zY,not_or]at this;exact⟨hid e b,by omega,by omega⟩
theorem Ns (l:List bj)(v:Value)(B:Nat)(w:World)(q:rf w B v l):
 Calls prog 7 #[v] w fun e w'=>e= .returned (.bool (nD l))/\w'=w:=by
 obtain⟨A,n,cap,rfl,d,X,Y⟩:=q.cy;have L:=za q;clear q;by_cases D:40<n
 ·have S:(40:Int)<n:=by omega
  have m:Hid (nD l=true):=za (by unfold nD;rw[<-d.out];simp[D]);rw[m.out];go_enter func7,ntmps7
  go_wp2;go_ret;exact⟨rfl,rfl⟩
 have S:¬(40:Int)<n:=by omega
 have m:Hid (nD l=l.any nC):=za (by unfold nD;rw[<-d.out];simp[D]);rw[m.out];obtain⟨R,s⟩:∃R,l.any nC=R:=⟨_,rfl⟩
 rw[s];have x:=za s;clear s m;go_enter func7,ntmps7
 go_wp2;go_loopw [3] (fun i wr=>∃k:Nat,i= .int .i64 k/\k<=n/\Hid (∀j (b:j<l.length),j<k->nC l[j]=false)/\wr=w) (fun i _=>n-(intOf i).toNat)
 case atStart=>exact⟨0,rfl,by omega,za (by omega),rfl⟩
 case round=>
  obtain⟨k,rfl,W,C,rfl⟩:=hrel;by_cases N:k<n
  ·have F:k<l.length:=by rw[<-d.out];exact N
   obtain⟨g,o,rfl,Z,H,K,J⟩:=L.out.at_ F;have z:Hid (nC l[k]=false->∀j (b:j<l.length),j<k+1->nC l[j]=false):=za (fun r j b Om=>by
    by_cases h:j=k
    ·subst h;exact r
    exact C.out j b (by omega))
   have p:Hid (nC l[k]=true->R=true):=za (fun r=>by rw[<-x.out];exact ZG.2 ⟨_,zD F,r⟩);obtain⟨y,G⟩:∃y,l[k]=y:=⟨_,rfl⟩
   rw[G]at H K J z p;clear G;by_cases E:100<y.name.size
   ·have O:(100:Int)<(y.name.size:Int):=by omega
    have c:=za (p.out (by simp[nC,E]));go_wp2;go_ret;exact⟨by rw[c.out];rfl,rfl⟩
   have O:¬(100:Int)<(y.name.size:Int):=by omega
   by_cases u:500<y.ty.size
   ·have I:(500:Int)<(y.ty.size:Int):=by omega
    have c:=za (p.out (by simp[nC,u]));go_wp2;go_ret;exact⟨by rw[c.out];rfl,rfl⟩
   have I:¬(500:Int)<(y.ty.size:Int):=by omega
   have M:=za (z.out (by simp[nC,E,u]));go_wp2;go_roundw
   case rel=>exact⟨k+1,by go_num,by omega,M,trivial⟩
   case measure=>simp[intOf];omega
  have c:Hid (R=false):=za (by
   rw[<-x.out,Z8];intro e U;obtain⟨j,b,rfl⟩:=yY U;rw[C.out j b (by rw[<-d.out]at b;omega)];simp)
  go_wp2;go_ret;exact⟨by rw[c.out];rfl,rfl⟩
