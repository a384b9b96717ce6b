/- The example of the theorems of a session (hatchwaytop.awake). No program in sight. -/
import Derived.Test.YtimoclkoflamkaaGreatDoorKA41
set_option linter.all false
set_option maxRecDepth 100000
set_option maxHeartbeats 16000000
open Go.Proofs.Tryz
namespace Go.Proofs.YtimoclkoflamkaaGreatDoor
variable {w w':World}{v:Value}{l:List ByteArray}{B j n cap d m e base:Nat}{L:gT}{D:dJ}{A:Option Addr}{H:Type}{r:Reach}{held:Bool}
def iT :aF:=⟨3,0,50,50,2,9⟩
theorem Io :iT.ok:=⟨by decide,by decide,by decide,by decide,by decide,by decide⟩
theorem Ip :bB iT [bE] ⟨#[112,105,110,103]⟩ dh=bB cS [bE] ⟨#[112,105,110,103]⟩ dh:=rfl
theorem Pv :(gQ iT ⟨5,⟨#[]⟩,⟨#[7]⟩⟩).2=0:=by decide+kernel
theorem AW :(bw iT [bE] ⟨#[112,105,110,103]⟩ dh).2=0:=by
 unfold bw;rw[Ip,rD,zf (by simp)];exact Pv
theorem EL :mF iT [bE]=0:=by
 rw[oK (by decide) (by simp)];have b:fQ iT [] bE=0:=by
  unfold fQ;rw[zf (by decide),zf (by simp),zf (by simp),pX,zf (by simp),zf (by simp[iT])]
 simp[iO,b]
theorem MV :Gv [bE]:=fun e b=>by
 obtain rfl:=yE.1 b;simp[bE]
theorem S7 :∃(b:ByteArray) (k:Nat),bw iT [bE] ⟨#[112,105,110,103]⟩ dh=(b,0)/\b.size<=70000/\kT (aQ iT [bE]) gW.new b=(⟨ByteArray.empty,0,b.size+k,1⟩,[⟨⟨#[112,105,110,103]⟩,dh⟩],0):=by
 obtain⟨e,_,c⟩:=CT EL;obtain⟨y,k,_,h,d,_⟩:=wR (nm:=⟨#[112,105,110,103]⟩) (x:=dh) e c MV AW (by rw[nY];simp);obtain rfl:=d (by decide);have i:=uk MV AW;refine⟨_,k,ZT rfl AW,i, ?_⟩;rw[gA rfl,show gW.new.buf++(bw iT [bE] ⟨#[112,105,110,103]⟩ dh).1=(bw iT [bE] ⟨#[112,105,110,103]⟩ dh).1 from by simp[gW.new],h];rfl
open Go.RowKit
theorem Wu (w:World)(d:Laid w)(m:aW w):Calls prog 20 #[] w fun e w'=>e= .returned true/\(w,w'):=by
 obtain⟨W,l⟩:∃W,w.alloc (.cells #[.int .u64 5,.string ⟨#[112,105,110,103]⟩,.string ⟨#[117,56]⟩] 63)=W:=⟨_,rfl⟩
 have i:Below w.heap.size w W:=by rw[<-l];exact(zi _ w).alloc (ze _) _
 have Ch:w.heap.size<W.heap.size:=by rw[<-l];simp
 have r:af W w.heap.size 63 #[.int .u64 5,.string ⟨#[112,105,110,103]⟩,.string ⟨#[117,56]⟩]:=by rw[<-l];exact af.new _ _ _
 have J:oA W W.heap.size (.slice (some (w.heap.size,0)) 1 1) [bE]:=⟨_,1,rfl,by simp,by simp,fun j hj=>by
  obtain rfl:j=0:=by simp at hj;omega
  exact⟨_,_,rfl,by omega,r.cell 0,r.cell 1,r.cell 2⟩⟩
 have O:=za (MT iT [bE] _ W.heap.size W J (ze _) (d.below i d.pos) (by
  intro e he;obtain rfl:=yE.1 he;exact⟨by decide,by simp[bE,ByteArray.size],by simp[bE,ByteArray.size]⟩))
 have p:=za (And.intro (d.below i d.pos) (m.below i m.pos));have E:Hid (iS w.heap.size):=za ⟨d.pos,m.pos⟩;have HW:=za l;have ic:=za i;obtain⟨H,_,_⟩:=CT EL;obtain⟨b,kb,R,Cd,ab⟩:=S7;have Z:=za H;clear l i r J d m H;unfold iT aF.val at O;go_enter func20,ntmps20
 go_wp2_with fail
 rw[HW.out];refine O.out.mono ?_;rintro e s ⟨u,jZ⟩;rcases jZ with⟨_,c,hi,g,jh,rfl,q⟩|⟨S,_⟩
 ·have F:=za (ic.out.trans (u.mono (by omega)));have z:=za (And.intro (p.out.1.below u p.out.1.pos) (p.out.2.below u p.out.2.pos));have Y:Hid (eH s c hi g nS iT [bE] gW.new 0):=za q;have y:Hid (iS c):=za ⟨by have:=E.out.a;omega,by have:=E.out.b;omega⟩;have Cf:w.heap.size<=c:=by omega
  have ag:c<=g:=by have:=q.lohi;have:=q.Dr;omega
  have n:=za (H7 c hi g _ iT [bE] gW.new 0 ⟨#[112,105,110,103]⟩ dh s.heap.size s _ _ _ Io Y.out (Di s _ ⟨#[7]⟩ false (by simp[ByteArray.size])) (ze _) z.out.1 z.out.2 (fun _=>by rw[nY];simp) (by rw[Ip,rD];exact⟨by decide,by decide,by decide⟩) (by omega));rw[R]at n;simp only[zg]at n;clear u q;go_wp2_with fail
  refine n.out.mono ?_;rintro e N ⟨rfl,A,B⟩;have L:=za (F.out.trans (B.below F.out.size (by simp;omega)));have I:=za (oM z.out y.out B (by simp;omega));have x:=za (Ia c hi g _ iT [bE] gW.new 1 b N Z.out Io A I.out.1 I.out.2 y.out.a y.out.b (by simp[gW.new];omega) (by decide));rw[ab]at x;simp only at x;have ad:=za A.Wp;clear A B n;go_wp2_with fail
  refine x.out.mono ?_;rintro e w4 ⟨rv,ae,rfl,D,K,M,_⟩;have dK:=za (L.out.trans (M.below L.out.size (fun k hk=>zz Cf (ad.out k hk))));obtain⟨A4,TN,rfl,aa,ah,G⟩:=wU.reads (bA.eG D (S1:=(N.heap.size<= ·)) (fun _ _ h=>h.1) (ze _));obtain⟨gg,o,d0,d1,d2,d3,rfl,_,X,_,_,_,C⟩:=G.at_ 0 (by simp);obtain⟨_,_,rfl,_⟩:=C.open_;have U:=za (rC c hi g ae iT _ _ _ w4 K);simp at X;have hz:ByteArray.empty.size=0:=rfl;clear D K M G C x;simp only[yI]at aa⊢;go_wp2_with fail
  refine U.out.mono ?_;rintro e w5 ⟨rfl,rfl⟩;go_wp2;go_ret;exact⟨rfl,dK.out⟩
 exact absurd EL S
def oN (c:aF)(l:List aV):Bool:= !kI l&&decide (mF c l=0)
theorem KR {c:aF}{l:List aV}(h:oN c l=true)(hid:∀e∈l,e.id<18446744073709551616):mF c l=0/\∀e∈l,mr e:=by
 simp only[oN,zv,Bool.not_eq_true',zU]at h;exact⟨h.2,(sY h.1 hid).2⟩
theorem Pw (c:aF)(l:List aV)(v:Value)(B:Nat)(w:World)(m:oA w B v l)(C:B<=w.heap.size)(hid:∀e∈l,e.id<18446744073709551616):
 Calls prog 21 #[c.val,v] w fun e w'=>e= .returned (.bool (oN c l))/\(w,w'):=by
 obtain⟨A,n,cap,rfl,H,J,L⟩:=m.bK;obtain⟨b,d⟩:∃b,w.alloc (.cells #[c.fm,.int .u32 c.mg,c.fr,c.un,c.de,c.it] 24)=b:=⟨_,rfl⟩
 have o:Below w.heap.size w b:=by rw[<-d];exact(zi _ w).alloc (ze _) _
 have M:b.heap.size=w.heap.size+1:=by rw[<-d];simp
 have r:af b w.heap.size 24 #[c.fm,.int .u32 c.mg,c.fr,c.un,c.de,c.it]:=by rw[<-d];exact af.new w _ _
 have k:=m.below (o.mono C);have s:=za d;have u:=za o;obtain⟨O,N,S,K,R,I⟩:=fy r;have q:=za (De l _ B b k);obtain⟨p,i⟩:∃p,kI l=p:=⟨_,rfl⟩
 rw[i]at q;have z:Hid (oN c l=(!p&&decide (mF c l=0))):=za (by unfold oN;rw[i]);rw[z.out];cases p with
 |true=>
  clear m hid i d o k r;unfold aF.val;go_enter func21,ntmps21
  go_wp2_with fail
  rw[s.out];refine q.out.mono ?_;rintro e w' ⟨rfl,j⟩;rw[j];clear j w';go_wp2;go_ret;exact⟨rfl,u.out⟩
 |false=>
  have F:=za (AM c l _ B b k (by omega) (sY i hid).2);generalize mF c l=E at*;unfold aF.val at*;have G:((E==0):Bool)=decide (E=0):=by
   by_cases h:E=0<;>simp[h]
  clear m hid i d o k r;go_enter func21,ntmps21
  go_wp2_with fail
  rw[s.out];refine q.out.mono ?_;rintro e w' ⟨rfl,j⟩;rw[j];clear j w';go_wp2_with fail
  refine F.out.mono ?_;rintro e D ⟨rfl,x⟩;have y:Hid (w,D):=za (u.out.trans (x.mono (by omega)));go_wp2;go_ret;exact⟨aU (by simp),y.out⟩
def S8 (w:World)(B:Nat)(v:Value)(l:List ByteArray):Prop:=∃A cap,v= .slice A l.length cap/\l.length<=cap/\cap<=9223372036854775807/\∀j (h:j<l.length),∃g o,A=some ⟨g,o,none⟩/\g<B/\w.cell? ⟨g,o+j,none⟩=some (.string l[j])
theorem S8.below (h:S8 w B v l)(p:Below B w w'):S8 w' B v l:=by
 obtain⟨A,cap,k,m,d,n⟩:=h;refine⟨A,cap,k,m,d,fun j i=> ?_⟩;obtain⟨g,o,e,b,c⟩:=n j i;exact⟨g,o,e,b,(p.cell b).trans c⟩
theorem S8.ah (h:S8 w B v l)(i:∀k,k<B->v.ownBlock=some k->w'.heap[k]?=w.heap[k]?):S8 w' B v l:=by
 obtain⟨A,cap,c,p,m,q⟩:=h;refine⟨A,cap,c,p,m,fun j n=> ?_⟩;obtain⟨g,o,b,d,e⟩:=q j n;exact⟨g,o,b,d,(zy (i g d (by rw[c,b];rfl))).trans e⟩
theorem S8.bK (h:S8 w B v l):∃A n cap,v= .slice A n cap/\Hid (n=l.length)/\n<=cap/\cap<=9223372036854775807:=by
 obtain⟨A,cap,b,d,c,_⟩:=h;exact⟨A,_,cap,b,za rfl,d,c⟩
theorem S8.at_ (h:S8 w B (.slice A n cap) l)(b:j<l.length):∃g o,A=some ⟨g,o,none⟩/\g<B/\w.cell? ⟨g,o+j,none⟩=some (.string l[j]):=by
 obtain⟨i,m,c,k,e,d⟩:=h;injection c with hA _ _;subst hA;exact d j b
abbrev rW (w:World)(lo:Nat)(v:Value)(l:List ByteArray):Prop:=w.ownsRow lo 9 1 v l.length (l.map .string)
theorem rW.nil (w:World)(b:Nat):rW w b nS []:=⟨rfl,.inl ⟨rfl,rfl⟩⟩
theorem rW.bK (h:rW w d v l):∃A n cap,v= .slice A n cap/\Hid (n=l.length)/\n<=cap/\cap<=9223372036854775807:=by
 rcases h.2 with⟨e,b⟩|⟨r,k,s,c,p,o,i,j,q,m⟩
 ·exact⟨none,0,0,e,za b.symm,by omega,by simp⟩
 exact⟨_,_,k,c,za rfl,i,by simpa[maxLen]using j⟩
theorem rW.read (h:rW w m v l):S8 w w.heap.size v l:=by
 obtain⟨o,c⟩:=h;rcases c with⟨c,e⟩|⟨g,cap,y,k,x,d,p,q,s,n⟩
 ·obtain rfl:l= []:=zk e;rw[c];exact⟨none,0,rfl,by simp,by simp,fun j b=>by simp at b⟩
 refine⟨_,cap,k,p,by simpa[maxLen]using q,fun j b=> ?_⟩;have r:(l.map Value.string)[j]?=some (.string l[j]):=by simp[b]
 have key:∀i u,(l.map Value.string)[i]?=some u->w.cell? ⟨g,i,none⟩=some u:=by
  intro i u hu;have z:i<l.length*1:=by
   have:=(yR.1 hu).1;rw[o]at this;exact this
  rw[<-n,yk (by omega)]at hu;simp only[World.cell?,d];simpa using hu
 exact⟨g,0,rfl,yp d,by rw[zK];exact key _ _ r⟩
theorem rW.ah {b:Nat}(h:rW w b v l)(c:∀k,b<=k->k<w.heap.size->w'.heap[k]?=w.heap[k]?):rW w' b v l:=by
 refine⟨h.1, ?_⟩;rcases h.2 with h2|⟨g,cap,cur,hv,hb,hh,r⟩
 ·exact .inl h2
 exact .inr ⟨g,cap,cur,hv,hb,(c g hb (yp hh)).trans hh,r⟩
theorem rW.below {b:Nat}(h:rW w b v l)(c:Below w.heap.size w w'):rW w' b v l:=h.ah fun k _ d=>c.block k d
theorem rW.ge {c:Nat}(h:rW w c v l):∀g,v.ownBlock=some g->c<=g/\g<w.heap.size:=by
 intro g b;rcases h.2 with⟨j,m⟩|⟨e,cap,n,d,k,i,_⟩
 ·rw[j]at b;cases b
 rw[d]at b;have:e=g:=by simpa[Value.ownBlock]using b
 subst this;exact⟨k,yp i⟩
theorem Px :(prog.info? 9).map (fun i=>(i.zero,i.size,i.bytes))=some (some (.string ⟨#[]⟩),1,16):=by kernel_rfl
theorem abt (g j:Nat):((g,0):Addr).add j=⟨g,j,none⟩:=by unfold Addr.add;split<;>simp_all
theorem rW.typed (h:rW w e v l):∀k,v.ownBlock=some k->e<=k/\k<w.heap.size/\∃d,af w k 9 d:=by
 intro k b;rcases h.2 with⟨c,_⟩|⟨m,n,d,c,j,i,_⟩
 ·rw[c]at b;cases b
 rw[c]at b;have:m=k:=by simpa[Value.ownBlock]using b
 subst this;exact⟨j,yp i,d,i⟩
theorem rW.only {b:Nat}{L:List Nat}(h:rW w b v l)(d:ae L w w')(e:∀g,g∈L->v.ownBlock≠some g):rW w' b v l:=by
 refine⟨h.1, ?_⟩;rcases h.2 with h3|⟨g,cap,cur,hv,hb,hh,r⟩
 ·exact .inl h3
 exact .inr ⟨g,cap,cur,hv,hb,(d.block g (yp hh) fun c=>e g c (by rw[hv];rfl)).trans hh,r⟩
theorem s7 {ops:Array Oper}{o:Oper}{a:Act}{K:Act->World->Prop}{Q:Exit->Act->World->Prop}{E:Prop}(m:o.guard=none)(s x:Operand)
 (q:o.op= .call {callee:= .builtin .append,args:= #[s,x],argTypes:= #[57,57]}) (c:Nat) (acc:List ByteArray)  (r:a.eval s=v) (i:rW w c v acc) (y:ByteArray)
 (g:Nat) (hx:a.eval x= .slice (some (g,0)) 1 1) (C:w.cell? (g,0)=some (.string y)) (H:acc.length<=1000000) (k:c<=w.heap.size)
 (D:∀b d cap w',rW w' c (.slice (some (b,0)) d cap) (acc++ [y])->w.grownBy w' v.ownBlock->(v.ownBlock=some b\/w.heap.size<=b)->K (a.put o.dst (.slice (some (b,0)) d cap)) w'):
 if Region.wanted o (yielded ops a.tmps)=true then Oper.wp prog o a w K Q else E:=by
 obtain⟨i0,hi,A,F,B⟩:=yv Px;refine ZK w m s x 57 q c 9 i0 _ 1 16 underlying57 hi A F B rfl (by decide) v acc.length (acc.map .string) r i (g,0) 1 1 [.string y] hx rfl ?_ (by simp[Value.oneCell']) (by decide) (by simp only[maxLen];omega) (by omega) k w.heap.size rfl ?_
 ·intro j u hu;rw[abt];match j,hu with
  |0,hu=>simp at hu;subst hu;exact C
 intro b cap w' l z p G;have e:(acc++ [y]).length=acc.length+1:=by simp
 have n:rW w' c (.slice (some (b,0)) (acc.length+1) cap) (acc++ [y]):=by rw[rW,YF,e];exact l
 exact D b _ cap w' n z (by
  rcases p with h|h
  ·exact .inl h
  exact .inr (by omega))
structure MW (w:World)(sb:Nat)(L:gT)(V T:Nat->Value)(c:aF)(l:List aV)(D:dJ)(sn:Nat->List Ms)(rs:Nat->List ByteArray)(cX:Nat):Prop where
 tk:Dk w L V (XS sb T) c l D sn cX
 sb:af w sb 58 #[T 0,T 1]
 ac:∀j,j<2->rW w L.base (T j) (rs j)
 ne:∀k,(T 0).ownBlock=some k->(T 1).ownBlock≠some k
theorem MW.own {b:Nat}{V T:Nat->Value}{c:aF}{l:List aV}{d:Nat->List Ms}{o:Nat->List ByteArray}(h:MW w b L V T c l D d o m){k:Nat}(i:j<2)(e:(T j).ownBlock=some k):XS b T k/\k≠b:=by
 refine⟨?_, ?_⟩
 ·rcases(by omega:j=0\/j=1)with rfl|rfl
  ·exact .inr (.inl e)
  exact .inr (.inr e)
 rintro rfl;obtain⟨_,_,p,n⟩:=(h.ac j i).typed _ e;exact(n.neT h.sb (by decide)) rfl
theorem MW.step {b:Nat}{V V' T:Nat->Value}{c:aF}{l:List aV}{k:dJ}{p m:Nat->List Ms}{n:Nat->List ByteArray}{s o:Nat}(h:MW w b L V T c l D p n s)(d:ku w w' L V V' [])(q:Dk w' L V' (XS b T) c l k m o):MW w' b L V' T c l k m n o:=
 ⟨q,h.sb.only d.only (by simpa using h.tk.ps.vC (.inl rfl)),fun j i=>(h.ac j i).only d.only (fun g r e=>h.tk.ps.vC (h.own i e).1 (by simpa using r)),h.ne⟩
theorem MW.below {V T:Nat->Value}{c:aF}{l:List aV}{b:Nat->List Ms}{j:Nat->List ByteArray}(h:MW w d L V T c l D b j e)(i:Below w.heap.size w w'):MW w' d L V T c l D b j e:=h.step (ku.below i) (h.tk.below i)
theorem MW.app {y:World}{V T:Nat->Value}{c:aF}{l:List aV}{I:Nat->List Ms}{E:Nat->List ByteArray}{H:Nat}(h:MW w d L V T c l D I E H){i:Nat}(hi:i<2){r:List ByteArray}(B:Below w.heap.size w y)(o:y.grownBy w' (T i).ownBlock)(G:rW w' L.base v r)(u:∀k,v.ownBlock=some k->(T i).ownBlock=some k\/y.heap.size<=k):
 MW (w'.setCell (d,i) v) d L V (gj T i v) c l D I (gj E i r) H:=by
 have R:=B.size;have O:=o.size;have C:ae (T i).ownBlock.toList w w':=((ae.ai B (ze _)).mono (L:= []) (fun k m=>by cases m)).trans (ae.cn o);have J:ae (d::(T i).ownBlock.toList) w (w'.setCell (d,i) v):=(C.mono fun k m=>Ym _ m).setCell (.inl (by simp)) _;have N:af w' d 58 #[T 0,T 1]:=h.sb.only C fun K=>(h.own hi (aM.1 K)).2 rfl
 have F:∀j,j<2->∀k,(gj T i v j).ownBlock=some k->((T j).ownBlock=some k\/y.heap.size<=k)/\k<w'.heap.size:=fun j n k e=>by
  by_cases p:j=i
  ·subst p;rw[bp]at e;exact⟨u k e,(G.ge k e).2⟩
  rw[aS _ _ p]at e;exact⟨.inl e,zJ ((h.ac j n).ge k e).2 (by omega)⟩
 have A:∀j,j<2->∀k,(T j).ownBlock=some k->XS d T k:=fun j n k e=>(h.own n e).1
 refine⟨h.tk.grow J (fun k m=> ?_) (fun k m=> ?_), ?_,fun j n=> ?_,fun k q s=> ?_⟩
 ·rcases yj.1 m with rfl|e
  ·exact .inl rfl
  exact A i hi k (aM.1 e)
 ·rcases m with rfl|e|e
  ·exact⟨.inl (.inl rfl),by simpa using zJ h.sb.lt (by omega)⟩
  ·obtain⟨a,b⟩:=F 0 (by omega) k e;exact⟨a.imp (A 0 (by omega) k) (fun z=>by omega),by simpa using b⟩
  obtain⟨a,b⟩:=F 1 (by omega) k e;exact⟨a.imp (A 1 (by omega) k) (fun z=>by omega),by simpa using b⟩
 ·rcases(by omega:i=0\/i=1)with rfl|rfl<;>exact N.store (by simp[gj])
 ·have M:ae [d] w' (w'.setCell (d,i) v):=(ae.refl _ _).setCell (.inl (by simp)) _;by_cases p:j=i
  ·subst p;rw[bp,bp];refine G.only M (fun g o e=> ?_);simp at o;subst o;rcases u _ e with e|e
   ·exact(h.own n e).2 rfl
   have:=h.sb.lt;omega
  rw[aS _ _ p,aS _ _ p];refine(h.ac j n).only J (fun g o e=> ?_);rcases yj.1 o with rfl|x
  ·exact(h.own n e).2 rfl
  have x:=aM.1 x;rcases(by omega:i=0/\j=1\/i=1/\j=0)with⟨rfl,rfl⟩|⟨rfl,rfl⟩
  ·exact h.ne g x e
  exact h.ne g e x
 rcases(by omega:i=0\/i=1)with rfl|rfl
 ·rw[bp]at q;rw[aS _ _ (by decide)]at s;rcases u k q with e|e
  ·exact h.ne k e s
  have:=((h.ac 1 (by decide)).ge k s).2;omega
 rw[aS _ _ (by decide)]at q;rw[bp]at s;rcases u k s with e|e
 ·exact h.ne k q e
 have:=((h.ac 0 (by decide)).ge k q).2;omega
def Qd (w:World)(B:Nat)(v:Value)(l:List Ms):Prop:=∃A cap,v= .slice A l.length cap/\l.length<=cap/\cap<=9223372036854775807/\∀j (h:j<l.length),∃g o c0 c1 c2,A=some ⟨g,o,none⟩/\g<B/\w.cell? (g,o+j*4)=some (.string l[j].name)/\(w,g,o+j*4+1,c0)/\(w,g,o+j*4+2,c1)/\(w,g,o+j*4+3,c2)/\l[j].name.size<=9223372036854775807/\bH w B l[j].x c0 c1 c2
theorem Qd.below {l:List Ms}(h:Qd w B v l)(b:Below B w w'):Qd w' B v l:=by
 obtain⟨A,cap,r,u,i,y⟩:=h;refine⟨A,cap,r,u,i,fun j p=> ?_⟩;obtain⟨g,o,k,z,q,m,c,d,n,e,s,x,hi⟩:=y j p;exact⟨g,o,k,z,q,m,c,(b.cell c).trans d,(b.cell c).trans n,(b.cell c).trans e,(b.cell c).trans s,x,hi.below b⟩
theorem Qd.bK {l:List Ms}(h:Qd w B v l):∃A n cap,v= .slice A n cap/\Hid (n=l.length)/\n<=cap/\cap<=9223372036854775807:=by
 obtain⟨A,cap,b,d,c,_⟩:=h;exact⟨A,_,cap,b,za rfl,d,c⟩
theorem Qd.at_ {l:List Ms}(h:Qd w B (.slice A n cap) l)(e:j<l.length):∃g o b d c,A=some ⟨g,o,none⟩/\g<B/\w.cell? (g,o+j*4)=some (.string l[j].name)/\(w,g,o+j*4+1,b)/\(w,g,o+j*4+2,d)/\(w,g,o+j*4+3,c)/\l[j].name.size<=9223372036854775807/\bH w B l[j].x b d c:=by
 obtain⟨p,r,i,q,m,k⟩:=h;injection i with hA _ _;subst hA;exact k j e
def Qe (w:World)(B:Nat)(v:Value)(l:List Nat):Prop:=∃A cap,v= .slice A l.length cap/\l.length<=cap/\cap<=9223372036854775807/\∀j (h:j<l.length),∃g o,A=some ⟨g,o,none⟩/\g<B/\w.cell? (g,o+j)=some (.int .u16 (l[j]:Nat))/\l[j]<65536
theorem Qe.below {l:List Nat}(h:Qe w B v l)(q:Below B w w'):Qe w' B v l:=by
 obtain⟨A,cap,m,n,d,p⟩:=h;refine⟨A,cap,m,n,d,fun j k=> ?_⟩;obtain⟨g,o,e,b,c,i⟩:=p j k;exact⟨g,o,e,b,(q.cell b).trans c,i⟩
theorem Qe.bK {l:List Nat}(h:Qe w B v l):∃A n cap,v= .slice A n cap/\Hid (n=l.length)/\n<=cap/\cap<=9223372036854775807:=by
 obtain⟨A,cap,b,d,c,_⟩:=h;exact⟨A,_,cap,b,za rfl,d,c⟩
theorem Qe.at_ {l:List Nat}(h:Qe w B (.slice A n cap) l)(b:j<l.length):∃g o,A=some ⟨g,o,none⟩/\g<B/\w.cell? (g,o+j)=some (.int .u16 (l[j]:Nat))/\l[j]<65536:=by
 obtain⟨i,m,c,k,e,d⟩:=h;injection c with hA _ _;subst hA;exact d j b
structure NtV (w V:World)(c:aF)(l:List aV)(v:Value)(said:List Ms)(sv:Value)(QE:List Nat)(mv:Value):Prop where
 en:oA V w.heap.size v l
 ms:Qd V w.heap.size sv said
 mv:Qe V w.heap.size mv QE
 laid:Laid V/\aW V
 siz:w.heap.size+1<=V.heap.size
 bel:Below w.heap.size w V
 cf:af V w.heap.size 24 #[c.fm,.int .u32 c.mg,c.fr,c.un,c.de,c.it]
theorem NtV.mk' {W V:World}{c:aF}{l:List aV}{said:List Ms}{h:Value}{j:List Nat}{k:Value}(e:w.alloc (.cells #[c.fm,.int .u32 c.mg,c.fr,c.un,c.de,c.it] 24)=W)
 (n:oA w w.heap.size v l) (r:Qd w w.heap.size h said) (p:Qe w w.heap.size k j) (m:Laid w) (i:aW w) (d:Below (w.heap.size+1) W V):NtV w V c l v said h j k:=by
 have hz:W.heap.size=w.heap.size+1:=by rw[<-e];simp
 have q:Below w.heap.size w W:=by rw[<-e];exact(zi _ w).alloc (ze _) _
 have o:af W w.heap.size 24 #[c.fm,.int .u32 c.mg,c.fr,c.un,c.de,c.it]:=by rw[<-e];exact af.new w _ _
 have b:Below w.heap.size w V:=q.trans (d.mono (by omega));exact⟨n.below b,r.below b,p.below b,⟨m.below b m.pos,i.below b i.pos⟩,by have:=d.size;omega,b,o.ah d (by omega)⟩
structure NtR (w W V:World)(sb:Nat)(L:gT)(c:aF)(l:List aV)(k n:Nat):Prop where
 h:∃Vs T D sn rs cX,MW V sb L Vs T c l D sn rs cX/\(∀j,j<2->rs j=(sn j).map (·.name))/\cX<=k/\cX<=n
 b:Below (w.heap.size+1) W V
theorem EM (c:aF)(l:List aV)(v:Value)(said:List Ms)(sv:Value)(QE:List Nat)(mv:Value)(w:World)(hc:c.ok)(hv:oA w w.heap.size v l)(hid:∀e∈l,e.id<18446744073709551616)(rP:Qd w w.heap.size sv said)(al:Qe w w.heap.size mv QE)(hL:Laid w)(gz:aW w):
 Calls prog 5 #[c.val,v,sv,mv] w fun e w'=>e= .returned true/\(w,w'):=by
 obtain⟨Av,n,cap,rfl,hn,PC,jf⟩:=hv.bK;obtain⟨Am,n1,vd,rfl,rG,a6,bg⟩:=rP.bK;obtain⟨Aw,n2,cap2,rfl,IY,bj,bh⟩:=al.bK;obtain⟨W,hW⟩:=dY (w.alloc (.cells #[c.fm,.int .u32 c.mg,c.fr,c.un,c.de,c.it] 24));have Ch:W.heap.size=w.heap.size+1:=by rw[<-hW];simp
 have z:Hid (∀V,Below (w.heap.size+1) W V->NtV w V c l (.slice Av n cap) said (.slice Am n1 vd) QE (.slice Aw n2 cap2)):=za (fun V b=>NtV.mk' hW hv rP al hL gz b);have HA:=za (Wu W (z.out W (zi _ _)).laid.1 (z.out W (zi _ _)).laid.2);have QC:Hid (iS w.heap.size):=za ⟨hL.pos,gz.pos⟩;have HW:=za hW;have HZ:=za Ch;have ai:=za hid;have aC:=za hc;unfold aF.val;clear hv rP al hL gz hW hid hc jf Ch;go_enter func5,ntmps5
 go_wp2_with fail
 rw[HW.out];refine cm HA.out fun w1 aK=> ?_
 have cr:Hid (Below (w.heap.size+1) W w1):=za (aK.mono (by have:=HZ.out;omega));have HR:=za (Pw c l _ w.heap.size w1 (z.out w1 cr.out).en (by have:=(z.out w1 cr.out).siz;omega) ai.out);obtain⟨rt,Bk⟩:=dY (oN c l);rw[Bk]at HR;unfold aF.val at HR;have Li:=za Bk;clear aK HA Bk;obtain⟨q0,q1,q2,q3,q4,q5⟩:=fy (z.out w1 cr.out).cf;have dZ:=(z.out w1 cr.out).siz;go_wp2_with fail
 refine cm HR.out fun M aI=> ?_
 have dt:Hid (Below (w.heap.size+1) W M):=za (cr.out.trans (aI.mono dZ));clear aI HR;clear q0 q1 q2 q3 q4 q5 dZ;cases rt with
 |false=>
  go_wp2;go_ret;exact⟨rfl,(z.out M dt.out).bel⟩
 |true=>
  by_cases bc:20<n1
  ·have ao:(20:Int)<n1:=by omega
   go_wp2;go_ret;exact⟨rfl,(z.out M dt.out).bel⟩
  by_cases a1:100<n2
  ·have ao:¬(20:Int)<n1:=by omega
   have aL:(100:Int)<n2:=by omega
   go_wp2;go_ret;exact⟨rfl,(z.out M dt.out).bel⟩
  have ao:¬(20:Int)<n1:=by omega
  have aL:¬(100:Int)<n2:=by omega
  obtain⟨h0,WJ⟩:=KR Li.out ai.out;obtain⟨Ng,_,bG⟩:=CT h0;have HE:Hid (TkE c l):=za ⟨aC.out,Ng,bG,ai.out,WJ⟩;have Nc:=za (EG c l _ w.heap.size M (z.out M dt.out).en (by have:=(z.out M dt.out).siz;omega) (z.out M dt.out).laid.1 WJ h0 1048576 (ze _));unfold aF.val at Nc;rw[show((1048576:Nat):Int)=1048576 from rfl]at Nc;clear WJ h0;obtain⟨q0,q1,q2,q3,q4,q5⟩:=fy (z.out M dt.out).cf;have dZ:=(z.out M dt.out).siz;go_wp2_with fail
  refine Nc.out.mono ?_;rintro e R ⟨L,V,rfl,Bv,cP,Tv,UZ⟩;have dK:Hid (Below (w.heap.size+1) W R):=za (dt.out.trans (cP.mono dZ));have O:Hid (w.heap.size+1<=L.p):=za (by omega);obtain⟨W5,ee⟩:=dY (R.alloc (.cells #[nS,nS] 58));have H:Below R.heap.size R W5:=by rw[<-ee];exact(zi _ R).alloc (ze _) _
  have hP:MW W5 R.heap.size L V (fun _=>nS) c l dJ.new (fun _=> []) (fun _=> []) 0:=by
   refine⟨XR (Bv.grow (ae.ai H (ze _)) (by simp) fun k hk=> ?_) Ng (z.out W5 (dK.out.trans (H.mono (by have:=(z.out R dK.out).siz;omega)))).laid (QC.out.up (by omega)) UZ,by rw[<-ee];exact af.new _ _ _,fun _ _=>rW.nil _ _,fun k e=>(by cases e)⟩;rcases hk with rfl|e|e
   ·exact⟨.inr (ze _),by rw[<-ee];simp⟩
   ·cases e
   cases e
  have F:Hid (NtR w W W5 R.heap.size L c l 0 n1):=za ⟨⟨_,_,_,_,_,_,hP,fun _ _=>rfl,ya _,ya _⟩,dK.out.trans (H.mono (by have:=(z.out R dK.out).siz;omega))⟩;have mz:=za ee;obtain⟨mx,bo⟩:=dY (max n1 n2);have bn:max (n1:Int) (n2:Int)=(mx:Int):=by omega
  clear Bv cP Tv UZ Nc H hP Ng bG ee dK V;clear q0 q1 q2 q3 q4 q5 dZ;go_wp2_with fail
  rw[mz.out];clear mz;generalize R.heap.size=D at*;go_loopw [12] (fun i wr=>∃k:Nat,k<=mx/\i= .int .i64 k/\NtR w W wr D L c l k n1) (fun i _=>mx-(intOf i).toNat)
  case atStart=>exact⟨0,by omega,rfl,F.out⟩
  case round=>
   clear F;obtain⟨k,hk,rfl,hp⟩:=hrel;have F:=za hp;clear hp;by_cases aD:k<mx
   ·have aO:(k:Int)<mx:=by omega
    go_upto_if 56 with fail
    go_cut [12] (fun i wx=>i= .int .i64 k/\Hid (NtR w W wx D L c l (k+1) n1))
    case first=>
     obtain⟨V,T,aa,sn,rs,cX,Y,Pz,TU,Ld⟩:=F.out.h;have C:=za F.out.b;have B:=za Y;have I:=za Pz;clear Y Pz;by_cases iX:k<n1
     ·have aQ:(k:Int)<n1:=by omega
      have kN:k<said.length:=by have:=rG.out;omega
      have dZ:=(z.out wr C.out).siz;obtain⟨N,om,c0,c1,c2,rfl,Qv,e0,e1,e2,e3,au,hi⟩:=(z.out wr C.out).ms.at_ kN;obtain⟨y,hy⟩:=dY said[k];rw[hy]at e0 au hi;obtain⟨Ax,dC,rfl,rfl,rfl,_⟩:=hi.open_;have HG:=za (Mi y.x w.heap.size wr _ _ _ hi (by omega));have HI:=za hi;have j7:N<wr.heap.size:=by omega
      have K:Hid (∀V,Below wr.heap.size wr V->(V,N,om+k*4,y.name)/\(V,N,om+k*4+1,y.x.text)/\(V,N,om+k*4+2,y.x.list)/\(V,N,om+k*4+3,Value.slice Ax y.x.sub.length dC)):=za fun V b=>⟨(b.cell j7).trans e0,(b.cell j7).trans e1,(b.cell j7).trans e2,(b.cell j7).trans e3⟩
      clear hi hy au kN;by_cases M3:100<y.name.size
      ·have aN:(100:Int)<y.name.size:=by omega
       go_wp2_with fail
       go_ret;exact⟨rfl,(z.out wr C.out).bel⟩
      have aN:¬(100:Int)<y.name.size:=by omega
      obtain⟨gt,ak⟩:=dY y.x.kU;rw[ak]at HG;have Xo:=za ak;clear ak;go_wp2_with fail
      refine cm HG.out fun w5 H=> ?_
      have fC:Hid (Below (w.heap.size+1) W w5):=za (C.out.trans (H.mono dZ));cases gt with
      |true=>
       go_wp2;go_ret;exact⟨rfl,(z.out w5 fC.out).bel⟩
      |false=>
       clear e0 e1 e2 e3 HG;have UJ:=za (fun U (hU:Below w5.heap.size w5 U)=>K.out U (H.trans (hU.mono H.size)));have Bl:=za (B.out.below H);have az:=za (HI.out.below (H.mono (by omega)));obtain⟨J,f1,f2,f3⟩:=UJ.out w5 (zi _ _);obtain⟨j,hj,KY⟩:∃j:Nat,j<2/\(k:Int)%2=(j:Int):=⟨k%2,by omega,by omega⟩
       have Fe:=za (Ii Bl.out.tk HE.out (by omega) j hj y.name y.x w.heap.size _ _ _ az.out (by have:=O.out;omega) Xo.out);clear H K HI B;go_wp2_with fail
       refine Fe.out.mono ?_;rintro e o ⟨V',D',m,E,y',rfl,Bo,G,-⟩;have A:=za (Bl.out.step G Bo);have iV:=(Bl.out.tk.ps.after G Bl.out.tk.la Bl.out.tk.lo).2;have kO:Hid (Below (w.heap.size+1) W o):=za (fC.out.trans (iV.mono O.out));have YW:N<o.heap.size:=by have:=(z.out o kO.out).siz;omega
       have ar:Hid (o.cell? (N,om+k*4)=some (.string y.name)):=za ((iV.cell (by have:=O.out;show N<L.p;omega)).trans J);clear Bo G Fe iV J f1 f2 f3 UJ Bl az;rcases eR E with⟨h0,z1,z2⟩|⟨h0,z1,z2⟩
       ·subst h0;rw[zg rfl]at A;obtain⟨i,hi⟩:=dY (1-j);rw[hi]at A;have cV:i<2:=by omega
        have rY:(1:Int)-(j:Int)=(i:Int):=by omega
        have aE:(k:Int).tmod 2=(j:Int):=by rw[yW (by omega)];exact KY
        have bl:(i:Int)<2:=by omega
        have a7:IntKind.i64.wrap (i:Int)=(i:Int):=by rw[Yp];omega
        obtain⟨ab,hR⟩:=dY (T i).ownBlock.toList;have py:=za hR;have Qm:Hid (D∉ab/\N∉ab):=za (by
         rw[<-hR];refine⟨fun hm=>(A.out.own cV (aM.1 hm)).2 rfl,fun hm=> ?_⟩;have:=(A.out.ac i cV).ge _ (aM.1 hm);have:=A.out.tk.ps.places;have:=O.out;omega)
        obtain⟨ti,Bs⟩:=dY (T i);have mJ:=za Bs;have B:Hid (∀U,ae ab o U->(U,D,i,ti)/\(U,N,om+k*4,y.name)/\U.frozen? (D,i)=false):=za fun U hU=>by
         have h1:=A.out.sb.only hU Qm.out.1;rw[<-Bs];refine⟨?_,(hU.cell YW Qm.out.2).trans ar.out, ?_⟩
         ·rcases(by omega:i=0\/i=1)with rfl|rfl
          ·exact h1.cell 0
          exact h1.cell 1
         rcases(by omega:i=0\/i=1)with rfl|rfl
         ·exact h1.frozen 0
         exact h1.frozen 1
        have UX:Hid (ae ab o o.drew):=za (ae.refl _ _).drew;clear Bs hR hi hj;go_wp2_with fail
        have hHeld:=B.out _ UX.out;refine Uu B.out 16 (by kernel_rfl) (by kernel_rfl) ?_;refine GT.iv [0,1,2,3,4,5,6,7,8,9,10,11,12] hHeld (fun _ _ _ _ _ h=>h) (by kernel_rfl) ?_;refine .c rfl rfl (fun V b=>by go_simp<;>with_reducible rfl) ?_;simp only[Act.put,zb,zc,zd];refine .c (v:= .int .i64 j) rfl rfl (fun V b=>by go_simp<;>with_reducible rfl) ?_;try simp only[Act.put,zb,zc,zd];refine .c (v:= .int .i64 i) rfl rfl (fun V b=>by go_simp<;>with_reducible rfl) ?_;try simp only[Act.put,zb,zc,zd];refine .c rfl rfl (fun V b=>by go_simp<;>with_reducible rfl) ?_;simp only[Act.put,zb,zc,zd];refine .c (v:= .int .i64 j) rfl rfl (fun V b=>by go_simp<;>with_reducible rfl) ?_;try simp only[Act.put,zb,zc,zd];refine .c (v:= .int .i64 i) rfl rfl (fun V b=>by go_simp<;>with_reducible rfl) ?_;try simp only[Act.put,zb,zc,zd];iterate 7 (refine .c rfl rfl (fun V b=>by go_simp<;>with_reducible rfl) ?_;simp only[Act.put,zb,zc,zd])
        refine .nil ?_;refine GT.fx 13 (fun ah hK=> ?_) rfl (by kernel_rfl);go_simp;obtain⟨w7,NG⟩:=dY (o.alloc (.cells #[.string y.name] 9)).drew;have ke:Below o.heap.size o w7:=by rw[<-NG];exact((zi _ o).alloc (ze _) _).drew
        have NH:af w7 o.heap.size 9 #[.string y.name]:=by rw[<-NG];exact(af.new _ _ _).drew
        rw[NG];have Uq:ae ab o w7:=(ae.ai ke (ze _)).mono (by simp);refine hK.out _ _ (B.out w7 Uq) (fun hHeld=> ?_);clear hK ah;try simp only[Act.put,zb,zc,zd]
        refine GT.fx 14 (fun ah hK=> ?_) rfl (by kernel_rfl);have a':=A.out.tk.ps.places;have Jb:Hid (rW w7 L.base ti (rs i)):=za (by have:=(A.out.ac i cV).below ke;rwa [mJ.out]at this);have Ci:=za ke;have bm:=ke.size;have Up:(rs i).length<=1000000:=by
         have h1:=A.out.tk.sn i cV;rw[bp,zh]at h1;rw[I.out i cV,YG];omega
        refine s7 (by rfl) (.tmp 92) (.tmp 98) (by rfl) L.base (rs i) (by rfl) Jb.out y.name _ (by rfl) (NH.cell 0) Up (by omega) ?_;intro g' n' aj w8 QD dM bZ;have PV:Hid (ae ab o w8):=za (Uq.trans ((ae.cn dM).mono fun q hq=>by rw[<-py.out,mJ.out];exact hq));have DC:=za (A.out.app (i:=i) (v:= .slice (some (g',0)) n' aj) (r:=rs i++ [y.name]) cV Ci.out (by rw[mJ.out];exact dM) QD (fun q e=>by
         have e:g'=q:=by simpa[Value.ownBlock]using e
         subst e;rw[mJ.out];exact bZ))
        refine hK.out _ _ (B.out w8 PV.out) (fun hHeld=> ?_);clear hK ah;try simp only[Act.put,zb,zc,zd]
        refine GT.iv [15] hHeld (fun _ _ _ _ _ h=>h) (by kernel_rfl) ?_;refine .c rfl rfl (fun V b=>by go_simp<;>with_reducible rfl) ?_;simp only[Act.put,zb,zc,zd];refine .nil ?_;refine GT.oF 16 ?_ rfl (by kernel_rfl);clear QD dM bZ ke NH Uq NG;go_simp;have av:Hid (NtR w W (w8.setCell (D,i) (.slice (some (g',0)) n' aj)) D L c l (k+1) n1):=za ⟨⟨_,_,_,_,_,_,DC.out,fun q hq=>by
         by_cases e:q=i
         ·subst e;rw[bp,bp,I.out _ hq];simp
         ·rw[aS _ _ e,aS _ _ e];exact I.out q hq,by omega,by omega⟩,kO.out.trans ((PV.out.below (by have:=A.out.tk.ps.places;have:=O.out;omega) (fun q hq=>by
         have:=((A.out.ac i cV).ge q (aM.1 (by rw[py.out];exact hq))).1;have:=A.out.tk.ps.places;have:=O.out;omega)).setCell (by have:=(A.out.tk.ps.frg D (.inl rfl)).1;have:=A.out.tk.ps.places;have:=O.out;show _<=D;omega) _)⟩
        obtain⟨Z,Nj⟩:=dY (w8.setCell (D,i) (.slice (some (g',0)) n' aj));rw[Nj]at av⊢;clear Nj DC PV Jb Ci B mJ py UX kO A Qm ar;go_wp2;go_meet;case rel=>exact⟨rfl,av⟩
       rw[zf h0]at A;go_wp2;go_meet;case rel=>exact⟨rfl,za ⟨⟨_,_,_,_,_,_,A.out,I.out,by omega,by omega⟩,kO.out⟩⟩
     have aQ:¬(k:Int)<n1:=by omega
     go_wp2;go_meet;case rel=>exact⟨rfl,za ⟨⟨_,_,_,_,_,_,B.out,I.out,by omega,Ld⟩,C.out⟩⟩
    case rest=>
     obtain⟨rfl,HQ⟩:=hcut;obtain⟨V,T,aa,sn,rs,cX,Y,Pz,TU,Ld⟩:=HQ.out.h;have C:=za HQ.out.b;have B:=za Y;have I:=za Pz;clear Y Pz;by_cases dW:k<n2
     ·have aJ:(k:Int)<n2:=by omega
      have kN:k<QE.length:=by have:=IY.out;omega
      have dZ:=(z.out wc C.out).siz;obtain⟨gv,ov,rfl,aY,e0,aR⟩:=(z.out wc C.out).mv.at_ kN;obtain⟨u,hu⟩:=dY QE[k];rw[hu]at e0 aR;obtain⟨j,hj,aB⟩:∃j:Nat,j<2/\(u:Int)%2=(j:Int):=⟨u%2,by omega,by omega⟩
      obtain⟨m,hm⟩:∃m:Nat,(u:Int)/2%50=(m:Int):=⟨u/2%50,by omega⟩
      have j7:gv<wc.heap.size:=by omega
      have K:Hid (∀V,Below wc.heap.size wc V->V.cell? (gv,ov+k)=some (.int .u16 u)):=za fun V b=>(b.cell j7).trans e0
      have Qb:=za (fun V b=>rE (B.out.below (w':=V) b).tk HE.out (by omega) j hj m);have aE:(u:Int).tmod 2=(j:Int):=by rw[yW (by omega)];exact aB
      obtain⟨d,hd⟩:∃d:Nat,(u:Int)/2=(d:Int):=⟨u/2,by omega⟩
      have aZ:(u:Int).tdiv 2=(d:Int):=by rw[Int.tdiv_eq_ediv_of_nonneg (by omega)];exact hd
      have a8:(d:Int).tmod 50=(m:Int):=by rw[yW (by omega),<-hd];exact hm
      have bq:IntKind.i64.wrap (u:Int)=(u:Int):=by rw[Yp];omega
      have bd:IntKind.i64.wrap (d:Int)=(d:Int):=by rw[Yp];omega
      clear hu kN hd hm aB;go_upto_region 19 with fail
      have hHeld:=K.out _ (zi _ _).drew;refine Uu K.out 19 (by kernel_rfl) (by kernel_rfl) ?_;refine GT.iv [0,1,2,3,4,5,6,7,8,9,10,11,12,13] hHeld (fun _ _ _ _ _ h=>h) (by kernel_rfl) ?_;iterate 5 (refine .c rfl rfl (fun V b=>by go_simp<;>with_reducible rfl) ?_;simp only[Act.put,zb,zc,zd])
      refine .c (v:= .int .i64 u) rfl rfl (fun V b=>by go_simp<;>with_reducible rfl) ?_;try simp only[Act.put,zb,zc,zd];refine .c (v:= .int .i64 j) rfl rfl (fun V b=>by go_simp<;>with_reducible rfl) ?_;try simp only[Act.put,zb,zc,zd];iterate 4 (refine .c rfl rfl (fun V b=>by go_simp<;>with_reducible rfl) ?_;simp only[Act.put,zb,zc,zd])
      refine .c (v:= .int .i64 u) rfl rfl (fun V b=>by go_simp<;>with_reducible rfl) ?_;try simp only[Act.put,zb,zc,zd];refine .c (v:= .int .i64 d) rfl rfl (fun V b=>by go_simp<;>with_reducible rfl) ?_;try simp only[Act.put,zb,zc,zd];refine .c (v:= .int .i64 m) rfl rfl (fun V b=>by go_simp<;>with_reducible rfl) ?_;try simp only[Act.put,zb,zc,zd];refine .nil ?_;refine GT.fx 14 (fun ah hK=> ?_) rfl (by kernel_rfl);go_simp;refine(Qb.out wc.drew (zi _ _).drew).mono ?_;rintro e o ⟨V',D',m',rfl,Bo,G,-⟩;have ad:=B.out.below (zi _ wc).drew;have iV:=(ad.tk.ps.after G ad.tk.la ad.tk.lo).2;have aT:Hid (NtR w W o D L c l (k+1) n1):=za ⟨⟨_,_,_,_,_,_,ad.step G Bo,I.out,by omega,Ld⟩,C.out.drew.trans (iV.mono O.out)⟩;have e6:=(iV.cell (p:=(gv,ov+k)) (by have:=O.out;show gv<L.p;omega)).trans hHeld;go_wp2_with fail
      refine hK.out _ _ e6 (fun hHeld=> ?_);clear hK ah;try simp only[Act.put,zb,zc,zd]
      refine GT.iv [15,16,17,18] hHeld (fun _ _ _ _ _ h=>h) (by kernel_rfl) ?_;repeat(refine .c rfl rfl (fun V b=>by go_simp<;>with_reducible rfl) ?_;simp only[Act.put,zb,zc,zd])
      refine .nil ?_;refine GT.oF 19 ?_ rfl (by kernel_rfl);clear ad Bo G iV e6 Qb K B I C HQ;go_simp;go_wp2;go_roundw
      case rel=>exact⟨k+1,by omega,by go_num,aT.out⟩
      case measure=>simp[intOf];omega
     have aJ:¬(k:Int)<n2:=by omega
     go_wp2;go_roundw
     case rel=>exact⟨k+1,by omega,by go_num,HQ.out⟩
     case measure=>simp[intOf];omega
   have aO:¬(k:Int)<mx:=by omega
   obtain⟨V,T,aa,sn,rs,cX,Y,Pz,TU,Ld⟩:=F.out.h;have C:=za F.out.b;have B:=za Y;have I:=za Pz;have vE:cX<=60:=by omega
   clear Y Pz F TU Ld;go_wp2_with fail
   go_loopw [17] (fun i wr=>∃s:Nat,s<=2/\i= .int .i64 s/\∃V aa,MW wr D L V T c l aa sn rs cX/\Below (w.heap.size+1) W wr) (fun i _=>2-(intOf i).toNat)
   case atStart=>exact⟨0,by omega,rfl,_,_,B.out,C.out⟩
   case round=>
    clear B C V aa;obtain⟨s,Y,rfl,V,aa,hp,hb⟩:=hrel;have F:=za hp;have C:=za hb;by_cases X:s<2
    ·have Qb:=za (rE hp.tk HE.out vE s X 1048576);rw[show((1048576:Nat):Int)=1048576 from rfl]at Qb;clear hp hb;go_wp2_with fail
     refine Qb.out.mono ?_;rintro e o ⟨V',D',m,rfl,Bo,G,-,La⟩;obtain⟨g1,g2,g3,g4⟩:=Bo.got HE.out X (La (ze _));have A:=za (F.out.step G Bo);have kO:Hid (Below (w.heap.size+1) W o):=za (C.out.trans ((F.out.tk.ps.after G F.out.tk.la F.out.tk.lo).2.mono O.out));have Xo:=za (EA L V' _ c l D' s X o A.out.tk.ps (by rw[g1];exact g4) (by rw[g1];have:=A.out.tk.sn s X;omega));rw[g1]at Xo;have Fx:=za (fun U (hU:Below o.heap.size o U)=>Ig L V' _ c l D' s X U (A.out.tk.ps.below hU));have PM:=za (fun U (hU:Below o.heap.size o U)=>Dj L V' _ c l D' s X U (A.out.tk.ps.below hU));rw[g2]at Fx;rw[g3]at PM;rw[show((ByteArray.empty.size:Nat):Int)=0 from rfl]at Fx;clear Bo G La g1 g2 g3 g4 Qb;go_wp2_with fail
     refine Xo.out.mono ?_;rintro e w7 ⟨u,rfl,hu,ke⟩;have aG:=za hu.1;have Ci:=za ke;obtain⟨A7,n7,Xn,rfl,aq,bk,aX⟩:=bA.bK hu.1;clear hu ke Xo;go_wp2_with fail
     refine Rt (PM.out w7 Ci.out) ?_;go_wp2_with fail
     refine cm (Fx.out w7 Ci.out) fun Z rT=> ?_
     have Je:Hid (Below o.heap.size o Z):=za (Ci.out.trans (rT.mono Ci.out.size));have DC:=za (A.out.below Je.out);have aU:=za (aG.out.below rT);clear rT;obtain⟨At,nt,IS,WY,ay,ba,bf⟩:=rW.bK (DC.out.ac s X);have aP:n7=nt:=by have h:=ay.out;rw[I.out s X,YG]at h;have:=aq.out;omega
     subst aP;have ax:Z.cell? (D,s)=some (.slice At n7 IS):=by
      rw[<-WY];rcases(by omega:s=0\/s=1)with rfl|rfl
      ·exact DC.out.sb.cell 0
      exact DC.out.sb.cell 1
     obtain⟨_,_,_,h1,_,_,_,aA⟩:=bA.reads aU.out (S:=fun _=>True) (fun _ _=>trivial) (fun _ _=>trivial);injection h1 with hA1 Bc oe;clear Bc oe;subst hA1;have an:=(DC.out.ac s X).read;rw[WY]at an;have aH:=za aA;have TE:=za an;have s9:=za ax;clear aA an WY;go_wp2_with fail
     clear ax;go_loopw [19] (fun i wr=>∃q:Nat,q<=n7/\i= .int .i64 q/\Below Z.heap.size Z wr) (fun i _=>n7-(intOf i).toNat)
     case atStart=>exact⟨0,by omega,rfl,zi _ _⟩
     case round=>
      obtain⟨q,hq,rfl,rT⟩:=hrel;have Ff:=za rT;by_cases bb:q<n7
      ·have u':q<(sn s).length:=by have:=aq.out;omega
       have aw:q<(rs s).length:=by have:=ay.out;omega
       obtain⟨b1,o1,d0,d1,d2,d3,rfl,-,J,f1,f2,f3,dN⟩:=aH.out.at_ q u';obtain⟨b2,o2,rfl,-,g0⟩:=TE.out.at_ aw;obtain⟨x,hx⟩:=dY (sn s)[q].name;have M3:(rs s)[q]=x:=by
        have h:=yi (fun l=>l[q]?) (I.out s X);simpa[u',aw,hx]using h
       obtain⟨Ax,dC,rfl,rfl,rfl,rfl,_⟩:=dN.open_;rw[hx]at J;rw[M3]at g0;simp only[zK]at J;have Fq:b1<Z.heap.size:=lt_of_cell J;have s8:b2<Z.heap.size:=lt_of_cell g0;have K:Hid (∀V,Below wr.heap.size wr V->Below Z.heap.size Z V/\V.cell? (b1,o1+q*4)=some (.string x)/\V.cell? (b2,o2+q)=some (.string x)/\V.cell? (D,s)=some (.slice (some (b2,o2)) n7 IS)):=za fun V b=>by
        have b:=Ff.out.trans (b.mono Ff.out.size);exact⟨b,(b.cell Fq).trans J,(b.cell s8).trans g0,(b.cell (lt_of_cell s9.out)).trans s9.out⟩
       clear J f1 f2 f3 g0 dN hx M3 rT;go_wp2_with fail
       refine fX (by kernel_rfl) (by kernel_rfl) ?_;refine ag (.slice (some (b1,o1)) n7 Xn) (by rfl) (fun _ _=>by first|rfl|go_simp) ?_;simp only[Act.put,zb,zc,zd];refine ag (.int .i64 q) (by rfl) (fun _ _=>by first|rfl|go_simp) ?_;simp only[Act.put,zb,zc,zd];refine ag (.pointer (some (b1,o1+q*4))) (by rfl) (fun _ _=>by first|rfl|go_simp) ?_;simp only[Act.put,zb,zc,zd];refine ag (.pointer (some (b1,o1+q*4))) (by rfl) (fun _ _=>by first|rfl|go_simp) ?_;simp only[Act.put,zb,zc,zd];refine ag (.string x) (by rfl) (fun V b=>by have J:=(K.out V b).2.1;go_simp) ?_;simp only[Act.put,zb,zc,zd];refine ag (.int .i64 s) (by rfl) (fun _ _=>by first|rfl|go_simp) ?_;simp only[Act.put,zb,zc,zd];refine ag (.pointer (some (D,s))) (by rfl) (fun _ _=>by first|rfl|go_simp) ?_;simp only[Act.put,zb,zc,zd];refine ag (.slice (some (b2,o2)) n7 IS) (by rfl) (fun V b=>by have J:=(K.out V b).2.2.2;go_simp) ?_;simp only[Act.put,zb,zc,zd];refine ag (.int .i64 q) (by rfl) (fun _ _=>by first|rfl|go_simp) ?_;simp only[Act.put,zb,zc,zd];refine ag (.pointer (some (b2,o2+q))) (by rfl) (fun _ _=>by first|rfl|go_simp) ?_;simp only[Act.put,zb,zc,zd];refine ag (.string x) (by rfl) (fun V b=>by have J:=(K.out V b).2.2.1;go_simp) ?_;simp only[Act.put,zb,zc,zd];refine ag (.bool false) (by rfl) (fun _ _=>by first|rfl|go_simp) ?_;simp only[Act.put,zb,zc,zd];refine xr ?_;intro V b;have IL:=za (K.out V b).1;go_wp2;go_roundw
       case rel=>exact⟨q+1,by omega,by go_num,IL.out⟩
       case measure=>simp[intOf];omega
      clear rT;go_wp2;go_roundw
      case rel=>exact⟨s+1,by omega,by go_num,_,_,DC.out.below Ff.out,kO.out.trans ((Je.out.trans (Ff.out.mono Je.out.size)).mono (by have:=(z.out o kO.out).siz;omega))⟩
      case measure=>simp[intOf];omega
    clear hp hb;go_wp2;go_ret;exact⟨rfl,(z.out wr C.out).bel⟩
theorem EN (c:aF)(l:List aV)(u:Value)(said:List Ms)(b:Value)(h:List Nat)(d:Value)(W:World)(o:c.ok)(i:oA W W.heap.size u l/\∀e∈l,sZ e)(n:Qd W W.heap.size b said)(k:Qe W W.heap.size d h)(j:Laid W/\aW W):
 Calls prog 5 #[c.val,u,b,d] W fun e w'=>e= .returned true/\(W,w'):=
 EM c l u said b h d W o i.1 (fun e m=>(i.2 e m).id) n k j.1 j.2
open Go.ChangeShapes Go.WideShapes Go.ChangeAt Go.RowKit
theorem KS {enc:TypeId×Value->H}{C:Nat}{spare:Nat->Bool}{d:DataW H}{F:List MemPlace}(J:Value.okWide prog w r C 42 v)(hd:DataW.Trod enc prog w base spare held 42 v d F):
 ∃(l:List Ms) (u:Value),v=u/\Qd w w.heap.size u l:=by
 obtain⟨l,A,cap,rfl,p,q,z⟩:=wX 4 (by decide) xg nV (fun(y:Ms) s=>∃(b i c:Value),s= [(y.name:Value),b,i,c]/\y.name.size<=9223372036854775807/\bH w w.heap.size y.x b i c) (fun m I x h=>by
  obtain⟨n,y,b,i,c,e,p,q⟩:=Hp m I x h;exact⟨⟨n,y⟩,b,i,c,e,by simpa[maxLen]using p,q⟩) J hd
 refine⟨l,_,rfl,A,cap,rfl,p,q,fun j D=> ?_⟩;obtain⟨g,o,s,B,E,⟨b,i,c,rfl,G,hi⟩,k⟩:=z j D;exact⟨g,o,b,i,c,B,E,k 0 (by decide),k 1 (by decide),k 2 (by decide),k 3 (by decide),G,hi⟩
theorem Iq :prog.cellsOf 59=1:=by kernel_rfl
theorem wf_u16 {n:Int}(h:(Lit.int .u16 n).wf=true):∃k:Nat,n=(k:Int)/\k<65536:=by
 have h:0<=n/\n<=65535:=by simpa[Lit.wf,IntKind.min,IntKind.max,IntKind.signed,IntKind.bits]using h
 exact⟨n.toNat,by omega,by omega⟩
theorem KT {enc:TypeId×Value->H}{q:Nat}{spare:Nat->Bool}{d:DataW H}{C:List MemPlace}(G:Value.okWide prog w r q 55 v)(hd:DataW.Trod enc prog w base spare held 55 v d C):
 ∃(l:List Nat) (u:Value),v=u/\Qe w w.heap.size u l:=by
 obtain⟨l,A,cap,rfl,z,D,c⟩:=wX 1 (by decide) underlying55 Iq (fun(y:Nat) b=>b= [Value.int .u16 y]/\y<65536) (fun m I x h=>by
  obtain⟨n,e,_,g⟩:=yX underlying59 h;obtain⟨k,rfl,p⟩:=wf_u16 g;exact⟨k,e,p⟩) G hd
 refine⟨l,_,rfl,A,cap,rfl,z,D,fun j s=> ?_⟩;obtain⟨g,o,b,i,B,⟨rfl,E⟩,F⟩:=c j s;exact⟨g,o,i,B,by simpa using F 0 (by decide),E⟩
