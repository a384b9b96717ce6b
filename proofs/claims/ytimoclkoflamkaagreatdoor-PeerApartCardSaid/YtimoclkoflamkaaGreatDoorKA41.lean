/- session.Feed. -/
import Derived.Test.YtimoclkoflamkaaGreatDoorKA39
set_option linter.all false
set_option maxRecDepth 100000
set_option maxHeartbeats 16000000
open Go.Proofs.Tryz
namespace Go.Proofs.YtimoclkoflamkaaGreatDoor
open Go.RowKit
variable {w w':World}{base k n:Nat}{H:Type}{held:Bool}{l:List bj}{nm:ByteArray}{v:Value}{x:It}{E:TypeId}{A:Option Addr}{L:mw}{r:Reach}{d:DataW H}{a:Addr}
def Ya:=@DataW.trod_string
theorem AR (n hi g:Nat)(d:Value)(c:aM)(l:List bj)(x:iZ)(sent:Nat)(s:ByteArray)(w:World)(h:fq w n hi g d c l x sent)(z:x.fault≠0):
 Calls prog 35 #[(g,0),s] w fun e w'=>e= .returned (.tuple #[nS,x.fault])/\fq w' n hi g d c l {x with laid:=0} sent/\ae [g] w w':=by
 obtain⟨F,B,C,rows,E,u,o,b,y⟩:=h.reg;have m:=h.buf;have M:=b.lt;have N:(x.fault !=0)=true:=yN.2 z;have I:=za b;have r:=m.cx b (by decide);have i:ae [g] w (w.setCell (g,4) (0:Int)):=(ae.refl [g] w).setCell (p:=(g,4)) (.inl (by simp)) _;have D:=h.GS;have A:Hid (∀k,fq ((w.setCell (g,4) (0:Int)).drewN k) n hi g d c l {x with laid:=0} sent):=za (fun k=>⟨h.lohi,h.GS,⟨F,B,C,rows,E,(u.only i (by simp;omega)).below (Below.bF (zm _ _) k),o,(fg.C8 b 0).drewN k,y⟩,(m.qf i (by intro j e q;simp at q;subst q;exact r e)).below (Below.bF (zm _ _) k)⟩);obtain⟨G,J,H,L,K,R,O⟩:=b.parts;obtain⟨_,_,_,f9,_,_⟩:=b.C7;clear b m y r z u o i D h;go_enter func35,ntmps35
 go_wp2_with fail
 go_quiet (fail)
 go_wp2;refine zl (v:= .tuple #[nS,x.fault]) (by simp[results,results35,go_sem]) rfl ?_;exact⟨rfl,A.out _,ae.drewN ((ae.refl _ _).setCell (.inl (by simp)) _) _⟩
theorem Dy (B hi g:Nat)(bv:Value)(c:aM)(l:List bj)(x:iZ)(sent:Nat)(s:ByteArray)(w:World)(hr:c.right=true)(hc:c.ok)(h:fq w B hi g bv c l x sent)(hL:Laid w)(iY:ba w)(Rq:1<B)(Ch:0<B)(h0:x.fault=0)(hs:x.buf.size+s.size<=5000000)(ht:x.told<=1000000000):
 Calls prog 35 #[(g,0),s] w fun e w'=>∃rv F,e= .returned (.tuple #[rv,.int .i64 (kK (aQ c l) x s).2.2])/\bL w' (fun j=>w.heap.size<=j/\F.ownBlock≠some j) w.heap.size (kK (aQ c l) x s).2.1 rv/\fq w' B hi g F c l (kK (aQ c l) x s).1 sent/\ae (rF g bv) w w'/\(∀k,F.ownBlock=some k->bv.ownBlock=some k\/w.heap.size<=k):=by
 obtain⟨y,gn,gi,rows,H,hM,qT,C,uF⟩:=h.reg;have D:=h.buf;have ma:=h.GS;have aI:=h.lohi;clear h;have R5:hi<=w.heap.size:=by have:=C.lt;omega
 obtain⟨b,fl,ld,q⟩:=x;simp only at h0 C D uF hs ht;subst h0;rw[hZ rfl];simp only;have aj:=Pm c l (b++s);rw[bT]at aj;have Af:=WO c l (b++s);rw[bT]at Af;obtain⟨X,hX⟩:∃X,split (aQ c l) (b++s)=X:=⟨_,rfl⟩
 rw[hX]at aj Af⊢;obtain⟨ml,tl,m,er⟩:=X;simp only at aj Af⊢;have HX:=za hX;clear hX;have Ai:=C.lt;have bY:=D.cx C (by decide);have hf:=D.form;rw[aa]at hf;obtain⟨A,cap,rfl,uB,kr⟩:=hf;obtain⟨p,M⟩:∃p,w.setCell (g,4) (0:Int)=p:=⟨_,rfl⟩
 have uL:ae [g] w p:=by rw[<-M];exact(ae.refl _ _).setCell (.inl (by simp)) _
 have cw:p.heap.size=w.heap.size:=by rw[<-M];simp[World.setCell]
 have cO:Hid (fg p g y (.slice A b.size cap) H 0 0 q sent):=za (by rw[<-M];exact fg.C8 C 0);have au:Hid (bP p hi 5 (.slice A b.size cap) b.data.toList):=za (D.qf uL (by intro j e d;simp at d;subst d;exact bY e));have ak:=za uL;have VL:=za (uF rfl);have ot:=za D;have Sq:Hid (∀k,(Value.slice A b.size cap).ownBlock=some k->k<w.heap.size):=za (fun k e=>(D.ge k e).2.1);have Oy:=za bY;obtain⟨p0,p6,p7,p8,p9,aH,aK⟩:=C.parts;obtain⟨_,_,_,f9,_,_⟩:=C.C7;obtain⟨i0,aR,dF,aN,cF⟩:=yz o5;have aE:=za (I7 9223372036854775807 p);have gN:=za M;have Hd:=za hM;have uK:=za qT;have aq:=za (And.intro hL iY);have Oc:B<=g:=by omega
 clear C D uF bY uL M hM qT hL iY;go_enter func35,ntmps35
 go_wp2_with fail
 rw[gN.out];clear p0 p6 p7 p8 p9 aH aK f9;refine aE.out.mono ?_;rintro e I ⟨rfl,uJ⟩;have R:Below p.heap.size p I:=by rw[uJ];exact(zm _ _).alloc (zd _) _
 have Cx:tM I p.heap.size 9223372036854775807 0 0 0:=by rw[uJ];exact ag.new _ _ _
 obtain⟨n,RP⟩:∃n,p.heap.size=n:=⟨_,rfl⟩
 have HT:=za (qB n 9223372036854775807 0 0 0 s.size I (by rw[<-RP];exact Cx) (by omega) (by omega) (by omega));have ep:Hid (fg I g y (.slice A b.size cap) H 0 0 q sent):=za (cO.out.ah R cO.out.lt);have az:=za (au.out.below R);have NT:Hid (ae [g] w I):=za (ak.out.trans' (ae.ai R (zd _)) (by simp));have ad:n≠g:=by omega
 have aJ:w.heap.size<=n:=by omega
 have py:n<I.heap.size:=by have:=Cx.lt;omega
 rw[RP];clear uJ Cx R cO au ak aE RP cw gN;go_wp2_with fail
 refine HT.out.mono ?_;rintro e w3 ⟨rfl,af,U⟩;simp only[zJ]at af;have gy:Hid (fg w3 g y (.slice A b.size cap) H 0 0 q sent):=za (ep.out.only U (by simpa using Zf ad));have Of:=za (az.out.qf U (by intro j e d;simp at d;subst d;have:=Sq.out j e;omega));have Y:Hid (ae [g] w w3):=za (NT.out.trans' U (by simp;omega));have SW:=za af;obtain⟨_,p6,_,_,_,_,_⟩:=gy.out.parts;have bJ:hi<=w3.heap.size:=by have:=Y.out.size;omega
 have qW:w.heap.size<=w3.heap.size:=Y.out.size;have JJ:g<w3.heap.size:=gy.out.lt;clear U af ep az NT HT;go_wp2_with (
  at_builtin
  refine ch (by rfl) (.tmp 31) (.tmp 32) 75 9 (by rfl) hi 5 i0 zq aR dF aN cF (by rfl) Of.out _ s.data.toList (by rfl) (iz zM w3 s) bJ (by rw[aa,aa];omega) ?_;intro u z r E cT An;have G:Hid (fg E g y (.slice A b.size cap) H 0 0 q sent):=za (ag.Sr gy.out An Oy.out);have aF:tM E n 9223372036854775807 s.size s.size (max 0 s.size):=ag.Sr SW.out An (fun e=>by have:=Sq.out _ e;omega);have SU:=za aF;have GQ:=za An;have Bh:Hid (bP E hi 5 (.slice u z r) (b++s).data.toList):=za (by rw[aW];exact cT);obtain⟨_,aV,_,_,_,_,_⟩:=G.out.parts;obtain⟨aP,_,_,_,_,_⟩:=G.out.C7;have a1:g<E.heap.size:=G.out.lt;clear cT An aF)
 obtain⟨o,L⟩:∃o,E.setCell (g,1) (.slice u z r)=o:=⟨_,rfl⟩
 rw[L];have W:ae [g] E o:=by rw[<-L];exact(ae.refl _ _).setCell (.inl (by simp)) _
 have fD:Hid (fg o g y (.slice u z r) H 0 0 q sent):=za (by rw[<-L];exact fg.II G.out _);have J:Hid ((Value.slice u z r).ownBlock≠some g/\(Value.slice u z r).ownBlock≠some n/\∀k,(Value.slice u z r).ownBlock=some k->(Value.slice A b.size cap).ownBlock=some k\/w.heap.size<=k):=za ⟨Bh.out.cx G.out (by decide),Bh.out.cx SU.out (by decide),fun k e=>by
  rcases GQ.out.own with h|⟨j,h,d⟩
  ·exact .inl (by rw[<-h];exact e)
  rw[h]at e;injection e with e;exact .inr (by omega)⟩
 have aC:Hid (bP o hi 5 (.slice u z r) (b++s).data.toList):=za (Bh.out.qf W (by intro j e d;simp at d;subst d;exact J.out.1 e));have LG:tM o n 9223372036854775807 s.size s.size (max 0 s.size):=ag.only SU.out W (by simpa using ad);have N':Hid (ae (rF g (.slice A b.size cap)) w o):=za (((Y.out.mono (by simp[rF])).trans' GQ.out.only (fun i hi=> .inl (eT.2 (.inr (bV.1 hi))))).trans' W (by simp[rF]));have NX:E.heap.size=o.heap.size:=by rw[<-L];simp[World.setCell]
 have OB:w.heap.size<=o.heap.size:=N'.out.size;have av:hi<=n:=by omega
 have ai:Hid (∀k,(Value.slice A b.size cap).ownBlock=some k->hi<=k):=za (fun k e=>by have:=ot.out.ge k e;omega);have ax:Hid (kV o B hi y gn gi c rows):=za (Hd.out.only N'.out (fun k K=> .inr ((eT.1 K).elim (fun h=>by omega) (fun h=>ai.out k h))));have Bb:Hid (∀V,ae (n::g::(Value.slice u z r).ownBlock.toList) o V->Laid V/\ba V):=za (fun V hV=>by
  have oR:ae (n::g::(Value.slice A b.size cap).ownBlock.toList) w V:=(N'.out.mono (by intro i hi;rcases eT.1 hi with h|h<;>simp[h])).trans' hV (by
   intro i hi;simp only[yI,bV]at hi⊢;rcases hi with rfl|rfl|e
   ·exact .inl (.inl rfl)
   ·exact .inl (.inr (.inl rfl))
   rcases J.out.2.2 i e with h|h
   ·exact .inl (.inr (.inr h))
   exact .inr h)
  have hn:∀k,k<B->k∉(n::g::(Value.slice A b.size cap).ownBlock.toList):=fun k K hm=>by
   simp only[yI,bV]at hm;rcases hm with rfl|rfl|e
   ·omega
   ·omega
   have:=ai.out k e;omega
  exact⟨aq.out.1.only oR (hn _ Rq),aq.out.2.only oR (hn _ Ch)⟩)
 have ab:=za (Up c l B hi y gn gi rows g n (.slice u z r) (b++s) H 0 q sent s.size (9223372036854775807-s.size) o hr hc (by rw[bT];omega) ax.out uK.out fD.out aC.out ma ⟨_,_,_,LG,by omega,by omega,by omega⟩ ad av J.out.2.1 (by omega) (VL.out.more s) Bb.out);rw[HX.out]at ab;simp only at ab;clear L W G Bh fD aC LG SU Y p6 aV aP SW gy Of GQ;refine ab.out.mono ?_;rintro e w6 ⟨rv,F,aB,rfl,ah,N,ay,aT,ar,Wy,aG⟩;obtain⟨A6,O,fE,rfl,aD,aZ,a6⟩:=bL.cy ah;obtain⟨a7,u7,q7,ao,_⟩:=aT;have NS:=za (TU n a7 u7 (s.size+m) q7 w6 ao);obtain⟨_,_,_,_,p9,aH,_⟩:=fg.parts N;obtain⟨_,_,_,f9,f10,_⟩:=fg.C7 N;have aY:=N.lt;have aX:O<=20000000:=by rw[aD.out];omega
 have al:=za ah;have ua:=za N;have aw:=za ay;have aA:=za ar;have aS:=za Wy;have aU:=za aG;clear ah N ay ar Wy aG ao ab;go_wp2_with fail
 refine NS.out.mono ?_;rintro e w7 ⟨rfl,rfl⟩;go_wp2_with fail
 go_quiet (fail)
 go_wp2;obtain⟨W8,Z⟩:∃W8,(w6.setCell (g,4) (.int .i64 ((s.size:Int)+m))).setCell (g,5) (.int .i64 ((q:Int)+O))=W8:=⟨_,rfl⟩
 have S:ae [g] w6 W8:=by rw[<-Z];exact((ae.refl [g] w6).setCell (.inl (by simp)) _).setCell (.inl (by simp)) _
 have aL:fg W8 g y F aB er (s.size+m) (q+ml.length) sent:=by
  have e1:((s.size:Int)+m)=((s.size+m:Nat):Int):=by omega
  have e2:((q:Int)+O)=((q+ml.length:Nat):Int):=by rw[aD.out];omega
  rw[<-Z,e1,e2];exact fg.TA (fg.C8 ua.out _) _
 have aO:=aw.out.cx ua.out (by decide);rw[Z];clear Z;refine zl (v:= .tuple #[.slice A6 O fE,er]) (by simp[results,results35,go_sem]) rfl ?_;refine⟨.slice A6 O fE,F,rfl, ?_,⟨aI,ma,⟨y,gn,gi,rows,aB, ?_,uK.out,aL.drewN nq,aU.out⟩, ?_⟩, ?_, ?_⟩
 ·have h1:=(al.out.only S (fun j d hS=>by simp at d;have:=hS.1;omega) (fun j d e=>by have:=al.out.ge j e;simp at d;omega)).ef (S1:=fun j=>w.heap.size<=j/\F.ownBlock≠some j) (lo':=w.heap.size) (fun j _ hS=>⟨by have:=hS.1;omega,hS.2⟩) (by omega);exact h1.below (Below.bF (zm _ _) nq)
 ·refine((ax.out.only aA.out ?_).only S (by simp;omega)).below (Below.bF (zm _ _) nq);intro k K;simp only[yI,bV]at K;rcases K with rfl|rfl|e
  ·exact .inr av
  ·exact .inr ma
  rcases J.out.2.2 k e with h|h
  ·exact .inr (ai.out k h)
  exact .inr (by omega)
 ·exact(aw.out.qf S (by intro j e d;simp at d;subst d;exact aO e)).below (Below.bF (zm _ _) nq)
 ·refine ae.drewN ((N'.out.trans' aA.out ?_).trans' S (by simp[rF])) nq;intro i hi;simp only[yI,bV]at hi;rcases hi with rfl|rfl|e
  ·exact .inr aJ
  ·exact .inl (by simp[rF])
  rcases J.out.2.2 i e with h|h
  ·exact .inl (eT.2 (.inr h))
  exact .inr h
 intro k e;rcases aS.out k e with h|h
 ·exact J.out.2.2 k h
 exact .inr (by omega)
theorem QS (d hi g:Nat)(b:Value)(c:aM)(l:List bj)(x:iZ)(sent:Nat)(s:ByteArray)(w:World)(u:c.right=true)(C:c.ok)(h:fq w d hi g b c l x sent)(p:Laid w)(r:ba w)(D:1<d)(y:0<d)(z:x.buf.size+s.size<=5000000)(o:x.told<=1000000000):
 Calls prog 35 #[(g,0),s] w fun e w'=>∃rv m,e= .returned (.tuple #[rv,.int .i64 (kK (aQ c l) x s).2.2])/\bL w' (fun j=>w.heap.size<=j/\m.ownBlock≠some j) w.heap.size (kK (aQ c l) x s).2.1 rv/\fq w' d hi g m c l (kK (aQ c l) x s).1 sent/\ae (rF g b) w w'/\(∀k,m.ownBlock=some k->b.ownBlock=some k\/w.heap.size<=k):=by
 by_cases i:x.fault=0
 ·exact Dy d hi g b c l x sent s w u C h p r D y i z o
 refine(AR d hi g b c l x sent s w h i).mono fun e w' ⟨A,n,B⟩=>⟨.slice none 0 0,b, ?_, ?_, ?_,B.mono (by simp[rF]),fun k q=> .inl q⟩
 ·rw[jx i];exact A
 ·rw[jx i];exact bL.nil _ _ _
 rw[jx i];exact n
def cV :aM:=⟨2,0,9,9,2,9⟩
def cD :bj:=⟨5,⟨#[112,105,110,103]⟩,⟨#[117,56]⟩⟩
def oL :Ty:= .mk 1 1 [] 0
def fN :It:= .mk ⟨#[7]⟩ false []
theorem Cc :oL.may=true:=by simp[oL,Ty.may,Ty.count,Ty.deep,Ty.right,aZ,dD,bQ,fH]
theorem wL :cL cD.ty.data.toList=some oL:=by
 have h:aN 8 cD.ty.data.toList=some (oL,[]):=by rfl
 rw[wy h,Cc,zj rfl]
theorem Gm :cD.shape=oL:=by unfold bj.shape;rw[wL];rfl
theorem Gn :cV.right=true:=by decide
theorem Dz :oy cV [cD]=0:=by
 rw[sj Gn (by simp)];have b:gz cV [] cD=0:=by
  unfold gz;rw[zi (by decide),zi (by simp),zi (by simp),wL,zi (by simp),zi (by simp[cV])]
 simp[ja,b]
theorem QT :gq oL fN 2 9=0:=by
 rw[lK];refine⟨?_, ?_⟩
 ·unfold dZ;rw[Cc];simp[oL,fN,It.may,It.right,It.deep,It.count,dg,cH,aC,formed,It.dy,dK,qZ,gW,ByteArray.size]
 rw[o9];simp[fN,It.may,It.right,It.deep,It.count,dg,cH,aC,formed,ByteArray.size]
theorem wM :fN.fy= [7]:=by
 simp[fN,It.fy,ByteArray.size]
theorem NG :fA [cD] ⟨#[112,105,110,103]⟩=some cD:=by
 simp[fA,cD]
theorem Gp :bB cV [cD] ⟨#[112,105,110,103]⟩ fN=(⟨5,⟨#[]⟩,⟨#[7]⟩⟩,0):=by
 have b:bS cV oL fN=(⟨#[7]⟩,0):=by
  unfold bS;rw[zi (by simp[cV])];show(if gq oL fN 2 9=0 then _ else _,gq oL fN 2 9)=_
  rw[QT,zj rfl,wM]
 unfold bB;rw[NG];simp only[Gm,b];simp[cV,cD];rfl
theorem NH (w:World)(B:Nat)(t:ByteArray)(l:Bool)(h:t.size<=9223372036854775807):bI w B (.mk t l []) t l nS:=Px w B t l h
theorem NI :gR cV ⟨5,⟨#[]⟩,⟨#[7]⟩⟩=(⟨#[2,5,7]⟩,0):=by decide+kernel
theorem NJ :(bh cV ⟨#[2,5]⟩).1=2:=by decide+kernel
theorem lh :bA cV [cD] ⟨#[112,105,110,103]⟩ fN=(⟨#[2,5,7]⟩,0):=by
 unfold bA;rw[Gp,zi (by simp)];exact NI
theorem Uq :Mq [cD]:=fun e b=>by
 obtain rfl:=yL.1 b;simp[cD]
theorem wN :kK (aQ cV [cD]) iZ.new ⟨#[2,5]⟩=(⟨⟨#[2,5]⟩,0,2,0⟩,[],0):=by
 rw[hZ rfl,show iZ.new.buf++(⟨#[2,5]⟩:ByteArray)=⟨#[2,5]⟩from by decide,dm (du _ _) (kT.2 NJ)];rfl
theorem wO :cV.ok:=⟨by decide,by decide,by decide,by decide,by decide,by decide⟩
structure l9 (lo:Nat):Prop where
 a:1<lo
 b:0<lo
theorem Cd {e:Nat}{L:List Nat}(i:Laid w/\ba w)(d:l9 e)(c:ae L w w')(h:∀k∈L,e<=k):Laid w'/\ba w':=
 ⟨i.1.only c (fun b=>by have:=h _ b;have:=d.a;omega),i.2.only c (fun b=>by have:=h _ b;have:=d.b;omega)⟩
theorem addr_add (g o k:Nat):((g,o):Addr).add k=⟨g,o+k,none⟩:=by unfold Addr.add;split<;>simp_all
theorem Ur (A:Option Addr)(k a b c d:Nat):Hid (∀i,(Value.slice (A.map (fun x=>x.add k)) a b).ownBlock=some i->(Value.slice A c d).ownBlock=some i):=za fun i h=>by
 cases A with
 |none=>cases h
 |some x=>obtain⟨g,o,n⟩:=x;simp only[Option.map_some,Value.ownBlock]at h⊢;cases n<;>simp[Addr.add]at h⊢<;>first|exact h|(split at h<;>simp_all)
theorem Way.agR {cap:Nat}{l:List UInt8}(h:Way w base E (.slice A n cap) l)(c:k<=n)(q:cap≠k):Way w base E (.slice (A.map (fun x=>x.add k)) (n-k) (cap-k)) (l.drop k):=by
 have b:=h;obtain⟨m,o,d,i,p,e⟩:=b;injection d with hA hn SE;subst hA;subst SE;rcases e with⟨rfl,rfl⟩|⟨g,off,j,r,rfl,_⟩
 ·omega
 rw[Option.map_some,addr_add];exact h.cut c (.inl rfl)
theorem Way.agS {l:List UInt8}(h:Way w base E (.slice A n k) l)(c:k<=n):Way w base E (.slice A (n-k) 0) (l.drop k):=by
 have b:=h;obtain⟨j,o,d,i,p,e⟩:=b;injection d with hA hn SE;subst hA;subst SE;rcases e with⟨rfl,rfl⟩|⟨g,off,m,q,rfl,_⟩
 ·have:l= []:=zo (by omega);subst this;subst hn;exact Way.nil _ _ _
 have:=h.cut c (.inr ⟨rfl,rfl⟩);rwa [Zd]at this
def gC.move (D:gC)(c:aM)(l:List bj)(j k:Nat):gC:=⟨iU D.x j (kK (aQ c l) (D.x j) ((D.way j).extract 0 k)).1,D.sent,iU D.way j ((D.way j).extract k (D.way j).size),iU D.got j (D.got j++(kK (aQ c l) (D.x j) ((D.way j).extract 0 k)).2.1)⟩
theorem NK (L:mw)(V:Nat->Value)(Fr:Nat->Prop)(c:aM)(l:List bj)(D:gC)(j:Nat)(d:j<2)(n:Nat)(k:Nat)(C:k=min n (D.way j).size)(nb b:Nat)(w:World)(h:gT w L V Fr c l D)(hr:c.right=true)(hc:c.ok)(hL:Laid w/\ba w)(jV:l9 L.p)
 (hn:ag w nb 3 #[n]) (ht:ag w b 3 #[(0:Int)]) (N3:Fr b) (hx:(D.x j).fault=0) (hz:(D.x j).buf.size+k<=5000000) (aH:(D.x j).told<=1000000000) (ks:(D.got j).length+(kK (aQ c l) (D.x j) ((D.way j).extract 0 k)).2.1.length<=1000000):
 Calls prog 33 #[(L.p,j*3),(nb,0),(b,0)] w fun e w'=>∃V',e= .returned (.int .i64 (kK (aQ c l) (D.x j) ((D.way j).extract 0 k)).2.2)/\gT w' L V' Fr c l (D.move c l j k)/\l6 w w' L V V' [b]/\ag w' b 3 #[((kK (aQ c l) (D.x j) ((D.way j).extract 0 k)).2.1.length:Nat)]:=by
 obtain⟨⟨q0,S,q2,q6⟩,f0,f1,f2⟩:=dz h.blk d;have K:=h.way j d;obtain⟨A,m,cap,hv,p,SB,kr⟩:=K.cy;have eM:=p.out;rw[aa]at eM;rw[hv]at S K;have uC:=ht.lt;have n0:=hn.cell 0;have y:=za h;have HV:=za hv;have HW:=za K;have aC:=za hL;have ai:=za jV;have HT:=za ht;have HX:=za hx;have HK:=za C;have al:=za (fun V' (hb:Below w.heap.size w V')=>ML (L.lo j) (L.hi j) (L.g j) (V j) c l (D.x j) (D.sent j) V' ((h.ses j d).below hb));rw[hx]at al;have aV:min (n:Int) (m:Int)=k:=by omega
 have af:k<=m:=by omega
 have aX:¬((n:Int)<0):=by omega
 obtain⟨U,H⟩:=gL ((D.way j).extract 0 k);have mD:Hid (∀V',Below w.heap.size w V'->(convert 75 9 (.slice A k cap)).run prog V'= .ok (.string U) V'):=za fun V' hb=>by
  have:=(K.ah (w':=V') fun i hi _=>hb.block i hi).str (P:=prog) (src:=75) (dst:=9) zq yt zM (cap2:=cap) af;rw[this,<-H];congr 2
  exact aF (by rw[aq];simp)
 rw[H]at ks⊢;have SF:=za ks;have aK:=za H;unfold gC.move;rw[H];clear K hv h eM hL jV hn ht hx C H ks;go_enter func33,ntmps33
 go_wp2_with fail
 refine cm0 (al.out w (zm _ _)) ?_;go_wp2_with fail
 go_quiet (fail)
 obtain⟨R,kH⟩:=gL (w.drewN nq);have I:Hid (w,R):=za (by rw[<-kH];exact Below.bF (zm _ _) nq);rw[kH];clear q0 S q2 q6 f0 f1 f2 n0 kH;have SS:=za (y.out.below I.out);have gN:=za (HW.out.ah fun k C _=>I.out.block k C);obtain⟨⟨q0,S,q2,q6⟩,f0,f1,f2⟩:=dz SS.out.blk d;rw[HV.out]at S;have gw:=mD.out R I.out;have JH:(0:Int)<=k:=by omega
 have qO:(k:Int)<=m:=by omega
 go_upto_region 7 with fail
 go_cut [6] (fun v wx=>v= .string U/\∃M n2 N,wx=R.setCell (L.p,j*3+1) (.slice M n2 N)/\Hid (Way R L.base 5 (.slice M n2 N) ((D.way j).data.toList.drop k))/\Hid (∀i,(Value.slice M n2 N).ownBlock=some i->(Value.slice A m cap).ownBlock=some i))
 case first=>
  by_cases ab:cap=k
  ·go_wp2_with fail
   go_meet;case rel=>exact⟨rfl,_,_,_,rfl,by have h:=gN.out;rw[ab]at h;exact h.agS af,za (by intro i h;rcases A with _|x;cases h;simpa[Value.ownBlock]using h)⟩
  go_wp2_with fail
  go_meet;case rel=>exact⟨rfl,_,_,_,rfl,gN.out.agR af ab,Ur _ _ _ _ _ _⟩
 case rest=>
  obtain⟨rfl,M,n2,N,Ow,tX,NT⟩:=hcut;obtain⟨v2,tW⟩:=gL (Value.slice M n2 N);rw[tW]at Ow tX NT;have X:ae [L.p] R wc:=by rw[Ow];exact(ae.refl _ _).setCell (.inl (by simp)) _
  have aI:ag wc L.p 80 (gX L (iU V (2+j) v2)):=by rw[Ow];exact gT.FC SS.out.blk d _
  have uN:=SS.out.PH X j d v2 ((D.way j).extract k (D.way j).size) (fun i hi=>by simp at hi;exact .inl (by omega)) (fun i e=> .inl (by rw[HV.out];exact NT.out i e)) aI (by
   rw[aq,cP];exact tX.out.ah fun i hi e=>X.block i hi fun p=>by
    simp only[yL]at p;subst p;exact tX.out.cx SS.out.blk (by decide) e)
  have dT:l6 w wc L V _ [b]:=(l6.below I.out).trans (l6.one X (2+j) (by omega) v2 (fun i hi=>by simp at hi;exact .inl hi) (fun i e=> .inl (by rw[HV.out];exact NT.out i e))) (by simp);have GM:∀i∈ [b]++jI L V,L.p<=i:=fun i hi=>by
   rcases yy.1 hi with e|e
   ·simp at e;subst e;have:=(y.out.frg i N3).1;have:=y.out.places;omega
   exact y.out.C9 i e
  have ak:=Cd aC.out ai.out dT.only GM;have ax:=y.out.places;have Oc:l9 (L.lo j):=by
   have:=ai.out.a;have:=ai.out.b;rcases(by omega:j=0\/j=1)with rfl|rfl<;>exact⟨by omega,by omega⟩
  have ab:U.size<=k:=by rw[<-aK.out,ar _ _ _ (by have:=HK.out;omega)];omega
  have ad:=za (QS (L.lo j) (L.hi j) (L.g j) _ c l (D.x j) (D.sent j) U wc hr hc (uN.ses j d) ak.1 ak.2 Oc.a Oc.b (by omega) aH);obtain⟨⟨p0,_,p2,_⟩,_,_,g2⟩:=dz aI d;have q:=za uN;have G7:=za dT;have aD:=za (y.out.rR HT.out (by decide) (by decide) (by decide) (by decide));have G9:Hid (ag wc b 3 #[(0:Int)]):=za ((HT.out.ah I.out uC).only X (fun p=>by simp at p;exact aD.out (cM.2 (.inl p))));obtain⟨V1,lz⟩:=gL (iU V (2+j) v2);have e1:V1 j=V j:=by rw[<-lz,bW _ _ (by omega)]
  have e4:V1 (4+j)=V (4+j):=by rw[<-lz,bW _ _ (by omega)]
  rw[lz]at ad q G7 aI;clear tW X uN dT GM ak ax Oc ab Ow tX NT q0 S q2 q6 f0 f1 f2 gw lz;go_wp2_with fail
  refine ad.out.mono ?_;rintro e w3 ⟨rv,r,rfl,ah,au,Z,qW⟩;have F:=q.out.IJ Z j d r _ (D.sent j) (fun i hi=>by
   rcases eT.1 hi with e|e
   ·exact .inr (.inr (.inl e))
   exact .inr (.inr (.inr e))) qW au
  have oQ:l6 w w3 L V _ [b]:=G7.out.trans (l6.one Z j (by omega) r (fun i hi=>by
   rcases eT.1 hi with e|e
   ·rcases(by omega:j=0\/j=1)with rfl|rfl
    ·exact .inr (.inl e)
    exact .inr (.inr (.inl e))
   exact .inr (.inr (.inr e))) qW) (by simp)
  obtain⟨o,J⟩:=gL (iU V1 j r);have e5:o (4+j)=V (4+j):=by rw[<-J,bW _ _ (by omega),e4]
  have e6:o j=r:=by rw[<-J,dO]
  rw[J]at F oQ;have G:=F.got j d;rw[e5]at G;obtain⟨A5,n5,c5,O,aR,aU,aS⟩:=G.cy;obtain⟨A6,n6,c6,rfl,aw,aT,aW⟩:=ah.cy;obtain⟨⟨_,_,aE,_⟩,_,_,aP⟩:=dz F.blk d;rw[e5,O]at aE;rw[O]at G;have Ox:Hid (ag w3 b 3 #[(0:Int)]):=za (G9.out.only Z fun p=>(q.out.rR G9.out (by decide) (by decide) (by decide) (by decide)) (cM.2 (by
   rcases eT.1 p with e|e
   ·rcases(by omega:j=0\/j=1)with rfl|rfl
    ·exact .inr (.inl e)
    exact .inr (.inr (.inl e))
   exact .inr (.inr (.inr ⟨j,by omega,e⟩)))))
  have SA:∀i,(wc.heap.size<=i/\r.ownBlock≠some i)->jH L.base Fr o i:=fun i hi=>by
   refine⟨zG q.out.low hi.1,fun hf=>by have:=(q.out.frg i hf).2.1;omega,fun a ha e=> ?_⟩;by_cases W:a=j
   ·subst W;rw[e6]at e;exact hi.2 e
   rw[<-J,bW _ _ W]at e;have:=(q.out.own a i ha e).2;omega
  have Rc:∀i,(Value.slice A5 n5 c5).ownBlock=some i->¬(wc.heap.size<=i/\r.ownBlock≠some i):=fun i e hi=>by
   rw[<-O,<-e4]at e;have:=(q.out.own (4+j) i (by omega) e).2;omega
  have av:=za G;have az:=za ah;have s:=za F;have pN:=za oQ;have aA:=za SA;have AZ:=za Rc;have ku:Hid (o (4+j)= .slice A5 n5 c5):=za (e5.trans O);have aB:=F.low;obtain⟨fs,D7⟩:=gL (kK (aQ c l) (D.x j) U);rw[D7]at az SF aw s;have aG:=za D7;clear ah au Z qW F oQ G SA Rc ad q G7 G9 e1 e4 e5 e6 p0 p2 g2 O aI D7 J;go_wp2_with (
   at_builtin
   refine pg (by rfl) (.tmp 53) (.tmp 54) (by rfl) (jH L.base Fr o) (fun i=>wc.heap.size<=i/\r.ownBlock≠some i) L.base wc.heap.size (D.got j) fs.2.1 (by rfl) av.out (by rfl) az.out aA.out AZ.out SF.out aB ?_;intro B E u w4 Uz An gB UW;have ey:Hid (ag w4 L.p 80 (gX L o)):=za (s.out.blk.grown gB (fun e=>by have:=av.out.ge _ e;have:=s.out.places;omega));obtain⟨⟨_,_,r2,_⟩,_,_,s2⟩:=dz ey.out d;have Y:Hid (ag w4 b 3 #[(0:Int)]):=za (Ox.out.grown gB fun e=>(s.out.rR Ox.out (by decide) (by decide) (by decide) (by decide)) (cM.2 (.inr (.inr (.inr ⟨4+j,by omega,by rw[ku.out];exact e⟩)))));have bY:b≠L.p:=Y.out.neT ey.out (by decide);have t0:=Y.out.cell 0;have tf:=Y.out.frozen 0;have aO:=Y.out.lt;have GQ:=za An;have aN:=za gB;have wW:=za UW;clear An gB UW)
  obtain⟨z,OB⟩:=gL (w4.setCell (L.p,j*3+2) (.slice B E u));obtain⟨w6,VT⟩:=gL (z.setCell (b,0) n6);have GG:ae [L.p] w4 z:=by rw[<-OB];exact(ae.refl _ _).setCell (.inl (by simp)) _
  have Aj:ae [b] z w6:=by rw[<-VT];exact(ae.refl _ _).setCell (.inl (by simp)) _
  rw[OB,VT];have ao:ag w6 b 3 #[n6]:=by rw[<-VT];exact(Y.out.only GG (by simp[bY])).store rfl
  have bC:∀i,(Value.slice B E u).ownBlock=some i->(o (4+j)).ownBlock=some i\/w3.heap.size<=i:=fun i e=>by
   rw[ku.out];rcases wW.out with h|⟨a,h,ha⟩
   ·exact .inl (by rw[<-h];exact e)
   rw[h]at e;injection e with e;exact .inr (by omega)
  have ho:ae (L.p::(o (4+j)).ownBlock.toList) w3 z:=by
   rw[ku.out];exact((ae.eR aN.out).mono fun k C=>List.mem_cons_of_mem _ C).trans' GG (by simp)
  have aj:∀i∈L.p::(o (4+j)).ownBlock.toList,i=L.p\/(o (4+j)).ownBlock=some i:=fun i hi=>by rcases yI.1 hi with e|e;exact .inl e;exact .inr (bV.1 e)
  have gZ:ag z L.p 80 (gX L (iU o (4+j) (.slice B E u))):=by rw[<-OB];exact gT.PI ey.out d _
  have ax:=s.out.places;have ay:=s.out.WY ho j d (.slice B E u) _ (fun i hi=>by rcases aj i hi with e|e;exact .inl (by omega);exact .inr (.inr e)) bC gZ ((GQ.out.WZ.ef (S1:=jH L.base Fr (iU o (4+j) (.slice B E u))) (fun i hi hS=>⟨hS.1.1,hS.1.2.1,fun a ha e=>by
   by_cases W:a=4+j
   ·subst W;rw[dO]at e;exact hS.2 e
   rw[bW _ _ W]at e;exact hS.1.2.2 a ha e⟩) (zd _)).only GG (fun i hi hS=>by simp at hi;subst hi;have:=hS.1;omega) (fun i hi e=>by simp at hi;subst hi;have:=(GQ.out.ge _ e).1;omega))
  have aJ:=za (ay.only Aj (fun i hi=>by simp at hi;subst hi;exact .inr N3));have aL:Hid (l6 w w6 L V _ [b]):=za ((pN.out.trans (l6.one ho (4+j) (by omega) (.slice B E u) (fun i hi=>by rcases aj i hi with e|e;exact .inl e;exact .inr (.inr (.inr e))) bC) (by simp)).trans (⟨Aj.mono (by simp),fun _ _ _ e=> .inl e⟩:l6 z w6 L _ _ [b]) (by simp));have Lp:=za ao;clear OB VT GG Aj ao bC ho aj gZ ay r2 s2 t0 tf;go_wp2;go_ret;rw[aG.out];refine⟨rfl,_, ?_,aL.out,by rw[<-aw.out];exact Lp.out⟩;have:=aJ.out;simp only[nk]at this;exact this
def QU (L:mw)(c:aM)(l:List bj)(D:gC)(j:Nat)(nm:ByteArray)(it:It):Int:=if(bA c l nm it).2≠0 then(bA c l nm it).2 else if L.room<(D.way (1-j)).size+(bA c l nm it).1.size then 5 else 0
def gC.send (D:gC)(L:mw)(c:aM)(l:List bj)(j:Nat)(nm:ByteArray)(it:It)(st:Nat->Nat):gC:=⟨D.x,st,if QU L c l D j nm it=0 then iU D.way (1-j) (D.way (1-j)++(bA c l nm it).1)else D.way,D.got⟩
def sdN (L:mw)(c:aM)(l:List bj)(D:gC)(j:Nat)(nm:ByteArray)(it:It):Nat:=if QU L c l D j nm it=0 then(bA c l nm it).1.size else 0
theorem NL (L:mw)(V:Nat->Value)(Fr:Nat->Prop)(c:aM)(l:List bj)(D:gC)(j:Nat)(K:j<2)(nm:ByteArray)(it:It)(B:Nat)(c0 c1 c2:Value)(b pb S nb:Nat)(w:World)(h:gT w L V Fr c l D)(hc:c.ok)(q:Laid w/\ba w)(jV:l9 L.p)
 (X:bI w B it c0 c1 c2) (hB:B<=L.p) (hm:ag w b 30 #[nm,c0,c1,c2]) (aq:Fr b) (hp:ag w pb 36 #[(L.p,0)]) (hs:ag w S 3 #[j]) (M:ag w nb 3 #[(0:Int)]) (ao:Fr nb)
 (wU:(D.way (1-j)).size<=1048576) (eu:D.sent j<=1000000000) (hl:c.fm≠1->it.fy.length<=1000000) (Wx:(bB c l nm it).1.ok) (O:(bA c l nm it).1.size<=1000000000):
 Calls prog 30 #[(L.p,j*3),(b,0),(pb,0),(S,0),(nb,0)] w fun e w'=>∃V' st,e= .returned (QU L c l D j nm it)/\(∀i,st i<=D.sent i+1)/\gT w' L V' Fr c l (D.send L c l j nm it st)/\l6 w w' L V V' [nb]/\ag w' nb 3 #[sdN L c l D j nm it]:=by
 obtain⟨Ax,dV,rfl,rfl,rfl,-⟩:=X.open_;have aB:=h.places;have ks:L.p<L.lo j:=by rcases(by omega:j=0\/j=1)with rfl|rfl<;>omega
 have hg:L.g j≠L.p:=by rcases(by omega:j=0\/j=1)with rfl|rfl<;>omega
 have ax:b≠L.g j:=by have:=(h.frg b aq).1;rcases(by omega:j=0\/j=1)with rfl|rfl<;>omega
 have G2:=za (h.rR M (by decide) (by decide) (by decide) (by decide));have ad:=za (h.rR hp (by decide) (by decide) (by decide) (by decide));have JZ:=za (h.rR hs (by decide) (by decide) (by decide) (by decide));have HH:=za h;have aw:=za M;have an:=za hp;have U5:=za hs;have F:=za (fun W (s:Below w.heap.size w W)=>QO (L.lo j) (L.hi j) (L.g j) (V j) c l (D.x j) (D.sent j) nm it B W _ _ _ hc ((h.ses j K).below s) (X.below (s.mono (by omega))) (by have:=s.size;omega) (q.1.below s q.1.pos) (q.2.below s q.2.pos) hl Wx eu);have C:Hid (∀V,ae [L.g j] w V->(V,L.p,j*3,L.g j,0)/\(V,b,0,nm)/\(V,b,1,it.text)/\(V,b,2,it.list)/\(V,b,3,Value.slice Ax it.sub.length dV)):=za fun W d=>by
  have h1:=(dz (h.blk.only d (by simpa using Zf hg)) K).1.1;have y:=hm.only d (by simpa using ax);exact⟨h1,y.cell 0,y.cell 1,y.cell 2,y.cell 3⟩
 unfold gC.send sdN QU;obtain⟨P,hP⟩:=gL (bA c l nm it);rw[hP]at F O⊢;obtain⟨T,E⟩:=P;simp only at F O⊢;obtain⟨R,HR⟩:=exh (if E≠0 then E else if L.room<(D.way (1-j)).size+T.size then 5 else 0);rw[HR.out];obtain⟨W',I⟩:=exh (if R=0 then iU D.way (1-j) (D.way (1-j)++T)else D.way);obtain⟨aA,o⟩:=exh (if R=0 then T.size else 0);rw[I.out,o.out];have af:ae [L.g j] w w.drew:=(ae.refl _ _).drew;have mD:Hid (∀a:Nat,a<=D.sent j+1->∀i,iU D.sent j a i<=D.sent i+1):=za fun a ha i=>by
  unfold iU;split
  ·rename_i e;rw[e];exact ha
  omega
 clear h hm hp hs M X q hl Wx hP;go_enter func30,ntmps30
 go_wp2_with fail
 have hHeld:=C.out _ af;refine wrl C.out 10 (by kernel_rfl) (by kernel_rfl) ?_;refine GT.jM [0,1,2,3,4] hHeld (fun _ _ _ _ _ h=>h) (by kernel_rfl) ?_;repeat(refine .c rfl rfl (fun V hV=>by go_simp<;>with_reducible rfl) ?_;simp only[Act.put,zb,ze,zg])
 refine .nil ?_;refine GT.gw 5 (fun ab x=> ?_) rfl (by kernel_rfl);go_simp;refine(F.out w.drew (zm _ _).drew).mono ?_;rintro e w3 ⟨rfl,Ad,ah⟩;have n:ae [L.g j] w w3:=af.trans ah;go_wp2_with fail
 refine x.out _ _ (C.out w3 n) (fun hHeld=> ?_);clear x ab;try simp only[Act.put,zb,ze,zg]
 refine GT.jM [6,7,8,9] hHeld (fun _ _ _ _ _ h=>h) (by kernel_rfl) ?_;repeat(refine .c rfl rfl (fun V hV=>by go_simp<;>with_reducible rfl) ?_;simp only[Act.put,zb,ze,zg])
 refine .nil ?_;refine GT.pF 10 ?_ rfl (by kernel_rfl);go_simp;obtain⟨z,uN⟩:=gL (if E=0 then D.sent j+1 else D.sent j);have ak:z<=D.sent j+1:=by rw[<-uN];split<;>omega
 rw[uN]at Ad;have aa:=HH.out.IJ n j K (V j) (D.x j) z (fun k hk=>by simp at hk;exact .inr (.inr (.inl hk))) (fun k e=> .inl e) Ad;simp only[nk]at aa;have r:L.g j∈jI L V:=cM.2 (by rcases(by omega:j=0\/j=1)with rfl|rfl;exact .inr (.inl rfl);exact .inr (.inr (.inl rfl)));have pN:Hid (l6 w w3 L V V [nb]):=za ⟨n.mono (by simp[r]),fun _ _ _ e=> .inl e⟩;have J:=za aa;have El:=za (aw.out.only n (by simp;rintro rfl;exact G2.out r));have DP:=za (an.out.only n (by simp;rintro rfl;exact ad.out r));have gy:=za (U5.out.only n (by simp;rintro rfl;exact JZ.out r));have G:=za (mD.out z ak);obtain⟨st,aj⟩:=gL (iU D.sent j z);rw[aj]at G J;clear uN ak Ad aa n ah hHeld aj mD F C r;rcases eN E with⟨m,z1,z2⟩|⟨m,z1,z2⟩
 ·subst m;have hR:(if L.room<(D.way (1-j)).size+T.size then(5:Int)else 0)=R:=by have:=HR.out;rwa [zi (by simp:¬(0:Int)≠0)]at this
  have hD:(if L.room<(D.way (1-j)).size+T.size then(⟨D.x,st,D.way,D.got⟩:gC)else⟨D.x,st,iU D.way (1-j) (D.way (1-j)++T),D.got⟩)=⟨D.x,st,W',D.got⟩:=by
   rw[<-I.out,<-hR];by_cases h:L.room<(D.way (1-j)).size+T.size
   ·rw[zj h,zj h,zi (by decide)]
   rw[zi h,zi h,zj rfl]
  have SO:Hid (∀W,gT W L V Fr c l ⟨D.x,st,D.way,D.got⟩->Calls prog 32 #[(L.p,0),(L.p,(1-j)*3),T] W fun e w'=>∃V',e= .returned R/\gT w' L V' Fr c l ⟨D.x,st,W',D.got⟩/\l6 W w' L V V' []):=za fun W d=>by
   have:=T7 L V Fr c l ⟨D.x,st,D.way,D.got⟩ (1-j) (by omega) T W d wU O;unfold Jp at this;rw[hR,hD]at this;exact this
  obtain⟨ji,N⟩:=gL (j:Int);rw[N]at gy;have Y:Hid (∀W,ae ([]++jI L V) w3 W->(W,pb,0,L.p,0)/\(W,S,0,ji)):=za fun W d=>⟨(DP.out.only d ad.out).cell 0,(gy.out.only d JZ.out).cell 0⟩
  have al:Hid (∀W,ae ([]++jI L V) w3 W->ag W nb 3 #[(0:Int)]):=za fun W d=>El.out.only d G2.out
  have lq:ae ([]++jI L V) w3 w3.drew:=(ae.refl _ _).drew;clear hR hD;have av:=za lq;have az:IntKind.i64.wrap 1=1:=rfl;have ay:IntKind.i64.wrap 0=0:=rfl;rcases(by omega:j=0\/j=1)with rfl|rfl;all_goals
   simp at N;subst N;simp only[Nat.sub_zero,Zd,Nat.zero_mul,Nat.one_mul]at SO;go_wp2_with fail
   have hHeld:=Y.out _ lq;refine wrl Y.out 9 (by kernel_rfl) (by kernel_rfl) ?_;refine GT.jM [0,1,2,3,4,5,6,7] hHeld (fun _ _ _ _ _ h=>h) (by kernel_rfl) ?_;repeat(refine .c rfl rfl (fun V hV=>by go_simp<;>with_reducible rfl) ?_;simp only[Act.put,zb,ze,zg])
   refine .nil ?_;refine GT.gw 8 (fun ab x=> ?_) rfl (by kernel_rfl);go_simp;refine(SO.out w3.drew (J.out.below (zm _ _).drew)).mono ?_;rintro e p ⟨u,rfl,Rp,Z⟩;have uI:=av.out.trans Z.only;go_wp2_with fail
   refine x.out _ _ (Y.out p uI) (fun hHeld=> ?_);clear x ab;try simp only[Act.put,zb,ze,zg]
   refine GT.pF 9 ?_ rfl (by kernel_rfl);go_simp;have Cy:=za Rp;have ai:l6 w3 p L V u [nb]:=(l6.below (zm _ _).drew).trans Z (by simp);have He:=za (pN.out.trans ai (by simp));have A:=za (al.out p uI);clear Rp Z ai uI hHeld lq;rcases eN R with⟨m,y1,y2⟩|⟨m,y1,y2⟩
   ·subst m;rw[zj rfl]at o;have t0:=A.out.cell 0;have tf:=A.out.frozen 0;obtain⟨U,H⟩:=gL (p.setCell (nb,0) T.size);have GG:ae [nb] p U:=by rw[<-H];exact(ae.refl _ _).setCell (.inl (by simp)) _
    have ua:Hid (ag U nb 3 #[T.size]):=za (by rw[<-H];exact A.out.store rfl);have ar:=za (Cy.out.only GG (by simp[ao]));have au:=za (He.out.trans (⟨GG.mono (by simp),fun _ _ _ e=> .inl e⟩:l6 p U L u u [nb]) (by simp));have oS:=za H;clear H GG;go_wp2;rw[oS.out];go_ret;exact⟨rfl,u,st,G.out,ar.out,au.out,by rw[<-o.out];exact ua.out⟩
   rw[zi m]at o;go_wp2;go_ret;exact⟨u,st,rfl,G.out,Cy.out,He.out,by rw[<-o.out];exact A.out⟩
 obtain rfl:E=R:=by rw[<-HR.out,zj m]
 rw[zi m]at I o;go_wp2;go_ret;exact⟨V,st,rfl,G.out,by rw[<-I.out];exact J.out,pN.out,by rw[<-o.out];exact El.out⟩
theorem wP (L:mw)(V:Nat->Value)(Fr:Nat->Prop)(c:aM)(l:List bj)(D:gC)(j:Nat)(u:j<2)(n:Nat)(k:Nat)(A:k=min n (D.way j).size)(w:World)(h:gT w L V Fr c l D)(y:c.right=true)(G:c.ok)(d:Laid w/\ba w)(r:l9 L.p)
 (hx:(D.x j).fault=0) (hz:(D.x j).buf.size+k<=5000000) (B:(D.x j).told<=1000000000) (E:(D.got j).length+(kK (aQ c l) (D.x j) ((D.way j).extract 0 k)).2.1.length<=1000000):
 Calls prog 12 #[(L.p,0),j,n] w fun e w'=>∃V',e= .returned (.tuple #[((kK (aQ c l) (D.x j) ((D.way j).extract 0 k)).2.1.length:Nat),(kK (aQ c l) (D.x j) ((D.way j).extract 0 k)).2.2])/\gT w' L V' Fr c l (D.move c l j k)/\l6 w w' L V V' []:=by
 obtain⟨W,b⟩:=gL ((w.alloc (.cells #[n] 3)).alloc (.cells #[(0:Int)] 3));have m:Below w.heap.size w W:=by rw[<-b];exact((zm _ w).alloc (zd _) _).alloc (by simp) _
 have M:W.heap.size=w.heap.size+2:=by rw[<-b];simp
 have x:ag W w.heap.size 3 #[n]:=by rw[<-b];exact(ag.new w _ _).alloc _
 have s:ag W (w.heap.size+1) 3 #[(0:Int)]:=by rw[<-b];exact ag.at_ (by simp)
 have q:gT W L V (fun i=>Fr i\/i=w.heap.size\/i=w.heap.size+1) c l D:=h.grow (T:= []) (ae.ai m (zd _)) (by simp) fun i hi=>by
  rcases hi with a|a|a
  ·have:=(h.frg i a).2.1;exact⟨.inl a,by omega⟩
  ·exact⟨.inr (by omega),by omega⟩
  exact⟨.inr (by omega),by omega⟩
 have H:=za (MK L.p j u w.heap.size (w.heap.size+1) W _ _ (cex (NK L V _ c l D j u n k A w.heap.size (w.heap.size+1) W q y G ⟨d.1.below m d.1.pos,d.2.below m d.2.pos⟩ r x s (.inr (.inr rfl)) hx hz B E)));obtain⟨F,hF⟩:=gL (kK (aQ c l) (D.x j) ((D.way j).extract 0 k));rw[hF]at H⊢;have K:=za m;have J:=za b;clear h q d r x s A m M b hF E B hz hx y G;go_enter func12,ntmps12
 go_wp2_with fail
 rw[J.out];refine cm H.out fun w3 N=> ?_
 obtain⟨V',C,z,I⟩:=N;have O:=I.cell 0;have o:=za (C.less (Fr:=Fr) fun i hi=> .inl hi);have p:Hid (l6 w w3 L V V' []):=za ((l6.below K.out).trans z (by simp));clear C z I;go_wp2;go_ret2
 first
  |exact⟨V',rfl,o.out,p.out⟩
  |exact⟨rfl,V',o.out,p.out⟩
  |exact⟨V',o.out,p.out⟩
theorem Gq (L:mw)(V:Nat->Value)(Fr:Nat->Prop)(c:aM)(l:List bj)(D:gC)(j:Nat)(F:j<2)(nm:ByteArray)(it:It)(B:Nat)(O K J:Value)(w:World)(h:gT w L V Fr c l D)(U:c.ok)(k:Laid w/\ba w)(z:l9 L.p)
 (o:bI w B it O K J) (hB:B<=L.p) (wU:(D.way (1-j)).size<=1048576) (eu:D.sent j<=1000000000) (G:c.fm≠1->it.fy.length<=1000000) (X:(bB c l nm it).1.ok) (fa:(bA c l nm it).1.size<=1000000000):
 Calls prog 11 #[(L.p,0),j,.agg #[nm,O,K,J]] w fun e w'=>∃V' st,e= .returned (.tuple #[sdN L c l D j nm it,QU L c l D j nm it])/\(∀i,st i<=D.sent i+1)/\gT w' L V' Fr c l (D.send L c l j nm it st)/\l6 w w' L V V' []:=by
 obtain⟨M,S,rfl,rfl,rfl,-⟩:=o.open_;obtain⟨W,b⟩:=gL ((((w.alloc (.cells #[(L.p,0)] 36)).alloc (.cells #[j] 3)).alloc (.cells #[nm,it.text,it.list,.slice M it.sub.length S] 30)).alloc (.cells #[(0:Int)] 3));have d:Below w.heap.size w W:=by rw[<-b];exact((((zm _ w).alloc (zd _) _).alloc (by simp) _).alloc (by simp;omega) _).alloc (by simp;omega) _
 have GP:W.heap.size=w.heap.size+4:=by rw[<-b];simp
 have C:ag W w.heap.size 36 #[(L.p,0)]:=by rw[<-b];exact(((ag.new w _ _).alloc _).alloc _).alloc _
 have Y:ag W (w.heap.size+1) 3 #[j]:=by rw[<-b];exact((ag.at_ (by simp)).alloc _).alloc _
 have x:ag W (w.heap.size+1+1) 30 #[nm,it.text,it.list,.slice M it.sub.length S]:=by rw[<-b];exact(ag.at_ (by simp)).alloc _
 have A:ag W (w.heap.size+1+1+1) 3 #[(0:Int)]:=by rw[<-b];exact ag.at_ (by simp)
 have u:gT W L V (fun i=>Fr i\/w.heap.size<=i/\i<W.heap.size) c l D:=h.grow (T:= []) (ae.ai d (zd _)) (by simp) fun i hi=>by
  rcases hi with a|a
  ·have:=(h.frg i a).2.1;exact⟨.inl a,by omega⟩
  exact⟨.inr a.1,a.2⟩
 have ab:=h.places;have N:=za (MH L.p j F (w.heap.size+1+1) w.heap.size (w.heap.size+1) (w.heap.size+1+1+1) W _ _ (agu (NL L V _ c l D j F nm it B _ _ _ (w.heap.size+1+1) w.heap.size (w.heap.size+1) (w.heap.size+1+1+1) W u U ⟨k.1.below d k.1.pos,k.2.below d k.2.pos⟩ z (o.below (d.mono (by omega))) hB x (.inr ⟨by omega,by omega⟩) C Y A (.inr ⟨by omega,by omega⟩) wU eu G X fa)));obtain⟨D',q⟩:=gL (D.send L c l j nm it);obtain⟨aa,s⟩:=gL (sdN L c l D j nm it);obtain⟨E,n⟩:=gL (QU L c l D j nm it);rw[q,s,n]at N;rw[q,s,n];have HB:=za d;have Z:=za b;clear h u k z C Y x A d GP b q s n U o G X;go_enter func11,ntmps11
 go_wp2_with fail
 rw[Z.out];refine cm N.out fun w3 qW=> ?_
 obtain⟨V',st,y,R,H,I⟩:=qW;have t0:=I.cell 0;have r:=za y;have m:=za (R.less (Fr:=Fr) fun i hi=> .inl hi);have p:Hid (l6 w w3 L V V' []):=za ((l6.below HB.out).trans H (by simp;omega));clear R H I y;go_wp2;go_ret2
 first
  |exact⟨V',st,rfl,r.out,m.out,p.out⟩
  |exact⟨rfl,V',st,r.out,m.out,p.out⟩
  |exact⟨V',st,r.out,m.out,p.out⟩
theorem gT.after {V V':Nat->Value}{Fr:Nat->Prop}{c:aM}{D:gC}(h:gT w L V Fr c l D)(b:l6 w w' L V V' [])(i:Laid w/\ba w)(e:l9 L.p):(Laid w'/\ba w')/\Below L.p w w':=by
 have d:∀k∈ []++jI L V,L.p<=k:=by simpa using h.C9
 have:=h.places;exact⟨Cd i e b.only d,b.only.below (by omega) d⟩
theorem l9.up {a b:Nat}(h:l9 a)(c:a<=b):l9 b:=⟨zQ h.a c,zQ h.b c⟩
theorem QV :∃k,kK (aQ cV [cD]) ⟨⟨#[2,5]⟩,0,2,0⟩ ⟨#[7]⟩=(⟨ByteArray.empty,0,1+k,1⟩,[⟨⟨#[112,105,110,103]⟩,fN⟩],0):=by
 obtain⟨c,_,i⟩:=Pl Dz;obtain⟨y,k,d,_,h,_⟩:=Fp (nm:=⟨#[112,105,110,103]⟩) (x:=fN) c i Uq (by rw[lh]) (by rw[wM];simp);obtain rfl:=h (by decide);have b:=d ByteArray.empty;rw[lh,dm (du _ _) (nT c _)]at b;refine⟨k, ?_⟩;have e:(⟨#[2,5]⟩:ByteArray)++(⟨#[7]⟩:ByteArray)=(⟨#[2,5,7]⟩:ByteArray)++ByteArray.empty:=by decide
 rw[hZ rfl];simp only;rw[e,b];simp[Vd.cons];rfl
theorem NM :fN.may=true:=by decide+kernel
theorem Us (w:World)(b:Laid w)(n:ba w):Calls prog 6 #[] w fun e w'=>e= .returned true/\(w,w'):=by
 obtain⟨W,i⟩:=gL (w.alloc (.cells #[.int .u64 5,.string ⟨#[112,105,110,103]⟩,.string ⟨#[117,56]⟩] 63));have k:Below w.heap.size w W:=by rw[<-i];exact(zm _ w).alloc (zd _) _
 have GP:w.heap.size<W.heap.size:=by rw[<-i];simp
 have q:ag W w.heap.size 63 #[.int .u64 5,.string ⟨#[112,105,110,103]⟩,.string ⟨#[117,56]⟩]:=by rw[<-i];exact ag.new _ _ _
 have M:rf W W.heap.size (.slice (some (w.heap.size,0)) 1 1) [cD]:=⟨_,1,rfl,by simp,by simp,fun j hj=>by
  obtain rfl:j=0:=by simp at hj;omega
  exact⟨_,_,rfl,by omega,q.cell 0,q.cell 1,q.cell 2⟩⟩
 have C:=za (Le cV [cD] _ W.heap.size W M (zd _) (b.below k b.pos) (by
  intro e d;obtain rfl:=yL.1 d;exact⟨by decide,by simp[cD,ByteArray.size],by simp[cD,ByteArray.size]⟩) Dz 100 (by decide))
 have y:=za (And.intro (b.below k b.pos) (n.below k n.pos));have ae:Hid (l9 w.heap.size):=za ⟨b.pos,n.pos⟩;have HW:=za i;have iB:=za k;have I:=za (Pl Dz).1;clear i k q M b n;unfold cV aM.val at C;rw[show((100:Nat):Int)=100 from rfl]at C;go_enter func6,ntmps6
 go_wp2_with fail
 rw[HW.out];refine C.out.mono ?_;rintro e E ⟨L,V,rfl,R,l,VR,S⟩;have cO:=za (iB.out.trans (l.mono (by omega)));have ab:=za (And.intro (y.out.1.below l y.out.1.pos) (y.out.2.below l y.out.2.pos));have c:=za (ae.out.up (show w.heap.size<=L.p by omega));have OC:Hid (gT E L V (fun _=>False) cV [cD] gC.new):=za R;have B:=za (Gq L V _ cV [cD] gC.new 0 (by decide) ⟨#[112,105,110,103]⟩ fN L.p _ _ _ E OC.out wO ab.out c.out (NH E _ ⟨#[7]⟩ false (by simp[ByteArray.size])) (zd _) (by decide) (by decide) (fun _=>by rw[wM];simp) (by rw[Gp];exact⟨by decide,by decide,by decide⟩) (by rw[lh];decide));have m:QU L cV [cD] gC.new 0 ⟨#[112,105,110,103]⟩ fN=0:=by
  unfold QU;rw[lh,S];rfl
 have hN:sdN L cV [cD] gC.new 0 ⟨#[112,105,110,103]⟩ fN=3:=by
  unfold sdN;rw[m,lh];rfl
 rw[m,hN]at B;have HD:Hid (∀st,(gC.new.send L cV [cD] 0 ⟨#[112,105,110,103]⟩ fN st).way 1=⟨#[2,5,7]⟩/\(gC.new.send L cV [cD] 0 ⟨#[112,105,110,103]⟩ fN st).x 1=iZ.new/\(gC.new.send L cV [cD] 0 ⟨#[112,105,110,103]⟩ fN st).got 1= []):=za fun st=>by
  unfold gC.send;rw[m,lh];refine⟨?_,rfl,rfl⟩;show(if(0:Int)=0 then iU gC.new.way 1 (ByteArray.empty++⟨#[2,5,7]⟩)else gC.new.way) 1=_
  rw[zj rfl,dO];decide
 clear R l m hN S;go_wp2_with fail
 refine B.out.mono ?_;rintro e N ⟨V2,st,rfl,-,p,X⟩;obtain⟨A,aI⟩:=OC.out.after X ab.out c.out;obtain⟨d1,d2,d3⟩:=HD.out st;obtain⟨h,ad⟩:=gL (gC.new.send L cV [cD] 0 ⟨#[112,105,110,103]⟩ fN st);rw[ad]at d1 d2 d3 p;have ep:Hid (w,N):=za (cO.out.trans (aI.mono (by omega)));have af:=za A;have gh:=za p;have F:=za (wP L V2 _ cV [cD] h 1 (by decide) 2 2 (by rw[d1];rfl) N p I.out wO A c.out (by rw[d2];rfl) (by rw[d2];decide) (by rw[d2];decide) (by rw[d1,d2,d3];rw[show(⟨#[2,5,7]⟩:ByteArray).extract 0 2=⟨#[2,5]⟩from by decide,wN];decide));have aa:Hid ((h.move cV [cD] 1 2).way 1=⟨#[7]⟩/\(h.move cV [cD] 1 2).x 1=⟨⟨#[2,5]⟩,0,2,0⟩/\(h.move cV [cD] 1 2).got 1= []):=za (by
  unfold gC.move;simp only[dO];rw[d1,d2,d3,show(⟨#[2,5,7]⟩:ByteArray).extract 0 2=⟨#[2,5]⟩from by decide,wN];exact⟨by decide,rfl,rfl⟩)
 rw[d1,d2,show(⟨#[2,5,7]⟩:ByteArray).extract 0 2=⟨#[2,5]⟩from by decide,wN]at F;clear d1 d2 d3 ad p X A aI B HD;go_wp2_with fail
 refine F.out.mono ?_;rintro e w3 ⟨V3,rfl,r,oQ⟩;obtain⟨G,O⟩:=gh.out.after oQ af.out c.out;obtain⟨d1,d2,d3⟩:=aa.out;obtain⟨Z,H⟩:=gL (h.move cV [cD] 1 2);rw[H]at d1 d2 d3 r;obtain⟨kk,s⟩:=QV;have d:(⟨#[7]⟩:ByteArray).extract 0 1=⟨#[7]⟩:=by decide
 have gy:Hid (w,w3):=za (ep.out.trans (O.mono (by have:=gh.out.places;omega)));have z:=za (wP L V3 _ cV [cD] Z 1 (by decide) 9 1 (by rw[d1];rfl) w3 r I.out wO G c.out (by rw[d2]) (by rw[d2];decide) (by rw[d2];decide) (by rw[d1,d2,d3,d,s];show 0+1<=1000000;decide));have o:Hid ((Z.move cV [cD] 1 1).got 1= [⟨⟨#[112,105,110,103]⟩,fN⟩]):=za (by
  unfold gC.move;simp only[dO];rw[d1,d2,d3,d,s];rfl)
 rw[d1,d2,d,s]at z;have J:=za r;have ah:=za G;clear d1 d2 d3 H r oQ G O F aa s d;go_wp2_with fail
 refine z.out.mono ?_;rintro e Y ⟨V4,rfl,U,Am⟩;have ey:Hid (w,Y):=za (gy.out.trans ((J.out.after Am ah.out c.out).2.mono (by have:=J.out.places;omega)));have D:=za (K6 L V4 _ cV [cD] _ 1 (by decide) Y U (by rw[o.out];intro x hx;obtain rfl:=yL.1 hx;exact NM) (by rw[o.out];simp));rw[o.out]at D;clear U Am z o;go_wp2_with fail
 refine D.out.mono ?_;rintro e w5 ⟨u,rfl,hu,K⟩;obtain⟨gg,cap,c1,c2,c3,rfl,_,e0,_⟩:=hu.2 _ rfl;have fD:Hid (w,w5):=za (ey.out.trans (K.mono ey.out.size));clear hu K D;go_wp2;go_ret;exact⟨rfl,fD.out⟩
theorem DA (c:aM)(f:Fr)(hid:f.id<18446744073709551616)(h:(bd c f).2=0):(bd c f).1.size<=70000:=by
 unfold bd at h⊢;by_cases j:c.fm=1
 ·rw[zj j]at h⊢;by_cases e:b8 f.nm=true
  ·rw[zj e]at h⊢;by_cases b:65536<f.body.size
   ·rw[zj b]at h;exact absurd h (by decide)
   rw[zi b];simp only;rw[lH c.mg f.nm f.body (dx e).2];omega
  rw[zi e]at h;exact absurd h (by decide)
 rw[zi j]at h⊢;by_cases b:c.fm=2
 ·rw[zj b]at h⊢;by_cases d:65536<(aR f.id).length+f.body.size
  ·rw[zj d]at h;exact absurd h (by decide)
  rw[zi d];simp only;rw[bG];have i:=bw 10 ((aR f.id).length+f.body.data.toList.length) (by rw[aa];omega) (by omega);unfold eC;rw[zk,zk];rw[aa]at*;omega
 rw[zi b]at h⊢;by_cases d:c.un<f.body.size
 ·rw[zj d]at h;exact absurd h (by decide)
 rw[zi d]at h⊢;by_cases i:65536<(aR f.id).length+(pack f.body.data.toList).length
 ·rw[zj i]at h;exact absurd h (by decide)
 rw[zi i];simp only;rw[bG];have k:=bw 10 ((aR f.id).length+(pack f.body.data.toList).length) (by omega) (by omega);unfold eC;rw[zk,zk];omega
theorem JD {c:aM}{f:Fr}(hid:f.id<18446744073709551616)(h:(gR c f).2=0):(gR c f).1.size<=70000:=by
 unfold gR at h⊢;split
 ·rename_i d
  rw[zj d]at h;by_cases b:(bd c f).2≠0
  ·rw[zj b]at h;exact absurd h b
  rw[zi b]at h⊢;split
  ·exact yb _
  exact DA c f hid (zE.1 b)
 exact yb _
theorem Gr {c:aM}(hid:Mq l)(h:(bA c l nm x).2=0):(bA c l nm x).1.size<=70000:=by
 obtain⟨d,b⟩:=Fl h;rw[b]at h⊢;exact JD (Fo hid d) h
theorem Gs {c:aM}(o:∀e∈l,oC e)(hx:x.count<=1000000)(r:x.fy.length<=1000000):(bB c l nm x).1.ok:=by
 by_cases i:(bB c l nm x).2=0
 ·obtain⟨e,p,b,q⟩:=kS i;have k:=o e (kd p).1;have h:(bS c e.shape x).1.size<=9223372036854775807:=by
   by_cases j:c.fm=1
   ·unfold bS at b⊢;rw[zj j]at b⊢;unfold lZ at b⊢;by_cases d:il e.shape x c.it=0
    ·rw[zj d];obtain⟨n,m,_⟩:=rI d;have:=KX x e.shape (jE n).2.1 (rH m).2.2;simp only;rw[bG];omega
    rw[zi d];exact yb _
   rw[(rM j b (by omega)).2,bG];omega
  rw[q];split
  ·exact⟨by simp,by have:=k.name;simp only;omega,h⟩
  exact⟨k.id,by simp,h⟩
 rw[BS i];exact⟨by simp[om],by simp[om],by simp[om]⟩
structure ApV (w V:World)(c:aM)(l:List bj)(v:Value)(nm:ByteArray)(x:It)(Ax:Option Addr)(dV:Nat):Prop where
 en:rf V w.heap.size v l
 it:bI V w.heap.size x x.text x.list (.slice Ax x.sub.length dV)
 laid:Laid V/\ba V
 siz:w.heap.size+2<=V.heap.size
 bel:Below w.heap.size w V
 cf:ag V w.heap.size 24 #[c.fm,.int .u32 c.mg,c.fr,c.un,c.de,c.it]
 ms:ag V (w.heap.size+1) 30 #[nm,x.text,x.list,.slice Ax x.sub.length dV]
theorem ApV.mk' {W V:World}{c:aM}{d:Option Addr}{i:Nat}(e:(w.alloc (.cells #[c.fm,.int .u32 c.mg,c.fr,c.un,c.de,c.it] 24)).alloc (.cells #[nm,x.text,x.list,.slice d x.sub.length i] 30)=W)
 (q:rf w w.heap.size v l) (o:bI w w.heap.size x x.text x.list (.slice d x.sub.length i)) (j:Laid w) (k:ba w) (h:Below (w.heap.size+2) W V):ApV w V c l v nm x d i:=by
 have hz:W.heap.size=w.heap.size+2:=by rw[<-e];simp
 have n:Below w.heap.size w W:=by rw[<-e];exact((zm _ w).alloc (zd _) _).alloc (by simp) _
 have p:ag W w.heap.size 24 #[c.fm,.int .u32 c.mg,c.fr,c.un,c.de,c.it]:=by rw[<-e];exact(ag.new w _ _).alloc _
 have m:ag W (w.heap.size+1) 30 #[nm,x.text,x.list,.slice d x.sub.length i]:=by rw[<-e];exact ag.at_ (by simp)
 have b:Below w.heap.size w V:=n.trans (h.mono (by omega));exact⟨q.below b,o.below b,⟨j.below b j.pos,k.below b k.pos⟩,by have:=h.size;omega,b,p.ah h (by omega),m.ah h (by omega)⟩
theorem X8 {c:aM}{D:gC}{j:Nat}{it:It}(h:QU L c l D j nm it=0):(bA c l nm it).2=0/\(D.way (1-j)).size+(bA c l nm it).1.size<=L.room:=by
 unfold QU at h;by_cases b:(bA c l nm it).2≠0
 ·rw[zj b]at h;exact absurd h b
 rw[zi b]at h;by_cases d:L.room<(D.way (1-j)).size+(bA c l nm it).1.size
 ·rw[zj d]at h;cases h
 exact⟨by omega,by omega⟩
theorem Gt (c:aM)(l:List bj)(v:Value)(nm:ByteArray)(x:It)(w:World)(c0 c1 c2:Value)(hc:c.ok)(hv:rf w w.heap.size v l)(hid:∀e∈l,e.id<18446744073709551616)(bl:nm.size<=9223372036854775807)(hI:bI w w.heap.size x c0 c1 c2)(hL:Laid w)(iY:ba w):
 Calls prog 3 #[c.val,v,.agg #[nm,c0,c1,c2]] w fun e w'=>e= .returned true/\(w,w'):=by
 obtain⟨Av,n,cap,rfl,hn,SB,kr⟩:=hv.cy;obtain⟨Ax,dV,rfl,rfl,rfl,_⟩:=hI.open_;obtain⟨W,hW⟩:=gL ((w.alloc (.cells #[c.fm,.int .u32 c.mg,c.fr,c.un,c.de,c.it] 24)).alloc (.cells #[nm,x.text,x.list,.slice Ax x.sub.length dV] 30));have GP:W.heap.size=w.heap.size+2:=by rw[<-hW];simp
 have d:Hid (∀V,Below (w.heap.size+2) W V->ApV w V c l (.slice Av n cap) nm x Ax dV):=za (fun V hV=>ApV.mk' hW hv hI hL iY hV);have HA:=za (Us W (d.out W (zm _ _)).laid.1 (d.out W (zm _ _)).laid.2);have a':Hid (l9 w.heap.size):=za ⟨hL.pos,iY.pos⟩;have HW:=za hW;have HZ:=za GP;have az:=za hid;have aE:=za hc;unfold aM.val;clear hv hI hL iY hW hid hc kr GP;obtain⟨gr,gB⟩:=gL (nD l);have N6:=za gB;clear gB;go_enter func3,ntmps3
 go_wp2_with fail
 rw[HW.out];refine HA.out.mono ?_;rintro e q ⟨rfl,aL⟩;have u:Hid (Below (w.heap.size+2) W q):=za (aL.mono (by have:=HZ.out;omega));have an:=za (Ns l _ _ q (d.out q u.out).en);rw[N6.out]at an;clear aL HA;obtain⟨B,K,D,S,R,H⟩:=ga (d.out q u.out).cf;obtain⟨N,I,C,J,_⟩:=aU (d.out q u.out).ms;have p:=(d.out q u.out).siz;go_wp2_with fail
 refine an.out.mono ?_;rintro e w' ⟨rfl,G0⟩;rw[G0];clear G0 w' an;cases gr with
 |true=>
  go_wp2;go_ret;exact⟨rfl,(d.out q u.out).bel⟩
 |false=>
  have ag:=za (Nr N6.out az.out).2;by_cases pG:100<nm.size
  ·have aY:(100:Int)<(nm.size:Int):=by omega
   go_wp2;go_ret;exact⟨rfl,(d.out q u.out).bel⟩
  have aY:¬(100:Int)<(nm.size:Int):=by omega
  have aw:=za (TJ x w.heap.size q _ _ _ (d.out q u.out).it (by omega));obtain⟨g8,ax⟩:=gL x.pU;rw[ax]at aw;have UT:=za ax;clear ax;go_wp2_with fail
  refine cm aw.out fun y aI=> ?_
  have G:Hid (Below (w.heap.size+2) W y):=za (u.out.trans (aI.mono p));clear aI aw;clear B K D S R H N I C J p;cases g8 with
  |true=>
   go_wp2;go_ret;exact⟨rfl,(d.out y G.out).bel⟩
  |false=>
   have Ec:=za (Mj x UT.out);have Wm:=za (sB x UT.out);have U0:=za (Jr c l _ w.heap.size y (d.out y G.out).en (by have:=(d.out y G.out).siz;omega) ag.out);obtain⟨E0,ao⟩:=gL (oy c l);rw[ao]at U0;have F:=za ao;unfold aM.val at U0;clear ao;obtain⟨B,K,D,S,R,H⟩:=ga (d.out y G.out).cf;obtain⟨N,I,C,J,_⟩:=aU (d.out y G.out).ms;have p:=(d.out y G.out).siz;go_wp2_with fail
   refine cm U0.out fun w3 bJ=> ?_
   have z:Hid (Below (w.heap.size+2) W w3):=za (G.out.trans (bJ.mono p));clear bJ U0;clear B K D S R H N I C J p;rcases eN E0 with⟨h0,z1,z2⟩|⟨h0,z1,z2⟩
   ·subst h0;have UD:=za (Le c l _ w.heap.size w3 (d.out w3 z.out).en (by have:=(d.out w3 z.out).siz;omega) (d.out w3 z.out).laid.1 ag.out F.out 1048576 (zd _));unfold aM.val at UD;rw[show((1048576:Nat):Int)=1048576 from rfl]at UD;obtain⟨B,K,D,S,R,H⟩:=ga (d.out w3 z.out).cf;obtain⟨N,I,C,J,_⟩:=aU (d.out w3 z.out).ms;have p:=(d.out w3 z.out).siz;go_wp2_with fail
    refine UD.out.mono ?_;rintro e r ⟨L,V,rfl,DI,cT,VR,aH⟩;have A:Hid (Below (w.heap.size+2) W r):=za (z.out.trans (cT.mono p));have Vb:Hid (w.heap.size+2<=L.p):=za (by omega);have JV:Hid (gT r L V (fun _=>False) c l gC.new):=za DI;have bd:=za aH;clear DI cT VR aH UD;clear B K D S R H N I C J p;have Bb:=za (a'.out.up (show w.heap.size<=L.p by have:=Vb.out;omega));have OD:=za (Gq L V _ c l gC.new 0 (by decide) nm x w.heap.size _ _ _ r JV.out aE.out (d.out r A.out).laid Bb.out (d.out r A.out).it (by have:=Vb.out;omega) (by decide) (by decide) (fun _=>by have:=Ec.out;omega) (Gs ag.out (by have:=Wm.out;omega) (by have:=Ec.out;omega)) (by
     by_cases h:(bA c l nm x).2=0
     ·have:=Gr az.out h;omega
     rw[Mp h];decide))
    obtain⟨E,hE⟩:=gL (QU L c l gC.new 0 nm x);rw[hE]at OD;have HE:=za hE;clear hE;obtain⟨B,K,D,S,R,H⟩:=ga (d.out r A.out).cf;obtain⟨N,I,C,J,_⟩:=aU (d.out r A.out).ms;have p:=(d.out r A.out).siz;go_wp2_with fail
    refine OD.out.mono ?_;rintro e w5 ⟨V5,st,rfl,-,aR,Wd⟩;obtain⟨a8,gZ⟩:=JV.out.after Wd (d.out r A.out).laid Bb.out;have fD:Hid (Below (w.heap.size+2) W w5):=za (A.out.trans (gZ.mono Vb.out));have Cy:=za aR;clear aR Wd a8 gZ OD;clear B K D S R H N I C J p;rcases eN E with⟨h0,z3,z4⟩|⟨h0,z3,z4⟩
    ·subst h0;obtain⟨aS,bb⟩:=X8 HE.out;obtain⟨Rw,_,bE⟩:=Pl F.out;obtain⟨aa,ht,-⟩:=(pc.new Rw l).send Rw bE az.out aS (by have:=Ec.out;omega);have Z:(gC.new.send L c l 0 nm x st).way 1=ByteArray.empty++(bA c l nm x).1:=by
      unfold gC.send;rw[HE.out];show(if(0:Int)=0 then iU gC.new.way 1 (ByteArray.empty++(bA c l nm x).1)else gC.new.way) 1=_
      rw[zj rfl,dO]
     obtain⟨b,hb⟩:=gL (ByteArray.empty++(bA c l nm x).1);have iA:b.size<=1048576:=by
      rw[<-hb,bT];have:(gC.new.way (1-0)).size=0:=rfl;have:=bd.out;show 0+_<=_
      omega
     rw[hb]at Z ht;obtain⟨D5,ae⟩:=gL (gC.new.send L c l 0 nm x st);have VE:D5.x 1=iZ.new:=by rw[<-ae];rfl
     have ak:D5.got 1= []:=by rw[<-ae];rfl
     rw[ae]at Z Cy;obtain⟨-,GX,Cz⟩:=ht.move b.size (zd _);have HM:=za (wP L V5 _ c l D5 1 (by decide) 1048576 b.size (by rw[Z];omega) w5 Cy.out Rw aE.out (d.out w5 fD.out).laid Bb.out (by rw[VE];rfl) (by rw[VE];show 0+_<=_;omega) (by rw[VE];decide) (by rw[Z,VE,ak];exact zG Cz (by simp)));have ab:Hid ((D5.move c l 1 b.size).got 1= [⟨nm,aa⟩]/\aa.may=true):=za (by
      have h1:(D5.move c l 1 b.size).got 1= []++(kK (aQ c l) iZ.new (b.extract 0 b.size)).2.1:=by
       unfold gC.move;simp only[dO];rw[Z,VE,ak]
      rw[show b.extract b.size b.size=ByteArray.empty from aF (by rw[aq];simp)]at GX;have h2:=GX.done.1;rw[h1,h2];refine⟨rfl,GX.may bE ⟨nm,aa⟩ ?_⟩;rw[h2];simp)
     clear aS bb ht GX Cz Rw bE hb iA Z VE ak ae;go_wp2_with fail
     refine HM.out.mono ?_;rintro e m ⟨V6,rfl,aA,aN⟩;have O:=(Cy.out.after aN (d.out w5 fD.out).laid Bb.out).2;have ua:Hid (Below (w.heap.size+2) W m):=za (fD.out.trans (O.mono Vb.out));obtain⟨D6,aP⟩:=gL (D5.move c l 1 b.size);rw[aP]at aA ab;have ad:=za (fun aB (hU:Below m.heap.size m aB)=>K6 L V6 _ c l D6 1 (by decide) aB (aA.below hU) (by rw[ab.out.1];intro bg hz;obtain rfl:=yL.1 hz;exact ab.out.2) (by rw[ab.out.1];simp));rw[ab.out.1]at ad;clear aA aN O aP HM;go_wp2_with fail
     refine(ad.out m (zm _ _)).mono ?_;rintro e X ⟨u1,rfl,av,Ap⟩;have ay:Hid (Below m.heap.size m X):=za Ap;obtain⟨g,wY,c1,c2,c3,rfl,Lj,e0,e1,e2,e3,hF⟩:=av.2 _ rfl;obtain⟨_,_,bk,lk⟩:=av.1.typed g rfl;have f0:=lk.frozen 0;obtain⟨A3,DD,rfl,rfl,rfl,_,Uu,Cw,aJ⟩:=hF.open_;have a6:=za aJ;have F:=za e0;have al:=za e3;clear av Ap hF aJ e1 e2 lk;go_wp2_with fail
     refine(ad.out X ay.out).mono ?_;rintro e Y ⟨u2,rfl,au,Q8⟩;obtain⟨A8,n8,aT,rfl,aV,_⟩:=bL.cy au.1;obtain rfl:n8=1:=aV.out;have aK:=za au.1;have h8:ApK m X Y Y:=⟨ay.out.trans (Q8.mono ay.out.size),FE.ai Q8,fun _ _ _=>rfl,zd _⟩
     have g0:=(Q8.cell (lt_of_cell F.out)).trans F.out;have g1:Y.frozen? (g,0)=false:=(Zt (Q8.block _ (lt_of_cell F.out))).trans f0;obtain⟨V0,ah⟩:=gL (Y.setCell (g,0) (.string ⟨#[116,117,114,110,101,100]⟩));have s:=za (h8.put F.out (show m.heap.size<=g by omega) ⟨#[116,117,114,110,101,100]⟩);rw[ah]at s;have jT:=za ah;clear h8 au Q8 ah e0 e3 f0 Lj;go_wp2_with fail
     rw[jT.out];clear g0 g1 jT;obtain⟨ar,hN⟩:=gL aa.sub.length;have HN:=za hN;rw[hN]at Uu al;clear hN;go_wp2_with fail
     go_loopw [13] (fun i wr=>∃k:Nat,k<=ar/\i= .int .i64 k/\ApK m X Y wr) (fun i _=>ar-(intOf i).toNat)
     case atStart=>exact⟨0,by omega,rfl,s.out⟩
     case round=>
      clear s;obtain⟨k,hk,rfl,o⟩:=hrel;have s:=za o;have r3:=o.s.slice al.out;clear o;by_cases aD:k<ar
      ·obtain⟨b,d0,d1,d2,rfl,jV,a0,_,a2,af,oT⟩:=a6.out.at_ k (by have:=HN.out;omega);simp only[zJ]at a0 a2;obtain⟨A4,RK,rfl,rfl,rfl,_,Oo,Ov,aO⟩:=oT.open_;have aX:=za aO;have aj:=za a0;have aC:=za a2;have HF:=za af;have bc:=za jV;obtain⟨M,hM⟩:=gL (aa.sub[k]'(by have:=HN.out;omega)).sub.length;have HM:=za hM;rw[hM]at Oo aC;clear aO oT a0 a2 af jV hM;generalize wr=wq at*;go_wp2_with fail
       go_loopw [14] (fun i wr=>∃j:Nat,j<=M/\i= .int .i64 j/\ApK m X Y wr) (fun i _=>M-(intOf i).toNat)
       case atStart=>exact⟨0,by omega,rfl,s.out⟩
       case round=>
        clear s r3;obtain⟨j,hj,rfl,o⟩:=hrel;have s:=za o;have r3:=o.s.slice al.out;have r4:=o.s.slice aC.out;by_cases bh:j<M
        ·obtain⟨b4,t0,t1,t2,rfl,aW,z0,_,_,zf,hz⟩:=aX.out.at_ j (by have:=HM.out;omega);simp only[zJ]at z0;obtain⟨_,_,rfl,_⟩:=hz.open_;obtain⟨tt,r5⟩:=o.s.str z0;have r6:wr.frozen? (b4,j*3)=false:=(o.s ⟨b4,j*3,none⟩ (lt_of_cell z0)).2.trans (zf _);obtain⟨V1,U⟩:=gL (wr.setCell (b4,j*3) (.string ⟨#[116,117,114,110,101,100]⟩));have SK:=za (o.put z0 (show m.heap.size<=b4 by omega) ⟨#[116,117,114,110,101,100]⟩);rw[U]at SK;have Cn:=za U;clear o U z0 zf hz aW;go_wp2_with fail
         rw[Cn.out];clear r3 r4 r5 r6 Cn;go_wp2;go_roundw
         case rel=>exact⟨j+1,by omega,by go_num,SK.out⟩
         case measure=>simp[intOf];omega
        obtain⟨tt,r5⟩:=o.s.str aj.out;have r6:wr.frozen? (b,k*3)=false:=(o.s ⟨b,k*3,none⟩ (lt_of_cell aj.out)).2.trans (HF.out _);obtain⟨V1,U⟩:=gL (wr.setCell (b,k*3) (.string ⟨#[116,117,114,110,101,100]⟩));have SK:=za (o.put aj.out (show m.heap.size<=b by have:=bc.out;omega) ⟨#[116,117,114,110,101,100]⟩);rw[U]at SK;have Cn:=za U;clear o U;go_wp2_with fail
        rw[Cn.out];clear r3 r4 r5 r6 Cn;go_wp2;go_roundw
        case rel=>exact⟨k+1,by omega,by go_num,SK.out⟩
        case measure=>simp[intOf];omega
      have O:=s.out.b;have HA:=za (aK.out.ah fun i hi hS=>s.out.u i (by
       rcases hS with h|h
       ·have h:X.heap.size+1<=i:=h;omega
       have:=(bL.ge aK.out i h).1;omega) hi)
      go_wp2_with fail
      clear r3;refine(ad.out wr O).mono ?_;rintro e w9 ⟨u3,rfl,ai,Ly⟩;have aZ:=za (Ge [⟨nm,aa⟩] u3 (.slice A8 1 aT) _ _ _ _ w9 ai.1 (bL.below HA.out Ly));have aG:Hid (Below m.heap.size m w9):=za (O.trans (Ly.mono O.size));obtain⟨A9,n9,bf,rfl,_⟩:=bL.cy ai.1;clear ai Ly O;go_wp2_with fail
      refine cm aZ.out fun a7 US=> ?_
      have a1:Hid (Below m.heap.size m a7):=za (aG.out.trans (US.mono aG.out.size));clear US;go_wp2;go_ret;exact⟨rfl,(d.out m ua.out).bel.trans (a1.out.mono (by have:=(d.out m ua.out).bel.size;omega))⟩
    go_wp2;go_ret;exact⟨rfl,(d.out w5 fD.out).bel⟩
   go_wp2;go_ret;exact⟨rfl,(d.out w3 z.out).bel⟩
open Go.ChangeShapes Go.WideShapes Go.ChangeAt Go.RowKit
structure wQ (e:bj):Prop where
 id:e.id<18446744073709551616
 name:e.name.size<=9223372036854775807
 ty:e.ty.size<=9223372036854775807
theorem oM :prog.cellsOf 63=3:=by kernel_rfl
theorem QW {enc:TypeId×Value->H}{spare:Nat->Bool}(p:Nat)(e:List Value)(x:DataW H×List MemPlace)(h:DataW.trod enc prog w base spare held p 63 e=some x):
 ∃f:bj,e= [.int .u64 f.id,.string f.name,.string f.ty]/\wQ f:=by
 obtain⟨xs,n,rfl,_,l,q,i⟩:=Z9 underlying63 h;rw[oM]at l;match e,l with
 | [c0,c1,c2],_=>
  have c:DataW.trod enc prog w base spare held n 61 ((([c0,c1,c2]:List Value).drop 0).take (prog.cellsOf 61))=xs[0]?:=i 0 _ rfl;have d:DataW.trod enc prog w base spare held n 9 ((([c0,c1,c2]:List Value).drop 1).take (prog.cellsOf 9))=xs[1]?:=i 1 _ rfl;have b:DataW.trod enc prog w base spare held n 9 ((([c0,c1,c2]:List Value).drop 2).take (prog.cellsOf 9))=xs[2]?:=i 2 _ rfl;have s:xs.length=3:=q;rw[zA (by omega)]at c d b;rw[C4]at c;rw[C5]at d b;simp only[zL,zR,yv,ya]at c d b;obtain⟨i0,m,_,g0⟩:=Zb Z4 c;obtain⟨t1,o,_,g1⟩:=Ya zM d;obtain⟨t2,j,_,g2⟩:=Ya zM b;simp at m o j;subst m;subst o;subst j;obtain⟨k,rfl,r⟩:=wf_u64 g0;exact⟨⟨k,t1,t2⟩,rfl,r,by simpa[maxLen]using g1,by simpa[maxLen]using g2⟩
theorem NN {enc:TypeId×Value->H}{spare:Nat->Bool}(G:Nat)(B:List Value)(x:DataW H×List MemPlace)(h:DataW.trod enc prog w base spare held G 25 B=some x):
 ∃(l:List bj) (v:Value),B= [v]/\rf w w.heap.size v l/\∀f∈l,wQ f:=by
 rcases DataW.trod_slice underlying25 h with⟨k,_⟩|⟨a,len,cap,O,rest,m,rfl,k,_,S,L,J,R,M,_,_⟩
 ·exact⟨[],_,k,rf.nil _ _,by simp⟩
 have key:∀i,i<len->∃y:bj,a.spot=none/\(w,a.block,a.off+i*3,Value.int .u64 y.id)/\(w,a.block,a.off+i*3+1,y.name)/\(w,a.block,a.off+i*3+2,y.ty)/\wQ y:=by
  have first:∀i,i<len->∃c,w.cells? base (a.add (i*3)) 3=some c/\∃z,DataW.trod enc prog w base spare held m 63 c=some z:=by
   intro i hi;have o:=M i hi;rw[oM,zA (by omega)]at o;rw[Zs]at o;obtain⟨c,d,b⟩:=o;exact⟨c,d,_,b⟩
  have e:0<len->a.spot=none:=by
   intro K;obtain⟨c,d,_⟩:=first 0 K
   obtain⟨d0,_,_,_,b,_⟩:=sT d;have b:w.cell? a=some d0:=by simpa[Addr.add]using b
   exact TC b
  intro i hi;obtain⟨c,d,z,b⟩:=first i hi
  obtain⟨d0,d1,d2,rfl,g0,g1,g2⟩:=sT d;obtain⟨y,A,N⟩:=QW m _ _ b;simp at A;obtain⟨rfl,rfl,rfl⟩:=A;have p:=e (by omega);have u:∀j,(a.add (i*3)).add j=⟨a.block,a.off+i*3+j,none⟩:=by
   intro j;obtain⟨E,F,C⟩:=a;simp only at p;subst p;unfold Addr.add;split<;>split<;>simp_all
  have r:=u 0;rw[show(a.add (i*3)).add 0=a.add (i*3)from by simp[Addr.add]]at r;rw[r]at g0;rw[u]at g1 g2;exact⟨y,p,g0,g1,g2,N⟩
 obtain⟨s,I,q⟩:=sS _ len key;subst I;refine⟨s,_,k,⟨some a,cap,rfl,L,by simpa[maxLen]using J,fun j n=> ?_⟩,fun f D=> ?_⟩
 ·obtain⟨e,g0,g1,g2,_⟩:=q j n;refine⟨a.block,a.off, ?_,(by have:=TD g0;simpa using this),by simpa using g0,by simpa using g1,by simpa using g2⟩;obtain⟨E,F,C⟩:=a;simp only at e;subst e;rfl
 obtain⟨j,n,rfl⟩:=List.mem_iff_getElem.1 D;exact(q j n).2.2.2.2
theorem JE {enc:TypeId×Value->H}{spare:Nat->Bool}{c:List MemPlace}(e:Value.okWide prog w r k 25 v)(hd:DataW.Trod enc prog w base spare held 25 v d c):
 ∃(l:List bj) (u:Value),v=u/\rf w w.heap.size u l/\∀f∈l,wQ f:=by
 obtain⟨A,n,cap,rfl⟩:=okWide_slice underlying25 e;obtain⟨i,m⟩:=hd;obtain⟨l,u,b,h,j⟩:=NN i _ _ m;simp[Value.cells]at b;subst b;exact⟨l,_,rfl,h,j⟩
theorem Gu (c:aM)(l:List bj)(u:Value)(n:ByteArray)(x:It)(b h d:Value)(W:World)(m:c.ok)(k:rf W W.heap.size u l/\∀e∈l,wQ e)(i:n.size<=maxLen/\bI W W.heap.size x b h d)(j:Laid W/\ba W):
 Calls prog 3 #[c.val,u,.agg #[n,b,h,d]] W fun e w'=>e= .returned true/\(W,w'):=
 Gt c l u n x W b h d m k.1 (fun e o=>(k.2 e o).id) (by simpa[maxLen]using i.1) i.2 j.1 j.2
theorem tk {b:Type}(Q:Nat->b->Prop):∀n,(∀i,i<n->∃y,Q i y)->∃l:List b,l.length=n/\∀i (h:i<l.length),Q i l[i]
 |0,_=>⟨[],rfl,by simp⟩
 |n+1,h=>by
  obtain⟨l,c,e⟩:=tk Q n fun i hi=>h i (by omega)
  obtain⟨y,j⟩:=h n (by omega);refine⟨l++ [y],by simp[c],fun i hi=> ?_⟩;by_cases d:i<l.length
  ·rw[xK d];exact e i d
  have:i=n:=by simp at hi;omega
  subst this;rw[List.getElem_append_right (by omega)];simpa[c]using j
theorem QX {m:List Value}(h:w.cells? base a 3=some m):∃b d c,m= [b,d,c]/\w.cell? a=some b/\w.cell? (a.add 1)=some d/\w.cell? (a.add 2)=some c:=by
 unfold World.cells? at h;split at h
 ·have e:List.range 3= [0,1,2]:=rfl;rw[e]at h;simp only[List.mapM_cons,List.mapM_nil,Option.bind_eq_bind,Option.pure_def,Zs]at h;obtain⟨b,o,r,⟨d,p,s,⟨c,n,q,l,i⟩,k⟩,j⟩:=h;simp at l i k j;subst l;subst i;subst k;subst j;exact⟨b,d,c,rfl,by simpa[Addr.add]using o,p,n⟩
 cases h
theorem NO (h:w.cell? a=some v):a.spot=none:=by
 unfold World.cell? at h;split at h
 ·split at h
  ·cases h
  rename_i b;simpa using b
 cases h
theorem lU :prog.cellsOf 28=3:=by kernel_rfl
theorem tp :prog.cellsOf 9=1:=by kernel_rfl
theorem DB :prog.cellsOf 4=1:=by kernel_rfl
theorem AS :prog.cellsOf 26=1:=by kernel_rfl
theorem NP {enc:TypeId×Value->H}{spare:Nat->Bool}:∀(G:Nat) (I:List Value) (x:DataW H×List MemPlace),DataW.trod enc prog w base spare held G 28 I=some x->
 ∃(y:It) (q o k:Value),I= [q,o,k]/\bI w w.heap.size y q o k:=by
 intro G;induction G using Nat.strongRecOn with
 |ind G ih=>
  intro I x h;obtain⟨xs,n,rfl,_,O,VK,K⟩:=Z9 underlying28 h;rw[lU]at O;match I,O with
  | [q,o,k],_=>
   have r:DataW.trod enc prog w base spare held n 9 ((([q,o,k]:List Value).drop 0).take (prog.cellsOf 9))=xs[0]?:=K 0 _ rfl;have E:DataW.trod enc prog w base spare held n 4 ((([q,o,k]:List Value).drop 1).take (prog.cellsOf 4))=xs[1]?:=K 1 _ rfl;have D:DataW.trod enc prog w base spare held n 26 ((([q,o,k]:List Value).drop 2).take (prog.cellsOf 26))=xs[2]?:=K 2 _ rfl;have ae:xs.length=3:=VK;rw[zA (by omega)]at r E D;rw[tp]at r;rw[DB]at E;rw[AS]at D;simp only[zL,zR,yv,ya]at r E D;obtain⟨t,u,_,N⟩:=Ya zM r;obtain⟨l,C,_⟩:=DataW.trod_bool underlying4 E;simp at u C;subst u;subst C;rcases DataW.trod_slice xU D with⟨B,_⟩|⟨a,len,cap,aa,rest,m,rfl,B,_,hb,uB,S,ad,U,_,_⟩
   ·simp at B;subst B;exact⟨.mk t l [],_,_,_,rfl,rfl,rfl,by simpa[maxLen]using N,by simp,none,0,rfl,by simp,by simp,trivial⟩
   simp at B;subst B;have key:∀i,i<len->∃y:It,∃b d p,a.spot=none/\(w,a.block,a.off+i*3,b)/\(w,a.block,a.off+i*3+1,d)/\(w,a.block,a.off+i*3+2,p)/\bI w w.heap.size y b d p:=by
    have first:∀i,i<len->∃e,w.cells? base (a.add (i*3)) 3=some e/\∃z,DataW.trod enc prog w base spare held m 28 e=some z:=by
     intro i hi;have M:=U i hi;rw[lU,zA (by omega)]at M;rw[Zs]at M;obtain⟨e,A,c⟩:=M;exact⟨e,A,_,c⟩
    have F:0<len->a.spot=none:=by
     intro r;obtain⟨e,A,_⟩:=first 0 r
     obtain⟨b,_,_,_,c,_⟩:=QX A;have c:w.cell? a=some b:=by simpa[Addr.add]using c
     exact NO c
    intro i hi;obtain⟨e,A,z,c⟩:=first i hi
    obtain⟨b,d,p,rfl,g0,g1,g2⟩:=QX A;obtain⟨y,k0,k1,k2,R,J⟩:=ih m (by omega) _ _ c;simp at R;obtain⟨rfl,rfl,rfl⟩:=R;have L:=F (by omega);have C:∀j,(a.add (i*3)).add j=⟨a.block,a.off+i*3+j,none⟩:=by
     intro j;obtain⟨Z,ao,X⟩:=a;simp only at L;subst L;unfold Addr.add;split<;>split<;>simp_all
    have u:=C 0;rw[show(a.add (i*3)).add 0=a.add (i*3)from by simp[Addr.add]]at u;rw[u]at g0;rw[C]at g1 g2;exact⟨y,b,d,p,L,g0,g1,g2,J⟩
   obtain⟨s,G8,W⟩:=tk _ len key;subst G8;refine⟨.mk t l s,_,_,_,rfl,rfl,rfl,by simpa[maxLen]using N, ?_,some a,cap,rfl,uB,by simpa[maxLen]using S,bK.tI fun j Y=> ?_⟩
   ·have:cap<=9223372036854775807:=by simpa[maxLen]using S
    omega
   obtain⟨b,d,p,F,g0,g1,g2,J⟩:=W j Y;refine⟨a.block,a.off,b,d,p, ?_,lt_of_cell g0,by simpa using g0,by simpa using g1,by simpa using g2,J⟩;obtain⟨Z,ao,X⟩:=a;simp only at F;subst F;rfl
theorem Gv :prog.cellsOf 30=4:=by kernel_rfl
theorem QY {enc:TypeId×Value->H}{spare:Nat->Bool}(r:Nat)(l:List Value)(x:DataW H×List MemPlace)(h:DataW.trod enc prog w base spare held r 30 l=some x):
 ∃(n:ByteArray) (y:It) (b i d:Value),l= [.string n,b,i,d]/\n.size<=maxLen/\bI w w.heap.size y b i d:=by
 obtain⟨xs,n,rfl,_,m,s,p⟩:=Z9 underlying30 h;rw[Gv]at m;match l,m with
 | [c,b,i,d],_=>
  have j:DataW.trod enc prog w base spare held n 9 ((([c,b,i,d]:List Value).drop 0).take (prog.cellsOf 9))=xs[0]?:=p 0 _ rfl;have k:DataW.trod enc prog w base spare held n 28 ((([c,b,i,d]:List Value).drop 1).take (prog.cellsOf 28))=xs[1]?:=p 1 _ rfl;have z:xs.length=2:=s;rw[zA (by omega)]at j k;rw[tp]at j;rw[lU]at k;simp only[zL,zR,yv,ya]at j k;obtain⟨t,o,_,u⟩:=Ya zM j;simp at o;subst o;obtain⟨y,d0,d1,d2,e,q⟩:=NP _ _ _ k;simp at e;obtain⟨rfl,rfl,rfl⟩:=e;exact⟨t,y,_,_,_,rfl,u,q⟩
theorem NQ {enc:TypeId×Value->H}{p:Nat}{spare:Nat->Bool}{j:List MemPlace}(k:Value.okWide prog w r p 30 v)(hd:DataW.Trod enc prog w base spare held 30 v d j):
 ∃(n:ByteArray) (y:It) (b e c:Value),v= .agg #[n,b,e,c]/\n.size<=maxLen/\bI w w.heap.size y b e c:=by
 obtain⟨i,rfl,_⟩:=okWide_struct underlying30 k;obtain⟨m,q⟩:=hd;obtain⟨n,y,b,e,c,h,o,l⟩:=QY m _ _ q;refine⟨n,y,b,e,c, ?_,o,l⟩;have h:i.toList= [.string n,b,e,c]:=h;have:i= #[.string n,b,e,c]:=by cases i;simp at h;simp[h]
 rw[this]
