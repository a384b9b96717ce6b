/- session.Feed. -/
import Derived.Test.YtimoclkoflamkaaGreatDoorKA39
set_option linter.all false
set_option maxRecDepth 100000
set_option maxHeartbeats 4000000
open Go.Proofs.Tryz
namespace Go.Proofs.YtimoclkoflamkaaGreatDoor
open Go.RowKit
variable {w w':World}{l:List aV}{L:gT}{k j B m d base n e q:Nat}{nm:ByteArray}{x:It}{E:TypeId}{A:Option Addr}{v:Value}{a:List Ms}
def Yp:=@IntKind.wrap_i64
theorem B0 (m hi g:Nat)(d:Value)(c:aF)(l:List aV)(x:gW)(sent:Nat)(s:ByteArray)(w:World)(h:eH w m hi g d c l x sent)(y:x.fault≠0):
 Calls prog 35 #[(g,0),s] w fun e w'=>e= .returned (.tuple #[nS,x.fault])/\eH w' m hi g d c l {x with laid:=0} sent/\ae [g] w w':=by
 obtain⟨E,D,C,rows,B,q,r,b,u⟩:=h.reg;have n:=h.buf;have J:=b.lt;have N:(x.fault !=0)=true:=yL.2 y;have H:=za b;have o:=n.cw b (by decide);have i:ae [g] w (w.setCell (g,4) (0:Int)):=(ae.refl [g] w).setCell (p:=(g,4)) (.inl (by simp)) _;have A:=h.Dr;have F:Hid (∀k,eH ((w.setCell (g,4) (0:Int)).drewN k) m hi g d c l {x with laid:=0} sent):=za (fun k=>⟨h.lohi,h.Dr,⟨E,D,C,rows,B,(q.only i (by simp;omega)).below (Below.bI (zi _ _) k),r,(fj.Ee b 0).drewN k,u⟩,(n.qF i (by intro j e z;simp at z;subst z;exact o e)).below (Below.bI (zi _ _) k)⟩);obtain⟨M,L,R,I,G,K,O⟩:=b.parts;obtain⟨_,_,_,f9,_,_⟩:=b.Ed;clear b n u o y q r i A h;go_enter func35,ntmps35
 go_wp2_with fail
 go_quiet (fail)
 go_wp2;refine zj (v:= .tuple #[nS,x.fault]) (by simp[results,results35,go_sem]) rfl ?_;exact⟨rfl,F.out _,ae.drewN ((ae.refl _ _).setCell (.inl (by simp)) _) _⟩
theorem EI (B hi g:Nat)(bv:Value)(c:aF)(l:List aV)(x:gW)(sent:Nat)(s:ByteArray)(w:World)(hr:c.right=true)(hc:c.ok)(h:eH w B hi g bv c l x sent)(hL:Laid w)(gz:aW w)(Fq:1<B)(s8:0<B)(h0:x.fault=0)(hs:x.buf.size+s.size<=5000000)(ht:x.told<=1000000000):
 Calls prog 35 #[(g,0),s] w fun e w'=>∃rv D,e= .returned (.tuple #[rv,.int .i64 (kT (aQ c l) x s).2.2])/\bA w' (fun j=>w.heap.size<=j/\D.ownBlock≠some j) w.heap.size (kT (aQ c l) x s).2.1 rv/\eH w' B hi g D c l (kT (aQ c l) x s).1 sent/\ae (qG g bv) w w'/\(∀k,D.ownBlock=some k->bv.ownBlock=some k\/w.heap.size<=k):=by
 obtain⟨z,gn,gi,rows,I,hM,rN,C,uX⟩:=h.reg;have F:=h.buf;have lK:=h.Dr;have aN:=h.lohi;clear h;have T4:hi<=w.heap.size:=by have:=C.lt;omega
 obtain⟨b,fl,ld,q⟩:=x;simp only at h0 C F uX hs ht;subst h0;rw[gA rfl];simp only;have ah:=Rs c l (b++s);rw[bV]at ah;have Bp:=aak c l (b++s);rw[bV]at Bp;obtain⟨X,hX⟩:∃X,split (aQ c l) (b++s)=X:=⟨_,rfl⟩
 rw[hX]at ah Bp⊢;obtain⟨ml,tl,m,er⟩:=X;simp only at ah Bp⊢;have HX:=za hX;clear hX;have Bu:=C.lt;have bX:=F.cw C (by decide);have hf:=F.form;rw[aa]at hf;obtain⟨A,cap,rfl,uu,jf⟩:=hf;obtain⟨p,L⟩:∃p,w.setCell (g,4) (0:Int)=p:=⟨_,rfl⟩
 have vL:ae [g] w p:=by rw[<-L];exact(ae.refl _ _).setCell (.inl (by simp)) _
 have cg:p.heap.size=w.heap.size:=by rw[<-L];simp[World.setCell]
 have cr:Hid (fj p g z (.slice A b.size cap) I 0 0 q sent):=za (by rw[<-L];exact fj.Ee C 0);have ao:Hid (bR p hi 5 (.slice A b.size cap) b.data.toList):=za (F.qF vL (by intro j e d;simp at d;subst d;exact bX e));have aG:=za vL;have XX:=za (uX rfl);have oV:=za F;have Uj:Hid (∀k,(Value.slice A b.size cap).ownBlock=some k->k<w.heap.size):=za (fun k e=>(F.ge k e).2.1);have Qw:=za bX;obtain⟨p0,p6,p7,p8,p9,aA,aR⟩:=C.parts;obtain⟨_,_,_,f9,_,_⟩:=C.Ed;obtain⟨i0,aL,dB,aT,cC⟩:=yv pG;have az:=za (Ki 9223372036854775807 p);have gw:=za L;have Jc:=za hM;have vK:=za rN;have aq:=za (And.intro hL gz);have P5:B<=g:=by omega
 clear C F uX bX vL L hM rN hL gz;go_enter func35,ntmps35
 go_wp2_with fail
 rw[gw.out];clear p0 p6 p7 p8 p9 aA aR f9;refine az.out.mono ?_;rintro e H ⟨rfl,vJ⟩;have mN:Below p.heap.size p H:=by rw[vJ];exact(zi _ _).alloc (ze _) _
 have DB:uP H p.heap.size 9223372036854775807 0 0 0:=by rw[vJ];exact af.new _ _ _
 obtain⟨n,Qv⟩:∃n,p.heap.size=n:=⟨_,rfl⟩
 have HT:=za (rh n 9223372036854775807 0 0 0 s.size H (by rw[<-Qv];exact DB) (by omega) (by omega) (by omega));have dt:Hid (fj H g z (.slice A b.size cap) I 0 0 q sent):=za (cr.out.ah mN cr.out.lt);have ay:=za (ao.out.below mN);have PD:Hid (ae [g] w H):=za (aG.out.trans' (ae.ai mN (ze _)) (by simp));have ag:n≠g:=by omega
 have aY:w.heap.size<=n:=by omega
 have pZ:n<H.heap.size:=by have:=DB.lt;omega
 rw[Qv];clear vJ DB mN cr ao aG az Qv cg gw;go_wp2_with fail
 refine HT.out.mono ?_;rintro e w3 ⟨rfl,ak,Y⟩;simp only[zK]at ak;have fT:Hid (fj w3 g z (.slice A b.size cap) I 0 0 q sent):=za (dt.out.only Y (by simpa using Zj ag));have P8:=za (ay.out.qF Y (by intro j e d;simp at d;subst d;have:=Uj.out j e;omega));have Nv:Hid (ae [g] w w3):=za (PD.out.trans' Y (by simp;omega));have UY:=za ak;obtain⟨_,p6,_,_,_,_,_⟩:=fT.out.parts;have bL:hi<=w3.heap.size:=by have:=Nv.out.size;omega
 have mK:w.heap.size<=w3.heap.size:=Nv.out.size;have Iv:g<w3.heap.size:=fT.out.lt;clear Y ak dt ay PD HT;go_wp2_with (
  at_builtin
  refine cx (by rfl) (.tmp 31) (.tmp 32) 75 9 (by rfl) hi 5 i0 zm aL dB aT cC (by rfl) P8.out _ s.data.toList (by rfl) (iE zH w3 s) bL (by rw[aa,aa];omega) ?_;intro u r y E cP Z;have G:Hid (fj E g z (.slice A b.size cap) I 0 0 q sent):=za (af.Ur fT.out Z Qw.out);have au:uP E n 9223372036854775807 s.size s.size (max 0 s.size):=af.Ur UY.out Z (fun e=>by have:=Uj.out _ e;omega);have UW:=za au;have IN:=za Z;have Co:Hid (bR E hi 5 (.slice u r y) (b++s).data.toList):=za (by rw[aX];exact cP);obtain⟨_,aO,_,_,_,_,_⟩:=G.out.parts;obtain⟨aU,_,_,_,_,_⟩:=G.out.Ed;have a6:g<E.heap.size:=G.out.lt;clear cP Z au)
 obtain⟨o,K⟩:∃o,E.setCell (g,1) (.slice u r y)=o:=⟨_,rfl⟩
 rw[K];have W:ae [g] E o:=by rw[<-K];exact(ae.refl _ _).setCell (.inl (by simp)) _
 have fC:Hid (fj o g z (.slice u r y) I 0 0 q sent):=za (by rw[<-K];exact fj.JX G.out _);have J:Hid ((Value.slice u r y).ownBlock≠some g/\(Value.slice u r y).ownBlock≠some n/\∀k,(Value.slice u r y).ownBlock=some k->(Value.slice A b.size cap).ownBlock=some k\/w.heap.size<=k):=za ⟨Co.out.cw G.out (by decide),Co.out.cw UW.out (by decide),fun k e=>by
  rcases IN.out.own with h|⟨j,h,d⟩
  ·exact .inl (by rw[<-h];exact e)
  rw[h]at e;injection e with e;exact .inr (by omega)⟩
 have av:Hid (bR o hi 5 (.slice u r y) (b++s).data.toList):=za (Co.out.qF W (by intro j e d;simp at d;subst d;exact J.out.1 e));have NA:uP o n 9223372036854775807 s.size s.size (max 0 s.size):=af.only UW.out W (by simpa using ag);have U:Hid (ae (qG g (.slice A b.size cap)) w o):=za (((Nv.out.mono (by simp[qG])).trans' IN.out.only (fun i hi=> .inl (eW.2 (.inr (aM.1 hi))))).trans' W (by simp[qG]));have K9:E.heap.size=o.heap.size:=by rw[<-K];simp[World.setCell]
 have QA:w.heap.size<=o.heap.size:=U.out.size;have ax:hi<=n:=by omega
 have ai:Hid (∀k,(Value.slice A b.size cap).ownBlock=some k->hi<=k):=za (fun k e=>by have:=oV.out.ge k e;omega);have an:Hid (lg o B hi z gn gi c rows):=za (Jc.out.only U.out (fun k M=> .inr ((eW.1 M).elim (fun h=>by omega) (fun h=>ai.out k h))));have I8:Hid (∀V,ae (n::g::(Value.slice u r y).ownBlock.toList) o V->Laid V/\aW V):=za (fun V hV=>by
  have px:ae (n::g::(Value.slice A b.size cap).ownBlock.toList) w V:=(U.out.mono (by intro i hi;rcases eW.1 hi with h|h<;>simp[h])).trans' hV (by
   intro i hi;simp only[yj,aM]at hi⊢;rcases hi with rfl|rfl|e
   ·exact .inl (.inl rfl)
   ·exact .inl (.inr (.inl rfl))
   rcases J.out.2.2 i e with h|h
   ·exact .inl (.inr (.inr h))
   exact .inr h)
  have hn:∀k,k<B->k∉(n::g::(Value.slice A b.size cap).ownBlock.toList):=fun k M hm=>by
   simp only[yj,aM]at hm;rcases hm with rfl|rfl|e
   ·omega
   ·omega
   have:=ai.out k e;omega
  exact⟨aq.out.1.only px (hn _ Fq),aq.out.2.only px (hn _ s8)⟩)
 have ab:=za (Wn c l B hi z gn gi rows g n (.slice u r y) (b++s) I 0 q sent s.size (9223372036854775807-s.size) o hr hc (by rw[bV];omega) an.out vK.out fC.out av.out lK ⟨_,_,_,NA,by omega,by omega,by omega⟩ ag ax J.out.2.1 (by omega) (XX.out.more s) I8.out);rw[HX.out]at ab;simp only at ab;clear K W G Co fC av NA UW Nv p6 aO aU UY fT P8 IN;refine ab.out.mono ?_;rintro e S ⟨rv,D,aE,rfl,ad,N,aB,aP,aC,Y8,aD⟩;obtain⟨A6,O,fH,rfl,aw,a8,a'⟩:=bA.bK ad;obtain⟨a7,u7,q7,al,_⟩:=aP;have PA:=za (VP n a7 u7 (s.size+m) q7 S al);obtain⟨_,_,_,_,p9,aA,_⟩:=fj.parts N;obtain⟨_,_,_,f9,f10,_⟩:=fj.Ed N;have YW:=N.lt;have a1:O<=20000000:=by rw[aw.out];omega
 have aH:=za ad;have kO:=za N;have aI:=za aB;have ar:=za aC;have aJ:=za Y8;have aZ:=za aD;clear ad N aB aC Y8 aD al ab;go_wp2_with fail
 refine PA.out.mono ?_;rintro e w7 ⟨rfl,rfl⟩;go_wp2_with fail
 go_quiet (fail)
 go_wp2;obtain⟨R,BC⟩:∃R,(S.setCell (g,4) (.int .i64 ((s.size:Int)+m))).setCell (g,5) (.int .i64 ((q:Int)+O))=R:=⟨_,rfl⟩
 have Xk:ae [g] S R:=by rw[<-BC];exact((ae.refl [g] S).setCell (.inl (by simp)) _).setCell (.inl (by simp)) _
 have aK:fj R g z D aE er (s.size+m) (q+ml.length) sent:=by
  have e1:((s.size:Int)+m)=((s.size+m:Nat):Int):=by omega
  have e2:((q:Int)+O)=((q+ml.length:Nat):Int):=by rw[aw.out];omega
  rw[<-BC,e1,e2];exact fj.Vz (fj.Ee kO.out _) _
 have aS:=aI.out.cw kO.out (by decide);rw[BC];clear BC;refine zj (v:= .tuple #[.slice A6 O fH,er]) (by simp[results,results35,go_sem]) rfl ?_;refine⟨.slice A6 O fH,D,rfl, ?_,⟨aN,lK,⟨z,gn,gi,rows,aE, ?_,vK.out,aK.drewN nq,aZ.out⟩, ?_⟩, ?_, ?_⟩
 ·have h1:=(aH.out.only Xk (fun j d hS=>by simp at d;have:=hS.1;omega) (fun j d e=>by have:=aH.out.ge j e;simp at d;omega)).eG (S1:=fun j=>w.heap.size<=j/\D.ownBlock≠some j) (lo':=w.heap.size) (fun j _ hS=>⟨by have:=hS.1;omega,hS.2⟩) (by omega);exact h1.below (Below.bI (zi _ _) nq)
 ·refine((an.out.only ar.out ?_).only Xk (by simp;omega)).below (Below.bI (zi _ _) nq);intro k M;simp only[yj,aM]at M;rcases M with rfl|rfl|e
  ·exact .inr ax
  ·exact .inr lK
  rcases J.out.2.2 k e with h|h
  ·exact .inr (ai.out k h)
  exact .inr (by omega)
 ·exact(aI.out.qF Xk (by intro j e d;simp at d;subst d;exact aS e)).below (Below.bI (zi _ _) nq)
 ·refine ae.drewN ((U.out.trans' ar.out ?_).trans' Xk (by simp[qG])) nq;intro i hi;simp only[yj,aM]at hi;rcases hi with rfl|rfl|e
  ·exact .inr aY
  ·exact .inl (by simp[qG])
  rcases J.out.2.2 i e with h|h
  ·exact .inl (eW.2 (.inr h))
  exact .inr h
 intro k e;rcases aJ.out k e with h|h
 ·exact J.out.2.2 k h
 exact .inr (by omega)
theorem Ia (d hi g:Nat)(b:Value)(c:aF)(l:List aV)(x:gW)(sent:Nat)(s:ByteArray)(w:World)(p:c.right=true)(C:c.ok)(h:eH w d hi g b c l x sent)(D:Laid w)(n:aW w)(z:1<d)(u:0<d)(B:x.buf.size+s.size<=5000000)(q:x.told<=1000000000):
 Calls prog 35 #[(g,0),s] w fun e w'=>∃rv m,e= .returned (.tuple #[rv,.int .i64 (kT (aQ c l) x s).2.2])/\bA w' (fun j=>w.heap.size<=j/\m.ownBlock≠some j) w.heap.size (kT (aQ c l) x s).2.1 rv/\eH w' d hi g m c l (kT (aQ c l) x s).1 sent/\ae (qG g b) w w'/\(∀k,m.ownBlock=some k->b.ownBlock=some k\/w.heap.size<=k):=by
 by_cases i:x.fault=0
 ·exact EI d hi g b c l x sent s w p C h D n z u i B q
 refine(B0 d hi g b c l x sent s w h i).mono fun e w' ⟨y,A,o⟩=>⟨.slice none 0 0,b, ?_, ?_, ?_,o.mono (by simp[qG]),fun k r=> .inl r⟩
 ·rw[jF i];exact y
 ·rw[jF i];exact bA.nil _ _ _
 rw[jF i];exact A
def cS :aF:=⟨2,0,9,9,2,9⟩
def bE :aV:=⟨5,⟨#[112,105,110,103]⟩,⟨#[117,56]⟩⟩
def pg :Ty:= .mk 1 1 [] 0
def dh :It:= .mk ⟨#[7]⟩ false []
theorem Dh :pg.may=true:=by simp[pg,Ty.may,Ty.count,Ty.deep,Ty.right,ba,dH,bS,fK]
theorem pX :cO bE.ty.data.toList=some pg:=by
 have h:aN 8 bE.ty.data.toList=some (pg,[]):=by rfl
 rw[AF h,Dh,zg rfl]
theorem Ib :bE.shape=pg:=by unfold aV.shape;rw[pX];rfl
theorem Ic :cS.right=true:=by decide
theorem EJ :mF cS [bE]=0:=by
 rw[oK Ic (by simp)];have b:fQ cS [] bE=0:=by
  unfold fQ;rw[zf (by decide),zf (by simp),zf (by simp),pX,zf (by simp),zf (by simp[cS])]
 simp[iO,b]
theorem S3 :gD pg dh 2 9=0:=by
 rw[lV];refine⟨?_, ?_⟩
 ·unfold ep;rw[Dh];simp[pg,dh,It.may,It.right,It.deep,It.count,dj,cK,aC,formed,It.dF,dS,rU,ia,ByteArray.size]
 rw[pK];simp[dh,It.may,It.right,It.deep,It.count,dj,cK,aC,formed,ByteArray.size]
theorem nY :dh.fB= [7]:=by
 simp[dh,It.fB,ByteArray.size]
theorem Po :fE [bE] ⟨#[112,105,110,103]⟩=some bE:=by
 simp[fE,bE]
theorem rD :bB cS [bE] ⟨#[112,105,110,103]⟩ dh=(⟨5,⟨#[]⟩,⟨#[7]⟩⟩,0):=by
 have b:bU cS pg dh=(⟨#[7]⟩,0):=by
  unfold bU;rw[zf (by simp[cS])];show(if gD pg dh 2 9=0 then _ else _,gD pg dh 2 9)=_
  rw[S3,zg rfl,nY]
 unfold bB;rw[Po];simp only[Ib,b];simp[cS,bE];rfl
theorem Di (w:World)(B:Nat)(t:ByteArray)(l:Bool)(h:t.size<=9223372036854775807):bH w B (.mk t l []) t l nS:=RD w B t l h
theorem Pp :gQ cS ⟨5,⟨#[]⟩,⟨#[7]⟩⟩=(⟨#[2,5,7]⟩,0):=by decide+kernel
theorem Pq :(bj cS ⟨#[2,5]⟩).1=2:=by decide+kernel
theorem lB :bw cS [bE] ⟨#[112,105,110,103]⟩ dh=(⟨#[2,5,7]⟩,0):=by
 unfold bw;rw[rD,zf (by simp)];exact Pp
theorem Wo :Gv [bE]:=fun e b=>by
 obtain rfl:=yE.1 b;simp[bE]
theorem AT :kT (aQ cS [bE]) gW.new ⟨#[2,5]⟩=(⟨⟨#[2,5]⟩,0,2,0⟩,[],0):=by
 rw[gA rfl,show gW.new.buf++(⟨#[2,5]⟩:ByteArray)=⟨#[2,5]⟩from by decide,dv (dz _ _) (k9.2 Pq)];rfl
theorem AU :cS.ok:=⟨by decide,by decide,by decide,by decide,by decide,by decide⟩
structure iS (lo:Nat):Prop where
 a:1<lo
 b:0<lo
theorem oM {c:Nat}{L:List Nat}(e:Laid w/\aW w)(i:iS c)(d:ae L w w')(h:∀k∈L,c<=k):Laid w'/\aW w':=
 ⟨e.1.only d (fun b=>by have:=h _ b;have:=i.a;omega),e.2.only d (fun b=>by have:=h _ b;have:=i.b;omega)⟩
theorem eH.Wp {hi g:Nat}{b:Value}{c:aF}{x:gW}{sent:Nat}(h:eH w d hi g b c l x sent):∀k∈qG g b,d<=k:=fun k e=>by have:=h.qT k e;have:=h.lohi;omega
theorem addr_add (g o k:Nat):((g,o):Addr).add k=⟨g,o+k,none⟩:=by unfold Addr.add;split<;>simp_all
theorem Wq (A:Option Addr)(k a b c d:Nat):Hid (∀i,(Value.slice (A.map (fun x=>x.add k)) a b).ownBlock=some i->(Value.slice A c d).ownBlock=some i):=za fun i h=>by
 cases A with
 |none=>cases h
 |some x=>obtain⟨g,o,n⟩:=x;simp only[Option.map_some,Value.ownBlock]at h⊢;cases n<;>simp[Addr.add]at h⊢<;>first|exact h|(split at h<;>simp_all)
theorem Way.ai5 {cap:Nat}{l:List UInt8}(h:Way w base E (.slice A n cap) l)(b:k<=n)(p:cap≠k):Way w base E (.slice (A.map (fun x=>x.add k)) (n-k) (cap-k)) (l.drop k):=by
 have c:=h;obtain⟨m,r,d,o,i,e⟩:=c;injection d with hA hn UD;subst hA;subst UD;rcases e with⟨rfl,rfl⟩|⟨g,off,q,j,rfl,_⟩
 ·omega
 rw[Option.map_some,addr_add];exact h.cut b (.inl rfl)
theorem Way.ai6 {l:List UInt8}(h:Way w base E (.slice A n k) l)(b:k<=n):Way w base E (.slice A (n-k) 0) (l.drop k):=by
 have c:=h;obtain⟨m,q,d,o,i,e⟩:=c;injection d with hA hn UD;subst hA;subst UD;rcases e with⟨rfl,rfl⟩|⟨g,off,p,j,rfl,_⟩
 ·have:l= []:=zk (by omega);subst this;subst hn;exact Way.nil _ _ _
 have:=h.cut b (.inr ⟨rfl,rfl⟩);rwa [Zf]at this
def dJ.move (D:dJ)(c:aF)(l:List aV)(j k:Nat):dJ:=⟨gj D.x j (kT (aQ c l) (D.x j) ((D.way j).extract 0 k)).1,D.sent,gj D.way j ((D.way j).extract k (D.way j).size),gj D.got j (D.got j++(kT (aQ c l) (D.x j) ((D.way j).extract 0 k)).2.1)⟩
theorem Pr (L:gT)(V:Nat->Value)(Fr:Nat->Prop)(c:aF)(l:List aV)(D:dJ)(j:Nat)(d:j<2)(n:Nat)(k:Nat)(F:k=min n (D.way j).size)(nb b:Nat)(w:World)(h:gp w L V Fr c l D)(hr:c.right=true)(hc:c.ok)(hL:Laid w/\aW w)(jh:iS L.p)
 (hn:af w nb 3 #[n]) (ht:af w b 3 #[(0:Int)]) (PN:Fr b) (hx:(D.x j).fault=0) (hz:(D.x j).buf.size+k<=5000000) (ay:(D.x j).told<=1000000000) (j7:(D.got j).length+(kT (aQ c l) (D.x j) ((D.way j).extract 0 k)).2.1.length<=1000000):
 Calls prog 33 #[(L.p,j*3),(nb,0),(b,0)] w fun e w'=>∃V',e= .returned (.int .i64 (kT (aQ c l) (D.x j) ((D.way j).extract 0 k)).2.2)/\gp w' L V' Fr c l (D.move c l j k)/\ku w w' L V V' [b]/\af w' b 3 #[((kT (aQ c l) (D.x j) ((D.way j).extract 0 k)).2.1.length:Nat)]:=by
 obtain⟨⟨q0,U,q2,q6⟩,f0,f1,f2⟩:=cB h.blk d;have H:=h.way j d;obtain⟨A,m,cap,hv,p,PC,jf⟩:=H.bK;have dN:=p.out;rw[aa]at dN;rw[hv]at U H;have vD:=ht.lt;have n0:=hn.cell 0;have s:=za h;have HV:=za hv;have HW:=za H;have aA:=za hL;have QC:=za jh;have HT:=za ht;have HX:=za hx;have HK:=za F;have an:=za (fun V' (hb:Below w.heap.size w V')=>C4 (L.lo j) (L.hi j) (L.g j) (V j) c l (D.x j) (D.sent j) V' ((h.ses j d).below hb));rw[hx]at an;have aT:min (n:Int) (m:Int)=k:=by omega
 have ai:k<=m:=by omega
 have aU:¬((n:Int)<0):=by omega
 obtain⟨S,I⟩:=dY ((D.way j).extract 0 k);have mQ:Hid (∀V',Below w.heap.size w V'->(convert 75 9 (.slice A k cap)).run prog V'= .ok (.string S) V'):=za fun V' hb=>by
  have:=(H.ah (w':=V') fun i hi _=>hb.block i hi).str (P:=prog) (src:=75) (dst:=9) zm ym zH (cap2:=cap) ai;rw[this,<-I];congr 2
  exact aE (by rw[aq];simp)
 rw[I]at j7⊢;have UF:=za j7;have aH:=za I;unfold dJ.move;rw[I];clear H hv h dN hL jh hn ht hx F I j7;go_enter func33,ntmps33
 go_wp2_with fail
 refine Rt (an.out w (zi _ _)) ?_;go_wp2_with fail
 go_quiet (fail)
 obtain⟨O,kR⟩:=dY (w.drewN nq);have K:Hid (w,O):=za (by rw[<-kR];exact Below.bI (zi _ _) nq);rw[kR];clear q0 U q2 q6 f0 f1 f2 n0 kR;have UT:=za (s.out.below K.out);have gw:=za (HW.out.ah fun k F _=>K.out.block k F);obtain⟨⟨q0,U,q2,q6⟩,f0,f1,f2⟩:=cB UT.out.blk d;rw[HV.out]at U;have fx:=mQ.out O K.out;have EO:(0:Int)<=k:=by omega
 have rH:(k:Int)<=m:=by omega
 go_upto_region 7 with fail
 go_cut [6] (fun v wx=>v= .string S/\∃N n2 J,wx=O.setCell (L.p,j*3+1) (.slice N n2 J)/\Hid (Way O L.base 5 (.slice N n2 J) ((D.way j).data.toList.drop k))/\Hid (∀i,(Value.slice N n2 J).ownBlock=some i->(Value.slice A m cap).ownBlock=some i))
 case first=>
  by_cases TU:cap=k
  ·go_wp2_with fail
   go_meet;case rel=>exact⟨rfl,_,_,_,rfl,by have h:=gw.out;rw[TU]at h;exact h.ai6 ai,za (by intro i h;rcases A with _|x;cases h;simpa[Value.ownBlock]using h)⟩
  go_wp2_with fail
  go_meet;case rel=>exact⟨rfl,_,_,_,rfl,gw.out.ai5 ai TU,Wq _ _ _ _ _ _⟩
 case rest=>
  obtain⟨rfl,N,n2,J,Qs,vc,PD⟩:=hcut;obtain⟨v2,uY⟩:=dY (Value.slice N n2 J);rw[uY]at Qs vc PD;have W:ae [L.p] O wc:=by rw[Qs];exact(ae.refl _ _).setCell (.inl (by simp)) _
  have Z:af wc L.p 80 (ib L (gj V (2+j) v2)):=by rw[Qs];exact gp.GK UT.out.blk d _
  have qi:=UT.out.RM W j d v2 ((D.way j).extract k (D.way j).size) (fun i hi=>by simp at hi;exact .inl (by omega)) (fun i e=> .inl (by rw[HV.out];exact PD.out i e)) Z (by
   rw[aq,cQ];exact vc.out.ah fun i hi e=>W.block i hi fun p=>by
    simp only[yE]at p;subst p;exact vc.out.cw UT.out.blk (by decide) e)
  have dW:ku w wc L V _ [b]:=(ku.below K.out).trans (ku.one W (2+j) (by omega) v2 (fun i hi=>by simp at hi;exact .inl hi) (fun i e=> .inl (by rw[HV.out];exact PD.out i e))) (by simp);have Cf:∀i∈ [b]++jb L V,L.p<=i:=fun i hi=>by
   rcases yA.1 hi with e|e
   ·simp at e;subst e;have:=(s.out.frg i PN).1;have:=s.out.places;omega
   exact s.out.qT i e
  have ah:=oM aA.out QC.out dW.only Cf;have ak:=s.out.places;have P5:iS (L.lo j):=by
   have:=QC.out.a;have:=QC.out.b;rcases(by omega:j=0\/j=1)with rfl|rfl<;>exact⟨by omega,by omega⟩
  have TU:S.size<=k:=by rw[<-aH.out,ar _ _ _ (by have:=HK.out;omega)];omega
  have ab:=za (Ia (L.lo j) (L.hi j) (L.g j) _ c l (D.x j) (D.sent j) S wc hr hc (qi.ses j d) ah.1 ah.2 P5.a P5.b (by omega) ay);obtain⟨⟨p0,_,p2,_⟩,_,_,g2⟩:=cB Z d;have q:=za qi;have I7:=za dW;have aL:=za (s.out.pP HT.out (by decide) (by decide) (by decide) (by decide));have I9:Hid (af wc b 3 #[(0:Int)]):=za ((HT.out.ah K.out vD).only W (fun p=>by simp at p;exact aL.out (cA.2 (.inl p))));obtain⟨V1,pw⟩:=dY (gj V (2+j) v2);have e1:V1 j=V j:=by rw[<-pw,aS _ _ (by omega)]
  have e4:V1 (4+j)=V (4+j):=by rw[<-pw,aS _ _ (by omega)]
  rw[pw]at ab q I7 Z;clear uY W qi dW Cf ah ak P5 TU Qs vc PD q0 U q2 q6 f0 f1 f2 fx pw;go_wp2_with fail
  refine ab.out.mono ?_;rintro e w3 ⟨rv,r,rfl,ad,ao,fI,mK⟩;have C:=q.out.JY fI j d r _ (D.sent j) (fun i hi=>by
   rcases eW.1 hi with e|e
   ·exact .inr (.inr (.inl e))
   exact .inr (.inr (.inr e))) mK ao
  have pt:ku w w3 L V _ [b]:=I7.out.trans (ku.one fI j (by omega) r (fun i hi=>by
   rcases eW.1 hi with e|e
   ·rcases(by omega:j=0\/j=1)with rfl|rfl
    ·exact .inr (.inl e)
    exact .inr (.inr (.inl e))
   exact .inr (.inr (.inr e))) mK) (by simp)
  obtain⟨o,G⟩:=dY (gj V1 j r);have e5:o (4+j)=V (4+j):=by rw[<-G,aS _ _ (by omega),e4]
  have e6:o j=r:=by rw[<-G,bp]
  rw[G]at C pt;have X:=C.got j d;rw[e5]at X;obtain⟨A5,n5,c5,M,aR,aN,aP⟩:=X.bK;obtain⟨A6,n6,c6,rfl,al,aX,aY⟩:=ad.bK;obtain⟨⟨_,_,aK,_⟩,_,_,aO⟩:=cB C.blk d;rw[e5,M]at aK;rw[M]at X;have Qt:Hid (af w3 b 3 #[(0:Int)]):=za (I9.out.only fI fun p=>(q.out.pP I9.out (by decide) (by decide) (by decide) (by decide)) (cA.2 (by
   rcases eW.1 p with e|e
   ·rcases(by omega:j=0\/j=1)with rfl|rfl
    ·exact .inr (.inl e)
    exact .inr (.inr (.inl e))
   exact .inr (.inr (.inr ⟨j,by omega,e⟩)))))
  have UA:∀i,(wc.heap.size<=i/\r.ownBlock≠some i)->jP L.base Fr o i:=fun i hi=>by
   refine⟨zz q.out.low hi.1,fun hf=>by have:=(q.out.frg i hf).2.1;omega,fun a ha e=> ?_⟩;by_cases Y:a=j
   ·subst Y;rw[e6]at e;exact hi.2 e
   rw[<-G,aS _ _ Y]at e;have:=(q.out.own a i ha e).2;omega
  have Ti:∀i,(Value.slice A5 n5 c5).ownBlock=some i->¬(wc.heap.size<=i/\r.ownBlock≠some i):=fun i e hi=>by
   rw[<-M,<-e4]at e;have:=(q.out.own (4+j) i (by omega) e).2;omega
  have ax:=za X;have aw:=za ad;have B:=za C;have ql:=za pt;have aJ:=za UA;have B9:=za Ti;have kE:Hid (o (4+j)= .slice A5 n5 c5):=za (e5.trans M);have aB:=C.low;obtain⟨fs,Fp⟩:=dY (kT (aQ c l) (D.x j) S);rw[Fp]at aw UF al B;have aG:=za Fp;clear ad ao fI mK C pt X UA Ti ab q I7 I9 e1 e4 e5 e6 p0 p2 g2 M Z Fp G;go_wp2_with (
   at_builtin
   refine pO (by rfl) (.tmp 53) (.tmp 54) (by rfl) (jP L.base Fr o) (fun i=>wc.heap.size<=i/\r.ownBlock≠some i) L.base wc.heap.size (D.got j) fs.2.1 (by rfl) ax.out (by rfl) aw.out aJ.out B9.out UF.out aB ?_;intro z u E w4 Tn BA dM WZ;have dK:Hid (af w4 L.p 80 (ib L o)):=za (B.out.blk.grown dM (fun e=>by have:=ax.out.ge _ e;have:=B.out.places;omega));obtain⟨⟨_,_,r2,_⟩,_,_,s2⟩:=cB dK.out d;have R:Hid (af w4 b 3 #[(0:Int)]):=za (Qt.out.grown dM fun e=>(B.out.pP Qt.out (by decide) (by decide) (by decide) (by decide)) (cA.2 (.inr (.inr (.inr ⟨4+j,by omega,by rw[kE.out];exact e⟩)))));have bX:b≠L.p:=R.out.neT dK.out (by decide);have t0:=R.out.cell 0;have tf:=R.out.frozen 0;have aZ:=R.out.lt;have IN:=za BA;have aD:=za dM;have Be:=za WZ;clear BA dM WZ)
  obtain⟨y,QA⟩:=dY (w4.setCell (L.p,j*3+2) (.slice z u E));obtain⟨w6,La⟩:=dY (y.setCell (b,0) n6);have IB:ae [L.p] w4 y:=by rw[<-QA];exact(ae.refl _ _).setCell (.inl (by simp)) _
  have Bw:ae [b] y w6:=by rw[<-La];exact(ae.refl _ _).setCell (.inl (by simp)) _
  rw[QA,La];have av:af w6 b 3 #[n6]:=by rw[<-La];exact(R.out.only IB (by simp[bX])).store rfl
  have bF:∀i,(Value.slice z u E).ownBlock=some i->(o (4+j)).ownBlock=some i\/w3.heap.size<=i:=fun i e=>by
   rw[kE.out];rcases Be.out with h|⟨a,h,ha⟩
   ·exact .inl (by rw[<-h];exact e)
   rw[h]at e;injection e with e;exact .inr (by omega)
  have ho:ae (L.p::(o (4+j)).ownBlock.toList) w3 y:=by
   rw[kE.out];exact((ae.cn aD.out).mono fun k F=>Ym _ F).trans' IB (by simp)
  have ag:∀i∈L.p::(o (4+j)).ownBlock.toList,i=L.p\/(o (4+j)).ownBlock=some i:=fun i hi=>by rcases yj.1 hi with e|e;exact .inl e;exact .inr (aM.1 e)
  have fk:af y L.p 80 (ib L (gj o (4+j) (.slice z u E))):=by rw[<-QA];exact gp.RN dK.out d _
  have ak:=B.out.places;have au:=B.out.aat ho j d (.slice z u E) _ (fun i hi=>by rcases ag i hi with e|e;exact .inl (by omega);exact .inr (.inr e)) bF fk ((IN.out.aav.eG (S1:=jP L.base Fr (gj o (4+j) (.slice z u E))) (fun i hi hS=>⟨hS.1.1,hS.1.2.1,fun a ha e=>by
   by_cases Y:a=4+j
   ·subst Y;rw[bp]at e;exact hS.2 e
   rw[aS _ _ Y]at e;exact hS.1.2.2 a ha e⟩) (ze _)).only IB (fun i hi hS=>by simp at hi;subst hi;have:=hS.1;omega) (fun i hi e=>by simp at hi;subst hi;have:=(IN.out.ge _ e).1;omega))
  have az:=za (au.only Bw (fun i hi=>by simp at hi;subst hi;exact .inr PN));have aC:Hid (ku w w6 L V _ [b]):=za ((ql.out.trans (ku.one ho (4+j) (by omega) (.slice z u E) (fun i hi=>by rcases ag i hi with e|e;exact .inl e;exact .inr (.inr (.inr e))) bF) (by simp)).trans (⟨Bw.mono (by simp),fun _ _ _ e=> .inl e⟩:ku y w6 L _ _ [b]) (by simp));have Nd:=za av;clear QA La IB Bw av bF ho ag fk au r2 s2 t0 tf;go_wp2;go_ret;rw[aG.out];refine⟨rfl,_, ?_,aC.out,by rw[<-al.out];exact Nd.out⟩;have:=az.out;simp only[nJ]at this;exact this
def Ps (L:gT)(c:aF)(l:List aV)(D:dJ)(j:Nat)(nm:ByteArray)(it:It):Int:=if(bw c l nm it).2≠0 then(bw c l nm it).2 else if L.room<(D.way (1-j)).size+(bw c l nm it).1.size then 5 else 0
def dJ.send (D:dJ)(L:gT)(c:aF)(l:List aV)(j:Nat)(nm:ByteArray)(it:It)(st:Nat->Nat):dJ:=⟨D.x,st,if Ps L c l D j nm it=0 then gj D.way (1-j) (D.way (1-j)++(bw c l nm it).1)else D.way,D.got⟩
def XQ (L:gT)(c:aF)(l:List aV)(D:dJ)(j:Nat)(nm:ByteArray)(it:It):Nat:=if Ps L c l D j nm it=0 then(bw c l nm it).1.size else 0
theorem Pt (L:gT)(V:Nat->Value)(Fr:Nat->Prop)(c:aF)(l:List aV)(D:dJ)(j:Nat)(hj:j<2)(nm:ByteArray)(it:It)(B:Nat)(c0 c1 c2:Value)(b K sb nb:Nat)(w:World)(h:gp w L V Fr c l D)(hc:c.ok)(x:Laid w/\aW w)(jh:iS L.p)
 (hI:bH w B it c0 c1 c2) (hB:B<=L.p) (hm:af w b 30 #[nm,c0,c1,c2]) (ar:Fr b) (S:af w K 36 #[(L.p,0)]) (M:af w sb 3 #[j]) (X:af w nb 3 #[(0:Int)]) (aq:Fr nb)
 (Ba:(D.way (1-j)).size<=1048576) (eB:D.sent j<=1000000000) (hl:c.fm≠1->it.fB.length<=1000000) (Y7:(bB c l nm it).1.ok) (O:(bw c l nm it).1.size<=1000000000):
 Calls prog 30 #[(L.p,j*3),(b,0),(K,0),(sb,0),(nb,0)] w fun e w'=>∃V' st,e= .returned (Ps L c l D j nm it)/\(∀i,st i<=D.sent i+1)/\gp w' L V' Fr c l (D.send L c l j nm it st)/\ku w w' L V V' [nb]/\af w' nb 3 #[XQ L c l D j nm it]:=by
 obtain⟨Ax,dC,rfl,rfl,rfl,-⟩:=hI.open_;have ay:=h.places;have j7:L.p<L.lo j:=by rcases(by omega:j=0\/j=1)with rfl|rfl<;>omega
 have hg:L.g j≠L.p:=by rcases(by omega:j=0\/j=1)with rfl|rfl<;>omega
 have au:b≠L.g j:=by have:=(h.frg b ar).1;rcases(by omega:j=0\/j=1)with rfl|rfl<;>omega
 have IZ:=za (h.pP X (by decide) (by decide) (by decide) (by decide));have ag:=za (h.pP S (by decide) (by decide) (by decide) (by decide));have Ln:=za (h.pP M (by decide) (by decide) (by decide) (by decide));have HH:=za h;have an:=za X;have ak:=za S;have QB:=za M;have y:=za (fun W (u:Below w.heap.size w W)=>H7 (L.lo j) (L.hi j) (L.g j) (V j) c l (D.x j) (D.sent j) nm it B W _ _ _ hc ((h.ses j hj).below u) (hI.below (u.mono (by omega))) (by have:=u.size;omega) (x.1.below u x.1.pos) (x.2.below u x.2.pos) hl Y7 eB);have z:Hid (∀V,ae [L.g j] w V->(V,L.p,j*3,L.g j,0)/\(V,b,0,nm)/\(V,b,1,it.text)/\(V,b,2,it.list)/\(V,b,3,Value.slice Ax it.sub.length dC)):=za fun W d=>by
  have h1:=(cB (h.blk.only d (by simpa using Zj hg)) hj).1.1;have C:=hm.only d (by simpa using au);exact⟨h1,C.cell 0,C.cell 1,C.cell 2,C.cell 3⟩
 unfold dJ.send XQ Ps;obtain⟨P,hP⟩:=dY (bw c l nm it);rw[hP]at y O⊢;obtain⟨T,E⟩:=P;simp only at y O⊢;obtain⟨R,J⟩:=exh (if E≠0 then E else if L.room<(D.way (1-j)).size+T.size then 5 else 0);rw[J.out];obtain⟨W',G⟩:=exh (if R=0 then gj D.way (1-j) (D.way (1-j)++T)else D.way);obtain⟨aw,n⟩:=exh (if R=0 then T.size else 0);rw[G.out,n.out];have ai:ae [L.g j] w w.drew:=(ae.refl _ _).drew;have mQ:Hid (∀a:Nat,a<=D.sent j+1->∀i,gj D.sent j a i<=D.sent i+1):=za fun a ha i=>by
  unfold gj;split
  ·rename_i e;rw[e];exact ha
  omega
 clear h hm S M X hI x hl Y7 hP;go_enter func30,ntmps30
 go_wp2_with fail
 have hHeld:=z.out _ ai;refine Uu z.out 10 (by kernel_rfl) (by kernel_rfl) ?_;refine GT.iv [0,1,2,3,4] hHeld (fun _ _ _ _ _ h=>h) (by kernel_rfl) ?_;repeat(refine .c rfl rfl (fun V hV=>by go_simp<;>with_reducible rfl) ?_;simp only[Act.put,zb,zc,zd])
 refine .nil ?_;refine GT.fx 5 (fun aa s=> ?_) rfl (by kernel_rfl);go_simp;refine(y.out w.drew (zi _ _).drew).mono ?_;rintro e w3 ⟨rfl,Bn,ad⟩;have o:ae [L.g j] w w3:=ai.trans ad;go_wp2_with fail
 refine s.out _ _ (z.out w3 o) (fun hHeld=> ?_);clear s aa;try simp only[Act.put,zb,zc,zd]
 refine GT.iv [6,7,8,9] hHeld (fun _ _ _ _ _ h=>h) (by kernel_rfl) ?_;repeat(refine .c rfl rfl (fun V hV=>by go_simp<;>with_reducible rfl) ?_;simp only[Act.put,zb,zc,zd])
 refine .nil ?_;refine GT.oF 10 ?_ rfl (by kernel_rfl);go_simp;obtain⟨F,qi⟩:=dY (if E=0 then D.sent j+1 else D.sent j);have ah:F<=D.sent j+1:=by rw[<-qi];split<;>omega
 rw[qi]at Bn;have U:=HH.out.JY o j hj (V j) (D.x j) F (fun k hk=>by simp at hk;exact .inr (.inr (.inl hk))) (fun k e=> .inl e) Bn;simp only[nJ]at U;have r:L.g j∈jb L V:=cA.2 (by rcases(by omega:j=0\/j=1)with rfl|rfl;exact .inr (.inl rfl);exact .inr (.inr (.inl rfl)));have ql:Hid (ku w w3 L V V [nb]):=za ⟨o.mono (by simp[r]),fun _ _ _ e=> .inl e⟩;have Z:=za U;have FC:=za (an.out.only o (by simp;rintro rfl;exact IZ.out r));have E3:=za (ak.out.only o (by simp;rintro rfl;exact ag.out r));have fT:=za (QB.out.only o (by simp;rintro rfl;exact Ln.out r));have H:=za (mQ.out F ah);obtain⟨st,Uo⟩:=dY (gj D.sent j F);rw[Uo]at H Z;clear qi ah Bn U o ad hHeld Uo mQ y z r;rcases eR E with⟨m,z1,z2⟩|⟨m,z1,z2⟩
 ·subst m;have hR:(if L.room<(D.way (1-j)).size+T.size then(5:Int)else 0)=R:=by have:=J.out;rwa [zf (by simp:¬(0:Int)≠0)]at this
  have hD:(if L.room<(D.way (1-j)).size+T.size then(⟨D.x,st,D.way,D.got⟩:dJ)else⟨D.x,st,gj D.way (1-j) (D.way (1-j)++T),D.got⟩)=⟨D.x,st,W',D.got⟩:=by
   rw[<-G.out,<-hR];by_cases h:L.room<(D.way (1-j)).size+T.size
   ·rw[zg h,zg h,zf (by decide)]
   rw[zf h,zf h,zg rfl]
  have UQ:Hid (∀W,gp W L V Fr c l ⟨D.x,st,D.way,D.got⟩->Calls prog 32 #[(L.p,0),(L.p,(1-j)*3),T] W fun e w'=>∃V',e= .returned R/\gp w' L V' Fr c l ⟨D.x,st,W',D.got⟩/\ku W w' L V V' []):=za fun W d=>by
   have:=V5 L V Fr c l ⟨D.x,st,D.way,D.got⟩ (1-j) (by omega) T W d Ba O;unfold KB at this;rw[hR,hD]at this;exact this
  obtain⟨ji,rY⟩:=dY (j:Int);rw[rY]at fT;have Qu:Hid (∀W,ae ([]++jb L V) w3 W->(W,K,0,L.p,0)/\(W,sb,0,ji)):=za fun W d=>⟨(E3.out.only d ag.out).cell 0,(fT.out.only d Ln.out).cell 0⟩
  have ao:Hid (∀W,ae ([]++jb L V) w3 W->af W nb 3 #[(0:Int)]):=za fun W d=>FC.out.only d IZ.out
  have N:ae ([]++jb L V) w3 w3.drew:=(ae.refl _ _).drew;clear hR hD;have av:=za N;have ax:IntKind.i64.wrap 1=1:=rfl;have az:IntKind.i64.wrap 0=0:=rfl;rcases(by omega:j=0\/j=1)with rfl|rfl;all_goals
   simp at rY;subst rY;simp only[Nat.sub_zero,Zf,ZD,ZU]at UQ;go_wp2_with fail
   have hHeld:=Qu.out _ N;refine Uu Qu.out 9 (by kernel_rfl) (by kernel_rfl) ?_;refine GT.iv [0,1,2,3,4,5,6,7] hHeld (fun _ _ _ _ _ h=>h) (by kernel_rfl) ?_;repeat(refine .c rfl rfl (fun V hV=>by go_simp<;>with_reducible rfl) ?_;simp only[Act.put,zb,zc,zd])
   refine .nil ?_;refine GT.fx 8 (fun aa s=> ?_) rfl (by kernel_rfl);go_simp;refine(UQ.out w3.drew (Z.out.below (zi _ _).drew)).mono ?_;rintro e p ⟨q,rfl,M6,Bz⟩;have tq:=av.out.trans Bz.only;go_wp2_with fail
   refine s.out _ _ (Qu.out p tq) (fun hHeld=> ?_);clear s aa;try simp only[Act.put,zb,zc,zd]
   refine GT.oF 9 ?_ rfl (by kernel_rfl);go_simp;have Bl:=za M6;have ab:ku w3 p L V q [nb]:=(ku.below (zi _ _).drew).trans Bz (by simp);have Jd:=za (ql.out.trans ab (by simp));have I:=za (ao.out p tq);clear M6 Bz ab tq hHeld N;rcases eR R with⟨m,y1,y2⟩|⟨m,y1,y2⟩
   ·subst m;rw[zg rfl]at n;have t0:=I.out.cell 0;have tf:=I.out.frozen 0;obtain⟨Y,A⟩:=dY (p.setCell (nb,0) T.size);have IB:ae [nb] p Y:=by rw[<-A];exact(ae.refl _ _).setCell (.inl (by simp)) _
    have kO:Hid (af Y nb 3 #[T.size]):=za (by rw[<-A];exact I.out.store rfl);have aj:=za (Bl.out.only IB (by simp[aq]));have al:=za (Jd.out.trans (⟨IB.mono (by simp),fun _ _ _ e=> .inl e⟩:ku p Y L q q [nb]) (by simp));have mz:=za A;clear A IB;go_wp2;rw[mz.out];go_ret;exact⟨rfl,q,st,H.out,aj.out,al.out,by rw[<-n.out];exact kO.out⟩
   rw[zf m]at n;go_wp2;go_ret;exact⟨q,st,rfl,H.out,Bl.out,Jd.out,by rw[<-n.out];exact I.out⟩
 obtain rfl:E=R:=by rw[<-J.out,zg m]
 rw[zf m]at G n;go_wp2;go_ret;exact⟨V,st,rfl,H.out,by rw[<-G.out];exact Z.out,ql.out,by rw[<-n.out];exact FC.out⟩
theorem AV (L:gT)(V:Nat->Value)(Fr:Nat->Prop)(c:aF)(l:List aV)(D:dJ)(j:Nat)(C:j<2)(n:Nat)(k:Nat)(y:k=min n (D.way j).size)(w:World)(h:gp w L V Fr c l D)(z:c.right=true)(B:c.ok)(m:Laid w/\aW w)(s:iS L.p)
 (hx:(D.x j).fault=0) (hz:(D.x j).buf.size+k<=5000000) (u:(D.x j).told<=1000000000) (x:(D.got j).length+(kT (aQ c l) (D.x j) ((D.way j).extract 0 k)).2.1.length<=1000000):
 Calls prog 12 #[(L.p,0),j,n] w fun e w'=>∃V',e= .returned (.tuple #[((kT (aQ c l) (D.x j) ((D.way j).extract 0 k)).2.1.length:Nat),(kT (aQ c l) (D.x j) ((D.way j).extract 0 k)).2.2])/\gp w' L V' Fr c l (D.move c l j k)/\ku w w' L V V' []:=by
 obtain⟨W,b⟩:=dY ((w.alloc (.cells #[n] 3)).alloc (.cells #[(0:Int)] 3));have d:Below w.heap.size w W:=by rw[<-b];exact((zi _ w).alloc (ze _) _).alloc (by simp) _
 have M:W.heap.size=w.heap.size+2:=by rw[<-b];simp
 have q:af W w.heap.size 3 #[n]:=by rw[<-b];exact(af.new w _ _).alloc _
 have A:af W (w.heap.size+1) 3 #[(0:Int)]:=by rw[<-b];exact af.at_ (by simp)
 have G:gp W L V (fun i=>Fr i\/i=w.heap.size\/i=w.heap.size+1) c l D:=h.grow (T:= []) (ae.ai d (ze _)) (by simp) fun i hi=>by
  rcases hi with a|a|a
  ·have:=(h.frg i a).2.1;exact⟨.inl a,by omega⟩
  ·exact⟨.inr (by omega),by omega⟩
  exact⟨.inr (by omega),by omega⟩
 have I:=za (Oy L.p j C w.heap.size (w.heap.size+1) W _ _ (cex (Pr L V _ c l D j C n k y w.heap.size (w.heap.size+1) W G z B ⟨m.1.below d m.1.pos,m.2.below d m.2.pos⟩ s q A (.inr (.inr rfl)) hx hz u x)));obtain⟨F,hF⟩:=dY (kT (aQ c l) (D.x j) ((D.way j).extract 0 k));rw[hF]at I⊢;have K:=za d;have N:=za b;clear h G m s q A y d M b hF x u hz hx z B;go_enter func12,ntmps12
 go_wp2_with fail
 rw[N.out];refine cm I.out fun w3 J=> ?_
 obtain⟨V',H,r,E⟩:=J;have O:=E.cell 0;have p:=za (H.less (Fr:=Fr) fun i hi=> .inl hi);have o:Hid (ku w w3 L V V' []):=za ((ku.below K.out).trans r (by simp));clear H r E;go_wp2;go_ret2
 first
  |exact⟨V',rfl,p.out,o.out⟩
  |exact⟨rfl,V',p.out,o.out⟩
  |exact⟨V',p.out,o.out⟩
theorem Ie (L:gT)(V:Nat->Value)(Fr:Nat->Prop)(c:aF)(l:List aV)(D:dJ)(j:Nat)(M:j<2)(nm:ByteArray)(it:It)(B:Nat)(u Y N:Value)(w:World)(h:gp w L V Fr c l D)(K:c.ok)(k:Laid w/\aW w)(F:iS L.p)
 (r:bH w B it u Y N) (hB:B<=L.p) (Ba:(D.way (1-j)).size<=1048576) (eB:D.sent j<=1000000000) (H:c.fm≠1->it.fB.length<=1000000) (x:(bB c l nm it).1.ok) (dZ:(bw c l nm it).1.size<=1000000000):
 Calls prog 11 #[(L.p,0),j,.agg #[nm,u,Y,N]] w fun e w'=>∃V' st,e= .returned (.tuple #[XQ L c l D j nm it,Ps L c l D j nm it])/\(∀i,st i<=D.sent i+1)/\gp w' L V' Fr c l (D.send L c l j nm it st)/\ku w w' L V V' []:=by
 obtain⟨z,A,rfl,rfl,rfl,-⟩:=r.open_;obtain⟨W,b⟩:=dY ((((w.alloc (.cells #[(L.p,0)] 36)).alloc (.cells #[j] 3)).alloc (.cells #[nm,it.text,it.list,.slice z it.sub.length A] 30)).alloc (.cells #[(0:Int)] 3));have d:Below w.heap.size w W:=by rw[<-b];exact((((zi _ w).alloc (ze _) _).alloc (by simp) _).alloc (by simp;omega) _).alloc (by simp;omega) _
 have Ch:W.heap.size=w.heap.size+4:=by rw[<-b];simp
 have y:af W w.heap.size 36 #[(L.p,0)]:=by rw[<-b];exact(((af.new w _ _).alloc _).alloc _).alloc _
 have I:af W (w.heap.size+1) 3 #[j]:=by rw[<-b];exact((af.at_ (by simp)).alloc _).alloc _
 have J:af W (w.heap.size+1+1) 30 #[nm,it.text,it.list,.slice z it.sub.length A]:=by rw[<-b];exact(af.at_ (by simp)).alloc _
 have G:af W (w.heap.size+1+1+1) 3 #[(0:Int)]:=by rw[<-b];exact af.at_ (by simp)
 have R:gp W L V (fun i=>Fr i\/w.heap.size<=i/\i<W.heap.size) c l D:=h.grow (T:= []) (ae.ai d (ze _)) (by simp) fun i hi=>by
  rcases hi with a|a
  ·have:=(h.frg i a).2.1;exact⟨.inl a,by omega⟩
  exact⟨.inr a.1,a.2⟩
 have aa:=h.places;have U:=za (Ox L.p j M (w.heap.size+1+1) w.heap.size (w.heap.size+1) (w.heap.size+1+1+1) W _ _ (aiI (Pt L V _ c l D j M nm it B _ _ _ (w.heap.size+1+1) w.heap.size (w.heap.size+1) (w.heap.size+1+1+1) W R K ⟨k.1.below d k.1.pos,k.2.below d k.2.pos⟩ F (r.below (d.mono (by omega))) hB J (.inr ⟨by omega,by omega⟩) y I G (.inr ⟨by omega,by omega⟩) Ba eB H x dZ)));obtain⟨D',n⟩:=dY (D.send L c l j nm it);obtain⟨ab,q⟩:=dY (XQ L c l D j nm it);obtain⟨E,o⟩:=dY (Ps L c l D j nm it);rw[n,q,o]at U;rw[n,q,o];have HB:=za d;have HW:=za b;clear h R k F y I J G d Ch b n q o K r H x;go_enter func11,ntmps11
 go_wp2_with fail
 rw[HW.out];refine cm U.out fun w3 Z=> ?_
 obtain⟨V',st,X,S,C,O⟩:=Z;have t0:=O.cell 0;have s:=za X;have p:=za (S.less (Fr:=Fr) fun i hi=> .inl hi);have m:Hid (ku w w3 L V V' []):=za ((ku.below HB.out).trans C (by simp;omega));clear S C O X;go_wp2;go_ret2
 first
  |exact⟨V',st,rfl,s.out,p.out,m.out⟩
  |exact⟨rfl,V',st,s.out,p.out,m.out⟩
  |exact⟨V',st,s.out,p.out,m.out⟩
theorem gp.after {V V':Nat->Value}{Fr:Nat->Prop}{c:aF}{D:dJ}(h:gp w L V Fr c l D)(b:ku w w' L V V' [])(e:Laid w/\aW w)(i:iS L.p):(Laid w'/\aW w')/\Below L.p w w':=by
 have d:∀k∈ []++jb L V,L.p<=k:=by simpa using h.qT
 have:=h.places;exact⟨oM e i b.only d,b.only.below (by omega) d⟩
theorem iS.up {a b:Nat}(h:iS a)(c:a<=b):iS b:=⟨zJ h.a c,zJ h.b c⟩
theorem Wr (L:gT)(V:Nat->Value)(Fr:Nat->Prop)(c:aF)(l:List aV)(D:dJ)(j:Nat)(o:j<2)(w:World)(h:gp w L V Fr c l D):
 Calls prog 16 #[(L.p,0),j] w fun e w'=>e= .returned ((D.way j).size:Nat)/\(w,w'):=by
 obtain⟨W,d⟩:=dY (w.alloc (.cells #[(0:Int)] 3));have i:Below w.heap.size w W:=by rw[<-d];exact(zi _ w).alloc (ze _) _
 have b:af W w.heap.size 3 #[(0:Int)]:=by rw[<-d];exact af.new _ _ _
 have r:Calls prog 38 #[(L.p,j*3),(w.heap.size,0)] W fun e w'=>e= .returned (0:Int)/\(Below w.heap.size W w'/\af w' w.heap.size 3 #[((D.way j).size:Nat)]):=by
  have p:=h.below i;have E:=b.cell 0;have G:=b.frozen 0;have z:=za b;obtain⟨⟨_,y,_,_⟩,_⟩:=cB p.blk o;obtain⟨A,m,cap,s,q,_,_⟩:=(p.way j o).bK;rw[s]at y;have k:=q.out;rw[aa]at k;rw[<-k];clear s q k;clear h i b p d;go_enter func38,ntmps38
  go_wp2;go_ret;exact⟨rfl,(zi _ _).setCell (by simp) _,z.out.store rfl⟩
 have C:=za (RP L.p j o w.heap.size W 0 _ r);have u:=za i;have B:=za d;clear h b r i d;go_enter func16,ntmps16
 go_wp2_with fail
 rw[B.out];refine cm C.out fun w3 n=> ?_
 have F:=n.2.cell 0;have x:Hid (w,w3):=za (u.out.trans n.1);clear n;go_wp2;go_ret;exact⟨rfl,x.out⟩
theorem Ig (L:gT)(V:Nat->Value)(Fr:Nat->Prop)(c:aF)(l:List aV)(D:dJ)(j:Nat)(k:j<2)(w:World)(h:gp w L V Fr c l D):
 Calls prog 17 #[(L.p,0),j] w fun e w'=>e= .returned (((D.x j).buf).size:Nat)/\(w,w'):=by
 obtain⟨W,b⟩:=dY (w.alloc (.cells #[(0:Int)] 3));have i:Below w.heap.size w W:=by rw[<-b];exact(zi _ w).alloc (ze _) _
 have d:af W w.heap.size 3 #[(0:Int)]:=by rw[<-b];exact af.new _ _ _
 have o:Calls prog 39 #[(L.p,j*3),(w.heap.size,0)] W fun e w'=>e= .returned (0:Int)/\(Below w.heap.size W w'/\af w' w.heap.size 3 #[(((D.x j).buf).size:Nat)]):=by
  have n:=h.below i;have A:=d.cell 0;have z:=d.frozen 0;have s:=za d;obtain⟨⟨y,_⟩,_⟩:=cB n.blk k;have q:=za (rC _ _ _ _ _ _ _ _ W (n.ses j k));clear h i d n b;go_enter func39,ntmps39
  go_wp2_with fail
  refine Rt q.out ?_;go_wp2;go_ret;exact⟨rfl,(zi _ _).setCell (by simp) _,s.out.store rfl⟩
 have x:=za (Oz L.p j k w.heap.size W 0 _ o);have r:=za i;have p:=za b;clear h d o i b;go_enter func17,ntmps17
 go_wp2_with fail
 rw[p.out];refine cm x.out fun w3 m=> ?_
 have B:=m.2.cell 0;have u:Hid (w,w3):=za (r.out.trans m.1);clear m;go_wp2;go_ret;exact⟨rfl,u.out⟩
theorem Dj (L:gT)(V:Nat->Value)(Fr:Nat->Prop)(c:aF)(l:List aV)(D:dJ)(j:Nat)(b:j<2)(w:World)(h:gp w L V Fr c l D):
 Calls prog 18 #[(L.p,0),j] w fun e w'=>e= .returned (D.x j).fault/\w=w':=by
 have d:Calls prog 41 #[(L.p,j*3)] w fun e w'=>e= .returned (D.x j).fault/\w=w':=by
  obtain⟨⟨m,_⟩,_⟩:=cB h.blk b;have i:=za (C4 _ _ _ _ _ _ _ _ w (h.ses j b));clear h;go_enter func41,ntmps41
  go_wp2_with fail
  refine Rt i.out ?_;go_wp2;go_ret;exact⟨rfl,rfl⟩
 have k:=za (JZ L.p j b w _ _ d);clear h d;go_enter func18,ntmps18
 go_wp2_with fail
 refine Rt k.out ?_;go_wp2;go_ret;exact⟨rfl,rfl⟩
theorem EK (c:aF)(f:Fr)(hid:f.id<18446744073709551616)(h:(bg c f).2=0):(bg c f).1.size<=70000:=by
 unfold bg at h⊢;by_cases j:c.fm=1
 ·rw[zg j]at h⊢;by_cases i:ca f.nm=true
  ·rw[zg i]at h⊢;by_cases d:65536<f.body.size
   ·rw[zg d]at h;exact absurd h (by decide)
   rw[zf d];simp only;rw[lS c.mg f.nm f.body (dE i).2];omega
  rw[zf i]at h;exact absurd h (by decide)
 rw[zf j]at h⊢;by_cases d:c.fm=2
 ·rw[zg d]at h⊢;by_cases b:65536<(aR f.id).length+f.body.size
  ·rw[zg b]at h;exact absurd h (by decide)
  rw[zf b];simp only;rw[bJ];have e:=bC 10 ((aR f.id).length+f.body.data.toList.length) (by rw[aa];omega) (by omega);unfold eF;rw[zh,zh];rw[aa]at*;omega
 rw[zf d]at h⊢;by_cases b:c.un<f.body.size
 ·rw[zg b]at h;exact absurd h (by decide)
 rw[zf b]at h⊢;by_cases e:65536<(aR f.id).length+(pack f.body.data.toList).length
 ·rw[zg e]at h;exact absurd h (by decide)
 rw[zf e];simp only;rw[bJ];have k:=bC 10 ((aR f.id).length+(pack f.body.data.toList).length) (by omega) (by omega);unfold eF;rw[zh,zh];omega
theorem KP {c:aF}{f:Fr}(hid:f.id<18446744073709551616)(h:(gQ c f).2=0):(gQ c f).1.size<=70000:=by
 unfold gQ at h⊢;split
 ·rename_i d
  rw[zg d]at h;by_cases b:(bg c f).2≠0
  ·rw[zg b]at h;exact absurd h b
  rw[zf b]at h⊢;split
  ·exact ya _
  exact EK c f hid (zC.1 b)
 exact ya _
theorem uk {c:aF}(hid:Gv l)(h:(bw c l nm x).2=0):(bw c l nm x).1.size<=70000:=by
 obtain⟨b,d⟩:=Gt h;rw[d]at h⊢;exact KP (Gw hid b) h
theorem Ih {c:aF}(p:∀e∈l,mr e)(hx:x.count<=1000000)(r:x.fB.length<=1000000):(bB c l nm x).1.ok:=by
 by_cases i:(bB c l nm x).2=0
 ·obtain⟨e,o,b,n⟩:=k8 i;have h:=p e (ks o).1;have j:(bU c e.shape x).1.size<=9223372036854775807:=by
   by_cases k:c.fm=1
   ·unfold bU at b⊢;rw[zg k]at b⊢;unfold mn at b⊢;by_cases d:iu e.shape x c.it=0
    ·rw[zg d];obtain⟨q,m,_⟩:=sF d;have:=ME x e.shape (jM q).2.1 (sE m).2.2;simp only;rw[bJ];omega
    rw[zf d];exact ya _
   rw[(sJ k b (by omega)).2,bJ];omega
  rw[n];split
  ·exact⟨by simp,by have:=h.name;simp only;omega,j⟩
  exact⟨h.id,by simp,j⟩
 rw[CX i];exact⟨by simp[oR],by simp[oR],by simp[oR]⟩
theorem aeP {c:aF}{D:dJ}{it:It}(h:Ps L c l D j nm it=0):(bw c l nm it).2=0/\(D.way (1-j)).size+(bw c l nm it).1.size<=L.room:=by
 unfold Ps at h;by_cases b:(bw c l nm it).2≠0
 ·rw[zg b]at h;exact absurd h b
 rw[zf b]at h;by_cases d:L.room<(D.way (1-j)).size+(bw c l nm it).1.size
 ·rw[zg d]at h;cases h
 exact⟨by omega,by omega⟩
structure TkE (c:aF)(l:List aV):Prop where
 hc:c.ok
 hr:c.right=true
 ok:ch c l
 id:Gv l
 es:∀e∈l,mr e
structure Dk (w:World)(L:gT)(V:Nat->Value)(Fr:Nat->Prop)(c:aF)(l:List aV)(D:dJ)(sn:Nat->List Ms)(cX:Nat):Prop where
 ps:gp w L V Fr c l D
 tk:∀j,j<2->∃N,oT c l (D.x j) (D.way j) (D.got j) (sn j) N/\N<=cX*70000
 way:∀j,j<2->(D.way j).size<=1048576
 st:∀j,j<2->D.sent j<=cX
 sn:∀j,j<2->(sn j).length<=cX
 la:Laid w/\aW w
 lo:iS L.p
 rm:L.room=1048576
theorem Dk.more {V:Nat->Value}{Fr:Nat->Prop}{c:aF}{D:dJ}{e:Nat->List Ms}(h:Dk w L V Fr c l D e k)(d:k<=m):Dk w L V Fr c l D e m:=
 ⟨h.ps,fun j b=>(h.tk j b).imp fun N i=>⟨i.1,zz i.2 (xZ _ d)⟩,h.way,fun j b=>zz (h.st j b) d,fun j b=>zz (h.sn j b) d,h.la,h.lo,h.rm⟩
theorem Dk.grow {V:Nat->Value}{Fr e:Nat->Prop}{c:aF}{D:dJ}{d:Nat->List Ms}{T:List Nat}(h:Dk w L V Fr c l D d j)(i:ae T w w')(m:∀k∈T,Fr k)(hF:∀k,e k->(Fr k\/w.heap.size<=k)/\k<w'.heap.size):Dk w' L V e c l D d j:=
 ⟨h.ps.grow i (fun k b=> .inr (m k b)) hF,h.tk,h.way,h.st,h.sn,oM h.la h.lo i (fun k b=>by have:=(h.ps.frg k (m k b)).1;have:=h.ps.places;omega),h.lo,h.rm⟩
theorem Dk.below {V:Nat->Value}{Fr:Nat->Prop}{c:aF}{D:dJ}{b:Nat->List Ms}(h:Dk w L V Fr c l D b e)(i:Below w.heap.size w w'):Dk w' L V Fr c l D b e:=
 h.grow (T:= []) (ae.ai i (ze _)) (by simp) fun k d=>⟨.inl d,zJ (h.ps.frg k d).2.1 i.size⟩
theorem Dk.got {V:Nat->Value}{Fr:Nat->Prop}{c:aF}{D:dJ}{b:Nat->List Ms}(h:Dk w L V Fr c l D b q)(n:TkE c l)(o:j<2)(k:D.way j=ByteArray.empty):D.got j=b j/\(D.x j).buf=ByteArray.empty/\(D.x j).fault=0/\∀m∈b j,m.x.may=true:=by
 obtain⟨N,d,_⟩:=h.tk j o;have r:=d.may n.ok;rw[k]at d;obtain⟨e,p,i⟩:=d.done;exact⟨e,p,i,by rw[<-e];exact r⟩
theorem XR {V:Nat->Value}{Fr:Nat->Prop}{c:aF}(h:gp w L V Fr c l dJ.new)(d:c.right=true)(i:Laid w/\aW w)(b:iS L.p)(e:L.room=1048576):Dk w L V Fr c l dJ.new (fun _=> []) 0:=
 ⟨h,fun _ _=>⟨0,oT.new d l,ya _⟩,fun _ _=>ya _,fun _ _=>ze _,fun _ _=>ze _,i,b,e⟩
theorem Ii {V:Nat->Value}{Fr:Nat->Prop}{c:aF}{D:dJ}{m:Nat->List Ms}{r:Nat}(h:Dk w L V Fr c l D m r)(k:TkE c l)(Ld:r<=60)(j:Nat)(G:j<2)(nm:ByteArray)(x:It)(B:Nat)(o z u:Value)(R:bH w B x o z u)(O:B<=L.p)(H:x.kU=false):
 Calls prog 11 #[(L.p,0),j,.agg #[nm,o,z,u]] w fun e w'=>∃(V':Nat->Value) (U:dJ) (n:Nat) (E:Int) (y:It),e= .returned (.tuple #[n,E])/\Dk w' L V' Fr c l U (if E=0 then gj m (1-j) (m (1-j)++ [⟨nm,y⟩])else m) (r+1)/\ku w w' L V V' []/\(c.fm≠1->y=x):=by
 have W:=N' x H;have Z:=tw x H;have X:=h.st j G;have Y:(bw c l nm x).1.size<=70000:=by
  by_cases b:(bw c l nm x).2=0
  ·exact uk k.id b
  rw[Of b];exact ya _
 refine(Ie L V Fr c l D j G nm x B o z u w h.ps k.hc h.la h.lo R O (h.way _ (by omega)) (by omega) (fun _=>by omega) (Ih k.es (by omega) (by omega)) (by omega)).mono ?_;rintro e w' ⟨V',st,rfl,A,F,s⟩;have C:=(h.ps.after s h.la h.lo).1;by_cases b:Ps L c l D j nm x=0
 ·obtain⟨I,h2⟩:=aeP b;obtain⟨N,J,hN⟩:=h.tk (1-j) (by omega);obtain⟨y,S,K⟩:=J.send k.hr k.ok k.id I (by omega);refine⟨V',_,XQ L c l D j nm x,Ps L c l D j nm x,y,rfl,⟨F,fun i hi=> ?_,fun i hi=> ?_,fun i hi=>zz (A i) (Nat.succ_le_succ (h.st i hi)),fun i hi=> ?_,C,h.lo,h.rm⟩,s,K⟩
  ·rw[zg b];unfold dJ.send;rw[zg b];simp only;by_cases d:i=1-j
   ·subst d;rw[bp,bp];exact⟨_,S,by omega⟩
   rw[aS _ _ d,aS _ _ d];obtain⟨M,p,q⟩:=h.tk i hi;exact⟨M,p,zz q (xZ _ (Nat.le_succ _))⟩
  ·unfold dJ.send;rw[zg b];simp only;by_cases d:i=1-j
   ·subst d;rw[bp,bV];have:=h.rm;omega
   rw[aS _ _ d];exact h.way i hi
  rw[zg b];by_cases d:i=1-j
  ·subst d;rw[bp,zh];have:=h.sn _ hi;simp;omega
  rw[aS _ _ d];exact Nat.le_succ_of_le (h.sn i hi)
 refine⟨V',_,XQ L c l D j nm x,Ps L c l D j nm x,x,rfl,⟨F,fun i hi=> ?_,fun i hi=> ?_,fun i hi=>zz (A i) (Nat.succ_le_succ (h.st i hi)),fun i hi=> ?_,C,h.lo,h.rm⟩,s,fun _=>rfl⟩
 ·rw[zf b];unfold dJ.send;rw[zf b];obtain⟨M,p,q⟩:=h.tk i hi;exact⟨M,p,zz q (xZ _ (Nat.le_succ _))⟩
 ·unfold dJ.send;rw[zf b];exact h.way i hi
 rw[zf b];exact Nat.le_succ_of_le (h.sn i hi)
theorem rE {V:Nat->Value}{Fr:Nat->Prop}{c:aF}{D:dJ}{r:Nat->List Ms}{o:Nat}(h:Dk w L V Fr c l D r o)(q:TkE c l)(F:o<=60)(j:Nat)(d:j<2)(n:Nat):
 Calls prog 12 #[(L.p,0),j,n] w fun e w'=>∃(V':Nat->Value) (p:dJ) (m:Nat),e= .returned (.tuple #[m,(0:Int)])/\Dk w' L V' Fr c l p r o/\ku w w' L V V' []/\(∀i,i<2->i≠j->p.way i=D.way i)/\(1048576<=n->p.way j=ByteArray.empty):=by
 obtain⟨N,s,B⟩:=h.tk j d;obtain⟨G,E,x⟩:=s.buf;have H:=h.way j d;obtain⟨k,z⟩:=dY (min n (D.way j).size);have y:k<=(D.way j).size:=by omega
 obtain⟨t1,t2,t3⟩:=s.move k y;have I:=h.sn j d;refine(AV L V Fr c l D j d n k z.symm w h.ps q.hr q.hc h.la h.lo x (by omega) (by omega) (by omega)).mono ?_;rintro e w' ⟨V',rfl,A,u⟩;rw[t1];refine⟨V',_,_,rfl,⟨A,fun i hi=> ?_,fun i hi=> ?_,h.st,h.sn,(h.ps.after u h.la h.lo).1,h.lo,h.rm⟩,u,fun i hi b=> ?_,fun C=> ?_⟩
 ·unfold dJ.move;simp only;by_cases b:i=j
  ·subst b;rw[bp,bp,bp];exact⟨N,t2,B⟩
  rw[aS _ _ b,aS _ _ b,aS _ _ b];exact h.tk i hi
 ·unfold dJ.move;simp only;by_cases b:i=j
  ·subst b;rw[bp,ar _ _ _ (ze _)];omega
  rw[aS _ _ b];exact h.way i hi
 ·unfold dJ.move;simp only;rw[aS _ _ b]
 unfold dJ.move;simp only;rw[bp,show k=(D.way j).size by omega];exact aE (by rw[aq];simp)
theorem Ws (x:Int):∃j:Nat,j<2/\bits .and .i64 x 1=(j:Int):=by
 have b:(BitVec.ofInt 64 1).toNat=2^1-1:=by decide
 have key:(BitVec.ofInt 64 x&&&BitVec.ofInt 64 1).toNat=(x%((2^64:Nat):Int)).toNat%2^1:=by
  rw[BitVec.toNat_and,BitVec.toNat_ofInt,b,Nat.and_two_pow_sub_one_eq_mod]
 refine⟨(x%2).toNat,by omega, ?_⟩;show IntKind.i64.wrap ((BitVec.ofInt 64 x&&&BitVec.ofInt 64 1).toNat:Nat)=_
 rw[key,Yp];omega
theorem gp.vC {V:Nat->Value}{Fr:Nat->Prop}{c:aF}{D:dJ}(h:gp w L V Fr c l D)(hk:Fr k):k∉jb L V:=fun hm=>by
 have h1:=h.frg k hk;have h2:=h.places;rcases cA.1 hm with e|e|e|⟨i,hi,e⟩
 ·omega
 ·omega
 ·omega
 exact h1.2.2 i hi e
theorem lC {ops:Array Oper}{o:Oper}{a:Act}{K:Act->World->Prop}{Q:Exit->Act->World->Prop}{U:Prop}(H:o.guard=none)(s x:Operand)
 (J:o.op= .call {callee:= .builtin .append,args:= #[s,x],argTypes:= #[42,42]}) (z:Nat->Prop) (l:Nat) (acc:List Ms)  (L:a.eval s=v) (D:bA w z l acc v) (y:Ms) {d q m i:Value}
 (C:nC w (fun k=>z k/\v.ownBlock≠some k) y d q m i) (g:Nat) (hx:a.eval x= .slice (some (g,0)) 1 1) (n:(w,g,0,d)/\(w,g,1,q)/\(w,g,2,m)/\(w,g,3,i)) (Z:acc.length<=1000000) (F:l<=w.heap.size)
 (S:∀b r cap w',Hid (r=acc.length+1)->bA w' z l (acc++ [y]) (.slice (some (b,0)) r cap)->w.grownBy w' v.ownBlock->(v.ownBlock=some b\/w.heap.size<=b)->K (a.put o.dst (.slice (some (b,0)) r cap)) w'):
 if Region.wanted o (yielded ops a.tmps)=true then Oper.wp prog o a w K Q else U:=by
 obtain⟨i0,hi,M,W,O⟩:=yv qO;obtain⟨A,E,R⟩:=D;refine ZK w H s x 42 J l 30 i0 _ 4 64 xg hi M W O rfl (by decide) v acc.length A L E (g,0) 1 1 [d,q,m,i] hx rfl ?_ (Ma C) (by decide) (by simp only[maxLen];omega) (by omega) F w.heap.size rfl ?_
 ·intro j u hu;have I:∀j,((g,0):Addr).add j=⟨g,j,none⟩:=by intro j;unfold Addr.add;split<;>simp_all
  rw[I];match j,hu with
  |0,hu=>simp at hu;subst hu;exact n.1
  |1,hu=>simp at hu;subst hu;exact n.2.1
  |2,hu=>simp at hu;subst hu;exact n.2.2.1
  |3,hu=>simp at hu;subst hu;exact n.2.2.2
 intro b cap w' G B c X;refine S b _ cap w' (za rfl) ⟨A++ [d,q,m,i],by rw[zh];exact G, ?_⟩ B (by
  rcases c with h|h
  ·exact .inl h
  exact .inr (by omega))
 refine((R.snoc C).ah (fun k Y hS=>⟨hS.1, ?_⟩) fun p N hS=>zy (B.block _ N (fun e=>hS.2 e.symm)));intro e;have e:b=k:=by simpa[Value.ownBlock]using e
 rcases c with c|c
 ·exact hS.2 (by rw[c,e])
 omega
def Ij (c:aF)(a b:List Ms):Prop:=a.map (·.name)=b.map (·.name)/\(c.fm≠1->a=b)
theorem Ij.snoc {c:aF}{b:List Ms}(h:Ij c a b){y:It}(e:c.fm≠1->y=x):Ij c (a++ [⟨nm,x⟩]) (b++ [⟨nm,y⟩]):=
 ⟨by simp[h.1],fun d=>by rw[h.2 d,e d]⟩
theorem Ij.len {c:aF}{b:List Ms}(h:Ij c a b):a.length=b.length:=by simpa using yi List.length h.1
def XS (sb:Nat)(T:Nat->Value)(k:Nat):Prop:=k=sb\/(T 0).ownBlock=some k\/(T 1).ownBlock=some k
structure MU (w:World)(B sb:Nat)(L:gT)(V T:Nat->Value)(c:aF)(l:List aV)(D:dJ)(sn rs:Nat->List Ms)(cX:Nat):Prop where
 tk:Dk w L V (XS sb T) c l D sn cX
 sb:af w sb 48 #[T 0,T 1]
 ac:∀j,j<2->bA w (· <B) L.base (rs j) (T j)
 ne:∀k,(T 0).ownBlock=some k->(T 1).ownBlock≠some k
 low:B<=L.p
theorem MU.own {b:Nat}{V T:Nat->Value}{c:aF}{D:dJ}{d o:Nat->List Ms}(h:MU w B b L V T c l D d o m)(i:j<2)(e:(T j).ownBlock=some k):XS b T k/\k≠b:=by
 refine⟨?_, ?_⟩
 ·rcases(by omega:j=0\/j=1)with rfl|rfl
  ·exact .inr (.inl e)
  exact .inr (.inr e)
 rintro rfl;obtain⟨_,_,p,n⟩:=(h.ac j i).typed _ e;exact(n.neT h.sb (by decide)) rfl
theorem MU.step {b:Nat}{V V' T:Nat->Value}{c:aF}{D n:dJ}{r o p:Nat->List Ms}{u:Nat}(h:MU w B b L V T c l D r p u)(k:ku w w' L V V' [])(s:Dk w' L V' (XS b T) c l n o q):MU w' B b L V' T c l n o p q:=by
 refine⟨s,h.sb.only k.only (by simpa using h.tk.ps.vC (.inl rfl)),fun j m=>(h.ac j m).only k.only (fun g d i=> ?_) (fun g d e=> ?_),h.ne,h.low⟩
 ·have:=h.tk.ps.qT g (by simpa using d);have:=h.low;have i:g<B:=i;omega
 exact h.tk.ps.vC (h.own m e).1 (by simpa using d)
theorem MU.below {V T:Nat->Value}{c:aF}{D:dJ}{b j:Nat->List Ms}(h:MU w B d L V T c l D b j e)(i:Below w.heap.size w w'):MU w' B d L V T c l D b j e:=h.step (ku.below i) (h.tk.below i)
theorem MU.app {A:World}{V T:Nat->Value}{c:aF}{D:dJ}{M G:Nat->List Ms}{K:Nat}(h:MU w B m L V T c l D M G K){i:Nat}(hi:i<2){r:List Ms}(E:Below w.heap.size w A)(d:A.grownBy w' (T i).ownBlock)(J:bA w' (· <B) L.base r v)(x:∀k,v.ownBlock=some k->(T i).ownBlock=some k\/A.heap.size<=k):
 MU (w'.setCell (m,i) v) B m L V (gj T i v) c l D M (gj G i r) K:=by
 have W:=h.tk.ps.places;have X:=E.size;have U:=d.size;have F:ae (T i).ownBlock.toList w w':=((ae.ai E (ze _)).mono (L:= []) (fun k n=>by cases n)).trans (ae.cn d);have N:ae (m::(T i).ownBlock.toList) w (w'.setCell (m,i) v):=(F.mono fun k n=>Ym _ n).setCell (.inl (by simp)) _;have S:af w' m 48 #[T 0,T 1]:=h.sb.only F fun O=>(h.own hi (aM.1 O)).2 rfl
 have I:∀j,j<2->∀k,(gj T i v j).ownBlock=some k->((T j).ownBlock=some k\/A.heap.size<=k)/\k<w'.heap.size:=fun j o k e=>by
  by_cases p:j=i
  ·subst p;rw[bp]at e;exact⟨x k e,(J.ge k e).2⟩
  rw[aS _ _ p]at e;exact⟨.inl e,zJ ((h.ac j o).ge k e).2 (by omega)⟩
 have C:∀j,j<2->∀k,(T j).ownBlock=some k->XS m T k:=fun j o k e=>(h.own o e).1
 refine⟨h.tk.grow N (fun k n=> ?_) (fun k n=> ?_), ?_,fun j o=> ?_,fun k q s=> ?_,h.low⟩
 ·rcases yj.1 n with rfl|e
  ·exact .inl rfl
  exact C i hi k (aM.1 e)
 ·rcases n with rfl|e|e
  ·exact⟨.inl (.inl rfl),by simpa using zJ h.sb.lt (by omega)⟩
  ·obtain⟨a,b⟩:=I 0 (by omega) k e;exact⟨a.imp (C 0 (by omega) k) (fun z=>by omega),by simpa using b⟩
  obtain⟨a,b⟩:=I 1 (by omega) k e;exact⟨a.imp (C 1 (by omega) k) (fun z=>by omega),by simpa using b⟩
 ·rcases(by omega:i=0\/i=1)with rfl|rfl<;>exact S.store (by simp[gj])
 ·have R:ae [m] w' (w'.setCell (m,i) v):=(ae.refl _ _).setCell (.inl (by simp)) _;have H:¬m<B:=by have:=(h.tk.ps.frg m (.inl rfl)).1;have:=h.low;omega
  by_cases p:j=i
  ·subst p;rw[bp,bp];refine J.only R (fun g d u=> ?_) (fun g d e=> ?_)
   ·simp at d;subst d;exact H u
   simp at d;subst d;rcases x _ e with e|e
   ·exact(h.own o e).2 rfl
   have:=h.sb.lt;omega
  rw[aS _ _ p,aS _ _ p];refine(h.ac j o).only N (fun g d u=> ?_) (fun g d e=> ?_)
  ·rcases yj.1 d with rfl|e
   ·exact H u
   have:=((h.ac i hi).ge g (aM.1 e)).1;have:=h.low;have u:g<B:=u;omega
  rcases yj.1 d with rfl|y
  ·exact(h.own o e).2 rfl
  have y:=aM.1 y;rcases(by omega:i=0/\j=1\/i=1/\j=0)with⟨rfl,rfl⟩|⟨rfl,rfl⟩
  ·exact h.ne g y e
  exact h.ne g e y
 rcases(by omega:i=0\/i=1)with rfl|rfl
 ·rw[bp]at q;rw[aS _ _ (by decide)]at s;rcases x k q with e|e
  ·exact h.ne k e s
  have:=((h.ac 1 (by decide)).ge k s).2;omega
 rw[aS _ _ (by decide)]at q;rw[bp]at s;rcases x k s with e|e
 ·exact h.ne k q e
 have:=((h.ac 0 (by decide)).ge k q).2;omega
