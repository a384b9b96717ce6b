/- package registry: Config, Len, ByFrame, ByName. -/
import Derived.Test.YtimoclkoflamkaaGreatDoorKA12
import Derived.Test.YtimoclkoflamkaaGreatDoorKA20
set_option linter.all false
set_option maxRecDepth 100000
set_option maxHeartbeats 4000000
open Go.Proofs.Tryz
namespace Go.Proofs.YtimoclkoflamkaaGreatDoor
open Go.RowKit
variable {w w':World}{v:Value}{i:Nat}{acc:List Ms}
theorem ML (o hi g p q:Nat)(c:aF)(l:List bY)(w:World)(h:lg w o hi g p q c l):
 Calls prog 49 #[(g,0)] w fun e w'=>e= .returned c.val/\(w,w'):=by
 obtain⟨g0,g1,g2,g3,g4,g5⟩:=h.cfg;have r:g<w.heap.size:=zJ h.g2 h.his;have b:=af.new w 24 #[c.fm,.int .u32 c.mg,c.fr,c.un,c.de,c.it];clear h;go_enter func49,ntmps49
 go_wp2;have j:=b.cell 0;have i:=b.cell 1;have n:=b.cell 2;have k:=b.cell 3;have m:=b.cell 4;have d:=b.cell 5;simp at j i n k m d;refine zj (v:=c.val) (by simp[aF.val,results,results49,go_sem,j,i,n,k,m,d]) rfl ?_;exact⟨rfl,bQ⟩
theorem SO (g k:Nat):((g,0):Addr).add k=⟨g,k,none⟩:=by unfold Addr.add;split<;>simp_all
theorem oI.toS :∀(x:It) {c e d:Value},oI w i x c e d->fV w (i<= ·) x c e d:=by
 intro x;induction x using It.ind with
 |h t l s ih=>
  intro c e d h;obtain⟨D,u,q,C,A,cap,y,E,z,o⟩:=h;refine⟨D,u,q,C,A,cap,y,E,z,lX.uK fun j k=> ?_⟩;obtain⟨b,d0,d1,d2,p,B,m,r,n,_,hi⟩:=o.at_ j k;exact⟨b,0,d0,d1,d2,p,B,by simpa using m,by simpa using r,by simpa using n,ih _ (zA k) hi⟩
theorem bA.reads {c S:Nat->Prop}(h:bA w c i acc v)(hS:∀k,c k->S k)(m:∀k,v.ownBlock=some k->S k):∃A n cap,v= .slice A n cap/\n=acc.length/\n<=cap/\cap<=9223372036854775807/\pN w S acc A 0:=by
 obtain⟨A,cap,rfl,l,o⟩:=bA.form h;obtain⟨s,b,p⟩:=h;refine⟨A,_,cap,rfl,rfl,l,o, ?_⟩;rcases b.2 with⟨r,d⟩|⟨g,z,y,e,x,q,_⟩
 ·obtain rfl:acc= []:=zk d;trivial
 injection e with hA _ hc;subst hA;subst hc;refine pN.dU (m g rfl) (p.ah (fun _ _ h=>hS _ h.1) (fun _ _ _=>rfl)) fun j u hu=> ?_
 have:=b.cells rfl j u hu;rw[SO]at this;simpa using this
def Wa (w:World)(lo:Nat)(v:Value)(y:Ms):Prop:=∃g cap c1 c2 c3,v= .slice (some (g,0)) 1 cap/\lo<=g/\(w,g,0,y.name)/\(w,g,1,c1)/\(w,g,2,c2)/\(w,g,3,c3)/\oI w lo y.x c1 c2 c3
def uT (w:World)(lo:Nat)(acc:List Ms)(v:Value):Prop:=wU w lo acc v/\∀y,acc= [y]->Wa w lo v y
theorem Wa.below {e:Nat}{y:Ms}(h:Wa w e v y)(b:Below w.heap.size w w'):Wa w' e v y:=by
 obtain⟨g,cap,p,k,o,rfl,n,d,j,i,l,m⟩:=h;have c:g<w.heap.size:=lt_of_cell d;exact⟨g,cap,p,k,o,rfl,n,(b.cell c).trans d,(b.cell c).trans j,(b.cell c).trans i,(b.cell c).trans l,m.below b⟩
theorem uT.below {c:Nat}(h:uT w c acc v)(b:Below w.heap.size w w'):uT w' c acc v:=⟨bA.below h.1 b,fun y d=>(h.2 y d).below b⟩
theorem uT.set {u:Value}{nb:Nat}(h:uT w i acc v)(z:nb<i):uT (w.setCell (nb,0) u) i acc v:=by
 have c:ae [nb] w (w.setCell (nb,0) u):=(ae.refl _ _).setCell (.inl (by simp)) _;refine⟨wU.only h.1 c (by simp;omega),fun y q=> ?_⟩;obtain⟨g,cap,x,s,l,rfl,p,j,o,r,k,m⟩:=h.2 y q;have e:g<w.heap.size:=lt_of_cell j;have d:g∉ [nb]:=by simp;omega
 exact⟨g,cap,x,s,l,rfl,p,(c.cell e d).trans j,(c.cell e d).trans o,(c.cell e d).trans r,(c.cell e d).trans k,oI.ah (ze _) (fun b A n=>c.block b n (by simp;omega)) _ m⟩
theorem s0 {ops:Array Oper}{o:Oper}{a:Act}{K:Act->World->Prop}{Q:Exit->Act->World->Prop}{E':Prop}(R:o.guard=none)(s x:Operand)
 (W:o.op= .call {callee:= .builtin .append,args:= #[s,x],argTypes:= #[42,42]}) (h:Nat) (acc:List Ms)  (X:a.eval s=v) (J:uT w h acc v) (y:Ms) {l i d:Value}
 (r:Nat) (H:oI w r y.x l i d) (M:y.name.size<=9223372036854775807) (E:h<=r/\∀k,v.ownBlock=some k->k<r) (g:Nat) (hx:a.eval x= .slice (some (g,0)) 1 1) (q:(w,g,0,y.name)/\(w,g,1,l)/\(w,g,2,i)/\(w,g,3,d))
 (aa:acc.length<=1000000) (N:h<=w.heap.size)
 (hK:∀c B cap w',Hid (B=acc.length+1)->uT w' h (acc++ [y]) (.slice (some (c,0)) B cap)->w.grownBy w' v.ownBlock->h<=c->K (a.put o.dst (.slice (some (c,0)) B cap)) w'):
 if Region.wanted o (yielded ops a.tmps)=true then Oper.wp prog o a w K Q else E':=by
 obtain⟨i0,hi,Y,cg,cC⟩:=yv qO;obtain⟨⟨C,L,I⟩,_⟩:=J;have F:nC w (fun k=>h<=k/\v.ownBlock≠some k) y y.name l i d:=⟨rfl,M,(oI.toS _ H).eG fun k _ U=>⟨by omega,fun e=>by have:=E.2 k e;omega⟩⟩
 refine ZK w R s x 42 W h 30 i0 _ 4 64 xg hi Y cg cC rfl (by decide) v acc.length C X L (g,0) 1 1 [.string y.name,l,i,d] hx rfl ?_ (Ma F) (by decide) (by simp only[maxLen];omega) (by omega) N w.heap.size rfl ?_
 ·intro j u hu;rw[SO];match j,hu with
  |0,hu=>simp at hu;subst hu;exact q.1
  |1,hu=>simp at hu;subst hu;exact q.2.1
  |2,hu=>simp at hu;subst hu;exact q.2.2.1
  |3,hu=>simp at hu;subst hu;exact q.2.2.2
 intro c cap w' A D m aD;have G:=D6 A c rfl;refine hK c _ cap w' (za rfl) ⟨⟨C++ [.string y.name,l,i,d],by rw[zh];exact A, ?_⟩,fun z hz=> ?_⟩ D G
 ·refine((I.snoc F).ah (fun k U hS=>⟨hS.1, ?_⟩) fun p Z hS=>zy (D.block _ Z (fun e=>hS.2 e.symm)));intro e;have e:c=k:=by simpa[Value.ownBlock]using e
  rcases m with m|m
  ·exact hS.2 (by rw[m,e])
  omega
 obtain⟨rfl,rfl⟩:acc= []/\y=z:=by
  cases acc with
  |nil=>simpa using hz
  |cons _ t=>simp at hz
 have O:C= []:=I;subst O;have n:∀j u,[.string y.name,l,i,d][j]?=some u->w'.cell? ⟨c,j,none⟩=some u:=fun j u hu=>by
  exact(yi w'.cell? (SO c j)).symm.trans (A.cells rfl j u (by simpa using hu))
 exact⟨c,cap,l,i,d,rfl,G,n 0 _ rfl,n 1 _ rfl,n 2 _ rfl,n 3 _ rfl,oI.ah E.1 (fun b hb S=>D.block b S fun e=>by have:=E.2 b e.symm;omega) _ H⟩
theorem SQ (p j nb lo:Nat)(acc:List Ms)(v:Value)(w:World)(hv:bA w (· <nb) lo acc v)(ho:∀k,v.ownBlock=some k->k<nb)(hq:w.cell? (p,j*3+2)=some v)(hp:p<nb)(hz:w.heap.size=nb+1)(c:∀x∈acc,x.x.may=true)(ai:acc.length<=1000000)(hn:af w nb 42 #[nS]):
 Calls prog 36 #[(p,j*3),(nb,0)] w fun e w'=>e= .returned (0:Int)/\∃u,uT w' (nb+1) acc u/\Below nb w w'/\af w' nb 42 #[u]:=by
 obtain⟨A,n,cap,rfl,an,PC,jf,rP⟩:=bA.reads hv (fun k h=>h) ho;have WK:=za rP;have YL:=za c;have Lh:=za an;have au:=za hn;clear hv ho c an rP hn;go_enter func36,ntmps36
 go_wp2_with fail
 go_loopw [11] (fun i wr=>∃k:Nat,k<=acc.length/\i= .int .i64 k/\∃u,uT wr (nb+1) (acc.take k) u/\Below nb w wr/\af wr nb 42 #[u]/\nb+1<=wr.heap.size) (fun i _=>acc.length-(intOf i).toNat)
 case atStart=>exact⟨0,by omega,rfl,nS,⟨wU.nil _ _,fun y l=>by cases l⟩,zi _ _,au.out,by omega⟩
 case round=>
  obtain⟨k,hk,rfl,u,hg,q,hr,I6⟩:=hrel;obtain⟨A5,n5,fh,rfl,aC,aA,aB⟩:=bA.bK hg.1;have C:=za hg;have HB:=za q;have X:=za hr;have ar:=za ai;clear hg hr hq hz ai;by_cases U:k<acc.length
  ·obtain⟨b,o,c0,c1,c2,c3,rfl,R,e0,e1,e2,S,l⟩:=WK.out.at_ k U;simp only[zK]at e0 e1 e2 S;obtain⟨y,N⟩:=dY acc[k];rw[N]at l;have aq:y.x.may=true:=by rw[<-N];exact YL.out _ (zA U)
   have uU:Hid (acc.take (k+1)=acc.take k++ [y]):=za (by rw[<-N,Yh,zr U];rfl);have HI:=za (fun ao (hU:Below nb w ao)=>fV.uL _ (fV.ah (w':=ao) (fun _ _ h=>h) (fun p _ hp=>hU.cell hp) _ l.2.2));have f0:=(q.cell R).trans e0;have f1:=(q.cell R).trans e1;have f2:=(q.cell R).trans e2;have f3:=(q.cell R).trans S;have ah:=l.2.1;obtain⟨Ax,dC,rfl,rfl,rfl,rfl,_⟩:=l.open_;have ay:=za ah;have az:k<n:=by have:=Lh.out;omega
   obtain⟨W,D⟩:=dY (wr.alloc (.cells #[y.name,y.x.text,y.x.list,.slice Ax y.x.sub.length dC] 30));have Ch:W.heap.size=wr.heap.size+1:=by rw[<-D];simp
   have M:Below wr.heap.size wr W:=by rw[<-D];exact(zi _ wr).alloc (ze _) _
   have Ls:Hid (af W wr.heap.size 30 #[y.name,y.x.text,y.x.list,.slice Ax y.x.sub.length dC]):=za (by rw[<-D];exact af.new _ _ _);have vK:=za (X.out.ah M I6);have aa:=za (C.out.below M);have ic:Hid (Below nb w W):=za (HB.out.trans (M.mono (by omega)));have HW:=za D;obtain⟨L,hL⟩:=dY (Value.slice A5 n5 fh).ownBlock.toList;have I8:=za hL;have s:Hid (∀i,i∈L->(Value.slice A5 n5 fh).ownBlock=some i/\nb+1<=i/\i<wr.heap.size):=za fun i hi=>by
    rw[<-hL]at hi;have:=aM.1 hi;exact⟨this,bA.ge C.out.1 i this⟩
   have m:Hid (∀V,ae L W V->(V,nb,0,Value.slice A5 n5 fh)/\(V,wr.heap.size,0,y.name)/\(V,wr.heap.size,1,y.x.text)/\(V,wr.heap.size,2,y.x.list)/\(V,wr.heap.size,3,Value.slice Ax y.x.sub.length dC)/\V.frozen? (nb,0)=false):=za fun V J=>by
    have h1:=vK.out.only J (fun c=>by have:=s.out _ c;omega);have I:=Ls.out.only J (fun c=>by have:=s.out _ c;omega);exact⟨h1.cell 0,I.cell 0,I.cell 1,I.cell 2,I.cell 3,h1.frozen 0⟩
   have al:=za (aa3 y.x _ W.drew _ _ _ (HI.out _ ic.out.drew) (ze _) aq);have UX:Hid (ae L W W.drew):=za (ae.refl _ _).drew;have av:=za Ch;clear e0 e1 e2 S l q ah N M D C X HB hL aq HI;go_wp2_with fail
   rw[HW.out];have hHeld:=m.out _ UX.out;refine Uu m.out 9 (by kernel_rfl) (by kernel_rfl) ?_;refine GT.iv [0,1,2,3,4] hHeld (fun _ _ _ _ _ h=>h) (by kernel_rfl) ?_;repeat(refine .c rfl rfl (fun V J=>by go_simp<;>with_reducible rfl) ?_;simp only[Act.put,zb,zc,zd])
   refine .nil ?_;refine GT.fx 5 (fun K d=> ?_) rfl (by kernel_rfl);go_simp;refine al.out.mono ?_;rintro e w3 ⟨⟨d2,rfl,ab⟩,bL⟩;have H:Below W.heap.size W w3:=(zi _ W).drew.trans bL;have fI:ae L W w3:=(ae.ai H (ze _)).mono (by simp);obtain⟨Bx,PL,_,_,rfl,_⟩:=ab.open_;go_wp2_with fail
   refine d.out _ _ (m.out w3 fI) (fun hHeld=> ?_);clear d K;try simp only[Act.put,zb,zc,zd]
   refine GT.iv [6] hHeld (fun _ _ _ _ _ h=>h) (by kernel_rfl) ?_;refine .c rfl rfl (fun V J=>by go_simp<;>with_reducible rfl) ?_;simp only[Act.put,zb,zc,zd];refine .nil ?_;refine GT.fx 7 (fun K d=> ?_) rfl (by kernel_rfl);go_simp;obtain⟨r,O⟩:=dY (w3.alloc (.cells #[y.name,y.x.text,y.x.list,.slice Bx y.x.sub.length PL] 30));have F:Below w3.heap.size w3 r:=by rw[<-O];exact(zi _ w3).alloc (ze _) _
   have z:af r w3.heap.size 30 #[y.name,y.x.text,y.x.list,.slice Bx y.x.sub.length PL]:=by rw[<-O];exact af.new _ _ _
   have ax:=H.size;have UL:=F.size;have dK:Hid (Below W.heap.size W r):=za (H.trans (F.mono ax));have tq:ae L W r:=(ae.ai dK.out (ze _)).mono (by simp);have ag:Hid (oI r W.heap.size y.x y.x.text y.x.list (.slice Bx y.x.sub.length PL)):=za (ab.below F);rw[O];refine d.out _ _ (m.out r tq) (fun hHeld=> ?_);clear d K;try simp only[Act.put,zb,zc,zd]
   refine GT.fx 8 (fun K d=> ?_) rfl (by kernel_rfl);have IN:=za (aa.out.below dK.out);have KW:nb+1<=W.heap.size:=by have:=av.out;omega
   have Lg:(acc.take k).length<=1000000:=by have:=ar.out;simp;omega
   refine s0 (by rfl) (.tmp 15) (.tmp 22) (by rfl) (nb+1) (acc.take k) (by rfl) IN.out y W.heap.size ag.out ay.out ⟨KW,fun i hi=>by have:=(bA.ge aa.out.1 i hi).2;omega⟩ _ (by rfl) ⟨z.cell 0,z.cell 1,z.cell 2,z.cell 3⟩ Lg (by omega) ?_;intro g' Y aj G Tn ak dM lK;have B:Hid (ae L W G):=za (tq.trans ((ae.cn dM).mono fun i hi=>by rw[I8.out]at hi;exact hi));have ad:=za ak;have fC:Hid (Below nb w G):=za (ic.out.trans (B.out.below (by omega) fun i hi=>by have:=s.out i hi;omega));refine d.out _ _ (m.out G B.out) (fun hHeld=> ?_);clear d K;try simp only[Act.put,zb,zc,zd]
   refine GT.oF 9 ?_ rfl (by kernel_rfl);clear ak dM bL H fI F z tq O ab;go_simp;have Ft:=za (vK.out.only B.out fun c=>by have:=s.out _ c;omega);have K9:=B.out.size;clear dK ag IN B aa al UX m s I8 Ls vK HW ic f0 f1 f2 f3;obtain⟨E,Z⟩:=dY (G.setCell (nb,0) (.slice (some (g',0)) Y aj));have aw:Hid (uT E (nb+1) (acc.take (k+1)) (.slice (some (g',0)) Y aj)/\Below nb w E/\af E nb 42 #[Value.slice (some (g',0)) Y aj]/\nb+1<=E.heap.size):=za (by
    rw[uU.out,<-Z];exact⟨ad.out.set (by omega),fC.out.setCell (by simp) _,Ft.out.store rfl,by simp;omega⟩)
   rw[Z];clear Z ad fC Ft;go_wp2;go_roundw
   case rel=>exact⟨k+1,by omega,by go_num,_,aw.out⟩
   case measure=>simp[intOf];omega
  have az:¬k<n:=by have:=Lh.out;omega
  have kN:k=acc.length:=by omega
  subst kN;rw[ZM]at C;go_wp2;go_ret;exact⟨rfl,_,C.out,HB.out,X.out⟩
theorem EA (L:gT)(V:Nat->Value)(Fr:Nat->Prop)(c:aF)(l:List aV)(D:dJ)(j:Nat)(i:j<2)(w:World)(h:gp w L V Fr c l D)(o:∀x∈D.got j,x.x.may=true)(q:(D.got j).length<=1000000):
 Calls prog 13 #[(L.p,0),j] w fun e w'=>∃u,e= .returned u/\uT w' (w.heap.size+1) (D.got j) u/\(w,w'):=by
 obtain⟨W,b⟩:=dY (w.alloc (.cells #[nS] 42));have d:Below w.heap.size w W:=by rw[<-b];exact(zi _ w).alloc (ze _) _
 have m:af W w.heap.size 42 #[nS]:=by rw[<-b];exact af.new _ _ _
 have hz:W.heap.size=w.heap.size+1:=by rw[<-b];simp
 have F:=za (RO L.p j i w.heap.size W 0 _ (SQ L.p j w.heap.size L.base (D.got j) (V (4+j)) W (((h.got j i).eG (fun k s _=>s) (ze _)).below d) (fun k e=>(h.own _ k (by omega) e).2) (cB (h.blk.ah d h.blk.lt) i).1.2.2.1 h.blk.lt hz o q m));have B:=za d;have y:=za b;clear h m d b o q hz;go_enter func13,ntmps13
 go_wp2_with fail
 rw[y.out];refine cm F.out fun w3 z=> ?_
 obtain⟨u,hu,p,r⟩:=z;have G:=r.cell 0;have E:Hid (w,w3):=za (B.out.trans p);have C:=za hu;obtain⟨A,n,cap,rfl,_⟩:=bA.bK hu.1;clear hu p r;go_wp2;go_ret;exact⟨_,rfl,C.out,E.out⟩
