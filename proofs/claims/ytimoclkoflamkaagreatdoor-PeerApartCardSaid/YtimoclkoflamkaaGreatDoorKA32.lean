/- package registry: Config, Len, ByFrame, ByName. -/
import Derived.Test.YtimoclkoflamkaaGreatDoorKA12
import Derived.Test.YtimoclkoflamkaaGreatDoorKA20
set_option linter.all false
set_option maxRecDepth 100000
set_option maxHeartbeats 4000000
open Go.Proofs.Tryz
namespace Go.Proofs.YtimoclkoflamkaaGreatDoor
open Go.RowKit
variable {w w':World}{v:Value}{acc:List Ms}
theorem K5 (p hi g o q:Nat)(c:aM)(l:List bX)(w:World)(h:kV w p hi g o q c l):
 Calls prog 49 #[(g,0)] w fun e w'=>e= .returned c.val/\(w,w'):=by
 obtain⟨g0,g1,g2,g3,g4,g5⟩:=h.cfg;have r:g<w.heap.size:=zQ h.g2 h.his;have b:=ag.new w 24 #[c.fm,.int .u32 c.mg,c.fr,c.un,c.de,c.it];clear h;go_enter func49,ntmps49
 go_wp2;have k:=b.cell 0;have i:=b.cell 1;have d:=b.cell 2;have n:=b.cell 3;have m:=b.cell 4;have j:=b.cell 5;simp at k i d n m j;refine zl (v:=c.val) (by simp[aM.val,results,results49,go_sem,k,i,d,n,m,j]) rfl ?_;exact⟨rfl,bO⟩
theorem QG (g k:Nat):((g,0):Addr).add k=⟨g,k,none⟩:=by unfold Addr.add;split<;>simp_all
theorem nZ.toS {k:Nat}:∀(x:It) {c e d:Value},nZ w k x c e d->fR w (k<= ·) x c e d:=by
 intro x;induction x using It.ind with
 |h t l s ih=>
  intro c e d h;obtain⟨q,B,r,z,A,cap,m,D,y,C⟩:=h;refine⟨q,B,r,z,A,cap,m,D,y,lM.tI fun j i=> ?_⟩;obtain⟨b,d0,d1,d2,p,n,u,E,o,_,hi⟩:=C.at_ j i;exact⟨b,0,d0,d1,d2,p,n,by simpa using u,by simpa using E,by simpa using o,ih _ (zD i) hi⟩
theorem bL.reads {b S:Nat->Prop}{l:Nat}(h:bL w b l acc v)(hS:∀k,b k->S k)(i:∀k,v.ownBlock=some k->S k):∃A n cap,v= .slice A n cap/\n=acc.length/\n<=cap/\cap<=9223372036854775807/\pf w S acc A 0:=by
 obtain⟨A,cap,rfl,m,d⟩:=bL.form h;obtain⟨z,c,p⟩:=h;refine⟨A,_,cap,rfl,rfl,m,d, ?_⟩;rcases c.2 with⟨x,e⟩|⟨g,s,q,o,y,r,_⟩
 ·obtain rfl:acc= []:=zo e;trivial
 injection o with hA _ hc;subst hA;subst hc;refine pf.dN (i g rfl) (p.ah (fun _ _ h=>hS _ h.1) (fun _ _ _=>rfl)) fun j u hu=> ?_
 have:=c.cells rfl j u hu;rw[QG]at this;simpa using this
def Ub (w:World)(lo:Nat)(v:Value)(y:Ms):Prop:=∃g cap c1 c2 c3,v= .slice (some (g,0)) 1 cap/\lo<=g/\(w,g,0,y.name)/\(w,g,1,c1)/\(w,g,2,c2)/\(w,g,3,c3)/\nZ w lo y.x c1 c2 c3
def tR (w:World)(lo:Nat)(acc:List Ms)(v:Value):Prop:=tK w lo acc v/\∀y,acc= [y]->Ub w lo v y
theorem Ub.below {d:Nat}{y:Ms}(h:Ub w d v y)(b:Below w.heap.size w w'):Ub w' d v y:=by
 obtain⟨g,cap,p,o,k,rfl,j,e,n,i,l,m⟩:=h;have c:g<w.heap.size:=lt_of_cell e;exact⟨g,cap,p,o,k,rfl,j,(b.cell c).trans e,(b.cell c).trans n,(b.cell c).trans i,(b.cell c).trans l,m.below b⟩
theorem tR.below {c:Nat}(h:tR w c acc v)(b:Below w.heap.size w w'):tR w' c acc v:=⟨bL.below h.1 b,fun y d=>(h.2 y d).below b⟩
theorem tR.set {i:Nat}{u:Value}{nb:Nat}(h:tR w i acc v)(z:nb<i):tR (w.setCell (nb,0) u) i acc v:=by
 have c:ae [nb] w (w.setCell (nb,0) u):=(ae.refl _ _).setCell (.inl (by simp)) _;refine⟨tK.only h.1 c (by simp;omega),fun y x=> ?_⟩;obtain⟨g,cap,r,q,m,rfl,s,j,p,l,o,k⟩:=h.2 y x;have e:g<w.heap.size:=lt_of_cell j;have d:g∉ [nb]:=by simp;omega
 exact⟨g,cap,r,q,m,rfl,s,(c.cell e d).trans j,(c.cell e d).trans p,(c.cell e d).trans l,(c.cell e d).trans o,nZ.ah (zd _) (fun b A n=>c.block b n (by simp;omega)) _ k⟩
theorem sk {ops:Array Oper}{o:Oper}{a:Act}{K:Act->World->Prop}{Q:Exit->Act->World->Prop}{J:Prop}(S:o.guard=none)(s x:Operand)
 (L:o.op= .call {callee:= .builtin .append,args:= #[s,x],argTypes:= #[42,42]}) (d:Nat) (acc:List Ms)  (X:a.eval s=v) (ll:tR w d acc v) (y:Ms) {l i h:Value}
 (E:Nat) (I:nZ w E y.x l i h) (aa:y.name.size<=9223372036854775807) (C:d<=E/\∀k,v.ownBlock=some k->k<E) (g:Nat) (hx:a.eval x= .slice (some (g,0)) 1 1) (m:(w,g,0,y.name)/\(w,g,1,l)/\(w,g,2,i)/\(w,g,3,h))
 (ab:acc.length<=1000000) (N:d<=w.heap.size)
 (U:∀c A cap w',Hid (A=acc.length+1)->tR w' d (acc++ [y]) (.slice (some (c,0)) A cap)->w.grownBy w' v.ownBlock->d<=c->K (a.put o.dst (.slice (some (c,0)) A cap)) w'):
 if Region.wanted o (yielded ops a.tmps)=true then Oper.wp prog o a w K Q else J:=by
 obtain⟨i0,hi,dF,M,O⟩:=yz vH;obtain⟨⟨D,Y,F⟩,_⟩:=ll;have G:oB w (fun k=>d<=k/\v.ownBlock≠some k) y y.name l i h:=⟨rfl,aa,(nZ.toS _ I).ef fun k _ hk=>⟨by omega,fun e=>by have:=C.2 k e;omega⟩⟩
 refine step_append_lies w S s x 42 L d 30 i0 _ 4 64 xT hi dF M O rfl (by decide) v acc.length D X Y (g,0) 1 1 [.string y.name,l,i,h] hx rfl ?_ (Pv G) (by decide) (by simp only[maxLen];omega) (by omega) N w.heap.size rfl ?_
 ·intro j u hu;rw[QG];match j,hu with
  |0,hu=>simp at hu;subst hu;exact m.1
  |1,hu=>simp at hu;subst hu;exact m.2.1
  |2,hu=>simp at hu;subst hu;exact m.2.2.1
  |3,hu=>simp at hu;subst hu;exact m.2.2.2
 intro c cap w' B r n aD;have H:=C0 B c rfl;refine U c _ cap w' (za rfl) ⟨⟨D++ [.string y.name,l,i,h],by rw[zk];exact B, ?_⟩,fun z hz=> ?_⟩ r H
 ·refine((F.snoc G).ah (fun k hk hS=>⟨hS.1, ?_⟩) fun p R hS=>zB (r.block _ R (fun e=>hS.2 e.symm)));intro e;have e:c=k:=by simpa[Value.ownBlock]using e
  rcases n with n|n
  ·exact hS.2 (by rw[n,e])
  omega
 obtain⟨rfl,rfl⟩:acc= []/\y=z:=by
  cases acc with
  |nil=>simpa using hz
  |cons _ t=>simp at hz
 have Z:D= []:=F;subst Z;have q:∀j u,[.string y.name,l,i,h][j]?=some u->w'.cell? ⟨c,j,none⟩=some u:=fun j u hu=>by
  exact(yp w'.cell? (QG c j)).symm.trans (B.cells rfl j u (by simpa using hu))
 exact⟨c,cap,l,i,h,rfl,H,q 0 _ rfl,q 1 _ rfl,q 2 _ rfl,q 3 _ rfl,nZ.ah C.1 (fun b hb W=>r.block b W fun e=>by have:=C.2 b e.symm;omega) _ I⟩
theorem QH (p j nb lo:Nat)(acc:List Ms)(v:Value)(w:World)(hv:bL w (· <nb) lo acc v)(ho:∀k,v.ownBlock=some k->k<nb)(hq:w.cell? (p,j*3+2)=some v)(hp:p<nb)(hz:w.heap.size=nb+1)(c:∀x∈acc,x.x.may=true)(al:acc.length<=1000000)(hn:ag w nb 42 #[nS]):
 Calls prog 36 #[(p,j*3),(nb,0)] w fun e w'=>e= .returned (0:Int)/\∃u,tR w' (nb+1) acc u/\Below nb w w'/\ag w' nb 42 #[u]:=by
 obtain⟨A,n,cap,rfl,aj,SB,kr,Al⟩:=bL.reads hv (fun k h=>h) ho;have UH:=za Al;have Wa:=za c;have JT:=za aj;have ay:=za hn;clear hv ho c aj Al hn;go_enter func36,ntmps36
 go_wp2_with fail
 go_loopw [11] (fun i wr=>∃k:Nat,k<=acc.length/\i= .int .i64 k/\∃u,tR wr (nb+1) (acc.take k) u/\Below nb w wr/\ag wr nb 42 #[u]/\nb+1<=wr.heap.size) (fun i _=>acc.length-(intOf i).toNat)
 case atStart=>exact⟨0,by omega,rfl,nS,⟨tK.nil _ _,fun y l=>by cases l⟩,zm _ _,ay.out,by omega⟩
 case round=>
  obtain⟨k,hk,rfl,u,hg,m,hr,G6⟩:=hrel;obtain⟨A5,n5,ff,rfl,aA,aC,aB⟩:=bL.cy hg.1;have C:=za hg;have HB:=za m;have HR:=za hr;have ax:=za al;clear hg hr hq hz al;by_cases aD:k<acc.length
  ·obtain⟨b,o,c0,c1,c2,c3,rfl,R,e0,e1,U,e3,l⟩:=UH.out.at_ k aD;simp only[zJ]at e0 e1 U e3;obtain⟨y,F⟩:=gL acc[k];rw[F]at l;have ai:y.x.may=true:=by rw[<-F];exact Wa.out _ (zD aD)
   have tS:Hid (acc.take (k+1)=acc.take k++ [y]):=za (by rw[<-F,Z7,zA aD];rfl);have HI:=za (fun ad (hU:Below nb w ad)=>fR.tJ _ (fR.ah (w':=ad) (fun _ _ h=>h) (fun p _ hp=>hU.cell hp) _ l.2.2));have f0:=(m.cell R).trans e0;have f1:=(m.cell R).trans e1;have f2:=(m.cell R).trans U;have f3:=(m.cell R).trans e3;have ar:=l.2.1;obtain⟨Ax,dV,rfl,rfl,rfl,rfl,_⟩:=l.open_;have au:=za ar;have YC:k<n:=by have:=JT.out;omega
   obtain⟨W,B⟩:=gL (wr.alloc (.cells #[y.name,y.x.text,y.x.list,.slice Ax y.x.sub.length dV] 30));have GP:W.heap.size=wr.heap.size+1:=by rw[<-B];simp
   have J:Below wr.heap.size wr W:=by rw[<-B];exact(zm _ wr).alloc (zd _) _
   have J4:Hid (ag W wr.heap.size 30 #[y.name,y.x.text,y.x.list,.slice Ax y.x.sub.length dV]):=za (by rw[<-B];exact ag.new _ _ _);have Y:=za (HR.out.ah J G6);have aa:=za (C.out.below J);have iB:Hid (Below nb w W):=za (HB.out.trans (J.mono (by omega)));have HW:=za B;obtain⟨L,S⟩:=gL (Value.slice A5 n5 ff).ownBlock.toList;have Bb:=za S;have D:Hid (∀i,i∈L->(Value.slice A5 n5 ff).ownBlock=some i/\nb+1<=i/\i<wr.heap.size):=za fun i hi=>by
    rw[<-S]at hi;have:=bV.1 hi;exact⟨this,bL.ge C.out.1 i this⟩
   have q:Hid (∀V,ae L W V->(V,nb,0,Value.slice A5 n5 ff)/\(V,wr.heap.size,0,y.name)/\(V,wr.heap.size,1,y.x.text)/\(V,wr.heap.size,2,y.x.list)/\(V,wr.heap.size,3,Value.slice Ax y.x.sub.length dV)/\V.frozen? (nb,0)=false):=za fun V O=>by
    have h1:=Y.out.only O (fun c=>by have:=D.out _ c;omega);have E:=J4.out.only O (fun c=>by have:=D.out _ c;omega);exact⟨h1.cell 0,E.cell 0,E.cell 1,E.cell 2,E.cell 3,h1.frozen 0⟩
   have ao:=za (XH y.x _ W.drew _ _ _ (HI.out _ iB.out.drew) (zd _) ai);have ak:Hid (ae L W W.drew):=za (ae.refl _ _).drew;have az:=za GP;clear e0 e1 U e3 l m ar F J B C HR HB S ai HI;go_wp2_with fail
   rw[HW.out];have hHeld:=q.out _ ak.out;refine wrl q.out 9 (by kernel_rfl) (by kernel_rfl) ?_;refine GT.jM [0,1,2,3,4] hHeld (fun _ _ _ _ _ h=>h) (by kernel_rfl) ?_;repeat(refine .c rfl rfl (fun V O=>by go_simp<;>with_reducible rfl) ?_;simp only[Act.put,zb,ze,zg])
   refine .nil ?_;refine GT.gw 5 (fun K d=> ?_) rfl (by kernel_rfl);go_simp;refine ao.out.mono ?_;rintro e w3 ⟨⟨d2,rfl,ab⟩,bJ⟩;have I:Below W.heap.size W w3:=(zm _ W).drew.trans bJ;have fF:ae L W w3:=(ae.ai I (zd _)).mono (by simp);obtain⟨Bx,N1,_,_,rfl,_⟩:=ab.open_;go_wp2_with fail
   refine d.out _ _ (q.out w3 fF) (fun hHeld=> ?_);clear d K;try simp only[Act.put,zb,ze,zg]
   refine GT.jM [6] hHeld (fun _ _ _ _ _ h=>h) (by kernel_rfl) ?_;refine .c rfl rfl (fun V O=>by go_simp<;>with_reducible rfl) ?_;simp only[Act.put,zb,ze,zg];refine .nil ?_;refine GT.gw 7 (fun K d=> ?_) rfl (by kernel_rfl);go_simp;obtain⟨r,M⟩:=gL (w3.alloc (.cells #[y.name,y.x.text,y.x.list,.slice Bx y.x.sub.length N1] 30));have N:Below w3.heap.size w3 r:=by rw[<-M];exact(zm _ w3).alloc (zd _) _
   have s:ag r w3.heap.size 30 #[y.name,y.x.text,y.x.list,.slice Bx y.x.sub.length N1]:=by rw[<-M];exact ag.new _ _ _
   have av:=I.size;have SI:=N.size;have ey:Hid (Below W.heap.size W r):=za (I.trans (N.mono av));have uI:ae L W r:=(ae.ai ey.out (zd _)).mono (by simp);have aq:Hid (nZ r W.heap.size y.x y.x.text y.x.list (.slice Bx y.x.sub.length N1)):=za (ab.below N);rw[M];refine d.out _ _ (q.out r uI) (fun hHeld=> ?_);clear d K;try simp only[Act.put,zb,ze,zg]
   refine GT.gw 8 (fun K d=> ?_) rfl (by kernel_rfl);have GQ:=za (aa.out.below ey.out);have JI:nb+1<=W.heap.size:=by have:=az.out;omega
   have JS:(acc.take k).length<=1000000:=by have:=ax.out;simp;omega
   refine sk (by rfl) (.tmp 15) (.tmp 22) (by rfl) (nb+1) (acc.take k) (by rfl) GQ.out y W.heap.size aq.out au.out ⟨JI,fun i hi=>by have:=(bL.ge aa.out.1 i hi).2;omega⟩ _ (by rfl) ⟨s.cell 0,s.cell 1,s.cell 2,s.cell 3⟩ JS (by omega) ?_;intro Z n' X G Uz ah gB ma;have z:Hid (ae L W G):=za (uI.trans ((ae.eR gB).mono fun i hi=>by rw[Bb.out]at hi;exact hi));have af:=za ah;have fD:Hid (Below nb w G):=za (iB.out.trans (z.out.below (by omega) fun i hi=>by have:=D.out i hi;omega));refine d.out _ _ (q.out G z.out) (fun hHeld=> ?_);clear d K;try simp only[Act.put,zb,ze,zg]
   refine GT.pF 9 ?_ rfl (by kernel_rfl);clear ah gB bJ I fF N s uI M ab;go_simp;have Eb:=za (Y.out.only z.out fun c=>by have:=D.out _ c;omega);have NX:=z.out.size;clear ey aq GQ z aa ao ak q D Bb J4 Y HW iB f0 f1 f2 f3;obtain⟨H,LD⟩:=gL (G.setCell (nb,0) (.slice (some (Z,0)) n' X));have aw:Hid (tR H (nb+1) (acc.take (k+1)) (.slice (some (Z,0)) n' X)/\Below nb w H/\ag H nb 42 #[Value.slice (some (Z,0)) n' X]/\nb+1<=H.heap.size):=za (by
    rw[tS.out,<-LD];exact⟨af.out.set (by omega),fD.out.setCell (by simp) _,Eb.out.store rfl,by simp;omega⟩)
   rw[LD];clear LD af fD Eb;go_wp2;go_roundw
   case rel=>exact⟨k+1,by omega,by go_num,_,aw.out⟩
   case measure=>simp[intOf];omega
  have YC:¬k<n:=by have:=JT.out;omega
  have og:k=acc.length:=by omega
  subst og;rw[ZE]at C;go_wp2;go_ret;exact⟨rfl,_,C.out,HB.out,HR.out⟩
theorem K6 (L:mw)(V:Nat->Value)(Fr:Nat->Prop)(c:aM)(l:List bj)(D:gC)(j:Nat)(i:j<2)(w:World)(h:gT w L V Fr c l D)(o:∀x∈D.got j,x.x.may=true)(q:(D.got j).length<=1000000):
 Calls prog 13 #[(L.p,0),j] w fun e w'=>∃u,e= .returned u/\tR w' (w.heap.size+1) (D.got j) u/\(w,w'):=by
 obtain⟨W,b⟩:=gL (w.alloc (.cells #[nS] 42));have d:Below w.heap.size w W:=by rw[<-b];exact(zm _ w).alloc (zd _) _
 have m:ag W w.heap.size 42 #[nS]:=by rw[<-b];exact ag.new _ _ _
 have hz:W.heap.size=w.heap.size+1:=by rw[<-b];simp
 have E:=za (PJ L.p j i w.heap.size W 0 _ (QH L.p j w.heap.size L.base (D.got j) (V (4+j)) W (((h.got j i).ef (fun k z _=>z) (zd _)).below d) (fun k e=>(h.own _ k (by omega) e).2) (dz (h.blk.ah d h.blk.lt) i).1.2.2.1 h.blk.lt hz o q m));have C:=za d;have y:=za b;clear h m d b o q hz;go_enter func13,ntmps13
 go_wp2_with fail
 rw[y.out];refine cm E.out fun w3 B=> ?_
 obtain⟨u,hu,r,p⟩:=B;have G:=p.cell 0;have s:Hid (w,w3):=za (C.out.trans r);have F:=za hu;obtain⟨A,n,cap,rfl,_⟩:=bL.cy hu.1;clear hu r p;go_wp2;go_ret;exact⟨_,rfl,F.out,s.out⟩
