/- session.New, Send, and what is asked of a session. -/
import Derived.Test.YtpjgigllldipiaaGreatDoorKA41
set_option linter.all false
set_option maxRecDepth 100000
set_option maxHeartbeats 16000000
namespace Go.Proofs.YtpjgigllldipiaaGreatDoor
open Go.RowKit
theorem qt (i hi g:Nat)(j:Value)(c:aS)(l:List bF)(x:iI)(k:Nat)(w:World)(h:dB w i hi g j c l x k):
 Calls Tryz.prog 13 #[.pointer (some ⟨g,0,none⟩)] w fun e w'=>e= .returned (.int .i64 (x.buf.size:Nat))/\w=w':=by
 obtain⟨_,_,_,_,_,_,_,d,_⟩:=h.reg;have b:=h.buf.form;rw[aa]at b;obtain⟨A,cap,rfl,_,_⟩:=b;obtain⟨_,n,r,p,m,q,o⟩:=d.parts;clear d h;go_enter Tryz.func13,Tryz.ntmps13
 go_wp2;go_ret;exact⟨rfl,rfl⟩
theorem Qo (i hi g:Nat)(j:Value)(c:aS)(l:List bF)(x:iI)(k:Nat)(w:World)(h:dB w i hi g j c l x k):
 Calls Tryz.prog 14 #[.pointer (some ⟨g,0,none⟩)] w fun e w'=>e= .returned (.int .i64 (x.told:Nat))/\w=w':=by
 obtain⟨_,_,_,_,_,_,_,d,_⟩:=h.reg;have b:=h.buf.form;rw[aa]at b;obtain⟨A,cap,rfl,_,_⟩:=b;obtain⟨_,n,r,p,m,q,o⟩:=d.parts;clear d h;go_enter Tryz.func14,Tryz.ntmps14
 go_wp2;go_ret;exact⟨rfl,rfl⟩
theorem Qp (j hi g:Nat)(k:Value)(c:aS)(l:List bF)(x:iI)(i:Nat)(w:World)(h:dB w j hi g k c l x i):
 Calls Tryz.prog 11 #[.pointer (some ⟨g,0,none⟩)] w fun e w'=>e= .returned (.int .i64 (i:Nat))/\w=w':=by
 obtain⟨_,_,_,_,_,_,_,d,_⟩:=h.reg;have b:=h.buf.form;rw[aa]at b;obtain⟨A,cap,rfl,_,_⟩:=b;obtain⟨_,n,r,p,m,q,o⟩:=d.parts;clear d h;go_enter Tryz.func11,Tryz.ntmps11
 go_wp2;go_ret;exact⟨rfl,rfl⟩
def U7 (w:World)(c:aS)(l:List bF)(e:Ending)(w':World):Prop:=
 Below w.heap.size w w'/\((oL c l=0/\∃lo hi g,w.heap.size<=lo/\e= .returned (.tuple #[.pointer (some ⟨g,0,none⟩),.int .i64 0])/\dB w' lo hi g (.slice none 0 0) c l iI.new 0)\/(oL c l≠0/\e= .returned (.tuple #[.pointer none,.int .i64 (oL c l)])))
theorem KS (c:aS)(l:List bF)(v:Value)(B:Nat)(w:World)(o:rq w B v l)(S:B<=w.heap.size)(p:Laid w)(r:∀e∈l,pV e):
 Calls Tryz.prog 9 #[c.val,v] w (U7 w c l):=by
 obtain⟨X,n,cap,rfl,Z,aa,Y⟩:=o.df;obtain⟨b,h⟩:∃b,w.alloc (.cells #[.int .i64 c.fm,.int .u32 c.mg,.int .i64 c.fr,.int .i64 c.un,.int .i64 c.de,.int .i64 c.it] 24)=b:=⟨_,rfl⟩
 have i:Below w.heap.size w b:=by rw[<-h];exact(zq _ w).alloc (zi _) _
 have z:b.heap.size=w.heap.size+1:=by rw[<-h];simp
 have s:af b w.heap.size 24 #[.int .i64 c.fm,.int .u32 c.mg,.int .i64 c.fr,.int .i64 c.un,.int .i64 c.de,.int .i64 c.it]:=by rw[<-h];exact af.new w _ _
 have x:=za (TJ c l _ B b (o.below (i.mono S)) (by omega) (p.below i p.pos) r);obtain⟨J,U,L,K,O,N⟩:=fu s;have u:=za i;have I:=za z;have H:=za h;unfold aS.val at*;clear o p r i z s h;go_enter Tryz.func9,Tryz.ntmps9
 go_wp2_with fail
 rw[H.out];refine x.out.mono ?_;rintro e j ⟨q,M⟩;have m:=za (u.out.trans (q.mono (by have:=I.out;omega)));have F:=q.size;clear q x J U L K O N;rcases M with⟨d,E,C,G,rows,rfl,y,A⟩|⟨d,rfl⟩
 ·have R:=za y;have D:=za A;have k:=za d;clear y A d;go_wp2;refine zp (v:= .tuple #[.pointer (some ⟨j.heap.size,0,none⟩),.int .i64 0]) (by simp[results,Tryz.results9,go_sem]) rfl ?_;refine⟨m.out.alloc m.out.size _,.inl ⟨k.out,b.heap.size,j.heap.size,j.heap.size,u.out.size,rfl,F,zi _,⟨E,C,G,rows,0,R.out.below ((zq _ j).alloc (zi _) _),D.out,af.new _ _ _,fun _=>iw.zero _ _⟩,bJ.nil _ _ _⟩⟩
 have W:(oL c l !=0)=true:=yP.2 d;have k:=za d;clear d;go_wp2;refine zp (v:= .tuple #[.pointer none,.int .i64 (oL c l)]) (by simp[results,Tryz.results9,go_sem]) rfl ?_;exact⟨m.out,.inr ⟨k.out,rfl⟩⟩
theorem vV (N hi g:Nat)(R:Value)(c:aS)(l:List bF)(x:iI)(n:Nat)(nm:ByteArray)(it:It)(B:Nat)(w:World)(c0 c1 c2:Value)(hc:c.ok)(h:dB w N hi g R c l x n)(hI:bW w B it c0 c1 c2)(hB:B<=w.heap.size)(hL:Laid w)(iS:bn w)
 (hl:c.fm≠1->it.fJ.length<=1000000) (ah:(bz c l nm it).1.ok) (Vs:n<=1000000000):
 Calls Tryz.prog 10 #[.pointer (some ⟨g,0,none⟩),.agg #[.string nm,c0,c1,c2]] w fun e w'=>e= .returned (.tuple #[.string (cx c l nm it).1,.int .i64 (cx c l nm it).2])/\dB w' N hi g R c l x (if(cx c l nm it).2=0 then n+1 else n)/\ae [g] w w':=by
 obtain⟨s,gn,gi,rows,nd,U,hr,hS,tU⟩:=h.reg;have wV:=hS.lt;obtain⟨O,S,rfl,rfl,rfl,_⟩:=hI.open_;obtain⟨b,M⟩:∃b,w.alloc (.cells #[.string nm,.string it.text,.bool it.list,.slice O it.sub.length S] 30)=b:=⟨_,rfl⟩
 have kH:Below w.heap.size w b:=by rw[<-M];exact(zq _ w).alloc (zi _) _
 have eo:b.heap.size=w.heap.size+1:=by rw[<-M];simp
 have Ce:af b w.heap.size 30 #[.string nm,.string it.text,.bool it.list,.slice O it.sub.length S]:=by rw[<-M];exact af.new w _ _
 have ad:=U.below (kH.mono U.his);have ai:c.fm=1\/(bz c l nm it).1.body.size<=1000000:=by
  by_cases Z:c.fm=1
  ·exact .inl Z
  by_cases A:(bz c l nm it).2=0
  ·obtain⟨e,u,J,h3⟩:=mM A;have h4:=(rj Z J (by have:=hl Z;omega)).2;rw[h3,zj Z];show _\/(bQ c e.shape it).1.size<=_
   rw[h4,<-aa];have:=hl Z;simp;exact .inr (by omega)
  rw[BK A];exact .inr (by simp[mw,ByteArray.size])
 have HE:Hid (∀V,Below b.heap.size b V->Calls Tryz.prog 27 #[.pointer (some ⟨s,0,none⟩),.agg #[.string nm,.string it.text,.bool it.list,.slice O it.sub.length S]] V fun e w'=>e= .returned (.tuple #[(bz c l nm it).1.val,.int .i64 (bz c l nm it).2])/\Below V.heap.size V w'):=za (fun V d=>by
  have aI:=kH.trans (d.mono (by omega));have:=TF N hi s gn gi c rows nm it B V _ _ _ (U.below (aI.mono U.his)) (hI.below (aI.mono hB)) (by have:=d.size;omega) (hL.below aI hL.pos) (iS.below aI iS.pos) (fun h=>by have:=hl h;omega);rwa [hr]at this)
 have Ug:=za (fun V (d:Below b.heap.size b V)=>KM N hi s gn gi c rows V (ad.below (d.mono ad.his)));have HP:=za (fun V=>TW c (bz c l nm it).1 hc ah ai V);have G:Hid (cx c l nm it=if(bz c l nm it).2≠0 then(ByteArray.empty,(bz c l nm it).2)else fk c (bz c l nm it).1):=za rfl;have aj:Hid ((fk c (bz c l nm it).1).2≠0->(fk c (bz c l nm it).1).1=ByteArray.empty):=za EY;generalize cx c l nm it=SP at*;obtain⟨Y,DX⟩:∃Y,(if SP.2=0 then n+1 else n)=Y:=⟨_,rfl⟩
 rw[DX];have I:=za DX;clear DX;generalize fk c (bz c l nm it).1=PP at*;generalize bz c l nm it=ak at*;obtain⟨F,E⟩:=ak;obtain⟨X,D⟩:=PP;obtain⟨z,fn,C⟩:=F;simp only at HE HP G aj;have Oc:=za (hS.ag kH wV);have Rc:=za h;have l6:=za kH;have AS:=za eo;have cL:=za M;have Oi:=za Ce;have q:Hid (∀V,Below b.heap.size b V->V.cell? ⟨g,0,none⟩=some (.pointer (some ⟨s,0,none⟩))/\V.cell? ⟨w.heap.size,0,none⟩=some (.string nm)/\V.cell? ⟨w.heap.size,1,none⟩=some (.string it.text)/\V.cell? ⟨w.heap.size,2,none⟩=some (.bool it.list)/\V.cell? ⟨w.heap.size,3,none⟩=some (.slice O it.sub.length S)):=za (fun V d=>by
  have u:ff V g s R nd x.fault x.laid x.told n:=Oc.out.ag d Oc.out.lt;have J:=Oi.out.ag d Oi.out.lt;exact⟨u.parts.1,J.cell 0,J.cell 1,J.cell 2,J.cell 3⟩)
 unfold aS.val Fr.val at*;clear h U hr tU hI hL iS hl ah kH eo Ce ad ai M hS;go_enter Tryz.func10,Tryz.ntmps10
 go_upto_region 3 with fail
 rw[cL.out];go_cut [6,7] (fun v1 v2 k=>∃bf:Nat,v1= .pointer (some ⟨bf,0,none⟩)/\v2= .int .i64 E/\Hid (Below b.heap.size b k)/\Hid (af k bf 74 #[.int .u64 z,.string fn,.string C]))
 case rest=>
  obtain⟨bf,rfl,rfl,p,H⟩:=hcut;obtain⟨k,ao⟩:∃k,k=wc:=⟨_,rfl⟩
  subst ao;have D3:=p.out.size;have DI:=za (l6.out.trans (p.out.mono (by have:=AS.out;omega)));have av:w.heap.size<=k.heap.size:=DI.out.size;rcases eH E with⟨A,z1,z2⟩|⟨A,z1,z2⟩
  ·subst A;rw[zj (by simp)]at G;have p0:=(q.out k p.out).1;go_wp2_with fail
   refine fP (by kernel_rfl) (by kernel_rfl) ?_;refine ar (.pointer (some ⟨g,0,none⟩)) (by rfl) (fun _ _=>by first|rfl|go_simp) ?_;simp only[Act.put,zb,ze,zf];refine ar (.pointer (some ⟨g,0,none⟩)) (by rfl) (fun _ _=>by first|rfl|go_simp) ?_;simp only[Act.put,zb,ze,zf];refine ar (.pointer (some ⟨g,0,none⟩)) (by rfl) (fun _ _=>by first|rfl|go_simp) ?_;simp only[Act.put,zb,ze,zf];refine ar (.pointer (some ⟨s,0,none⟩)) (by rfl) (fun V d=>by have p0:=(q.out V (p.out.trans (d.mono D3))).1;go_simp) ?_;simp only[Act.put,zb,ze,zf];refine eE 29 _ (.agg #[.int .i64 c.fm,.int .u32 c.mg,.int .i64 c.fr,.int .i64 c.un,.int .i64 c.de,.int .i64 c.it]) (by rfl) (fun _=>by first|rfl|go_simp) (fun V d=>Ug.out V (p.out.trans (d.mono D3))) ?_;simp only[Act.put,zb,ze,zf];refine ar (.agg #[.int .u64 z,.string fn,.string C]) (by rfl) (fun V d=>by obtain⟨f0,f1,f2⟩:=j7 (H.out.ag d H.out.lt);go_simp) ?_;simp only[Act.put,zb,ze,zf];refine eE 28 _ (.tuple #[.string X,.int .i64 D]) (by rfl) (fun _=>by first|rfl|go_simp) (fun V d=>HP.out V) ?_;simp only[Act.put,zb,ze,zf];refine ar (.tuple #[.string X,.int .i64 D]) (by rfl) (fun _ _=>by first|rfl|go_simp) ?_;simp only[Act.put,zb,ze,zf];refine ar (.string X) (by rfl) (fun _ _=>by first|rfl|go_simp) ?_;simp only[Act.put,zb,ze,zf];refine ar (.int .i64 D) (by rfl) (fun _ _=>by first|rfl|go_simp) ?_;simp only[Act.put,zb,ze,zf];refine ar (.string X) (by rfl) (fun _ _=>by first|rfl|go_simp) ?_;simp only[Act.put,zb,ze,zf]
   refine ar (.int .i64 D) (by rfl) (fun _ _=>by first|rfl|go_simp) ?_;simp only[Act.put,zb,ze,zf];refine xN ?_;intro V d;have gx:Hid (Below w.heap.size w V):=za (DI.out.trans (d.mono av));have y:Hid (dB V N hi g R c l x n):=za (Rc.out.below gx.out);have ab:ff V g s R nd x.fault x.laid x.told n:=Oc.out.ag (p.out.trans (d.mono D3)) Oc.out.lt;have ax:g<V.heap.size:=ab.lt;obtain⟨_,_,_,_,_,_,p6⟩:=ab.parts;obtain⟨_,_,_,_,_,f6⟩:=ab.CP;clear d ab p0;rcases eH D with⟨u,u1,u2⟩|⟨u,u1,u2⟩
   ·subst u;go_wp2;refine zp (v:= .tuple #[.string X,.int .i64 0]) (by simp[results,Tryz.results10,go_sem]) rfl ?_;rw[G.out]at I⊢;obtain rfl:n+1=Y:=by rw[<-I.out,zl rfl]
    have ho:ae [g] V (V.setCell ⟨g,6,none⟩ (.int .i64 ((n:Int)+1))):=(ae.refl _ _).setCell (by simp) _;refine⟨rfl, ?_,((ae.ah gx.out (zi _)).mono (by simp)).trans ho⟩;obtain⟨aq,aw,au,al,an,k1,k2,k3,k4⟩:=y.out.reg;have e1:((n:Int)+1)=((n+1:Nat):Int):=by omega
    have Lx:=y.out.Lx;have ch:=y.out.buf.dh k3 (by decide);exact⟨y.out.lohi,y.out.Lx,⟨aq,aw,au,al,an,k1.only ho (by simp;omega),k2,by rw[e1];exact ff.Tc k3 _,k4⟩,y.out.buf.pM ho (by intro j e hj;simp at hj;subst hj;exact ch e)⟩
   have hp:=aj.out u;subst hp;go_wp2;refine zp (v:= .tuple #[.string ⟨#[]⟩,.int .i64 D]) (by simp[results,Tryz.results10,go_sem]) rfl ?_;rw[G.out]at I⊢;obtain rfl:n=Y:=by rw[<-I.out,zj u]
   exact⟨rfl,y.out,(ae.ah gx.out (zi _)).mono (by simp)⟩
  rw[zl A]at G;go_wp2;refine zp (v:= .tuple #[.string ⟨#[]⟩,.int .i64 E]) (by simp[results,Tryz.results10,go_sem]) rfl ?_;rw[G.out]at I⊢;obtain rfl:n=Y:=by rw[<-I.out,zj A]
  exact⟨rfl,Rc.out.below DI.out,(ae.ah DI.out (zi _)).mono (by simp)⟩
 go_wp2_with fail
 have hHeld:=q.out b.drew (zq _ _).drew;refine aB 11 (fun V=>V.cell? ⟨g,0,none⟩=some (.pointer (some ⟨s,0,none⟩))/\V.cell? ⟨w.heap.size,0,none⟩=some (.string nm)/\V.cell? ⟨w.heap.size,1,none⟩=some (.string it.text)/\V.cell? ⟨w.heap.size,2,none⟩=some (.bool it.list)/\V.cell? ⟨w.heap.size,3,none⟩=some (.slice O it.sub.length S)) (by kernel_rfl) (by kernel_rfl) ?_;refine GT.jD [0,1,2,3,4] hHeld (fun _ _ _ _ _ h=>h) (by kernel_rfl) ?_;repeat(refine .c rfl rfl (fun V d=>by go_simp<;>with_reducible rfl) ?_;simp only[Act.put,zb,ze,zf])
 refine .nil ?_;refine GT.two (i:=5) (j:=9) (by simp only[y8,yW,yM];rfl) (by simp only[y8,yW,yM];rfl) (by kernel_rfl) (by kernel_rfl) (by kernel_rfl) (fun K m=> ?_) (fun K m=> ?_)
 ·go_simp;refine(HE.out b.drew (zq _ _).drew).mono ?_;rintro en w3 ⟨rfl,L⟩;have o:Below b.heap.size b w3:=(show Below b.heap.size b b.drew from(zq _ _).drew).trans L;go_wp2_with fail
  refine m.out _ _ (q.out w3 o) (fun hHeld=> ?_);clear m K;try simp only[Act.put,zb,ze,zf]
  refine GT.jD [6,7,8] hHeld (fun _ _ _ _ _ h=>h) (by kernel_rfl) ?_;repeat(refine .c rfl rfl (fun V d=>by go_simp<;>with_reducible rfl) ?_;simp only[Act.put,zb,ze,zf])
  refine .nil ?_;refine GT.fF 9 (fun K m=> ?_) rfl (by kernel_rfl);go_simp;refine m.out _ _ (q.out _ (o.alloc o.size _)) (fun hHeld=> ?_);clear m K;try simp only[Act.put,zb,ze,zf]
  refine GT.fF 10 (fun K m=> ?_) rfl (by kernel_rfl);go_simp;refine m.out _ _ (q.out _ (o.alloc o.size _)) (fun hHeld=> ?_);clear m K;try simp only[Act.put,zb,ze,zf]
  refine GT.oP 11 ?_ rfl (by kernel_rfl);go_simp;obtain⟨k,r⟩:∃k,w3.alloc (.cells #[.int .u64 z,.string fn,.string C] 74)=k:=⟨_,rfl⟩
  have p:Hid (Below b.heap.size b k):=za (by rw[<-r];exact o.alloc o.size _);have H:Hid (af k w3.heap.size 74 #[.int .u64 z,.string fn,.string C]):=za (by rw[<-r];exact af.new _ _ _);rw[r];clear r L o hHeld;go_wp2_with fail
  go_meet;case rel=>exact⟨_,rfl,rfl,p,H⟩
 go_simp;have W:Below b.heap.size b (b.alloc (.cells #[.int .u64 0,.string ⟨#[]⟩,.string ⟨#[]⟩] 74)).drew:=((zq b.heap.size b).alloc (zi _) _).drew;have ag:af (b.alloc (.cells #[.int .u64 0,.string ⟨#[]⟩,.string ⟨#[]⟩] 74)).drew b.heap.size 74 #[.int .u64 0,.string ⟨#[]⟩,.string ⟨#[]⟩]:=(af.new b _ _).drew;refine m.out _ _ (q.out _ W) (fun hHeld=> ?_);clear m K;try simp only[Act.put,zb,ze,zf]
 refine GT.fF 5 (fun K m=> ?_) rfl (by kernel_rfl);go_simp;refine(HE.out _ W).mono ?_;rintro en w3 ⟨rfl,L⟩;have o:Below b.heap.size b w3:=W.trans (L.mono W.size);have RE:=ag.ag L ag.lt;go_wp2_with fail
 refine m.out _ _ (q.out w3 o) (fun hHeld=> ?_);clear m K;try simp only[Act.put,zb,ze,zf]
 refine GT.jD [6,7,8] hHeld (fun _ _ _ _ _ h=>h) (by kernel_rfl) ?_;repeat(refine .c rfl rfl (fun V d=>by go_simp<;>with_reducible rfl) ?_;simp only[Act.put,zb,ze,zf])
 refine .nil ?_;obtain⟨t0,t1,t2,Ll,NL,Ss⟩:=a8 RE;refine GT.fF 10 (fun K m=> ?_) rfl (by kernel_rfl);go_simp;have Sr:Below b.heap.size b (((w3.setCell ⟨b.heap.size,0,none⟩ (.int .u64 z)).setCell ⟨b.heap.size,1,none⟩ (.string fn)).setCell ⟨b.heap.size,2,none⟩ (.string C)):=((o.setCell (by simp) _).setCell (by simp) _).setCell (by simp) _;refine m.out _ _ (q.out _ Sr) (fun hHeld=> ?_);clear m K;try simp only[Act.put,zb,ze,zf]
 refine GT.oP 11 ?_ rfl (by kernel_rfl);go_simp;obtain⟨k,r⟩:∃k,((w3.setCell ⟨b.heap.size,0,none⟩ (.int .u64 z)).setCell ⟨b.heap.size,1,none⟩ (.string fn)).setCell ⟨b.heap.size,2,none⟩ (.string C)=k:=⟨_,rfl⟩
 have p:Hid (Below b.heap.size b k):=za (by rw[<-r];exact Sr);have H:Hid (af k b.heap.size 74 #[.int .u64 z,.string fn,.string C]):=za (by rw[<-r];exact dV RE _ _ _);rw[r];clear r L o hHeld W ag RE Sr t0 t1 t2 Ll NL Ss;go_wp2_with fail
 go_meet;case rel=>exact⟨_,rfl,rfl,p,H⟩
def fz :aS:=⟨2,0,9,9,2,9⟩
def eY :bF:=⟨5,⟨#[112,105,110,103]⟩,⟨#[117,56]⟩⟩
def ou :Ty:= .mk 1 1 [] 0
def la :It:= .mk ⟨#[7]⟩ false []
theorem B3 :ou.may=true:=by simp[ou,Ty.may,Ty.count,Ty.deep,Ty.right,aZ,dI,bK,fS]
theorem vW :cI eY.ty.data.toList=some ou:=by
 have h:aK 8 eY.ty.data.toList=some (ou,[]):=by rfl
 rw[vG h,B3,zl rfl]
theorem F1 :eY.shape=ou:=by unfold bF.shape;rw[vW];rfl
theorem F2 :fz.right=true:=by decide
theorem Dg :oL fz [eY]=0:=by
 rw[rG F2 (by simp)];have b:gw fz [] eY=0:=by
  unfold gw;rw[zj (by decide),zj (by simp),zj (by simp),vW,zj (by simp),zj (by simp[fz])]
 simp[iV,b]
theorem Qq :gI ou la 2 9=0:=by
 rw[lB];refine⟨?_, ?_⟩
 ·unfold eI;rw[B3];simp[ou,la,It.may,It.right,It.deep,It.count,dg,cD,aH,formed,It.dj,cR,nR,gj,ByteArray.size]
 rw[oJ];simp[la,It.may,It.right,It.deep,It.count,dg,cD,aH,formed,ByteArray.size]
theorem vX :la.fJ= [7]:=by
 simp[la,It.fJ,ByteArray.size]
theorem Nj :fB [eY] ⟨#[112,105,110,103]⟩=some eY:=by
 simp[fB,eY]
theorem F3 :bz fz [eY] ⟨#[112,105,110,103]⟩ la=(⟨5,⟨#[]⟩,⟨#[7]⟩⟩,0):=by
 have b:bQ fz ou la=(⟨#[7]⟩,0):=by
  unfold bQ;rw[zj (by simp[fz])];show(if gI ou la 2 9=0 then _ else _,gI ou la 2 9)=_
  rw[Qq,zl rfl,vX]
 unfold bz;rw[Nj];simp only[F1,b];simp[fz,eY];rfl
theorem Nk (w:World)(B:Nat)(t:ByteArray)(l:Bool)(h:t.size<=9223372036854775807):bW w B (.mk t l []) (.string t) (.bool l) (.slice none 0 0):=Pk w B t l h
theorem Nl :fk fz ⟨5,⟨#[]⟩,⟨#[7]⟩⟩=(⟨#[2,5,7]⟩,0):=by decide+kernel
theorem Nn :(aW fz ⟨#[2,5]⟩).1=2:=by decide+kernel
theorem No :(aW fz ⟨#[2]⟩).1=2:=by decide+kernel
theorem vY :cx fz [eY] ⟨#[112,105,110,103]⟩ la=(⟨#[2,5,7]⟩,0):=by
 unfold cx;rw[F3,zj (by simp)];exact Nl
theorem TZ :Mh [eY]:=fun e b=>by
 obtain rfl:=xG.1 b;simp[eY]
theorem Qr :l7 (aR fz [eY]) iI.new ⟨#[2,5]⟩=(⟨⟨#[2,5]⟩,0,2,0⟩,[],0):=by
 rw[fh rfl,show iI.new.buf++(⟨#[2,5]⟩:ByteArray)=⟨#[2,5]⟩from by decide,dX (dJ _ _) (jy.2 Nn)];rfl
theorem Qs :∃k,l7 (aR fz [eY]) ⟨⟨#[2,5]⟩,0,2,0⟩ ⟨#[7,2]⟩=(⟨⟨#[2]⟩,0,2+k,1⟩,[⟨⟨#[112,105,110,103]⟩,la⟩],0):=by
 obtain⟨d,_,c⟩:=O4 Dg;obtain⟨y,k,h,_,i,_⟩:=EZ (nm:=⟨#[112,105,110,103]⟩) (x:=la) d c TZ (by rw[vY]) (by rw[vX];simp);obtain rfl:=i (by decide);have b:=h ⟨#[2]⟩;rw[vY,dX (dJ _ _) (jy.2 No)]at b;refine⟨k, ?_⟩;have e:(⟨#[2,5]⟩:ByteArray)++(⟨#[7,2]⟩:ByteArray)=(⟨#[2,5,7]⟩:ByteArray)++(⟨#[2]⟩:ByteArray):=by decide
 rw[fh rfl];simp only;rw[e,b];simp[Sz.cons];rfl
theorem vZ :fz.ok:=⟨by decide,by decide,by decide,by decide,by decide,by decide⟩
structure KT (lo:Nat):Prop where
 a:1<lo
 b:0<lo
theorem B4 {w w':World}{c:Nat}{L:List Nat}(d:Laid w/\bn w)(i:KT c)(e:ae L w w')(h:∀k∈L,c<=k):Laid w'/\bn w':=
 ⟨d.1.only e (fun b=>by have:=h _ b;have:=i.a;omega),d.2.only e (fun b=>by have:=h _ b;have:=i.b;omega)⟩
theorem dB.tS {w:World}{d hi g:Nat}{b:Value}{c:aS}{l:List bF}{x:iI}{e:Nat}(h:dB w d hi g b c l x e):∀k∈oG g b,d<=k:=fun k i=>by have:=h.Td k i;have:=h.lohi;omega
theorem T0 (w:World)(c:Laid w)(p:bn w):Calls Tryz.prog 5 #[] w fun e w'=>e= .returned (.bool true)/\Below w.heap.size w w':=by
 obtain⟨W,m⟩:∃W,w.alloc (.cells #[.int .u64 5,.string ⟨#[112,105,110,103]⟩,.string ⟨#[117,56]⟩] 57)=W:=⟨_,rfl⟩
 have l:Below w.heap.size w W:=by rw[<-m];exact(zq _ w).alloc (zi _) _
 have VP:w.heap.size<W.heap.size:=by rw[<-m];simp
 have q:af W w.heap.size 57 #[.int .u64 5,.string ⟨#[112,105,110,103]⟩,.string ⟨#[117,56]⟩]:=by rw[<-m];exact af.new _ _ _
 have O:rq W W.heap.size (.slice (some ⟨w.heap.size,0,none⟩) 1 1) [eY]:=⟨_,1,rfl,by simp,by simp,fun j hj=>by
  obtain rfl:j=0:=by simp at hj;omega
  exact⟨_,_,rfl,by omega,q.cell 0,q.cell 1,q.cell 2⟩⟩
 have M:=za (KS fz [eY] _ W.heap.size W O (zi _) (c.below l c.pos) (by
  intro e he;obtain rfl:=xG.1 he;exact⟨by decide,by simp[eY,ByteArray.size],by simp[eY,ByteArray.size]⟩))
 have r:=za (And.intro (c.below l c.pos) (p.below l p.pos));have aa:Hid (KT w.heap.size):=za ⟨c.pos,p.pos⟩;have HW:=za m;have fL:=za l;obtain⟨hr,_,_⟩:=O4 Dg;have I:=za hr;clear m l q O c p hr;unfold fz aS.val at M;go_enter Tryz.func5,Tryz.ntmps5
 go_wp2_with fail
 rw[HW.out];refine M.out.mono ?_;rintro e z ⟨y,dG⟩;rcases dG with⟨_,b,hi,g,pj,rfl,u⟩|⟨ch,_⟩
 ·have L:=za (fL.out.trans (y.mono (by omega)));have E:=za (And.intro (r.out.1.below y r.out.1.pos) (r.out.2.below y r.out.2.pos));have GV:Hid (dB z b hi g (.slice none 0 0) fz [eY] iI.new 0):=za u;have i:Hid (KT b):=za ⟨by have:=aa.out.a;omega,by have:=aa.out.b;omega⟩;have R:w.heap.size<=b:=by omega
  have aj:b<=g:=by have:=u.lohi;have:=u.Lx;omega
  have s:=za (vV b hi g _ fz [eY] iI.new 0 ⟨#[112,105,110,103]⟩ la z.heap.size z _ _ _ vZ GV.out (Nk z _ ⟨#[7]⟩ false (by simp[ByteArray.size])) (zi _) E.out.1 E.out.2 (fun _=>by rw[vX];simp) (by rw[F3];exact⟨by decide,by decide,by decide⟩) (by omega));rw[vY]at s;simp only[zl]at s;clear y u;go_wp2_with fail
  refine s.out.mono ?_;rintro e w2 ⟨rfl,A,D⟩;have Z:=za (L.out.trans (D.below L.out.size (by simp;omega)));have C:=za (B4 E.out i.out D (by simp;omega));have n:=za (vU b hi g _ fz [eY] iI.new 1 ⟨#[2,5]⟩ w2 I.out vZ A C.out.1 C.out.2 i.out.a i.out.b (by decide) (by decide));rw[Qr]at n;simp only at n;have U:=za A.tS;clear A D s;go_wp2_with fail
  refine n.out.mono ?_;rintro e w3 ⟨rv,al,rfl,qO,F,B,_⟩;have X:=za (Z.out.trans (B.below Z.out.size (fun k d=>zP R (U.out k d))));have J:=za (B4 C.out i.out B U.out);have x:=za (vU b hi g _ fz [eY] ⟨⟨#[2,5]⟩,0,2,0⟩ 1 ⟨#[7,2]⟩ w3 I.out vZ F J.out.1 J.out.2 i.out.a i.out.b (by decide) (by decide));obtain⟨k,d⟩:=Qs;rw[d]at x;simp only at x;have ad:=za F.tS;obtain⟨A3,n3,nr,rfl,G,ah,ak⟩:=cP.df qO;obtain rfl:n3=0:=G.out;clear F B qO G d n;go_wp2_with fail
  refine x.out.mono ?_;rintro e w4 ⟨rv,ab,rfl,N,Y,H,_⟩;have dM:=za (X.out.trans (H.below X.out.size (fun k d=>zP R (ad.out k d))));obtain⟨A4,Dy,rfl,ae,ai,K⟩:=CJ.reads (cP.fW N (S1:=(w3.heap.size<= ·)) (fun _ _ h=>h.1) (zi _));obtain⟨gg,o,d0,d1,d2,d3,rfl,_,e0,_,_,_,S⟩:=K.at_ 0 (by simp);obtain⟨_,_,rfl,_⟩:=S.open_;have ag:=za (qt b hi g ab fz _ _ _ w4 Y);simp at e0;have hz:(⟨#[2]⟩:ByteArray).size=1:=rfl;clear N Y H K S x;simp only[yF]at ae⊢;go_wp2_with fail
  refine ag.out.mono ?_;rintro e w5 ⟨rfl,rfl⟩;go_wp2;go_ret;exact⟨rfl,dM.out⟩
 exact absurd Dg ch
theorem Dh (c:aS)(f:Fr)(hid:f.id<18446744073709551616)(h:(aQ c f).2=0):(aQ c f).1.size<=70000:=by
 unfold aQ at h⊢;by_cases j:c.fm=1
 ·rw[zl j]at h⊢;by_cases i:bY f.nm=true
  ·rw[zl i]at h⊢;by_cases b:65536<f.body.size
   ·rw[zl b]at h;exact absurd h (by decide)
   rw[zj b];simp only;rw[lr c.mg f.nm f.body (dy i).2];omega
  rw[zj i]at h;exact absurd h (by decide)
 rw[zj j]at h⊢;by_cases b:c.fm=2
 ·rw[zl b]at h⊢;by_cases d:65536<(aO f.id).length+f.body.size
  ·rw[zl d]at h;exact absurd h (by decide)
  rw[zj d];simp only;rw[bD];have e:=bw 10 ((aO f.id).length+f.body.data.toList.length) (by rw[aa];omega) (by omega);unfold ey;rw[zo,zo];rw[aa]at*;omega
 rw[zj b]at h⊢;by_cases d:c.un<f.body.size
 ·rw[zl d]at h;exact absurd h (by decide)
 rw[zj d]at h⊢;by_cases e:65536<(aO f.id).length+(pack f.body.data.toList).length
 ·rw[zl e]at h;exact absurd h (by decide)
 rw[zj e];simp only;rw[bD];have k:=bw 10 ((aO f.id).length+(pack f.body.data.toList).length) (by omega) (by omega);unfold ey;rw[zo,zo];omega
theorem Jh {c:aS}{f:Fr}(hid:f.id<18446744073709551616)(h:(fk c f).2=0):(fk c f).1.size<=70000:=by
 unfold fk at h⊢;split
 ·rename_i d
  rw[zl d]at h;by_cases b:(aQ c f).2≠0
  ·rw[zl b]at h;exact absurd h b
  rw[zj b]at h⊢;split
  ·exact yo _
  exact Dh c f hid (zJ.1 b)
 exact yo _
theorem F4 {c:aS}{l:List bF}(hid:Mh l){nm:ByteArray}{x:It}(h:(cx c l nm x).2=0):(cx c l nm x).1.size<=70000:=by
 obtain⟨d,b⟩:=EX h;rw[b]at h⊢;exact Jh (u9 hid d) h
theorem F5 {c:aS}{l:List bF}(m:∀e∈l,pV e){nm:ByteArray}{x:It}(hx:x.count<=1000000)(r:x.fJ.length<=1000000):(bz c l nm x).1.ok:=by
 by_cases h:(bz c l nm x).2=0
 ·obtain⟨e,o,b,p⟩:=mM h;have j:=m e (j6 o).1;have i:(bQ c e.shape x).1.size<=9223372036854775807:=by
   by_cases k:c.fm=1
   ·unfold bQ at b⊢;rw[zl k]at b⊢;unfold mL at b⊢;by_cases d:iM e.shape x c.it=0
    ·rw[zl d];obtain⟨n,q,_⟩:=BC d;have:=KH x e.shape (jx n).2.1 (rf q).2.2;simp only;rw[bD];omega
    rw[zj d];exact yo _
   rw[(rj k b (by omega)).2,bD];omega
  rw[p];split
  ·exact⟨by simp,by have:=j.name;simp only;omega,i⟩
  exact⟨j.id,by simp,i⟩
 rw[BK h];exact⟨by simp[mw],by simp[mw],by simp[mw]⟩
theorem B5 (b:ByteArray)(k:Nat):b.extract 0 k++b.extract k b.size=b:=aG (by
 rw[ba,aj,aj,cM];simp)
theorem Qt (b:ByteArray)(k j:Nat):b.extract 0 k++(b.extract k b.size).extract 0 j=b.extract 0 (k+j):=aG (by
 rw[ba,aj,aj,aj,aj,cM];simp only[zN];rw[List.take_add])
theorem Qu {c:aS}{l:List bF}{b:ByteArray}(h:(split (aR c l) b).2.2.2=0)(k:Nat):(split (aR c l) (b.extract 0 k)).2.2.2=0:=by
 by_cases d:(split (aR c l) (b.extract 0 k)).2.2.2=0
 ·exact d
 have e:=oz (dJ c l) (b.extract 0 k) (b.extract k b.size);rw[B5,zj d]at e;rw[e]at h;exact absurd h d
theorem F6 {d:Type}(c:Nx d)(x:iI)(s:ByteArray):(l7 c x s).1.told=x.told+(l7 c x s).2.1.length:=by
 by_cases b:x.fault=0
 ·rw[fh b]
 rw[eP b];simp
theorem we (c:aS)(l:List bF)(x:iI)(s:ByteArray):(l7 (aR c l) x s).1.buf.size<=x.buf.size+s.size/\(l7 (aR c l) x s).2.1.length<=x.buf.size+s.size:=by
 by_cases e:x.fault=0
 ·rw[fh e];have d:=Ih c l (x.buf++s);have b:=Ii c l (x.buf++s);rw[bX]at d b;exact⟨b,d⟩
 rw[eP e];exact⟨by simp only;omega,by simp⟩
theorem Qv {c:aS}{l:List bF}(k:cK c l){b:ByteArray}{m:Ms}{r:Nat×Nat}(hid:Mh l)(h:aR c l b=(0,m,r))(q:b.size<=1000000):(bz c l m.name m.x).1.ok:=by
 obtain⟨p,j⟩:=BL (by rw[h]);have d:=pR (c:=c) (l:=l) p;rw[h]at d;have o:(eM c l (aW c b).2.1).2=m:=by injection d with _ d;injection d with d _;exact d.symm
 have e:=uZ k j;rw[o]at e;have hi:=u9 hid (c:=c) (nm:=m.name) (x:=m.x) (by rw[e]);rw[e]at hi⊢;have n:=u' c b (by omega);refine⟨hi, ?_,by simp only at n⊢;omega⟩;by_cases i:c.right=true
 ·rw[bN i];have:=(Bz c b).1;simp only;omega
 unfold aW;rw[zj i];simp[mw]
structure SdV (w V:World)(c:aS)(l:List bF)(v:Value)(nm:ByteArray)(x:It)(Ax:Option Addr)(gM:Nat)(ks:List Nat)(kv:Value):Prop where
 en:rq V w.heap.size v l
 it:bW V w.heap.size x (.string x.text) (.bool x.list) (.slice Ax x.sub.length gM)
 nu:CS V w.heap.size kv ks
 laid:Laid V/\bn V
 siz:w.heap.size+2<=V.heap.size
 bel:Below w.heap.size w V
 cf:af V w.heap.size 24 #[.int .i64 c.fm,.int .u32 c.mg,.int .i64 c.fr,.int .i64 c.un,.int .i64 c.de,.int .i64 c.it]
 ms:af V (w.heap.size+1) 30 #[.string nm,.string x.text,.bool x.list,.slice Ax x.sub.length gM]
theorem SdV.mk' {w W V:World}{c:aS}{l:List bF}{v:Value}{nm:ByteArray}{x:It}{e:Option Addr}{i:Nat}{n:List Nat}{j:Value}(d:(w.alloc (.cells #[.int .i64 c.fm,.int .u32 c.mg,.int .i64 c.fr,.int .i64 c.un,.int .i64 c.de,.int .i64 c.it] 24)).alloc (.cells #[.string nm,.string x.text,.bool x.list,.slice e x.sub.length i] 30)=W)
 (r:rq w w.heap.size v l) (q:bW w w.heap.size x (.string x.text) (.bool x.list) (.slice e x.sub.length i)) (u:CS w w.heap.size j n) (m:Laid w) (k:bn w) (h:Below (w.heap.size+2) W V):SdV w V c l v nm x e i n j:=by
 have hz:W.heap.size=w.heap.size+2:=by rw[<-d];simp
 have p:Below w.heap.size w W:=by rw[<-d];exact((zq _ w).alloc (zi _) _).alloc (by simp) _
 have s:af W w.heap.size 24 #[.int .i64 c.fm,.int .u32 c.mg,.int .i64 c.fr,.int .i64 c.un,.int .i64 c.de,.int .i64 c.it]:=by rw[<-d];exact(af.new w _ _).alloc _
 have o:af W (w.heap.size+1) 30 #[.string nm,.string x.text,.bool x.list,.slice e x.sub.length i]:=by rw[<-d];exact af.at_ (by simp)
 have b:Below w.heap.size w V:=p.trans (h.mono (by omega));exact⟨r.below b,q.below b,u.below b,⟨m.below b m.pos,k.below b k.pos⟩,by have:=h.size;omega,b,s.ag h (by omega),o.ag h (by omega)⟩
theorem dB.dz {w:World}{d hi g:Nat}{b:Value}{c:aS}{l:List bF}{x:iI}{o:Nat}(h:dB w d hi g b c l x o){k:Nat}{t:TypeId}{i:Array Value}(j:af w k t i)(m:t≠5)(p:k≠g):k∉oG g b:=by
 intro n;rcases iy.1 n with e|e
 ·exact p e
 exact h.buf.dh j m e
theorem wg (c:aS)(l:List bF)(v:Value)(nm:ByteArray)(x:It)(ks:List Nat)(kv:Value)(w:World)(c0 c1 c2:Value)(hc:c.ok)(hv:rq w w.heap.size v l)(hid:∀e∈l,e.id<18446744073709551616)(bU:nm.size<=9223372036854775807)(hI:bW w w.heap.size x c0 c1 c2)(hk:CS w w.heap.size kv ks)(ep:∀k∈ks,k<256)(hL:Laid w)(iS:bn w):
 Calls Tryz.prog 3 #[c.val,v,.agg #[.string nm,c0,c1,c2],kv] w fun e w'=>e= .returned (.bool true)/\Below w.heap.size w w':=by
 obtain⟨Av,n,cap,rfl,hn,bZ,lM⟩:=hv.df;obtain⟨Ak,U,nr,rfl,T1,bK,bY⟩:=hk.df;obtain⟨Ax,gM,rfl,rfl,rfl,_⟩:=hI.open_;obtain⟨W,hW⟩:∃W,(w.alloc (.cells #[.int .i64 c.fm,.int .u32 c.mg,.int .i64 c.fr,.int .i64 c.un,.int .i64 c.de,.int .i64 c.it] 24)).alloc (.cells #[.string nm,.string x.text,.bool x.list,.slice Ax x.sub.length gM] 30)=W:=⟨_,rfl⟩
 have VP:W.heap.size=w.heap.size+2:=by rw[<-hW];simp
 have d:Hid (∀V,Below (w.heap.size+2) W V->SdV w V c l (.slice Av n cap) nm x Ax gM ks (.slice Ak U nr)):=za (fun V u=>SdV.mk' hW hv hI hk hL iS u);have HA:=za (T0 W (d.out W (zq _ _)).laid.1 (d.out W (zq _ _)).laid.2);have aY:Hid (KT w.heap.size):=za ⟨hL.pos,iS.pos⟩;have HW:=za hW;have HZ:=za VP;have ax:=za hid;have aK:=za hc;have Lg:=za ep;unfold aS.val;clear hv hI hk ep hL iS hW hid hc lM VP;obtain⟨gr,fE⟩:∃gr,nh l=gr:=⟨_,rfl⟩
 have NO:=za fE;clear fE;go_enter Tryz.func3,Tryz.ntmps3
 go_wp2_with fail
 rw[HW.out];refine HA.out.mono ?_;rintro e w1 ⟨rfl,aI⟩;have cl:Hid (Below (w.heap.size+2) W w1):=za (aI.mono (by have:=HZ.out;omega));have aA:=za (M6 l _ _ w1 (d.out w1 cl.out).en);rw[NO.out]at aA;clear aI HA;obtain⟨q0,q1,q2,Y,q4,R⟩:=fu (d.out w1 cl.out).cf;obtain⟨J,K,O,L,_⟩:=aL (d.out w1 cl.out).ms;have B:=(d.out w1 cl.out).siz;go_wp2_with fail
 refine aA.out.mono ?_;rintro e w' ⟨rfl,I⟩;rw[I];clear I w' aA;cases gr with
 |true=>
  go_wp2;go_ret;exact⟨rfl,(d.out w1 cl.out).bel⟩
 |false=>
  obtain⟨bI,Vt⟩:=M5 NO.out ax.out;have aH:=za Vt;clear bI Vt;by_cases qI:100<nm.size
  ·have bw:(100:Int)<(nm.size:Int):=by omega
   go_wp2;go_ret;exact⟨rfl,(d.out w1 cl.out).bel⟩
  have bw:¬(100:Int)<(nm.size:Int):=by omega
  have aE:=za (Tp x w.heap.size w1 _ _ _ (d.out w1 cl.out).it (by omega));obtain⟨g8,H⟩:∃g8,x.pB=g8:=⟨_,rfl⟩
  rw[H]at aE;have Um:=za H;clear H;go_wp2_with fail
  refine aE.out.mono ?_;rintro e w2 ⟨rfl,aM⟩;have dU:Hid (Below (w.heap.size+2) W w2):=za (cl.out.trans (aM.mono B));clear aM aE;clear q0 q1 q2 Y q4 R J K O L B;cases g8 with
  |true=>
   go_wp2;go_ret;exact⟨rfl,(d.out w2 dU.out).bel⟩
  |false=>
   by_cases Jn:300<U
   ·have bm:(300:Int)<(U:Int):=by omega
    go_wp2;go_ret;exact⟨rfl,(d.out w2 dU.out).bel⟩
   have bm:¬(300:Int)<(U:Int):=by omega
   have Q9:=za (Ma x Um.out);have VJ:=za (rZ x Um.out);have JM:=za (I6 c l _ w.heap.size w2 (d.out w2 dU.out).en (by have:=(d.out w2 dU.out).siz;omega) aH.out);obtain⟨E0,az⟩:∃E0,oL c l=E0:=⟨_,rfl⟩
   rw[az]at JM;have s0:=za az;unfold aS.val at JM;clear az;obtain⟨q0,q1,q2,Y,q4,R⟩:=fu (d.out w2 dU.out).cf;obtain⟨J,K,O,L,_⟩:=aL (d.out w2 dU.out).ms;have B:=(d.out w2 dU.out).siz;go_wp2_with fail
   refine JM.out.mono ?_;rintro e w3 ⟨rfl,bS⟩;have jg:Hid (Below (w.heap.size+2) W w3):=za (dU.out.trans (bS.mono B));clear bS JM;clear q0 q1 q2 Y q4 R J K O L B;rcases eH E0 with⟨h0,z1,z2⟩|⟨h0,z1,z2⟩
   ·subst h0;obtain⟨Vw,_,bC⟩:=O4 s0.out;have HR:=za Vw;have Sw:=za bC;have Q4:Hid (∀V,Below (w.heap.size+2) W V->Calls Tryz.prog 9 #[c.val,.slice Av n cap] V (U7 V c l)):=za (fun V u=>KS c l _ w.heap.size V (d.out V u).en (by have:=(d.out V u).siz;omega) (d.out V u).laid.1 aH.out);unfold aS.val at Q4;clear Vw bC;obtain⟨q0,q1,q2,Y,q4,R⟩:=fu (d.out w3 jg.out).cf;obtain⟨J,K,O,L,_⟩:=aL (d.out w3 jg.out).ms;have B:=(d.out w3 jg.out).siz;go_wp2_with fail
    refine(Q4.out w3 jg.out).mono ?_;rintro e w4 ⟨bP,dG⟩;have dM:Hid (Below (w.heap.size+2) W w4):=za (jg.out.trans (bP.mono B));rcases dG with⟨_,M,N,g1,bj,rfl,NA⟩|⟨ch,_⟩
    ·have Cg:=NA.lohi;have B7:=NA.Lx;have gy:Hid (w.heap.size+2<=M/\M<=N/\N<=g1):=za ⟨by omega,Cg,B7⟩;have UA:=za (vV M N g1 _ c l iI.new 0 nm x w.heap.size w4 _ _ _ aK.out NA (d.out w4 dM.out).it (by have:=(d.out w4 dM.out).siz;omega) (d.out w4 dM.out).laid.1 (d.out w4 dM.out).laid.2 (fun _=>by have:=Q9.out;omega) (F5 aH.out (by have:=VJ.out;omega) (by have:=Q9.out;omega)) (by omega));obtain⟨P,hP⟩:∃P,cx c l nm x=P:=⟨_,rfl⟩
     rw[hP]at UA;have HP:=za hP;obtain⟨b,E⟩:=P;simp only at UA;clear bP NA Cg B7 bj hP;clear q0 q1 q2 Y q4 R J K O L B;obtain⟨q0,q1,q2,Y,q4,R⟩:=fu (d.out w4 dM.out).cf;obtain⟨J,K,O,L,_⟩:=aL (d.out w4 dM.out).ms;have B:=(d.out w4 dM.out).siz;go_wp2_with fail
     refine UA.out.mono ?_;rintro e w5 ⟨rfl,bb,aV⟩;have fZ:Hid (Below (w.heap.size+2) W w5):=za (dM.out.trans (aV.below B (by have:=gy.out;simp;omega)));have Dz:=za bb;clear bb aV UA;clear q0 q1 q2 Y q4 R J K O L B;rcases eH E with⟨h1,u1,u2⟩|⟨h1,u1,u2⟩
     ·subst h1;rw[zl rfl]at Dz;have aN:=F4 ax.out (c:=c) (l:=l) (nm:=nm) (x:=x) (by rw[HP.out]);rw[HP.out]at aN;have aN:b.size<=70000:=aN;obtain⟨y,kk,_,DJ,al,aO⟩:=EZ HR.out Sw.out ax.out (nm:=nm) (x:=x) (by rw[HP.out]) (by have:=Q9.out;omega);rw[HP.out]at DJ aO;simp only at DJ;have Sy:=za DJ;have bH:=za al;have bE:=za aO;clear DJ al aO;obtain⟨q0,q1,q2,Y,q4,R⟩:=fu (d.out w5 fZ.out).cf;obtain⟨J,K,O,L,_⟩:=aL (d.out w5 fZ.out).ms;have B:=(d.out w5 fZ.out).siz;go_wp2_with fail
      refine(Q4.out w5 fZ.out).mono ?_;rintro e w6 ⟨nP,dG⟩;have wL:Hid (Below (w.heap.size+2) W w6):=za (fZ.out.trans (nP.mono B));rcases dG with⟨_,QK,da,g2,bu,rfl,ah⟩|⟨ch,_⟩
      ·have Cg:=ah.lohi;have B7:=ah.Lx;have Y1:=ah.lt;have br:=Dz.out.lt;have aU:=za (Dz.out.below nP);have aQ:=za ah;have a6:Hid (mN (aR c l) iI.new (b.extract 0 0) []):=za (by
        have e:b.extract 0 0=ByteArray.empty:=aG (by rw[aj];simp);rw[e];exact mN.new (dJ c l) (BM HR.out l))
       obtain⟨z,Uc⟩:∃z,w6.heap.size=z:=⟨_,rfl⟩
       have D:Hid (w.heap.size+2<=M/\M<=N/\N<=g1/\g1<QK/\QK<=da/\da<=g2/\g2<z):=za (by have:=gy.out;omega);have bk:=za Uc;have aX:=za (fun bv F (r:ByteArray) V (hs:dB V QK da g2 bv c l F 0) u h1 h2=>vU QK da g2 bv c l F 0 r V HR.out aK.out hs (d.out V u).laid.1 (d.out V u).laid.2 (by have:=aY.out.a;have:=D.out;omega) (by have:=aY.out.b;have:=D.out;omega) h1 h2);have Gy:Hid (∀k,(split (aR c l) (b.extract 0 k)).2.2.2=0):=za (fun k=>Qu (by rw[Sy.out]) k);clear nP ah Cg B7 Y1 br bu Uc Dz Q4;clear q0 q1 q2 Y q4 R J K O L B;go_wp2_with fail
       go_loopw [15,16,17] (fun av sv iv wr=>∃(j k:Nat) (F:iI) (UD:Value) (acc:List Ms),iv= .int .i64 j/\j<=U/\sv= .string (b.extract k b.size)/\k<=b.size/\cP wr (fun i=>z<=i/\UD.ownBlock≠some i) z acc av/\Hid (dB wr QK da g2 UD c l F 0)/\Hid (dB wr M N g1 (.slice none 0 0) c l iI.new (0+1))/\Hid (mN (aR c l) F (b.extract 0 k) acc)/\F.buf.size<=k/\F.told=acc.length/\acc.length<=k/\Hid (Below (w.heap.size+2) W wr)/\z<=wr.heap.size) (fun _ _ iv _=>U-(intOf iv).toNat)
       case atStart=>exact⟨0,0,iI.new,_,[],rfl,by omega,by rw[pr],by omega,cP.nil _ _ _,aQ,aU,a6,yo _,rfl,by simp,wL,by have:=bk.out;omega⟩
       case round=>
        clear aQ aU a6 wL;obtain⟨j,k,F,UD,acc,rfl,hj,rfl,hk,jI,gQ,GV,R6,bB,KZ,wY,po,DB⟩:=hrel;obtain⟨A5,n5,eB,rfl,bR,bN,bQ⟩:=jI.df;have jT:=za jI;obtain⟨r,NK⟩:∃r,b.extract k b.size=r:=⟨_,rfl⟩
        have Oh:Hid (r.size=b.size-k):=za (by rw[<-NK,an _ _ _ (zi _)]);rw[NK];have wN:=za jI.ge;have V1:=za NK;clear jI NK;have wz:(((j:Int)<U/\r.toList.isEmpty=true)\/¬(j:Int)<U)\/(j<U/\r.toList.isEmpty=false):=by
         by_cases h:j<U
         ·cases h2:r.toList.isEmpty
          ·exact .inr ⟨h,rfl⟩
          exact .inl (.inl ⟨by omega,rfl⟩)
         exact .inl (.inr (by omega))
        rcases wz with hw|⟨aD,v3⟩
        ·have aF:Hid (b.extract 0 k++r=b.extract 0 b.size):=za (by rw[<-V1.out,B5,pr]);rcases hw with⟨sX,v3⟩|sX;all_goals
          have B:=(d.out wr po.out).siz;have HF:=za (aX.out UD F (r) wr gQ.out po.out (by have:=Oh.out;omega) (by omega));have C:=R6.out.l7 (dJ c l) (r);rw[aF.out]at C;have ag:=F6 (aR c l) F (r);obtain⟨hZ,af⟩:=we c l F (r);have T8:(l7 (aR c l) F (r)).2.2=0:=by rw[<-A7,C.fault];exact Gy.out _
          obtain⟨X,hX⟩:∃X,l7 (aR c l) F (r)=X:=⟨_,rfl⟩
          rw[hX]at HF C ag hZ af T8;clear hX;obtain⟨y2,fs,er⟩:=X;simp only at HF C ag hZ af T8;subst T8;have R8:=za C;have aa:=za gQ.out.tS;have lg:acc.length+fs.length<=1000000:=by have:=Oh.out;have h5:(r).size<=70000:=(by have:=Oh.out;omega);omega
          clear C;go_wp2_with fail
          refine HF.out.mono ?_;rintro e wa ⟨bz,G,rfl,Gd,QZ,S,Gz⟩;obtain⟨Aa,na,bo,rfl,bA,bD,bh⟩:=Gd.df;have a8:=S.size;have ai:=za (po.out.trans (S.below B (fun i hi=>by have:=aa.out i hi;have:=D.out;omega)));have R9:∀i,(Value.slice A5 n5 eB).ownBlock=some i->i∉oG g2 UD:=fun i e=>by
           obtain⟨t1,t2,aJ,t3⟩:=jT.out.typed i e;exact gQ.out.dz t3 (by decide) (by have:=D.out;omega)
          have GA:=jT.out.fW (S1:=fun i=>(z<=i/\UD.ownBlock≠some i)/\G.ownBlock≠some i) (fun i hi hS=>⟨hS,fun e=>by
           rcases Gz i e with h|h
           ·exact hS.2 h
           omega⟩) (zi z)
          have GB:=GA.only S (fun i hi hS=>by
           rcases iy.1 hi with h|h
           ·have:=hS.1.1;have:=D.out;omega
           exact hS.1.2 h) (fun i hi e=>R9 i e hi)
          have JP:Hid (cP wa (fun i=>z<=i/\G.ownBlock≠some i) z acc (.slice A5 n5 eB)):=za (GB.fW (fun i _ hS=>⟨hS.1.1,hS.2⟩) (zi z));have R7:Hid (dB wa M N g1 (.slice none 0 0) c l iI.new (0+1)):=za (GV.out.only S (fun i hi=>by have:=aa.out i hi;have:=D.out;exact⟨by omega,by omega,by intro e;cases e⟩));have ab:=za QZ;have ak:=za Gd;have Ly:z<=wa.heap.size:=by omega
          have Q8:=za (fun i e=>JP.out.typed i e);clear Gd QZ S Gz R9 GA GB HF jT gQ GV po R6 aa;go_wp2_with (at_builtin;refine Hid.out ?_)
          refine za ?_;refine jC (by rfl) (.tmp 119) (.tmp 120) (by rfl) (fun i=>z<=i/\G.ownBlock≠some i) (fun i=>wr.heap.size<=i/\G.ownBlock≠some i) z wr.heap.size acc fs (by rfl) JP.out (by rfl) ak.out (fun i h=>⟨by have:=h.1;omega,h.2⟩) (fun i e h=>by have:=(wN.out i e).2;have:=h.1;omega) lg Ly ?_;intro A6 n6 eK A V0 Uu H aB;have Z:∀i,i∈(Value.slice A5 n5 eB).ownBlock.toList->z<=i/\G.ownBlock≠some i:=fun i hi=>by
           obtain⟨t1,t2,aJ,t3⟩:=Q8.out i (cJ.1 hi);exact⟨t1,ab.out.buf.dh t3 (by decide)⟩
          have UB:=za Uu;have UC:Hid (dB A QK da g2 G c l y2 0):=za (ab.out.only (ae.cX H) (fun i hi=>by have:=Z i hi;have:=D.out;exact⟨by omega,by omega,(Z i hi).2⟩));have aP:Hid (dB A M N g1 (.slice none 0 0) c l iI.new (0+1)):=za (R7.out.only (ae.cX H) (fun i hi=>by have:=Z i hi;have:=D.out;exact⟨by omega,by omega,by intro e;cases e⟩));have AX:Hid (Below (w.heap.size+2) W A):=za (ai.out.trans ((ae.cX H).below (by omega) (fun i hi=>by have:=Z i hi;have:=D.out;omega)));have bg:z<=A.heap.size:=by have:=H.size;omega
          clear Uu H aB Z JP R7 ab ak ai Q8;have C:=R8.out;rw[pr]at C;have qJ:=C.told;have ay:=C.buf (by rw[C.fault,Sy.out]);rw[Sy.out]at qJ ay;simp only at qJ ay;have bp:acc.length+fs.length=1:=by have:=xj List.length qJ;rw[zo]at this;simpa using this
          have bq:n6=1:=by rw[V0.out,qJ];rfl
          subst bq;have a':y2.told=1:=by omega
          have aW:y2.buf.size=0:=by rw[ay];rfl
          rw[qJ]at UB;have Vd:(aR c l b).1=0/\(aR c l b).2.1=⟨nm,y⟩:=by
           have e:=ik (dJ c l) b;rw[Sy.out]at e;by_cases h0:(aR c l b).1=0
           ·rw[zl h0]at e;have e1:=xj Prod.fst e;simp[Sz.cons]at e1;exact⟨h0,e1.1.symm⟩
           rw[zj h0]at e;have e1:=xj Prod.fst e;simp at e1
          have rM:=za Vd;obtain⟨A',aq,bd,_,b1,KY⟩:=CJ.reads (UB.out.fW (S1:=(z<= ·)) (fun _ _ h=>h.1) (zi _));injection bd with hv8a hv8l hv8b;clear hv8l;subst hv8a hv8b;obtain⟨s,o,d0,d1,d2,d3,bl,VG,f0,f1,f2,f3,tY⟩:=KY.at_ 0 (by simp);subst bl;obtain⟨Ay,JL,rfl,rfl,rfl,rfl,_⟩:=tY.open_;simp at f0 f1 f2 f3;have wF:s<A.heap.size:=lt_of_cell f0;have bO:z<=s:=VG;have Uf:=za tY;have a7:Hid (∀V:World,V.cell? ⟨s,o,none⟩=A.cell? ⟨s,o,none⟩->V.cell? ⟨s,o+1,none⟩=A.cell? ⟨s,o+1,none⟩->V.cell? ⟨s,o+2,none⟩=A.cell? ⟨s,o+2,none⟩->V.cell? ⟨s,o+3,none⟩=A.cell? ⟨s,o+3,none⟩->V.cell? ⟨s,o,none⟩=some (.string nm)/\V.cell? ⟨s,o+1,none⟩=some (.string y.text)/\V.cell? ⟨s,o+2,none⟩=some (.bool y.list)/\V.cell? ⟨s,o+3,none⟩=some (.slice Ay y.sub.length JL)):=za (fun V h0 h1 h2 h3=>⟨h0.trans f0,h1.trans f1,h2.trans f2,h3.trans f3⟩);have au:=za (qt QK da g2 G c l y2 0 A UC.out);have ao:=za (Qo QK da g2 G c l y2 0 A UC.out);rw[aW]at au;rw[a']at ao;clear C qJ ay bp a' aW hZ ag Vd KY VG tY R8 V0 B lg af KZ bB wY a8 Ly;obtain⟨q0,q1,q2,Y,q4,R⟩:=fu (d.out A AX.out).cf;obtain⟨J,K,O,L,_⟩:=aL (d.out A AX.out).ms;have B:=(d.out A AX.out).siz;by_cases ad:c.fm=1
          ·have kc:((c.fm:Int) !=1)=false:=by rw[ad];rfl
           have aw:s≠g1:=by have:=D.out;omega
           have UE:=za (vV M N g1 (.slice none 0 0) c l iI.new (0+1) nm y A.heap.size A _ _ _ aK.out aP.out (Uf.out.2.2.Aj) (zi _) (d.out A AX.out).laid.1 (d.out A AX.out).laid.2 (fun h=>absurd ad h) (by
            have:=Qv Sw.out (m:=⟨nm,y⟩) (r:=(aR c l b).2.2) ax.out (b:=b) (by rw[<-rM.out.1,<-rM.out.2]) (by omega);exact this) (by omega))
           rw[bE.out]at UE;simp only at UE;go_wp2_with fail
           refine au.out.mono ?_;rintro e w' ⟨rfl,I⟩;rw[<-I];clear I w' au;go_wp2_with fail
           refine ao.out.mono ?_;rintro e w' ⟨rfl,I⟩;rw[<-I];clear I w' ao;go_wp2_with fail
           refine UE.out.mono ?_;rintro e w9 ⟨rfl,bs,mi⟩;have aC:Hid (Below (w.heap.size+2) W w9):=za (AX.out.trans (mi.below B (by have:=D.out;simp;omega)));have bV:=mi.size;have bJ:=za (a7.out w9 (mi.cell (p:=⟨s,o,none⟩) (by simpa using wF) (by simpa using aw)) (mi.cell (p:=⟨s,o+1,none⟩) (by simpa using wF) (by simpa using aw)) (mi.cell (p:=⟨s,o+2,none⟩) (by simpa using wF) (by simpa using aw)) (mi.cell (p:=⟨s,o+3,none⟩) (by simpa using wF) (by simpa using aw)));have bx:s<w9.heap.size:=by omega
           clear bs mi UE f0 f1 f2 f3 ad;clear q0 q1 q2 Y q4 R J K O L B;have aZ:=(d.out w9 aC.out).siz;go_wp2_with fail
           refine fP (by kernel_rfl) (by kernel_rfl) ?_;refine ar (.int .i64 0) (by rfl) (fun _ _=>by first|rfl|go_simp) ?_;simp only[Act.put,zb,ze,zf];refine ar (.bool true) (by rfl) (fun _ _=>by first|rfl|go_simp) ?_;simp only[Act.put,zb,ze,zf];refine ar (.bool true) (by rfl) (fun _ _=>by first|rfl|go_simp) ?_;simp only[Act.put,zb,ze,zf];refine ar (.string b) (by rfl) (fun _ _=>by first|rfl|go_simp) ?_;simp only[Act.put,zb,ze,zf];refine ar (.string b) (by rfl) (fun _ _=>by first|rfl|go_simp) ?_;simp only[Act.put,zb,ze,zf];refine ar (.bool true) (by rfl) (fun _ _=>by first|rfl|go_simp) ?_;simp only[Act.put,zb,ze,zf];refine ar (.bool true) (by rfl) (fun _ _=>by first|rfl|go_simp) ?_;simp only[Act.put,zb,ze,zf];refine ar (.bool true) (by rfl) (fun _ _=>by first|rfl|go_simp) ?_;simp only[Act.put,zb,ze,zf];refine ar (.slice (some ⟨s,o,none⟩) 1 eK) (by rfl) (fun _ _=>by first|rfl|go_simp) ?_;simp only[Act.put,zb,ze,zf];refine ar (.pointer (some ⟨s,o,none⟩)) (by rfl) (fun _ _=>by first|rfl|go_simp) ?_;simp only[Act.put,zb,ze,zf];refine ar (.pointer (some ⟨s,o,none⟩)) (by rfl) (fun _ _=>by first|rfl|go_simp) ?_;simp only[Act.put,zb,ze,zf];refine ar (.string nm) (by rfl) (fun V u=>by have f0:=(u.cell (p:=⟨s,o,none⟩) bx).trans bJ.out.1;go_simp) ?_;simp only[Act.put,zb,ze,zf];refine ar (.pointer (some ⟨w.heap.size+1,0,none⟩)) (by rfl) (fun _ _=>by first|rfl|go_simp) ?_;simp only[Act.put,zb,ze,zf]
           refine ar (.string nm) (by rfl) (fun V u=>by have J:=(d.out V (aC.out.trans (u.mono aZ))).ms.cell 0;go_simp) ?_;simp only[Act.put,zb,ze,zf];refine ar (.bool true) (by rfl) (fun _ _=>by first|rfl|go_simp) ?_;simp only[Act.put,zb,ze,zf];refine ar (.bool true) (by rfl) (fun _ _=>by first|rfl|go_simp) ?_;simp only[Act.put,zb,ze,zf];refine ar (.bool true) (by rfl) (fun _ _=>by first|rfl|go_simp) ?_;simp only[Act.put,zb,ze,zf];refine xN ?_;intro V u;have JI:=za (d.out V (aC.out.trans (u.mono aZ))).bel;go_wp2;go_ret;exact⟨rfl,JI.out⟩
          have kc:((c.fm:Int) !=1)=true:=yP.2 ad;have al:=bH.out ad;have bc:Hid (∀V,Below A.heap.size A V->Calls Tryz.prog 15 #[.agg #[.string nm,.string y.text,.bool y.list,.slice Ay y.sub.length JL],.agg #[.string nm,.string x.text,.bool x.list,.slice Ax x.sub.length gM]] V fun e w'=>e= .returned (.bool true)/\Below V.heap.size V w'):=za (fun V u=>by
           refine(FR nm nm y x A.heap.size V _ _ _ _ _ _ ((Uf.out.2.2.Aj).below u) (((d.out A AX.out).it.mono (by omega)).below u) u.size).mono ?_;rintro e w' ⟨⟨r,rfl,hr⟩,hb⟩;obtain rfl:r=true:=hr.2 ⟨rfl,al⟩;exact⟨rfl,hb⟩)
          have aT:=B;clear ad al;go_wp2_with fail
          refine au.out.mono ?_;rintro e w' ⟨rfl,I⟩;rw[<-I];clear I w' au;go_wp2_with fail
          refine ao.out.mono ?_;rintro e w' ⟨rfl,I⟩;rw[<-I];clear I w' ao f0 f1 f2 f3;go_wp2_with fail
          refine fP (by kernel_rfl) (by kernel_rfl) ?_;refine ar (.slice (some ⟨s,o,none⟩) 1 eK) (by rfl) (fun _ _=>by first|rfl|go_simp) ?_;simp only[Act.put,zb,ze,zf];refine ar (.pointer (some ⟨s,o,none⟩)) (by rfl) (fun _ _=>by first|rfl|go_simp) ?_;simp only[Act.put,zb,ze,zf];refine ar (.agg #[.string nm,.string y.text,.bool y.list,.slice Ay y.sub.length JL]) (by rfl) (fun V u=>by obtain⟨f0,f1,f2,f3⟩:=a7.out V (u.cell (p:=⟨s,o,none⟩) wF) (u.cell (p:=⟨s,o+1,none⟩) wF) (u.cell (p:=⟨s,o+2,none⟩) wF) (u.cell (p:=⟨s,o+3,none⟩) wF);go_simp) ?_;simp only[Act.put,zb,ze,zf];refine ar (.agg #[.string nm,.string x.text,.bool x.list,.slice Ax x.sub.length gM]) (by rfl) (fun V u=>by obtain⟨J,K,O,L,_⟩:=aL (d.out V (AX.out.trans (u.mono aT))).ms;go_simp) ?_;simp only[Act.put,zb,ze,zf];refine eE 15 _ (.bool true) (by rfl) (fun _=>by first|rfl|go_simp) (fun V u=>bc.out V u) ?_;simp only[Act.put,zb,ze,zf];refine ar (.bool true) (by rfl) (fun _ _=>by first|rfl|go_simp) ?_;simp only[Act.put,zb,ze,zf];refine xN ?_;intro V u;have JI:=za (d.out V (AX.out.trans (u.mono aT))).bel;go_wp2;go_ret;exact⟨rfl,JI.out⟩
        have sX:(j:Int)<U:=by omega
        have tZ:j<ks.length:=by rw[<-T1.out];exact aD
        obtain⟨gk,ok,bG,bL,e0⟩:=(d.out wr po.out).nu.at_ tZ;subst bG;have hq:=Lg.out _ (zM tZ);obtain⟨q,ba⟩:∃q,ks[j]=q:=⟨_,rfl⟩
        rw[ba]at e0 hq;have B:=(d.out wr po.out).siz;obtain⟨k2,ep⟩:∃k2,min q r.size=k2:=⟨_,rfl⟩
        have bX:min (q:Int) (r.size:Int)=(k2:Int):=by omega
        have b0:(k2:Int)<=r.size:=by omega
        have bt:k2<=r.size:=by omega
        have NG:k+k2<=b.size:=by have:=Oh.out;omega
        have bM:r.size<=70000:=by have:=Oh.out;omega
        have aF:Hid (b.extract 0 k++r.extract 0 k2=b.extract 0 (k+k2)):=za (by rw[<-V1.out,Qt]);have bf:Hid (r.extract k2 r.size=b.extract (k+k2) b.size):=za (by
         have h1:=Oh.out;rw[<-V1.out,an _ _ _ (zi _),tA _ _ _ _ (by omega)];congr 1;omega)
        have Ru:Hid ((r.extract 0 k2).size=k2):=za (by rw[an _ _ _ bt];rfl);clear ba ep;have B:=(d.out wr po.out).siz;have HF:=za (aX.out UD F (r.extract 0 k2) wr gQ.out po.out (by have:=Ru.out;have:=Oh.out;omega) (by omega));have C:=R6.out.l7 (dJ c l) (r.extract 0 k2);rw[aF.out]at C;have ag:=F6 (aR c l) F (r.extract 0 k2);obtain⟨hZ,af⟩:=we c l F (r.extract 0 k2);have T8:(l7 (aR c l) F (r.extract 0 k2)).2.2=0:=by rw[<-A7,C.fault];exact Gy.out _
        obtain⟨X,hX⟩:∃X,l7 (aR c l) F (r.extract 0 k2)=X:=⟨_,rfl⟩
        rw[hX]at HF C ag hZ af T8;clear hX;obtain⟨y2,fs,er⟩:=X;simp only at HF C ag hZ af T8;subst T8;have R8:=za C;have aa:=za gQ.out.tS;have lg:acc.length+fs.length<=1000000:=by have:=Oh.out;have h5:(r.extract 0 k2).size<=70000:=(by have:=Ru.out;omega);omega
        clear C;go_wp2_with fail
        refine HF.out.mono ?_;rintro e wa ⟨bz,G,rfl,Gd,QZ,S,Gz⟩;obtain⟨Aa,na,bo,rfl,bA,bD,bh⟩:=Gd.df;have a8:=S.size;have ai:=za (po.out.trans (S.below B (fun i hi=>by have:=aa.out i hi;have:=D.out;omega)));have R9:∀i,(Value.slice A5 n5 eB).ownBlock=some i->i∉oG g2 UD:=fun i e=>by
         obtain⟨t1,t2,aJ,t3⟩:=jT.out.typed i e;exact gQ.out.dz t3 (by decide) (by have:=D.out;omega)
        have GA:=jT.out.fW (S1:=fun i=>(z<=i/\UD.ownBlock≠some i)/\G.ownBlock≠some i) (fun i hi hS=>⟨hS,fun e=>by
         rcases Gz i e with h|h
         ·exact hS.2 h
         omega⟩) (zi z)
        have GB:=GA.only S (fun i hi hS=>by
         rcases iy.1 hi with h|h
         ·have:=hS.1.1;have:=D.out;omega
         exact hS.1.2 h) (fun i hi e=>R9 i e hi)
        have JP:Hid (cP wa (fun i=>z<=i/\G.ownBlock≠some i) z acc (.slice A5 n5 eB)):=za (GB.fW (fun i _ hS=>⟨hS.1.1,hS.2⟩) (zi z));have R7:Hid (dB wa M N g1 (.slice none 0 0) c l iI.new (0+1)):=za (GV.out.only S (fun i hi=>by have:=aa.out i hi;have:=D.out;exact⟨by omega,by omega,by intro e;cases e⟩));have ab:=za QZ;have ak:=za Gd;have Ly:z<=wa.heap.size:=by omega
        have Q8:=za (fun i e=>JP.out.typed i e);clear Gd QZ S Gz R9 GA GB HF jT gQ GV po R6 aa;go_wp2_with (at_builtin;refine Hid.out ?_)
        refine za ?_;refine jC (by rfl) (.tmp 107) (.tmp 108) (by rfl) (fun i=>z<=i/\G.ownBlock≠some i) (fun i=>wr.heap.size<=i/\G.ownBlock≠some i) z wr.heap.size acc fs (by rfl) JP.out (by rfl) ak.out (fun i h=>⟨by have:=h.1;omega,h.2⟩) (fun i e h=>by have:=(wN.out i e).2;have:=h.1;omega) lg Ly ?_;intro A6 n6 eK A V0 Uu H aB;have Z:∀i,i∈(Value.slice A5 n5 eB).ownBlock.toList->z<=i/\G.ownBlock≠some i:=fun i hi=>by
         obtain⟨t1,t2,aJ,t3⟩:=Q8.out i (cJ.1 hi);exact⟨t1,ab.out.buf.dh t3 (by decide)⟩
        have UB:=za Uu;have UC:Hid (dB A QK da g2 G c l y2 0):=za (ab.out.only (ae.cX H) (fun i hi=>by have:=Z i hi;have:=D.out;exact⟨by omega,by omega,(Z i hi).2⟩));have aP:Hid (dB A M N g1 (.slice none 0 0) c l iI.new (0+1)):=za (R7.out.only (ae.cX H) (fun i hi=>by have:=Z i hi;have:=D.out;exact⟨by omega,by omega,by intro e;cases e⟩));have AX:Hid (Below (w.heap.size+2) W A):=za (ai.out.trans ((ae.cX H).below (by omega) (fun i hi=>by have:=Z i hi;have:=D.out;omega)));have bg:z<=A.heap.size:=by have:=H.size;omega
        clear Uu H aB Z JP R7 ab ak ai Q8;have bT:=bf.out;go_wp2;go_roundw
        case rel=>exact⟨j+1,k+k2,y2,G,acc++fs,by go_num,by omega,rfl,NG,UB.out,UC,aP,R8,by have:=Ru.out;omega,by rw[zo];omega,by have h5:=Ih c l (b.extract 0 (k+k2));rw[an _ _ _ NG]at h5;rw[R8.out.told];omega,AX,by omega⟩
        case measure=>simp[intOf];omega
      exact absurd s0.out ch
     have NN:=Mg (c:=c) (l:=l) (nm:=nm) (x:=x) (by rw[HP.out];exact h1);rw[HP.out]at NN;have NN:b=⟨#[]⟩:=NN;subst NN;have a1:=za (Qp M N g1 _ c l _ _ w5 Dz.out);rw[zj h1]at a1;go_wp2_with fail
     refine a1.out.mono ?_;rintro e w6 ⟨rfl,rfl⟩;go_wp2;go_ret;exact⟨rfl,(d.out w5 fZ.out).bel⟩
    exact absurd s0.out ch
   go_wp2;go_ret;exact⟨rfl,(d.out w3 jg.out).bel⟩
