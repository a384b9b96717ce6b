/- hatchwaylaw26.alive. -/
import Derived.Test.YtimoclkoflamkaaGreatDoorKA41
import Derived.Test.YtimoclkoflamkaaGreatDoorKA44
set_option linter.all false
set_option maxRecDepth 100000
set_option maxHeartbeats 16000000
open Go.Proofs.Tryz
namespace Go.Proofs.YtimoclkoflamkaaGreatDoor
open Go.RowKit
variable {w:World}{v:Value}{n:Int}{H:Type}{base:Nat}{held:Bool}
theorem S4 :∃k,kT (aQ cS [bE]) ⟨⟨#[2,5]⟩,0,2,0⟩ ⟨#[7]⟩=(⟨ByteArray.empty,0,1+k,1⟩,[⟨⟨#[112,105,110,103]⟩,dh⟩],0):=by
 obtain⟨b,_,d⟩:=CT EJ;obtain⟨y,k,i,_,h,_⟩:=wR (nm:=⟨#[112,105,110,103]⟩) (x:=dh) b d Wo (by rw[lB]) (by rw[nY];simp);obtain rfl:=h (by decide);have c:=i ByteArray.empty;rw[lB,dv (dz _ _) (oz b _)]at c;refine⟨k, ?_⟩;have e:(⟨#[2,5]⟩:ByteArray)++(⟨#[7]⟩:ByteArray)=(⟨#[2,5,7]⟩:ByteArray)++ByteArray.empty:=by decide
 rw[gA rfl];simp only;rw[e,c];simp[Xp.cons];rfl
theorem Pu :dh.may=true:=by decide+kernel
theorem Wt (w:World)(d:Laid w)(l:aW w):Calls prog 6 #[] w fun e w'=>e= .returned true/\(w,w'):=by
 obtain⟨W,k⟩:=dY (w.alloc (.cells #[.int .u64 5,.string ⟨#[112,105,110,103]⟩,.string ⟨#[117,56]⟩] 63));have h:Below w.heap.size w W:=by rw[<-k];exact(zi _ w).alloc (ze _) _
 have Ch:w.heap.size<W.heap.size:=by rw[<-k];simp
 have q:af W w.heap.size 63 #[.int .u64 5,.string ⟨#[112,105,110,103]⟩,.string ⟨#[117,56]⟩]:=by rw[<-k];exact af.new _ _ _
 have pr:oA W W.heap.size (.slice (some (w.heap.size,0)) 1 1) [bE]:=⟨_,1,rfl,by simp,by simp,fun j hj=>by
  obtain rfl:j=0:=by simp at hj;omega
  exact⟨_,_,rfl,by omega,q.cell 0,q.cell 1,q.cell 2⟩⟩
 have E:=za (EG cS [bE] _ W.heap.size W pr (ze _) (d.below h d.pos) (by
  intro e c;obtain rfl:=yE.1 c;exact⟨by decide,by simp[bE,ByteArray.size],by simp[bE,ByteArray.size]⟩) EJ 100 (by decide))
 have o:=za (And.intro (d.below h d.pos) (l.below h l.pos));have QC:Hid (iS w.heap.size):=za ⟨d.pos,l.pos⟩;have HW:=za k;have ic:=za h;have S:=za (CT EJ).1;clear k h q pr d l;unfold cS aF.val at E;rw[show((100:Nat):Int)=100 from rfl]at E;go_enter func6,ntmps6
 go_wp2_with fail
 rw[HW.out];refine E.out.mono ?_;rintro e D ⟨L,V,rfl,jv,s,Tv,Y⟩;have cr:=za (ic.out.trans (s.mono (by omega)));have K:=za (And.intro (o.out.1.below s o.out.1.pos) (o.out.2.below s o.out.2.pos));have b:=za (QC.out.up (show w.heap.size<=L.p by omega));have R:Hid (gp D L V (fun _=>False) cS [bE] dJ.new):=za jv;have A:=za (Ie L V _ cS [bE] dJ.new 0 (by decide) ⟨#[112,105,110,103]⟩ dh L.p _ _ _ D R.out AU K.out b.out (Di D _ ⟨#[7]⟩ false (by simp[ByteArray.size])) (ze _) (by decide) (by decide) (fun _=>by rw[nY];simp) (by rw[rD];exact⟨by decide,by decide,by decide⟩) (by rw[lB];decide));have n:Ps L cS [bE] dJ.new 0 ⟨#[112,105,110,103]⟩ dh=0:=by
  unfold Ps;rw[lB,Y];rfl
 have hN:XQ L cS [bE] dJ.new 0 ⟨#[112,105,110,103]⟩ dh=3:=by
  unfold XQ;rw[n,lB];rfl
 rw[n,hN]at A;have O:Hid (∀st,(dJ.new.send L cS [bE] 0 ⟨#[112,105,110,103]⟩ dh st).way 1=⟨#[2,5,7]⟩/\(dJ.new.send L cS [bE] 0 ⟨#[112,105,110,103]⟩ dh st).x 1=gW.new/\(dJ.new.send L cS [bE] 0 ⟨#[112,105,110,103]⟩ dh st).got 1= []):=za fun st=>by
  unfold dJ.send;rw[n,lB];refine⟨?_,rfl,rfl⟩;show(if(0:Int)=0 then gj dJ.new.way 1 (ByteArray.empty++⟨#[2,5,7]⟩)else dJ.new.way) 1=_
  rw[zg rfl,bp];decide
 clear jv s n hN Y;go_wp2_with fail
 refine A.out.mono ?_;rintro e w2 ⟨V2,st,rfl,-,p,dW⟩;obtain⟨z,J⟩:=R.out.after dW K.out b.out;obtain⟨d1,d2,d3⟩:=O.out st;obtain⟨i,aa⟩:=dY (dJ.new.send L cS [bE] 0 ⟨#[112,105,110,103]⟩ dh st);rw[aa]at d1 d2 d3 p;have dt:Hid (w,w2):=za (cr.out.trans (J.mono (by omega)));have Xm:=za z;have U:=za p;have G:=za (AV L V2 _ cS [bE] i 1 (by decide) 2 2 (by rw[d1];rfl) w2 p S.out AU z b.out (by rw[d2];rfl) (by rw[d2];decide) (by rw[d2];decide) (by rw[d1,d2,d3];rw[show(⟨#[2,5,7]⟩:ByteArray).extract 0 2=⟨#[2,5]⟩from by decide,AT];decide));have H:Hid ((i.move cS [bE] 1 2).way 1=⟨#[7]⟩/\(i.move cS [bE] 1 2).x 1=⟨⟨#[2,5]⟩,0,2,0⟩/\(i.move cS [bE] 1 2).got 1= []):=za (by
  unfold dJ.move;simp only[bp];rw[d1,d2,d3,show(⟨#[2,5,7]⟩:ByteArray).extract 0 2=⟨#[2,5]⟩from by decide,AT];exact⟨by decide,rfl,rfl⟩)
 rw[d1,d2,show(⟨#[2,5,7]⟩:ByteArray).extract 0 2=⟨#[2,5]⟩from by decide,AT]at G;clear d1 d2 d3 aa p dW z J A O;go_wp2_with fail
 refine G.out.mono ?_;rintro e w3 ⟨V3,rfl,y,I⟩;obtain⟨F,M⟩:=U.out.after I Xm.out b.out;obtain⟨d1,d2,d3⟩:=H.out;obtain⟨Z,ab⟩:=dY (i.move cS [bE] 1 2);rw[ab]at d1 d2 d3 y;obtain⟨kk,r⟩:=S4;have c:(⟨#[7]⟩:ByteArray).extract 0 1=⟨#[7]⟩:=by decide
 have fT:Hid (w,w3):=za (dt.out.trans (M.mono (by have:=U.out.places;omega)));have C:=za (AV L V3 _ cS [bE] Z 1 (by decide) 9 1 (by rw[d1];rfl) w3 y S.out AU F b.out (by rw[d2]) (by rw[d2];decide) (by rw[d2];decide) (by rw[d1,d2,d3,c,r];show 0+1<=1000000;decide));have m:Hid ((Z.move cS [bE] 1 1).got 1= [⟨⟨#[112,105,110,103]⟩,dh⟩]):=za (by
  unfold dJ.move;simp only[bp];rw[d1,d2,d3,c,r];rfl)
 rw[d1,d2,c,r]at C;have X:=za y;have ad:=za F;clear d1 d2 d3 ab y I F M G H r c;go_wp2_with fail
 refine C.out.mono ?_;rintro e w4 ⟨V4,rfl,M6,Bz⟩;have dK:Hid (w,w4):=za (fT.out.trans ((X.out.after Bz ad.out b.out).2.mono (by have:=X.out.places;omega)));have B:=za (EA L V4 _ cS [bE] _ 1 (by decide) w4 M6 (by rw[m.out];intro x hx;obtain rfl:=yE.1 hx;exact Pu) (by rw[m.out];simp));rw[m.out]at B;clear M6 Bz C m;go_wp2_with fail
 refine B.out.mono ?_;rintro e w5 ⟨u,rfl,hu,N⟩;obtain⟨gg,cap,c1,c2,c3,rfl,_,e0,_⟩:=hu.2 _ rfl;have fC:Hid (w,w5):=za (dK.out.trans (N.mono dK.out.size));clear hu N B;go_wp2;go_ret;exact⟨rfl,fC.out⟩
structure PtV (w V:World)(c:aF)(l:List aV)(v:Value)(qf:List GN)(av:Value):Prop where
 en:oA V w.heap.size v l
 ac:OH V w.heap.size av qf
 laid:Laid V/\aW V
 siz:w.heap.size+1<=V.heap.size
 bel:Below w.heap.size w V
 cf:af V w.heap.size 24 #[c.fm,.int .u32 c.mg,c.fr,c.un,c.de,c.it]
theorem PtV.mk' {W V:World}{c:aF}{l:List aV}{j:List GN}{k:Value}(e:w.alloc (.cells #[c.fm,.int .u32 c.mg,c.fr,c.un,c.de,c.it] 24)=W)
 (m:oA w w.heap.size v l) (o:OH w w.heap.size k j) (i:Laid w) (h:aW w) (d:Below (w.heap.size+1) W V):PtV w V c l v j k:=by
 have hz:W.heap.size=w.heap.size+1:=by rw[<-e];simp
 have p:Below w.heap.size w W:=by rw[<-e];exact(zi _ w).alloc (ze _) _
 have n:af W w.heap.size 24 #[c.fm,.int .u32 c.mg,c.fr,c.un,c.de,c.it]:=by rw[<-e];exact af.new w _ _
 have b:Below w.heap.size w V:=p.trans (d.mono (by omega));exact⟨m.below b,o.below b,⟨i.below b i.pos,h.below b h.pos⟩,by have:=d.size;omega,b,n.ah d (by omega)⟩
theorem Il (c:aF)(l:List aV)(v:Value)(qf:List GN)(av:Value)(w:World)(hc:c.ok)(hv:oA w w.heap.size v l)(hid:∀e∈l,e.id<18446744073709551616)(ao:OH w w.heap.size av qf)(hL:Laid w)(gz:aW w):
 Calls prog 4 #[c.val,v,av] w fun e w'=>e= .returned true/\(w,w'):=by
 obtain⟨Av,n,cap,rfl,hn,PC,jf⟩:=hv.bK;obtain⟨Aa,na,aU,rfl,ay,bh,bl⟩:=ao.bK;obtain⟨W,hW⟩:=dY (w.alloc (.cells #[c.fm,.int .u32 c.mg,c.fr,c.un,c.de,c.it] 24));have Ch:W.heap.size=w.heap.size+1:=by rw[<-hW];simp
 have z:Hid (∀V,Below (w.heap.size+1) W V->PtV w V c l (.slice Av n cap) qf (.slice Aa na aU)):=za (fun V b=>PtV.mk' hW hv ao hL gz b);have HA:=za (Wt W (z.out W (zi _ _)).laid.1 (z.out W (zi _ _)).laid.2);have QC:Hid (iS w.heap.size):=za ⟨hL.pos,gz.pos⟩;have HW:=za hW;have HZ:=za Ch;have ax:=za hid;have aO:=za hc;unfold aF.val;clear hv ao hL gz hW hid hc jf Ch;obtain⟨gr,dM⟩:=dY (kI l);have PR:=za dM;clear dM;go_enter func4,ntmps4
 go_wp2_with fail
 rw[HW.out];refine HA.out.mono ?_;rintro e w1 ⟨rfl,aK⟩;have cr:Hid (Below (w.heap.size+1) W w1):=za (aK.mono (by have:=HZ.out;omega));have an:=za (De l _ _ w1 (z.out w1 cr.out).en);rw[PR.out]at an;clear aK HA;obtain⟨q0,q1,q2,q3,q4,q5⟩:=fy (z.out w1 cr.out).cf;have dZ:=(z.out w1 cr.out).siz;go_wp2_with fail
 refine an.out.mono ?_;rintro e w' ⟨rfl,Bt⟩;rw[Bt];clear Bt w' an;cases gr with
 |true=>
  go_wp2;go_ret;exact⟨rfl,(z.out w1 cr.out).bel⟩
 |false=>
  have ar:=za (sY PR.out ax.out).2;have au:=za (OI qf _ w.heap.size w1 (z.out w1 cr.out).ac (by omega));obtain⟨g8,QD⟩:=dY (tV qf);rw[QD]at au;have YZ:=za QD;clear QD;go_wp2_with fail
  refine cm au.out fun w2 aI=> ?_
  have dt:Hid (Below (w.heap.size+1) W w2):=za (cr.out.trans (aI.mono dZ));clear aI au;clear q0 q1 q2 q3 q4 q5 dZ;cases g8 with
  |true=>
   go_wp2;go_ret;exact⟨rfl,(z.out w2 dt.out).bel⟩
  |false=>
   obtain⟨a8,Qx⟩:=R8 YZ.out;have HG:=za Qx;have ba:na<=60:=by have:=ay.out;omega
   clear a8 Qx;have P0:=za (AM c l _ w.heap.size w2 (z.out w2 dt.out).en (by have:=(z.out w2 dt.out).siz;omega) ar.out);obtain⟨E0,al⟩:=dY (mF c l);rw[al]at P0;have u9:=za al;unfold aF.val at P0;clear al;obtain⟨q0,q1,q2,q3,q4,q5⟩:=fy (z.out w2 dt.out).cf;have dZ:=(z.out w2 dt.out).siz;go_wp2_with fail
   refine cm P0.out fun w3 bL=> ?_
   have fT:Hid (Below (w.heap.size+1) W w3):=za (dt.out.trans (bL.mono dZ));clear bL P0;clear q0 q1 q2 q3 q4 q5 dZ;rcases eR E0 with⟨h0,z1,z2⟩|⟨h0,z1,z2⟩
   ·subst h0;obtain⟨Ng,_,bG⟩:=CT u9.out;have HE:Hid (TkE c l):=za ⟨aO.out,Ng,bG,ax.out,ar.out⟩;have Nc:=za (EG c l _ w.heap.size w3 (z.out w3 fT.out).en (by have:=(z.out w3 fT.out).siz;omega) (z.out w3 fT.out).laid.1 ar.out u9.out 1048576 (ze _));unfold aF.val at Nc;rw[show((1048576:Nat):Int)=1048576 from rfl]at Nc;obtain⟨q0,q1,q2,q3,q4,q5⟩:=fy (z.out w3 fT.out).cf;have dZ:=(z.out w3 fT.out).siz;go_wp2_with fail
    refine Nc.out.mono ?_;rintro e w4 ⟨L,V,rfl,Bv,cP,Tv,UZ⟩;have dK:Hid (Below (w.heap.size+1) W w4):=za (fT.out.trans (cP.mono dZ));have lI:Hid (w.heap.size+1<=L.p):=za (by omega);obtain⟨W5,ee⟩:=dY (w4.alloc (.cells #[nS,nS] 48));have fk:Below w4.heap.size w4 W5:=by rw[<-ee];exact(zi _ w4).alloc (ze _) _
    have K9:W5.heap.size=w4.heap.size+1:=by rw[<-ee];simp
    have hP:MU W5 w.heap.size w4.heap.size L V (fun _=>nS) c l dJ.new (fun _=> []) (fun _=> []) 0:=by
     refine⟨XR (Bv.grow (ae.ai fk (ze _)) (by simp) fun k hk=> ?_) Ng (z.out W5 (dK.out.trans (fk.mono (by have:=(z.out w4 dK.out).siz;omega)))).laid (QC.out.up (by omega)) UZ,by rw[<-ee];exact af.new _ _ _,fun _ _=>bA.nil _ _ _,fun k e=>(by cases e),by omega⟩;rcases hk with rfl|e|e
     ·exact⟨.inr (ze _),by omega⟩
     ·cases e
     cases e
    have fC:Hid (Below (w.heap.size+1) W W5):=za (dK.out.trans (fk.mono (by have:=(z.out w4 dK.out).siz;omega)));have Z:=za hP;have mz:=za ee;clear Bv cP Tv UZ Nc fk K9 hP Ng bG ee dK;clear q0 q1 q2 q3 q4 q5 dZ;go_wp2_with fail
    rw[mz.out];clear mz;generalize w4.heap.size=F at*;go_loopw [10] (fun i wr=>∃k:Nat,k<=na/\i= .int .i64 k/\∃V T ad sn D,MU wr w.heap.size F L V T c l ad sn D k/\(∀j,j<2->Ij c (D j) (sn j))/\Below (w.heap.size+1) W wr) (fun i _=>na-(intOf i).toNat)
    case atStart=>exact⟨0,by omega,rfl,_,_,_,_,_,Z.out,fun _ _=>⟨rfl,fun _=>rfl⟩,fC.out⟩
    case round=>
     clear Z fC V;obtain⟨k,hk,rfl,V,T,ad,sn,D,hp,uw,X⟩:=hrel;have HR:=za uw;clear uw;have Z:=za hp;have HB:=za X;by_cases aD:k<na
     ·have kN:k<qf.length:=by rw[<-ay.out];exact aD
      obtain⟨g,o,c0,c1,c2,rfl,hg,⟨a0,a1,a2,a3,a4,a5,a6,a7⟩,hi,K8⟩:=(z.out wr X).ac.at_ kN;obtain⟨y,hy⟩:=dY qf[k];have Qx:=HG.out qf[k] (zA kN);rw[hy]at a0 a1 a2 a3 a7 hi K8 Qx;obtain⟨I,J,rfl,rfl,rfl,_⟩:=hi.open_;obtain⟨W1,Cb⟩:=dY (wr.alloc (.cells #[.int .u8 y.kind,y.side,y.n,y.name,y.x.text,y.x.list,.slice I y.x.sub.length J,y.s] 50));have aK:Below wr.heap.size wr W1:=by rw[<-Cb];exact(zi _ wr).alloc (ze _) _
      have ah:Hid (af W1 wr.heap.size 50 #[.int .u8 y.kind,y.side,y.n,y.name,y.x.text,y.x.list,.slice I y.x.sub.length J,y.s]):=za (by rw[<-Cb];exact af.new _ _ _);have dZ:=(z.out wr X).siz;have C:=za (hp.below aK);have aB:Hid (Below (w.heap.size+1) W W1):=za (X.trans (aK.mono dZ));have HI:=za (hi.below (aK.mono (by omega)));have HK:=za K8;have HX:=za Qx;have gw:=za Cb;clear hp X hy hi K8 Qx Cb aK Z HB;have Ld:k<=60:=by omega
      obtain⟨j,hj,aJ⟩:=Ws y.side;by_cases Qi:y.kind%5<2
      ·have rH:(y.kind:Int)%5<2:=by omega
       have Fe:=za (Ii C.out.tk HE.out Ld j hj y.name y.x w.heap.size _ _ _ HI.out C.out.low HX.out);go_wp2_with fail
       rw[gw.out];clear a0 a1 a2 a3 a4 a5 a6 a7 gw;refine Fe.out.mono ?_;rintro e d ⟨V',D',m,E,y',rfl,Bo,K,aH⟩;have p:=za (C.out.step K Bo);have O:Hid (Below (w.heap.size+1) W d):=za (aB.out.trans ((C.out.tk.ps.after K C.out.tk.la C.out.tk.lo).2.mono lI.out));have ai:Hid (af d wr.heap.size 50 #[.int .u8 y.kind,y.side,y.n,y.name,y.x.text,y.x.list,.slice I y.x.sub.length J,y.s]):=za (ah.out.only K.only (by simpa using C.out.tk.ps.pP ah.out (by decide) (by decide) (by decide) (by decide)));have aR:=K;clear Bo K Fe;rcases eR E with⟨h0,z1,z2⟩|⟨h0,z1,z2⟩
       ·subst h0;rw[zg rfl]at p;have ak:=za (fun U (hU:Below d.heap.size d U)=>(HI.out.below ((C.out.tk.ps.after aR C.out.tk.la C.out.tk.lo).2.mono C.out.low)).below (hU.mono (by have:=p.out.tk.ps.places;have:=p.out.low;omega)));have bc:IntKind.i64.wrap 1=1:=rfl;have bj:IntKind.i64.wrap 0=0:=rfl;obtain⟨i,hi⟩:=dY (1-j);rw[hi]at p;have cV:i<2:=by omega
        obtain⟨aa,hR⟩:=dY (T i).ownBlock.toList;have py:=za hR;have Qm:Hid (F∉aa/\wr.heap.size∉aa):=za (by
         rw[<-hR];refine⟨fun hm=>(p.out.own cV (aM.1 hm)).2 rfl,fun hm=> ?_⟩;obtain⟨_,_,bd,hc⟩:=(p.out.ac i cV).typed _ (aM.1 hm);exact(hc.neT ai.out (by decide)) rfl)
        have Y:Hid (∀U,ae aa d U->(U,F,i,T i)/\(U,wr.heap.size,3,y.name)/\(U,wr.heap.size,4,y.x.text)/\(U,wr.heap.size,5,y.x.list)/\(U,wr.heap.size,6,Value.slice I y.x.sub.length J)/\U.frozen? (F,i)=false):=za fun U hU=>by
         have h1:=p.out.sb.only hU Qm.out.1;have h2:=ai.out.only hU Qm.out.2;rcases(by omega:i=0\/i=1)with rfl|rfl
         ·exact⟨h1.cell 0,h2.cell 3,h2.cell 4,h2.cell 5,h2.cell 6,h1.frozen 0⟩
         exact⟨h1.cell 1,h2.cell 3,h2.cell 4,h2.cell 5,h2.cell 6,h1.frozen 1⟩
        have UX:Hid (ae aa d d.drew):=za (ae.refl _ _).drew;obtain⟨ti,Bs⟩:=dY (T i);have M:=za Bs;rw[Bs]at Y;clear Bs hR;rcases(by omega:j=0/\i=1\/j=1/\i=0)with⟨rfl,rfl⟩|⟨rfl,rfl⟩
        ·clear hi cV hj aJ;go_wp2_with fail
         have hHeld:=Y.out _ UX.out;refine Uu Y.out 11 (by kernel_rfl) (by kernel_rfl) ?_;refine GT.iv [0,1,2,3,4,5,6,7] hHeld (fun _ _ _ _ _ h=>h) (by kernel_rfl) ?_;repeat(refine .c rfl rfl (fun V b=>by go_simp<;>with_reducible rfl) ?_;simp only[Act.put,zb,zc,zd])
         refine .nil ?_;refine GT.fx 8 (fun ab hK=> ?_) rfl (by kernel_rfl);go_simp;obtain⟨G,NG⟩:=dY (d.alloc (.cells #[y.name,y.x.text,y.x.list,.slice I y.x.sub.length J] 30)).drew;have H:Below d.heap.size d G:=by rw[<-NG];exact((zi _ d).alloc (ze _) _).drew
         have NH:af G d.heap.size 30 #[y.name,y.x.text,y.x.list,.slice I y.x.sub.length J]:=by rw[<-NG];exact(af.new _ _ _).drew
         rw[NG];have Uq:ae aa d G:=(ae.ai H (ze _)).mono (by simp);refine hK.out _ _ (Y.out G Uq) (fun hHeld=> ?_);clear hK ab;try simp only[Act.put,zb,zc,zd]
         refine GT.fx 9 (fun ab hK=> ?_) rfl (by kernel_rfl);have aT:=p.out.tk.ps.places;have Jb:=za (bA.below (by have:=p.out.ac 1 (by decide);rwa [M.out]at this) H:bA G (· <w.heap.size) L.base (D 1) ti);have Ci:=za H;have aZ:=H.size;have Y3:nC G (fun q=>q<w.heap.size/\ti.ownBlock≠some q) ⟨y.name,y.x⟩ y.name y.x.text y.x.list (.slice I y.x.sub.length J):=⟨rfl,HK.out.name,(bH.toS _ (ak.out G H)).eG fun q _ A=>⟨A,fun e=>by have:=(Jb.out.ge q e).1;have:=p.out.low;omega⟩⟩
         have Up:(D 1).length<=1000000:=by have:=(HR.out 1 (by decide)).len;have:=C.out.tk.sn 1 (by decide);omega
         refine lC (by rfl) (.tmp 76) (.tmp 79) (by rfl) (· <w.heap.size) L.base (D 1) (by rfl) Jb.out ⟨y.name,y.x⟩ Y3 _ (by rfl) ⟨NH.cell 0,NH.cell 1,NH.cell 2,NH.cell 3⟩ Up (by omega) ?_;intro g' n' aj R Tn QD dM bZ;have PV:Hid (ae aa d R):=za (Uq.trans ((ae.cn dM).mono fun q A=>by rw[<-py.out,M.out];exact A));have DC:=za (p.out.app (i:=1) (v:= .slice (some (g',0)) n' aj) (r:=D 1++ [⟨y.name,y.x⟩]) (by decide) Ci.out (by rw[M.out];exact dM) QD (fun q e=>by
          have e:g'=q:=by simpa[Value.ownBlock]using e
          subst e;rw[M.out];exact bZ))
         refine hK.out _ _ (Y.out R PV.out) (fun hHeld=> ?_);clear hK ab;try simp only[Act.put,zb,zc,zd]
         refine GT.iv [10] hHeld (fun _ _ _ _ _ h=>h) (by kernel_rfl) ?_;refine .c rfl rfl (fun V b=>by go_simp<;>with_reducible rfl) ?_;simp only[Act.put,zb,zc,zd];refine .nil ?_;refine GT.oF 11 ?_ rfl (by kernel_rfl);clear QD dM bZ H NH Uq Y3 NG;go_simp;have N:Hid (Below (w.heap.size+1) W (R.setCell (F,1) (.slice (some (g',0)) n' aj))):=za (O.out.trans ((PV.out.below (by have:=p.out.tk.ps.places;have:=lI.out;omega) (fun q A=>by
          rw[<-py.out,M.out]at A;have:=(Jb.out.ge q (aM.1 A)).1;have:=p.out.tk.ps.places;have:=lI.out;omega)).setCell (by have:=(p.out.tk.ps.frg F (.inl rfl)).1;have:=p.out.tk.ps.places;have:=lI.out;show _<=F;omega) _))
         have P0:Hid (∀q,q<2->Ij c (gj D 1 (D 1++ [⟨y.name,y.x⟩]) q) (gj sn 1 (sn 1++ [⟨y.name,y'⟩]) q)):=za fun q A=>by
          by_cases eq:q=1
          ·subst eq;rw[bp,bp];exact(HR.out _ A).snoc aH
          rw[aS _ _ eq,aS _ _ eq];exact HR.out q A
         obtain⟨B,Nj⟩:=dY (R.setCell (F,1) (.slice (some (g',0)) n' aj));rw[Nj]at DC N⊢;clear Nj PV Jb Ci ak Y M py UX ai O p C ah HI HK HX;go_wp2;go_roundw
         case rel=>exact⟨k+1,by omega,by go_num,_,_,_,_,_,DC.out,P0.out,N.out⟩
         case measure=>simp[intOf];omega
        clear hi cV hj aJ;go_wp2_with fail
        have hHeld:=Y.out _ UX.out;refine Uu Y.out 11 (by kernel_rfl) (by kernel_rfl) ?_;refine GT.iv [0,1,2,3,4,5,6,7] hHeld (fun _ _ _ _ _ h=>h) (by kernel_rfl) ?_;repeat(refine .c rfl rfl (fun V b=>by go_simp<;>with_reducible rfl) ?_;simp only[Act.put,zb,zc,zd])
        refine .nil ?_;refine GT.fx 8 (fun ab hK=> ?_) rfl (by kernel_rfl);go_simp;obtain⟨G,NG⟩:=dY (d.alloc (.cells #[y.name,y.x.text,y.x.list,.slice I y.x.sub.length J] 30)).drew;have H:Below d.heap.size d G:=by rw[<-NG];exact((zi _ d).alloc (ze _) _).drew
        have NH:af G d.heap.size 30 #[y.name,y.x.text,y.x.list,.slice I y.x.sub.length J]:=by rw[<-NG];exact(af.new _ _ _).drew
        rw[NG];have Uq:ae aa d G:=(ae.ai H (ze _)).mono (by simp);refine hK.out _ _ (Y.out G Uq) (fun hHeld=> ?_);clear hK ab;try simp only[Act.put,zb,zc,zd]
        refine GT.fx 9 (fun ab hK=> ?_) rfl (by kernel_rfl);have aT:=p.out.tk.ps.places;have Jb:=za (bA.below (by have:=p.out.ac 0 (by decide);rwa [M.out]at this) H:bA G (· <w.heap.size) L.base (D 0) ti);have Ci:=za H;have aZ:=H.size;have Y3:nC G (fun q=>q<w.heap.size/\ti.ownBlock≠some q) ⟨y.name,y.x⟩ y.name y.x.text y.x.list (.slice I y.x.sub.length J):=⟨rfl,HK.out.name,(bH.toS _ (ak.out G H)).eG fun q _ A=>⟨A,fun e=>by have:=(Jb.out.ge q e).1;have:=p.out.low;omega⟩⟩
        have Up:(D 0).length<=1000000:=by have:=(HR.out 0 (by decide)).len;have:=C.out.tk.sn 0 (by decide);omega
        refine lC (by rfl) (.tmp 76) (.tmp 79) (by rfl) (· <w.heap.size) L.base (D 0) (by rfl) Jb.out ⟨y.name,y.x⟩ Y3 _ (by rfl) ⟨NH.cell 0,NH.cell 1,NH.cell 2,NH.cell 3⟩ Up (by omega) ?_;intro g' n' aj R Tn QD dM bZ;have PV:Hid (ae aa d R):=za (Uq.trans ((ae.cn dM).mono fun q A=>by rw[<-py.out,M.out];exact A));have DC:=za (p.out.app (i:=0) (v:= .slice (some (g',0)) n' aj) (r:=D 0++ [⟨y.name,y.x⟩]) (by decide) Ci.out (by rw[M.out];exact dM) QD (fun q e=>by
         have e:g'=q:=by simpa[Value.ownBlock]using e
         subst e;rw[M.out];exact bZ))
        refine hK.out _ _ (Y.out R PV.out) (fun hHeld=> ?_);clear hK ab;try simp only[Act.put,zb,zc,zd]
        refine GT.iv [10] hHeld (fun _ _ _ _ _ h=>h) (by kernel_rfl) ?_;refine .c rfl rfl (fun V b=>by go_simp<;>with_reducible rfl) ?_;simp only[Act.put,zb,zc,zd];refine .nil ?_;refine GT.oF 11 ?_ rfl (by kernel_rfl);clear QD dM bZ H NH Uq Y3 NG;go_simp;have N:Hid (Below (w.heap.size+1) W (R.setCell (F,0) (.slice (some (g',0)) n' aj))):=za (O.out.trans ((PV.out.below (by have:=p.out.tk.ps.places;have:=lI.out;omega) (fun q A=>by
         rw[<-py.out,M.out]at A;have:=(Jb.out.ge q (aM.1 A)).1;have:=p.out.tk.ps.places;have:=lI.out;omega)).setCell (by have:=(p.out.tk.ps.frg F (.inl rfl)).1;have:=p.out.tk.ps.places;have:=lI.out;show _<=F;omega) _))
        have P0:Hid (∀q,q<2->Ij c (gj D 0 (D 0++ [⟨y.name,y.x⟩]) q) (gj sn 0 (sn 0++ [⟨y.name,y'⟩]) q)):=za fun q A=>by
         by_cases eq:q=0
         ·subst eq;rw[bp,bp];exact(HR.out _ A).snoc aH
         rw[aS _ _ eq,aS _ _ eq];exact HR.out q A
        obtain⟨B,Nj⟩:=dY (R.setCell (F,0) (.slice (some (g',0)) n' aj));rw[Nj]at DC N⊢;clear Nj PV Jb Ci ak Y M py UX ai O p C ah HI HK HX;go_wp2;go_roundw
        case rel=>exact⟨k+1,by omega,by go_num,_,_,_,_,_,DC.out,P0.out,N.out⟩
        case measure=>simp[intOf];omega
       rw[zf h0]at p;go_wp2;go_roundw
       case rel=>exact⟨k+1,by omega,by go_num,_,_,_,_,_,p.out,HR.out,O.out⟩
       case measure=>simp[intOf];omega
      have rH:¬((y.kind:Int)%5<2):=by omega
      obtain⟨mm,Qn⟩:∃mm:Nat,max y.n 0=(mm:Int):=⟨(max y.n 0).toNat,by omega⟩
      have Qb:=za (rE C.out.tk HE.out Ld j hj mm);go_wp2_with fail
      rw[gw.out];clear a0 a1 a2 a3 a4 a5 a6 a7 gw;refine Qb.out.mono ?_;rintro e d ⟨V',D',m,rfl,Bo,K,-⟩;have p:=za (C.out.step K (Bo.more (Nat.le_succ k)));have O:Hid (Below (w.heap.size+1) W d):=za (aB.out.trans ((C.out.tk.ps.after K C.out.tk.la C.out.tk.lo).2.mono lI.out));clear Bo K Qb;go_wp2;go_roundw
      case rel=>exact⟨k+1,by omega,by go_num,_,_,_,_,_,p.out,HR.out,O.out⟩
      case measure=>simp[intOf];omega
     have Ld:k<=60:=by omega
     go_wp2_with fail
     go_loopw [17] (fun i wr=>∃s:Nat,s<=2/\i= .int .i64 s/\∃V ad,MU wr w.heap.size F L V T c l ad sn D k/\Below (w.heap.size+1) W wr) (fun i _=>2-(intOf i).toNat)
     case atStart=>exact⟨0,by omega,rfl,_,_,Z.out,HB.out⟩
     case round=>
      clear Z HB V ad hp X;obtain⟨s,hs,rfl,V,ad,hp,X⟩:=hrel;have Z:=za hp;have HB:=za X;by_cases BD:s<2
      ·have Qb:=za (rE hp.tk HE.out Ld s BD 1048576);rw[show((1048576:Nat):Int)=1048576 from rfl]at Qb;clear hp X;go_wp2_with fail
       refine Qb.out.mono ?_;rintro e d ⟨V',D',m,rfl,Bo,K,-,La⟩;obtain⟨g1,g2,g3,g4⟩:=Bo.got HE.out BD (La (ze _));have UH:=La (ze _);have p:=za (Z.out.step K Bo);have O:Hid (Below (w.heap.size+1) W d):=za (HB.out.trans ((Z.out.tk.ps.after K Z.out.tk.la Z.out.tk.lo).2.mono lI.out));have Xo:=za (EA L V' _ c l D' s BD d p.out.tk.ps (by rw[g1];exact g4) (by rw[g1];have:=p.out.tk.sn s BD;omega));rw[g1]at Xo;have aw:=za (fun U (hU:Below d.heap.size d U)=>Wr L V' _ c l D' s BD U (p.out.tk.ps.below hU));have Lu:=za (fun U (hU:Below d.heap.size d U)=>Ig L V' _ c l D' s BD U (p.out.tk.ps.below hU));have PM:=za (fun U (hU:Below d.heap.size d U)=>Dj L V' _ c l D' s BD U (p.out.tk.ps.below hU));rw[UH]at aw;rw[g2]at Lu;rw[g3]at PM;rw[show((ByteArray.empty.size:Nat):Int)=0 from rfl]at aw Lu;clear Bo K La g1 g2 g3 g4 UH Qb;go_wp2_with fail
       refine Xo.out.mono ?_;rintro e G ⟨u,rfl,hu,H⟩;have aP:=za hu.1;have Ci:=za H;obtain⟨A7,n7,Xn,rfl,az,bm,bb⟩:=bA.bK hu.1;clear hu H Xo;go_wp2_with fail
       refine cm (aw.out G Ci.out) fun R Ww=> ?_
       have P6:Hid (Below d.heap.size d R):=za (Ci.out.trans (Ww.mono Ci.out.size));go_wp2_with fail
       refine cm (Lu.out R P6.out) fun B rT=> ?_
       have N:Hid (Below d.heap.size d B):=za (P6.out.trans (rT.mono P6.out.size));go_wp2_with fail
       refine Rt (PM.out B N.out) ?_;have DC:=za (p.out.below N.out);have a':=za ((aP.out.below Ww).below rT);clear Ww rT;obtain⟨At,nt,IS,WY,aL,bf,bk⟩:=bA.bK (DC.out.ac s BD);have aX:n7=nt:=by have:=(HR.out s BD).len;have:=az.out;have:=aL.out;omega
       subst aX;have aG:B.cell? (F,s)=some (.slice At n7 IS):=by
        rw[<-WY];rcases(by omega:s=0\/s=1)with rfl|rfl
        ·exact DC.out.sb.cell 0
        exact DC.out.sb.cell 1
       obtain⟨_,_,_,h1,_,_,_,aN⟩:=bA.reads a'.out (S:=fun _=>True) (fun _ _=>trivial) (fun _ _=>trivial);injection h1 with hA1 Bc oe;clear Bc oe;subst hA1;have aq:=DC.out.ac s BD;rw[WY]at aq;obtain⟨_,_,_,h2,_,_,_,aA⟩:=bA.reads aq (S:=fun _=>True) (fun _ _=>trivial) (fun _ _=>trivial);injection h2 with hA2 Bc oe;clear Bc oe;subst hA2;have aQ:=za aN;have TE:=za aA;have s9:=za aG;clear aN aA aq WY;go_wp2_with fail
       clear aG;go_loopw [21] (fun i wr=>∃q:Nat,q<=n7/\i= .int .i64 q/\Below B.heap.size B wr) (fun i _=>n7-(intOf i).toNat)
       case atStart=>exact⟨0,by omega,rfl,zi _ _⟩
       case round=>
        obtain⟨q,A,rfl,rT⟩:=hrel;have Ff:=za rT;by_cases bg:q<n7
        ·have u':q<(sn s).length:=by have:=az.out;omega
         have aC:q<(D s).length:=by have:=aL.out;omega
         obtain⟨b1,o1,d0,d1,d2,d3,rfl,-,f0,f1,f2,f3,dN⟩:=aQ.out.at_ q u';obtain⟨b2,o2,e0,e1,e2,e3,rfl,-,g0,g1,g2,g3,pj⟩:=TE.out.at_ q aC;obtain⟨x,hx⟩:=dY (sn s)[q];obtain⟨y,hy⟩:=dY (D s)[q];have uw:=HR.out s BD;have M3:y.name=x.name:=by
          rw[<-hx,<-hy];have h:=yi (fun l=>l[q]?) uw.1;simpa[u',aC]using h
         have aE:c.fm≠1->y=x:=fun hc=>by
          rw[<-hx,<-hy];exact List.getElem_of_eq (uw.2 hc) _
         rw[hx]at dN;rw[hy]at pj;obtain⟨I,J,rfl,rfl,rfl,rfl,_⟩:=dN.open_;obtain⟨Ay,Lt,rfl,rfl,rfl,rfl,_⟩:=pj.open_;simp only[zK]at f0 f1 f2 f3 g0 g1 g2 g3;have Fq:b1<B.heap.size:=lt_of_cell f0;have s8:b2<B.heap.size:=lt_of_cell g0;have Fb:Hid (∀V,Below wr.heap.size wr V->Below B.heap.size B V):=za fun V b=>Ff.out.trans (b.mono Ff.out.size)
         have HX:Hid (∀V,Below B.heap.size B V->(V,b1,o1+q*4,x.name)/\(V,b1,o1+q*4+1,x.x.text)/\(V,b1,o1+q*4+2,x.x.list)/\(V,b1,o1+q*4+3,Value.slice I x.x.sub.length J)):=za fun V b=>⟨(b.cell Fq).trans f0,(b.cell Fq).trans f1,(b.cell Fq).trans f2,(b.cell Fq).trans f3⟩
         have HY:Hid (∀V,Below B.heap.size B V->(V,b2,o2+q*4,x.name)/\(V,b2,o2+q*4+1,y.x.text)/\(V,b2,o2+q*4+2,y.x.list)/\(V,b2,o2+q*4+3,Value.slice Ay y.x.sub.length Lt)):=za fun V b=>⟨(b.cell s8).trans (by rw[<-M3];exact g0),(b.cell s8).trans g1,(b.cell s8).trans g2,(b.cell s8).trans g3⟩
         have QB:Hid (∀V,Below B.heap.size B V->V.cell? (F,s)=some (.slice (some (b2,o2)) n7 IS)):=za fun V b=>(b.cell (lt_of_cell s9.out)).trans s9.out
         have WT:Hid (∀V,Below B.heap.size B V->V.cell? (w.heap.size,0)=some (.int .i64 c.fm)):=za fun V b=>(fy (z.out V (O.out.trans ((N.out.trans (b.mono N.out.size)).mono (by have:=(z.out d O.out).siz;omega)))).cf).1
         obtain⟨kb,kc⟩:=dY ((c.fm:Int) !=1);have aY:Hid (kb=true->∀V,Below wr.heap.size wr V->Calls prog 19 #[.agg #[x.name,x.x.text,x.x.list,.slice I x.x.sub.length J],.agg #[x.name,y.x.text,y.x.list,.slice Ay y.x.sub.length Lt]] V fun e w'=>e= .returned true/\(V,w')):=za fun hk V b=>by
          have b:=Fb.out V b;have e:y=x:=aE (by rw[<-kc]at hk;simpa using hk);refine(Ik x.name x.name x.x y.x B.heap.size V _ _ _ _ _ _ (dN.2.2.uL.below b) (pj.2.2.uL.below b) b.size).mono ?_;rintro e' w' ⟨⟨r,rfl,hr⟩,X⟩;obtain rfl:r=true:=hr.2 ⟨rfl,by rw[e]⟩;exact⟨rfl,X⟩
         clear f0 f1 f2 f3 g0 g1 g2 g3 dN pj hx hy uw aE M3 rT;go_wp2_with fail
         refine fX (by kernel_rfl) (by kernel_rfl) ?_;refine ag (.slice (some (b1,o1)) n7 Xn) (by rfl) (fun _ _=>by first|rfl|go_simp) ?_;simp only[Act.put,zb,zc,zd];refine ag (.int .i64 q) (by rfl) (fun _ _=>by first|rfl|go_simp) ?_;simp only[Act.put,zb,zc,zd];refine ag (.pointer (some (b1,o1+q*4))) (by rfl) (fun _ _=>by first|rfl|go_simp) ?_;simp only[Act.put,zb,zc,zd];refine ag (.pointer (some (b1,o1+q*4))) (by rfl) (fun _ _=>by first|rfl|go_simp) ?_;simp only[Act.put,zb,zc,zd];refine ag (.string x.name) (by rfl) (fun V b=>by have f0:=(HX.out V (Fb.out V b)).1;go_simp) ?_;simp only[Act.put,zb,zc,zd];refine ag (.int .i64 s) (by rfl) (fun _ _=>by first|rfl|go_simp) ?_;simp only[Act.put,zb,zc,zd];refine ag (.pointer (some (F,s))) (by rfl) (fun _ _=>by first|rfl|go_simp) ?_;simp only[Act.put,zb,zc,zd];refine ag (.slice (some (b2,o2)) n7 IS) (by rfl) (fun V b=>by have f0:=QB.out V (Fb.out V b);go_simp) ?_;simp only[Act.put,zb,zc,zd];refine ag (.int .i64 q) (by rfl) (fun _ _=>by first|rfl|go_simp) ?_;simp only[Act.put,zb,zc,zd];refine ag (.pointer (some (b2,o2+q*4))) (by rfl) (fun _ _=>by first|rfl|go_simp) ?_;simp only[Act.put,zb,zc,zd];refine ag (.pointer (some (b2,o2+q*4))) (by rfl) (fun _ _=>by first|rfl|go_simp) ?_;simp only[Act.put,zb,zc,zd];refine ag (.string x.name) (by rfl) (fun V b=>by have f0:=(HY.out V (Fb.out V b)).1;go_simp) ?_;simp only[Act.put,zb,zc,zd];refine ag (.bool false) (by rfl) (fun _ _=>by first|rfl|go_simp) ?_;simp only[Act.put,zb,zc,zd]
         refine ag (.bool false) (by rfl) (fun _ _=>by first|rfl|go_simp) ?_;simp only[Act.put,zb,zc,zd];refine ag (.pointer (some (w.heap.size,0))) (by rfl) (fun _ _=>by first|rfl|go_simp) ?_;simp only[Act.put,zb,zc,zd];refine ag (.int .i64 c.fm) (by rfl) (fun V b=>by have f0:=WT.out V (Fb.out V b);go_simp) ?_;simp only[Act.put,zb,zc,zd];refine ag (.bool kb) (by rfl) (fun _ _=>by first|rfl|go_simp) ?_;simp only[Act.put,zb,zc,zd];cases kb with
         |false=>
          refine uN false 12 (by kernel_rfl) (fun _ _=>by go_simp) (by kernel_rfl) ?_;intro r9 b9 X7 rT;simp only[zV,zG]at X7;simp only[Mg,Act.put,zb,zc,zd]at rT;subst X7 rT;refine ag (.bool false) (by rfl) (fun _ _=>by first|rfl|go_simp) ?_;simp only[Act.put,zb,zc,zd];refine ag (.bool false) (by rfl) (fun _ _=>by first|rfl|go_simp) ?_;simp only[Act.put,zb,zc,zd];refine xr ?_;intro V b;have IL:=za (Fb.out V b);go_wp2;go_roundw
          case rel=>exact⟨q+1,by omega,by go_num,IL.out⟩
          case measure=>simp[intOf];omega
         |true=>
          refine ag (.bool true) (by rfl) (fun _ _=>by first|rfl|go_simp) ?_;simp only[Act.put,zb,zc,zd];refine ag (.slice (some (b1,o1)) n7 Xn) (by rfl) (fun _ _=>by first|rfl|go_simp) ?_;simp only[Act.put,zb,zc,zd];refine ag (.int .i64 q) (by rfl) (fun _ _=>by first|rfl|go_simp) ?_;simp only[Act.put,zb,zc,zd];refine ag (.pointer (some (b1,o1+q*4))) (by rfl) (fun _ _=>by first|rfl|go_simp) ?_;simp only[Act.put,zb,zc,zd];refine ag (.agg #[x.name,x.x.text,x.x.list,.slice I x.x.sub.length J]) (by rfl) (fun V b=>by obtain⟨f0,f1,f2,f3⟩:=HX.out V (Fb.out V b);go_simp) ?_;simp only[Act.put,zb,zc,zd];refine ag (.int .i64 s) (by rfl) (fun _ _=>by first|rfl|go_simp) ?_;simp only[Act.put,zb,zc,zd];refine ag (.pointer (some (F,s))) (by rfl) (fun _ _=>by first|rfl|go_simp) ?_;simp only[Act.put,zb,zc,zd];refine ag (.slice (some (b2,o2)) n7 IS) (by rfl) (fun V b=>by have f0:=QB.out V (Fb.out V b);go_simp) ?_;simp only[Act.put,zb,zc,zd];refine ag (.int .i64 q) (by rfl) (fun _ _=>by first|rfl|go_simp) ?_;simp only[Act.put,zb,zc,zd];refine ag (.pointer (some (b2,o2+q*4))) (by rfl) (fun _ _=>by first|rfl|go_simp) ?_;simp only[Act.put,zb,zc,zd];refine ag (.agg #[x.name,y.x.text,y.x.list,.slice Ay y.x.sub.length Lt]) (by rfl) (fun V b=>by obtain⟨f0,f1,f2,f3⟩:=HY.out V (Fb.out V b);go_simp) ?_;simp only[Act.put,zb,zc,zd];refine eN 19 _ (.bool true) (by rfl) (fun _=>by first|rfl|go_simp) (fun V b=>aY.out rfl V b) ?_;simp only[Act.put,zb,zc,zd]
          refine ag (.bool false) (by rfl) (fun _ _=>by first|rfl|go_simp) ?_;simp only[Act.put,zb,zc,zd];refine ag (.bool false) (by rfl) (fun _ _=>by first|rfl|go_simp) ?_;simp only[Act.put,zb,zc,zd];refine ag (.bool false) (by rfl) (fun _ _=>by first|rfl|go_simp) ?_;simp only[Act.put,zb,zc,zd];refine xr ?_;intro V b;have IL:=za (Fb.out V b);go_wp2;go_roundw
          case rel=>exact⟨q+1,by omega,by go_num,IL.out⟩
          case measure=>simp[intOf];omega
        clear rT;go_wp2;go_roundw
        case rel=>exact⟨s+1,by omega,by go_num,_,_,DC.out.below Ff.out,O.out.trans ((N.out.trans (Ff.out.mono N.out.size)).mono (by have:=(z.out d O.out).siz;omega))⟩
        case measure=>simp[intOf];omega
      clear hp X;go_wp2;go_ret;exact⟨rfl,(z.out wr HB.out).bel⟩
   go_wp2;go_ret;exact⟨rfl,(z.out w3 fT.out).bel⟩
theorem Im (c:aF)(l:List aV)(u:Value)(i:List GN)(b:Value)(W:World)(m:c.ok)(d:oA W W.heap.size u l/\∀e∈l,sZ e)(k:OH W W.heap.size b i)(h:Laid W/\aW W):
 Calls prog 4 #[c.val,u,b] W fun e w'=>e= .returned true/\(W,w'):=
 Il c l u i b W m d.1 (fun e j=>(d.2 e j).id) k h.1 h.2
open Go.ChangeShapes Go.WideShapes Go.ChangeAt Go.RowKit
theorem uq :prog.cellsOf 50=8:=by kernel_rfl
theorem nZ :prog.cellsOf 5=1/\prog.cellsOf 3=1/\prog.cellsOf 9=1:=⟨by kernel_rfl,by kernel_rfl,by kernel_rfl⟩
theorem S5 (h:(Lit.int .i64 n).wf=true): -9223372036854775808<=n/\n<=9223372036854775807:=by
 simpa[Lit.wf,IntKind.min,IntKind.max,IntKind.signed,IntKind.bits]using h
theorem abr (h:(Lit.int .u8 n).wf=true):∃k:Nat,n=(k:Int)/\k<256:=by
 have h:0<=n/\n<=255:=by simpa[Lit.wf,IntKind.min,IntKind.max,IntKind.signed,IntKind.bits]using h
 exact⟨n.toNat,by omega,by omega⟩
theorem S6 {enc:TypeId×Value->H}{spare:Nat->Bool}(D:Nat)(p:List Value)(x:DataW H×List MemPlace)(h:DataW.trod enc prog w base spare held D 50 p=some x):
 ∃(f:GN),∃(b d c:Value),p= [Value.int .u8 f.kind,f.side,f.n,f.name,b,d,c,f.s]/\bH w w.heap.size f.x b d c/\VJ f:=by
 obtain⟨xs,n,rfl,_,s,B,e⟩:=Zz underlying50 h;rw[uq]at s;match p,s with
 | [b,d,c,c3,c4,c5,c6,c7],_=>
  have m:DataW.trod enc prog w base spare held n 5 ((([b,d,c,c3,c4,c5,c6,c7]:List Value).drop 0).take (prog.cellsOf 5))=xs[0]?:=e 0 _ rfl;have j:DataW.trod enc prog w base spare held n 3 ((([b,d,c,c3,c4,c5,c6,c7]:List Value).drop 1).take (prog.cellsOf 3))=xs[1]?:=e 1 _ rfl;have o:DataW.trod enc prog w base spare held n 3 ((([b,d,c,c3,c4,c5,c6,c7]:List Value).drop 2).take (prog.cellsOf 3))=xs[2]?:=e 2 _ rfl;have i:DataW.trod enc prog w base spare held n 30 ((([b,d,c,c3,c4,c5,c6,c7]:List Value).drop 3).take (prog.cellsOf 30))=xs[3]?:=e 3 _ rfl;have l:DataW.trod enc prog w base spare held n 9 ((([b,d,c,c3,c4,c5,c6,c7]:List Value).drop 7).take (prog.cellsOf 9))=xs[4]?:=e 4 _ rfl;have G:xs.length=5:=B;rw[zr (by omega)]at m j o i l;rw[nZ.1]at m;rw[nZ.2.1]at j o;rw[nV]at i;rw[nZ.2.2]at l;simp only[zG,zO,yq,zV]at m j o i l;obtain⟨i0,r,_,g0⟩:=yX ym m;obtain⟨i1,z,_,g1⟩:=yX yr j;obtain⟨i2,A,_,g2⟩:=yX yr o;obtain⟨nm,y,d0,d1,d2,q,C,F⟩:=Hp _ _ _ i;obtain⟨t4,u,_,_⟩:=ZA zH l;simp at r z A q u;obtain⟨rfl,rfl,rfl,rfl⟩:=q;subst r;subst z;subst A;subst u;obtain⟨k,rfl,E⟩:=abr g0;exact⟨⟨k,i1,i2,nm,y,t4⟩,_,_,_,rfl,F,E,S5 g1,S5 g2,by simpa[maxLen]using C⟩
theorem KQ {enc:TypeId×Value->H}{s:Nat}{r:Reach}{spare:Nat->Bool}{d:DataW H}{D:List MemPlace}(G:Value.okWide prog w r s 46 v)(hd:DataW.Trod enc prog w base spare held 46 v d D):
 ∃(l:List GN) (u:Value),v=u/\OH w w.heap.size u l:=by
 obtain⟨l,A,cap,rfl,B,E,n⟩:=wX 8 (by decide) underlying46 uq (fun(y:GN) k=>∃(c i e:Value),k= [Value.int .u8 y.kind,y.side,y.n,y.name,c,i,e,y.s]/\bH w w.heap.size y.x c i e/\VJ y) (fun m F x h=>S6 m F x h) G hd;refine⟨l,_,rfl,A,cap,rfl,B,E,fun j z=> ?_⟩;obtain⟨g,o,k,p,C,⟨c,i,e,rfl,hi,q⟩,b⟩:=n j z;exact⟨g,o,c,i,e,p,C,⟨b 0 (by decide),b 1 (by decide),b 2 (by decide),b 3 (by decide),b 4 (by decide),b 5 (by decide),b 6 (by decide),b 7 (by decide)⟩,hi,q⟩
