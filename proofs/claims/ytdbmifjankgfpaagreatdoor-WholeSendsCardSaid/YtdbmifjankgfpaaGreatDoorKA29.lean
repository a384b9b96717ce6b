/- layout.lay: a value's layout is written. -/
import Derived.Test.YtdbmifjankgfpaaGreatDoorKA27
import Derived.Test.YtdbmifjankgfpaaGreatDoorKA28
set_option linter.all false
set_option maxRecDepth 100000
set_option maxHeartbeats 3200000
open Go.Proofs.Tryz
namespace Go.Proofs.YtdbmifjankgfpaaGreatDoor
open Go.RowKit
variable {w w' wr:World}{base g:Nat}{k1 k2:Array Value}{l lb:List UInt8}{E t:TypeId}{a:Value}
def Z5:=@ntmps154
def Yg:=@func154
theorem D6.Ln {b:Nat}(h:D6 w base b l)(c:Below w.heap.size w w'):D6 w' base b l:=by
 obtain⟨j,p,v,d,k,e,i⟩:=h;exact⟨j,p,v,(c.block b d.lt).trans d,k,e.below c,i⟩
theorem dg.VE {b:Nat}{e:World}(h:dg E base b e w)(c:Below w.heap.size w w')(i:base<=w.heap.size):dg E base b e w':=
 h.trans ⟨c.os,c.tape,c.output,c.size,fun k d _=>c.block k (by omega),fun k o d _ _=>(c.block k (yd.1 d).1).trans d⟩
structure QV (w:World)(base b:Nat)(lb:List UInt8)(k1 k2:Array Value)(g:Nat)(wr:World)(l:List UInt8):Prop where
 ty:af wr g 43 k1
 it:af wr (g+1) 28 k2
 bld:D6 wr base b (lb++l)
 kept:dg 5 base b w wr
 siz:g+1<wr.heap.size
theorem QV.start {b:Nat}(h:D6 w base b lb)(d:base<=w.heap.size):QV w base b lb k1 k2 w.heap.size ((w.alloc (.cells k1 43)).alloc (.cells k2 28)) [] where
 ty:=(af.new w _ _).alloc _
 it:=by have:=af.new (w.alloc (.cells k1 43)) 28 k2;simpa using this
 bld:=by
  have c:Below w.heap.size w ((w.alloc (.cells k1 43)).alloc (.cells k2 28)):=((zl _ w).alloc (zg _) _).alloc (by simp) _;rw[yV];exact h.Ln c
 kept:=by
  have c:Below w.heap.size w ((w.alloc (.cells k1 43)).alloc (.cells k2 28)):=((zl _ w).alloc (zg _) _).alloc (by simp) _;exact(dg.refl _ _ _ _).VE c d
 siz:=by simp
theorem QV.more {b:Nat}(h:QV w base b lb k1 k2 g wr l)(c:Below wr.heap.size wr w')(d:base<=w.heap.size):QV w base b lb k1 k2 g w' l where
 ty:=(c.block _ h.ty.lt).trans h.ty
 it:=(c.block _ h.it.lt).trans h.it
 bld:=h.bld.Ln c
 kept:=h.kept.VE c (by have:=h.kept.size;omega)
 siz:=by have:=c.size;have:=h.siz;omega
theorem QV.put {b:Nat}{m:List UInt8}(h:QV w base b lb k1 k2 g wr l)(d:D6 w' base b ((lb++l)++m))(c:dg 5 base b wr w')(e:b<g):QV w base b lb k1 k2 g w' (l++m) where
 ty:=c.blk h.ty (by omega) (by decide)
 it:=c.blk h.it (by omega) (by decide)
 bld:=by rw[<-zB];exact d
 kept:=h.kept.trans c
 siz:=by have:=c.size;have:=h.siz;omega
theorem bj.VF {b:Nat}(h:bj w)(c:dg E base b w w')(d:0<base)(e:0<b):bj w':=h.same (c.block _ d (by omega))
theorem XN {t:ByteArray}(e:t.size<=8)(c:fC t.data.toList=false):SW t false=lK t.data.toList:=by
 have d:pN t=0:=by
  unfold pN;by_cases b:t.size=0
  ·rw[zi b]
  rw[zh b,zh (by omega),c];rfl
 simp[SW,vR,d]
theorem qP (s:List It)(k:Nat)(t:Ty):(cB (s.take k) t 0).length<=(cB s t 0).length:=by
 have:=xu List.length (sQ (s.take k) (s.drop k) t 0);rw[zC,zj]at this;omega
theorem acu :∀(x:It) (B:Nat) (w:World) (c0 c1 c2:Value),bT w B x c0 c1 c2->B<=w.heap.size->x.right=true->∀(ty:Ty) (t0 t1 t2 t3:Value),cC w B ty t0 t1 t2 t3->ty.right=true->x.cI ty=true->
 ∀(b base:Nat) (lb:List UInt8),D6 w base b lb->B<=b->base<=w.heap.size->bj w->0<B->lb.length+(x.lay ty).length<=1099511627776->
 Calls prog 154 #[.pointer (some ⟨b,0,none⟩),.agg #[t0,t1,t2,t3],.agg #[c0,c1,c2]] w fun e w'=>e= .returned (.tuple #[])/\D6 w' base b (lb++x.lay ty)/\dg 5 base b w w':=by
 intro x;induction x using It.ind with
 |h t l s ih=>
  intro B w c0 c1 c2 h hB hr ty t0 t1 t2 t3 hT pI I b base lb UZ ag DL iR ah y;obtain⟨rfl,rfl,ht,hs,A,cap,rfl,lH,jR,cy⟩:=h;have IH:=za ih;have HS:=za cy;clear ih cy;obtain⟨k,z,d,G⟩:=ty;obtain⟨rfl,rfl,rfl,hk,hz,mJ,tv,A',aj,rfl,ao,an,GX⟩:=hT;obtain⟨bC,rj⟩:=iI pI;have fu:b<base:=UZ.1;have M:=za (QV.start (k1:= #[.int .i64 k,.int .i64 z,.slice A' d.length aj,.int .i64 G]) (k2:= #[.string t,.bool l,.slice A s.length cap]) UZ DL);simp only[It.cI,zz]at I;obtain⟨K,df⟩:=I;have Ad:=za hr;have tW:=za GX;have Wf:=za rj;have ri:=za df;have Ar:=za iR;unfold mD at hk hz mJ;clear hr GX rj pI UZ df iR;rcases km bC with⟨rfl,h3,Y,rfl⟩|⟨rfl,h3,h4,Y,rfl⟩|⟨rfl,h3,h4,Y,rfl⟩|⟨rfl,h3,h4,Y,rfl⟩|⟨rfl,rfl,h4,h5,h6⟩
  ·obtain⟨J,rfl⟩:∃J:Nat,z=J:=⟨z.toNat,by omega⟩
   obtain⟨rfl,fG,D7⟩:=KH K;obtain rfl:d= []:=zo Y;have r:Hid ((It.mk t false s).lay (Ty.mk 1 J [] 0)=jw (lK t.data.toList) J):=za (uh _ _ _ _ _ _);rw[r.out]at y⊢;have ak:=XN (t:=t) (by omega) D7;have HO:=za (fun w'=>ach t false (.slice A s.length cap) w' (by omega));rw[ak]at HO;have UI:=uJ t.data.toList;rw[aa]at UI;have Em:lK t.data.toList<2^(8*J):=zU UI (yp (by omega) (by omega));have HD:=za (fun w'=>jK (lK t.data.toList) J w' Em (by omega) (by omega));rw[bg]at y;have ai:(jw (lK t.data.toList) J).length=J:=bg _ _;generalize Xw t false=E at*;generalize jw (lK t.data.toList) J=ab at*;generalize lK t.data.toList=n at*;clear bC IH HS tW K ak UI Em r;go_enter Yg,Z5
   go_wp2_with fail
   refine(HO.out _).mono ?_;rintro e w2 ⟨rfl,aJ⟩;have L:=za (M.out.more aJ DL);clear aJ;have q1:w2.cell? ⟨w.heap.size,1,none⟩=some (.int .i64 J):=L.out.ty.cell 1;go_wp2_with fail
   refine(HD.out _).mono ?_;rintro e w3 ⟨rfl,bQ⟩;have F:=za (L.out.more bQ DL);clear bQ;go_wp2_with fail
   refine(lX b base w3 (lb++ []) _ F.out.bld (by show ab≠ [];intro e;rw[e]at ai;simp at ai;omega) (by have:=F.out.kept.size;omega) (by rw[bI,yV,ai];exact y)).mono ?_;rintro e w4 ⟨rfl,Z,J7⟩;have R5:=za (F.out.put Z J7 (by omega));clear Z J7;go_wp2;go_end0
   exact⟨rfl,by simpa using R5.out.bld,R5.out.kept⟩
  ·obtain⟨rfl,fG⟩:=CR K;obtain rfl:d= []:=zo Y;have r:Hid ((It.mk t false s).lay (Ty.mk 2 z [] 0)=t.data.toList):=za (ui _ _ _ _ _ _);rw[r.out]at y⊢;rw[aa]at y;clear bC IH HS tW K r;go_enter Yg,Z5
   go_wp2_with fail
   refine(lX b base _ (lb++ []) t M.out.bld (by intro e;have:=xu List.length e;rw[aa,zL]at this;omega) (by have:=M.out.kept.size;omega) (by rw[yV];exact y)).mono ?_;rintro e w4 ⟨rfl,Z,J7⟩;have R5:=za (M.out.put Z J7 (by omega));clear Z J7;go_wp2;go_end0
   exact⟨rfl,by simpa using R5.out.bld,R5.out.kept⟩
  ·obtain⟨rfl,fG⟩:=rF K;obtain rfl:d= []:=zo Y;have r:Hid ((It.mk t false s).lay (Ty.mk 3 z [] 0)=dF t.size++t.data.toList):=za (nW _ _ _ _ _ _);rw[r.out]at y⊢;have HP:=za (fun w' (h:bj w')=>KU t.size w' (by omega) h);have A9:=(jj t.size).1;generalize dF t.size=ab at*;rw[zj,aa]at y;have aq:ab++t.data.toList≠ []:=fun e=>by have:=xu List.length e;rw[zj,zL]at this;omega
   clear bC IH HS tW K r;go_enter Yg,Z5
   go_wp2_with fail
   refine(HP.out _ (Ar.out.VF M.out.kept (by omega) (by omega))).mono ?_;rintro e w2 ⟨rfl,aJ⟩;have L:=za (M.out.more aJ DL);clear aJ;go_wp2_with fail
   refine(lX b base w2 (lb++ []) _ L.out.bld (by show ab≠ [];intro e;rw[e]at A9;simp at A9) (by have:=L.out.kept.size;omega) (by rw[bI,yV];omega)).mono ?_;rintro e w3 ⟨rfl,R7,DF⟩;have F:=za (L.out.put R7 DF (by omega));clear R7 DF;have q1:w3.cell? ⟨w.heap.size+1,0,none⟩=some (.string t):=F.out.it.cell 0;go_wp2_with fail
   refine(wm b base w3 _ t F.out.bld (by intro e;have:=xu List.length e;simp only[zj,zL]at this;omega) (by have:=F.out.kept.size;omega) (by simp only[zj,zL];omega)).mono ?_;rintro e w4 ⟨rfl,Z,J7⟩;have R5:=za (F.out.put Z J7 (by omega));clear Z J7;go_wp2;go_end0
   exact⟨rfl,by simpa using R5.out.bld,R5.out.kept⟩
  ·obtain⟨rfl,fG⟩:=Fe K;have L6:=za Y;have r:Hid ((It.mk t true s).lay (Ty.mk 4 z d 0)=dF s.length++cB s (Ty.mk 4 z d 0) 0):=za (qv _ _ _ _ _ _);rw[r.out]at y⊢;have HP:=za (fun w' (h:bj w')=>KU s.length w' (by omega) h);have A9:=(jj s.length).1;generalize dF s.length=ab at*;rw[zj]at y;clear bC K r Y;go_enter Yg,Z5
   go_wp2_with fail
   refine(HP.out _ (Ar.out.VF M.out.kept (by omega) (by omega))).mono ?_;rintro e w2 ⟨rfl,aJ⟩;have L:=za (M.out.more aJ DL);clear aJ;go_wp2_with fail
   refine(lX b base w2 (lb++ []) _ L.out.bld (by show ab≠ [];intro e;rw[e]at A9;simp at A9) (by have:=L.out.kept.size;omega) (by rw[bI,yV];omega)).mono ?_;rintro e w3 ⟨rfl,R7,DF⟩;have F:=za (L.out.put R7 DF (by omega));clear R7 DF;have q1:w3.cell? ⟨w.heap.size+1,2,none⟩=some (.slice A s.length cap):=F.out.it.cell 2;go_wp2_with fail
   go_loopw [64] (fun i wr=>∃c:Nat,c<=s.length/\i= .int .i64 c/\Hid (QV w base b lb #[.int .i64 4,.int .i64 z,.slice A' d.length aj,.int .i64 0] #[.string t,.bool true,.slice A s.length cap] w.heap.size wr (ab++cB (s.take c) (Ty.mk 4 z d 0) 0))) (fun i _=>s.length-(intOf i).toNat)
   case atStart=>exact⟨0,by omega,rfl,za (by have:=F.out;simpa[cB]using this)⟩
   case round=>
    obtain⟨c,OV,rfl,u⟩:=hrel;by_cases C:c<s.length
    ·have j:Below B w wr:=u.out.kept.below (by omega) ag;have gF:=j.size;have q2:wr.cell? ⟨w.heap.size,2,none⟩=some (.slice A' d.length aj):=u.out.ty.cell 2;obtain⟨b1,o,d0,d1,d2,rfl,gZ,O,N,S,hi⟩:=HS.out.at_ c C;simp only[zG]at O N S;replace O:=(j.cell (p:=⟨b1,o+c*3,none⟩) gZ).trans O;replace N:=(j.cell (p:=⟨b1,o+c*3+1,none⟩) gZ).trans N;replace S:=(j.cell (p:=⟨b1,o+c*3+2,none⟩) gZ).trans S;have U:0<d.length:=(by have:=L6.out;omega)
     obtain⟨m,o',f0,f1,f2,f3,rfl,X,D,k1,k2,H,tL⟩:=tW.out.at_ (0) U;simp only[zG,Nat.zero_mul,yU]at D k1 k2 H;replace D:=(j.cell (p:=⟨m,_,none⟩) X).trans D;replace k1:=(j.cell (p:=⟨m,_,none⟩) X).trans k1;replace k2:=(j.cell (p:=⟨m,_,none⟩) X).trans k2;replace H:=(j.cell (p:=⟨m,_,none⟩) X).trans H;have dh:(Ty.mk 4 z d 0).at c=d[0]:=by show(d[G3 4 c]?).getD (.mk 0 0 [] 0)=d[0];rw[show G3 4 c=0 from rfl,zx U];rfl
     have I:=lg s (Ty.mk 4 z d 0) 0 ri.out c C;rw[zG,dh]at I;have A8:cB (s.take (c+1)) (Ty.mk 4 z d 0) 0=cB (s.take c) (Ty.mk 4 z d 0) 0++s[c].lay d[0]:=by rw[BR C,dh]
     have ad:=qP s (c+1) (Ty.mk 4 z d 0);rw[A8,zj]at ad;have UK:=za A8;have HC:Hid (∀V,Below wr.heap.size wr V->Calls prog 154 #[.pointer (some ⟨b,0,none⟩),.agg #[f0,f1,f2,f3],.agg #[d0,d1,d2]] V fun e w'=>e= .returned (.tuple #[])/\D6 w' base b ((lb++(ab++cB (s.take c) (Ty.mk 4 z d 0) 0))++s[c].lay d[0])/\dg 5 base b V w'):=za (fun V R=>by
      have mK:Below B w V:=j.trans (R.mono (by omega));exact IH.out _ (zE C) B V d0 d1 d2 (hi.below mK) (by have:=R.size;omega) (fZ Ad.out c C) d[0] f0 f1 f2 f3 (tL.below mK) (dk Wf.out (0) U) I b base _ (u.out.bld.Ln R) ag (by have:=R.size;omega) (Ar.out.below mK ah) ah (by rw[zj,zj];omega))
     have al:=za U;obtain⟨A2,cn,rfl,rfl,rfl,_⟩:=hi.open_;generalize s[c].text=xt at*;generalize s[c].list=xl at*;generalize s[c].sub.length=xn at*;generalize s[c].lay d[0]=LX at*;have q:Below wr.heap.size wr (wr.alloc (.cells #[.string xt,.bool xl,.slice A2 xn cn] 28)):=(zl _ _).alloc (zg _) _;have W:=af.new wr 28 #[.string xt,.bool xl,.slice A2 xn cn];have n0:=W.cell 0;have n1:=W.cell 1;have n2:=W.cell 2;have fG:=u.out.siz;have Q2:=(q.cell (p:=⟨w.heap.size,2,none⟩) (by simp;omega)).trans q2;have K0:=(q.cell (p:=⟨m,_,none⟩) (by simp;omega)).trans D;have K1:=(q.cell (p:=⟨m,_,none⟩) (by simp;omega)).trans k1;have K2:=(q.cell (p:=⟨m,_,none⟩) (by simp;omega)).trans k2;have K3:=(q.cell (p:=⟨m,_,none⟩) (by simp;omega)).trans H;have Ha:=za q;clear hi tL j dh I A8 ad q W;go_wp2_with fail
     generalize Hb:wr.alloc (.cells #[.string xt,.bool xl,.slice A2 xn cn] 28)=W1 at*;clear Hb q2 O N S D k1 k2 H;go_still_tail 6,(by kernel_rfl)
     change wpList _ _ _ _ _ W1.drew
     go_wp2_with fail
     refine(HC.out W1.drew Ha.out.drew).mono ?_;rintro e w5 ⟨rfl,R6,ae⟩;have J':=za ((u.out.more Ha.out.drew DL).put R6 ae (by omega));clear R6 ae;rw[zB,<-UK.out]at J';go_wp2;go_roundw
     case rel=>exact⟨c+1,by omega,by go_num,J'⟩
     case measure=>simp[intOf];omega
    have h1:=u.out;rw[zv (by omega)]at h1;have HM:=za h1;clear h1;go_wp2;go_end0
    exact⟨rfl,HM.out.bld,HM.out.kept⟩
  obtain⟨rfl,YA,ar⟩:=qu K;have r:Hid ((It.mk t true s).lay (Ty.mk 5 0 d G)= []++cB s (Ty.mk 5 0 d G) 0):=za (ng _ _ _ _ _ _);rw[r.out]at y⊢;rw[zj]at y;clear bC K r;go_enter Yg,Z5
  go_wp2_with fail
  go_loopw [81] (fun i wr=>∃c:Nat,c<=s.length/\i= .int .i64 c/\Hid (QV w base b lb #[.int .i64 5,.int .i64 0,.slice A' d.length aj,.int .i64 G] #[.string t,.bool true,.slice A s.length cap] w.heap.size wr ([]++cB (s.take c) (Ty.mk 5 0 d G) 0))) (fun i _=>s.length-(intOf i).toNat)
  case atStart=>exact⟨0,by omega,rfl,za (by have:=M.out;simpa[cB]using this)⟩
  case round=>
   obtain⟨c,OV,rfl,u⟩:=hrel;by_cases C:c<s.length
   ·have j:Below B w wr:=u.out.kept.below (by omega) ag;have gF:=j.size;have q2:wr.cell? ⟨w.heap.size,2,none⟩=some (.slice A' d.length aj):=u.out.ty.cell 2;obtain⟨b1,o,d0,d1,d2,rfl,gZ,O,N,S,hi⟩:=HS.out.at_ c C;simp only[zG]at O N S;replace O:=(j.cell (p:=⟨b1,o+c*3,none⟩) gZ).trans O;replace N:=(j.cell (p:=⟨b1,o+c*3+1,none⟩) gZ).trans N;replace S:=(j.cell (p:=⟨b1,o+c*3+2,none⟩) gZ).trans S;have U:c<d.length:=(by omega)
    obtain⟨m,o',f0,f1,f2,f3,rfl,X,D,k1,k2,H,tL⟩:=tW.out.at_ (c) U;simp only[zG,Nat.zero_mul,yU]at D k1 k2 H;replace D:=(j.cell (p:=⟨m,_,none⟩) X).trans D;replace k1:=(j.cell (p:=⟨m,_,none⟩) X).trans k1;replace k2:=(j.cell (p:=⟨m,_,none⟩) X).trans k2;replace H:=(j.cell (p:=⟨m,_,none⟩) X).trans H;have dh:(Ty.mk 5 0 d G).at c=d[c]:=by show(d[G3 5 c]?).getD (.mk 0 0 [] 0)=d[c];rw[show G3 5 c=c from rfl,zx U];rfl
    have I:=lg s (Ty.mk 5 0 d G) 0 ri.out c C;rw[zG,dh]at I;have A8:cB (s.take (c+1)) (Ty.mk 5 0 d G) 0=cB (s.take c) (Ty.mk 5 0 d G) 0++s[c].lay d[c]:=by rw[BR C,dh]
    have ad:=qP s (c+1) (Ty.mk 5 0 d G);rw[A8,zj]at ad;have UK:=za A8;have HC:Hid (∀V,Below wr.heap.size wr V->Calls prog 154 #[.pointer (some ⟨b,0,none⟩),.agg #[f0,f1,f2,f3],.agg #[d0,d1,d2]] V fun e w'=>e= .returned (.tuple #[])/\D6 w' base b ((lb++([]++cB (s.take c) (Ty.mk 5 0 d G) 0))++s[c].lay d[c])/\dg 5 base b V w'):=za (fun V R=>by
     have mK:Below B w V:=j.trans (R.mono (by omega));exact IH.out _ (zE C) B V d0 d1 d2 (hi.below mK) (by have:=R.size;omega) (fZ Ad.out c C) d[c] f0 f1 f2 f3 (tL.below mK) (dk Wf.out (c) U) I b base _ (u.out.bld.Ln R) ag (by have:=R.size;omega) (Ar.out.below mK ah) ah (by rw[zj,zj];omega))
    have al:=za U;obtain⟨A2,cn,rfl,rfl,rfl,_⟩:=hi.open_;generalize s[c].text=xt at*;generalize s[c].list=xl at*;generalize s[c].sub.length=xn at*;generalize s[c].lay d[c]=LX at*;have q:Below wr.heap.size wr (wr.alloc (.cells #[.string xt,.bool xl,.slice A2 xn cn] 28)):=(zl _ _).alloc (zg _) _;have W:=af.new wr 28 #[.string xt,.bool xl,.slice A2 xn cn];have n0:=W.cell 0;have n1:=W.cell 1;have n2:=W.cell 2;have fG:=u.out.siz;have Q2:=(q.cell (p:=⟨w.heap.size,2,none⟩) (by simp;omega)).trans q2;have K0:=(q.cell (p:=⟨m,_,none⟩) (by simp;omega)).trans D;have K1:=(q.cell (p:=⟨m,_,none⟩) (by simp;omega)).trans k1;have K2:=(q.cell (p:=⟨m,_,none⟩) (by simp;omega)).trans k2;have K3:=(q.cell (p:=⟨m,_,none⟩) (by simp;omega)).trans H;have Ha:=za q;clear hi tL j dh I A8 ad q W;go_wp2_with fail
    generalize Hb:wr.alloc (.cells #[.string xt,.bool xl,.slice A2 xn cn] 28)=W1 at*;clear Hb q2 O N S D k1 k2 H;go_still_tail 7,(by kernel_rfl)
    change wpList _ _ _ _ _ W1.drew
    go_wp2_with fail
    refine(HC.out W1.drew Ha.out.drew).mono ?_;rintro e w5 ⟨rfl,R6,ae⟩;have J':=za ((u.out.more Ha.out.drew DL).put R6 ae (by omega));clear R6 ae;rw[zB,<-UK.out]at J';go_wp2;go_roundw
    case rel=>exact⟨c+1,by omega,by go_num,J'⟩
    case measure=>simp[intOf];omega
   have h1:=u.out;rw[zv (by omega)]at h1;have HM:=za h1;clear h1;go_wp2;go_end0
   exact⟨rfl,HM.out.bld,HM.out.kept⟩
theorem wv :∀(s:List It) (t:Ty) (i:Nat),(∀j (h:j<s.length),((s[j]).lay (t.at (i+j))).length<=65545*(s[j]).count)->(cB s t i).length<=65545*ay s
 | [],_,_,_=>by simp[cB,ay]
 |x::xs,t,i,h=>by
  have c:=h 0 (by simp);simp only[yR,yU]at c;have d:=wv xs t (i+1) (fun j b=>by have:=h (j+1) (by simpa using b);simpa[show i+(j+1)=i+1+j from by omega]using this);simp only[cB,zj,ay];omega
theorem Lo (x:It):∀t:Ty,t.right=true->x.cI t=true->(x.lay t).length<=65545*x.count:=by
 induction x using It.ind with
 |h tx b s ih=>
  intro t C hi;obtain⟨k,z,l,i⟩:=t;obtain⟨y,r⟩:=iI C;simp only[It.cI,zz]at hi;obtain⟨p,B⟩:=hi;have w:=lg s _ 0 B;rcases km y with⟨rfl,H,e,n⟩|⟨rfl,o,q,e,n⟩|⟨rfl,o,q,e,n⟩|⟨rfl,o,q,e,n⟩|⟨rfl,o,q,D,E⟩
  ·rw[uh,bg];simp only[It.count];omega
  ·have:=CR p;rw[ui,aa];simp only[It.count];omega
  ·have:=rF p;rw[nW,zj,aa];have:=jj tx.size;simp only[It.count];omega
  ·have F:=jj s.length;have A:=wv s (.mk 4 z l i) 0 (fun j d=>by
    have c:=w j d;have m:(Ty.mk 4 z l i).at (0+j)=l[0]'(by omega):=by unfold Ty.at;simp[e]
    rw[m]at c⊢;exact ih _ (zE d) _ (dk r 0 (by omega)) c)
   rw[qv,zj];simp only[It.count];omega
  have G:=qu p;have A:=wv s (.mk 5 z l i) 0 (fun j d=>by
   have c:=w j d;have u:j<l.length:=by omega
   have m:(Ty.mk 5 z l i).at (0+j)=l[j]:=by unfold Ty.at;simp[u]
   rw[m]at c⊢;exact ih _ (zE d) _ (dk r j u) c)
  rw[ng];simp only[It.count];omega
structure NK (w:World)(k1 k2:Array Value)(V:World):Prop where
 ty:af V w.heap.size 43 k1
 it:af V (w.heap.size+1) 28 k2
 bel:Below w.heap.size w V
 siz:w.heap.size+2<=V.heap.size
theorem NK.start (w:World)(k1 k2:Array Value):NK w k1 k2 ((w.alloc (.cells k1 43)).alloc (.cells k2 28)) where
 ty:=(af.new w _ _).alloc _
 it:=af.at_ (by simp)
 bel:=((zl _ w).alloc (zg _) _).alloc (by simp) _
 siz:=by simp
theorem NK.more {V V':World}(h:NK w k1 k2 V)(b:Below V.heap.size V V'):NK w k1 k2 V' where
 ty:=(b.block _ h.ty.lt).trans h.ty
 it:=(b.block _ h.it.lt).trans h.it
 bel:=h.bel.trans (b.mono h.bel.size)
 siz:=zK h.siz b.size
theorem oP {b c:Value}(h:af w g t #[a,b,c]):w.cell? ⟨g,0,none⟩=some a/\w.cell? ⟨g,1,none⟩=some b/\w.cell? ⟨g,2,none⟩=some c:=⟨h.cell 0,h.cell 1,h.cell 2⟩
theorem oQ {b c d:Value}(h:af w g t #[a,b,c,d]):w.cell? ⟨g,0,none⟩=some a/\w.cell? ⟨g,1,none⟩=some b/\w.cell? ⟨g,2,none⟩=some c/\w.cell? ⟨g,3,none⟩=some d:=⟨h.cell 0,h.cell 1,h.cell 2,h.cell 3⟩
theorem F' (ty:Ty)(x:It)(M:Int)(B:Nat)(w:World)(Z Y W t3 U X c2:Value)(z:cC w B ty Z Y W t3)(y:bT w B x U X c2)(C:B<=w.heap.size)(G:Laid w)(N:bj w):
 Calls prog 121 #[.agg #[Z,Y,W,t3],.agg #[U,X,c2],.int .i64 M] w fun e w'=>e= .returned (.tuple #[.string (lh ty x M).1,.int .i64 (lh ty x M).2])/\Below w.heap.size w w':=by
 have fk:=G.pos;have Wh:=N.pos;have L:=za (fun V (d:Below w.heap.size w V)=>Jo ty B V Z Y W t3 (z.below (d.mono C)) (by have:=d.size;omega) (G.below d fk));have S:=za (fun V (d:Below w.heap.size w V)=>Jt ty x B V Z Y W t3 U X c2 (z.below (d.mono C)) (y.below (d.mono C)) (by have:=d.size;omega) (G.below d fk));obtain⟨E,h⟩:∃E,fI ty x M=E:=⟨_,rfl⟩
 obtain⟨P,O⟩:∃P,lh ty x M=P:=⟨_,rfl⟩
 have u:P=if E=0 then(⟨(x.lay ty).toArray⟩,0)else(⟨#[]⟩,E):=by rw[<-O,<-h];rfl
 rw[O];unfold fI at h;obtain⟨A,cap,aa,ad,ai,ab,_⟩:=z.open_;obtain⟨A',aj,ag,ae,ah,_⟩:=y.open_;cases hf:ty.flat with
 |false=>
  rw[hf]at L;rw[zi hf]at h;have I:Hid (P=(⟨#[]⟩,1)):=za (by rw[u,zh (by omega),<-h]);clear h O u hf z y G N S;subst aa ad ai ab ag ae ah;generalize ty.kind=ki at*;generalize ty.size=si at*;generalize ty.tail=ta at*;go_enter func121,ntmps121
  go_wp2_with fail
  refine(L.out _ (NK.start w _ _).bel).mono ?_;rintro e w1 ⟨rfl,q⟩;have c:=(NK.start w _ _).more q;have r:=za c;clear q;obtain⟨p,n,k,l⟩:=oQ c.ty;obtain⟨j,m,o⟩:=oP c.it;clear c;go_wp2;go_ret2
  exact⟨by rw[I.out];rfl,r.out.bel⟩
 |true=>
  rw[hf]at L;rw[zh (by simp[hf])]at h;by_cases K:cU ty x≠0
  ·rw[zi K]at h;have e1:(cU ty x !=0)=true:=yO.2 K;have I:Hid (P=(⟨#[]⟩,cU ty x)):=za (by rw[u,zh (by rw[<-h];exact K),<-h]);clear h O u hf z y G N;subst aa ad ai ab ag ae ah;generalize cU ty x=F at*;generalize ty.kind=ki at*;generalize ty.size=si at*;generalize ty.tail=ta at*;generalize ty.sub.length=tn at*;generalize x.text=xt at*;generalize x.list=xl at*;generalize x.sub.length=xn at*;go_enter func121,ntmps121
   go_wp2_with fail
   refine(L.out _ (NK.start w _ _).bel).mono ?_;rintro e w1 ⟨rfl,q⟩;have c:=(NK.start w _ _).more q;have r:=za c;clear q;obtain⟨p,n,k,l⟩:=oQ c.ty;obtain⟨j,m,o⟩:=oP c.it;clear c;go_wp2_with fail
   refine(S.out _ r.out.bel).mono ?_;rintro e w2 ⟨rfl,D⟩;have i:=r.out.more D;have H:=za i;clear D p n k l j m o;obtain⟨p,n,k,l⟩:=oQ i.ty;obtain⟨j,m,o⟩:=oP i.it;clear i;go_wp2;go_ret2
   exact⟨by rw[I.out];rfl,H.out.bel⟩
  rw[zh K]at h;have ak:cU ty x=0:=zH.1 K;rw[ak]at S;obtain⟨_,pI,_,_,mu⟩:=jI hf;obtain⟨_,Rs,pD⟩:=rG ak;obtain⟨al,_,ar⟩:=sR Rs;have HC:=za (fun V (d:Below w.heap.size w V)=>NI x B V U X c2 (y.below (d.mono C)) (by have:=d.size;omega) Rs al);by_cases hM:M<x.count
  ·rw[zi hM]at h;have d1:decide (M<(x.count:Int))=true:=zD hM;have I:Hid (P=(⟨#[]⟩,4)):=za (by rw[u,zh (by omega),<-h]);clear h O u hf z y G N K;subst aa ad ai ab ag ae ah;generalize ty.kind=ki at*;generalize ty.size=si at*;generalize ty.tail=ta at*;generalize ty.sub.length=tn at*;generalize x.text=xt at*;generalize x.list=xl at*;generalize x.sub.length=xn at*;generalize x.count=xc at*;go_enter func121,ntmps121
   go_wp2_with fail
   refine(L.out _ (NK.start w _ _).bel).mono ?_;rintro e w1 ⟨rfl,q⟩;have c:=(NK.start w _ _).more q;have r:=za c;clear q;obtain⟨p,n,k,l⟩:=oQ c.ty;obtain⟨j,m,o⟩:=oP c.it;clear c;go_wp2_with fail
   refine(S.out _ r.out.bel).mono ?_;rintro e w2 ⟨rfl,D⟩;have i:=r.out.more D;have H:=za i;clear D p n k l j m o;obtain⟨p,n,k,l⟩:=oQ i.ty;obtain⟨j,m,o⟩:=oP i.it;clear i;go_wp2_with fail
   refine(HC.out _ H.out.bel).mono ?_;rintro e w3 ⟨rfl,R⟩;have s:=H.out.more R;have J:=za s;clear R p n k l j m o;obtain⟨p,n,k,l⟩:=oQ s.ty;obtain⟨j,m,o⟩:=oP s.it;clear s;go_wp2;go_ret2
   exact⟨by rw[I.out];rfl,J.out.bel⟩
  rw[zh hM]at h;have d1:decide (M<(x.count:Int))=false:=zu hM;have I:Hid (P=(⟨(x.lay ty).toArray⟩,0)):=za (by rw[u,zi (by omega)]);have Rq:=Lo x ty pI pD;have an:=za (fun V (d:Below w.heap.size w V) (b:Nat) (hb:D6 V (b+1) b []) (pT:w.heap.size<=b) (aq:b<V.heap.size)=>acu x w.heap.size V U X c2 ((y.below (d.mono C)).mono C) d.size al ty Z Y W t3 ((z.below (d.mono C)).mono C) pI pD b (b+1) [] hb pT aq (N.below d Wh) Wh (by simp only[zL];omega));have Ou:Hid ((x.lay ty).length<=1099511627776):=za (by omega);simp only[yx]at an;clear h O u hf z y G N K Rq;subst aa ad ai ab ag ae ah;generalize x.lay ty=LX at*;generalize ty.kind=ki at*;generalize ty.size=si at*;generalize ty.tail=ta at*;generalize ty.sub.length=tn at*;generalize x.text=xt at*;generalize x.list=xl at*;generalize x.sub.length=xn at*;generalize x.count=xc at*;go_enter func121,ntmps121
  go_wp2_with fail
  refine(L.out _ (NK.start w _ _).bel).mono ?_;rintro e w1 ⟨rfl,q⟩;have c:=(NK.start w _ _).more q;have r:=za c;clear q;obtain⟨p,n,k,l⟩:=oQ c.ty;obtain⟨j,m,o⟩:=oP c.it;clear c;go_wp2_with fail
  refine(S.out _ r.out.bel).mono ?_;rintro e w2 ⟨rfl,D⟩;have i:=r.out.more D;have H:=za i;clear D p n k l j m o;obtain⟨p,n,k,l⟩:=oQ i.ty;obtain⟨j,m,o⟩:=oP i.it;clear i;go_wp2_with fail
  refine(HC.out _ H.out.bel).mono ?_;rintro e w3 ⟨rfl,R⟩;have s:=H.out.more R;have J:=za s;clear R p n k l j m o;obtain⟨p,n,k,l⟩:=oQ s.ty;obtain⟨j,m,o⟩:=oP s.it;clear s;have R8:=J.out.more ((zl w3.heap.size w3).alloc (zg _) (.cells #[.pointer none,.slice none 0 0] 199));obtain⟨Q0,Q1,Q2,Q3⟩:=oQ R8.ty;obtain⟨R0,R1,R2⟩:=oP R8.it;clear R8;have au:=J.out.bel.size;go_wp2_with fail
  have ao:D6 (w3.alloc (.cells #[.pointer none,.slice none 0 0] 199)) (w3.heap.size+1) w3.heap.size []:=⟨by omega,_,_,af.new w3 _ _,.inl rfl,bP.nil _ _ _,fun _=>rfl⟩
  have En:Below w.heap.size w (w3.alloc (.cells #[.pointer none,.slice none 0 0] 199)):=J.out.bel.alloc J.out.bel.size _;refine(an.out _ En w3.heap.size ao J.out.bel.size (by simp)).mono ?_;rintro e w4 ⟨rfl,bX,J7⟩;have dB:=za bX;have dQ:Hid (Below w.heap.size w w4):=za (En.trans (J7.below (by omega) (by omega)));clear bX J7 ao En;go_wp2_with fail
  refine(F7 w3.heap.size (w3.heap.size+1) w4 LX dB.out Ou.out w.heap.size (by omega)).mono ?_;rintro e w5 ⟨rfl,jA,_⟩;go_wp2;go_ret2
  exact⟨by rw[I.out];rfl,dQ.out.trans jA⟩
