/- layout.lay: a value's layout is written. -/
import Derived.Test.YtimoclkoflamkaaGreatDoorKA20
import Derived.Test.YtimoclkoflamkaaGreatDoorKA19
import Derived.Test.YtimoclkoflamkaaGreatDoorRows
import Derived.Lib.LaidTab
import Derived.Stop.LaidErr
import Derived.MakeChecks
set_option linter.all false
set_option maxRecDepth 100000
set_option maxHeartbeats 3200000
open Go.Proofs.Tryz
namespace Go.Proofs.YtimoclkoflamkaaGreatDoor
open Go.RowKit
variable {w w' wr:World}{base g:Nat}{k1 k2:Array Value}{l lb:List UInt8}{E t:TypeId}{a:Value}
def Yc:=@ntmps120
def Yl:=@func120
theorem DX.KW {b:Nat}(h:DX w base b l)(c:Below w.heap.size w w'):DX w' base b l:=by
 obtain⟨i,p,v,d,j,k,e⟩:=h;exact⟨i,p,v,(c.block b d.lt).trans d,j,k.below c,e⟩
theorem cU.Vw {b:Nat}{e:World}(h:cU E base b e w)(c:Below w.heap.size w w')(i:base<=w.heap.size):cU E base b e w':=
 h.trans ⟨c.os,c.tape,c.output,c.size,fun k d _=>c.block k (by omega),fun k o d _ _=>(c.block k (yd.1 d).1).trans d⟩
structure Qx (w:World)(base b:Nat)(lb:List UInt8)(k1 k2:Array Value)(g:Nat)(wr:World)(l:List UInt8):Prop where
 ty:ag wr g 70 k1
 it:ag wr (g+1) 28 k2
 bld:DX wr base b (lb++l)
 kept:cU 5 base b w wr
 siz:g+1<wr.heap.size
theorem Qx.start {b:Nat}(h:DX w base b lb)(d:base<=w.heap.size):Qx w base b lb k1 k2 w.heap.size ((w.alloc (.cells k1 70)).alloc (.cells k2 28)) [] where
 ty:=(ag.new w _ _).alloc _
 it:=by have:=ag.new (w.alloc (.cells k1 70)) 28 k2;simpa using this
 bld:=by
  have c:Below w.heap.size w ((w.alloc (.cells k1 70)).alloc (.cells k2 28)):=((zm _ w).alloc (zd _) _).alloc (by simp) _;rw[yT];exact h.KW c
 kept:=by
  have c:Below w.heap.size w ((w.alloc (.cells k1 70)).alloc (.cells k2 28)):=((zm _ w).alloc (zd _) _).alloc (by simp) _;exact(cU.refl _ _ _ _).Vw c d
 siz:=by simp
theorem Qx.more {b:Nat}(h:Qx w base b lb k1 k2 g wr l)(c:Below wr.heap.size wr w')(d:base<=w.heap.size):Qx w base b lb k1 k2 g w' l where
 ty:=(c.block _ h.ty.lt).trans h.ty
 it:=(c.block _ h.it.lt).trans h.it
 bld:=h.bld.KW c
 kept:=h.kept.Vw c (by have:=h.kept.size;omega)
 siz:=by have:=c.size;have:=h.siz;omega
theorem Qx.put {b:Nat}{m:List UInt8}(h:Qx w base b lb k1 k2 g wr l)(d:DX w' base b ((lb++l)++m))(c:cU 5 base b wr w')(e:b<g):Qx w base b lb k1 k2 g w' (l++m) where
 ty:=c.blk h.ty (by omega) (by decide)
 it:=c.blk h.it (by omega) (by decide)
 bld:=by rw[<-zC];exact d
 kept:=h.kept.trans c
 siz:=by have:=c.size;have:=h.siz;omega
theorem ba.Vx {b:Nat}(h:ba w)(c:cU E base b w w')(d:0<base)(e:0<b):ba w':=h.same (c.block _ d (by omega))
theorem XJ {t:ByteArray}(e:t.size<=8)(d:gW t.data.toList=false):Su t false=mr t.data.toList:=by
 have c:sU t=0:=by
  unfold sU;by_cases b:t.size=0
  ·rw[zj b]
  rw[zi b,zi (by omega),d];rfl
 simp[Su,BY,c]
theorem qH (s:List It)(k:Nat)(t:Ty):(cl (s.take k) t 0).length<=(cl s t 0).length:=by
 have:=yp List.length (sM (s.take k) (s.drop k) t 0);rw[zH,zk]at this;omega
theorem acv :∀(x:It) (B:Nat) (w:World) (c0 c1 c2:Value),bI w B x c0 c1 c2->B<=w.heap.size->x.right=true->∀(ty:Ty) (t0 t1 t2 t3:Value),cq w B ty t0 t1 t2 t3->ty.right=true->x.dy ty=true->
 ∀(b base:Nat) (lb:List UInt8),DX w base b lb->B<=b->base<=w.heap.size->ba w->0<B->lb.length+(x.lay ty).length<=1099511627776->
 Calls prog 120 #[(b,0),.agg #[t0,t1,t2,t3],.agg #[c0,c1,c2]] w fun e w'=>e= .returned (.tuple #[])/\DX w' base b (lb++x.lay ty)/\cU 5 base b w w':=by
 intro x;induction x using It.ind with
 |h t l s ih=>
  intro B w c0 c1 c2 h hB hr ty t0 t1 t2 t3 hT rj I b base lb UP af Cv iY ae y;obtain⟨rfl,rfl,ht,hs,A,cap,rfl,nH,kr,cY⟩:=h;have IH:=za ih;have HS:=za cY;clear ih cY;obtain⟨k,z,d,C⟩:=ty;obtain⟨rfl,rfl,rfl,hk,hz,oc,uC,A',an,rfl,al,ar,RJ⟩:=hT;obtain⟨bE,DR⟩:=jB rj;have eA:b<base:=UP.1;have O:=za (Qx.start (k1:= #[k,z,.slice A' d.length an,C]) (k2:= #[t,l,.slice A s.length cap]) UP Cv);simp only[It.dy,zy]at I;obtain⟨K,dQ⟩:=I;have N2:=za hr;have Ed:=za RJ;have ai:=za DR;have qX:=za dQ;have DL:=za iY;unfold mu at hk hz oc;clear hr RJ DR rj UP dQ iY;rcases ka bE with⟨rfl,h3,Y,rfl⟩|⟨rfl,h3,h4,Y,rfl⟩|⟨rfl,h3,h4,Y,rfl⟩|⟨rfl,h3,h4,Y,rfl⟩|⟨rfl,rfl,h4,h5,h6⟩
  ·obtain⟨L,rfl⟩:∃L:Nat,z=L:=⟨z.toNat,by omega⟩
   obtain⟨rfl,fa,Ag⟩:=Ko K;obtain rfl:d= []:=zo Y;have r:Hid ((It.mk t false s).lay (Ty.mk 1 L [] 0)=jr (mr t.data.toList) L):=za (ur _ _ _ _ _ _);rw[r.out]at y⊢;have aj:=XJ (t:=t) (by omega) Ag;have HO:=za (fun w'=>acf t false (.slice A s.length cap) w' (by omega));rw[aj]at HO;have Q8:=CB t.data.toList;rw[aa]at Q8;have Ly:mr t.data.toList<2^(8*L):=zQ Q8 (yq (by omega) (by omega));have HD:=za (fun w'=>jG (mr t.data.toList) L w' Ly (by omega) (by omega));rw[bc]at y;have ah:(jr (mr t.data.toList) L).length=L:=bc _ _;generalize Xa t false=E at*;generalize jr (mr t.data.toList) L=ab at*;generalize mr t.data.toList=n at*;clear bE IH HS Ed K aj Q8 Ly r;go_enter Yl,Yc
   go_wp2_with fail
   refine(HO.out _).mono ?_;rintro e w2 ⟨rfl,aI⟩;have J:=za (O.out.more aI Cv);clear aI;have q1:w2.cell? (w.heap.size,1)=some (.int .i64 L):=J.out.ty.cell 1;go_wp2_with fail
   refine(HD.out _).mono ?_;rintro e w3 ⟨rfl,bJ⟩;have D:=za (J.out.more bJ Cv);clear bJ;go_wp2_with fail
   refine(lQ b base w3 (lb++ []) _ D.out.bld (by show ab≠ [];intro e;rw[e]at ah;simp at ah;omega) (by have:=D.out.kept.size;omega) (by rw[bG,yT,ah];exact y)).mono ?_;rintro e w4 ⟨rfl,GL,Am⟩;have Z:=za (D.out.put GL Am (by omega));clear GL Am;go_wp2;go_end0
   exact⟨rfl,by simpa using Z.out.bld,Z.out.kept⟩
  ·obtain⟨rfl,fa⟩:=CS K;obtain rfl:d= []:=zo Y;have r:Hid ((It.mk t false s).lay (Ty.mk 2 z [] 0)=t.data.toList):=za (uu _ _ _ _ _ _);rw[r.out]at y⊢;rw[aa]at y;clear bE IH HS Ed K r;go_enter Yl,Yc
   go_wp2_with fail
   refine(lQ b base _ (lb++ []) t O.out.bld (by intro e;have:=yp List.length e;rw[aa,zO]at this;omega) (by have:=O.out.kept.size;omega) (by rw[yT];exact y)).mono ?_;rintro e w4 ⟨rfl,GL,Am⟩;have Z:=za (O.out.put GL Am (by omega));clear GL Am;go_wp2;go_end0
   exact⟨rfl,by simpa using Z.out.bld,Z.out.kept⟩
  ·obtain⟨rfl,fa⟩:=rG K;obtain rfl:d= []:=zo Y;have r:Hid ((It.mk t false s).lay (Ty.mk 3 z [] 0)=dr t.size++t.data.toList):=za (nR _ _ _ _ _ _);rw[r.out]at y⊢;have HP:=za (fun w' (h:ba w')=>KA t.size w' (by omega) h);have GW:=(je t.size).1;generalize dr t.size=ab at*;rw[zk,aa]at y;have ao:ab++t.data.toList≠ []:=fun e=>by have:=yp List.length e;rw[zk,zO]at this;omega
   clear bE IH HS Ed K r;go_enter Yl,Yc
   go_wp2_with fail
   refine(HP.out _ (DL.out.Vx O.out.kept (by omega) (by omega))).mono ?_;rintro e w2 ⟨rfl,aI⟩;have J:=za (O.out.more aI Cv);clear aI;go_wp2_with fail
   refine(lQ b base w2 (lb++ []) _ J.out.bld (by show ab≠ [];intro e;rw[e]at GW;simp at GW) (by have:=J.out.kept.size;omega) (by rw[bG,yT];omega)).mono ?_;rintro e w3 ⟨rfl,RM,oQ⟩;have D:=za (J.out.put RM oQ (by omega));clear RM oQ;have q1:w3.cell? (w.heap.size+1,0)=some (.string t):=D.out.it.cell 0;go_wp2_with fail
   refine(wz b base w3 _ t D.out.bld (by intro e;have:=yp List.length e;simp only[zk,zO]at this;omega) (by have:=D.out.kept.size;omega) (by simp only[zk,zO];omega)).mono ?_;rintro e w4 ⟨rfl,GL,Am⟩;have Z:=za (D.out.put GL Am (by omega));clear GL Am;go_wp2;go_end0
   exact⟨rfl,by simpa using Z.out.bld,Z.out.kept⟩
  ·obtain⟨rfl,fa⟩:=E5 K;have JT:=za Y;have r:Hid ((It.mk t true s).lay (Ty.mk 4 z d 0)=dr s.length++cl s (Ty.mk 4 z d 0) 0):=za (qi _ _ _ _ _ _);rw[r.out]at y⊢;have HP:=za (fun w' (h:ba w')=>KA s.length w' (by omega) h);have GW:=(je s.length).1;generalize dr s.length=ab at*;rw[zk]at y;clear bE K r Y;go_enter Yl,Yc
   go_wp2_with fail
   refine(HP.out _ (DL.out.Vx O.out.kept (by omega) (by omega))).mono ?_;rintro e w2 ⟨rfl,aI⟩;have J:=za (O.out.more aI Cv);clear aI;go_wp2_with fail
   refine(lQ b base w2 (lb++ []) _ J.out.bld (by show ab≠ [];intro e;rw[e]at GW;simp at GW) (by have:=J.out.kept.size;omega) (by rw[bG,yT];omega)).mono ?_;rintro e w3 ⟨rfl,RM,oQ⟩;have D:=za (J.out.put RM oQ (by omega));clear RM oQ;have q1:w3.cell? (w.heap.size+1,2)=some (.slice A s.length cap):=D.out.it.cell 2;go_wp2_with fail
   go_loopw [64] (fun i wr=>∃c:Nat,c<=s.length/\i= .int .i64 c/\Hid (Qx w base b lb #[.int .i64 4,.int .i64 z,.slice A' d.length an,.int .i64 0] #[t,true,.slice A s.length cap] w.heap.size wr (ab++cl (s.take c) (Ty.mk 4 z d 0) 0))) (fun i _=>s.length-(intOf i).toNat)
   case atStart=>exact⟨0,by omega,rfl,za (by have:=D.out;simpa[cl]using this)⟩
   case round=>
    obtain⟨c,Lv,rfl,u⟩:=hrel;by_cases G:c<s.length
    ·have j:Below B w wr:=u.out.kept.below (by omega) af;have iA:=j.size;have q2:wr.cell? (w.heap.size,2)=some (.slice A' d.length an):=u.out.ty.cell 2;obtain⟨b1,o,d0,d1,d2,rfl,jY,U,W,M,hi⟩:=HS.out.at_ c G;simp only[zJ]at U W M;replace U:=(j.cell (p:=(b1,o+c*3)) jY).trans U;replace W:=(j.cell (p:=(b1,o+c*3+1)) jY).trans W;replace M:=(j.cell (p:=(b1,o+c*3+2)) jY).trans M;have N:0<d.length:=(by have:=JT.out;omega)
     obtain⟨m,o',f0,f1,f2,f3,rfl,S,F,k1,k2,H,Lg⟩:=Ed.out.at_ (0) N;simp only[zJ,Nat.zero_mul,xe]at F k1 k2 H;replace F:=(j.cell (p:=⟨m,_,none⟩) S).trans F;replace k1:=(j.cell (p:=⟨m,_,none⟩) S).trans k1;replace k2:=(j.cell (p:=⟨m,_,none⟩) S).trans k2;replace H:=(j.cell (p:=⟨m,_,none⟩) S).trans H;have cG:(Ty.mk 4 z d 0).at c=d[0]:=by show(d[T0 4 c]?).getD (.mk 0 0 [] 0)=d[0];rw[show T0 4 c=0 from rfl,zA N];rfl
     have I:=kR s (Ty.mk 4 z d 0) 0 qX.out c G;rw[zJ,cG]at I;have tS:cl (s.take (c+1)) (Ty.mk 4 z d 0) 0=cl (s.take c) (Ty.mk 4 z d 0) 0++s[c].lay d[0]:=by rw[BL G,cG]
     have ad:=qH s (c+1) (Ty.mk 4 z d 0);rw[tS,zk]at ad;have NS:=za tS;have HC:Hid (∀V,Below wr.heap.size wr V->Calls prog 120 #[(b,0),.agg #[f0,f1,f2,f3],.agg #[d0,d1,d2]] V fun e w'=>e= .returned (.tuple #[])/\DX w' base b ((lb++(ab++cl (s.take c) (Ty.mk 4 z d 0) 0))++s[c].lay d[0])/\cU 5 base b V w'):=za (fun V X=>by
      have oR:Below B w V:=j.trans (X.mono (by omega));exact IH.out _ (zD G) B V d0 d1 d2 (hi.below oR) (by have:=X.size;omega) (lF N2.out c G) d[0] f0 f1 f2 f3 (Lg.below oR) (eF ai.out (0) N) I b base _ (u.out.bld.KW X) af (by have:=X.size;omega) (DL.out.below oR ae) ae (by rw[zk,zk];omega))
     have ak:=za N;obtain⟨A2,cap2,rfl,rfl,rfl,_⟩:=hi.open_;generalize s[c].text=xt at*;generalize s[c].list=xl at*;generalize s[c].sub.length=xn at*;generalize s[c].lay d[0]=LX at*;have q:Below wr.heap.size wr (wr.alloc (.cells #[xt,xl,.slice A2 xn cap2] 28)):=(zm _ _).alloc (zd _) _;have R:=ag.new wr 28 #[xt,xl,.slice A2 xn cap2];have n0:=R.cell 0;have n1:=R.cell 1;have n2:=R.cell 2;have fa:=u.out.siz;have Q2:=(q.cell (p:=(w.heap.size,2)) (by simp;omega)).trans q2;have K0:=(q.cell (p:=⟨m,_,none⟩) (by simp;omega)).trans F;have K1:=(q.cell (p:=⟨m,_,none⟩) (by simp;omega)).trans k1;have K2:=(q.cell (p:=⟨m,_,none⟩) (by simp;omega)).trans k2;have K3:=(q.cell (p:=⟨m,_,none⟩) (by simp;omega)).trans H;have Cn:=za q;clear hi Lg j cG I tS ad q R;go_wp2_with fail
     generalize G5:wr.alloc (.cells #[xt,xl,.slice A2 xn cap2] 28)=W1 at*;clear G5 q2 U W M F k1 k2 H;go_still_tail 6,(by kernel_rfl)
     change wpList _ _ _ _ _ W1.drew
     go_wp2_with fail
     refine(HC.out W1.drew Cn.out.drew).mono ?_;rintro e w5 ⟨rfl,RN,Wd⟩;have Cy:=za ((u.out.more Cn.out.drew Cv).put RN Wd (by omega));clear RN Wd;rw[zC,<-NS.out]at Cy;go_wp2;go_roundw
     case rel=>exact⟨c+1,by omega,by go_num,Cy⟩
     case measure=>simp[intOf];omega
    have h1:=u.out;rw[zx (by omega)]at h1;have HM:=za h1;clear h1;go_wp2;go_end0
    exact⟨rfl,HM.out.bld,HM.out.kept⟩
  obtain⟨rfl,Yv,aq⟩:=qh K;have r:Hid ((It.mk t true s).lay (Ty.mk 5 0 d C)= []++cl s (Ty.mk 5 0 d C) 0):=za (mW _ _ _ _ _ _);rw[r.out]at y⊢;rw[zk]at y;clear bE K r;go_enter Yl,Yc
  go_wp2_with fail
  go_loopw [81] (fun i wr=>∃c:Nat,c<=s.length/\i= .int .i64 c/\Hid (Qx w base b lb #[.int .i64 5,.int .i64 0,.slice A' d.length an,.int .i64 C] #[t,true,.slice A s.length cap] w.heap.size wr ([]++cl (s.take c) (Ty.mk 5 0 d C) 0))) (fun i _=>s.length-(intOf i).toNat)
  case atStart=>exact⟨0,by omega,rfl,za (by have:=O.out;simpa[cl]using this)⟩
  case round=>
   obtain⟨c,Lv,rfl,u⟩:=hrel;by_cases G:c<s.length
   ·have j:Below B w wr:=u.out.kept.below (by omega) af;have iA:=j.size;have q2:wr.cell? (w.heap.size,2)=some (.slice A' d.length an):=u.out.ty.cell 2;obtain⟨b1,o,d0,d1,d2,rfl,jY,U,W,M,hi⟩:=HS.out.at_ c G;simp only[zJ]at U W M;replace U:=(j.cell (p:=(b1,o+c*3)) jY).trans U;replace W:=(j.cell (p:=(b1,o+c*3+1)) jY).trans W;replace M:=(j.cell (p:=(b1,o+c*3+2)) jY).trans M;have N:c<d.length:=(by omega)
    obtain⟨m,o',f0,f1,f2,f3,rfl,S,F,k1,k2,H,Lg⟩:=Ed.out.at_ (c) N;simp only[zJ,Nat.zero_mul,xe]at F k1 k2 H;replace F:=(j.cell (p:=⟨m,_,none⟩) S).trans F;replace k1:=(j.cell (p:=⟨m,_,none⟩) S).trans k1;replace k2:=(j.cell (p:=⟨m,_,none⟩) S).trans k2;replace H:=(j.cell (p:=⟨m,_,none⟩) S).trans H;have cG:(Ty.mk 5 0 d C).at c=d[c]:=by show(d[T0 5 c]?).getD (.mk 0 0 [] 0)=d[c];rw[show T0 5 c=c from rfl,zA N];rfl
    have I:=kR s (Ty.mk 5 0 d C) 0 qX.out c G;rw[zJ,cG]at I;have tS:cl (s.take (c+1)) (Ty.mk 5 0 d C) 0=cl (s.take c) (Ty.mk 5 0 d C) 0++s[c].lay d[c]:=by rw[BL G,cG]
    have ad:=qH s (c+1) (Ty.mk 5 0 d C);rw[tS,zk]at ad;have NS:=za tS;have HC:Hid (∀V,Below wr.heap.size wr V->Calls prog 120 #[(b,0),.agg #[f0,f1,f2,f3],.agg #[d0,d1,d2]] V fun e w'=>e= .returned (.tuple #[])/\DX w' base b ((lb++([]++cl (s.take c) (Ty.mk 5 0 d C) 0))++s[c].lay d[c])/\cU 5 base b V w'):=za (fun V X=>by
     have oR:Below B w V:=j.trans (X.mono (by omega));exact IH.out _ (zD G) B V d0 d1 d2 (hi.below oR) (by have:=X.size;omega) (lF N2.out c G) d[c] f0 f1 f2 f3 (Lg.below oR) (eF ai.out (c) N) I b base _ (u.out.bld.KW X) af (by have:=X.size;omega) (DL.out.below oR ae) ae (by rw[zk,zk];omega))
    have ak:=za N;obtain⟨A2,cap2,rfl,rfl,rfl,_⟩:=hi.open_;generalize s[c].text=xt at*;generalize s[c].list=xl at*;generalize s[c].sub.length=xn at*;generalize s[c].lay d[c]=LX at*;have q:Below wr.heap.size wr (wr.alloc (.cells #[xt,xl,.slice A2 xn cap2] 28)):=(zm _ _).alloc (zd _) _;have R:=ag.new wr 28 #[xt,xl,.slice A2 xn cap2];have n0:=R.cell 0;have n1:=R.cell 1;have n2:=R.cell 2;have fa:=u.out.siz;have Q2:=(q.cell (p:=(w.heap.size,2)) (by simp;omega)).trans q2;have K0:=(q.cell (p:=⟨m,_,none⟩) (by simp;omega)).trans F;have K1:=(q.cell (p:=⟨m,_,none⟩) (by simp;omega)).trans k1;have K2:=(q.cell (p:=⟨m,_,none⟩) (by simp;omega)).trans k2;have K3:=(q.cell (p:=⟨m,_,none⟩) (by simp;omega)).trans H;have Cn:=za q;clear hi Lg j cG I tS ad q R;go_wp2_with fail
    generalize G5:wr.alloc (.cells #[xt,xl,.slice A2 xn cap2] 28)=W1 at*;clear G5 q2 U W M F k1 k2 H;go_still_tail 7,(by kernel_rfl)
    change wpList _ _ _ _ _ W1.drew
    go_wp2_with fail
    refine(HC.out W1.drew Cn.out.drew).mono ?_;rintro e w5 ⟨rfl,RN,Wd⟩;have Cy:=za ((u.out.more Cn.out.drew Cv).put RN Wd (by omega));clear RN Wd;rw[zC,<-NS.out]at Cy;go_wp2;go_roundw
    case rel=>exact⟨c+1,by omega,by go_num,Cy⟩
    case measure=>simp[intOf];omega
   have h1:=u.out;rw[zx (by omega)]at h1;have HM:=za h1;clear h1;go_wp2;go_end0
   exact⟨rfl,HM.out.bld,HM.out.kept⟩
theorem wA :∀(s:List It) (t:Ty) (i:Nat),(∀j (h:j<s.length),((s[j]).lay (t.at (i+j))).length<=65545*(s[j]).count)->(cl s t i).length<=65545*aC s
 | [],_,_,_=>by simp[cl,aC]
 |x::xs,t,i,h=>by
  have b:=h 0 (by simp);simp only[yS,xe]at b;have d:=wA xs t (i+1) (fun j c=>by have:=h (j+1) (by simpa using c);simpa[show i+(j+1)=i+1+j from by omega]using this);simp only[cl,zk,aC];omega
theorem KX (x:It):∀t:Ty,t.right=true->x.dy t=true->(x.lay t).length<=65545*x.count:=by
 induction x using It.ind with
 |h tx b s ih=>
  intro t y hi;obtain⟨k,z,l,e⟩:=t;obtain⟨C,r⟩:=jB y;simp only[It.dy,zy]at hi;obtain⟨o,B⟩:=hi;have w:=kR s _ 0 B;rcases ka C with⟨rfl,G,i,m⟩|⟨rfl,p,n,i,m⟩|⟨rfl,p,n,i,m⟩|⟨rfl,p,n,i,m⟩|⟨rfl,p,n,E,D⟩
  ·rw[ur,bc];simp only[It.count];omega
  ·have:=CS o;rw[uu,aa];simp only[It.count];omega
  ·have:=rG o;rw[nR,zk,aa];have:=je tx.size;simp only[It.count];omega
  ·have H:=je s.length;have A:=wA s (.mk 4 z l e) 0 (fun j c=>by
    have d:=w j c;have q:(Ty.mk 4 z l e).at (0+j)=l[0]'(by omega):=by unfold Ty.at;simp[i]
    rw[q]at d⊢;exact ih _ (zD c) _ (eF r 0 (by omega)) d)
   rw[qi,zk];simp only[It.count];omega
  have F:=qh o;have A:=wA s (.mk 5 z l e) 0 (fun j c=>by
   have d:=w j c;have u:j<l.length:=by omega
   have q:(Ty.mk 5 z l e).at (0+j)=l[j]:=by unfold Ty.at;simp[u]
   rw[q]at d⊢;exact ih _ (zD c) _ (eF r j u) d)
  rw[mW];simp only[It.count];omega
structure Nf (w:World)(k1 k2:Array Value)(V:World):Prop where
 ty:ag V w.heap.size 70 k1
 it:ag V (w.heap.size+1) 28 k2
 bel:Below w.heap.size w V
 siz:w.heap.size+2<=V.heap.size
theorem Nf.start (w:World)(k1 k2:Array Value):Nf w k1 k2 ((w.alloc (.cells k1 70)).alloc (.cells k2 28)) where
 ty:=(ag.new w _ _).alloc _
 it:=ag.at_ (by simp)
 bel:=((zm _ w).alloc (zd _) _).alloc (by simp) _
 siz:=by simp
theorem Nf.more {V V':World}(h:Nf w k1 k2 V)(b:Below V.heap.size V V'):Nf w k1 k2 V' where
 ty:=(b.block _ h.ty.lt).trans h.ty
 it:=(b.block _ h.it.lt).trans h.it
 bel:=h.bel.trans (b.mono h.bel.size)
 siz:=zG h.siz b.size
theorem oH {b c:Value}(h:ag w g t #[a,b,c]):(w,g,0,a)/\(w,g,1,b)/\(w,g,2,c):=⟨h.cell 0,h.cell 1,h.cell 2⟩
theorem oI {b c d:Value}(h:ag w g t #[a,b,c,d]):(w,g,0,a)/\(w,g,1,b)/\(w,g,2,c)/\(w,g,3,d):=⟨h.cell 0,h.cell 1,h.cell 2,h.cell 3⟩
theorem F6 (ty:Ty)(x:It)(M:Int)(B:Nat)(w:World)(S R Y t3 Z c1 W:Value)(z:cq w B ty S R Y t3)(y:bI w B x Z c1 W)(D:B<=w.heap.size)(G:Laid w)(O:ba w):
 Calls prog 81 #[.agg #[S,R,Y,t3],.agg #[Z,c1,W],M] w fun e w'=>e= .returned (.tuple #[.string (lZ ty x M).1,.int .i64 (lZ ty x M).2])/\(w,w'):=by
 have fc:=G.pos;have Wf:=O.pos;have N:=za (fun V (h:Below w.heap.size w V)=>Je ty B V S R Y t3 (z.below (h.mono D)) (by have:=h.size;omega) (G.below h fc));have X:=za (fun V (h:Below w.heap.size w V)=>Jj ty x B V S R Y t3 Z c1 W (z.below (h.mono D)) (y.below (h.mono D)) (by have:=h.size;omega) (G.below h fc));obtain⟨E,d⟩:∃E,il ty x M=E:=⟨_,rfl⟩
 obtain⟨P,L⟩:∃P,lZ ty x M=P:=⟨_,rfl⟩
 have u:P=if E=0 then(⟨(x.lay ty).toArray⟩,0)else(⟨#[]⟩,E):=by rw[<-L,<-d];rfl
 rw[L];unfold il at d;obtain⟨A,cap,aa,ad,ae,ab,_⟩:=z.open_;obtain⟨A',an,af,ai,ah,_⟩:=y.open_;cases hf:ty.flat with
 |false=>
  rw[hf]at N;rw[zj hf]at d;have H:Hid (P=(⟨#[]⟩,1)):=za (by rw[u,zi (by omega),<-d]);clear d L u hf z y G O X;subst aa ad ae ab af ai ah;generalize ty.kind=ki at*;generalize ty.size=si at*;generalize ty.tail=ta at*;go_enter func81,ntmps81
  go_wp2_with fail
  refine(N.out _ (Nf.start w _ _).bel).mono ?_;rintro e w1 ⟨rfl,q⟩;have c:=(Nf.start w _ _).more q;have r:=za c;clear q;obtain⟨k,n,m,p⟩:=oI c.ty;obtain⟨l,j,o⟩:=oH c.it;clear c;go_wp2;go_ret2
  exact⟨by rw[H.out];rfl,r.out.bel⟩
 |true=>
  rw[hf]at N;rw[zi (by simp[hf])]at d;by_cases K:dZ ty x≠0
  ·rw[zj K]at d;have e1:(dZ ty x !=0)=true:=yN.2 K;have H:Hid (P=(⟨#[]⟩,dZ ty x)):=za (by rw[u,zi (by rw[<-d];exact K),<-d]);clear d L u hf z y G O;subst aa ad ae ab af ai ah;generalize dZ ty x=F at*;generalize ty.kind=ki at*;generalize ty.size=si at*;generalize ty.tail=ta at*;generalize ty.sub.length=tn at*;generalize x.text=xt at*;generalize x.list=xl at*;generalize x.sub.length=xn at*;go_enter func81,ntmps81
   go_wp2_with fail
   refine(N.out _ (Nf.start w _ _).bel).mono ?_;rintro e w1 ⟨rfl,q⟩;have c:=(Nf.start w _ _).more q;have r:=za c;clear q;obtain⟨k,n,m,p⟩:=oI c.ty;obtain⟨l,j,o⟩:=oH c.it;clear c;go_wp2_with fail
   refine(X.out _ r.out.bel).mono ?_;rintro e w2 ⟨rfl,C⟩;have i:=r.out.more C;have J:=za i;clear C k n m p l j o;obtain⟨k,n,m,p⟩:=oI i.ty;obtain⟨l,j,o⟩:=oH i.it;clear i;go_wp2;go_ret2
   exact⟨by rw[H.out];rfl,J.out.bel⟩
  rw[zi K]at d;have aj:dZ ty x=0:=zE.1 K;rw[aj]at X;obtain⟨_,rj,_,_,mA⟩:=jE hf;obtain⟨_,Q9,px⟩:=rH aj;obtain⟨ak,_,ar⟩:=sN Q9;have HC:=za (fun V (h:Below w.heap.size w V)=>Nd x B V Z c1 W (y.below (h.mono D)) (by have:=h.size;omega) Q9 ak);by_cases hM:M<x.count
  ·rw[zj hM]at d;have d1:decide (M<(x.count:Int))=true:=zF hM;have H:Hid (P=(⟨#[]⟩,4)):=za (by rw[u,zi (by omega),<-d]);clear d L u hf z y G O K;subst aa ad ae ab af ai ah;generalize ty.kind=ki at*;generalize ty.size=si at*;generalize ty.tail=ta at*;generalize ty.sub.length=tn at*;generalize x.text=xt at*;generalize x.list=xl at*;generalize x.sub.length=xn at*;generalize x.count=xc at*;go_enter func81,ntmps81
   go_wp2_with fail
   refine(N.out _ (Nf.start w _ _).bel).mono ?_;rintro e w1 ⟨rfl,q⟩;have c:=(Nf.start w _ _).more q;have r:=za c;clear q;obtain⟨k,n,m,p⟩:=oI c.ty;obtain⟨l,j,o⟩:=oH c.it;clear c;go_wp2_with fail
   refine(X.out _ r.out.bel).mono ?_;rintro e w2 ⟨rfl,C⟩;have i:=r.out.more C;have J:=za i;clear C k n m p l j o;obtain⟨k,n,m,p⟩:=oI i.ty;obtain⟨l,j,o⟩:=oH i.it;clear i;go_wp2_with fail
   refine(HC.out _ J.out.bel).mono ?_;rintro e w3 ⟨rfl,U⟩;have s:=J.out.more U;have I:=za s;clear U k n m p l j o;obtain⟨k,n,m,p⟩:=oI s.ty;obtain⟨l,j,o⟩:=oH s.it;clear s;go_wp2;go_ret2
   exact⟨by rw[H.out];rfl,I.out.bel⟩
  rw[zi hM]at d;have d1:decide (M<(x.count:Int))=false:=zv hM;have H:Hid (P=(⟨(x.lay ty).toArray⟩,0)):=za (by rw[u,zj (by omega)]);have Q6:=KX x ty rj px;have SO:=za (fun V (h:Below w.heap.size w V) (b:Nat) (hb:DX V (b+1) b []) (Cu:w.heap.size<=b) (ao:b<V.heap.size)=>acv x w.heap.size V Z c1 W ((y.below (h.mono D)).mono D) h.size ak ty S R Y t3 ((z.below (h.mono D)).mono D) rj px b (b+1) [] hb Cu ao (O.below h Wf) Wf (by simp only[zO];omega));have Bb:Hid ((x.lay ty).length<=1099511627776):=za (by omega);simp only[yo]at SO;clear d L u hf z y G O K Q6;subst aa ad ae ab af ai ah;generalize x.lay ty=LX at*;generalize ty.kind=ki at*;generalize ty.size=si at*;generalize ty.tail=ta at*;generalize ty.sub.length=tn at*;generalize x.text=xt at*;generalize x.list=xl at*;generalize x.sub.length=xn at*;generalize x.count=xc at*;go_enter func81,ntmps81
  go_wp2_with fail
  refine(N.out _ (Nf.start w _ _).bel).mono ?_;rintro e w1 ⟨rfl,q⟩;have c:=(Nf.start w _ _).more q;have r:=za c;clear q;obtain⟨k,n,m,p⟩:=oI c.ty;obtain⟨l,j,o⟩:=oH c.it;clear c;go_wp2_with fail
  refine(X.out _ r.out.bel).mono ?_;rintro e w2 ⟨rfl,C⟩;have i:=r.out.more C;have J:=za i;clear C k n m p l j o;obtain⟨k,n,m,p⟩:=oI i.ty;obtain⟨l,j,o⟩:=oH i.it;clear i;go_wp2_with fail
  refine(HC.out _ J.out.bel).mono ?_;rintro e w3 ⟨rfl,U⟩;have s:=J.out.more U;have I:=za s;clear U k n m p l j o;obtain⟨k,n,m,p⟩:=oI s.ty;obtain⟨l,j,o⟩:=oH s.it;clear s;have DI:=I.out.more ((zm w3.heap.size w3).alloc (zd _) (.cells #[.pointer none,nS] 171));obtain⟨Q0,Q1,Q2,Q3⟩:=oI DI.ty;obtain⟨R0,R1,R2⟩:=oH DI.it;clear DI;have aq:=I.out.bel.size;go_wp2_with fail
  have al:DX (w3.alloc (.cells #[.pointer none,nS] 171)) (w3.heap.size+1) w3.heap.size []:=⟨by omega,_,_,ag.new w3 _ _,.inl rfl,bP.nil _ _ _,fun _=>rfl⟩
  have Ek:Below w.heap.size w (w3.alloc (.cells #[.pointer none,nS] 171)):=I.out.bel.alloc I.out.bel.size _;refine(SO.out _ Ek w3.heap.size al I.out.bel.size (by simp)).mono ?_;rintro e w4 ⟨rfl,cT,Am⟩;have ey:=za cT;have gD:Hid (w,w4):=za (Ek.trans (Am.below (by omega) (by omega)));clear cT Am al Ek;go_wp2_with fail
  refine(F5 w3.heap.size (w3.heap.size+1) w4 LX ey.out Bb.out w.heap.size (by omega)).mono ?_;rintro e w5 ⟨rfl,gZ,_⟩;go_wp2;go_ret2
  exact⟨by rw[H.out];rfl,gD.out.trans gZ⟩
theorem T3 {W:World}(h:laidMetH prog [("unicode/utf8.acceptRanges",Rows.laid_unicode_utf8_acceptRanges),("hatchway/compact.behind",Rows.laid_hatchway_compact_behind),("hatchway/schema.uintSizes",Rows.laid_hatchway_schema_uintSizes),("unicode/utf8.first",Rows.laid_unicode_utf8_first)] W):Laid W∧ba W:=by
 rw[MakeChecks.laidMetH_plain _ _ _ (by kernel_rfl)]at h;have c:prog.globalNamed "hatchway/compact.behind" =some 0:=by kernel_rfl
 have b:prog.globalNamed "hatchway/schema.uintSizes" =some 1:=by kernel_rfl
 have e:Lib.TabIs prog W "hatchway/compact.behind" .i64 [2,4,8]:=Lib.tabIs_of_head (k:= .i64) (zs:= [2,4,8]) (n:=3) c (by kernel_rfl) underlying256 yF (by kernel_rfl) (by kernel_rfl) h.tail;have d:Lib.TabIs prog W "hatchway/schema.uintSizes" .i64 [1,2,4,8]:=Lib.tabIs_of_head (k:= .i64) (zs:= [1,2,4,8]) (n:=4) b (by kernel_rfl) underlying285 yF (by kernel_rfl) (by kernel_rfl) h.tail.tail;exact⟨⟨d.cell b 0 (by simp),d.cell b 1 (by simp),d.cell b 2 (by simp),d.cell b 3 (by simp)⟩,⟨e.cell c 0 (by simp),e.cell c 1 (by simp),e.cell c 2 (by simp)⟩⟩
