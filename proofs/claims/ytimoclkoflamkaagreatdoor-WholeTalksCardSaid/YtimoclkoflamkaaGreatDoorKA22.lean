/- layout.lay: a value's layout is written. -/
import Derived.Test.YtimoclkoflamkaaGreatDoorKA20
import Derived.Test.YtimoclkoflamkaaGreatDoorKA19
import Derived.Test.YtimoclkoflamkaaGreatDoorRows
import Derived.Lib.LaidTab
import Derived.Stop.LaidErr
import Derived.MakeChecks
set_option linter.all false
set_option maxRecDepth 100000
set_option maxHeartbeats 3200000
open Go.Proofs.Tryz
namespace Go.Proofs.YtimoclkoflamkaaGreatDoor
open Go.RowKit
variable {w w' wr:World}{base g:Nat}{k1 k2:Array Value}{l lb:List UInt8}{E t:TypeId}{a:Value}
def Yb:=@MakeChecks.laidMetH_plain
def Yj:=@ntmps120
def Yx:=@func120
theorem Fj.MD {b:Nat}(h:Fj w base b l)(d:Below w.heap.size w w'):Fj w' base b l:=by
 obtain⟨j,p,v,c,e,k,i⟩:=h;exact⟨j,p,v,(d.block b c.lt).trans c,e,k.below d,i⟩
theorem cW.XI {b:Nat}{e:World}(h:cW E base b e w)(c:Below w.heap.size w w')(i:base<=w.heap.size):cW E base b e w':=
 h.trans ⟨c.os,c.tape,c.output,c.size,fun k d _=>c.block k (by omega),fun k o d _ _=>(c.block k (yb.1 d).1).trans d⟩
structure SD (w:World)(base b:Nat)(lb:List UInt8)(k1 k2:Array Value)(g:Nat)(wr:World)(l:List UInt8):Prop where
 ty:af wr g 70 k1
 it:af wr (g+1) 28 k2
 bld:Fj wr base b (lb++l)
 kept:cW 5 base b w wr
 siz:g+1<wr.heap.size
theorem SD.start {b:Nat}(h:Fj w base b lb)(d:base<=w.heap.size):SD w base b lb k1 k2 w.heap.size ((w.alloc (.cells k1 70)).alloc (.cells k2 28)) [] where
 ty:=(af.new w _ _).alloc _
 it:=by have:=af.new (w.alloc (.cells k1 70)) 28 k2;simpa using this
 bld:=by
  have c:Below w.heap.size w ((w.alloc (.cells k1 70)).alloc (.cells k2 28)):=((zi _ w).alloc (ze _) _).alloc (by simp) _;rw[yO];exact h.MD c
 kept:=by
  have c:Below w.heap.size w ((w.alloc (.cells k1 70)).alloc (.cells k2 28)):=((zi _ w).alloc (ze _) _).alloc (by simp) _;exact(cW.refl _ _ _ _).XI c d
 siz:=by simp
theorem SD.more {b:Nat}(h:SD w base b lb k1 k2 g wr l)(c:Below wr.heap.size wr w')(d:base<=w.heap.size):SD w base b lb k1 k2 g w' l where
 ty:=(c.block _ h.ty.lt).trans h.ty
 it:=(c.block _ h.it.lt).trans h.it
 bld:=h.bld.MD c
 kept:=h.kept.XI c (by have:=h.kept.size;omega)
 siz:=by have:=c.size;have:=h.siz;omega
theorem SD.put {b:Nat}{m:List UInt8}(h:SD w base b lb k1 k2 g wr l)(d:Fj w' base b ((lb++l)++m))(c:cW 5 base b wr w')(e:b<g):SD w base b lb k1 k2 g w' (l++m) where
 ty:=c.blk h.ty (by omega) (by decide)
 it:=c.blk h.it (by omega) (by decide)
 bld:=by rw[<-zB];exact d
 kept:=h.kept.trans c
 siz:=by have:=c.size;have:=h.siz;omega
theorem aW.XJ {b:Nat}(h:aW w)(d:cW E base b w w')(c:0<base)(e:0<b):aW w':=h.same (d.block _ c (by omega))
theorem aa5 {t:ByteArray}(e:t.size<=8)(d:ia t.data.toList=false):Ut t false=mL t.data.toList:=by
 have c:tS t=0:=by
  unfold tS;by_cases b:t.size=0
  ·rw[zg b]
  rw[zf b,zf (by omega),d];rfl
 simp[Ut,C5,c]
theorem rr (s:List It)(k:Nat)(t:Ty):(cy (s.take k) t 0).length<=(cy s t 0).length:=by
 have:=yi List.length (tJ (s.take k) (s.drop k) t 0);rw[zE,zh]at this;omega
theorem aeF :∀(x:It) (B:Nat) (w:World) (c0 c1 c2:Value),bH w B x c0 c1 c2->B<=w.heap.size->x.right=true->∀(ty:Ty) (t0 t1 t2 t3:Value),cz w B ty t0 t1 t2 t3->ty.right=true->x.dF ty=true->
 ∀(b base:Nat) (lb:List UInt8),Fj w base b lb->B<=b->base<=w.heap.size->aW w->0<B->lb.length+(x.lay ty).length<=1099511627776->
 Calls prog 120 #[(b,0),.agg #[t0,t1,t2,t3],.agg #[c0,c1,c2]] w fun e w'=>e= .returned (.tuple #[])/\Fj w' base b (lb++x.lay ty)/\cW 5 base b w w':=by
 intro x;induction x using It.ind with
 |h t l s ih=>
  intro B w c0 c1 c2 h hB hr ty t0 t1 t2 t3 hT r8 I b base lb WV ah Cd gz ag y;obtain⟨rfl,rfl,ht,hs,A,cap,rfl,od,jf,da⟩:=h;have IH:=za ih;have HS:=za da;clear ih da;obtain⟨k,z,d,F⟩:=ty;obtain⟨rfl,rfl,rfl,hk,hz,oO,vD,A',aj,rfl,aq,ao,TO⟩:=hT;obtain⟨bG,Bk⟩:=jJ r8;have eD:b<base:=WV.1;have M:=za (SD.start (k1:= #[k,z,.slice A' d.length aj,F]) (k2:= #[t,l,.slice A s.length cap]) WV Cd);simp only[It.dF,zv]at I;obtain⟨K,cV⟩:=I;have Li:=za hr;have Fu:=za TO;have al:=za Bk;have rQ:=za cV;have EV:=za gz;unfold mM at hk hz oO;clear hr TO Bk r8 WV cV gz;rcases kq bG with⟨rfl,h3,Z,rfl⟩|⟨rfl,h3,h4,Z,rfl⟩|⟨rfl,h3,h4,Z,rfl⟩|⟨rfl,h3,h4,Z,rfl⟩|⟨rfl,rfl,h4,h5,h6⟩
  ·obtain⟨L,rfl⟩:∃L:Nat,z=L:=⟨z.toNat,by omega⟩
   obtain⟨rfl,dZ,Br⟩:=LU K;obtain rfl:d= []:=zk Z;have r:Hid ((It.mk t false s).lay (Ty.mk 1 L [] 0)=jz (mL t.data.toList) L):=za (vu _ _ _ _ _ _);rw[r.out]at y⊢;have ak:=aa5 (t:=t) (by omega) Br;have HO:=za (fun w'=>aer t false (.slice A s.length cap) w' (by omega));rw[ak]at HO;have Ww:=DE t.data.toList;rw[aa]at Ww;have rT:mL t.data.toList<2^(8*L):=zJ Ww (yu (by omega) (by omega));have HD:=za (fun w'=>jO (mL t.data.toList) L w' rT (by omega) (by omega));rw[bd]at y;have ai:(jz (mL t.data.toList) L).length=L:=bd _ _;generalize ofE t false=E at*;generalize jz (mL t.data.toList) L=ab at*;generalize mL t.data.toList=n at*;clear bG IH HS Fu K ak Ww rT r;go_enter Yx,Yj
   go_wp2_with fail
   refine(HO.out _).mono ?_;rintro e w2 ⟨rfl,Y⟩;have J:=za (M.out.more Y Cd);clear Y;have q1:w2.cell? (w.heap.size,1)=some (.int .i64 L):=J.out.ty.cell 1;go_wp2_with fail
   refine(HD.out _).mono ?_;rintro e w3 ⟨rfl,bL⟩;have G:=za (J.out.more bL Cd);clear bL;go_wp2_with fail
   refine(l6 b base w3 (lb++ []) _ G.out.bld (by show ab≠ [];intro e;rw[e]at ai;simp at ai;omega) (by have:=G.out.kept.size;omega) (by rw[bJ,yO,ai];exact y)).mono ?_;rintro e w4 ⟨rfl,II,Bz⟩;have Qu:=za (G.out.put II Bz (by omega));clear II Bz;go_wp2;go_end0
   exact⟨rfl,by simpa using Qu.out.bld,Qu.out.kept⟩
  ·obtain⟨rfl,dZ⟩:=DV K;obtain rfl:d= []:=zk Z;have r:Hid ((It.mk t false s).lay (Ty.mk 2 z [] 0)=t.data.toList):=za (vw _ _ _ _ _ _);rw[r.out]at y⊢;rw[aa]at y;clear bG IH HS Fu K r;go_enter Yx,Yj
   go_wp2_with fail
   refine(l6 b base _ (lb++ []) t M.out.bld (by intro e;have:=yi List.length e;rw[aa,zM]at this;omega) (by have:=M.out.kept.size;omega) (by rw[yO];exact y)).mono ?_;rintro e w4 ⟨rfl,II,Bz⟩;have Qu:=za (M.out.put II Bz (by omega));clear II Bz;go_wp2;go_end0
   exact⟨rfl,by simpa using Qu.out.bld,Qu.out.kept⟩
  ·obtain⟨rfl,dZ⟩:=sD K;obtain rfl:d= []:=zk Z;have r:Hid ((It.mk t false s).lay (Ty.mk 3 z [] 0)=dx t.size++t.data.toList):=za (oy _ _ _ _ _ _);rw[r.out]at y⊢;have HP:=za (fun w' (h:aW w')=>Mc t.size w' (by omega) h);have IV:=(jm t.size).1;generalize dx t.size=ab at*;rw[zh,aa]at y;have ar:ab++t.data.toList≠ []:=fun e=>by have:=yi List.length e;rw[zh,zM]at this;omega
   clear bG IH HS Fu K r;go_enter Yx,Yj
   go_wp2_with fail
   refine(HP.out _ (EV.out.XJ M.out.kept (by omega) (by omega))).mono ?_;rintro e w2 ⟨rfl,Y⟩;have J:=za (M.out.more Y Cd);clear Y;go_wp2_with fail
   refine(l6 b base w2 (lb++ []) _ J.out.bld (by show ab≠ [];intro e;rw[e]at IV;simp at IV) (by have:=J.out.kept.size;omega) (by rw[bJ,yO];omega)).mono ?_;rintro e w3 ⟨rfl,TQ,pt⟩;have G:=za (J.out.put TQ pt (by omega));clear TQ pt;have q1:w3.cell? (w.heap.size+1,0)=some (.string t):=G.out.it.cell 0;go_wp2_with fail
   refine(AG b base w3 _ t G.out.bld (by intro e;have:=yi List.length e;simp only[zh,zM]at this;omega) (by have:=G.out.kept.size;omega) (by simp only[zh,zM];omega)).mono ?_;rintro e w4 ⟨rfl,II,Bz⟩;have Qu:=za (G.out.put II Bz (by omega));clear II Bz;go_wp2;go_end0
   exact⟨rfl,by simpa using Qu.out.bld,Qu.out.kept⟩
  ·obtain⟨rfl,dZ⟩:=Gh K;have Lh:=za Z;have r:Hid ((It.mk t true s).lay (Ty.mk 4 z d 0)=dx s.length++cy s (Ty.mk 4 z d 0) 0):=za (qJ _ _ _ _ _ _);rw[r.out]at y⊢;have HP:=za (fun w' (h:aW w')=>Mc s.length w' (by omega) h);have IV:=(jm s.length).1;generalize dx s.length=ab at*;rw[zh]at y;clear bG K r Z;go_enter Yx,Yj
   go_wp2_with fail
   refine(HP.out _ (EV.out.XJ M.out.kept (by omega) (by omega))).mono ?_;rintro e w2 ⟨rfl,Y⟩;have J:=za (M.out.more Y Cd);clear Y;go_wp2_with fail
   refine(l6 b base w2 (lb++ []) _ J.out.bld (by show ab≠ [];intro e;rw[e]at IV;simp at IV) (by have:=J.out.kept.size;omega) (by rw[bJ,yO];omega)).mono ?_;rintro e w3 ⟨rfl,TQ,pt⟩;have G:=za (J.out.put TQ pt (by omega));clear TQ pt;have q1:w3.cell? (w.heap.size+1,2)=some (.slice A s.length cap):=G.out.it.cell 2;go_wp2_with fail
   go_loopw [64] (fun i wr=>∃c:Nat,c<=s.length/\i= .int .i64 c/\Hid (SD w base b lb #[.int .i64 4,.int .i64 z,.slice A' d.length aj,.int .i64 0] #[t,true,.slice A s.length cap] w.heap.size wr (ab++cy (s.take c) (Ty.mk 4 z d 0) 0))) (fun i _=>s.length-(intOf i).toNat)
   case atStart=>exact⟨0,by omega,rfl,za (by have:=G.out;simpa[cy]using this)⟩
   case round=>
    obtain⟨c,IG,rfl,u⟩:=hrel;by_cases C:c<s.length
    ·have j:Below B w wr:=u.out.kept.below (by omega) ah;have jg:=j.size;have q2:wr.cell? (w.heap.size,2)=some (.slice A' d.length aj):=u.out.ty.cell 2;obtain⟨b1,o,d0,d1,d2,rfl,iV,W,R,U,hi⟩:=HS.out.at_ c C;simp only[zK]at W R U;replace W:=(j.cell (p:=(b1,o+c*3)) iV).trans W;replace R:=(j.cell (p:=(b1,o+c*3+1)) iV).trans R;replace U:=(j.cell (p:=(b1,o+c*3+2)) iV).trans U;have X:0<d.length:=(by have:=Lh.out;omega)
     obtain⟨m,o',f0,f1,f2,f3,rfl,O,H,k1,k2,D,Bs⟩:=Fu.out.at_ (0) X;simp only[zK,ZF,xa]at H k1 k2 D;replace H:=(j.cell (p:=⟨m,_,none⟩) O).trans H;replace k1:=(j.cell (p:=⟨m,_,none⟩) O).trans k1;replace k2:=(j.cell (p:=⟨m,_,none⟩) O).trans k2;replace D:=(j.cell (p:=⟨m,_,none⟩) O).trans D;have bZ:(Ty.mk 4 z d 0).at c=d[0]:=by show(d[VV 4 c]?).getD (.mk 0 0 [] 0)=d[0];rw[show VV 4 c=0 from rfl,zr X];rfl
     have I:=k7 s (Ty.mk 4 z d 0) 0 rQ.out c C;rw[zK,bZ]at I;have uU:cy (s.take (c+1)) (Ty.mk 4 z d 0) 0=cy (s.take c) (Ty.mk 4 z d 0) 0++s[c].lay d[0]:=by rw[CP C,bZ]
     have ad:=rr s (c+1) (Ty.mk 4 z d 0);rw[uU,zh]at ad;have PA:=za uU;have HC:Hid (∀V,Below wr.heap.size wr V->Calls prog 120 #[(b,0),.agg #[f0,f1,f2,f3],.agg #[d0,d1,d2]] V fun e w'=>e= .returned (.tuple #[])/\Fj w' base b ((lb++(ab++cy (s.take c) (Ty.mk 4 z d 0) 0))++s[c].lay d[0])/\cW 5 base b V w'):=za (fun V S=>by
      have px:Below B w V:=j.trans (S.mono (by omega));exact IH.out _ (zA C) B V d0 d1 d2 (hi.below px) (by have:=S.size;omega) (lQ Li.out c C) d[0] f0 f1 f2 f3 (Bs.below px) (eK al.out (0) X) I b base _ (u.out.bld.MD S) ah (by have:=S.size;omega) (EV.out.below px ag) ag (by rw[zh,zh];omega))
     have an:=za X;obtain⟨A2,cap2,rfl,rfl,rfl,_⟩:=hi.open_;generalize s[c].text=xt at*;generalize s[c].list=xl at*;generalize s[c].sub.length=xn at*;generalize s[c].lay d[0]=LX at*;have q:Below wr.heap.size wr (wr.alloc (.cells #[xt,xl,.slice A2 xn cap2] 28)):=(zi _ _).alloc (ze _) _;have N:=af.new wr 28 #[xt,xl,.slice A2 xn cap2];have n0:=N.cell 0;have n1:=N.cell 1;have n2:=N.cell 2;have dZ:=u.out.siz;have Q2:=(q.cell (p:=(w.heap.size,2)) (by simp;omega)).trans q2;have K0:=(q.cell (p:=⟨m,_,none⟩) (by simp;omega)).trans H;have K1:=(q.cell (p:=⟨m,_,none⟩) (by simp;omega)).trans k1;have K2:=(q.cell (p:=⟨m,_,none⟩) (by simp;omega)).trans k2;have K3:=(q.cell (p:=⟨m,_,none⟩) (by simp;omega)).trans D;have M9:=za q;clear hi Bs j bZ I uU ad q N;go_wp2_with fail
     generalize Cb:wr.alloc (.cells #[xt,xl,.slice A2 xn cap2] 28)=W1 at*;clear Cb q2 W R U H k1 k2 D;go_still_tail 6,(by kernel_rfl)
     change wpList _ _ _ _ _ W1.drew
     go_wp2_with fail
     refine(HC.out W1.drew M9.out.drew).mono ?_;rintro e w5 ⟨rfl,TR,ae⟩;have Bl:=za ((u.out.more M9.out.drew Cd).put TR ae (by omega));clear TR ae;rw[zB,<-PA.out]at Bl;go_wp2;go_roundw
     case rel=>exact⟨c+1,by omega,by go_num,Bl⟩
     case measure=>simp[intOf];omega
    have h1:=u.out;rw[zw (by omega)]at h1;have HM:=za h1;clear h1;go_wp2;go_end0
    exact⟨rfl,HM.out.bld,HM.out.kept⟩
  obtain⟨rfl,au,av⟩:=qI K;have r:Hid ((It.mk t true s).lay (Ty.mk 5 0 d F)= []++cy s (Ty.mk 5 0 d F) 0):=za (nz _ _ _ _ _ _);rw[r.out]at y⊢;rw[zh]at y;clear bG K r;go_enter Yx,Yj
  go_wp2_with fail
  go_loopw [81] (fun i wr=>∃c:Nat,c<=s.length/\i= .int .i64 c/\Hid (SD w base b lb #[.int .i64 5,.int .i64 0,.slice A' d.length aj,.int .i64 F] #[t,true,.slice A s.length cap] w.heap.size wr ([]++cy (s.take c) (Ty.mk 5 0 d F) 0))) (fun i _=>s.length-(intOf i).toNat)
  case atStart=>exact⟨0,by omega,rfl,za (by have:=M.out;simpa[cy]using this)⟩
  case round=>
   obtain⟨c,IG,rfl,u⟩:=hrel;by_cases C:c<s.length
   ·have j:Below B w wr:=u.out.kept.below (by omega) ah;have jg:=j.size;have q2:wr.cell? (w.heap.size,2)=some (.slice A' d.length aj):=u.out.ty.cell 2;obtain⟨b1,o,d0,d1,d2,rfl,iV,W,R,U,hi⟩:=HS.out.at_ c C;simp only[zK]at W R U;replace W:=(j.cell (p:=(b1,o+c*3)) iV).trans W;replace R:=(j.cell (p:=(b1,o+c*3+1)) iV).trans R;replace U:=(j.cell (p:=(b1,o+c*3+2)) iV).trans U;have X:c<d.length:=(by omega)
    obtain⟨m,o',f0,f1,f2,f3,rfl,O,H,k1,k2,D,Bs⟩:=Fu.out.at_ (c) X;simp only[zK,ZF,xa]at H k1 k2 D;replace H:=(j.cell (p:=⟨m,_,none⟩) O).trans H;replace k1:=(j.cell (p:=⟨m,_,none⟩) O).trans k1;replace k2:=(j.cell (p:=⟨m,_,none⟩) O).trans k2;replace D:=(j.cell (p:=⟨m,_,none⟩) O).trans D;have bZ:(Ty.mk 5 0 d F).at c=d[c]:=by show(d[VV 5 c]?).getD (.mk 0 0 [] 0)=d[c];rw[show VV 5 c=c from rfl,zr X];rfl
    have I:=k7 s (Ty.mk 5 0 d F) 0 rQ.out c C;rw[zK,bZ]at I;have uU:cy (s.take (c+1)) (Ty.mk 5 0 d F) 0=cy (s.take c) (Ty.mk 5 0 d F) 0++s[c].lay d[c]:=by rw[CP C,bZ]
    have ad:=rr s (c+1) (Ty.mk 5 0 d F);rw[uU,zh]at ad;have PA:=za uU;have HC:Hid (∀V,Below wr.heap.size wr V->Calls prog 120 #[(b,0),.agg #[f0,f1,f2,f3],.agg #[d0,d1,d2]] V fun e w'=>e= .returned (.tuple #[])/\Fj w' base b ((lb++([]++cy (s.take c) (Ty.mk 5 0 d F) 0))++s[c].lay d[c])/\cW 5 base b V w'):=za (fun V S=>by
     have px:Below B w V:=j.trans (S.mono (by omega));exact IH.out _ (zA C) B V d0 d1 d2 (hi.below px) (by have:=S.size;omega) (lQ Li.out c C) d[c] f0 f1 f2 f3 (Bs.below px) (eK al.out (c) X) I b base _ (u.out.bld.MD S) ah (by have:=S.size;omega) (EV.out.below px ag) ag (by rw[zh,zh];omega))
    have an:=za X;obtain⟨A2,cap2,rfl,rfl,rfl,_⟩:=hi.open_;generalize s[c].text=xt at*;generalize s[c].list=xl at*;generalize s[c].sub.length=xn at*;generalize s[c].lay d[c]=LX at*;have q:Below wr.heap.size wr (wr.alloc (.cells #[xt,xl,.slice A2 xn cap2] 28)):=(zi _ _).alloc (ze _) _;have N:=af.new wr 28 #[xt,xl,.slice A2 xn cap2];have n0:=N.cell 0;have n1:=N.cell 1;have n2:=N.cell 2;have dZ:=u.out.siz;have Q2:=(q.cell (p:=(w.heap.size,2)) (by simp;omega)).trans q2;have K0:=(q.cell (p:=⟨m,_,none⟩) (by simp;omega)).trans H;have K1:=(q.cell (p:=⟨m,_,none⟩) (by simp;omega)).trans k1;have K2:=(q.cell (p:=⟨m,_,none⟩) (by simp;omega)).trans k2;have K3:=(q.cell (p:=⟨m,_,none⟩) (by simp;omega)).trans D;have M9:=za q;clear hi Bs j bZ I uU ad q N;go_wp2_with fail
    generalize Cb:wr.alloc (.cells #[xt,xl,.slice A2 xn cap2] 28)=W1 at*;clear Cb q2 W R U H k1 k2 D;go_still_tail 7,(by kernel_rfl)
    change wpList _ _ _ _ _ W1.drew
    go_wp2_with fail
    refine(HC.out W1.drew M9.out.drew).mono ?_;rintro e w5 ⟨rfl,TR,ae⟩;have Bl:=za ((u.out.more M9.out.drew Cd).put TR ae (by omega));clear TR ae;rw[zB,<-PA.out]at Bl;go_wp2;go_roundw
    case rel=>exact⟨c+1,by omega,by go_num,Bl⟩
    case measure=>simp[intOf];omega
   have h1:=u.out;rw[zw (by omega)]at h1;have HM:=za h1;clear h1;go_wp2;go_end0
   exact⟨rfl,HM.out.bld,HM.out.kept⟩
theorem AH :∀(s:List It) (t:Ty) (i:Nat),(∀j (h:j<s.length),((s[j]).lay (t.at (i+j))).length<=65545*(s[j]).count)->(cy s t i).length<=65545*aC s
 | [],_,_,_=>by simp[cy,aC]
 |x::xs,t,i,h=>by
  have c:=h 0 (by simp);simp only[yQ,xa]at c;have d:=AH xs t (i+1) (fun j b=>by have:=h (j+1) (by simpa using b);simpa[show i+(j+1)=i+1+j from by omega]using this);simp only[cy,zh,aC];omega
theorem ME (x:It):∀t:Ty,t.right=true->x.dF t=true->(x.lay t).length<=65545*x.count:=by
 induction x using It.ind with
 |h tx b s ih=>
  intro t A hi;obtain⟨k,z,l,e⟩:=t;obtain⟨y,w⟩:=jJ A;simp only[It.dF,zv]at hi;obtain⟨q,C⟩:=hi;have u:=k7 s _ 0 C;rcases kq y with⟨rfl,G,i,p⟩|⟨rfl,m,o,i,p⟩|⟨rfl,m,o,i,p⟩|⟨rfl,m,o,i,p⟩|⟨rfl,m,o,F,E⟩
  ·rw[vu,bd];simp only[It.count];omega
  ·have:=DV q;rw[vw,aa];simp only[It.count];omega
  ·have:=sD q;rw[oy,zh,aa];have:=jm tx.size;simp only[It.count];omega
  ·have H:=jm s.length;have B:=AH s (.mk 4 z l e) 0 (fun j d=>by
    have c:=u j d;have n:(Ty.mk 4 z l e).at (0+j)=l[0]'(by omega):=by unfold Ty.at;simp[i]
    rw[n]at c⊢;exact ih _ (zA d) _ (eK w 0 (by omega)) c)
   rw[qJ,zh];simp only[It.count];omega
  have D:=qI q;have B:=AH s (.mk 5 z l e) 0 (fun j d=>by
   have c:=u j d;have r:j<l.length:=by omega
   have n:(Ty.mk 5 z l e).at (0+j)=l[j]:=by unfold Ty.at;simp[r]
   rw[n]at c⊢;exact ih _ (zA d) _ (eK w j r) c)
  rw[nz];simp only[It.count];omega
structure O0 (w:World)(k1 k2:Array Value)(V:World):Prop where
 ty:af V w.heap.size 70 k1
 it:af V (w.heap.size+1) 28 k2
 bel:Below w.heap.size w V
 siz:w.heap.size+2<=V.heap.size
theorem O0.start (w:World)(k1 k2:Array Value):O0 w k1 k2 ((w.alloc (.cells k1 70)).alloc (.cells k2 28)) where
 ty:=(af.new w _ _).alloc _
 it:=af.at_ (by simp)
 bel:=((zi _ w).alloc (ze _) _).alloc (by simp) _
 siz:=by simp
theorem O0.more {V V':World}(h:O0 w k1 k2 V)(b:Below V.heap.size V V'):O0 w k1 k2 V' where
 ty:=(b.block _ h.ty.lt).trans h.ty
 it:=(b.block _ h.it.lt).trans h.it
 bel:=h.bel.trans (b.mono h.bel.size)
 siz:=zz h.siz b.size
theorem o9 {b c:Value}(h:af w g t #[a,b,c]):(w,g,0,a)/\(w,g,1,b)/\(w,g,2,c):=⟨h.cell 0,h.cell 1,h.cell 2⟩
theorem pa {b c d:Value}(h:af w g t #[a,b,c,d]):(w,g,0,a)/\(w,g,1,b)/\(w,g,2,c)/\(w,g,3,d):=⟨h.cell 0,h.cell 1,h.cell 2,h.cell 3⟩
theorem Hd (ty:Ty)(x:It)(M:Int)(B:Nat)(w:World)(U Y R t3 Z c1 S:Value)(y:cz w B ty U Y R t3)(D:bH w B x Z c1 S)(z:B<=w.heap.size)(K:Laid w)(L:aW w):
 Calls prog 81 #[.agg #[U,Y,R,t3],.agg #[Z,c1,S],M] w fun e w'=>e= .returned (.tuple #[.string (mn ty x M).1,.int .i64 (mn ty x M).2])/\(w,w'):=by
 have ff:=K.pos;have YO:=L.pos;have O:=za (fun V (h:Below w.heap.size w V)=>Kq ty B V U Y R t3 (y.below (h.mono z)) (by have:=h.size;omega) (K.below h ff));have X:=za (fun V (h:Below w.heap.size w V)=>Kv ty x B V U Y R t3 Z c1 S (y.below (h.mono z)) (D.below (h.mono z)) (by have:=h.size;omega) (K.below h ff));obtain⟨E,d⟩:∃E,iu ty x M=E:=⟨_,rfl⟩
 obtain⟨P,N⟩:∃P,mn ty x M=P:=⟨_,rfl⟩
 have C:P=if E=0 then(⟨(x.lay ty).toArray⟩,0)else(⟨#[]⟩,E):=by rw[<-N,<-d];rfl
 rw[N];unfold iu at d;obtain⟨A,cap,ae,ah,aa,ad,_⟩:=y.open_;obtain⟨A',aj,ai,ag,ab,_⟩:=D.open_;cases hf:ty.flat with
 |false=>
  rw[hf]at O;rw[zg hf]at d;have J:Hid (P=(⟨#[]⟩,1)):=za (by rw[C,zf (by omega),<-d]);clear d N C hf y D K L X;subst ae ah aa ad ai ag ab;generalize ty.kind=ki at*;generalize ty.size=si at*;generalize ty.tail=ta at*;go_enter func81,ntmps81
  go_wp2_with fail
  refine(O.out _ (O0.start w _ _).bel).mono ?_;rintro e w1 ⟨rfl,q⟩;have c:=(O0.start w _ _).more q;have r:=za c;clear q;obtain⟨n,m,l,k⟩:=pa c.ty;obtain⟨o,p,j⟩:=o9 c.it;clear c;go_wp2;go_ret2
  exact⟨by rw[J.out];rfl,r.out.bel⟩
 |true=>
  rw[hf]at O;rw[zf (by simp[hf])]at d;by_cases G:ep ty x≠0
  ·rw[zg G]at d;have e1:(ep ty x !=0)=true:=yL.2 G;have J:Hid (P=(⟨#[]⟩,ep ty x)):=za (by rw[C,zf (by rw[<-d];exact G),<-d]);clear d N C hf y D K L;subst ae ah aa ad ai ag ab;generalize ep ty x=F at*;generalize ty.kind=ki at*;generalize ty.size=si at*;generalize ty.tail=ta at*;generalize ty.sub.length=tn at*;generalize x.text=xt at*;generalize x.list=xl at*;generalize x.sub.length=xn at*;go_enter func81,ntmps81
   go_wp2_with fail
   refine(O.out _ (O0.start w _ _).bel).mono ?_;rintro e w1 ⟨rfl,q⟩;have c:=(O0.start w _ _).more q;have r:=za c;clear q;obtain⟨n,m,l,k⟩:=pa c.ty;obtain⟨o,p,j⟩:=o9 c.it;clear c;go_wp2_with fail
   refine(X.out _ r.out.bel).mono ?_;rintro e w2 ⟨rfl,u⟩;have i:=r.out.more u;have I:=za i;clear u n m l k o p j;obtain⟨n,m,l,k⟩:=pa i.ty;obtain⟨o,p,j⟩:=o9 i.it;clear i;go_wp2;go_ret2
   exact⟨by rw[J.out];rfl,I.out.bel⟩
  rw[zf G]at d;have al:ep ty x=0:=zC.1 G;rw[al]at X;obtain⟨_,r8,_,_,mP⟩:=jM hf;obtain⟨_,Te,pY⟩:=sE al;obtain⟨ak,_,aq⟩:=tK Te;have HC:=za (fun V (h:Below w.heap.size w V)=>OZ x B V Z c1 S (D.below (h.mono z)) (by have:=h.size;omega) Te ak);by_cases hM:M<x.count
  ·rw[zg hM]at d;have d1:decide (M<(x.count:Int))=true:=zD hM;have J:Hid (P=(⟨#[]⟩,4)):=za (by rw[C,zf (by omega),<-d]);clear d N C hf y D K L G;subst ae ah aa ad ai ag ab;generalize ty.kind=ki at*;generalize ty.size=si at*;generalize ty.tail=ta at*;generalize ty.sub.length=tn at*;generalize x.text=xt at*;generalize x.list=xl at*;generalize x.sub.length=xn at*;generalize x.count=xc at*;go_enter func81,ntmps81
   go_wp2_with fail
   refine(O.out _ (O0.start w _ _).bel).mono ?_;rintro e w1 ⟨rfl,q⟩;have c:=(O0.start w _ _).more q;have r:=za c;clear q;obtain⟨n,m,l,k⟩:=pa c.ty;obtain⟨o,p,j⟩:=o9 c.it;clear c;go_wp2_with fail
   refine(X.out _ r.out.bel).mono ?_;rintro e w2 ⟨rfl,u⟩;have i:=r.out.more u;have I:=za i;clear u n m l k o p j;obtain⟨n,m,l,k⟩:=pa i.ty;obtain⟨o,p,j⟩:=o9 i.it;clear i;go_wp2_with fail
   refine(HC.out _ I.out.bel).mono ?_;rintro e w3 ⟨rfl,W⟩;have s:=I.out.more W;have H:=za s;clear W n m l k o p j;obtain⟨n,m,l,k⟩:=pa s.ty;obtain⟨o,p,j⟩:=o9 s.it;clear s;go_wp2;go_ret2
   exact⟨by rw[J.out];rfl,H.out.bel⟩
  rw[zf hM]at d;have d1:decide (M<(x.count:Int))=false:=zt hM;have J:Hid (P=(⟨(x.lay ty).toArray⟩,0)):=za (by rw[C,zg (by omega)]);have Tc:=ME x ty r8 pY;have UQ:=za (fun V (h:Below w.heap.size w V) (b:Nat) (hb:Fj V (b+1) b []) (DA:w.heap.size<=b) (Nr:b<V.heap.size)=>aeF x w.heap.size V Z c1 S ((D.below (h.mono z)).mono z) h.size ak ty U Y R t3 ((y.below (h.mono z)).mono z) r8 pY b (b+1) [] hb DA Nr (L.below h YO) YO (by simp only[zM];omega));have I8:Hid ((x.lay ty).length<=1099511627776):=za (by omega);simp only[yo]at UQ;clear d N C hf y D K L G Tc;subst ae ah aa ad ai ag ab;generalize x.lay ty=LX at*;generalize ty.kind=ki at*;generalize ty.size=si at*;generalize ty.tail=ta at*;generalize ty.sub.length=tn at*;generalize x.text=xt at*;generalize x.list=xl at*;generalize x.sub.length=xn at*;generalize x.count=xc at*;go_enter func81,ntmps81
  go_wp2_with fail
  refine(O.out _ (O0.start w _ _).bel).mono ?_;rintro e w1 ⟨rfl,q⟩;have c:=(O0.start w _ _).more q;have r:=za c;clear q;obtain⟨n,m,l,k⟩:=pa c.ty;obtain⟨o,p,j⟩:=o9 c.it;clear c;go_wp2_with fail
  refine(X.out _ r.out.bel).mono ?_;rintro e w2 ⟨rfl,u⟩;have i:=r.out.more u;have I:=za i;clear u n m l k o p j;obtain⟨n,m,l,k⟩:=pa i.ty;obtain⟨o,p,j⟩:=o9 i.it;clear i;go_wp2_with fail
  refine(HC.out _ I.out.bel).mono ?_;rintro e w3 ⟨rfl,W⟩;have s:=I.out.more W;have H:=za s;clear W n m l k o p j;obtain⟨n,m,l,k⟩:=pa s.ty;obtain⟨o,p,j⟩:=o9 s.it;clear s;have Bv:=H.out.more ((zi w3.heap.size w3).alloc (ze _) (.cells #[.pointer none,nS] 171));obtain⟨Q0,Q1,Q2,Q3⟩:=pa Bv.ty;obtain⟨R0,R1,R2⟩:=o9 Bv.it;clear Bv;have ao:=H.out.bel.size;go_wp2_with fail
  have an:Fj (w3.alloc (.cells #[.pointer none,nS] 171)) (w3.heap.size+1) w3.heap.size []:=⟨by omega,_,_,af.new w3 _ _,.inl rfl,bR.nil _ _ _,fun _=>rfl⟩
  have FB:Below w.heap.size w (w3.alloc (.cells #[.pointer none,nS] 171)):=H.out.bel.alloc H.out.bel.size _;refine(UQ.out _ FB w3.heap.size an H.out.bel.size (by simp)).mono ?_;rintro e w4 ⟨rfl,cP,Bz⟩;have dK:=za cP;have gJ:Hid (w,w4):=za (FB.trans (Bz.below (by omega) (by omega)));clear cP Bz an FB;go_wp2_with fail
  refine(Hb w3.heap.size (w3.heap.size+1) w4 LX dK.out I8.out w.heap.size (by omega)).mono ?_;rintro e w5 ⟨rfl,fk,_⟩;go_wp2;go_ret2
  exact⟨by rw[J.out];rfl,gJ.out.trans fk⟩
theorem MF {W:World}(h:laidMetH prog [("unicode/utf8.acceptRanges",Rows.laid_unicode_utf8_acceptRanges),("hatchway/compact.behind",Rows.laid_hatchway_compact_behind),("hatchway/schema.uintSizes",Rows.laid_hatchway_schema_uintSizes),("unicode/utf8.first",Rows.laid_unicode_utf8_first)] W):Laid W∧aW W:=by
 rw[Yb _ _ _ (by kernel_rfl)]at h;have c:prog.globalNamed "hatchway/compact.behind" =some 0:=by kernel_rfl
 have b:prog.globalNamed "hatchway/schema.uintSizes" =some 1:=by kernel_rfl
 have e:Lib.TabIs prog W "hatchway/compact.behind" .i64 [2,4,8]:=Lib.tabIs_of_head (k:= .i64) (zs:= [2,4,8]) (n:=3) c (by kernel_rfl) underlying256 yt (by kernel_rfl) (by kernel_rfl) h.tail;have d:Lib.TabIs prog W "hatchway/schema.uintSizes" .i64 [1,2,4,8]:=Lib.tabIs_of_head (k:= .i64) (zs:= [1,2,4,8]) (n:=4) b (by kernel_rfl) underlying285 yt (by kernel_rfl) (by kernel_rfl) h.tail.tail;exact⟨⟨d.cell b 0 (by simp),d.cell b 1 (by simp),d.cell b 2 (by simp),d.cell b 3 (by simp)⟩,⟨e.cell c 0 (by simp),e.cell c 1 (by simp),e.cell c 2 (by simp)⟩⟩
