/- layout.lay: a value's layout is written. -/
import Derived.Test.YtdbmifjankgfpaaGreatDoorKA25
import Derived.Test.YtdbmifjankgfpaaGreatDoorKA26
set_option linter.all false
set_option maxRecDepth 100000
set_option maxHeartbeats 3200000
open Go.Proofs.Tryz
namespace Go.Proofs.YtdbmifjankgfpaaGreatDoor
open Go.RowKit
def Z8:=@ntmps154
def Yg:=@func154
theorem Ei.La {w w':World}{base b:Nat}{l:List UInt8}(h:Ei w base b l)(c:Below w.heap.size w w'):Ei w' base b l:=by
 obtain⟨i,p,v,d,k,j,e⟩:=h;exact⟨i,p,v,(c.block b d.lt).trans d,k,j.below c,e⟩
theorem cW.VC {E:TypeId}{base b:Nat}{e w w':World}(h:cW E base b e w)(c:Below w.heap.size w w')(i:base<=w.heap.size):cW E base b e w':=
 h.trans ⟨c.os,c.tape,c.output,c.size,fun k d _=>c.block k (by omega),fun k o d _ _=>(c.block k (yd.1 d).1).trans d⟩
structure QF (w:World)(base b:Nat)(lb:List UInt8)(k1 k2:Array Value)(g:Nat)(wr:World)(l:List UInt8):Prop where
 ty:af wr g 43 k1
 it:af wr (g+1) 28 k2
 bld:Ei wr base b (lb++l)
 kept:cW 5 base b w wr
 siz:g+1<wr.heap.size
theorem QF.start {w:World}{base b:Nat}{lb:List UInt8}{k1 k2:Array Value}(h:Ei w base b lb)(d:base<=w.heap.size):QF w base b lb k1 k2 w.heap.size ((w.alloc (.cells k1 43)).alloc (.cells k2 28)) [] where
 ty:=(af.new w _ _).alloc _
 it:=by have:=af.new (w.alloc (.cells k1 43)) 28 k2;simpa using this
 bld:=by
  have c:Below w.heap.size w ((w.alloc (.cells k1 43)).alloc (.cells k2 28)):=((zl _ w).alloc (zd _) _).alloc (by simp) _;rw[yO];exact h.La c
 kept:=by
  have c:Below w.heap.size w ((w.alloc (.cells k1 43)).alloc (.cells k2 28)):=((zl _ w).alloc (zd _) _).alloc (by simp) _;exact(cW.refl _ _ _ _).VC c d
 siz:=by simp
theorem QF.more {w wr w':World}{base b g:Nat}{lb l:List UInt8}{k1 k2:Array Value}(h:QF w base b lb k1 k2 g wr l)(c:Below wr.heap.size wr w')(d:base<=w.heap.size):QF w base b lb k1 k2 g w' l where
 ty:=(c.block _ h.ty.lt).trans h.ty
 it:=(c.block _ h.it.lt).trans h.it
 bld:=h.bld.La c
 kept:=h.kept.VC c (by have:=h.kept.size;omega)
 siz:=by have:=c.size;have:=h.siz;omega
theorem QF.put {w wr w':World}{base b g:Nat}{lb l m:List UInt8}{k1 k2:Array Value}(h:QF w base b lb k1 k2 g wr l)(d:Ei w' base b ((lb++l)++m))(c:cW 5 base b wr w')(e:b<g):QF w base b lb k1 k2 g w' (l++m) where
 ty:=c.blk h.ty (by omega) (by decide)
 it:=c.blk h.it (by omega) (by decide)
 bld:=by rw[<-zB];exact d
 kept:=h.kept.trans c
 siz:=by have:=c.size;have:=h.siz;omega
theorem ba.VD {w w':World}{E:TypeId}{base b:Nat}(h:ba w)(d:cW E base b w w')(c:0<base)(e:0<b):ba w':=h.same (d.block _ c (by omega))
theorem XL {t:ByteArray}(e:t.size<=8)(c:gB t.data.toList=false):SQ t false=lP t.data.toList:=by
 have d:pU t=0:=by
  unfold pU;by_cases b:t.size=0
  ·rw[zi b]
  rw[zh b,zh (by omega),c];rfl
 simp[SQ,vX,d]
theorem qP (s:List It)(k:Nat)(t:Ty):(cz (s.take k) t 0).length<=(cz s t 0).length:=by
 have:=xi List.length (sX (s.take k) (s.drop k) t 0);rw[zJ,zj]at this;omega
theorem acB :∀(x:It) (B:Nat) (w:World) (c0 c1 c2:Value),dg w B x c0 c1 c2->B<=w.heap.size->x.right=true->∀(ty:Ty) (t0 t1 t2 t3:Value),cD w B ty t0 t1 t2 t3->ty.right=true->x.dj ty=true->
 ∀(b base:Nat) (lb:List UInt8),Ei w base b lb->B<=b->base<=w.heap.size->ba w->0<B->lb.length+(x.lay ty).length<=1099511627776->
 Calls prog 154 #[.pointer (some ⟨b,0,none⟩),.agg #[t0,t1,t2,t3],.agg #[c0,c1,c2]] w fun e w'=>e= .returned (.tuple #[])/\Ei w' base b (lb++x.lay ty)/\cW 5 base b w w':=by
 intro x;induction x using It.ind with
 |h t l s ih=>
  intro B w c0 c1 c2 h hB hr ty t0 t1 t2 t3 hT rA J b base lb UU ag CH ic ah y;obtain⟨rfl,rfl,ht,hs,A,cap,rfl,qZ,mR,eH⟩:=h;have IH:=za ih;have HS:=za eH;clear ih eH;obtain⟨k,z,d,H⟩:=ty;obtain⟨rfl,rfl,rfl,hk,hz,oF,uC,A',aq,rfl,au,av,RO⟩:=hT;obtain⟨bF,Ar⟩:=jM rA;have eW:b<base:=UU.1;have O:=za (QF.start (k1:= #[.int .i64 k,.int .i64 z,.slice A' d.length aq,.int .i64 H]) (k2:= #[.string t,.bool l,.slice A s.length cap]) UU CH);simp only[It.dj,zx]at J;obtain⟨I,dW⟩:=J;have D7:=za hr;have D3:=za RO;have al:=za Ar;have rq:=za dW;have AM:=za ic;unfold mJ at hk hz oF;clear hr RO Ar rA UU dW ic;rcases lT bF with⟨rfl,h3,hn,rfl⟩|⟨rfl,h3,h4,hn,rfl⟩|⟨rfl,h3,h4,hn,rfl⟩|⟨rfl,h3,h4,hn,rfl⟩|⟨rfl,rfl,h4,h5,h6⟩
  ·obtain⟨K,rfl⟩:∃K:Nat,z=K:=⟨z.toNat,by omega⟩
   obtain⟨rfl,gF,GL⟩:=KA I;obtain rfl:d= []:=zo hn;have r:Hid ((It.mk t false s).lay (Ty.mk 1 K [] 0)=iq (lP t.data.toList) K):=za (uk _ _ _ _ _ _);rw[r.out]at y⊢;have ak:=XL (t:=t) (by omega) GL;have HO:=za (fun w'=>aco t false (.slice A s.length cap) w' (by omega));rw[ak]at HO;have aj:=uQ t.data.toList;rw[aa]at aj;have Ta:lP t.data.toList<2^(8*K):=zT aj (yp (by omega) (by omega));have HD:=za (fun w'=>jR (lP t.data.toList) K w' Ta (by omega) (by omega));rw[bh]at y;have ai:(iq (lP t.data.toList) K).length=K:=bh _ _;generalize Xw t false=E at*;generalize iq (lP t.data.toList) K=ab at*;generalize lP t.data.toList=n at*;clear bF IH HS D3 I ak aj Ta r;go_enter Yg,Z8
   go_wp2_with fail
   refine(HO.out _).mono ?_;rintro e w2 ⟨rfl,Y⟩;have L:=za (O.out.more Y CH);clear Y;have q1:w2.cell? ⟨w.heap.size,1,none⟩=some (.int .i64 K):=L.out.ty.cell 1;go_wp2_with fail
   refine(HD.out _).mono ?_;rintro e w3 ⟨rfl,bU⟩;have F:=za (L.out.more bU CH);clear bU;go_wp2_with fail
   refine(l9 b base w3 (lb++ []) _ F.out.bld (by show ab≠ [];intro e;rw[e]at ai;simp at ai;omega) (by have:=F.out.kept.size;omega) (by rw[bB,yO,ai];exact y)).mono ?_;rintro e w4 ⟨rfl,GZ,J4⟩;have Z:=za (F.out.put GZ J4 (by omega));clear GZ J4;go_wp2;go_end0
   exact⟨rfl,by simpa using Z.out.bld,Z.out.kept⟩
  ·obtain⟨rfl,gF⟩:=C7 I;obtain rfl:d= []:=zo hn;have r:Hid ((It.mk t false s).lay (Ty.mk 2 z [] 0)=t.data.toList):=za (uq _ _ _ _ _ _);rw[r.out]at y⊢;rw[aa]at y;clear bF IH HS D3 I r;go_enter Yg,Z8
   go_wp2_with fail
   refine(l9 b base _ (lb++ []) t O.out.bld (by intro e;have:=xi List.length e;rw[aa,zL]at this;omega) (by have:=O.out.kept.size;omega) (by rw[yO];exact y)).mono ?_;rintro e w4 ⟨rfl,GZ,J4⟩;have Z:=za (O.out.put GZ J4 (by omega));clear GZ J4;go_wp2;go_end0
   exact⟨rfl,by simpa using Z.out.bld,Z.out.kept⟩
  ·obtain⟨rfl,gF⟩:=rM I;obtain rfl:d= []:=zo hn;have r:Hid ((It.mk t false s).lay (Ty.mk 3 z [] 0)=dy t.size++t.data.toList):=za (oo _ _ _ _ _ _);rw[r.out]at y⊢;have HP:=za (fun w' (h:ba w')=>KK t.size w' (by omega) h);have DR:=(ju t.size).1;generalize dy t.size=ab at*;rw[zj,aa]at y;have ar:ab++t.data.toList≠ []:=fun e=>by have:=xi List.length e;rw[zj,zL]at this;omega
   clear bF IH HS D3 I r;go_enter Yg,Z8
   go_wp2_with fail
   refine(HP.out _ (AM.out.VD O.out.kept (by omega) (by omega))).mono ?_;rintro e w2 ⟨rfl,Y⟩;have L:=za (O.out.more Y CH);clear Y;go_wp2_with fail
   refine(l9 b base w2 (lb++ []) _ L.out.bld (by show ab≠ [];intro e;rw[e]at DR;simp at DR) (by have:=L.out.kept.size;omega) (by rw[bB,yO];omega)).mono ?_;rintro e w3 ⟨rfl,RT,DS⟩;have F:=za (L.out.put RT DS (by omega));clear RT DS;have q1:w3.cell? ⟨w.heap.size+1,0,none⟩=some (.string t):=F.out.it.cell 0;go_wp2_with fail
   refine(wA b base w3 _ t F.out.bld (by intro e;have:=xi List.length e;simp only[zj,zL]at this;omega) (by have:=F.out.kept.size;omega) (by simp only[zj,zL];omega)).mono ?_;rintro e w4 ⟨rfl,GZ,J4⟩;have Z:=za (F.out.put GZ J4 (by omega));clear GZ J4;go_wp2;go_end0
   exact⟨rfl,by simpa using Z.out.bld,Z.out.kept⟩
  ·obtain⟨rfl,gF⟩:=Fp I;have OE:=za hn;have r:Hid ((It.mk t true s).lay (Ty.mk 4 z d 0)=dy s.length++cz s (Ty.mk 4 z d 0) 0):=za (qt _ _ _ _ _ _);rw[r.out]at y⊢;have HP:=za (fun w' (h:ba w')=>KK s.length w' (by omega) h);have DR:=(ju s.length).1;generalize dy s.length=ab at*;rw[zj]at y;clear bF I r hn;go_enter Yg,Z8
   go_wp2_with fail
   refine(HP.out _ (AM.out.VD O.out.kept (by omega) (by omega))).mono ?_;rintro e w2 ⟨rfl,Y⟩;have L:=za (O.out.more Y CH);clear Y;go_wp2_with fail
   refine(l9 b base w2 (lb++ []) _ L.out.bld (by show ab≠ [];intro e;rw[e]at DR;simp at DR) (by have:=L.out.kept.size;omega) (by rw[bB,yO];omega)).mono ?_;rintro e w3 ⟨rfl,RT,DS⟩;have F:=za (L.out.put RT DS (by omega));clear RT DS;have q1:w3.cell? ⟨w.heap.size+1,2,none⟩=some (.slice A s.length cap):=F.out.it.cell 2;go_wp2_with fail
   go_loopw [64] (fun i wr=>∃c:Nat,c<=s.length/\i= .int .i64 c/\Hid (QF w base b lb #[.int .i64 4,.int .i64 z,.slice A' d.length aq,.int .i64 0] #[.string t,.bool true,.slice A s.length cap] w.heap.size wr (ab++cz (s.take c) (Ty.mk 4 z d 0) 0))) (fun i _=>s.length-(intOf i).toNat)
   case atStart=>exact⟨0,by omega,rfl,za (by have:=F.out;simpa[cz]using this)⟩
   case round=>
    obtain⟨c,S4,rfl,u⟩:=hrel;by_cases C:c<s.length
    ·have j:Below B w wr:=u.out.kept.below (by omega) ag;have kd:=j.size;have q2:wr.cell? ⟨w.heap.size,2,none⟩=some (.slice A' d.length aq):=u.out.ty.cell 2;obtain⟨b1,o,d0,d1,d2,rfl,kY,U,N,R,hi⟩:=HS.out.at_ c C;simp only[zM]at U N R;replace U:=(j.cell (p:=⟨b1,o+c*3,none⟩) kY).trans U;replace N:=(j.cell (p:=⟨b1,o+c*3+1,none⟩) kY).trans N;replace R:=(j.cell (p:=⟨b1,o+c*3+2,none⟩) kY).trans R;have W:0<d.length:=(by have:=OE.out;omega)
     obtain⟨m,o',f0,f1,f2,f3,rfl,M,G,k1,k2,D,x'⟩:=D3.out.at_ (0) W;simp only[zM,Nat.zero_mul,y8]at G k1 k2 D;replace G:=(j.cell (p:=⟨m,_,none⟩) M).trans G;replace k1:=(j.cell (p:=⟨m,_,none⟩) M).trans k1;replace k2:=(j.cell (p:=⟨m,_,none⟩) M).trans k2;replace D:=(j.cell (p:=⟨m,_,none⟩) M).trans D;have cX:(Ty.mk 4 z d 0).at c=d[0]:=by show(d[Oo 4 c]?).getD (.mk 0 0 [] 0)=d[0];rw[show Oo 4 c=0 from rfl,zA W];rfl
     have J:=lp s (Ty.mk 4 z d 0) 0 rq.out c C;rw[zM,cX]at J;have Bo:cz (s.take (c+1)) (Ty.mk 4 z d 0) 0=cz (s.take c) (Ty.mk 4 z d 0) 0++s[c].lay d[0]:=by rw[B8 C,cX]
     have ad:=qP s (c+1) (Ty.mk 4 z d 0);rw[Bo,zj]at ad;have UH:=za Bo;have HC:Hid (∀V,Below wr.heap.size wr V->Calls prog 154 #[.pointer (some ⟨b,0,none⟩),.agg #[f0,f1,f2,f3],.agg #[d0,d1,d2]] V fun e w'=>e= .returned (.tuple #[])/\Ei w' base b ((lb++(ab++cz (s.take c) (Ty.mk 4 z d 0) 0))++s[c].lay d[0])/\cW 5 base b V w'):=za (fun V X=>by
      have mU:Below B w V:=j.trans (X.mono (by omega));exact IH.out _ (zN C) B V d0 d1 d2 (hi.below mU) (by have:=X.size;omega) (jN D7.out c C) d[0] f0 f1 f2 f3 (x'.below mU) (dQ al.out (0) W) J b base _ (u.out.bld.La X) ag (by have:=X.size;omega) (AM.out.below mU ah) ah (by rw[zj,zj];omega))
     have an:=za W;obtain⟨A2,cn,rfl,rfl,rfl,_⟩:=hi.open_;generalize s[c].text=xt at*;generalize s[c].list=xl at*;generalize s[c].sub.length=xn at*;generalize s[c].lay d[0]=LX at*;have q:Below wr.heap.size wr (wr.alloc (.cells #[.string xt,.bool xl,.slice A2 xn cn] 28)):=(zl _ _).alloc (zd _) _;have S:=af.new wr 28 #[.string xt,.bool xl,.slice A2 xn cn];have n0:=S.cell 0;have n1:=S.cell 1;have n2:=S.cell 2;have gF:=u.out.siz;have Q2:=(q.cell (p:=⟨w.heap.size,2,none⟩) (by simp;omega)).trans q2;have K0:=(q.cell (p:=⟨m,_,none⟩) (by simp;omega)).trans G;have K1:=(q.cell (p:=⟨m,_,none⟩) (by simp;omega)).trans k1;have K2:=(q.cell (p:=⟨m,_,none⟩) (by simp;omega)).trans k2;have K3:=(q.cell (p:=⟨m,_,none⟩) (by simp;omega)).trans D;have uH:=za q;clear hi x' j cX J Bo ad q S;go_wp2_with fail
     generalize Hd:wr.alloc (.cells #[.string xt,.bool xl,.slice A2 xn cn] 28)=W1 at*;clear Hd q2 U N R G k1 k2 D;go_still_tail 6,(by kernel_rfl)
     change wpList _ _ _ _ _ W1.drew
     go_wp2_with fail
     refine(HC.out W1.drew uH.out.drew).mono ?_;rintro e w5 ⟨rfl,RS,ae⟩;have N':=za ((u.out.more uH.out.drew CH).put RS ae (by omega));clear RS ae;rw[zB,<-UH.out]at N';go_wp2;go_roundw
     case rel=>exact⟨c+1,by omega,by go_num,N'⟩
     case measure=>simp[intOf];omega
    have h1:=u.out;rw[zy (by omega)]at h1;have HM:=za h1;clear h1;go_wp2;go_end0
    exact⟨rfl,HM.out.bld,HM.out.kept⟩
  obtain⟨rfl,Yx,ao⟩:=qs I;have r:Hid ((It.mk t true s).lay (Ty.mk 5 0 d H)= []++cz s (Ty.mk 5 0 d H) 0):=za (nD _ _ _ _ _ _);rw[r.out]at y⊢;rw[zj]at y;clear bF I r;go_enter Yg,Z8
  go_wp2_with fail
  go_loopw [81] (fun i wr=>∃c:Nat,c<=s.length/\i= .int .i64 c/\Hid (QF w base b lb #[.int .i64 5,.int .i64 0,.slice A' d.length aq,.int .i64 H] #[.string t,.bool true,.slice A s.length cap] w.heap.size wr ([]++cz (s.take c) (Ty.mk 5 0 d H) 0))) (fun i _=>s.length-(intOf i).toNat)
  case atStart=>exact⟨0,by omega,rfl,za (by have:=O.out;simpa[cz]using this)⟩
  case round=>
   obtain⟨c,S4,rfl,u⟩:=hrel;by_cases C:c<s.length
   ·have j:Below B w wr:=u.out.kept.below (by omega) ag;have kd:=j.size;have q2:wr.cell? ⟨w.heap.size,2,none⟩=some (.slice A' d.length aq):=u.out.ty.cell 2;obtain⟨b1,o,d0,d1,d2,rfl,kY,U,N,R,hi⟩:=HS.out.at_ c C;simp only[zM]at U N R;replace U:=(j.cell (p:=⟨b1,o+c*3,none⟩) kY).trans U;replace N:=(j.cell (p:=⟨b1,o+c*3+1,none⟩) kY).trans N;replace R:=(j.cell (p:=⟨b1,o+c*3+2,none⟩) kY).trans R;have W:c<d.length:=(by omega)
    obtain⟨m,o',f0,f1,f2,f3,rfl,M,G,k1,k2,D,x'⟩:=D3.out.at_ (c) W;simp only[zM,Nat.zero_mul,y8]at G k1 k2 D;replace G:=(j.cell (p:=⟨m,_,none⟩) M).trans G;replace k1:=(j.cell (p:=⟨m,_,none⟩) M).trans k1;replace k2:=(j.cell (p:=⟨m,_,none⟩) M).trans k2;replace D:=(j.cell (p:=⟨m,_,none⟩) M).trans D;have cX:(Ty.mk 5 0 d H).at c=d[c]:=by show(d[Oo 5 c]?).getD (.mk 0 0 [] 0)=d[c];rw[show Oo 5 c=c from rfl,zA W];rfl
    have J:=lp s (Ty.mk 5 0 d H) 0 rq.out c C;rw[zM,cX]at J;have Bo:cz (s.take (c+1)) (Ty.mk 5 0 d H) 0=cz (s.take c) (Ty.mk 5 0 d H) 0++s[c].lay d[c]:=by rw[B8 C,cX]
    have ad:=qP s (c+1) (Ty.mk 5 0 d H);rw[Bo,zj]at ad;have UH:=za Bo;have HC:Hid (∀V,Below wr.heap.size wr V->Calls prog 154 #[.pointer (some ⟨b,0,none⟩),.agg #[f0,f1,f2,f3],.agg #[d0,d1,d2]] V fun e w'=>e= .returned (.tuple #[])/\Ei w' base b ((lb++([]++cz (s.take c) (Ty.mk 5 0 d H) 0))++s[c].lay d[c])/\cW 5 base b V w'):=za (fun V X=>by
     have mU:Below B w V:=j.trans (X.mono (by omega));exact IH.out _ (zN C) B V d0 d1 d2 (hi.below mU) (by have:=X.size;omega) (jN D7.out c C) d[c] f0 f1 f2 f3 (x'.below mU) (dQ al.out (c) W) J b base _ (u.out.bld.La X) ag (by have:=X.size;omega) (AM.out.below mU ah) ah (by rw[zj,zj];omega))
    have an:=za W;obtain⟨A2,cn,rfl,rfl,rfl,_⟩:=hi.open_;generalize s[c].text=xt at*;generalize s[c].list=xl at*;generalize s[c].sub.length=xn at*;generalize s[c].lay d[c]=LX at*;have q:Below wr.heap.size wr (wr.alloc (.cells #[.string xt,.bool xl,.slice A2 xn cn] 28)):=(zl _ _).alloc (zd _) _;have S:=af.new wr 28 #[.string xt,.bool xl,.slice A2 xn cn];have n0:=S.cell 0;have n1:=S.cell 1;have n2:=S.cell 2;have gF:=u.out.siz;have Q2:=(q.cell (p:=⟨w.heap.size,2,none⟩) (by simp;omega)).trans q2;have K0:=(q.cell (p:=⟨m,_,none⟩) (by simp;omega)).trans G;have K1:=(q.cell (p:=⟨m,_,none⟩) (by simp;omega)).trans k1;have K2:=(q.cell (p:=⟨m,_,none⟩) (by simp;omega)).trans k2;have K3:=(q.cell (p:=⟨m,_,none⟩) (by simp;omega)).trans D;have uH:=za q;clear hi x' j cX J Bo ad q S;go_wp2_with fail
    generalize Hd:wr.alloc (.cells #[.string xt,.bool xl,.slice A2 xn cn] 28)=W1 at*;clear Hd q2 U N R G k1 k2 D;go_still_tail 7,(by kernel_rfl)
    change wpList _ _ _ _ _ W1.drew
    go_wp2_with fail
    refine(HC.out W1.drew uH.out.drew).mono ?_;rintro e w5 ⟨rfl,RS,ae⟩;have N':=za ((u.out.more uH.out.drew CH).put RS ae (by omega));clear RS ae;rw[zB,<-UH.out]at N';go_wp2;go_roundw
    case rel=>exact⟨c+1,by omega,by go_num,N'⟩
    case measure=>simp[intOf];omega
   have h1:=u.out;rw[zy (by omega)]at h1;have HM:=za h1;clear h1;go_wp2;go_end0
   exact⟨rfl,HM.out.bld,HM.out.kept⟩
theorem wE :∀(s:List It) (t:Ty) (i:Nat),(∀j (h:j<s.length),((s[j]).lay (t.at (i+j))).length<=65545*(s[j]).count)->(cz s t i).length<=65545*aM s
 | [],_,_,_=>by simp[cz,aM]
 |x::xs,t,i,h=>by
  have b:=h 0 (by simp);simp only[yQ,y8]at b;have d:=wE xs t (i+1) (fun j c=>by have:=h (j+1) (by simpa using c);simpa[show i+(j+1)=i+1+j from by omega]using this);simp only[cz,zj,aM];omega
theorem Uh (x:It):∀t:Ty,t.right=true->x.dj t=true->(x.lay t).length<=65545*x.count:=by
 induction x using It.ind with
 |h tx b s ih=>
  intro t y hi;obtain⟨k,z,l,e⟩:=t;obtain⟨C,u⟩:=jM y;simp only[It.dj,zx]at hi;obtain⟨q,B⟩:=hi;have w:=lp s _ 0 B;rcases lT C with⟨rfl,D,i,p⟩|⟨rfl,o,n,i,p⟩|⟨rfl,o,n,i,p⟩|⟨rfl,o,n,i,p⟩|⟨rfl,o,n,H,E⟩
  ·rw[uk,bh];simp only[It.count];omega
  ·have:=C7 q;rw[uq,aa];simp only[It.count];omega
  ·have:=rM q;rw[oo,zj,aa];have:=ju tx.size;simp only[It.count];omega
  ·have G:=ju s.length;have A:=wE s (.mk 4 z l e) 0 (fun j d=>by
    have c:=w j d;have m:(Ty.mk 4 z l e).at (0+j)=l[0]'(by omega):=by unfold Ty.at;simp[i]
    rw[m]at c⊢;exact ih _ (zN d) _ (dQ u 0 (by omega)) c)
   rw[qt,zj];simp only[It.count];omega
  have F:=qs q;have A:=wE s (.mk 5 z l e) 0 (fun j d=>by
   have c:=w j d;have r:j<l.length:=by omega
   have m:(Ty.mk 5 z l e).at (0+j)=l[j]:=by unfold Ty.at;simp[r]
   rw[m]at c⊢;exact ih _ (zN d) _ (dQ u j r) c)
  rw[nD];simp only[It.count];omega
structure Nr (w:World)(k1 k2:Array Value)(V:World):Prop where
 ty:af V w.heap.size 43 k1
 it:af V (w.heap.size+1) 28 k2
 bel:Below w.heap.size w V
 siz:w.heap.size+2<=V.heap.size
theorem Nr.start (w:World)(k1 k2:Array Value):Nr w k1 k2 ((w.alloc (.cells k1 43)).alloc (.cells k2 28)) where
 ty:=(af.new w _ _).alloc _
 it:=af.at_ (by simp)
 bel:=((zl _ w).alloc (zd _) _).alloc (by simp) _
 siz:=by simp
theorem Nr.more {w V V':World}{k1 k2:Array Value}(h:Nr w k1 k2 V)(b:Below V.heap.size V V'):Nr w k1 k2 V' where
 ty:=(b.block _ h.ty.lt).trans h.ty
 it:=(b.block _ h.it.lt).trans h.it
 bel:=h.bel.trans (b.mono h.bel.size)
 siz:=zF h.siz b.size
theorem o4 {w:World}{g:Nat}{t:TypeId}{a b c:Value}(h:af w g t #[a,b,c]):w.cell? ⟨g,0,none⟩=some a/\w.cell? ⟨g,1,none⟩=some b/\w.cell? ⟨g,2,none⟩=some c:=⟨h.cell 0,h.cell 1,h.cell 2⟩
theorem o5 {w:World}{g:Nat}{t:TypeId}{a b c d:Value}(h:af w g t #[a,b,c,d]):w.cell? ⟨g,0,none⟩=some a/\w.cell? ⟨g,1,none⟩=some b/\w.cell? ⟨g,2,none⟩=some c/\w.cell? ⟨g,3,none⟩=some d:=⟨h.cell 0,h.cell 1,h.cell 2,h.cell 3⟩
theorem Gc (ty:Ty)(x:It)(M:Int)(B:Nat)(w:World)(W R Z t3 X c1 Y:Value)(D:cD w B ty W R Z t3)(C:dg w B x X c1 Y)(z:B<=w.heap.size)(K:Laid w)(O:ba w):
 Calls prog 121 #[.agg #[W,R,Z,t3],.agg #[X,c1,Y],.int .i64 M] w fun e w'=>e= .returned (.tuple #[.string (oS ty x M).1,.int .i64 (oS ty x M).2])/\Below w.heap.size w w':=by
 have gw:=K.pos;have Wf:=O.pos;have L:=za (fun V (h:Below w.heap.size w V)=>Je ty B V W R Z t3 (D.below (h.mono z)) (by have:=h.size;omega) (K.below h gw));have U:=za (fun V (h:Below w.heap.size w V)=>Jj ty x B V W R Z t3 X c1 Y (D.below (h.mono z)) (C.below (h.mono z)) (by have:=h.size;omega) (K.below h gw));obtain⟨E,d⟩:∃E,jO ty x M=E:=⟨_,rfl⟩
 obtain⟨P,N⟩:∃P,oS ty x M=P:=⟨_,rfl⟩
 have y:P=if E=0 then(⟨(x.lay ty).toArray⟩,0)else(⟨#[]⟩,E):=by rw[<-N,<-d];rfl
 rw[N];unfold jO at d;obtain⟨A,cap,ai,aa,ab,ah,_⟩:=D.open_;obtain⟨A',aq,ag,ad,ae,_⟩:=C.open_;cases hf:ty.flat with
 |false=>
  rw[hf]at L;rw[zi hf]at d;have I:Hid (P=(⟨#[]⟩,1)):=za (by rw[y,zh (by omega),<-d]);clear d N y hf D C K O U;subst ai aa ab ah ag ad ae;generalize ty.kind=ki at*;generalize ty.size=si at*;generalize ty.tail=ta at*;go_enter func121,ntmps121
  go_wp2_with fail
  refine(L.out _ (Nr.start w _ _).bel).mono ?_;rintro e w1 ⟨rfl,q⟩;have c:=(Nr.start w _ _).more q;have r:=za c;clear q;obtain⟨j,p,m,o⟩:=o5 c.ty;obtain⟨l,k,n⟩:=o4 c.it;clear c;go_wp2;go_ret2
  exact⟨by rw[I.out];rfl,r.out.bel⟩
 |true=>
  rw[hf]at L;rw[zh (by simp[hf])]at d;by_cases G:eO ty x≠0
  ·rw[zi G]at d;have e1:(eO ty x !=0)=true:=yL.2 G;have I:Hid (P=(⟨#[]⟩,eO ty x)):=za (by rw[y,zh (by rw[<-d];exact G),<-d]);clear d N y hf D C K O;subst ai aa ab ah ag ad ae;generalize eO ty x=F at*;generalize ty.kind=ki at*;generalize ty.size=si at*;generalize ty.tail=ta at*;generalize ty.sub.length=tn at*;generalize x.text=xt at*;generalize x.list=xl at*;generalize x.sub.length=xn at*;go_enter func121,ntmps121
   go_wp2_with fail
   refine(L.out _ (Nr.start w _ _).bel).mono ?_;rintro e w1 ⟨rfl,q⟩;have c:=(Nr.start w _ _).more q;have r:=za c;clear q;obtain⟨j,p,m,o⟩:=o5 c.ty;obtain⟨l,k,n⟩:=o4 c.it;clear c;go_wp2_with fail
   refine(U.out _ r.out.bel).mono ?_;rintro e w2 ⟨rfl,u⟩;have i:=r.out.more u;have H:=za i;clear u j p m o l k n;obtain⟨j,p,m,o⟩:=o5 i.ty;obtain⟨l,k,n⟩:=o4 i.it;clear i;go_wp2;go_ret2
   exact⟨by rw[I.out];rfl,H.out.bel⟩
  rw[zh G]at d;have aj:eO ty x=0:=zC.1 G;rw[aj]at U;obtain⟨_,rA,_,_,mD⟩:=lY hf;obtain⟨_,Re,pK⟩:=B9 aj;obtain⟨al,_,ar⟩:=sY Re;have HC:=za (fun V (h:Below w.heap.size w V)=>Nq x B V X c1 Y (C.below (h.mono z)) (by have:=h.size;omega) Re al);by_cases hM:M<x.count
  ·rw[zi hM]at d;have d1:decide (M<(x.count:Int))=true:=zE hM;have I:Hid (P=(⟨#[]⟩,4)):=za (by rw[y,zh (by omega),<-d]);clear d N y hf D C K O G;subst ai aa ab ah ag ad ae;generalize ty.kind=ki at*;generalize ty.size=si at*;generalize ty.tail=ta at*;generalize ty.sub.length=tn at*;generalize x.text=xt at*;generalize x.list=xl at*;generalize x.sub.length=xn at*;generalize x.count=xc at*;go_enter func121,ntmps121
   go_wp2_with fail
   refine(L.out _ (Nr.start w _ _).bel).mono ?_;rintro e w1 ⟨rfl,q⟩;have c:=(Nr.start w _ _).more q;have r:=za c;clear q;obtain⟨j,p,m,o⟩:=o5 c.ty;obtain⟨l,k,n⟩:=o4 c.it;clear c;go_wp2_with fail
   refine(U.out _ r.out.bel).mono ?_;rintro e w2 ⟨rfl,u⟩;have i:=r.out.more u;have H:=za i;clear u j p m o l k n;obtain⟨j,p,m,o⟩:=o5 i.ty;obtain⟨l,k,n⟩:=o4 i.it;clear i;go_wp2_with fail
   refine(HC.out _ H.out.bel).mono ?_;rintro e w3 ⟨rfl,S⟩;have s:=H.out.more S;have J:=za s;clear S j p m o l k n;obtain⟨j,p,m,o⟩:=o5 s.ty;obtain⟨l,k,n⟩:=o4 s.it;clear s;go_wp2;go_ret2
   exact⟨by rw[I.out];rfl,J.out.bel⟩
  rw[zh hM]at d;have d1:decide (M<(x.count:Int))=false:=zu hM;have I:Hid (P=(⟨(x.lay ty).toArray⟩,0)):=za (by rw[y,zi (by omega)]);have Rb:=Uh x ty rA pK;have an:=za (fun V (h:Below w.heap.size w V) (b:Nat) (hb:Ei V (b+1) b []) (uG:w.heap.size<=b) (ao:b<V.heap.size)=>acB x w.heap.size V X c1 Y ((C.below (h.mono z)).mono z) h.size al ty W R Z t3 ((D.below (h.mono z)).mono z) rA pK b (b+1) [] hb uG ao (O.below h Wf) Wf (by simp only[zL];omega));have N9:Hid ((x.lay ty).length<=1099511627776):=za (by omega);simp only[yu]at an;clear d N y hf D C K O G Rb;subst ai aa ab ah ag ad ae;generalize x.lay ty=LX at*;generalize ty.kind=ki at*;generalize ty.size=si at*;generalize ty.tail=ta at*;generalize ty.sub.length=tn at*;generalize x.text=xt at*;generalize x.list=xl at*;generalize x.sub.length=xn at*;generalize x.count=xc at*;go_enter func121,ntmps121
  go_wp2_with fail
  refine(L.out _ (Nr.start w _ _).bel).mono ?_;rintro e w1 ⟨rfl,q⟩;have c:=(Nr.start w _ _).more q;have r:=za c;clear q;obtain⟨j,p,m,o⟩:=o5 c.ty;obtain⟨l,k,n⟩:=o4 c.it;clear c;go_wp2_with fail
  refine(U.out _ r.out.bel).mono ?_;rintro e w2 ⟨rfl,u⟩;have i:=r.out.more u;have H:=za i;clear u j p m o l k n;obtain⟨j,p,m,o⟩:=o5 i.ty;obtain⟨l,k,n⟩:=o4 i.it;clear i;go_wp2_with fail
  refine(HC.out _ H.out.bel).mono ?_;rintro e w3 ⟨rfl,S⟩;have s:=H.out.more S;have J:=za s;clear S j p m o l k n;obtain⟨j,p,m,o⟩:=o5 s.ty;obtain⟨l,k,n⟩:=o4 s.it;clear s;have RA:=J.out.more ((zl w3.heap.size w3).alloc (zd _) (.cells #[.pointer none,.slice none 0 0] 199));obtain⟨Q0,Q1,Q2,Q3⟩:=o5 RA.ty;obtain⟨R0,R1,R2⟩:=o4 RA.it;clear RA;have au:=J.out.bel.size;go_wp2_with fail
  have ak:Ei (w3.alloc (.cells #[.pointer none,.slice none 0 0] 199)) (w3.heap.size+1) w3.heap.size []:=⟨by omega,_,_,af.new w3 _ _,.inl rfl,bL.nil _ _ _,fun _=>rfl⟩
  have Ex:Below w.heap.size w (w3.alloc (.cells #[.pointer none,.slice none 0 0] 199)):=J.out.bel.alloc J.out.bel.size _;refine(an.out _ Ex w3.heap.size ak J.out.bel.size (by simp)).mono ?_;rintro e w4 ⟨rfl,bR,J4⟩;have ei:=za bR;have dH:Hid (Below w.heap.size w w4):=za (Ex.trans (J4.below (by omega) (by omega)));clear bR J4 ak Ex;go_wp2_with fail
  refine(F' w3.heap.size (w3.heap.size+1) w4 LX ei.out N9.out w.heap.size (by omega)).mono ?_;rintro e w5 ⟨rfl,jl,_⟩;go_wp2;go_ret2
  exact⟨by rw[I.out];rfl,dH.out.trans jl⟩
