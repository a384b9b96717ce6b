/- layout.lay: a value's layout is written. -/
import Derived.Test.YtdbmifjankgfpaaGreatDoorKA29
import Derived.Test.YtdbmifjankgfpaaGreatDoorKA30
set_option linter.all false
set_option maxRecDepth 100000
set_option maxHeartbeats 3200000
open Go.Proofs.Tryz
namespace Go.Proofs.YtdbmifjankgfpaaGreatDoor
open Go.RowKit
variable {w w' wr:World}{base g:Nat}{k1 k2:Array Value}{l lb:List UInt8}{E t:TypeId}{a:Value}
def Z1:=@ntmps154
def Yb:=@func154
theorem DZ.KY {b:Nat}(h:DZ w base b l)(d:Below w.heap.size w w'):DZ w' base b l:=by
 obtain⟨j,p,v,c,k,e,i⟩:=h;exact⟨j,p,v,(d.block b c.lt).trans c,k,e.below d,i⟩
theorem dg.Vr {b:Nat}{e:World}(h:dg E base b e w)(c:Below w.heap.size w w')(i:base<=w.heap.size):dg E base b e w':=
 h.trans ⟨c.os,c.tape,c.output,c.size,fun k d _=>c.block k (by omega),fun k o d _ _=>(c.block k (yg.1 d).1).trans d⟩
structure QH (w:World)(base b:Nat)(lb:List UInt8)(k1 k2:Array Value)(g:Nat)(wr:World)(l:List UInt8):Prop where
 ty:af wr g 43 k1
 it:af wr (g+1) 28 k2
 bld:DZ wr base b (lb++l)
 kept:dg 5 base b w wr
 siz:g+1<wr.heap.size
theorem QH.start {b:Nat}(h:DZ w base b lb)(d:base<=w.heap.size):QH w base b lb k1 k2 w.heap.size ((w.alloc (.cells k1 43)).alloc (.cells k2 28)) [] where
 ty:=(af.new w _ _).alloc _
 it:=by have:=af.new (w.alloc (.cells k1 43)) 28 k2;simpa using this
 bld:=by
  have c:Below w.heap.size w ((w.alloc (.cells k1 43)).alloc (.cells k2 28)):=((zm _ w).alloc (zg _) _).alloc (by simp) _;rw[yW];exact h.KY c
 kept:=by
  have c:Below w.heap.size w ((w.alloc (.cells k1 43)).alloc (.cells k2 28)):=((zm _ w).alloc (zg _) _).alloc (by simp) _;exact(dg.refl _ _ _ _).Vr c d
 siz:=by simp
theorem QH.more {b:Nat}(h:QH w base b lb k1 k2 g wr l)(c:Below wr.heap.size wr w')(d:base<=w.heap.size):QH w base b lb k1 k2 g w' l where
 ty:=(c.block _ h.ty.lt).trans h.ty
 it:=(c.block _ h.it.lt).trans h.it
 bld:=h.bld.KY c
 kept:=h.kept.Vr c (by have:=h.kept.size;omega)
 siz:=by have:=c.size;have:=h.siz;omega
theorem QH.put {b:Nat}{m:List UInt8}(h:QH w base b lb k1 k2 g wr l)(d:DZ w' base b ((lb++l)++m))(c:dg 5 base b wr w')(e:b<g):QH w base b lb k1 k2 g w' (l++m) where
 ty:=c.blk h.ty (by omega) (by decide)
 it:=c.blk h.it (by omega) (by decide)
 bld:=by rw[<-zE];exact d
 kept:=h.kept.trans c
 siz:=by have:=c.size;have:=h.siz;omega
theorem bq.Vs {b:Nat}(h:bq w)(d:dg E base b w w')(c:0<base)(e:0<b):bq w':=h.same (d.block _ c (by omega))
theorem Xy {t:ByteArray}(e:t.size<=8)(c:gG t.data.toList=false):SM t false=lI t.data.toList:=by
 have d:pH t=0:=by
  unfold pH;by_cases b:t.size=0
  ·rw[zi b]
  rw[zh b,zh (by omega),c];rfl
 simp[SM,vP,d]
theorem qE (s:List It)(k:Nat)(t:Ty):(cz (s.take k) t 0).length<=(cz s t 0).length:=by
 have:=xo List.length (sX (s.take k) (s.drop k) t 0);rw[zI,zl]at this;omega
theorem ab3 :∀(x:It) (B:Nat) (w:World) (c0 c1 c2:Value),dX w B x c0 c1 c2->B<=w.heap.size->x.right=true->∀(ty:Ty) (t0 t1 t2 t3:Value),cG w B ty t0 t1 t2 t3->ty.right=true->x.dr ty=true->
 ∀(b base:Nat) (lb:List UInt8),DZ w base b lb->B<=b->base<=w.heap.size->bq w->0<B->lb.length+(x.lay ty).length<=1099511627776->
 Calls prog 154 #[.pointer (some ⟨b,0,none⟩),.agg #[t0,t1,t2,t3],.agg #[c0,c1,c2]] w fun e w'=>e= .returned (.tuple #[])/\DZ w' base b (lb++x.lay ty)/\dg 5 base b w w':=by
 intro x;induction x using It.ind with
 |h t l s ih=>
  intro B w c0 c1 c2 h hB hr ty t0 t1 t2 t3 hT rq I b base lb UT ah DD jl ag y;obtain⟨rfl,rfl,ht,hs,A,cap,rfl,so,mA,fx⟩:=h;have IH:=za ih;have HS:=za fx;clear ih fx;obtain⟨k,z,d,F⟩:=ty;obtain⟨rfl,rfl,rfl,hk,hz,oq,Ba,A',aq,rfl,av,ar,RM⟩:=hT;obtain⟨bG,Ab⟩:=jL rq;have fA:b<base:=UT.1;have M:=za (QH.start (k1:= #[.int .i64 k,.int .i64 z,.slice A' d.length aq,.int .i64 F]) (k2:= #[.string t,.bool l,.slice A s.length cap]) UT DD);simp only[It.dr,zy]at I;obtain⟨K,ea⟩:=I;have DK:=za hr;have DI:=za RM;have al:=za Ab;have qX:=za ea;have Am:=za jl;unfold mL at hk hz oq;clear hr RM Ab rq UT ea jl;rcases lM bG with⟨rfl,h3,hn,rfl⟩|⟨rfl,h3,h4,hn,rfl⟩|⟨rfl,h3,h4,hn,rfl⟩|⟨rfl,h3,h4,hn,rfl⟩|⟨rfl,rfl,h4,h5,h6⟩
  ·obtain⟨L,rfl⟩:∃L:Nat,z=L:=⟨z.toNat,by omega⟩
   obtain⟨rfl,eX,Gh⟩:=Km K;obtain rfl:d= []:=zp hn;have r:Hid ((It.mk t false s).lay (Ty.mk 1 L [] 0)=jF (lI t.data.toList) L):=za (uf _ _ _ _ _ _);rw[r.out]at y⊢;have ak:=Xy (t:=t) (by omega) Gh;have HO:=za (fun w'=>abR t false (.slice A s.length cap) w' (by omega));rw[ak]at HO;have aj:=uG t.data.toList;rw[aa]at aj;have S4:lI t.data.toList<2^(8*L):=zU aj (yu (by omega) (by omega));have HD:=za (fun w'=>jS (lI t.data.toList) L w' S4 (by omega) (by omega));rw[bd]at y;have ai:(jF (lI t.data.toList) L).length=L:=bd _ _;generalize Xj t false=E at*;generalize jF (lI t.data.toList) L=ab at*;generalize lI t.data.toList=n at*;clear bG IH HS DI K ak aj S4 r;go_enter Yb,Z1
   go_wp2_with fail
   refine(HO.out _).mono ?_;rintro e w2 ⟨rfl,Y⟩;have J:=za (M.out.more Y DD);clear Y;have q1:w2.cell? ⟨w.heap.size,1,none⟩=some (.int .i64 L):=J.out.ty.cell 1;go_wp2_with fail
   refine(HD.out _).mono ?_;rintro e w3 ⟨rfl,ca⟩;have H:=za (J.out.more ca DD);clear ca;go_wp2_with fail
   refine(lZ b base w3 (lb++ []) _ H.out.bld (by show ab≠ [];intro e;rw[e]at ai;simp at ai;omega) (by have:=H.out.kept.size;omega) (by rw[bP,yW,ai];exact y)).mono ?_;rintro e w4 ⟨rfl,Z,JQ⟩;have RN:=za (H.out.put Z JQ (by omega));clear Z JQ;go_wp2;go_end0
   exact⟨rfl,by simpa using RN.out.bld,RN.out.kept⟩
  ·obtain⟨rfl,eX⟩:=CR K;obtain rfl:d= []:=zp hn;have r:Hid ((It.mk t false s).lay (Ty.mk 2 z [] 0)=t.data.toList):=za (ug _ _ _ _ _ _);rw[r.out]at y⊢;rw[aa]at y;clear bG IH HS DI K r;go_enter Yb,Z1
   go_wp2_with fail
   refine(lZ b base _ (lb++ []) t M.out.bld (by intro e;have:=xo List.length e;rw[aa,zJ]at this;omega) (by have:=M.out.kept.size;omega) (by rw[yW];exact y)).mono ?_;rintro e w4 ⟨rfl,Z,JQ⟩;have RN:=za (M.out.put Z JQ (by omega));clear Z JQ;go_wp2;go_end0
   exact⟨rfl,by simpa using RN.out.bld,RN.out.kept⟩
  ·obtain⟨rfl,eX⟩:=rK K;obtain rfl:d= []:=zp hn;have r:Hid ((It.mk t false s).lay (Ty.mk 3 z [] 0)=dC t.size++t.data.toList):=za (nY _ _ _ _ _ _);rw[r.out]at y⊢;have HP:=za (fun w' (h:bq w')=>KB t.size w' (by omega) h);have GQ:=(jt t.size).1;generalize dC t.size=ab at*;rw[zl,aa]at y;have ao:ab++t.data.toList≠ []:=fun e=>by have:=xo List.length e;rw[zl,zJ]at this;omega
   clear bG IH HS DI K r;go_enter Yb,Z1
   go_wp2_with fail
   refine(HP.out _ (Am.out.Vs M.out.kept (by omega) (by omega))).mono ?_;rintro e w2 ⟨rfl,Y⟩;have J:=za (M.out.more Y DD);clear Y;go_wp2_with fail
   refine(lZ b base w2 (lb++ []) _ J.out.bld (by show ab≠ [];intro e;rw[e]at GQ;simp at GQ) (by have:=J.out.kept.size;omega) (by rw[bP,yW];omega)).mono ?_;rintro e w3 ⟨rfl,RO,Dy⟩;have H:=za (J.out.put RO Dy (by omega));clear RO Dy;have q1:w3.cell? ⟨w.heap.size+1,0,none⟩=some (.string t):=H.out.it.cell 0;go_wp2_with fail
   refine(wg b base w3 _ t H.out.bld (by intro e;have:=xo List.length e;simp only[zl,zJ]at this;omega) (by have:=H.out.kept.size;omega) (by simp only[zl,zJ];omega)).mono ?_;rintro e w4 ⟨rfl,Z,JQ⟩;have RN:=za (H.out.put Z JQ (by omega));clear Z JQ;go_wp2;go_end0
   exact⟨rfl,by simpa using RN.out.bld,RN.out.kept⟩
  ·obtain⟨rfl,eX⟩:=EW K;have OA:=za hn;have r:Hid ((It.mk t true s).lay (Ty.mk 4 z d 0)=dC s.length++cz s (Ty.mk 4 z d 0) 0):=za (qg _ _ _ _ _ _);rw[r.out]at y⊢;have HP:=za (fun w' (h:bq w')=>KB s.length w' (by omega) h);have GQ:=(jt s.length).1;generalize dC s.length=ab at*;rw[zl]at y;clear bG K r hn;go_enter Yb,Z1
   go_wp2_with fail
   refine(HP.out _ (Am.out.Vs M.out.kept (by omega) (by omega))).mono ?_;rintro e w2 ⟨rfl,Y⟩;have J:=za (M.out.more Y DD);clear Y;go_wp2_with fail
   refine(lZ b base w2 (lb++ []) _ J.out.bld (by show ab≠ [];intro e;rw[e]at GQ;simp at GQ) (by have:=J.out.kept.size;omega) (by rw[bP,yW];omega)).mono ?_;rintro e w3 ⟨rfl,RO,Dy⟩;have H:=za (J.out.put RO Dy (by omega));clear RO Dy;have q1:w3.cell? ⟨w.heap.size+1,2,none⟩=some (.slice A s.length cap):=H.out.it.cell 2;go_wp2_with fail
   go_loopw [64] (fun i wr=>∃c:Nat,c<=s.length/\i= .int .i64 c/\Hid (QH w base b lb #[.int .i64 4,.int .i64 z,.slice A' d.length aq,.int .i64 0] #[.string t,.bool true,.slice A s.length cap] w.heap.size wr (ab++cz (s.take c) (Ty.mk 4 z d 0) 0))) (fun i _=>s.length-(intOf i).toNat)
   case atStart=>exact⟨0,by omega,rfl,za (by have:=H.out;simpa[cz]using this)⟩
   case round=>
    obtain⟨c,SX,rfl,u⟩:=hrel;by_cases C:c<s.length
    ·have j:Below B w wr:=u.out.kept.below (by omega) ah;have mc:=j.size;have q2:wr.cell? ⟨w.heap.size,2,none⟩=some (.slice A' d.length aq):=u.out.ty.cell 2;obtain⟨b1,o,d0,d1,d2,rfl,jJ,N,U,O,hi⟩:=HS.out.at_ c C;simp only[zQ]at N U O;replace N:=(j.cell (p:=⟨b1,o+c*3,none⟩) jJ).trans N;replace U:=(j.cell (p:=⟨b1,o+c*3+1,none⟩) jJ).trans U;replace O:=(j.cell (p:=⟨b1,o+c*3+2,none⟩) jJ).trans O;have R:0<d.length:=(by have:=OA.out;omega)
     obtain⟨m,o',f0,f1,f2,f3,rfl,X,D,k1,k2,G,Dx⟩:=DI.out.at_ (0) R;simp only[zQ,Nat.zero_mul,xd]at D k1 k2 G;replace D:=(j.cell (p:=⟨m,_,none⟩) X).trans D;replace k1:=(j.cell (p:=⟨m,_,none⟩) X).trans k1;replace k2:=(j.cell (p:=⟨m,_,none⟩) X).trans k2;replace G:=(j.cell (p:=⟨m,_,none⟩) X).trans G;have du:(Ty.mk 4 z d 0).at c=d[0]:=by show(d[Om 4 c]?).getD (.mk 0 0 [] 0)=d[0];rw[show Om 4 c=0 from rfl,zB R];rfl
     have I:=lf s (Ty.mk 4 z d 0) 0 qX.out c C;rw[zQ,du]at I;have AZ:cz (s.take (c+1)) (Ty.mk 4 z d 0) 0=cz (s.take c) (Ty.mk 4 z d 0) 0++s[c].lay d[0]:=by rw[BW C,du]
     have ad:=qE s (c+1) (Ty.mk 4 z d 0);rw[AZ,zl]at ad;have Rm:=za AZ;have HC:Hid (∀V,Below wr.heap.size wr V->Calls prog 154 #[.pointer (some ⟨b,0,none⟩),.agg #[f0,f1,f2,f3],.agg #[d0,d1,d2]] V fun e w'=>e= .returned (.tuple #[])/\DZ w' base b ((lb++(ab++cz (s.take c) (Ty.mk 4 z d 0) 0))++s[c].lay d[0])/\dg 5 base b V w'):=za (fun V S=>by
      have mP:Below B w V:=j.trans (S.mono (by omega));exact IH.out _ (zR C) B V d0 d1 d2 (hi.below mP) (by have:=S.size;omega) (jM DK.out c C) d[0] f0 f1 f2 f3 (Dx.below mP) (dT al.out (0) R) I b base _ (u.out.bld.KY S) ah (by have:=S.size;omega) (Am.out.below mP ag) ag (by rw[zl,zl];omega))
     have an:=za R;obtain⟨A2,cC,rfl,rfl,rfl,_⟩:=hi.open_;generalize s[c].text=xt at*;generalize s[c].list=xl at*;generalize s[c].sub.length=xn at*;generalize s[c].lay d[0]=LX at*;have q:Below wr.heap.size wr (wr.alloc (.cells #[.string xt,.bool xl,.slice A2 xn cC] 28)):=(zm _ _).alloc (zg _) _;have W:=af.new wr 28 #[.string xt,.bool xl,.slice A2 xn cC];have n0:=W.cell 0;have n1:=W.cell 1;have n2:=W.cell 2;have eX:=u.out.siz;have Q2:=(q.cell (p:=⟨w.heap.size,2,none⟩) (by simp;omega)).trans q2;have K0:=(q.cell (p:=⟨m,_,none⟩) (by simp;omega)).trans D;have K1:=(q.cell (p:=⟨m,_,none⟩) (by simp;omega)).trans k1;have K2:=(q.cell (p:=⟨m,_,none⟩) (by simp;omega)).trans k2;have K3:=(q.cell (p:=⟨m,_,none⟩) (by simp;omega)).trans G;have GY:=za q;clear hi Dx j du I AZ ad q W;go_wp2_with fail
     generalize Al:wr.alloc (.cells #[.string xt,.bool xl,.slice A2 xn cC] 28)=W1 at*;clear Al q2 N U O D k1 k2 G;go_still_tail 6,(by kernel_rfl)
     change wpList _ _ _ _ _ W1.drew
     go_wp2_with fail
     refine(HC.out W1.drew GY.out.drew).mono ?_;rintro e w5 ⟨rfl,RP,ae⟩;have N9:=za ((u.out.more GY.out.drew DD).put RP ae (by omega));clear RP ae;rw[zE,<-Rm.out]at N9;go_wp2;go_roundw
     case rel=>exact⟨c+1,by omega,by go_num,N9⟩
     case measure=>simp[intOf];omega
    have h1:=u.out;rw[zz (by omega)]at h1;have HM:=za h1;clear h1;go_wp2;go_end0
    exact⟨rfl,HM.out.bld,HM.out.kept⟩
  obtain⟨rfl,X1,au⟩:=qf K;have r:Hid ((It.mk t true s).lay (Ty.mk 5 0 d F)= []++cz s (Ty.mk 5 0 d F) 0):=za (nn _ _ _ _ _ _);rw[r.out]at y⊢;rw[zl]at y;clear bG K r;go_enter Yb,Z1
  go_wp2_with fail
  go_loopw [81] (fun i wr=>∃c:Nat,c<=s.length/\i= .int .i64 c/\Hid (QH w base b lb #[.int .i64 5,.int .i64 0,.slice A' d.length aq,.int .i64 F] #[.string t,.bool true,.slice A s.length cap] w.heap.size wr ([]++cz (s.take c) (Ty.mk 5 0 d F) 0))) (fun i _=>s.length-(intOf i).toNat)
  case atStart=>exact⟨0,by omega,rfl,za (by have:=M.out;simpa[cz]using this)⟩
  case round=>
   obtain⟨c,SX,rfl,u⟩:=hrel;by_cases C:c<s.length
   ·have j:Below B w wr:=u.out.kept.below (by omega) ah;have mc:=j.size;have q2:wr.cell? ⟨w.heap.size,2,none⟩=some (.slice A' d.length aq):=u.out.ty.cell 2;obtain⟨b1,o,d0,d1,d2,rfl,jJ,N,U,O,hi⟩:=HS.out.at_ c C;simp only[zQ]at N U O;replace N:=(j.cell (p:=⟨b1,o+c*3,none⟩) jJ).trans N;replace U:=(j.cell (p:=⟨b1,o+c*3+1,none⟩) jJ).trans U;replace O:=(j.cell (p:=⟨b1,o+c*3+2,none⟩) jJ).trans O;have R:c<d.length:=(by omega)
    obtain⟨m,o',f0,f1,f2,f3,rfl,X,D,k1,k2,G,Dx⟩:=DI.out.at_ (c) R;simp only[zQ,Nat.zero_mul,xd]at D k1 k2 G;replace D:=(j.cell (p:=⟨m,_,none⟩) X).trans D;replace k1:=(j.cell (p:=⟨m,_,none⟩) X).trans k1;replace k2:=(j.cell (p:=⟨m,_,none⟩) X).trans k2;replace G:=(j.cell (p:=⟨m,_,none⟩) X).trans G;have du:(Ty.mk 5 0 d F).at c=d[c]:=by show(d[Om 5 c]?).getD (.mk 0 0 [] 0)=d[c];rw[show Om 5 c=c from rfl,zB R];rfl
    have I:=lf s (Ty.mk 5 0 d F) 0 qX.out c C;rw[zQ,du]at I;have AZ:cz (s.take (c+1)) (Ty.mk 5 0 d F) 0=cz (s.take c) (Ty.mk 5 0 d F) 0++s[c].lay d[c]:=by rw[BW C,du]
    have ad:=qE s (c+1) (Ty.mk 5 0 d F);rw[AZ,zl]at ad;have Rm:=za AZ;have HC:Hid (∀V,Below wr.heap.size wr V->Calls prog 154 #[.pointer (some ⟨b,0,none⟩),.agg #[f0,f1,f2,f3],.agg #[d0,d1,d2]] V fun e w'=>e= .returned (.tuple #[])/\DZ w' base b ((lb++([]++cz (s.take c) (Ty.mk 5 0 d F) 0))++s[c].lay d[c])/\dg 5 base b V w'):=za (fun V S=>by
     have mP:Below B w V:=j.trans (S.mono (by omega));exact IH.out _ (zR C) B V d0 d1 d2 (hi.below mP) (by have:=S.size;omega) (jM DK.out c C) d[c] f0 f1 f2 f3 (Dx.below mP) (dT al.out (c) R) I b base _ (u.out.bld.KY S) ah (by have:=S.size;omega) (Am.out.below mP ag) ag (by rw[zl,zl];omega))
    have an:=za R;obtain⟨A2,cC,rfl,rfl,rfl,_⟩:=hi.open_;generalize s[c].text=xt at*;generalize s[c].list=xl at*;generalize s[c].sub.length=xn at*;generalize s[c].lay d[c]=LX at*;have q:Below wr.heap.size wr (wr.alloc (.cells #[.string xt,.bool xl,.slice A2 xn cC] 28)):=(zm _ _).alloc (zg _) _;have W:=af.new wr 28 #[.string xt,.bool xl,.slice A2 xn cC];have n0:=W.cell 0;have n1:=W.cell 1;have n2:=W.cell 2;have eX:=u.out.siz;have Q2:=(q.cell (p:=⟨w.heap.size,2,none⟩) (by simp;omega)).trans q2;have K0:=(q.cell (p:=⟨m,_,none⟩) (by simp;omega)).trans D;have K1:=(q.cell (p:=⟨m,_,none⟩) (by simp;omega)).trans k1;have K2:=(q.cell (p:=⟨m,_,none⟩) (by simp;omega)).trans k2;have K3:=(q.cell (p:=⟨m,_,none⟩) (by simp;omega)).trans G;have GY:=za q;clear hi Dx j du I AZ ad q W;go_wp2_with fail
    generalize Al:wr.alloc (.cells #[.string xt,.bool xl,.slice A2 xn cC] 28)=W1 at*;clear Al q2 N U O D k1 k2 G;go_still_tail 7,(by kernel_rfl)
    change wpList _ _ _ _ _ W1.drew
    go_wp2_with fail
    refine(HC.out W1.drew GY.out.drew).mono ?_;rintro e w5 ⟨rfl,RP,ae⟩;have N9:=za ((u.out.more GY.out.drew DD).put RP ae (by omega));clear RP ae;rw[zE,<-Rm.out]at N9;go_wp2;go_roundw
    case rel=>exact⟨c+1,by omega,by go_num,N9⟩
    case measure=>simp[intOf];omega
   have h1:=u.out;rw[zz (by omega)]at h1;have HM:=za h1;clear h1;go_wp2;go_end0
   exact⟨rfl,HM.out.bld,HM.out.kept⟩
theorem wm :∀(s:List It) (t:Ty) (i:Nat),(∀j (h:j<s.length),((s[j]).lay (t.at (i+j))).length<=65545*(s[j]).count)->(cz s t i).length<=65545*aN s
 | [],_,_,_=>by simp[cz,aN]
 |x::xs,t,i,h=>by
  have b:=h 0 (by simp);simp only[yU,xd]at b;have d:=wm xs t (i+1) (fun j c=>by have:=h (j+1) (by simpa using c);simpa[show i+(j+1)=i+1+j from by omega]using this);simp only[cz,zl,aN];omega
theorem Ub (x:It):∀t:Ty,t.right=true->x.dr t=true->(x.lay t).length<=65545*x.count:=by
 induction x using It.ind with
 |h tx b s ih=>
  intro t y hi;obtain⟨k,z,l,e⟩:=t;obtain⟨C,w⟩:=jL y;simp only[It.dr,zy]at hi;obtain⟨n,B⟩:=hi;have r:=lf s _ 0 B;rcases lM C with⟨rfl,G,i,p⟩|⟨rfl,q,m,i,p⟩|⟨rfl,q,m,i,p⟩|⟨rfl,q,m,i,p⟩|⟨rfl,q,m,H,F⟩
  ·rw[uf,bd];simp only[It.count];omega
  ·have:=CR n;rw[ug,aa];simp only[It.count];omega
  ·have:=rK n;rw[nY,zl,aa];have:=jt tx.size;simp only[It.count];omega
  ·have D:=jt s.length;have A:=wm s (.mk 4 z l e) 0 (fun j c=>by
    have d:=r j c;have o:(Ty.mk 4 z l e).at (0+j)=l[0]'(by omega):=by unfold Ty.at;simp[i]
    rw[o]at d⊢;exact ih _ (zR c) _ (dT w 0 (by omega)) d)
   rw[qg,zl];simp only[It.count];omega
  have E:=qf n;have A:=wm s (.mk 5 z l e) 0 (fun j c=>by
   have d:=r j c;have u:j<l.length:=by omega
   have o:(Ty.mk 5 z l e).at (0+j)=l[j]:=by unfold Ty.at;simp[u]
   rw[o]at d⊢;exact ih _ (zR c) _ (dT w j u) d)
  rw[nn];simp only[It.count];omega
structure Nk (w:World)(k1 k2:Array Value)(V:World):Prop where
 ty:af V w.heap.size 43 k1
 it:af V (w.heap.size+1) 28 k2
 bel:Below w.heap.size w V
 siz:w.heap.size+2<=V.heap.size
theorem Nk.start (w:World)(k1 k2:Array Value):Nk w k1 k2 ((w.alloc (.cells k1 43)).alloc (.cells k2 28)) where
 ty:=(af.new w _ _).alloc _
 it:=af.at_ (by simp)
 bel:=((zm _ w).alloc (zg _) _).alloc (by simp) _
 siz:=by simp
theorem Nk.more {V V':World}(h:Nk w k1 k2 V)(b:Below V.heap.size V V'):Nk w k1 k2 V' where
 ty:=(b.block _ h.ty.lt).trans h.ty
 it:=(b.block _ h.it.lt).trans h.it
 bel:=h.bel.trans (b.mono h.bel.size)
 siz:=zF h.siz b.size
theorem oS {b c:Value}(h:af w g t #[a,b,c]):w.cell? ⟨g,0,none⟩=some a/\w.cell? ⟨g,1,none⟩=some b/\w.cell? ⟨g,2,none⟩=some c:=⟨h.cell 0,h.cell 1,h.cell 2⟩
theorem oT {b c d:Value}(h:af w g t #[a,b,c,d]):w.cell? ⟨g,0,none⟩=some a/\w.cell? ⟨g,1,none⟩=some b/\w.cell? ⟨g,2,none⟩=some c/\w.cell? ⟨g,3,none⟩=some d:=⟨h.cell 0,h.cell 1,h.cell 2,h.cell 3⟩
theorem FP (ty:Ty)(x:It)(M:Int)(B:Nat)(w:World)(t0 W Z t3 X R Y:Value)(y:cG w B ty t0 W Z t3)(D:dX w B x X R Y)(C:B<=w.heap.size)(G:Laid w)(L:bq w):
 Calls prog 121 #[.agg #[t0,W,Z,t3],.agg #[X,R,Y],.int .i64 M] w fun e w'=>e= .returned (.tuple #[.string (oJ ty x M).1,.int .i64 (oJ ty x M).2])/\Below w.heap.size w w':=by
 have gB:=G.pos;have V5:=L.pos;have O:=za (fun V (d:Below w.heap.size w V)=>I4 ty B V t0 W Z t3 (y.below (d.mono C)) (by have:=d.size;omega) (G.below d gB));have S:=za (fun V (d:Below w.heap.size w V)=>I9 ty x B V t0 W Z t3 X R Y (y.below (d.mono C)) (D.below (d.mono C)) (by have:=d.size;omega) (G.below d gB));obtain⟨E,h⟩:∃E,jO ty x M=E:=⟨_,rfl⟩
 obtain⟨P,N⟩:∃P,oJ ty x M=P:=⟨_,rfl⟩
 have z:P=if E=0 then(⟨(x.lay ty).toArray⟩,0)else(⟨#[]⟩,E):=by rw[<-N,<-h];rfl
 rw[N];unfold jO at h;obtain⟨A,cap,ab,ad,ai,ag,_⟩:=y.open_;obtain⟨A',aq,ae,ah,aa,_⟩:=D.open_;cases hf:ty.flat with
 |false=>
  rw[hf]at O;rw[zi hf]at h;have H:Hid (P=(⟨#[]⟩,1)):=za (by rw[z,zh (by omega),<-h]);clear h N z hf y D G L S;subst ab ad ai ag ae ah aa;generalize ty.kind=ki at*;generalize ty.size=si at*;generalize ty.tail=ta at*;go_enter func121,ntmps121
  go_wp2_with fail
  refine(O.out _ (Nk.start w _ _).bel).mono ?_;rintro e w1 ⟨rfl,q⟩;have c:=(Nk.start w _ _).more q;have r:=za c;clear q;obtain⟨k,l,n,m⟩:=oT c.ty;obtain⟨p,j,o⟩:=oS c.it;clear c;go_wp2;go_ret2
  exact⟨by rw[H.out];rfl,r.out.bel⟩
 |true=>
  rw[hf]at O;rw[zh (by simp[hf])]at h;by_cases J:eO ty x≠0
  ·rw[zi J]at h;have e1:(eO ty x !=0)=true:=yz.2 J;have H:Hid (P=(⟨#[]⟩,eO ty x)):=za (by rw[z,zh (by rw[<-h];exact J),<-h]);clear h N z hf y D G L;subst ab ad ai ag ae ah aa;generalize eO ty x=F at*;generalize ty.kind=ki at*;generalize ty.size=si at*;generalize ty.tail=ta at*;generalize ty.sub.length=tn at*;generalize x.text=xt at*;generalize x.list=xl at*;generalize x.sub.length=xn at*;go_enter func121,ntmps121
   go_wp2_with fail
   refine(O.out _ (Nk.start w _ _).bel).mono ?_;rintro e w1 ⟨rfl,q⟩;have c:=(Nk.start w _ _).more q;have r:=za c;clear q;obtain⟨k,l,n,m⟩:=oT c.ty;obtain⟨p,j,o⟩:=oS c.it;clear c;go_wp2_with fail
   refine(S.out _ r.out.bel).mono ?_;rintro e w2 ⟨rfl,u⟩;have i:=r.out.more u;have I:=za i;clear u k l n m p j o;obtain⟨k,l,n,m⟩:=oT i.ty;obtain⟨p,j,o⟩:=oS i.it;clear i;go_wp2;go_ret2
   exact⟨by rw[H.out];rfl,I.out.bel⟩
  rw[zh J]at h;have ak:eO ty x=0:=zC.1 J;rw[ak]at S;obtain⟨_,rq,_,_,mf⟩:=lQ hf;obtain⟨_,Rg,pA⟩:=BX ak;obtain⟨al,_,ao⟩:=sY Rg;have HC:=za (fun V (d:Below w.heap.size w V)=>Nj x B V X R Y (D.below (d.mono C)) (by have:=d.size;omega) Rg al);by_cases hM:M<x.count
  ·rw[zi hM]at h;have d1:decide (M<(x.count:Int))=true:=zD hM;have H:Hid (P=(⟨#[]⟩,4)):=za (by rw[z,zh (by omega),<-h]);clear h N z hf y D G L J;subst ab ad ai ag ae ah aa;generalize ty.kind=ki at*;generalize ty.size=si at*;generalize ty.tail=ta at*;generalize ty.sub.length=tn at*;generalize x.text=xt at*;generalize x.list=xl at*;generalize x.sub.length=xn at*;generalize x.count=xc at*;go_enter func121,ntmps121
   go_wp2_with fail
   refine(O.out _ (Nk.start w _ _).bel).mono ?_;rintro e w1 ⟨rfl,q⟩;have c:=(Nk.start w _ _).more q;have r:=za c;clear q;obtain⟨k,l,n,m⟩:=oT c.ty;obtain⟨p,j,o⟩:=oS c.it;clear c;go_wp2_with fail
   refine(S.out _ r.out.bel).mono ?_;rintro e w2 ⟨rfl,u⟩;have i:=r.out.more u;have I:=za i;clear u k l n m p j o;obtain⟨k,l,n,m⟩:=oT i.ty;obtain⟨p,j,o⟩:=oS i.it;clear i;go_wp2_with fail
   refine(HC.out _ I.out.bel).mono ?_;rintro e w3 ⟨rfl,U⟩;have s:=I.out.more U;have K:=za s;clear U k l n m p j o;obtain⟨k,l,n,m⟩:=oT s.ty;obtain⟨p,j,o⟩:=oS s.it;clear s;go_wp2;go_ret2
   exact⟨by rw[H.out];rfl,K.out.bel⟩
  rw[zh hM]at h;have d1:decide (M<(x.count:Int))=false:=zv hM;have H:Hid (P=(⟨(x.lay ty).toArray⟩,0)):=za (by rw[z,zi (by omega)]);have Re:=Ub x ty rq pA;have UP:=za (fun V (d:Below w.heap.size w V) (b:Nat) (hb:DZ V (b+1) b []) (uw:w.heap.size<=b) (an:b<V.heap.size)=>ab3 x w.heap.size V X R Y ((D.below (d.mono C)).mono C) d.size al ty t0 W Z t3 ((y.below (d.mono C)).mono C) rq pA b (b+1) [] hb uw an (L.below d V5) V5 (by simp only[zJ];omega));have N8:Hid ((x.lay ty).length<=1099511627776):=za (by omega);simp only[yy]at UP;clear h N z hf y D G L J Re;subst ab ad ai ag ae ah aa;generalize x.lay ty=LX at*;generalize ty.kind=ki at*;generalize ty.size=si at*;generalize ty.tail=ta at*;generalize ty.sub.length=tn at*;generalize x.text=xt at*;generalize x.list=xl at*;generalize x.sub.length=xn at*;generalize x.count=xc at*;go_enter func121,ntmps121
  go_wp2_with fail
  refine(O.out _ (Nk.start w _ _).bel).mono ?_;rintro e w1 ⟨rfl,q⟩;have c:=(Nk.start w _ _).more q;have r:=za c;clear q;obtain⟨k,l,n,m⟩:=oT c.ty;obtain⟨p,j,o⟩:=oS c.it;clear c;go_wp2_with fail
  refine(S.out _ r.out.bel).mono ?_;rintro e w2 ⟨rfl,u⟩;have i:=r.out.more u;have I:=za i;clear u k l n m p j o;obtain⟨k,l,n,m⟩:=oT i.ty;obtain⟨p,j,o⟩:=oS i.it;clear i;go_wp2_with fail
  refine(HC.out _ I.out.bel).mono ?_;rintro e w3 ⟨rfl,U⟩;have s:=I.out.more U;have K:=za s;clear U k l n m p j o;obtain⟨k,l,n,m⟩:=oT s.ty;obtain⟨p,j,o⟩:=oS s.it;clear s;have RQ:=K.out.more ((zm w3.heap.size w3).alloc (zg _) (.cells #[.pointer none,.slice none 0 0] 199));obtain⟨Q0,Q1,Q2,Q3⟩:=oT RQ.ty;obtain⟨R0,R1,R2⟩:=oS RQ.it;clear RQ;have ar:=K.out.bel.size;go_wp2_with fail
  have aj:DZ (w3.alloc (.cells #[.pointer none,.slice none 0 0] 199)) (w3.heap.size+1) w3.heap.size []:=⟨by omega,_,_,af.new w3 _ _,.inl rfl,bF.nil _ _ _,fun _=>rfl⟩
  have Ed:Below w.heap.size w (w3.alloc (.cells #[.pointer none,.slice none 0 0] 199)):=K.out.bel.alloc K.out.bel.size _;refine(UP.out _ Ed w3.heap.size aj K.out.bel.size (by simp)).mono ?_;rintro e w4 ⟨rfl,bN,JQ⟩;have cZ:=za bN;have dI:Hid (Below w.heap.size w w4):=za (Ed.trans (JQ.below (by omega) (by omega)));clear bN JQ aj Ed;go_wp2_with fail
  refine(FM w3.heap.size (w3.heap.size+1) w4 LX cZ.out N8.out w.heap.size (by omega)).mono ?_;rintro e w5 ⟨rfl,jB,_⟩;go_wp2;go_ret2
  exact⟨by rw[H.out];rfl,dI.out.trans jB⟩
