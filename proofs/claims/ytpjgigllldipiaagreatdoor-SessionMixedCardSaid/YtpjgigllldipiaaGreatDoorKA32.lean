/- layout.lay: a value's layout is written. -/
import Derived.Test.YtpjgigllldipiaaGreatDoorKA31
import Derived.Test.YtpjgigllldipiaaGreatDoorKA30
import Derived.Test.YtpjgigllldipiaaGreatDoorRows
import Derived.Lib.LaidTab
import Derived.Stop.LaidErr
import Derived.MakeChecks
set_option linter.all false
set_option maxRecDepth 100000
set_option maxHeartbeats 3200000
open Go.Proofs.Tryz
namespace Go.Proofs.YtpjgigllldipiaaGreatDoor
open Go.RowKit
def Yo:=@ntmps98
theorem DD.Kl {w w':World}{base b:Nat}{l:List UInt8}(h:DD w base b l)(c:Below w.heap.size w w'):DD w' base b l:=by
 obtain⟨j,p,v,d,k,i,e⟩:=h;exact⟨j,p,v,(c.block b d.lt).trans d,k,i.below c,e⟩
theorem cP.UB {E:TypeId}{base b:Nat}{e w w':World}(h:cP E base b e w)(c:Below w.heap.size w w')(i:base<=w.heap.size):cP E base b e w':=
 h.trans ⟨c.os,c.tape,c.output,c.size,fun k d _=>c.block k (by omega),fun k o d _ _=>(c.block k (yl.1 d).1).trans d⟩
structure PM (w:World)(base b:Nat)(lb:List UInt8)(k1 k2:Array Value)(g:Nat)(wr:World)(l:List UInt8):Prop where
 ty:af wr g 64 k1
 it:af wr (g+1) 28 k2
 bld:DD wr base b (lb++l)
 kept:cP 5 base b w wr
 siz:g+1<wr.heap.size
theorem PM.start {w:World}{base b:Nat}{lb:List UInt8}{k1 k2:Array Value}(h:DD w base b lb)(d:base<=w.heap.size):PM w base b lb k1 k2 w.heap.size ((w.alloc (.cells k1 64)).alloc (.cells k2 28)) [] where
 ty:=(af.new w _ _).alloc _
 it:=by have:=af.new (w.alloc (.cells k1 64)) 28 k2;simpa using this
 bld:=by
  have c:Below w.heap.size w ((w.alloc (.cells k1 64)).alloc (.cells k2 28)):=((zq _ w).alloc (zf _) _).alloc (by simp) _;rw[xp];exact h.Kl c
 kept:=by
  have c:Below w.heap.size w ((w.alloc (.cells k1 64)).alloc (.cells k2 28)):=((zq _ w).alloc (zf _) _).alloc (by simp) _;exact(cP.refl _ _ _ _).UB c d
 siz:=by simp
theorem PM.more {w wr w':World}{base b g:Nat}{lb l:List UInt8}{k1 k2:Array Value}(h:PM w base b lb k1 k2 g wr l)(c:Below wr.heap.size wr w')(d:base<=w.heap.size):PM w base b lb k1 k2 g w' l where
 ty:=(c.block _ h.ty.lt).trans h.ty
 it:=(c.block _ h.it.lt).trans h.it
 bld:=h.bld.Kl c
 kept:=h.kept.UB c (by have:=h.kept.size;omega)
 siz:=by have:=c.size;have:=h.siz;omega
theorem PM.put {w wr w':World}{base b g:Nat}{lb l m:List UInt8}{k1 k2:Array Value}(h:PM w base b lb k1 k2 g wr l)(d:DD w' base b ((lb++l)++m))(c:cP 5 base b wr w')(e:b<g):PM w base b lb k1 k2 g w' (l++m) where
 ty:=c.blk h.ty (by omega) (by decide)
 it:=c.blk h.it (by omega) (by decide)
 bld:=by rw[<-zI];exact d
 kept:=h.kept.trans c
 siz:=by have:=c.size;have:=h.siz;omega
theorem bj.UC {w w':World}{E:TypeId}{base b:Nat}(h:bj w)(d:cP E base b w w')(c:0<base)(e:0<b):bj w':=h.same (d.block _ c (by omega))
theorem Wv {t:ByteArray}(e:t.size<=8)(c:fY t.data.toList=false):RO t false=la t.data.toList:=by
 have d:o9 t=0:=by
  unfold o9;by_cases b:t.size=0
  ·rw[zl b]
  rw[zj b,zj (by omega),c];rfl
 simp[RO,vc,d]
theorem qd (s:List It)(k:Nat)(t:Ty):(cm (s.take k) t 0).length<=(cm s t 0).length:=by
 have:=xC List.length (sn (s.take k) (s.drop k) t 0);rw[zN,zp]at this;omega
theorem abm :∀(x:It) (B:Nat) (w:World) (c0 c1 c2:Value),bZ w B x c0 c1 c2->B<=w.heap.size->x.right=true->∀(ty:Ty) (t0 t1 t2 t3:Value),cx w B ty t0 t1 t2 t3->ty.right=true->x.cX ty=true->
 ∀(b base:Nat) (lb:List UInt8),DD w base b lb->B<=b->base<=w.heap.size->bj w->0<B->lb.length+(x.lay ty).length<=1099511627776->
 Calls prog 98 #[.pointer (some ⟨b,0,none⟩),.agg #[t0,t1,t2,t3],.agg #[c0,c1,c2]] w fun e w'=>e= .returned (.tuple #[])/\DD w' base b (lb++x.lay ty)/\cP 5 base b w w':=by
 intro x;induction x using It.ind with
 |h t l s ih=>
  intro B w c0 c1 c2 h hB hr ty t0 t1 t2 t3 hT qF K b base lb T3 ag DM iM ah y;obtain⟨rfl,rfl,ht,hs,A,cap,rfl,nR,lI,du⟩:=h;have IH:=za ih;have HS:=za du;clear ih du;obtain⟨k,z,d,G⟩:=ty;obtain⟨rfl,rfl,rfl,hk,hz,nJ,As,A',aj,rfl,aq,av,QT⟩:=hT;obtain⟨bC,Dq⟩:=jr qF;have eY:b<base:=T3.1;have X:=za (PM.start (k1:= #[.int .i64 k,.int .i64 z,.slice A' d.length aj,.int .i64 G]) (k2:= #[.string t,.bool l,.slice A s.length cap]) T3 DM);simp only[It.cX,zF]at K;obtain⟨J,ch⟩:=K;have Gg:=za hr;have Dn:=za QT;have al:=za Dq;have qx:=za ch;have wL:=za iM;unfold l7 at hk hz nJ;clear hr QT Dq qF T3 ch iM;rcases lk bC with⟨rfl,h3,hn,rfl⟩|⟨rfl,h3,h4,hn,rfl⟩|⟨rfl,h3,h4,hn,rfl⟩|⟨rfl,h3,h4,hn,rfl⟩|⟨rfl,rfl,h4,h5,h6⟩
  ·obtain⟨L,rfl⟩:∃L:Nat,z=L:=⟨z.toNat,by omega⟩
   obtain⟨rfl,fC,DF⟩:=JM J;obtain rfl:d= []:=zw hn;have r:Hid ((It.mk t false s).lay (Ty.mk 1 L [] 0)=je (la t.data.toList) L):=za (tB _ _ _ _ _ _);rw[r.out]at y⊢;have an:=Wv (t:=t) (by omega) DF;have HO:=za (fun w'=>aa' t false (.slice A s.length cap) w' (by omega));rw[an]at HO;have ai:=tT t.data.toList;rw[aa]at ai;have R8:la t.data.toList<2^(8*L):=yg ai (yy (by omega) (by omega));have HD:=za (fun w'=>jz (la t.data.toList) L w' R8 (by omega) (by omega));rw[bc]at y;have ak:(je (la t.data.toList) L).length=L:=bc _ _;generalize Wf t false=E at*;generalize je (la t.data.toList) L=ab at*;generalize la t.data.toList=n at*;clear bC IH HS Dn J an ai R8 r;go_enter func98,Yo
   go_wp2_with fail
   refine(HO.out _).mono ?_;rintro e w2 ⟨rfl,aM⟩;have I:=za (X.out.more aM DM);clear aM;have q1:w2.cell? ⟨w.heap.size,1,none⟩=some (.int .i64 L):=I.out.ty.cell 1;go_wp2_with fail
   refine(HD.out _).mono ?_;rintro e w3 ⟨rfl,bS⟩;have H:=za (I.out.more bS DM);clear bS;go_wp2_with fail
   refine(lC b base w3 (lb++ []) _ H.out.bld (by show ab≠ [];intro e;rw[e]at ak;simp at ak;omega) (by have:=H.out.kept.size;omega) (by rw[bH,xp,ak];exact y)).mono ?_;rintro e w4 ⟨rfl,Y,Z⟩;have QX:=za (H.out.put Y Z (by omega));clear Y Z;go_wp2;go_end0
   exact⟨rfl,by simpa using QX.out.bld,QX.out.kept⟩
  ·obtain⟨rfl,fC⟩:=Cw J;obtain rfl:d= []:=zw hn;have r:Hid ((It.mk t false s).lay (Ty.mk 2 z [] 0)=t.data.toList):=za (tC _ _ _ _ _ _);rw[r.out]at y⊢;rw[aa]at y;clear bC IH HS Dn J r;go_enter func98,Yo
   go_wp2_with fail
   refine(lC b base _ (lb++ []) t X.out.bld (by intro e;have:=xC List.length e;rw[aa,zS]at this;omega) (by have:=X.out.kept.size;omega) (by rw[xp];exact y)).mono ?_;rintro e w4 ⟨rfl,Y,Z⟩;have QX:=za (X.out.put Y Z (by omega));clear Y Z;go_wp2;go_end0
   exact⟨rfl,by simpa using QX.out.bld,QX.out.kept⟩
  ·obtain⟨rfl,fC⟩:=qU J;obtain rfl:d= []:=zw hn;have r:Hid ((It.mk t false s).lay (Ty.mk 3 z [] 0)=dq t.size++t.data.toList):=za (nB _ _ _ _ _ _);rw[r.out]at y⊢;have HP:=za (fun w' (h:bj w')=>J1 t.size w' (by omega) h);have Gt:=(iT t.size).1;generalize dq t.size=ab at*;rw[zp,aa]at y;have au:ab++t.data.toList≠ []:=fun e=>by have:=xC List.length e;rw[zp,zS]at this;omega
   clear bC IH HS Dn J r;go_enter func98,Yo
   go_wp2_with fail
   refine(HP.out _ (wL.out.UC X.out.kept (by omega) (by omega))).mono ?_;rintro e w2 ⟨rfl,aM⟩;have I:=za (X.out.more aM DM);clear aM;go_wp2_with fail
   refine(lC b base w2 (lb++ []) _ I.out.bld (by show ab≠ [];intro e;rw[e]at Gt;simp at Gt) (by have:=I.out.kept.size;omega) (by rw[bH,xp];omega)).mono ?_;rintro e w3 ⟨rfl,QW,Dd⟩;have H:=za (I.out.put QW Dd (by omega));clear QW Dd;have q1:w3.cell? ⟨w.heap.size+1,0,none⟩=some (.string t):=H.out.it.cell 0;go_wp2_with fail
   refine(vw b base w3 _ t H.out.bld (by intro e;have:=xC List.length e;simp only[zp,zS]at this;omega) (by have:=H.out.kept.size;omega) (by simp only[zp,zS];omega)).mono ?_;rintro e w4 ⟨rfl,Y,Z⟩;have QX:=za (H.out.put Y Z (by omega));clear Y Z;go_wp2;go_end0
   exact⟨rfl,by simpa using QX.out.bld,QX.out.kept⟩
  ·obtain⟨rfl,fC⟩:=ED J;have NP:=za hn;have r:Hid ((It.mk t true s).lay (Ty.mk 4 z d 0)=dq s.length++cm s (Ty.mk 4 z d 0) 0):=za (pI _ _ _ _ _ _);rw[r.out]at y⊢;have HP:=za (fun w' (h:bj w')=>J1 s.length w' (by omega) h);have Gt:=(iT s.length).1;generalize dq s.length=ab at*;rw[zp]at y;clear bC J r hn;go_enter func98,Yo
   go_wp2_with fail
   refine(HP.out _ (wL.out.UC X.out.kept (by omega) (by omega))).mono ?_;rintro e w2 ⟨rfl,aM⟩;have I:=za (X.out.more aM DM);clear aM;go_wp2_with fail
   refine(lC b base w2 (lb++ []) _ I.out.bld (by show ab≠ [];intro e;rw[e]at Gt;simp at Gt) (by have:=I.out.kept.size;omega) (by rw[bH,xp];omega)).mono ?_;rintro e w3 ⟨rfl,QW,Dd⟩;have H:=za (I.out.put QW Dd (by omega));clear QW Dd;have q1:w3.cell? ⟨w.heap.size+1,2,none⟩=some (.slice A s.length cap):=H.out.it.cell 2;go_wp2_with fail
   go_loopw [64] (fun i wr=>∃c:Nat,c<=s.length/\i= .int .i64 c/\Hid (PM w base b lb #[.int .i64 4,.int .i64 z,.slice A' d.length aj,.int .i64 0] #[.string t,.bool true,.slice A s.length cap] w.heap.size wr (ab++cm (s.take c) (Ty.mk 4 z d 0) 0))) (fun i _=>s.length-(intOf i).toNat)
   case atStart=>exact⟨0,by omega,rfl,za (by have:=H.out;simpa[cm]using this)⟩
   case round=>
    obtain⟨c,RY,rfl,u⟩:=hrel;by_cases C:c<s.length
    ·have j:Below B w wr:=u.out.kept.below (by omega) ag;have hG:=j.size;have q2:wr.cell? ⟨w.heap.size,2,none⟩=some (.slice A' d.length aj):=u.out.ty.cell 2;obtain⟨b1,o,d0,d1,d2,rfl,j9,W,S,M,hi⟩:=HS.out.at_ c C;simp only[zT]at W S M;replace W:=(j.cell (p:=⟨b1,o+c*3,none⟩) j9).trans W;replace S:=(j.cell (p:=⟨b1,o+c*3+1,none⟩) j9).trans S;replace M:=(j.cell (p:=⟨b1,o+c*3+2,none⟩) j9).trans M;have N:0<d.length:=(by have:=NP.out;omega)
     obtain⟨m,o',f0,f1,f2,f3,rfl,R,F,k1,k2,D,Db⟩:=Dn.out.at_ (0) N;simp only[zT,Nat.zero_mul,xj]at F k1 k2 D;replace F:=(j.cell (p:=⟨m,_,none⟩) R).trans F;replace k1:=(j.cell (p:=⟨m,_,none⟩) R).trans k1;replace k2:=(j.cell (p:=⟨m,_,none⟩) R).trans k2;replace D:=(j.cell (p:=⟨m,_,none⟩) R).trans D;have cZ:(Ty.mk 4 z d 0).at c=d[0]:=by show(d[NH 4 c]?).getD (.mk 0 0 [] 0)=d[0];rw[show NH 4 c=0 from rfl,zB N];rfl
     have K:=kM s (Ty.mk 4 z d 0) 0 qx.out c C;rw[zT,cZ]at K;have Ar:cm (s.take (c+1)) (Ty.mk 4 z d 0) 0=cm (s.take c) (Ty.mk 4 z d 0) 0++s[c].lay d[0]:=by rw[Bs C,cZ]
     have ad:=qd s (c+1) (Ty.mk 4 z d 0);rw[Ar,zp]at ad;have TQ:=za Ar;have HC:Hid (∀V,Below wr.heap.size wr V->Calls prog 98 #[.pointer (some ⟨b,0,none⟩),.agg #[f0,f1,f2,f3],.agg #[d0,d1,d2]] V fun e w'=>e= .returned (.tuple #[])/\DD w' base b ((lb++(ab++cm (s.take c) (Ty.mk 4 z d 0) 0))++s[c].lay d[0])/\cP 5 base b V w'):=za (fun V U=>by
      have mc:Below B w V:=j.trans (U.mono (by omega));exact IH.out _ (zM C) B V d0 d1 d2 (hi.below mc) (by have:=U.size;omega) (js Gg.out c C) d[0] f0 f1 f2 f3 (Db.below mc) (dI al.out (0) N) K b base _ (u.out.bld.Kl U) ag (by have:=U.size;omega) (wL.out.below mc ah) ah (by rw[zp,zp];omega))
     have ao:=za N;obtain⟨A2,cr,rfl,rfl,rfl,_⟩:=hi.open_;generalize s[c].text=xt at*;generalize s[c].list=xl at*;generalize s[c].sub.length=xn at*;generalize s[c].lay d[0]=LX at*;have q:Below wr.heap.size wr (wr.alloc (.cells #[.string xt,.bool xl,.slice A2 xn cr] 28)):=(zq _ _).alloc (zf _) _;have O:=af.new wr 28 #[.string xt,.bool xl,.slice A2 xn cr];have n0:=O.cell 0;have n1:=O.cell 1;have n2:=O.cell 2;have fC:=u.out.siz;have Q2:=(q.cell (p:=⟨w.heap.size,2,none⟩) (by simp;omega)).trans q2;have K0:=(q.cell (p:=⟨m,_,none⟩) (by simp;omega)).trans F;have K1:=(q.cell (p:=⟨m,_,none⟩) (by simp;omega)).trans k1;have K2:=(q.cell (p:=⟨m,_,none⟩) (by simp;omega)).trans k2;have K3:=(q.cell (p:=⟨m,_,none⟩) (by simp;omega)).trans D;have Gy:=za q;clear hi Db j cZ K Ar ad q O;go_wp2_with fail
     generalize GA:wr.alloc (.cells #[.string xt,.bool xl,.slice A2 xn cr] 28)=W1 at*;clear GA q2 W S M F k1 k2 D;go_still_tail 6,(by kernel_rfl)
     change wpList _ _ _ _ _ W1.drew
     go_wp2_with fail
     refine(HC.out W1.drew Gy.out.drew).mono ?_;rintro e w5 ⟨rfl,QV,ae⟩;have No:=za ((u.out.more Gy.out.drew DM).put QV ae (by omega));clear QV ae;rw[zI,<-TQ.out]at No;go_wp2;go_roundw
     case rel=>exact⟨c+1,by omega,by go_num,No⟩
     case measure=>simp[intOf];omega
    have h1:=u.out;rw[zC (by omega)]at h1;have HM:=za h1;clear h1;go_wp2;go_end0
    exact⟨rfl,HM.out.bld,HM.out.kept⟩
  obtain⟨rfl,WY,ar⟩:=pH J;have r:Hid ((It.mk t true s).lay (Ty.mk 5 0 d G)= []++cm s (Ty.mk 5 0 d G) 0):=za (mG _ _ _ _ _ _);rw[r.out]at y⊢;rw[zp]at y;clear bC J r;go_enter func98,Yo
  go_wp2_with fail
  go_loopw [81] (fun i wr=>∃c:Nat,c<=s.length/\i= .int .i64 c/\Hid (PM w base b lb #[.int .i64 5,.int .i64 0,.slice A' d.length aj,.int .i64 G] #[.string t,.bool true,.slice A s.length cap] w.heap.size wr ([]++cm (s.take c) (Ty.mk 5 0 d G) 0))) (fun i _=>s.length-(intOf i).toNat)
  case atStart=>exact⟨0,by omega,rfl,za (by have:=X.out;simpa[cm]using this)⟩
  case round=>
   obtain⟨c,RY,rfl,u⟩:=hrel;by_cases C:c<s.length
   ·have j:Below B w wr:=u.out.kept.below (by omega) ag;have hG:=j.size;have q2:wr.cell? ⟨w.heap.size,2,none⟩=some (.slice A' d.length aj):=u.out.ty.cell 2;obtain⟨b1,o,d0,d1,d2,rfl,j9,W,S,M,hi⟩:=HS.out.at_ c C;simp only[zT]at W S M;replace W:=(j.cell (p:=⟨b1,o+c*3,none⟩) j9).trans W;replace S:=(j.cell (p:=⟨b1,o+c*3+1,none⟩) j9).trans S;replace M:=(j.cell (p:=⟨b1,o+c*3+2,none⟩) j9).trans M;have N:c<d.length:=(by omega)
    obtain⟨m,o',f0,f1,f2,f3,rfl,R,F,k1,k2,D,Db⟩:=Dn.out.at_ (c) N;simp only[zT,Nat.zero_mul,xj]at F k1 k2 D;replace F:=(j.cell (p:=⟨m,_,none⟩) R).trans F;replace k1:=(j.cell (p:=⟨m,_,none⟩) R).trans k1;replace k2:=(j.cell (p:=⟨m,_,none⟩) R).trans k2;replace D:=(j.cell (p:=⟨m,_,none⟩) R).trans D;have cZ:(Ty.mk 5 0 d G).at c=d[c]:=by show(d[NH 5 c]?).getD (.mk 0 0 [] 0)=d[c];rw[show NH 5 c=c from rfl,zB N];rfl
    have K:=kM s (Ty.mk 5 0 d G) 0 qx.out c C;rw[zT,cZ]at K;have Ar:cm (s.take (c+1)) (Ty.mk 5 0 d G) 0=cm (s.take c) (Ty.mk 5 0 d G) 0++s[c].lay d[c]:=by rw[Bs C,cZ]
    have ad:=qd s (c+1) (Ty.mk 5 0 d G);rw[Ar,zp]at ad;have TQ:=za Ar;have HC:Hid (∀V,Below wr.heap.size wr V->Calls prog 98 #[.pointer (some ⟨b,0,none⟩),.agg #[f0,f1,f2,f3],.agg #[d0,d1,d2]] V fun e w'=>e= .returned (.tuple #[])/\DD w' base b ((lb++([]++cm (s.take c) (Ty.mk 5 0 d G) 0))++s[c].lay d[c])/\cP 5 base b V w'):=za (fun V U=>by
     have mc:Below B w V:=j.trans (U.mono (by omega));exact IH.out _ (zM C) B V d0 d1 d2 (hi.below mc) (by have:=U.size;omega) (js Gg.out c C) d[c] f0 f1 f2 f3 (Db.below mc) (dI al.out (c) N) K b base _ (u.out.bld.Kl U) ag (by have:=U.size;omega) (wL.out.below mc ah) ah (by rw[zp,zp];omega))
    have ao:=za N;obtain⟨A2,cr,rfl,rfl,rfl,_⟩:=hi.open_;generalize s[c].text=xt at*;generalize s[c].list=xl at*;generalize s[c].sub.length=xn at*;generalize s[c].lay d[c]=LX at*;have q:Below wr.heap.size wr (wr.alloc (.cells #[.string xt,.bool xl,.slice A2 xn cr] 28)):=(zq _ _).alloc (zf _) _;have O:=af.new wr 28 #[.string xt,.bool xl,.slice A2 xn cr];have n0:=O.cell 0;have n1:=O.cell 1;have n2:=O.cell 2;have fC:=u.out.siz;have Q2:=(q.cell (p:=⟨w.heap.size,2,none⟩) (by simp;omega)).trans q2;have K0:=(q.cell (p:=⟨m,_,none⟩) (by simp;omega)).trans F;have K1:=(q.cell (p:=⟨m,_,none⟩) (by simp;omega)).trans k1;have K2:=(q.cell (p:=⟨m,_,none⟩) (by simp;omega)).trans k2;have K3:=(q.cell (p:=⟨m,_,none⟩) (by simp;omega)).trans D;have Gy:=za q;clear hi Db j cZ K Ar ad q O;go_wp2_with fail
    generalize GA:wr.alloc (.cells #[.string xt,.bool xl,.slice A2 xn cr] 28)=W1 at*;clear GA q2 W S M F k1 k2 D;go_still_tail 7,(by kernel_rfl)
    change wpList _ _ _ _ _ W1.drew
    go_wp2_with fail
    refine(HC.out W1.drew Gy.out.drew).mono ?_;rintro e w5 ⟨rfl,QV,ae⟩;have No:=za ((u.out.more Gy.out.drew DM).put QV ae (by omega));clear QV ae;rw[zI,<-TQ.out]at No;go_wp2;go_roundw
    case rel=>exact⟨c+1,by omega,by go_num,No⟩
    case measure=>simp[intOf];omega
   have h1:=u.out;rw[zC (by omega)]at h1;have HM:=za h1;clear h1;go_wp2;go_end0
   exact⟨rfl,HM.out.bld,HM.out.kept⟩
theorem vx :∀(s:List It) (t:Ty) (i:Nat),(∀j (h:j<s.length),((s[j]).lay (t.at (i+j))).length<=65545*(s[j]).count)->(cm s t i).length<=65545*aG s
 | [],_,_,_=>by simp[cm,aG]
 |x::xs,t,i,h=>by
  have c:=h 0 (by simp);simp only[yY,xj]at c;have d:=vx xs t (i+1) (fun j b=>by have:=h (j+1) (by simpa using b);simpa[show i+(j+1)=i+1+j from by omega]using this);simp only[cm,zp,aG];omega
theorem Km (x:It):∀t:Ty,t.right=true->x.cX t=true->(x.lay t).length<=65545*x.count:=by
 induction x using It.ind with
 |h tx b s ih=>
  intro t B hi;obtain⟨k,z,l,e⟩:=t;obtain⟨y,w⟩:=jr B;simp only[It.cX,zF]at hi;obtain⟨o,C⟩:=hi;have r:=kM s _ 0 C;rcases lk y with⟨rfl,E,i,n⟩|⟨rfl,q,m,i,n⟩|⟨rfl,q,m,i,n⟩|⟨rfl,q,m,i,n⟩|⟨rfl,q,m,F,D⟩
  ·rw[tB,bc];simp only[It.count];omega
  ·have:=Cw o;rw[tC,aa];simp only[It.count];omega
  ·have:=qU o;rw[nB,zp,aa];have:=iT tx.size;simp only[It.count];omega
  ·have G:=iT s.length;have A:=vx s (.mk 4 z l e) 0 (fun j d=>by
    have c:=r j d;have p:(Ty.mk 4 z l e).at (0+j)=l[0]'(by omega):=by unfold Ty.at;simp[i]
    rw[p]at c⊢;exact ih _ (zM d) _ (dI w 0 (by omega)) c)
   rw[pI,zp];simp only[It.count];omega
  have H:=pH o;have A:=vx s (.mk 5 z l e) 0 (fun j d=>by
   have c:=r j d;have u:j<l.length:=by omega
   have p:(Ty.mk 5 z l e).at (0+j)=l[j]:=by unfold Ty.at;simp[u]
   rw[p]at c⊢;exact ih _ (zM d) _ (dI w j u) c)
  rw[mG];simp only[It.count];omega
structure Mv (w:World)(k1 k2:Array Value)(V:World):Prop where
 ty:af V w.heap.size 64 k1
 it:af V (w.heap.size+1) 28 k2
 bel:Below w.heap.size w V
 siz:w.heap.size+2<=V.heap.size
theorem Mv.start (w:World)(k1 k2:Array Value):Mv w k1 k2 ((w.alloc (.cells k1 64)).alloc (.cells k2 28)) where
 ty:=(af.new w _ _).alloc _
 it:=af.at_ (by simp)
 bel:=((zq _ w).alloc (zf _) _).alloc (by simp) _
 siz:=by simp
theorem Mv.more {w V V':World}{k1 k2:Array Value}(h:Mv w k1 k2 V)(b:Below V.heap.size V V'):Mv w k1 k2 V' where
 ty:=(b.block _ h.ty.lt).trans h.ty
 it:=(b.block _ h.it.lt).trans h.it
 bel:=h.bel.trans (b.mono h.bel.size)
 siz:=zK h.siz b.size
theorem oc {w:World}{g:Nat}{t:TypeId}{a b c:Value}(h:af w g t #[a,b,c]):w.cell? ⟨g,0,none⟩=some a/\w.cell? ⟨g,1,none⟩=some b/\w.cell? ⟨g,2,none⟩=some c:=⟨h.cell 0,h.cell 1,h.cell 2⟩
theorem od {w:World}{g:Nat}{t:TypeId}{a b c d:Value}(h:af w g t #[a,b,c,d]):w.cell? ⟨g,0,none⟩=some a/\w.cell? ⟨g,1,none⟩=some b/\w.cell? ⟨g,2,none⟩=some c/\w.cell? ⟨g,3,none⟩=some d:=⟨h.cell 0,h.cell 1,h.cell 2,h.cell 3⟩
theorem FB (ty:Ty)(x:It)(M:Int)(B:Nat)(w:World)(Z U W t3 c0 Y S:Value)(z:cx w B ty Z U W t3)(u:bZ w B x c0 Y S)(C:B<=w.heap.size)(K:Laid w)(N:bj w):
 Calls prog 60 #[.agg #[Z,U,W,t3],.agg #[c0,Y,S],.int .i64 M] w fun e w'=>e= .returned (.tuple #[.string (mH ty x M).1,.int .i64 (mH ty x M).2])/\Below w.heap.size w w':=by
 have eT:=K.pos;have Vd:=N.pos;have O:=za (fun V (d:Below w.heap.size w V)=>Iz ty B V Z U W t3 (z.below (d.mono C)) (by have:=d.size;omega) (K.below d eT));have X:=za (fun V (d:Below w.heap.size w V)=>ID ty x B V Z U W t3 c0 Y S (z.below (d.mono C)) (u.below (d.mono C)) (by have:=d.size;omega) (K.below d eT));obtain⟨E,h⟩:∃E,iF ty x M=E:=⟨_,rfl⟩
 obtain⟨P,L⟩:∃P,mH ty x M=P:=⟨_,rfl⟩
 have D:P=if E=0 then(⟨(x.lay ty).toArray⟩,0)else(⟨#[]⟩,E):=by rw[<-L,<-h];rfl
 rw[L];unfold iF at h;obtain⟨A,cap,aa,ag,ai,ae,_⟩:=z.open_;obtain⟨A',aj,ad,ah,ab,_⟩:=u.open_;cases hf:ty.flat with
 |false=>
  rw[hf]at O;rw[zl hf]at h;have G:Hid (P=(⟨#[]⟩,1)):=za (by rw[D,zj (by omega),<-h]);clear h L D hf z u K N X;subst aa ag ai ae ad ah ab;generalize ty.kind=ki at*;generalize ty.size=si at*;generalize ty.tail=ta at*;go_enter func60,ntmps60
  go_wp2_with fail
  refine(O.out _ (Mv.start w _ _).bel).mono ?_;rintro e w1 ⟨rfl,q⟩;have c:=(Mv.start w _ _).more q;have r:=za c;clear q;obtain⟨k,l,o,n⟩:=od c.ty;obtain⟨p,j,m⟩:=oc c.it;clear c;go_wp2;go_ret2
  exact⟨by rw[G.out];rfl,r.out.bel⟩
 |true=>
  rw[hf]at O;rw[zj (by simp[hf])]at h;by_cases I:eB ty x≠0
  ·rw[zl I]at h;have e1:(eB ty x !=0)=true:=yQ.2 I;have G:Hid (P=(⟨#[]⟩,eB ty x)):=za (by rw[D,zj (by rw[<-h];exact I),<-h]);clear h L D hf z u K N;subst aa ag ai ae ad ah ab;generalize eB ty x=F at*;generalize ty.kind=ki at*;generalize ty.size=si at*;generalize ty.tail=ta at*;generalize ty.sub.length=tn at*;generalize x.text=xt at*;generalize x.list=xl at*;generalize x.sub.length=xn at*;go_enter func60,ntmps60
   go_wp2_with fail
   refine(O.out _ (Mv.start w _ _).bel).mono ?_;rintro e w1 ⟨rfl,q⟩;have c:=(Mv.start w _ _).more q;have r:=za c;clear q;obtain⟨k,l,o,n⟩:=od c.ty;obtain⟨p,j,m⟩:=oc c.it;clear c;go_wp2_with fail
   refine(X.out _ r.out.bel).mono ?_;rintro e w2 ⟨rfl,y⟩;have i:=r.out.more y;have J:=za i;clear y k l o n p j m;obtain⟨k,l,o,n⟩:=od i.ty;obtain⟨p,j,m⟩:=oc i.it;clear i;go_wp2;go_ret2
   exact⟨by rw[G.out];rfl,J.out.bel⟩
  rw[zj I]at h;have al:eB ty x=0:=zJ.1 I;rw[al]at X;obtain⟨_,qF,_,_,lY⟩:=jv hf;obtain⟨_,Qm,oV⟩:=qV al;obtain⟨ak,_,aq⟩:=so Qm;have HC:=za (fun V (d:Below w.heap.size w V)=>Mu x B V c0 Y S (u.below (d.mono C)) (by have:=d.size;omega) Qm ak);by_cases hM:M<x.count
  ·rw[zl hM]at h;have d1:decide (M<(x.count:Int))=true:=zH hM;have G:Hid (P=(⟨#[]⟩,4)):=za (by rw[D,zj (by omega),<-h]);clear h L D hf z u K N I;subst aa ag ai ae ad ah ab;generalize ty.kind=ki at*;generalize ty.size=si at*;generalize ty.tail=ta at*;generalize ty.sub.length=tn at*;generalize x.text=xt at*;generalize x.list=xl at*;generalize x.sub.length=xn at*;generalize x.count=xc at*;go_enter func60,ntmps60
   go_wp2_with fail
   refine(O.out _ (Mv.start w _ _).bel).mono ?_;rintro e w1 ⟨rfl,q⟩;have c:=(Mv.start w _ _).more q;have r:=za c;clear q;obtain⟨k,l,o,n⟩:=od c.ty;obtain⟨p,j,m⟩:=oc c.it;clear c;go_wp2_with fail
   refine(X.out _ r.out.bel).mono ?_;rintro e w2 ⟨rfl,y⟩;have i:=r.out.more y;have J:=za i;clear y k l o n p j m;obtain⟨k,l,o,n⟩:=od i.ty;obtain⟨p,j,m⟩:=oc i.it;clear i;go_wp2_with fail
   refine(HC.out _ J.out.bel).mono ?_;rintro e w3 ⟨rfl,R⟩;have s:=J.out.more R;have H:=za s;clear R k l o n p j m;obtain⟨k,l,o,n⟩:=od s.ty;obtain⟨p,j,m⟩:=oc s.it;clear s;go_wp2;go_ret2
   exact⟨by rw[G.out];rfl,H.out.bel⟩
  rw[zj hM]at h;have d1:decide (M<(x.count:Int))=false:=zz hM;have G:Hid (P=(⟨(x.lay ty).toArray⟩,0)):=za (by rw[D,zl (by omega)]);have Qj:=Km x ty qF oV;have X7:=za (fun V (d:Below w.heap.size w V) (b:Nat) (hb:DD V (b+1) b []) (tO:w.heap.size<=b) (X9:b<V.heap.size)=>abm x w.heap.size V c0 Y S ((u.below (d.mono C)).mono C) d.size ak ty Z U W t3 ((z.below (d.mono C)).mono C) qF oV b (b+1) [] hb tO X9 (N.below d Vd) Vd (by simp only[zS];omega));have Nn:Hid ((x.lay ty).length<=1099511627776):=za (by omega);simp only[yE]at X7;clear h L D hf z u K N I Qj;subst aa ag ai ae ad ah ab;generalize x.lay ty=LX at*;generalize ty.kind=ki at*;generalize ty.size=si at*;generalize ty.tail=ta at*;generalize ty.sub.length=tn at*;generalize x.text=xt at*;generalize x.list=xl at*;generalize x.sub.length=xn at*;generalize x.count=xc at*;go_enter func60,ntmps60
  go_wp2_with fail
  refine(O.out _ (Mv.start w _ _).bel).mono ?_;rintro e w1 ⟨rfl,q⟩;have c:=(Mv.start w _ _).more q;have r:=za c;clear q;obtain⟨k,l,o,n⟩:=od c.ty;obtain⟨p,j,m⟩:=oc c.it;clear c;go_wp2_with fail
  refine(X.out _ r.out.bel).mono ?_;rintro e w2 ⟨rfl,y⟩;have i:=r.out.more y;have J:=za i;clear y k l o n p j m;obtain⟨k,l,o,n⟩:=od i.ty;obtain⟨p,j,m⟩:=oc i.it;clear i;go_wp2_with fail
  refine(HC.out _ J.out.bel).mono ?_;rintro e w3 ⟨rfl,R⟩;have s:=J.out.more R;have H:=za s;clear R k l o n p j m;obtain⟨k,l,o,n⟩:=od s.ty;obtain⟨p,j,m⟩:=oc s.it;clear s;have QY:=H.out.more ((zq w3.heap.size w3).alloc (zf _) (.cells #[.pointer none,.slice none 0 0] 144));obtain⟨Q0,Q1,Q2,Q3⟩:=od QY.ty;obtain⟨R0,R1,R2⟩:=oc QY.it;clear QY;have ao:=H.out.bel.size;go_wp2_with fail
  have an:DD (w3.alloc (.cells #[.pointer none,.slice none 0 0] 144)) (w3.heap.size+1) w3.heap.size []:=⟨by omega,_,_,af.new w3 _ _,.inl rfl,bJ.nil _ _ _,fun _=>rfl⟩
  have DS:Below w.heap.size w (w3.alloc (.cells #[.pointer none,.slice none 0 0] 144)):=H.out.bel.alloc H.out.bel.size _;refine(X7.out _ DS w3.heap.size an H.out.bel.size (by simp)).mono ?_;rintro e w4 ⟨rfl,bP,Jh⟩;have dT:=za bP;have dC:Hid (Below w.heap.size w w4):=za (DS.trans (Jh.below (by omega) (by omega)));clear bP Jh an DS;go_wp2_with fail
  refine(FA w3.heap.size (w3.heap.size+1) w4 LX dT.out Nn.out w.heap.size (by omega)).mono ?_;rintro e w5 ⟨rfl,jj,_⟩;go_wp2;go_ret2
  exact⟨by rw[G.out];rfl,dC.out.trans jj⟩
theorem Tm {W:World}(h:laidMetH prog [("unicode/utf8.acceptRanges",Rows.laid_unicode_utf8_acceptRanges),("hatchway/compact.behind",Rows.laid_hatchway_compact_behind),("hatchway/schema.uintSizes",Rows.laid_hatchway_schema_uintSizes),("unicode/utf8.first",Rows.laid_unicode_utf8_first)] W):Laid W∧bj W:=by
 rw[MakeChecks.laidMetH_plain _ _ _ (by kernel_rfl)]at h;have c:prog.globalNamed "hatchway/compact.behind" =some 0:=by kernel_rfl
 have b:prog.globalNamed "hatchway/schema.uintSizes" =some 1:=by kernel_rfl
 have e:Lib.TabIs prog W "hatchway/compact.behind" .i64 [2,4,8]:=Lib.tabIs_of_head (k:= .i64) (zs:= [2,4,8]) (n:=3) c (by kernel_rfl) underlying231 yI (by kernel_rfl) (by kernel_rfl) h.tail;have d:Lib.TabIs prog W "hatchway/schema.uintSizes" .i64 [1,2,4,8]:=Lib.tabIs_of_head (k:= .i64) (zs:= [1,2,4,8]) (n:=4) b (by kernel_rfl) underlying261 yI (by kernel_rfl) (by kernel_rfl) h.tail.tail;exact⟨⟨d.cell b 0 (by simp),d.cell b 1 (by simp),d.cell b 2 (by simp),d.cell b 3 (by simp)⟩,⟨e.cell c 0 (by simp),e.cell c 1 (by simp),e.cell c 2 (by simp)⟩⟩
