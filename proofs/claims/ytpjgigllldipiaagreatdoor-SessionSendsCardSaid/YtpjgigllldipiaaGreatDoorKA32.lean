/- layout.lay: a value's layout is written. -/
import Derived.Test.YtpjgigllldipiaaGreatDoorKA31
import Derived.Test.YtpjgigllldipiaaGreatDoorKA30
import Derived.Test.YtpjgigllldipiaaGreatDoorRows
import Derived.Lib.LaidTab
import Derived.Stop.LaidErr
import Derived.MakeChecks
set_option linter.all false
set_option maxRecDepth 100000
set_option maxHeartbeats 3200000
namespace Go.Proofs.YtpjgigllldipiaaGreatDoor
open Go.RowKit
def Yp:=@Tryz.ntmps98
theorem DM.KG {w w':World}{base b:Nat}{l:List UInt8}(h:DM w base b l)(d:Below w.heap.size w w'):DM w' base b l:=by
 obtain⟨i,p,v,c,k,e,j⟩:=h;exact⟨i,p,v,(d.block b c.lt).trans c,k,e.below d,j⟩
theorem cS.UY {E:TypeId}{base b:Nat}{e w w':World}(h:cS E base b e w)(c:Below w.heap.size w w')(i:base<=w.heap.size):cS E base b e w':=
 h.trans ⟨c.os,c.tape,c.output,c.size,fun k d _=>c.block k (by omega),fun k o d _ _=>(c.block k (yj.1 d).1).trans d⟩
structure P8 (w:World)(base b:Nat)(lb:List UInt8)(k1 k2:Array Value)(g:Nat)(wr:World)(l:List UInt8):Prop where
 ty:af wr g 64 k1
 it:af wr (g+1) 28 k2
 bld:DM wr base b (lb++l)
 kept:cS 5 base b w wr
 siz:g+1<wr.heap.size
theorem P8.start {w:World}{base b:Nat}{lb:List UInt8}{k1 k2:Array Value}(h:DM w base b lb)(d:base<=w.heap.size):P8 w base b lb k1 k2 w.heap.size ((w.alloc (.cells k1 64)).alloc (.cells k2 28)) [] where
 ty:=(af.new w _ _).alloc _
 it:=by have:=af.new (w.alloc (.cells k1 64)) 28 k2;simpa using this
 bld:=by
  have c:Below w.heap.size w ((w.alloc (.cells k1 64)).alloc (.cells k2 28)):=((zq _ w).alloc (zi _) _).alloc (by simp) _;rw[xx];exact h.KG c
 kept:=by
  have c:Below w.heap.size w ((w.alloc (.cells k1 64)).alloc (.cells k2 28)):=((zq _ w).alloc (zi _) _).alloc (by simp) _;exact(cS.refl _ _ _ _).UY c d
 siz:=by simp
theorem P8.more {w wr w':World}{base b g:Nat}{lb l:List UInt8}{k1 k2:Array Value}(h:P8 w base b lb k1 k2 g wr l)(c:Below wr.heap.size wr w')(d:base<=w.heap.size):P8 w base b lb k1 k2 g w' l where
 ty:=(c.block _ h.ty.lt).trans h.ty
 it:=(c.block _ h.it.lt).trans h.it
 bld:=h.bld.KG c
 kept:=h.kept.UY c (by have:=h.kept.size;omega)
 siz:=by have:=c.size;have:=h.siz;omega
theorem P8.put {w wr w':World}{base b g:Nat}{lb l m:List UInt8}{k1 k2:Array Value}(h:P8 w base b lb k1 k2 g wr l)(d:DM w' base b ((lb++l)++m))(c:cS 5 base b wr w')(e:b<g):P8 w base b lb k1 k2 g w' (l++m) where
 ty:=c.blk h.ty (by omega) (by decide)
 it:=c.blk h.it (by omega) (by decide)
 bld:=by rw[<-zI];exact d
 kept:=h.kept.trans c
 siz:=by have:=c.size;have:=h.siz;omega
theorem bn.UZ {w w':World}{E:TypeId}{base b:Nat}(h:bn w)(d:cS E base b w w')(c:0<base)(e:0<b):bn w':=h.same (d.block _ c (by omega))
theorem WV {t:ByteArray}(e:t.size<=8)(d:gj t.data.toList=false):Sb t false=lk t.data.toList:=by
 have c:pe t=0:=by
  unfold pe;by_cases b:t.size=0
  ·rw[zl b]
  rw[zj b,zj (by omega),d];rfl
 simp[Sb,vq,c]
theorem ql (s:List It)(k:Nat)(t:Ty):(cn (s.take k) t 0).length<=(cn s t 0).length:=by
 have:=xj List.length (sx (s.take k) (s.drop k) t 0);rw[zL,zo]at this;omega
theorem abP :∀(x:It) (B:Nat) (w:World) (c0 c1 c2:Value),bW w B x c0 c1 c2->B<=w.heap.size->x.right=true->∀(ty:Ty) (t0 t1 t2 t3:Value),cw w B ty t0 t1 t2 t3->ty.right=true->x.dj ty=true->
 ∀(b base:Nat) (lb:List UInt8),DM w base b lb->B<=b->base<=w.heap.size->bn w->0<B->lb.length+(x.lay ty).length<=1099511627776->
 Calls Tryz.prog 98 #[.pointer (some ⟨b,0,none⟩),.agg #[t0,t1,t2,t3],.agg #[c0,c1,c2]] w fun e w'=>e= .returned (.tuple #[])/\DM w' base b (lb++x.lay ty)/\cS 5 base b w w':=by
 intro x;induction x using It.ind with
 |h t l s ih=>
  intro B w c0 c1 c2 h hB hr ty t0 t1 t2 t3 hT qM K b base lb Uj ah DT iS ag y;obtain⟨rfl,rfl,ht,hs,A,cap,rfl,nW,lM,dx⟩:=h;have IH:=za ih;have HS:=za dx;clear ih dx;obtain⟨k,z,d,F⟩:=ty;obtain⟨rfl,rfl,rfl,hk,hz,nN,qJ,A',aq,rfl,ar,ao,Re⟩:=hT;obtain⟨bC,Dx⟩:=ju qM;have fg:b<base:=Uj.1;have X:=za (P8.start (k1:= #[.int .i64 k,.int .i64 z,.slice A' d.length aq,.int .i64 F]) (k2:= #[.string t,.bool l,.slice A s.length cap]) Uj DT);simp only[It.dj,zF]at K;obtain⟨J,da⟩:=K;have Gs:=za hr;have Dw:=za Re;have al:=za Dx;have qD:=za da;have wX:=za iS;unfold l9 at hk hz nN;clear hr Re Dx qM Uj da iS;rcases lu bC with⟨rfl,h3,hn,rfl⟩|⟨rfl,h3,h4,hn,rfl⟩|⟨rfl,h3,h4,hn,rfl⟩|⟨rfl,h3,h4,hn,rfl⟩|⟨rfl,rfl,h4,h5,h6⟩
  ·obtain⟨I,rfl⟩:∃I:Nat,z=I:=⟨z.toNat,by omega⟩
   obtain⟨rfl,ej,DO⟩:=J9 J;obtain rfl:d= []:=zt hn;have r:Hid ((It.mk t false s).lay (Ty.mk 1 I [] 0)=jk (lk t.data.toList) I):=za (tI _ _ _ _ _ _);rw[r.out]at y⊢;have ak:=WV (t:=t) (by omega) DO;have HO:=za (fun w'=>abC t false (.slice A s.length cap) w' (by omega));rw[ak]at HO;have aj:=ue t.data.toList;rw[aa]at aj;have Sr:lk t.data.toList<2^(8*I):=yf aj (yy (by omega) (by omega));have HD:=za (fun w'=>jA (lk t.data.toList) I w' Sr (by omega) (by omega));rw[bd]at y;have ai:(jk (lk t.data.toList) I).length=I:=bd _ _;generalize WD t false=E at*;generalize jk (lk t.data.toList) I=ab at*;generalize lk t.data.toList=n at*;clear bC IH HS Dw J ak aj Sr r;go_enter Tryz.func98,Yp
   go_wp2_with fail
   refine(HO.out _).mono ?_;rintro e w2 ⟨rfl,Y⟩;have L:=za (X.out.more Y DT);clear Y;have q1:w2.cell? ⟨w.heap.size,1,none⟩=some (.int .i64 I):=L.out.ty.cell 1;go_wp2_with fail
   refine(HD.out _).mono ?_;rintro e w3 ⟨rfl,bS⟩;have D:=za (L.out.more bS DT);clear bS;go_wp2_with fail
   refine(lG b base w3 (lb++ []) _ D.out.bld (by show ab≠ [];intro e;rw[e]at ai;simp at ai;omega) (by have:=D.out.kept.size;omega) (by rw[bD,xx,ai];exact y)).mono ?_;rintro e w4 ⟨rfl,Z,Jy⟩;have Vz:=za (D.out.put Z Jy (by omega));clear Z Jy;go_wp2;go_end0
   exact⟨rfl,by simpa using Vz.out.bld,Vz.out.kept⟩
  ·obtain⟨rfl,ej⟩:=CC J;obtain rfl:d= []:=zt hn;have r:Hid ((It.mk t false s).lay (Ty.mk 2 z [] 0)=t.data.toList):=za (tJ _ _ _ _ _ _);rw[r.out]at y⊢;rw[aa]at y;clear bC IH HS Dw J r;go_enter Tryz.func98,Yp
   go_wp2_with fail
   refine(lG b base _ (lb++ []) t X.out.bld (by intro e;have:=xj List.length e;rw[aa,zO]at this;omega) (by have:=X.out.kept.size;omega) (by rw[xx];exact y)).mono ?_;rintro e w4 ⟨rfl,Z,Jy⟩;have Vz:=za (X.out.put Z Jy (by omega));clear Z Jy;go_wp2;go_end0
   exact⟨rfl,by simpa using Vz.out.bld,Vz.out.kept⟩
  ·obtain⟨rfl,ej⟩:=ra J;obtain rfl:d= []:=zt hn;have r:Hid ((It.mk t false s).lay (Ty.mk 3 z [] 0)=dv t.size++t.data.toList):=za (nG _ _ _ _ _ _);rw[r.out]at y⊢;have HP:=za (fun w' (h:bn w')=>Kl t.size w' (by omega) h);have GG:=(iZ t.size).1;generalize dv t.size=ab at*;rw[zo,aa]at y;have av:ab++t.data.toList≠ []:=fun e=>by have:=xj List.length e;rw[zo,zO]at this;omega
   clear bC IH HS Dw J r;go_enter Tryz.func98,Yp
   go_wp2_with fail
   refine(HP.out _ (wX.out.UZ X.out.kept (by omega) (by omega))).mono ?_;rintro e w2 ⟨rfl,Y⟩;have L:=za (X.out.more Y DT);clear Y;go_wp2_with fail
   refine(lG b base w2 (lb++ []) _ L.out.bld (by show ab≠ [];intro e;rw[e]at GG;simp at GG) (by have:=L.out.kept.size;omega) (by rw[bD,xx];omega)).mono ?_;rintro e w3 ⟨rfl,Rh,Dl⟩;have D:=za (L.out.put Rh Dl (by omega));clear Rh Dl;have q1:w3.cell? ⟨w.heap.size+1,0,none⟩=some (.string t):=D.out.it.cell 0;go_wp2_with fail
   refine(vH b base w3 _ t D.out.bld (by intro e;have:=xj List.length e;simp only[zo,zO]at this;omega) (by have:=D.out.kept.size;omega) (by simp only[zo,zO];omega)).mono ?_;rintro e w4 ⟨rfl,Z,Jy⟩;have Vz:=za (D.out.put Z Jy (by omega));clear Z Jy;go_wp2;go_end0
   exact⟨rfl,by simpa using Vz.out.bld,Vz.out.kept⟩
  ·obtain⟨rfl,ej⟩:=EL J;have N':=za hn;have r:Hid ((It.mk t true s).lay (Ty.mk 4 z d 0)=dv s.length++cn s (Ty.mk 4 z d 0) 0):=za (pP _ _ _ _ _ _);rw[r.out]at y⊢;have HP:=za (fun w' (h:bn w')=>Kl s.length w' (by omega) h);have GG:=(iZ s.length).1;generalize dv s.length=ab at*;rw[zo]at y;clear bC J r hn;go_enter Tryz.func98,Yp
   go_wp2_with fail
   refine(HP.out _ (wX.out.UZ X.out.kept (by omega) (by omega))).mono ?_;rintro e w2 ⟨rfl,Y⟩;have L:=za (X.out.more Y DT);clear Y;go_wp2_with fail
   refine(lG b base w2 (lb++ []) _ L.out.bld (by show ab≠ [];intro e;rw[e]at GG;simp at GG) (by have:=L.out.kept.size;omega) (by rw[bD,xx];omega)).mono ?_;rintro e w3 ⟨rfl,Rh,Dl⟩;have D:=za (L.out.put Rh Dl (by omega));clear Rh Dl;have q1:w3.cell? ⟨w.heap.size+1,2,none⟩=some (.slice A s.length cap):=D.out.it.cell 2;go_wp2_with fail
   go_loopw [64] (fun i wr=>∃c:Nat,c<=s.length/\i= .int .i64 c/\Hid (P8 w base b lb #[.int .i64 4,.int .i64 z,.slice A' d.length aq,.int .i64 0] #[.string t,.bool true,.slice A s.length cap] w.heap.size wr (ab++cn (s.take c) (Ty.mk 4 z d 0) 0))) (fun i _=>s.length-(intOf i).toNat)
   case atStart=>exact⟨0,by omega,rfl,za (by have:=D.out;simpa[cn]using this)⟩
   case round=>
    obtain⟨c,NG,rfl,u⟩:=hrel;by_cases C:c<s.length
    ·have j:Below B w wr:=u.out.kept.below (by omega) ah;have hZ:=j.size;have q2:wr.cell? ⟨w.heap.size,2,none⟩=some (.slice A' d.length aq):=u.out.ty.cell 2;obtain⟨b1,o,d0,d1,d2,rfl,kf,U,M,R,hi⟩:=HS.out.at_ c C;simp only[zQ]at U M R;replace U:=(j.cell (p:=⟨b1,o+c*3,none⟩) kf).trans U;replace M:=(j.cell (p:=⟨b1,o+c*3+1,none⟩) kf).trans M;replace R:=(j.cell (p:=⟨b1,o+c*3+2,none⟩) kf).trans R;have W:0<d.length:=(by have:=N'.out;omega)
     obtain⟨m,o',f0,f1,f2,f3,rfl,S,H,k1,k2,G,Dj⟩:=Dw.out.at_ (0) W;simp only[zQ,Nat.zero_mul,xp]at H k1 k2 G;replace H:=(j.cell (p:=⟨m,_,none⟩) S).trans H;replace k1:=(j.cell (p:=⟨m,_,none⟩) S).trans k1;replace k2:=(j.cell (p:=⟨m,_,none⟩) S).trans k2;replace G:=(j.cell (p:=⟨m,_,none⟩) S).trans G;have cU:(Ty.mk 4 z d 0).at c=d[0]:=by show(d[N2 4 c]?).getD (.mk 0 0 [] 0)=d[0];rw[show N2 4 c=0 from rfl,zD W];rfl
     have K:=kS s (Ty.mk 4 z d 0) 0 qD.out c C;rw[zQ,cU]at K;have AG:cn (s.take (c+1)) (Ty.mk 4 z d 0) 0=cn (s.take c) (Ty.mk 4 z d 0) 0++s[c].lay d[0]:=by rw[BB C,cU]
     have ae:=ql s (c+1) (Ty.mk 4 z d 0);rw[AG,zo]at ae;have T5:=za AG;have HC:Hid (∀V,Below wr.heap.size wr V->Calls Tryz.prog 98 #[.pointer (some ⟨b,0,none⟩),.agg #[f0,f1,f2,f3],.agg #[d0,d1,d2]] V fun e w'=>e= .returned (.tuple #[])/\DM w' base b ((lb++(ab++cn (s.take c) (Ty.mk 4 z d 0) 0))++s[c].lay d[0])/\cS 5 base b V w'):=za (fun V N=>by
      have mh:Below B w V:=j.trans (N.mono (by omega));exact IH.out _ (zM C) B V d0 d1 d2 (hi.below mh) (by have:=N.size;omega) (jv Gs.out c C) d[0] f0 f1 f2 f3 (Dj.below mh) (dP al.out (0) W) K b base _ (u.out.bld.KG N) ah (by have:=N.size;omega) (wX.out.below mh ag) ag (by rw[zo,zo];omega))
     have an:=za W;obtain⟨A2,ca,rfl,rfl,rfl,_⟩:=hi.open_;generalize s[c].text=xt at*;generalize s[c].list=xl at*;generalize s[c].sub.length=xn at*;generalize s[c].lay d[0]=LX at*;have q:Below wr.heap.size wr (wr.alloc (.cells #[.string xt,.bool xl,.slice A2 xn ca] 28)):=(zq _ _).alloc (zi _) _;have O:=af.new wr 28 #[.string xt,.bool xl,.slice A2 xn ca];have n0:=O.cell 0;have n1:=O.cell 1;have n2:=O.cell 2;have ej:=u.out.siz;have Q2:=(q.cell (p:=⟨w.heap.size,2,none⟩) (by simp;omega)).trans q2;have K0:=(q.cell (p:=⟨m,_,none⟩) (by simp;omega)).trans H;have K1:=(q.cell (p:=⟨m,_,none⟩) (by simp;omega)).trans k1;have K2:=(q.cell (p:=⟨m,_,none⟩) (by simp;omega)).trans k2;have K3:=(q.cell (p:=⟨m,_,none⟩) (by simp;omega)).trans G;have GL:=za q;clear hi Dj j cU K AG ae q O;go_wp2_with fail
     generalize GM:wr.alloc (.cells #[.string xt,.bool xl,.slice A2 xn ca] 28)=W1 at*;clear GM q2 U M R H k1 k2 G;go_still_tail 6,(by kernel_rfl)
     change wpList _ _ _ _ _ W1.drew
     go_wp2_with fail
     refine(HC.out W1.drew GL.out.drew).mono ?_;rintro e w5 ⟨rfl,Ri,ad⟩;have Dz:=za ((u.out.more GL.out.drew DT).put Ri ad (by omega));clear Ri ad;rw[zI,<-T5.out]at Dz;go_wp2;go_roundw
     case rel=>exact⟨c+1,by omega,by go_num,Dz⟩
     case measure=>simp[intOf];omega
    have h1:=u.out;rw[zC (by omega)]at h1;have HM:=za h1;clear h1;go_wp2;go_end0
    exact⟨rfl,HM.out.bld,HM.out.kept⟩
  obtain⟨rfl,Xx,au⟩:=pO J;have r:Hid ((It.mk t true s).lay (Ty.mk 5 0 d F)= []++cn s (Ty.mk 5 0 d F) 0):=za (mK _ _ _ _ _ _);rw[r.out]at y⊢;rw[zo]at y;clear bC J r;go_enter Tryz.func98,Yp
  go_wp2_with fail
  go_loopw [81] (fun i wr=>∃c:Nat,c<=s.length/\i= .int .i64 c/\Hid (P8 w base b lb #[.int .i64 5,.int .i64 0,.slice A' d.length aq,.int .i64 F] #[.string t,.bool true,.slice A s.length cap] w.heap.size wr ([]++cn (s.take c) (Ty.mk 5 0 d F) 0))) (fun i _=>s.length-(intOf i).toNat)
  case atStart=>exact⟨0,by omega,rfl,za (by have:=X.out;simpa[cn]using this)⟩
  case round=>
   obtain⟨c,NG,rfl,u⟩:=hrel;by_cases C:c<s.length
   ·have j:Below B w wr:=u.out.kept.below (by omega) ah;have hZ:=j.size;have q2:wr.cell? ⟨w.heap.size,2,none⟩=some (.slice A' d.length aq):=u.out.ty.cell 2;obtain⟨b1,o,d0,d1,d2,rfl,kf,U,M,R,hi⟩:=HS.out.at_ c C;simp only[zQ]at U M R;replace U:=(j.cell (p:=⟨b1,o+c*3,none⟩) kf).trans U;replace M:=(j.cell (p:=⟨b1,o+c*3+1,none⟩) kf).trans M;replace R:=(j.cell (p:=⟨b1,o+c*3+2,none⟩) kf).trans R;have W:c<d.length:=(by omega)
    obtain⟨m,o',f0,f1,f2,f3,rfl,S,H,k1,k2,G,Dj⟩:=Dw.out.at_ (c) W;simp only[zQ,Nat.zero_mul,xp]at H k1 k2 G;replace H:=(j.cell (p:=⟨m,_,none⟩) S).trans H;replace k1:=(j.cell (p:=⟨m,_,none⟩) S).trans k1;replace k2:=(j.cell (p:=⟨m,_,none⟩) S).trans k2;replace G:=(j.cell (p:=⟨m,_,none⟩) S).trans G;have cU:(Ty.mk 5 0 d F).at c=d[c]:=by show(d[N2 5 c]?).getD (.mk 0 0 [] 0)=d[c];rw[show N2 5 c=c from rfl,zD W];rfl
    have K:=kS s (Ty.mk 5 0 d F) 0 qD.out c C;rw[zQ,cU]at K;have AG:cn (s.take (c+1)) (Ty.mk 5 0 d F) 0=cn (s.take c) (Ty.mk 5 0 d F) 0++s[c].lay d[c]:=by rw[BB C,cU]
    have ae:=ql s (c+1) (Ty.mk 5 0 d F);rw[AG,zo]at ae;have T5:=za AG;have HC:Hid (∀V,Below wr.heap.size wr V->Calls Tryz.prog 98 #[.pointer (some ⟨b,0,none⟩),.agg #[f0,f1,f2,f3],.agg #[d0,d1,d2]] V fun e w'=>e= .returned (.tuple #[])/\DM w' base b ((lb++([]++cn (s.take c) (Ty.mk 5 0 d F) 0))++s[c].lay d[c])/\cS 5 base b V w'):=za (fun V N=>by
     have mh:Below B w V:=j.trans (N.mono (by omega));exact IH.out _ (zM C) B V d0 d1 d2 (hi.below mh) (by have:=N.size;omega) (jv Gs.out c C) d[c] f0 f1 f2 f3 (Dj.below mh) (dP al.out (c) W) K b base _ (u.out.bld.KG N) ah (by have:=N.size;omega) (wX.out.below mh ag) ag (by rw[zo,zo];omega))
    have an:=za W;obtain⟨A2,ca,rfl,rfl,rfl,_⟩:=hi.open_;generalize s[c].text=xt at*;generalize s[c].list=xl at*;generalize s[c].sub.length=xn at*;generalize s[c].lay d[c]=LX at*;have q:Below wr.heap.size wr (wr.alloc (.cells #[.string xt,.bool xl,.slice A2 xn ca] 28)):=(zq _ _).alloc (zi _) _;have O:=af.new wr 28 #[.string xt,.bool xl,.slice A2 xn ca];have n0:=O.cell 0;have n1:=O.cell 1;have n2:=O.cell 2;have ej:=u.out.siz;have Q2:=(q.cell (p:=⟨w.heap.size,2,none⟩) (by simp;omega)).trans q2;have K0:=(q.cell (p:=⟨m,_,none⟩) (by simp;omega)).trans H;have K1:=(q.cell (p:=⟨m,_,none⟩) (by simp;omega)).trans k1;have K2:=(q.cell (p:=⟨m,_,none⟩) (by simp;omega)).trans k2;have K3:=(q.cell (p:=⟨m,_,none⟩) (by simp;omega)).trans G;have GL:=za q;clear hi Dj j cU K AG ae q O;go_wp2_with fail
    generalize GM:wr.alloc (.cells #[.string xt,.bool xl,.slice A2 xn ca] 28)=W1 at*;clear GM q2 U M R H k1 k2 G;go_still_tail 7,(by kernel_rfl)
    change wpList _ _ _ _ _ W1.drew
    go_wp2_with fail
    refine(HC.out W1.drew GL.out.drew).mono ?_;rintro e w5 ⟨rfl,Ri,ad⟩;have Dz:=za ((u.out.more GL.out.drew DT).put Ri ad (by omega));clear Ri ad;rw[zI,<-T5.out]at Dz;go_wp2;go_roundw
    case rel=>exact⟨c+1,by omega,by go_num,Dz⟩
    case measure=>simp[intOf];omega
   have h1:=u.out;rw[zC (by omega)]at h1;have HM:=za h1;clear h1;go_wp2;go_end0
   exact⟨rfl,HM.out.bld,HM.out.kept⟩
theorem vI :∀(s:List It) (t:Ty) (i:Nat),(∀j (h:j<s.length),((s[j]).lay (t.at (i+j))).length<=65545*(s[j]).count)->(cn s t i).length<=65545*aH s
 | [],_,_,_=>by simp[cn,aH]
 |x::xs,t,i,h=>by
  have c:=h 0 (by simp);simp only[yZ,xp]at c;have d:=vI xs t (i+1) (fun j b=>by have:=h (j+1) (by simpa using b);simpa[show i+(j+1)=i+1+j from by omega]using this);simp only[cn,zo,aH];omega
theorem KH (x:It):∀t:Ty,t.right=true->x.dj t=true->(x.lay t).length<=65545*x.count:=by
 induction x using It.ind with
 |h tx b s ih=>
  intro t C hi;obtain⟨k,z,l,e⟩:=t;obtain⟨B,r⟩:=ju C;simp only[It.dj,zF]at hi;obtain⟨o,y⟩:=hi;have w:=kS s _ 0 y;rcases lu B with⟨rfl,D,i,m⟩|⟨rfl,q,n,i,m⟩|⟨rfl,q,n,i,m⟩|⟨rfl,q,n,i,m⟩|⟨rfl,q,n,E,F⟩
  ·rw[tI,bd];simp only[It.count];omega
  ·have:=CC o;rw[tJ,aa];simp only[It.count];omega
  ·have:=ra o;rw[nG,zo,aa];have:=iZ tx.size;simp only[It.count];omega
  ·have H:=iZ s.length;have A:=vI s (.mk 4 z l e) 0 (fun j d=>by
    have c:=w j d;have p:(Ty.mk 4 z l e).at (0+j)=l[0]'(by omega):=by unfold Ty.at;simp[i]
    rw[p]at c⊢;exact ih _ (zM d) _ (dP r 0 (by omega)) c)
   rw[pP,zo];simp only[It.count];omega
  have G:=pO o;have A:=vI s (.mk 5 z l e) 0 (fun j d=>by
   have c:=w j d;have u:j<l.length:=by omega
   have p:(Ty.mk 5 z l e).at (0+j)=l[j]:=by unfold Ty.at;simp[u]
   rw[p]at c⊢;exact ih _ (zM d) _ (dP r j u) c)
  rw[mK];simp only[It.count];omega
structure MQ (w:World)(k1 k2:Array Value)(V:World):Prop where
 ty:af V w.heap.size 64 k1
 it:af V (w.heap.size+1) 28 k2
 bel:Below w.heap.size w V
 siz:w.heap.size+2<=V.heap.size
theorem MQ.start (w:World)(k1 k2:Array Value):MQ w k1 k2 ((w.alloc (.cells k1 64)).alloc (.cells k2 28)) where
 ty:=(af.new w _ _).alloc _
 it:=af.at_ (by simp)
 bel:=((zq _ w).alloc (zi _) _).alloc (by simp) _
 siz:=by simp
theorem MQ.more {w V V':World}{k1 k2:Array Value}(h:MQ w k1 k2 V)(b:Below V.heap.size V V'):MQ w k1 k2 V' where
 ty:=(b.block _ h.ty.lt).trans h.ty
 it:=(b.block _ h.it.lt).trans h.it
 bel:=h.bel.trans (b.mono h.bel.size)
 siz:=zP h.siz b.size
theorem om {w:World}{g:Nat}{t:TypeId}{a b c:Value}(h:af w g t #[a,b,c]):w.cell? ⟨g,0,none⟩=some a/\w.cell? ⟨g,1,none⟩=some b/\w.cell? ⟨g,2,none⟩=some c:=⟨h.cell 0,h.cell 1,h.cell 2⟩
theorem oo {w:World}{g:Nat}{t:TypeId}{a b c d:Value}(h:af w g t #[a,b,c,d]):w.cell? ⟨g,0,none⟩=some a/\w.cell? ⟨g,1,none⟩=some b/\w.cell? ⟨g,2,none⟩=some c/\w.cell? ⟨g,3,none⟩=some d:=⟨h.cell 0,h.cell 1,h.cell 2,h.cell 3⟩
theorem FI (ty:Ty)(x:It)(M:Int)(B:Nat)(w:World)(Y R U t3 c0 X S:Value)(z:cw w B ty Y R U t3)(u:bW w B x c0 X S)(D:B<=w.heap.size)(J:Laid w)(N:bn w):
 Calls Tryz.prog 60 #[.agg #[Y,R,U,t3],.agg #[c0,X,S],.int .i64 M] w fun e w'=>e= .returned (.tuple #[.string (mL ty x M).1,.int .i64 (mL ty x M).2])/\Below w.heap.size w w':=by
 have eZ:=J.pos;have VC:=N.pos;have L:=za (fun V (d:Below w.heap.size w V)=>IP ty B V Y R U t3 (z.below (d.mono D)) (by have:=d.size;omega) (J.below d eZ));have W:=za (fun V (d:Below w.heap.size w V)=>IV ty x B V Y R U t3 c0 X S (z.below (d.mono D)) (u.below (d.mono D)) (by have:=d.size;omega) (J.below d eZ));obtain⟨E,h⟩:∃E,iM ty x M=E:=⟨_,rfl⟩
 obtain⟨P,O⟩:∃P,mL ty x M=P:=⟨_,rfl⟩
 have C:P=if E=0 then(⟨(x.lay ty).toArray⟩,0)else(⟨#[]⟩,E):=by rw[<-O,<-h];rfl
 rw[O];unfold iM at h;obtain⟨A,cap,ah,ag,ai,ae,_⟩:=z.open_;obtain⟨A',aq,ad,ab,aa,_⟩:=u.open_;cases hf:ty.flat with
 |false=>
  rw[hf]at L;rw[zl hf]at h;have I:Hid (P=(⟨#[]⟩,1)):=za (by rw[C,zj (by omega),<-h]);clear h O C hf z u J N W;subst ah ag ai ae ad ab aa;generalize ty.kind=ki at*;generalize ty.size=si at*;generalize ty.tail=ta at*;go_enter Tryz.func60,Tryz.ntmps60
  go_wp2_with fail
  refine(L.out _ (MQ.start w _ _).bel).mono ?_;rintro e w1 ⟨rfl,q⟩;have c:=(MQ.start w _ _).more q;have r:=za c;clear q;obtain⟨m,p,n,l⟩:=oo c.ty;obtain⟨k,j,o⟩:=om c.it;clear c;go_wp2;go_ret2
  exact⟨by rw[I.out];rfl,r.out.bel⟩
 |true=>
  rw[hf]at L;rw[zj (by simp[hf])]at h;by_cases K:eI ty x≠0
  ·rw[zl K]at h;have e1:(eI ty x !=0)=true:=yP.2 K;have I:Hid (P=(⟨#[]⟩,eI ty x)):=za (by rw[C,zj (by rw[<-h];exact K),<-h]);clear h O C hf z u J N;subst ah ag ai ae ad ab aa;generalize eI ty x=F at*;generalize ty.kind=ki at*;generalize ty.size=si at*;generalize ty.tail=ta at*;generalize ty.sub.length=tn at*;generalize x.text=xt at*;generalize x.list=xl at*;generalize x.sub.length=xn at*;go_enter Tryz.func60,Tryz.ntmps60
   go_wp2_with fail
   refine(L.out _ (MQ.start w _ _).bel).mono ?_;rintro e w1 ⟨rfl,q⟩;have c:=(MQ.start w _ _).more q;have r:=za c;clear q;obtain⟨m,p,n,l⟩:=oo c.ty;obtain⟨k,j,o⟩:=om c.it;clear c;go_wp2_with fail
   refine(W.out _ r.out.bel).mono ?_;rintro e w2 ⟨rfl,y⟩;have i:=r.out.more y;have H:=za i;clear y m p n l k j o;obtain⟨m,p,n,l⟩:=oo i.ty;obtain⟨k,j,o⟩:=om i.it;clear i;go_wp2;go_ret2
   exact⟨by rw[I.out];rfl,H.out.bel⟩
  rw[zj K]at h;have aj:eI ty x=0:=zJ.1 K;rw[aj]at W;obtain⟨_,qM,_,_,lg⟩:=jx hf;obtain⟨_,QE,o4⟩:=rf aj;obtain⟨ak,_,ao⟩:=sA QE;have HC:=za (fun V (d:Below w.heap.size w V)=>MP x B V c0 X S (u.below (d.mono D)) (by have:=d.size;omega) QE ak);by_cases hM:M<x.count
  ·rw[zl hM]at h;have d1:decide (M<(x.count:Int))=true:=zH hM;have I:Hid (P=(⟨#[]⟩,4)):=za (by rw[C,zj (by omega),<-h]);clear h O C hf z u J N K;subst ah ag ai ae ad ab aa;generalize ty.kind=ki at*;generalize ty.size=si at*;generalize ty.tail=ta at*;generalize ty.sub.length=tn at*;generalize x.text=xt at*;generalize x.list=xl at*;generalize x.sub.length=xn at*;generalize x.count=xc at*;go_enter Tryz.func60,Tryz.ntmps60
   go_wp2_with fail
   refine(L.out _ (MQ.start w _ _).bel).mono ?_;rintro e w1 ⟨rfl,q⟩;have c:=(MQ.start w _ _).more q;have r:=za c;clear q;obtain⟨m,p,n,l⟩:=oo c.ty;obtain⟨k,j,o⟩:=om c.it;clear c;go_wp2_with fail
   refine(W.out _ r.out.bel).mono ?_;rintro e w2 ⟨rfl,y⟩;have i:=r.out.more y;have H:=za i;clear y m p n l k j o;obtain⟨m,p,n,l⟩:=oo i.ty;obtain⟨k,j,o⟩:=om i.it;clear i;go_wp2_with fail
   refine(HC.out _ H.out.bel).mono ?_;rintro e w3 ⟨rfl,Z⟩;have s:=H.out.more Z;have G:=za s;clear Z m p n l k j o;obtain⟨m,p,n,l⟩:=oo s.ty;obtain⟨k,j,o⟩:=om s.it;clear s;go_wp2;go_ret2
   exact⟨by rw[I.out];rfl,G.out.bel⟩
  rw[zj hM]at h;have d1:decide (M<(x.count:Int))=false:=zz hM;have I:Hid (P=(⟨(x.lay ty).toArray⟩,0)):=za (by rw[C,zl (by omega)]);have QB:=KH x ty qM o4;have YU:=za (fun V (d:Below w.heap.size w V) (b:Nat) (hb:DM V (b+1) b []) (tV:w.heap.size<=b) (VB:b<V.heap.size)=>abP x w.heap.size V c0 X S ((u.below (d.mono D)).mono D) d.size ak ty Y R U t3 ((z.below (d.mono D)).mono D) qM o4 b (b+1) [] hb tV VB (N.below d VC) VC (by simp only[zO];omega));have NJ:Hid ((x.lay ty).length<=1099511627776):=za (by omega);simp only[yD]at YU;clear h O C hf z u J N K QB;subst ah ag ai ae ad ab aa;generalize x.lay ty=LX at*;generalize ty.kind=ki at*;generalize ty.size=si at*;generalize ty.tail=ta at*;generalize ty.sub.length=tn at*;generalize x.text=xt at*;generalize x.list=xl at*;generalize x.sub.length=xn at*;generalize x.count=xc at*;go_enter Tryz.func60,Tryz.ntmps60
  go_wp2_with fail
  refine(L.out _ (MQ.start w _ _).bel).mono ?_;rintro e w1 ⟨rfl,q⟩;have c:=(MQ.start w _ _).more q;have r:=za c;clear q;obtain⟨m,p,n,l⟩:=oo c.ty;obtain⟨k,j,o⟩:=om c.it;clear c;go_wp2_with fail
  refine(W.out _ r.out.bel).mono ?_;rintro e w2 ⟨rfl,y⟩;have i:=r.out.more y;have H:=za i;clear y m p n l k j o;obtain⟨m,p,n,l⟩:=oo i.ty;obtain⟨k,j,o⟩:=om i.it;clear i;go_wp2_with fail
  refine(HC.out _ H.out.bel).mono ?_;rintro e w3 ⟨rfl,Z⟩;have s:=H.out.more Z;have G:=za s;clear Z m p n l k j o;obtain⟨m,p,n,l⟩:=oo s.ty;obtain⟨k,j,o⟩:=om s.it;clear s;have Rk:=G.out.more ((zq w3.heap.size w3).alloc (zi _) (.cells #[.pointer none,.slice none 0 0] 144));obtain⟨Q0,Q1,Q2,Q3⟩:=oo Rk.ty;obtain⟨R0,R1,R2⟩:=om Rk.it;clear Rk;have an:=G.out.bel.size;go_wp2_with fail
  have al:DM (w3.alloc (.cells #[.pointer none,.slice none 0 0] 144)) (w3.heap.size+1) w3.heap.size []:=⟨by omega,_,_,af.new w3 _ _,.inl rfl,bJ.nil _ _ _,fun _=>rfl⟩
  have D4:Below w.heap.size w (w3.alloc (.cells #[.pointer none,.slice none 0 0] 144)):=G.out.bel.alloc G.out.bel.size _;refine(YU.out _ D4 w3.heap.size al G.out.bel.size (by simp)).mono ?_;rintro e w4 ⟨rfl,bP,Jy⟩;have dM:=za bP;have dH:Hid (Below w.heap.size w w4):=za (D4.trans (Jy.below (by omega) (by omega)));clear bP Jy al D4;go_wp2_with fail
  refine(FH w3.heap.size (w3.heap.size+1) w4 LX dM.out NJ.out w.heap.size (by omega)).mono ?_;rintro e w5 ⟨rfl,kn,_⟩;go_wp2;go_ret2
  exact⟨by rw[I.out];rfl,dH.out.trans kn⟩
theorem TB {W:World}(h:laidMetH Tryz.prog [("unicode/utf8.acceptRanges",Rows.laid_unicode_utf8_acceptRanges),("hatchway/compact.behind",Rows.laid_hatchway_compact_behind),("hatchway/schema.uintSizes",Rows.laid_hatchway_schema_uintSizes),("unicode/utf8.first",Rows.laid_unicode_utf8_first)] W):Laid W∧bn W:=by
 rw[MakeChecks.laidMetH_plain _ _ _ (by kernel_rfl)]at h;have d:Tryz.prog.globalNamed "hatchway/compact.behind" =some 0:=by kernel_rfl
 have b:Tryz.prog.globalNamed "hatchway/schema.uintSizes" =some 1:=by kernel_rfl
 have e:Lib.TabIs Tryz.prog W "hatchway/compact.behind" .i64 [2,4,8]:=Lib.tabIs_of_head (k:= .i64) (zs:= [2,4,8]) (n:=3) d (by kernel_rfl) Tryz.underlying231 yI (by kernel_rfl) (by kernel_rfl) h.tail;have c:Lib.TabIs Tryz.prog W "hatchway/schema.uintSizes" .i64 [1,2,4,8]:=Lib.tabIs_of_head (k:= .i64) (zs:= [1,2,4,8]) (n:=4) b (by kernel_rfl) Tryz.underlying261 yI (by kernel_rfl) (by kernel_rfl) h.tail.tail;exact⟨⟨c.cell b 0 (by simp),c.cell b 1 (by simp),c.cell b 2 (by simp),c.cell b 3 (by simp)⟩,⟨e.cell d 0 (by simp),e.cell d 1 (by simp),e.cell d 2 (by simp)⟩⟩
