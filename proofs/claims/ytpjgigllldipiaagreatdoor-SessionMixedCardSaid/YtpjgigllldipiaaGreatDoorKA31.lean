/- Package typed: Fits. -/
import Derived.Test.YtpjgigllldipiaaGreatDoorKA28
import Derived.Test.YtpjgigllldipiaaGreatDoorKA25
set_option linter.all false
set_option maxRecDepth 100000
set_option maxHeartbeats 3200000
namespace Go.Proofs.YtpjgigllldipiaaGreatDoor
open Tryz
open Go.RowKit
def Yh:=@ntmps129
def Yr:=@func129
def PJ (k:Int)(i j:Nat):Prop:=(k=4/\j=0)\/(k≠4/\j=i)
theorem Fw (k z s:Int)(b o n cap i j:Nat)(l h c:Int)(p:Option Addr)(d m:Nat)(w:World)(x:PJ k i j)(C:j<n)(D:n<=9223372036854775807)(B:b<w.heap.size)
 (r:w.cell? ⟨b,o+j*4,none⟩=some (.int .i64 l)) (u:w.cell? ⟨b,o+j*4+1,none⟩=some (.int .i64 h)) (y:w.cell? ⟨b,o+j*4+2,none⟩=some (.slice p d m)) (A:w.cell? ⟨b,o+j*4+3,none⟩=some (.int .i64 c)):
 Calls prog 130 #[.agg #[.int .i64 k,.int .i64 z,.slice (some ⟨b,o,none⟩) n cap,.int .i64 s],.int .i64 i] w fun e w'=>e= .returned (.agg #[.int .i64 l,.int .i64 h,.slice p d m,.int .i64 c])/\Below w.heap.size w w':=by
 rcases x with⟨rfl,rfl⟩|⟨q,rfl⟩
 ·simp only[Nat.zero_mul,xj]at r u y A;go_enter func130,ntmps130
  go_wp2;refine zo (v:= .agg #[.int .i64 l,.int .i64 h,.slice p d m,.int .i64 c]) (by simp[results,results130,go_sem]) rfl ⟨rfl, ?_⟩;first|exact bN|trace_state
 have E:(k==4)=false:=zr.2 q;clear q;go_enter func130,ntmps130
 go_wp2;refine zo (v:= .agg #[.int .i64 l,.int .i64 h,.slice p d m,.int .i64 c]) (by simp[results,results130,go_sem]) rfl ⟨rfl, ?_⟩;first|exact bN|trace_state
def NH (k:Int)(i:Nat):Nat:=if k=4 then 0 else i
structure FV (w:World)(ob fb g:Nat):Prop where
 of_:af w ob 171 #[.map (some g)]
 fn:af w fb 173 #[.func (.func 129) #[] #[.pointer (some ⟨ob,0,none⟩),.pointer (some ⟨fb,0,none⟩)]]
 mp:w.heap[g]?=some (.map NG.toArray 5)
theorem FV.ah {w w':World}{d c g B:Nat}(h:FV w d c g)(b:Below B w w')(e:d<B)(j:c<B)(i:g<B):FV w' d c g:=⟨h.of_.ah b e,h.fn.ah b j,(b.block g i).trans h.mp⟩
theorem FV.lt {w:World}{c b g:Nat}(h:FV w c b g):c<w.heap.size/\b<w.heap.size/\g<w.heap.size:=⟨h.of_.lt,h.fn.lt,y9 h.mp⟩
theorem FV.below {w w':World}{b c g:Nat}(h:FV w b c g)(d:Below w.heap.size w w'):FV w' b c g:=h.ah d h.lt.1 h.lt.2.1 h.lt.2.2
theorem abg (z:Int)(l:List Ty)(d:Int)(c:ByteArray)(b:Bool)(m:Nat):(!b&&decide ((c.size:Int)<=z)&& !fY c.data.toList)=nN (Ty.mk 1 z l d) c b m:=rfl
theorem abh (z:Int)(l:List Ty)(d:Int)(c:ByteArray)(b:Bool)(m:Nat):(!b&&decide ((c.size:Int)=z))=nN (Ty.mk 2 z l d) c b m:=rfl
theorem abi (z:Int)(l:List Ty)(d:Int)(c:ByteArray)(b:Bool)(m:Nat):(!b&&decide ((c.size:Int)<=z))=nN (Ty.mk 3 z l d) c b m:=rfl
theorem abj (z:Int)(l:List Ty)(d:Int)(c:ByteArray)(b:Bool)(m:Nat):(b&&decide ((m:Int)<=z))=nN (Ty.mk 4 z l d) c b m:=rfl
theorem abk (z:Int)(l:List Ty)(c:Int)(d:ByteArray)(b:Bool)(m:Nat):(b&&decide (m<=l.length)&&decide ((l.length:Int)-c<=m))=nN (Ty.mk 5 z l c) d b m:=rfl
theorem vt {k z:Int}{l:List Ty}{h:Int}{d:ByteArray}{b:Bool}{s:List It}(i:nN (Ty.mk k z l h) d b s.length=true)(c:(It.mk d b s).right=true)(j:k=1\/k=2\/k=3):s= []:=by
 have e:b=false:=by
  cases b with
  |false=>rfl
  |true=>rcases j with rfl|rfl|rfl<;>simp[nN]at i
 subst e;simp only[It.right,zF]at c;exact zw (by simpa[formed]using c.1)
theorem Tk :∀(x:It) (B:Nat) (w:World) (c0 c1 c2:Value),bZ w B x c0 c1 c2->B<=w.heap.size->x.right=true->∀(ty:Ty) (t0 t1 t2 t3:Value),cx w B ty t0 t1 t2 t3->ty.right=true->∀L O g,FV w L O g->
 Calls prog 129 #[.agg #[t0,t1,t2,t3],.agg #[c0,c1,c2],.pointer (some ⟨L,0,none⟩),.pointer (some ⟨O,0,none⟩)] w fun e w'=>e= .returned (.bool (x.cX ty))/\Below w.heap.size w w':=by
 intro x;induction x using It.ind with
 |h t l s ih=>
  intro B w c0 c1 c2 h hB hr ty t0 t1 t2 t3 hT qF L O g n;obtain⟨rfl,rfl,ht,hs,A,cap,rfl,nR,lI,du⟩:=h;have IH:=za ih;have HS:=za du;clear ih du;obtain⟨k,z,d,F⟩:=ty;obtain⟨rfl,rfl,rfl,hk,hz,nJ,As,I,r,rfl,al,an,QT⟩:=hT;obtain⟨bC,Dq⟩:=jr qF;have Gg:=za hr;have Dn:=za QT;have ak:=za Dq;have HR:Hid ((It.mk t l s).cX (Ty.mk k z d F)=(nN (Ty.mk k z d F) t l s.length&&cO s (Ty.mk k z d F) 0)):=za (by simp only[It.cX]);generalize (It.mk t l s).cX (Ty.mk k z d F)=R at*;unfold l7 at hk hz nJ;clear hr QT Dq qF;rcases lk bC with⟨rfl,h3,hn,rfl⟩|⟨rfl,h3,h4,hn,rfl⟩|⟨rfl,h3,h4,hn,rfl⟩|⟨rfl,h3,h4,hn,rfl⟩|⟨rfl,rfl,h4,h5,h6⟩
  ·skip
   clear bC IH HS hn;have U:=za (mU (w:=((w.alloc (.cells #[.int .i64 1,.int .i64 z,.slice I d.length r,.int .i64 0] 64)).alloc (.cells #[.string t,.bool l,.slice A s.length cap] 28))) (es:=NG) (c:=5) (((n.below ((zq _ _).alloc (zf _) _)).below ((zq _ _).alloc (zf _) _)).mp) 1 _ _ rfl);have X:=U.out;simp only[lP,jB,kg,pU,j4]at X;have hf:∀w,(Instr.field 176 (.agg #[.func (.func 165) #[] #[],.func (.func 163) #[] #[]]) 0).run prog w= .ok (.func (.func 165) #[] #[]) w:=fun _=>by kernel_rfl
   have T1:w.cell? ⟨L,0,none⟩=some (.map (some g)):=n.of_.cell 0;have B5:=n.lt.1;obtain⟨J,W⟩:∃J,nN (Ty.mk 1 z d 0) t l s.length=J:=⟨_,rfl⟩
   have D:=za W;have HV:=za n;clear W n U;go_enter Yr,Yh
   go_wp2_with fail
   refine(Wg 1 z 0 _ t l _ _ ht (by omega)).mono ?_;rintro e u ⟨rfl,y⟩;have C:=y;simp only[zt]at C;have G:Hid (Below w.heap.size w u):=za (((zq w.heap.size w).alloc (zf _) _|>.alloc (by simp) _).trans (C.mono (by omega)));have M1:Hid (af u w.heap.size 64 #[.int .i64 1,.int .i64 z,.slice I d.length r,.int .i64 0]):=za (((af.new w _ _).alloc _).only (ae.ag y (zf _)) (by simp));have M2:Hid (af u (w.heap.size+1) 28 #[.string t,.bool l,.slice A s.length cap]):=za ((show af _ (w.heap.size+1) _ _ from by have:=af.new (w.alloc (.cells #[.int .i64 1,.int .i64 z,.slice I d.length r,.int .i64 0] 64)) 28 #[.string t,.bool l,.slice A s.length cap];simpa using this).only (ae.ag y (zf _)) (by simp));have cg:=C.size;simp only[zt]at cg;clear y C X T1;rw[abg z d 0 t l s.length,D.out];obtain⟨g0,g1,g2,_,_,_⟩:=a8 M2.out;cases J with
   |false=>
    have E:Hid (R=false):=za (by rw[HR.out,D.out];rfl);go_wp2;go_ret;exact⟨by rw[E.out];rfl,G.out⟩
   |true=>
    have At:=vt D.out Gg.out (by first|exact .inl rfl|exact .inr (.inl rfl)|exact .inr (.inr rfl));have E:Hid (R=true):=za (by rw[HR.out,D.out,At];rfl);have QS:s.length=0:=by rw[At];rfl
    clear At;rw[QS]at g2;go_wp2_with fail
    refine yi 1 ?_;rw[yv];go_wp2;go_ret;exact⟨by rw[E.out];rfl,G.out⟩
  ·skip
   clear bC IH HS hn;have U:=za (mU (w:=((w.alloc (.cells #[.int .i64 2,.int .i64 z,.slice I d.length r,.int .i64 0] 64)).alloc (.cells #[.string t,.bool l,.slice A s.length cap] 28))) (es:=NG) (c:=5) (((n.below ((zq _ _).alloc (zf _) _)).below ((zq _ _).alloc (zf _) _)).mp) 2 _ _ rfl);have X:=U.out;simp only[lP,jB,kg,pU,j4]at X;have hf:∀w,(Instr.field 176 (.agg #[.func (.func 166) #[] #[],.func (.func 167) #[] #[]]) 0).run prog w= .ok (.func (.func 166) #[] #[]) w:=fun _=>by kernel_rfl
   have T1:w.cell? ⟨L,0,none⟩=some (.map (some g)):=n.of_.cell 0;have B5:=n.lt.1;obtain⟨J,W⟩:∃J,nN (Ty.mk 2 z d 0) t l s.length=J:=⟨_,rfl⟩
   have D:=za W;have HV:=za n;clear W n U;go_enter Yr,Yh
   go_wp2_with fail
   refine(Wh 2 z 0 I d.length r t l A s.length cap _ ht As hs (by omega) (by omega)).mono ?_;rintro e u ⟨rfl,y⟩;have C:=y;simp only[zt]at C;have G:Hid (Below w.heap.size w u):=za (((zq w.heap.size w).alloc (zf _) _|>.alloc (by simp) _).trans (C.mono (by omega)));have M1:Hid (af u w.heap.size 64 #[.int .i64 2,.int .i64 z,.slice I d.length r,.int .i64 0]):=za (((af.new w _ _).alloc _).only (ae.ag y (zf _)) (by simp));have M2:Hid (af u (w.heap.size+1) 28 #[.string t,.bool l,.slice A s.length cap]):=za ((show af _ (w.heap.size+1) _ _ from by have:=af.new (w.alloc (.cells #[.int .i64 2,.int .i64 z,.slice I d.length r,.int .i64 0] 64)) 28 #[.string t,.bool l,.slice A s.length cap];simpa using this).only (ae.ag y (zf _)) (by simp));have cg:=C.size;simp only[zt]at cg;clear y C X T1;rw[abh z d 0 t l s.length,D.out];obtain⟨g0,g1,g2,_,_,_⟩:=a8 M2.out;cases J with
   |false=>
    have E:Hid (R=false):=za (by rw[HR.out,D.out];rfl);go_wp2;go_ret;exact⟨by rw[E.out];rfl,G.out⟩
   |true=>
    have At:=vt D.out Gg.out (by first|exact .inl rfl|exact .inr (.inl rfl)|exact .inr (.inr rfl));have E:Hid (R=true):=za (by rw[HR.out,D.out,At];rfl);have QS:s.length=0:=by rw[At];rfl
    clear At;rw[QS]at g2;go_wp2_with fail
    refine yi 1 ?_;rw[yv];go_wp2;go_ret;exact⟨by rw[E.out];rfl,G.out⟩
  ·skip
   clear bC IH HS hn;have U:=za (mU (w:=((w.alloc (.cells #[.int .i64 3,.int .i64 z,.slice I d.length r,.int .i64 0] 64)).alloc (.cells #[.string t,.bool l,.slice A s.length cap] 28))) (es:=NG) (c:=5) (((n.below ((zq _ _).alloc (zf _) _)).below ((zq _ _).alloc (zf _) _)).mp) 3 _ _ rfl);have X:=U.out;simp only[lP,jB,kg,pU,j4]at X;have hf:∀w,(Instr.field 176 (.agg #[.func (.func 169) #[] #[],.func (.func 163) #[] #[]]) 0).run prog w= .ok (.func (.func 169) #[] #[]) w:=fun _=>by kernel_rfl
   have T1:w.cell? ⟨L,0,none⟩=some (.map (some g)):=n.of_.cell 0;have B5:=n.lt.1;obtain⟨J,W⟩:∃J,nN (Ty.mk 3 z d 0) t l s.length=J:=⟨_,rfl⟩
   have D:=za W;have HV:=za n;clear W n U;go_enter Yr,Yh
   go_wp2_with fail
   refine(Wi 3 z 0 I d.length r t l A s.length cap _ ht As hs (by omega) (by omega)).mono ?_;rintro e u ⟨rfl,y⟩;have C:=y;simp only[zt]at C;have G:Hid (Below w.heap.size w u):=za (((zq w.heap.size w).alloc (zf _) _|>.alloc (by simp) _).trans (C.mono (by omega)));have M1:Hid (af u w.heap.size 64 #[.int .i64 3,.int .i64 z,.slice I d.length r,.int .i64 0]):=za (((af.new w _ _).alloc _).only (ae.ag y (zf _)) (by simp));have M2:Hid (af u (w.heap.size+1) 28 #[.string t,.bool l,.slice A s.length cap]):=za ((show af _ (w.heap.size+1) _ _ from by have:=af.new (w.alloc (.cells #[.int .i64 3,.int .i64 z,.slice I d.length r,.int .i64 0] 64)) 28 #[.string t,.bool l,.slice A s.length cap];simpa using this).only (ae.ag y (zf _)) (by simp));have cg:=C.size;simp only[zt]at cg;clear y C X T1;rw[abi z d 0 t l s.length,D.out];obtain⟨g0,g1,g2,_,_,_⟩:=a8 M2.out;cases J with
   |false=>
    have E:Hid (R=false):=za (by rw[HR.out,D.out];rfl);go_wp2;go_ret;exact⟨by rw[E.out];rfl,G.out⟩
   |true=>
    have At:=vt D.out Gg.out (by first|exact .inl rfl|exact .inr (.inl rfl)|exact .inr (.inr rfl));have E:Hid (R=true):=za (by rw[HR.out,D.out,At];rfl);have QS:s.length=0:=by rw[At];rfl
    clear At;rw[QS]at g2;go_wp2_with fail
    refine yi 1 ?_;rw[yv];go_wp2;go_ret;exact⟨by rw[E.out];rfl,G.out⟩
  ·clear bC;have hj:∀i:Nat,i<s.length->NH 4 i<d.length:=fun i _=>by show 0<d.length;omega
   have R7:∀i:Nat,PJ 4 i (NH 4 i):=fun i=> .inl ⟨rfl,rfl⟩
   have HJ:=za (fun(_:nN (Ty.mk 4 z d 0) t l s.length=true)=>hj);have ai:=za R7;clear hj R7 hn;have U:=za (mU (w:=((w.alloc (.cells #[.int .i64 4,.int .i64 z,.slice I d.length r,.int .i64 0] 64)).alloc (.cells #[.string t,.bool l,.slice A s.length cap] 28))) (es:=NG) (c:=5) (((n.below ((zq _ _).alloc (zf _) _)).below ((zq _ _).alloc (zf _) _)).mp) 4 _ _ rfl);have X:=U.out;simp only[lP,jB,kg,pU,j4]at X;have hf:∀w,(Instr.field 176 (.agg #[.func (.func 170) #[] #[],.func (.func 171) #[] #[]]) 0).run prog w= .ok (.func (.func 170) #[] #[]) w:=fun _=>by kernel_rfl
   have T1:w.cell? ⟨L,0,none⟩=some (.map (some g)):=n.of_.cell 0;have B5:=n.lt.1;obtain⟨J,W⟩:∃J,nN (Ty.mk 4 z d 0) t l s.length=J:=⟨_,rfl⟩
   have D:=za W;have HV:=za n;clear W n U;go_enter Yr,Yh
   go_wp2_with fail
   refine(Wj 4 z 0 I d.length r t l A s.length cap _ ht As hs (by omega) (by omega)).mono ?_;rintro e u ⟨rfl,y⟩;have C:=y;simp only[zt]at C;have G:Hid (Below w.heap.size w u):=za (((zq w.heap.size w).alloc (zf _) _|>.alloc (by simp) _).trans (C.mono (by omega)));have M1:Hid (af u w.heap.size 64 #[.int .i64 4,.int .i64 z,.slice I d.length r,.int .i64 0]):=za (((af.new w _ _).alloc _).only (ae.ag y (zf _)) (by simp));have M2:Hid (af u (w.heap.size+1) 28 #[.string t,.bool l,.slice A s.length cap]):=za ((show af _ (w.heap.size+1) _ _ from by have:=af.new (w.alloc (.cells #[.int .i64 4,.int .i64 z,.slice I d.length r,.int .i64 0] 64)) 28 #[.string t,.bool l,.slice A s.length cap];simpa using this).only (ae.ag y (zf _)) (by simp));have cg:=C.size;simp only[zt]at cg;clear y C X T1;rw[abj z d 0 t l s.length,D.out];obtain⟨g0,g1,g2,_,_,_⟩:=a8 M2.out;cases J with
   |false=>
    have E:Hid (R=false):=za (by rw[HR.out,D.out];rfl);go_wp2;go_ret;exact⟨by rw[E.out];rfl,G.out⟩
   |true=>
    have E:Hid (R=cO s (Ty.mk 4 z d 0) 0):=za (by rw[HR.out,D.out];rfl);have ab:=za (HJ.out D.out);have Gy:=za (HV.out.below G.out);clear HJ HR;go_wp2_with fail
    go_loopw [21] (fun i wr=>∃m:Nat,m<=s.length/\i= .int .i64 m/\Hid (cO (s.take m) (Ty.mk 4 z d 0) 0=true)/\Below (w.heap.size+2) u wr) (fun i _=>s.length-(intOf i).toNat)
    case atStart=>exact⟨0,by omega,rfl,za (by simp[cO]),zq _ _⟩
    case round=>
     obtain⟨m,RY,rfl,hm,tO⟩:=hrel;have Y:=za tO;have UL:=tO.size;clear tO g0 g1 g2;obtain⟨g0,g1,g2,_,_,_⟩:=a8 (M2.out.ah Y.out (by omega));by_cases Z:m<s.length
     ·have I':=za (Gy.out.ah Y.out (by have:=HV.out.lt;omega) (by have:=HV.out.lt;omega) (by have:=HV.out.lt;omega));have N:Below B w wr:=(G.out.mono hB).trans (Y.out.mono (by omega));obtain⟨b,o,d0,d1,d2,rfl,j9,e0,e1,e2,hi⟩:=HS.out.at_ m Z;simp only[zT]at e0 e1 e2;replace e0:=(N.cell (p:=⟨b,o+m*3,none⟩) j9).trans e0;replace e1:=(N.cell (p:=⟨b,o+m*3+1,none⟩) j9).trans e1;replace e2:=(N.cell (p:=⟨b,o+m*3+2,none⟩) j9).trans e2;obtain⟨A3,nh,rfl,rfl,rfl,_⟩:=hi.open_;obtain⟨j,hj⟩:∃j,NH 4 m=j:=⟨_,rfl⟩
      have AN:=ab.out m Z;have R7:=ai.out m;rw[hj]at AN R7;have ad:=za R7;obtain⟨K,o',f0,f1,f2,f3,rfl,lK,k0,k1,k2,k3,Db⟩:=Dn.out.at_ j AN;simp only[zT]at k0 k1 k2 k3;have qu:Hid ((Ty.mk 4 z d 0).at m=d[j]):=za (by show(d[NH 4 m]?).getD (.mk 0 0 [] 0)=d[j];rw[hj,zB AN];rfl);have F9:=za (Db.below N);obtain⟨A4,Dr,rfl,rfl,rfl,rfl,_⟩:=Db.open_;obtain⟨q,cB⟩:∃q,wr.alloc (.cells #[.string s[m].text,.bool s[m].list,.slice A3 s[m].sub.length nh] 28)=q:=⟨_,rfl⟩
      have cJ:Hid (Below wr.heap.size wr q):=za (by rw[<-cB];exact(zq _ wr).alloc (zf _) _);have AL:Hid (q.heap.size=wr.heap.size+1):=za (by rw[<-cB];simp);have US:Hid (af q wr.heap.size 28 #[.string s[m].text,.bool s[m].list,.slice A3 s[m].sub.length nh]):=za (by rw[<-cB];exact af.new wr _ _);have ah:=za cB;have AM:Hid (∀V,Below (wr.heap.size+1) q V->Below B w V/\Below (w.heap.size+2) u V/\wr.heap.size+1<=V.heap.size):=za (fun V n=>⟨N.trans ((cJ.out.mono (by have:=N.size;omega)).trans (n.mono (by have:=N.size;omega))),Y.out.trans ((cJ.out.mono (by omega)).trans (n.mono (by omega))),by have:=n.size;have:=AL.out;omega⟩);have S:Hid (∀V,Below (wr.heap.size+1) q V->V.cell? ⟨O,0,none⟩=some (.func (.func 129) #[] #[.pointer (some ⟨L,0,none⟩),.pointer (some ⟨O,0,none⟩)])/\
       V.cell? ⟨w.heap.size,0,none⟩=some (.int .i64 4)/\V.cell? ⟨w.heap.size,1,none⟩=some (.int .i64 z)/\V.cell? ⟨w.heap.size,2,none⟩=some (.slice (some ⟨K,o',none⟩) d.length r)/\V.cell? ⟨w.heap.size,3,none⟩=some (.int .i64 0)/\
       V.cell? ⟨wr.heap.size,0,none⟩=some (.string s[m].text)/\V.cell? ⟨wr.heap.size,1,none⟩=some (.bool s[m].list)/\V.cell? ⟨wr.heap.size,2,none⟩=some (.slice A3 s[m].sub.length nh)/\Below (wr.heap.size+1) q V):=za (fun V n=>by
       have H:=AM.out V n;have M:=I'.out.lt;have m1:=((I'.out.ah cJ.out M.1 M.2.1 M.2.2).ah n (by omega) (by omega) (by omega)).fn.cell 0;have m2:=M1.out.ah H.2.1 (by omega);have m3:=US.out.ah n (by omega);exact⟨m1,m2.cell 0,m2.cell 1,m2.cell 2,m2.cell 3,m3.cell 0,m3.cell 1,m3.cell 2,n⟩)
      have ag:Hid (∀V,Below (wr.heap.size+1) q V->Calls prog 130 #[.agg #[.int .i64 4,.int .i64 z,.slice (some ⟨K,o',none⟩) d.length r,.int .i64 0],.int .i64 m] V fun e w'=>e= .returned (.agg #[.int .i64 d[j].kind,.int .i64 d[j].size,.slice A4 d[j].sub.length Dr,.int .i64 d[j].tail])/\Below (wr.heap.size+1) q w'):=za (fun V n=>by
       have H:=AM.out V n;refine(Fw 4 z 0 K o' d.length r m j _ _ _ A4 _ Dr V ad.out AN As (by omega) ((H.1.cell (p:=⟨K,_,none⟩) lK).trans k0) ((H.1.cell (p:=⟨K,_,none⟩) lK).trans k1) ((H.1.cell (p:=⟨K,_,none⟩) lK).trans k2) ((H.1.cell (p:=⟨K,_,none⟩) lK).trans k3)).mono ?_;rintro e w' ⟨rfl,hx⟩;exact⟨rfl,n.trans (hx.mono (by omega))⟩)
      obtain⟨aa,hr⟩:∃aa,s[m].cX d[j]=aa:=⟨_,rfl⟩
      have T0:Hid (∀V,Below (wr.heap.size+1) q V->Calls prog 129 #[.agg #[.int .i64 d[j].kind,.int .i64 d[j].size,.slice A4 d[j].sub.length Dr,.int .i64 d[j].tail],.agg #[.string s[m].text,.bool s[m].list,.slice A3 s[m].sub.length nh],.pointer (some ⟨L,0,none⟩),.pointer (some ⟨O,0,none⟩)] V fun e w'=>e= .returned (.bool aa)/\Below (wr.heap.size+1) q w'):=za (fun V n=>by
       have H:=AM.out V n;have M:=I'.out.lt;refine(IH.out _ (zM Z) B V _ _ _ (hi.below H.1) (by omega) (js Gg.out m Z) d[j] _ _ _ _ (Db.below H.1) (dI ak.out j AN) L O g ((I'.out.ah cJ.out M.1 M.2.1 M.2.2).ah n (by omega) (by omega) (by omega))).mono ?_;rintro e w' ⟨rfl,hx⟩;exact⟨by rw[hr],n.trans (hx.mono (by omega))⟩)
      have NR:Hid (s[m].cX ((Ty.mk 4 z d 0).at m)=aa):=za (by rw[qu.out,hr]);clear hi Db k0 k1 k2 k3 hj R7 hr cB F9;go_wp2_with fail
      rw[ah.out];obtain⟨x0,x1,x2,x3,x4,x5,x6,x7,x8⟩:=S.out q (zq _ _);go_region_held3 (fun V=>V.cell? ⟨O,0,none⟩=some (.func (.func 129) #[] #[.pointer (some ⟨L,0,none⟩),.pointer (some ⟨O,0,none⟩)])/\
       V.cell? ⟨w.heap.size,0,none⟩=some (.int .i64 4)/\V.cell? ⟨w.heap.size,1,none⟩=some (.int .i64 z)/\V.cell? ⟨w.heap.size,2,none⟩=some (.slice (some ⟨K,o',none⟩) d.length r)/\V.cell? ⟨w.heap.size,3,none⟩=some (.int .i64 0)/\
       V.cell? ⟨wr.heap.size,0,none⟩=some (.string s[m].text)/\V.cell? ⟨wr.heap.size,1,none⟩=some (.bool s[m].list)/\V.cell? ⟨wr.heap.size,2,none⟩=some (.slice A3 s[m].sub.length nh)/\Below (wr.heap.size+1) q V)
       (first|exact S.out _ x8|exact S.out _ hv|exact S.out _ hv.drew|exact S.out _ x8.drew|exact S.out _ (by assumption)|exact S.out _ (Below.drew (by assumption)))
       (first|(go_at_call 130;((with_reducible refine(ag.out _ (by first|assumption|exact Below.drew (by assumption)|exact Below.bB (by assumption) _)).mono ?_);rintro e w' ⟨rfl,hv⟩))|(go_at_call 129;((with_reducible refine(T0.out _ (by first|assumption|exact Below.drew (by assumption)|exact Below.bB (by assumption) _)).mono ?_);rintro e w' ⟨rfl,hv⟩)))
      all_goals
       have dS:Hid (Below (w.heap.size+2) u w'):=za (Y.out.trans ((cJ.out.mono (by omega)).trans (hv.mono (by omega))));cases aa with
       |true=>
        have HN:Hid (cO (s.take (m+1)) (Ty.mk 4 z d 0) 0=true):=za (by rw[oB Z,hm.out,NR.out];rfl);go_wp2;go_roundw
        case rel=>exact⟨m+1,by omega,by go_num,HN,dS.out⟩
        case measure=>simp[intOf];omega
       |false=>
        have HN:Hid (cO s (Ty.mk 4 z d 0) 0=false):=za (sj Z NR.out);go_wp2;go_ret;exact⟨by rw[E.out,HN.out];rfl,G.out.trans (dS.out.mono (by omega))⟩
     have eH:=hm.out;rw[zC (by omega)]at eH;have HM:=za eH;clear eH;go_wp2;go_ret;exact⟨by rw[E.out,HM.out];rfl,G.out.trans (Y.out.mono (by omega))⟩
  clear bC;have HJ:Hid (nN (Ty.mk 5 0 d F) t l s.length=true->∀i:Nat,i<s.length->NH 5 i<d.length):=za (fun h i hi=>by
   show i<d.length
   have h2:=Bool.and_eq_true_iff.1 h;have h3:=yo (Bool.and_eq_true_iff.1 h2.1).2;simp at h3;omega)
  have ai:Hid (∀i:Nat,PJ 5 i (NH 5 i)):=za (fun i=> .inr ⟨by decide,rfl⟩);have U:=za (mU (w:=((w.alloc (.cells #[.int .i64 5,.int .i64 0,.slice I d.length r,.int .i64 F] 64)).alloc (.cells #[.string t,.bool l,.slice A s.length cap] 28))) (es:=NG) (c:=5) (((n.below ((zq _ _).alloc (zf _) _)).below ((zq _ _).alloc (zf _) _)).mp) 5 _ _ rfl);have X:=U.out;simp only[lP,jB,kg,pU,j4]at X;have hf:∀w,(Instr.field 176 (.agg #[.func (.func 173) #[] #[],.func (.func 174) #[] #[]]) 0).run prog w= .ok (.func (.func 173) #[] #[]) w:=fun _=>by kernel_rfl
  have T1:w.cell? ⟨L,0,none⟩=some (.map (some g)):=n.of_.cell 0;have B5:=n.lt.1;obtain⟨J,W⟩:∃J,nN (Ty.mk 5 0 d F) t l s.length=J:=⟨_,rfl⟩
  have D:=za W;have HV:=za n;clear W n U;go_enter Yr,Yh
  go_wp2_with fail
  refine(Wk 5 0 F I d.length r t l A s.length cap _ ht As hs (by omega) (by omega)).mono ?_;rintro e u ⟨rfl,y⟩;have C:=y;simp only[zt]at C;have G:Hid (Below w.heap.size w u):=za (((zq w.heap.size w).alloc (zf _) _|>.alloc (by simp) _).trans (C.mono (by omega)));have M1:Hid (af u w.heap.size 64 #[.int .i64 5,.int .i64 0,.slice I d.length r,.int .i64 F]):=za (((af.new w _ _).alloc _).only (ae.ag y (zf _)) (by simp));have M2:Hid (af u (w.heap.size+1) 28 #[.string t,.bool l,.slice A s.length cap]):=za ((show af _ (w.heap.size+1) _ _ from by have:=af.new (w.alloc (.cells #[.int .i64 5,.int .i64 0,.slice I d.length r,.int .i64 F] 64)) 28 #[.string t,.bool l,.slice A s.length cap];simpa using this).only (ae.ag y (zf _)) (by simp));have cg:=C.size;simp only[zt]at cg;clear y C X T1;rw[abk 0 d F t l s.length,D.out];obtain⟨g0,g1,g2,_,_,_⟩:=a8 M2.out;cases J with
  |false=>
   have E:Hid (R=false):=za (by rw[HR.out,D.out];rfl);go_wp2;go_ret;exact⟨by rw[E.out];rfl,G.out⟩
  |true=>
   have E:Hid (R=cO s (Ty.mk 5 0 d F) 0):=za (by rw[HR.out,D.out];rfl);have ab:=za (HJ.out D.out);have Gy:=za (HV.out.below G.out);clear HJ HR;go_wp2_with fail
   go_loopw [21] (fun i wr=>∃m:Nat,m<=s.length/\i= .int .i64 m/\Hid (cO (s.take m) (Ty.mk 5 0 d F) 0=true)/\Below (w.heap.size+2) u wr) (fun i _=>s.length-(intOf i).toNat)
   case atStart=>exact⟨0,by omega,rfl,za (by simp[cO]),zq _ _⟩
   case round=>
    obtain⟨m,RY,rfl,hm,tO⟩:=hrel;have Y:=za tO;have UL:=tO.size;clear tO g0 g1 g2;obtain⟨g0,g1,g2,_,_,_⟩:=a8 (M2.out.ah Y.out (by omega));by_cases Z:m<s.length
    ·have I':=za (Gy.out.ah Y.out (by have:=HV.out.lt;omega) (by have:=HV.out.lt;omega) (by have:=HV.out.lt;omega));have N:Below B w wr:=(G.out.mono hB).trans (Y.out.mono (by omega));obtain⟨b,o,d0,d1,d2,rfl,j9,e0,e1,e2,hi⟩:=HS.out.at_ m Z;simp only[zT]at e0 e1 e2;replace e0:=(N.cell (p:=⟨b,o+m*3,none⟩) j9).trans e0;replace e1:=(N.cell (p:=⟨b,o+m*3+1,none⟩) j9).trans e1;replace e2:=(N.cell (p:=⟨b,o+m*3+2,none⟩) j9).trans e2;obtain⟨A3,nh,rfl,rfl,rfl,_⟩:=hi.open_;obtain⟨j,hj⟩:∃j,NH 5 m=j:=⟨_,rfl⟩
     have AN:=ab.out m Z;have R7:=ai.out m;rw[hj]at AN R7;have ad:=za R7;obtain⟨K,o',f0,f1,f2,f3,rfl,lK,k0,k1,k2,k3,Db⟩:=Dn.out.at_ j AN;simp only[zT]at k0 k1 k2 k3;have qu:Hid ((Ty.mk 5 0 d F).at m=d[j]):=za (by show(d[NH 5 m]?).getD (.mk 0 0 [] 0)=d[j];rw[hj,zB AN];rfl);have F9:=za (Db.below N);obtain⟨A4,Dr,rfl,rfl,rfl,rfl,_⟩:=Db.open_;obtain⟨q,cB⟩:∃q,wr.alloc (.cells #[.string s[m].text,.bool s[m].list,.slice A3 s[m].sub.length nh] 28)=q:=⟨_,rfl⟩
     have cJ:Hid (Below wr.heap.size wr q):=za (by rw[<-cB];exact(zq _ wr).alloc (zf _) _);have AL:Hid (q.heap.size=wr.heap.size+1):=za (by rw[<-cB];simp);have US:Hid (af q wr.heap.size 28 #[.string s[m].text,.bool s[m].list,.slice A3 s[m].sub.length nh]):=za (by rw[<-cB];exact af.new wr _ _);have ah:=za cB;have AM:Hid (∀V,Below (wr.heap.size+1) q V->Below B w V/\Below (w.heap.size+2) u V/\wr.heap.size+1<=V.heap.size):=za (fun V n=>⟨N.trans ((cJ.out.mono (by have:=N.size;omega)).trans (n.mono (by have:=N.size;omega))),Y.out.trans ((cJ.out.mono (by omega)).trans (n.mono (by omega))),by have:=n.size;have:=AL.out;omega⟩);have S:Hid (∀V,Below (wr.heap.size+1) q V->V.cell? ⟨O,0,none⟩=some (.func (.func 129) #[] #[.pointer (some ⟨L,0,none⟩),.pointer (some ⟨O,0,none⟩)])/\
      V.cell? ⟨w.heap.size,0,none⟩=some (.int .i64 5)/\V.cell? ⟨w.heap.size,1,none⟩=some (.int .i64 0)/\V.cell? ⟨w.heap.size,2,none⟩=some (.slice (some ⟨K,o',none⟩) d.length r)/\V.cell? ⟨w.heap.size,3,none⟩=some (.int .i64 F)/\
      V.cell? ⟨wr.heap.size,0,none⟩=some (.string s[m].text)/\V.cell? ⟨wr.heap.size,1,none⟩=some (.bool s[m].list)/\V.cell? ⟨wr.heap.size,2,none⟩=some (.slice A3 s[m].sub.length nh)/\Below (wr.heap.size+1) q V):=za (fun V n=>by
      have H:=AM.out V n;have M:=I'.out.lt;have m1:=((I'.out.ah cJ.out M.1 M.2.1 M.2.2).ah n (by omega) (by omega) (by omega)).fn.cell 0;have m2:=M1.out.ah H.2.1 (by omega);have m3:=US.out.ah n (by omega);exact⟨m1,m2.cell 0,m2.cell 1,m2.cell 2,m2.cell 3,m3.cell 0,m3.cell 1,m3.cell 2,n⟩)
     have ag:Hid (∀V,Below (wr.heap.size+1) q V->Calls prog 130 #[.agg #[.int .i64 5,.int .i64 0,.slice (some ⟨K,o',none⟩) d.length r,.int .i64 F],.int .i64 m] V fun e w'=>e= .returned (.agg #[.int .i64 d[j].kind,.int .i64 d[j].size,.slice A4 d[j].sub.length Dr,.int .i64 d[j].tail])/\Below (wr.heap.size+1) q w'):=za (fun V n=>by
      have H:=AM.out V n;refine(Fw 5 0 F K o' d.length r m j _ _ _ A4 _ Dr V ad.out AN As (by omega) ((H.1.cell (p:=⟨K,_,none⟩) lK).trans k0) ((H.1.cell (p:=⟨K,_,none⟩) lK).trans k1) ((H.1.cell (p:=⟨K,_,none⟩) lK).trans k2) ((H.1.cell (p:=⟨K,_,none⟩) lK).trans k3)).mono ?_;rintro e w' ⟨rfl,hx⟩;exact⟨rfl,n.trans (hx.mono (by omega))⟩)
     obtain⟨aa,hr⟩:∃aa,s[m].cX d[j]=aa:=⟨_,rfl⟩
     have T0:Hid (∀V,Below (wr.heap.size+1) q V->Calls prog 129 #[.agg #[.int .i64 d[j].kind,.int .i64 d[j].size,.slice A4 d[j].sub.length Dr,.int .i64 d[j].tail],.agg #[.string s[m].text,.bool s[m].list,.slice A3 s[m].sub.length nh],.pointer (some ⟨L,0,none⟩),.pointer (some ⟨O,0,none⟩)] V fun e w'=>e= .returned (.bool aa)/\Below (wr.heap.size+1) q w'):=za (fun V n=>by
      have H:=AM.out V n;have M:=I'.out.lt;refine(IH.out _ (zM Z) B V _ _ _ (hi.below H.1) (by omega) (js Gg.out m Z) d[j] _ _ _ _ (Db.below H.1) (dI ak.out j AN) L O g ((I'.out.ah cJ.out M.1 M.2.1 M.2.2).ah n (by omega) (by omega) (by omega))).mono ?_;rintro e w' ⟨rfl,hx⟩;exact⟨by rw[hr],n.trans (hx.mono (by omega))⟩)
     have NR:Hid (s[m].cX ((Ty.mk 5 0 d F).at m)=aa):=za (by rw[qu.out,hr]);clear hi Db k0 k1 k2 k3 hj R7 hr cB F9;go_wp2_with fail
     rw[ah.out];obtain⟨x0,x1,x2,x3,x4,x5,x6,x7,x8⟩:=S.out q (zq _ _);go_region_held3 (fun V=>V.cell? ⟨O,0,none⟩=some (.func (.func 129) #[] #[.pointer (some ⟨L,0,none⟩),.pointer (some ⟨O,0,none⟩)])/\
      V.cell? ⟨w.heap.size,0,none⟩=some (.int .i64 5)/\V.cell? ⟨w.heap.size,1,none⟩=some (.int .i64 0)/\V.cell? ⟨w.heap.size,2,none⟩=some (.slice (some ⟨K,o',none⟩) d.length r)/\V.cell? ⟨w.heap.size,3,none⟩=some (.int .i64 F)/\
      V.cell? ⟨wr.heap.size,0,none⟩=some (.string s[m].text)/\V.cell? ⟨wr.heap.size,1,none⟩=some (.bool s[m].list)/\V.cell? ⟨wr.heap.size,2,none⟩=some (.slice A3 s[m].sub.length nh)/\Below (wr.heap.size+1) q V)
      (first|exact S.out _ x8|exact S.out _ hv|exact S.out _ hv.drew|exact S.out _ x8.drew|exact S.out _ (by assumption)|exact S.out _ (Below.drew (by assumption)))
      (first|(go_at_call 130;((with_reducible refine(ag.out _ (by first|assumption|exact Below.drew (by assumption)|exact Below.bB (by assumption) _)).mono ?_);rintro e w' ⟨rfl,hv⟩))|(go_at_call 129;((with_reducible refine(T0.out _ (by first|assumption|exact Below.drew (by assumption)|exact Below.bB (by assumption) _)).mono ?_);rintro e w' ⟨rfl,hv⟩)))
     all_goals
      have dS:Hid (Below (w.heap.size+2) u w'):=za (Y.out.trans ((cJ.out.mono (by omega)).trans (hv.mono (by omega))));cases aa with
      |true=>
       have HN:Hid (cO (s.take (m+1)) (Ty.mk 5 0 d F) 0=true):=za (by rw[oB Z,hm.out,NR.out];rfl);go_wp2;go_roundw
       case rel=>exact⟨m+1,by omega,by go_num,HN,dS.out⟩
       case measure=>simp[intOf];omega
      |false=>
       have HN:Hid (cO s (Ty.mk 5 0 d F) 0=false):=za (sj Z NR.out);go_wp2;go_ret;exact⟨by rw[E.out,HN.out];rfl,G.out.trans (dS.out.mono (by omega))⟩
    have eH:=hm.out;rw[zC (by omega)]at eH;have HM:=za eH;clear eH;go_wp2;go_ret;exact⟨by rw[E.out,HM.out];rfl,G.out.trans (Y.out.mono (by omega))⟩
theorem ID (ty:Ty)(x:It)(B:Nat)(w:World)(s o p t3 m l n:Value)(I:cx w B ty s o p t3)(z:bZ w B x m l n)(U:B<=w.heap.size)(hL:Laid w):
 Calls prog 87 #[.agg #[s,o,p,t3],.agg #[m,l,n]] w fun e w'=>e= .returned (.int .i64 (eB ty x))/\Below w.heap.size w w':=by
 have eT:=hL.pos;obtain⟨k,r⟩:∃k,(w.alloc (.cells #[s,o,p,t3] 64)).alloc (.cells #[m,l,n] 28)=k:=⟨_,rfl⟩
 have H:Below w.heap.size w k:=by rw[<-r];exact((zq _ w).alloc (zf _) _).alloc (by simp) _
 have eA:k.heap.size=w.heap.size+2:=by rw[<-r];simp
 have m1:af k w.heap.size 64 #[s,o,p,t3]:=by rw[<-r];exact(af.new w _ _).alloc _
 have m2:af k (w.heap.size+1) 28 #[m,l,n]:=by rw[<-r];have:=af.new (w.alloc (.cells #[s,o,p,t3] 64)) 28 #[m,l,n];simpa using this
 have E:=za (j7 ty B k s o p t3 (I.below (H.mono U)) (by omega) (hL.below H eT));have K:Hid (∀V,Below (w.heap.size+2) k V->Calls prog 127 #[.agg #[m,l,n]] V fun e w'=>e= .returned (.bool x.may)/\Below V.heap.size V w'):=za (fun V X=>Uy x B V m l n ((z.below (H.mono U)).below (X.mono (by omega))) (by have:=X.size;omega));have fT:=za m1;have N:=za m2;have D:=za H;have HT:=za I;have HI:=za z;have L:=za r;obtain⟨a,G⟩:∃a,ty.may=a:=⟨_,rfl⟩
 obtain⟨b,F⟩:∃b,x.may=b:=⟨_,rfl⟩
 obtain⟨c,S⟩:∃c,x.cX ty=c:=⟨_,rfl⟩
 have O:Hid (eB ty x=if a&&b then(if c then 0 else 12)else 1):=za (by rw[eB,G,F,S]);have HA:=za G;have Ca:=za F;have R5:=za S;rw[G]at E;rw[F]at K;obtain⟨A,cap,rfl,rfl,rfl,rfl,_⟩:=I.open_;obtain⟨A',aj,rfl,rfl,rfl,_⟩:=z.open_;generalize eB ty x=R at*;generalize ty.kind=ki at*;generalize ty.size=si at*;generalize ty.tail=ta at*;clear G F S I z r m1 m2;cases a with
 |false=>
  have u:Hid (R=1):=za (by rw[O.out];rfl);go_enter func87,ntmps87
  go_wp2_with fail
  rw[L.out];refine E.out.mono ?_;rintro e C ⟨rfl,j⟩;go_wp2;go_ret;exact⟨by rw[u.out];rfl,D.out.trans (j.mono (by omega))⟩
 |true=>
  cases b with
  |false=>
   have u:Hid (R=1):=za (by rw[O.out];rfl);go_enter func87,ntmps87
   go_wp2_with fail
   rw[L.out];refine E.out.mono ?_;rintro e C ⟨rfl,j⟩;obtain⟨g0,g1,g2,_,_,_⟩:=a8 (N.out.ah j (by omega));have M:=j.size;go_wp2_with fail
   refine(K.out C (j.mono (by omega))).mono ?_;rintro e d ⟨rfl,y⟩;go_wp2;go_ret;exact⟨by rw[u.out];rfl,D.out.trans ((j.trans (y.mono M)).mono (by omega))⟩
  |true=>
   have u:Hid (R=if c then 0 else 12):=za (by rw[O.out];rfl);go_enter func87,ntmps87
   go_wp2_with fail
   rw[L.out];refine E.out.mono ?_;rintro e C ⟨rfl,j⟩;obtain⟨g0,g1,g2,_,_,_⟩:=a8 (N.out.ah j (by omega));have M:=j.size;go_wp2_with fail
   refine(K.out C (j.mono (by omega))).mono ?_;rintro e d ⟨rfl,y⟩;have cG:=y.size;have dS:Hid (Below (w.heap.size+2) k d):=za ((j.trans (y.mono M)).mono (by omega));clear g0 g1 g2 j y;go_wp2_with fail
   refine(Ta d).mono ?_;rintro e w3 ⟨rfl,rfl⟩;obtain⟨i,q⟩:∃i,((d.alloc (.map NG.toArray 5)).alloc (.cells #[.map (some d.heap.size)] 171)).alloc (.cells #[.func (.func 129) #[] #[.pointer (some ⟨d.heap.size+1,0,none⟩),.pointer (some ⟨d.heap.size+1+1,0,none⟩)]] 173)=i:=⟨_,rfl⟩
   have DR:i.heap.size=d.heap.size+3:=by rw[<-q];simp
   have jj:Below d.heap.size d i:=by rw[<-q];exact(((zq _ _).alloc (zf _) _).alloc (by simp) _).alloc (by simp;omega) _
   have ab:Hid (FV i (d.heap.size+1) (d.heap.size+1+1) d.heap.size):=za (by
    rw[<-q];refine⟨?_, ?_, ?_⟩
    ·have:=(af.new (d.alloc (.map NG.toArray 5)) 171 #[.map (some d.heap.size)])
     rw[zt]at this;exact this.alloc _
    ·have:=af.new ((d.alloc (.map NG.toArray 5)).alloc (.cells #[.map (some d.heap.size)] 171)) 173 #[.func (.func 129) #[] #[.pointer (some ⟨d.heap.size+1,0,none⟩),.pointer (some ⟨d.heap.size+1+1,0,none⟩)]];rw[zt,zt]at this;exact this
    have h3:(d.alloc (.map NG.toArray 5)).heap[d.heap.size]?=some (.map NG.toArray 5):=yW d _;rw[ZL _ _ _ (by simp;omega),ZL _ _ _ (by simp)];exact h3)
   have J:Hid (Below (w.heap.size+2) k i):=za (dS.out.trans (jj.mono (by omega)));have W:Below B w i:=(D.out.mono U).trans (J.out.mono (by omega));obtain⟨_,_,Dq⟩:=Ot HA.out;have aa:x.right=true:=by
    have h:=Ca.out;unfold It.may at h;simp only[zF]at h;exact h.1.1
   have Y:=za (Tk x B i _ _ _ (HI.out.below W) (by omega) aa ty _ _ _ _ (HT.out.below W) Dq _ _ _ ab.out);rw[R5.out]at Y;have qI:=za q;have n1:=fT.out.ah J.out (by omega);have n2:=N.out.ah J.out (by omega);have q0:i.cell? ⟨w.heap.size,0,none⟩=some (.int .i64 ki):=n1.cell 0;have q1:i.cell? ⟨w.heap.size,1,none⟩=some (.int .i64 si):=n1.cell 1;have q2:i.cell? ⟨w.heap.size,2,none⟩=some (.slice A ty.sub.length cap):=n1.cell 2;have q3:i.cell? ⟨w.heap.size,3,none⟩=some (.int .i64 ta):=n1.cell 3;have r0:i.cell? ⟨w.heap.size+1,0,none⟩=some (.string x.text):=n2.cell 0;have r1:i.cell? ⟨w.heap.size+1,1,none⟩=some (.bool x.list):=n2.cell 1;have r2:i.cell? ⟨w.heap.size+1,2,none⟩=some (.slice A' x.sub.length aj):=n2.cell 2;have l0:w.heap.size<d.heap.size:=by omega
   have l1:w.heap.size+1<d.heap.size:=by omega
   rw[<-q]at q0 q1 q2 q3 r0 r1 r2;clear q jj W Dq aa n1 n2;go_wp2_with fail
   rw[qI.out];refine Y.out.mono ?_;rintro e w6 ⟨rfl,pg⟩;have Z:Hid (Below w.heap.size w w6):=za (D.out.trans ((J.out.mono (by omega)).trans (pg.mono (by omega))));clear pg;cases c with
   |true=>
    go_wp2;go_ret;exact⟨by rw[u.out];rfl,Z.out⟩
   |false=>
    go_wp2;go_ret;exact⟨by rw[u.out];rfl,Z.out⟩
theorem Mu (x:It)(B:Nat)(w:World)(c b d:Value)(h:bZ w B x c b d)(m:B<=w.heap.size)(l:x.may=true)(n:x.right=true):
 Calls prog 97 #[.agg #[c,b,d]] w fun e w'=>e= .returned (.int .i64 x.count)/\Below w.heap.size w w':=by
 have i:=za (IA x B (w.alloc (.cells #[c,b,d] 28)) c b d (h.below (blm m)) (by simp;omega) _ (.inr ⟨rfl,n⟩));have j:oa x= .tuple #[.int .i64 x.count,.int .i64 x.deep,.bool true]:=by unfold oa;rw[l];rfl
 rw[j]at i;obtain⟨A,cap,rfl,rfl,rfl,_⟩:=h.open_;clear h j;generalize x.deep=D at*;generalize x.count=R at*;go_enter func97,ntmps97
 go_wp2_with fail
 refine i.out.mono ?_;rintro e o ⟨rfl,k⟩;go_wp2;go_ret;exact⟨rfl,(yJ (zq _ _) (zf _) _).trans (k.mono (by simp))⟩
theorem IE {l:List UInt8}(h:∀b r,aK 8 l=some (b,r)->dR 64 b):cI l=none:=by
 unfold cI;split
 ·rename_i x hx
  rw[(h x [] hx).may];rfl
 rfl
theorem Fx {l r:List UInt8}{t:Ty}(h:aK 8 l=some (t,r))(b:r≠ []):cI l=none:=by
 unfold cI;rw[h];cases r with
 |nil=>exact absurd rfl b
 |cons c r=>rfl
theorem vu {l:List UInt8}{t:Ty}(h:aK 8 l=some (t,[])):cI l=if t.may=true then some t else none:=by
 unfold cI;rw[h]
theorem Tl (s:ByteArray)(w:World)(hs:s.size<=100000)(Y:Laid w):
 Calls prog 63 #[.string s] w fun e w'=>E5 w (cI s.data.toList) e w':=by
 have F:=za (Ft 8 1 rfl (w.heap.size+1) s 0 64 ((w.alloc (.cells #[.int .i64 0,.int .i64 0,.slice none 0 0,.int .i64 0] 64)).alloc (.cells #[.string s,.int .i64 0,.int .i64 64] 150)) (af.at_ (by simp)) (ym _) hs (zf _));have I:=(af.new w 64 #[.int .i64 0,.int .i64 0,.slice none 0 0,.int .i64 0]).alloc (.cells #[.string s,.int .i64 0,.int .i64 64] 150);have H:=((zq w.heap.size w).alloc (zf _) (.cells #[.int .i64 0,.int .i64 0,.slice none 0 0,.int .i64 0] 64)).alloc (by simp) (.cells #[.string s,.int .i64 0,.int .i64 64] 150);have fC:((w.alloc (.cells #[.int .i64 0,.int .i64 0,.slice none 0 0,.int .i64 0] 64)).alloc (.cells #[.string s,.int .i64 0,.int .i64 64] 150)).heap.size=w.heap.size+2:=by simp
 generalize U:((w.alloc (.cells #[.int .i64 0,.int .i64 0,.slice none 0 0,.int .i64 0] 64)).alloc (.cells #[.string s,.int .i64 0,.int .i64 64] 150))=W0 at*;have HW:=za U;have ad:=za I;have wI:=za H;have eT:=Y.pos;obtain⟨R,u⟩:∃R,Hid (cI s.data.toList=R):=⟨_,za rfl⟩
 rw[u.out];clear U I H;go_enter func63,ntmps63
 go_wp2_with fail
 rw[HW.out];refine F.out.mono ?_;rintro e r ⟨t,ok,q,L1,k,z,B,A,n,cap,rfl,E,C,ag,c,x⟩;have K:=za (ad.out.only C (by simp));have y:Hid (Below w.heap.size w r):=za (wI.out.trans (C.below (by omega) (by simp)));obtain⟨o,l,i,b,N,W,G,S⟩:=aO K.out;have g1:=E.cells.2.1;have rK:w.heap.size+1<r.heap.size:=E.cells.2.2.2.2.2.2;have X:w.heap.size<r.heap.size:=by omega
 clear F C E;cases ok with
 |false=>
  have d:Hid (R=none):=za (by rw[<-u.out];exact IE (fun t' ab h=>c.2.1 rfl t' ab (by rw[zQ];exact h)));clear c x;go_wp2;refine zo (v:= .tuple #[.agg #[.int .i64 0,.int .i64 0,.slice none 0 0,.int .i64 0],.int .i64 3]) (by simp[results,results63,go_sem,o,l,i,b,zE,X]) rfl ?_;rw[d.out];exact⟨(((((y.out.setCell (by simp) _).setCell (by simp) _).setCell (by simp) _).setCell (by simp) _).alloc (by simp[World.setCell];omega) _),rfl⟩
 |true=>
  obtain⟨p,_,_⟩:=c.1 rfl;have ah:=c.2.2;rw[zQ]at p;by_cases M:q=s.size
  ·subst M;have n1:((s.size:Int) !=(s.size:Int))=false:=by simp
   rw[zU (by rw[aa];exact zf _)]at p;have D:=vu p;have HX:=za (x rfl);have HM:=za (j7 t _ (r.alloc (.cells #[.int .i64 k,.int .i64 z,.slice A n cap,.int .i64 B] 64)) _ _ _ _ ((HX.out.below ((zq _ _).alloc (zf _) _)).wY) (zf _) (Y.below (y.out.alloc (by omega) _) eT));rw[u.out]at D;generalize t.may=m at*;have d:=za D;clear p D c x u;go_wp2_with fail
   refine HM.out.mono ?_;rintro e O ⟨rfl,j⟩;have DR:=j.size;simp only[zt]at DR;clear o l i b N W G S;obtain⟨o,l,i,b,N,W,G,S⟩:=aO ((K.out.alloc _).ah j (by simp;omega));obtain⟨b0,b1,b2,b3,kt,ku,ks,kr⟩:=aO ((af.new r 64 #[.int .i64 k,.int .i64 z,.slice A n cap,.int .i64 B]).ah j (by simp));have Z:Hid (Below w.heap.size w O):=za ((y.out.alloc (by omega) _).trans (j.mono (by simp;omega)));have GB:=za ((HX.out.below ((zq _ _).alloc (zf _) (.cells #[.int .i64 k,.int .i64 z,.slice A n cap,.int .i64 B] 64))).below j);clear j;cases m with
   |true=>
    go_wp2;refine zo (v:= .tuple #[.agg #[.int .i64 k,.int .i64 z,.slice A n cap,.int .i64 B],.int .i64 0]) (by simp[results,results63,go_sem,o,l,i,b]) rfl ?_;rw[d.out,zl (by first|rfl|trivial)];exact⟨(((Z.out.setCell (by simp) _).setCell (by simp) _).setCell (by simp) _).setCell (by simp) _,_,_,_,_,rfl,GB.out.only (L:= [w.heap.size]) (((((ae.refl _ O).setCell (by simp) _).setCell (by simp) _).setCell (by simp) _).setCell (by simp) _) (by simp;omega) (fun k _ J=>by have J:W0.heap.size<=k:=J;show w.heap.size<=k;omega)⟩
   |false=>
    go_wp2;refine zo (v:= .tuple #[.agg #[.int .i64 0,.int .i64 0,.slice none 0 0,.int .i64 0],.int .i64 3]) (by simp[results,results63,go_sem,o,l,i,b]) rfl ?_;rw[d.out,zj (by simp)];exact⟨(((Z.out.setCell (by simp) _).setCell (by simp) _).setCell (by simp) _).setCell (by simp) _,rfl⟩
  have n1:((q:Int) !=(s.size:Int))=true:=yQ.2 (by omega);have d:Hid (R=none):=za (by
   rw[<-u.out];refine Fx p (fun h0=> ?_);have:=xC List.length h0;simp only[zZ,aa,zS]at this;omega)
  clear c x p M;go_wp2;refine zo (v:= .tuple #[.agg #[.int .i64 0,.int .i64 0,.slice none 0 0,.int .i64 0],.int .i64 3]) (by simp[results,results63,go_sem,o,l,i,b,zE,X]) rfl ?_;rw[d.out];exact⟨(((((y.out.setCell (by simp) _).setCell (by simp) _).setCell (by simp) _).setCell (by simp) _).alloc (by simp[World.setCell];omega) _),rfl⟩
