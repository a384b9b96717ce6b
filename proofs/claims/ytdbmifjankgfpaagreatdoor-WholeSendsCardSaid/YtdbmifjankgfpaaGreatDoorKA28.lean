/- Package typed: Fits. -/
import Derived.Test.YtdbmifjankgfpaaGreatDoorKA25
import Derived.Test.YtdbmifjankgfpaaGreatDoorKA22
set_option linter.all false
set_option maxRecDepth 100000
set_option maxHeartbeats 3200000
open Go.Proofs.Tryz
namespace Go.Proofs.YtdbmifjankgfpaaGreatDoor
open Go.RowKit
variable {w w':World}{g:Nat}{l:List UInt8}{t:Ty}
def y7:=@ntmps39
def xi:=@func39
def Z4:=@ntmps169
def Yf:=@func169
def Yl:=@results124
def QU (k:Int)(i j:Nat):Prop:=(k=4/\j=0)\/(k≠4/\j=i)
theorem F8 (k z s:Int)(b o n cap i j:Nat)(l h d:Int)(m:Option Addr)(c p:Nat)(w:World)(r:QU k i j)(D:j<n)(B:n<=9223372036854775807)(C:b<w.heap.size)
 (u:w.cell? ⟨b,o+j*4,none⟩=some (.int .i64 l)) (A:w.cell? ⟨b,o+j*4+1,none⟩=some (.int .i64 h)) (x:w.cell? ⟨b,o+j*4+2,none⟩=some (.slice m c p)) (y:w.cell? ⟨b,o+j*4+3,none⟩=some (.int .i64 d)):
 Calls prog 170 #[.agg #[.int .i64 k,.int .i64 z,.slice (some ⟨b,o,none⟩) n cap,.int .i64 s],.int .i64 i] w fun e w'=>e= .returned (.agg #[.int .i64 l,.int .i64 h,.slice m c p,.int .i64 d])/\Below w.heap.size w w':=by
 rcases r with⟨rfl,rfl⟩|⟨q,rfl⟩
 ·simp only[Nat.zero_mul,yU]at u A x y;go_enter func170,ntmps170
  go_wp2;refine zk (v:= .agg #[.int .i64 l,.int .i64 h,.slice m c p,.int .i64 d]) (by simp[results,results170,go_sem]) rfl ⟨rfl, ?_⟩;first|exact bD|trace_state
 have E:(k==4)=false:=zm.2 q;clear q;go_enter func170,ntmps170
 go_wp2;refine zk (v:= .agg #[.int .i64 l,.int .i64 h,.slice m c p,.int .i64 d]) (by simp[results,results170,go_sem]) rfl ⟨rfl, ?_⟩;first|exact bD|trace_state
def G3 (k:Int)(i:Nat):Nat:=if k=4 then 0 else i
structure FV (w:World)(ob fb g:Nat):Prop where
 of_:af w ob 217 #[.map (some g)]
 fn:af w fb 95 #[.func (.func 169) #[] #[.pointer (some ⟨ob,0,none⟩),.pointer (some ⟨fb,0,none⟩)]]
 mp:w.heap[g]?=some (.map OM.toArray 5)
theorem FV.ag {c d B:Nat}(h:FV w c d g)(b:Below B w w')(e:c<B)(i:d<B)(j:g<B):FV w' c d g:=⟨h.of_.ag b e,h.fn.ag b i,(b.block g j).trans h.mp⟩
theorem FV.lt {b c:Nat}(h:FV w b c g):b<w.heap.size/\c<w.heap.size/\g<w.heap.size:=⟨h.of_.lt,h.fn.lt,yI h.mp⟩
theorem FV.below {b c:Nat}(h:FV w b c g)(d:Below w.heap.size w w'):FV w' b c g:=h.ag d h.lt.1 h.lt.2.1 h.lt.2.2
theorem acp (z:Int)(l:List Ty)(d:Int)(c:ByteArray)(b:Bool)(m:Nat):(!b&&decide ((c.size:Int)<=z)&& !fC c.data.toList)=k8 (Ty.mk 1 z l d) c b m:=rfl
theorem acq (z:Int)(l:List Ty)(d:Int)(c:ByteArray)(b:Bool)(m:Nat):(!b&&decide ((c.size:Int)=z))=k8 (Ty.mk 2 z l d) c b m:=rfl
theorem acr (z:Int)(l:List Ty)(d:Int)(c:ByteArray)(b:Bool)(m:Nat):(!b&&decide ((c.size:Int)<=z))=k8 (Ty.mk 3 z l d) c b m:=rfl
theorem acs (z:Int)(l:List Ty)(d:Int)(c:ByteArray)(b:Bool)(m:Nat):(b&&decide ((m:Int)<=z))=k8 (Ty.mk 4 z l d) c b m:=rfl
theorem Lm (z:Int)(l:List Ty)(c:Int)(d:ByteArray)(b:Bool)(m:Nat):(b&&decide (m<=l.length)&&decide ((l.length:Int)-c<=m))=k8 (Ty.mk 5 z l c) d b m:=rfl
theorem qO {k z:Int}{l:List Ty}{e:Int}{d:ByteArray}{b:Bool}{s:List It}(h:k8 (Ty.mk k z l e) d b s.length=true)(c:(It.mk d b s).right=true)(j:k=1\/k=2\/k=3):s= []:=by
 have i:b=false:=by
  cases b with
  |false=>rfl
  |true=>rcases j with rfl|rfl|rfl<;>simp[k8]at h
 subst i;simp only[It.right,zz]at c;exact zo (by simpa[formed]using c.1)
theorem Ug :∀(x:It) (B:Nat) (w:World) (c0 c1 c2:Value),bT w B x c0 c1 c2->B<=w.heap.size->x.right=true->∀(ty:Ty) (t0 t1 t2 t3:Value),cC w B ty t0 t1 t2 t3->ty.right=true->∀L O g,FV w L O g->
 Calls prog 169 #[.agg #[t0,t1,t2,t3],.agg #[c0,c1,c2],.pointer (some ⟨L,0,none⟩),.pointer (some ⟨O,0,none⟩)] w fun e w'=>e= .returned (.bool (x.cI ty))/\Below w.heap.size w w':=by
 intro x;induction x using It.ind with
 |h t l s ih=>
  intro B w c0 c1 c2 h hB hr ty t0 t1 t2 t3 hT pI L O g n;obtain⟨rfl,rfl,ht,hs,A,cap,rfl,lH,jR,cy⟩:=h;have IH:=za ih;have HS:=za cy;clear ih cy;obtain⟨k,z,d,F⟩:=ty;obtain⟨rfl,rfl,rfl,hk,hz,mJ,tv,J,r,rfl,al,ak,GX⟩:=hT;obtain⟨bC,rj⟩:=iI pI;have Ad:=za hr;have tW:=za GX;have Wf:=za rj;have HR:Hid ((It.mk t l s).cI (Ty.mk k z d F)=(k8 (Ty.mk k z d F) t l s.length&&bN s (Ty.mk k z d F) 0)):=za (by simp only[It.cI]);generalize (It.mk t l s).cI (Ty.mk k z d F)=R at*;unfold mD at hk hz mJ;clear hr GX rj pI;rcases km bC with⟨rfl,h3,hn,rfl⟩|⟨rfl,h3,h4,hn,rfl⟩|⟨rfl,h3,h4,hn,rfl⟩|⟨rfl,h3,h4,hn,rfl⟩|⟨rfl,rfl,h4,h5,h6⟩
  ·skip
   clear bC IH HS hn;have W:=za (nF (w:=((w.alloc (.cells #[.int .i64 1,.int .i64 z,.slice J d.length r,.int .i64 0] 43)).alloc (.cells #[.string t,.bool l,.slice A s.length cap] 28))) (es:=OM) (c:=5) (((n.below ((zl _ _).alloc (zg _) _)).below ((zl _ _).alloc (zg _) _)).mp) 1 _ _ rfl);have U:=W.out;simp only[mm,jN,kI,qI,kx]at U;have hf:∀w,(Instr.field 221 (.agg #[.func (.func 198) #[] #[],.func (.func 196) #[] #[]]) 0).run prog w= .ok (.func (.func 198) #[] #[]) w:=fun _=>by kernel_rfl
   have UY:w.cell? ⟨L,0,none⟩=some (.map (some g)):=n.of_.cell 0;have DN:=n.lt.1;obtain⟨H,X⟩:∃H,k8 (Ty.mk 1 z d 0) t l s.length=H:=⟨_,rfl⟩
   have D:=za X;have HV:=za n;clear X n W;go_enter Yf,Z4
   go_wp2_with fail
   refine(Xx 1 z 0 _ t l _ _ ht (by omega)).mono ?_;rintro e u ⟨rfl,C⟩;have y:=C;simp only[zp]at y;have G:Hid (Below w.heap.size w u):=za (((zl w.heap.size w).alloc (zg _) _|>.alloc (by simp) _).trans (y.mono (by omega)));have M1:Hid (af u w.heap.size 43 #[.int .i64 1,.int .i64 z,.slice J d.length r,.int .i64 0]):=za (((af.new w _ _).alloc _).only (ae.ah C (zg _)) (by simp));have M2:Hid (af u (w.heap.size+1) 28 #[.string t,.bool l,.slice A s.length cap]):=za ((show af _ (w.heap.size+1) _ _ from by have:=af.new (w.alloc (.cells #[.int .i64 1,.int .i64 z,.slice J d.length r,.int .i64 0] 43)) 28 #[.string t,.bool l,.slice A s.length cap];simpa using this).only (ae.ah C (zg _)) (by simp));have cc:=y.size;simp only[zp]at cc;clear C y U UY;rw[acp z d 0 t l s.length,D.out];obtain⟨g0,g1,g2,_,_,_⟩:=aZ M2.out;cases H with
   |false=>
    have E:Hid (R=false):=za (by rw[HR.out,D.out];rfl);go_wp2;go_ret;exact⟨by rw[E.out];rfl,G.out⟩
   |true=>
    have Bb:=qO D.out Ad.out (by first|exact .inl rfl|exact .inr (.inl rfl)|exact .inr (.inr rfl));have E:Hid (R=true):=za (by rw[HR.out,D.out,Bb];rfl);have RZ:s.length=0:=by rw[Bb];rfl
    clear Bb;rw[RZ]at g2;go_wp2_with fail
    refine yb 1 ?_;rw[ym];go_wp2;go_ret;exact⟨by rw[E.out];rfl,G.out⟩
  ·skip
   clear bC IH HS hn;have W:=za (nF (w:=((w.alloc (.cells #[.int .i64 2,.int .i64 z,.slice J d.length r,.int .i64 0] 43)).alloc (.cells #[.string t,.bool l,.slice A s.length cap] 28))) (es:=OM) (c:=5) (((n.below ((zl _ _).alloc (zg _) _)).below ((zl _ _).alloc (zg _) _)).mp) 2 _ _ rfl);have U:=W.out;simp only[mm,jN,kI,qI,kx]at U;have hf:∀w,(Instr.field 221 (.agg #[.func (.func 199) #[] #[],.func (.func 200) #[] #[]]) 0).run prog w= .ok (.func (.func 199) #[] #[]) w:=fun _=>by kernel_rfl
   have UY:w.cell? ⟨L,0,none⟩=some (.map (some g)):=n.of_.cell 0;have DN:=n.lt.1;obtain⟨H,X⟩:∃H,k8 (Ty.mk 2 z d 0) t l s.length=H:=⟨_,rfl⟩
   have D:=za X;have HV:=za n;clear X n W;go_enter Yf,Z4
   go_wp2_with fail
   refine(Xy 2 z 0 J d.length r t l A s.length cap _ ht tv hs (by omega) (by omega)).mono ?_;rintro e u ⟨rfl,C⟩;have y:=C;simp only[zp]at y;have G:Hid (Below w.heap.size w u):=za (((zl w.heap.size w).alloc (zg _) _|>.alloc (by simp) _).trans (y.mono (by omega)));have M1:Hid (af u w.heap.size 43 #[.int .i64 2,.int .i64 z,.slice J d.length r,.int .i64 0]):=za (((af.new w _ _).alloc _).only (ae.ah C (zg _)) (by simp));have M2:Hid (af u (w.heap.size+1) 28 #[.string t,.bool l,.slice A s.length cap]):=za ((show af _ (w.heap.size+1) _ _ from by have:=af.new (w.alloc (.cells #[.int .i64 2,.int .i64 z,.slice J d.length r,.int .i64 0] 43)) 28 #[.string t,.bool l,.slice A s.length cap];simpa using this).only (ae.ah C (zg _)) (by simp));have cc:=y.size;simp only[zp]at cc;clear C y U UY;rw[acq z d 0 t l s.length,D.out];obtain⟨g0,g1,g2,_,_,_⟩:=aZ M2.out;cases H with
   |false=>
    have E:Hid (R=false):=za (by rw[HR.out,D.out];rfl);go_wp2;go_ret;exact⟨by rw[E.out];rfl,G.out⟩
   |true=>
    have Bb:=qO D.out Ad.out (by first|exact .inl rfl|exact .inr (.inl rfl)|exact .inr (.inr rfl));have E:Hid (R=true):=za (by rw[HR.out,D.out,Bb];rfl);have RZ:s.length=0:=by rw[Bb];rfl
    clear Bb;rw[RZ]at g2;go_wp2_with fail
    refine yb 1 ?_;rw[ym];go_wp2;go_ret;exact⟨by rw[E.out];rfl,G.out⟩
  ·skip
   clear bC IH HS hn;have W:=za (nF (w:=((w.alloc (.cells #[.int .i64 3,.int .i64 z,.slice J d.length r,.int .i64 0] 43)).alloc (.cells #[.string t,.bool l,.slice A s.length cap] 28))) (es:=OM) (c:=5) (((n.below ((zl _ _).alloc (zg _) _)).below ((zl _ _).alloc (zg _) _)).mp) 3 _ _ rfl);have U:=W.out;simp only[mm,jN,kI,qI,kx]at U;have hf:∀w,(Instr.field 221 (.agg #[.func (.func 202) #[] #[],.func (.func 196) #[] #[]]) 0).run prog w= .ok (.func (.func 202) #[] #[]) w:=fun _=>by kernel_rfl
   have UY:w.cell? ⟨L,0,none⟩=some (.map (some g)):=n.of_.cell 0;have DN:=n.lt.1;obtain⟨H,X⟩:∃H,k8 (Ty.mk 3 z d 0) t l s.length=H:=⟨_,rfl⟩
   have D:=za X;have HV:=za n;clear X n W;go_enter Yf,Z4
   go_wp2_with fail
   refine(Xz 3 z 0 J d.length r t l A s.length cap _ ht tv hs (by omega) (by omega)).mono ?_;rintro e u ⟨rfl,C⟩;have y:=C;simp only[zp]at y;have G:Hid (Below w.heap.size w u):=za (((zl w.heap.size w).alloc (zg _) _|>.alloc (by simp) _).trans (y.mono (by omega)));have M1:Hid (af u w.heap.size 43 #[.int .i64 3,.int .i64 z,.slice J d.length r,.int .i64 0]):=za (((af.new w _ _).alloc _).only (ae.ah C (zg _)) (by simp));have M2:Hid (af u (w.heap.size+1) 28 #[.string t,.bool l,.slice A s.length cap]):=za ((show af _ (w.heap.size+1) _ _ from by have:=af.new (w.alloc (.cells #[.int .i64 3,.int .i64 z,.slice J d.length r,.int .i64 0] 43)) 28 #[.string t,.bool l,.slice A s.length cap];simpa using this).only (ae.ah C (zg _)) (by simp));have cc:=y.size;simp only[zp]at cc;clear C y U UY;rw[acr z d 0 t l s.length,D.out];obtain⟨g0,g1,g2,_,_,_⟩:=aZ M2.out;cases H with
   |false=>
    have E:Hid (R=false):=za (by rw[HR.out,D.out];rfl);go_wp2;go_ret;exact⟨by rw[E.out];rfl,G.out⟩
   |true=>
    have Bb:=qO D.out Ad.out (by first|exact .inl rfl|exact .inr (.inl rfl)|exact .inr (.inr rfl));have E:Hid (R=true):=za (by rw[HR.out,D.out,Bb];rfl);have RZ:s.length=0:=by rw[Bb];rfl
    clear Bb;rw[RZ]at g2;go_wp2_with fail
    refine yb 1 ?_;rw[ym];go_wp2;go_ret;exact⟨by rw[E.out];rfl,G.out⟩
  ·clear bC;have hj:∀i:Nat,i<s.length->G3 4 i<d.length:=fun i _=>by show 0<d.length;omega
   have S9:∀i:Nat,QU 4 i (G3 4 i):=fun i=> .inl ⟨rfl,rfl⟩
   have HJ:=za (fun(_:k8 (Ty.mk 4 z d 0) t l s.length=true)=>hj);have ai:=za S9;clear hj S9 hn;have W:=za (nF (w:=((w.alloc (.cells #[.int .i64 4,.int .i64 z,.slice J d.length r,.int .i64 0] 43)).alloc (.cells #[.string t,.bool l,.slice A s.length cap] 28))) (es:=OM) (c:=5) (((n.below ((zl _ _).alloc (zg _) _)).below ((zl _ _).alloc (zg _) _)).mp) 4 _ _ rfl);have U:=W.out;simp only[mm,jN,kI,qI,kx]at U;have hf:∀w,(Instr.field 221 (.agg #[.func (.func 203) #[] #[],.func (.func 204) #[] #[]]) 0).run prog w= .ok (.func (.func 203) #[] #[]) w:=fun _=>by kernel_rfl
   have UY:w.cell? ⟨L,0,none⟩=some (.map (some g)):=n.of_.cell 0;have DN:=n.lt.1;obtain⟨H,X⟩:∃H,k8 (Ty.mk 4 z d 0) t l s.length=H:=⟨_,rfl⟩
   have D:=za X;have HV:=za n;clear X n W;go_enter Yf,Z4
   go_wp2_with fail
   refine(XA 4 z 0 J d.length r t l A s.length cap _ ht tv hs (by omega) (by omega)).mono ?_;rintro e u ⟨rfl,C⟩;have y:=C;simp only[zp]at y;have G:Hid (Below w.heap.size w u):=za (((zl w.heap.size w).alloc (zg _) _|>.alloc (by simp) _).trans (y.mono (by omega)));have M1:Hid (af u w.heap.size 43 #[.int .i64 4,.int .i64 z,.slice J d.length r,.int .i64 0]):=za (((af.new w _ _).alloc _).only (ae.ah C (zg _)) (by simp));have M2:Hid (af u (w.heap.size+1) 28 #[.string t,.bool l,.slice A s.length cap]):=za ((show af _ (w.heap.size+1) _ _ from by have:=af.new (w.alloc (.cells #[.int .i64 4,.int .i64 z,.slice J d.length r,.int .i64 0] 43)) 28 #[.string t,.bool l,.slice A s.length cap];simpa using this).only (ae.ah C (zg _)) (by simp));have cc:=y.size;simp only[zp]at cc;clear C y U UY;rw[acs z d 0 t l s.length,D.out];obtain⟨g0,g1,g2,_,_,_⟩:=aZ M2.out;cases H with
   |false=>
    have E:Hid (R=false):=za (by rw[HR.out,D.out];rfl);go_wp2;go_ret;exact⟨by rw[E.out];rfl,G.out⟩
   |true=>
    have E:Hid (R=bN s (Ty.mk 4 z d 0) 0):=za (by rw[HR.out,D.out];rfl);have ad:=za (HJ.out D.out);have Ha:=za (HV.out.below G.out);clear HJ HR;go_wp2_with fail
    go_loopw [21] (fun i wr=>∃m:Nat,m<=s.length/\i= .int .i64 m/\Hid (bN (s.take m) (Ty.mk 4 z d 0) 0=true)/\Below (w.heap.size+2) u wr) (fun i _=>s.length-(intOf i).toNat)
    case atStart=>exact⟨0,by omega,rfl,za (by simp[bN]),zl _ _⟩
    case round=>
     obtain⟨m,OV,rfl,hm,pT⟩:=hrel;have Z:=za pT;have UH:=pT.size;clear pT g0 g1 g2;obtain⟨g0,g1,g2,_,_,_⟩:=aZ (M2.out.ag Z.out (by omega));by_cases Y:m<s.length
     ·have J0:=za (Ha.out.ag Z.out (by have:=HV.out.lt;omega) (by have:=HV.out.lt;omega) (by have:=HV.out.lt;omega));have N:Below B w wr:=(G.out.mono hB).trans (Z.out.mono (by omega));obtain⟨b,o,d0,d1,d2,rfl,gZ,e0,e1,e2,hi⟩:=HS.out.at_ m Y;simp only[zG]at e0 e1 e2;replace e0:=(N.cell (p:=⟨b,o+m*3,none⟩) gZ).trans e0;replace e1:=(N.cell (p:=⟨b,o+m*3+1,none⟩) gZ).trans e1;replace e2:=(N.cell (p:=⟨b,o+m*3+2,none⟩) gZ).trans e2;obtain⟨A3,nN,rfl,rfl,rfl,_⟩:=hi.open_;obtain⟨j,hj⟩:∃j,G3 4 m=j:=⟨_,rfl⟩
      have oC:=ad.out m Y;have S9:=ai.out m;rw[hj]at oC S9;have ag:=za S9;obtain⟨K,o',f0,f1,f2,f3,rfl,gU,k0,k1,k2,k3,tL⟩:=tW.out.at_ j oC;simp only[zG]at k0 k1 k2 k3;have oy:Hid ((Ty.mk 4 z d 0).at m=d[j]):=za (by show(d[G3 4 m]?).getD (.mk 0 0 [] 0)=d[j];rw[hj,zx oC];rfl);have GR:=za (tL.below N);obtain⟨A4,DT,rfl,rfl,rfl,rfl,_⟩:=tL.open_;obtain⟨q,ca⟩:∃q,wr.alloc (.cells #[.string s[m].text,.bool s[m].list,.slice A3 s[m].sub.length nN] 28)=q:=⟨_,rfl⟩
      have cG:Hid (Below wr.heap.size wr q):=za (by rw[<-ca];exact(zl _ wr).alloc (zg _) _);have Bk:Hid (q.heap.size=wr.heap.size+1):=za (by rw[<-ca];simp);have VT:Hid (af q wr.heap.size 28 #[.string s[m].text,.bool s[m].list,.slice A3 s[m].sub.length nN]):=za (by rw[<-ca];exact af.new wr _ _);have ah:=za ca;have Bl:Hid (∀V,Below (wr.heap.size+1) q V->Below B w V/\Below (w.heap.size+2) u V/\wr.heap.size+1<=V.heap.size):=za (fun V n=>⟨N.trans ((cG.out.mono (by have:=N.size;omega)).trans (n.mono (by have:=N.size;omega))),Z.out.trans ((cG.out.mono (by omega)).trans (n.mono (by omega))),by have:=n.size;have:=Bk.out;omega⟩);have M:Hid (∀V,Below (wr.heap.size+1) q V->V.cell? ⟨O,0,none⟩=some (.func (.func 169) #[] #[.pointer (some ⟨L,0,none⟩),.pointer (some ⟨O,0,none⟩)])/\
       V.cell? ⟨w.heap.size,0,none⟩=some (.int .i64 4)/\V.cell? ⟨w.heap.size,1,none⟩=some (.int .i64 z)/\V.cell? ⟨w.heap.size,2,none⟩=some (.slice (some ⟨K,o',none⟩) d.length r)/\V.cell? ⟨w.heap.size,3,none⟩=some (.int .i64 0)/\
       V.cell? ⟨wr.heap.size,0,none⟩=some (.string s[m].text)/\V.cell? ⟨wr.heap.size,1,none⟩=some (.bool s[m].list)/\V.cell? ⟨wr.heap.size,2,none⟩=some (.slice A3 s[m].sub.length nN)/\Below (wr.heap.size+1) q V):=za (fun V n=>by
       have I:=Bl.out V n;have S:=J0.out.lt;have m1:=((J0.out.ag cG.out S.1 S.2.1 S.2.2).ag n (by omega) (by omega) (by omega)).fn.cell 0;have m2:=M1.out.ag I.2.1 (by omega);have m3:=VT.out.ag n (by omega);exact⟨m1,m2.cell 0,m2.cell 1,m2.cell 2,m2.cell 3,m3.cell 0,m3.cell 1,m3.cell 2,n⟩)
      have ab:Hid (∀V,Below (wr.heap.size+1) q V->Calls prog 170 #[.agg #[.int .i64 4,.int .i64 z,.slice (some ⟨K,o',none⟩) d.length r,.int .i64 0],.int .i64 m] V fun e w'=>e= .returned (.agg #[.int .i64 d[j].kind,.int .i64 d[j].size,.slice A4 d[j].sub.length DT,.int .i64 d[j].tail])/\Below (wr.heap.size+1) q w'):=za (fun V n=>by
       have I:=Bl.out V n;refine(F8 4 z 0 K o' d.length r m j _ _ _ A4 _ DT V ag.out oC tv (by omega) ((I.1.cell (p:=⟨K,_,none⟩) gU).trans k0) ((I.1.cell (p:=⟨K,_,none⟩) gU).trans k1) ((I.1.cell (p:=⟨K,_,none⟩) gU).trans k2) ((I.1.cell (p:=⟨K,_,none⟩) gU).trans k3)).mono ?_;rintro e w' ⟨rfl,hx⟩;exact⟨rfl,n.trans (hx.mono (by omega))⟩)
      obtain⟨aa,hr⟩:∃aa,s[m].cI d[j]=aa:=⟨_,rfl⟩
      have UX:Hid (∀V,Below (wr.heap.size+1) q V->Calls prog 169 #[.agg #[.int .i64 d[j].kind,.int .i64 d[j].size,.slice A4 d[j].sub.length DT,.int .i64 d[j].tail],.agg #[.string s[m].text,.bool s[m].list,.slice A3 s[m].sub.length nN],.pointer (some ⟨L,0,none⟩),.pointer (some ⟨O,0,none⟩)] V fun e w'=>e= .returned (.bool aa)/\Below (wr.heap.size+1) q w'):=za (fun V n=>by
       have I:=Bl.out V n;have S:=J0.out.lt;refine(IH.out _ (zE Y) B V _ _ _ (hi.below I.1) (by omega) (fZ Ad.out m Y) d[j] _ _ _ _ (tL.below I.1) (dk Wf.out j oC) L O g ((J0.out.ag cG.out S.1 S.2.1 S.2.2).ag n (by omega) (by omega) (by omega))).mono ?_;rintro e w' ⟨rfl,hx⟩;exact⟨by rw[hr],n.trans (hx.mono (by omega))⟩)
      have sn:Hid (s[m].cI ((Ty.mk 4 z d 0).at m)=aa):=za (by rw[oy.out,hr]);clear hi tL k0 k1 k2 k3 hj S9 hr ca GR;go_wp2_with fail
      rw[ah.out];obtain⟨x0,x1,x2,x3,x4,x5,x6,x7,x8⟩:=M.out q (zl _ _);go_region_held3 (fun V=>V.cell? ⟨O,0,none⟩=some (.func (.func 169) #[] #[.pointer (some ⟨L,0,none⟩),.pointer (some ⟨O,0,none⟩)])/\
       V.cell? ⟨w.heap.size,0,none⟩=some (.int .i64 4)/\V.cell? ⟨w.heap.size,1,none⟩=some (.int .i64 z)/\V.cell? ⟨w.heap.size,2,none⟩=some (.slice (some ⟨K,o',none⟩) d.length r)/\V.cell? ⟨w.heap.size,3,none⟩=some (.int .i64 0)/\
       V.cell? ⟨wr.heap.size,0,none⟩=some (.string s[m].text)/\V.cell? ⟨wr.heap.size,1,none⟩=some (.bool s[m].list)/\V.cell? ⟨wr.heap.size,2,none⟩=some (.slice A3 s[m].sub.length nN)/\Below (wr.heap.size+1) q V)
       (first|exact M.out _ x8|exact M.out _ hv|exact M.out _ hv.drew|exact M.out _ x8.drew|exact M.out _ (by assumption)|exact M.out _ (Below.drew (by assumption)))
       (first|(go_at_call 170;((with_reducible refine(ab.out _ (by first|assumption|exact Below.drew (by assumption)|exact Below.bJ (by assumption) _)).mono ?_);rintro e w' ⟨rfl,hv⟩))|(go_at_call 169;((with_reducible refine(UX.out _ (by first|assumption|exact Below.drew (by assumption)|exact Below.bJ (by assumption) _)).mono ?_);rintro e w' ⟨rfl,hv⟩)))
      all_goals
       have dm:Hid (Below (w.heap.size+2) u w'):=za (Z.out.trans ((cG.out.mono (by omega)).trans (hv.mono (by omega))));cases aa with
       |true=>
        have HN:Hid (bN (s.take (m+1)) (Ty.mk 4 z d 0) 0=true):=za (by rw[jF Y,hm.out,sn.out];rfl);go_wp2;go_roundw
        case rel=>exact⟨m+1,by omega,by go_num,HN,dm.out⟩
        case measure=>simp[intOf];omega
       |false=>
        have HN:Hid (bN s (Ty.mk 4 z d 0) 0=false):=za (kh Y sn.out);go_wp2;go_ret;exact⟨by rw[E.out,HN.out];rfl,G.out.trans (dm.out.mono (by omega))⟩
     have cX:=hm.out;rw[zv (by omega)]at cX;have HM:=za cX;clear cX;go_wp2;go_ret;exact⟨by rw[E.out,HM.out];rfl,G.out.trans (Z.out.mono (by omega))⟩
  clear bC;have HJ:Hid (k8 (Ty.mk 5 0 d F) t l s.length=true->∀i:Nat,i<s.length->G3 5 i<d.length):=za (fun h i hi=>by
   show i<d.length
   have h2:=Bool.and_eq_true_iff.1 h;have h3:=yf (Bool.and_eq_true_iff.1 h2.1).2;simp at h3;omega)
  have ai:Hid (∀i:Nat,QU 5 i (G3 5 i)):=za (fun i=> .inr ⟨by decide,rfl⟩);have W:=za (nF (w:=((w.alloc (.cells #[.int .i64 5,.int .i64 0,.slice J d.length r,.int .i64 F] 43)).alloc (.cells #[.string t,.bool l,.slice A s.length cap] 28))) (es:=OM) (c:=5) (((n.below ((zl _ _).alloc (zg _) _)).below ((zl _ _).alloc (zg _) _)).mp) 5 _ _ rfl);have U:=W.out;simp only[mm,jN,kI,qI,kx]at U;have hf:∀w,(Instr.field 221 (.agg #[.func (.func 206) #[] #[],.func (.func 207) #[] #[]]) 0).run prog w= .ok (.func (.func 206) #[] #[]) w:=fun _=>by kernel_rfl
  have UY:w.cell? ⟨L,0,none⟩=some (.map (some g)):=n.of_.cell 0;have DN:=n.lt.1;obtain⟨H,X⟩:∃H,k8 (Ty.mk 5 0 d F) t l s.length=H:=⟨_,rfl⟩
  have D:=za X;have HV:=za n;clear X n W;go_enter Yf,Z4
  go_wp2_with fail
  refine(XB 5 0 F J d.length r t l A s.length cap _ ht tv hs (by omega) (by omega)).mono ?_;rintro e u ⟨rfl,C⟩;have y:=C;simp only[zp]at y;have G:Hid (Below w.heap.size w u):=za (((zl w.heap.size w).alloc (zg _) _|>.alloc (by simp) _).trans (y.mono (by omega)));have M1:Hid (af u w.heap.size 43 #[.int .i64 5,.int .i64 0,.slice J d.length r,.int .i64 F]):=za (((af.new w _ _).alloc _).only (ae.ah C (zg _)) (by simp));have M2:Hid (af u (w.heap.size+1) 28 #[.string t,.bool l,.slice A s.length cap]):=za ((show af _ (w.heap.size+1) _ _ from by have:=af.new (w.alloc (.cells #[.int .i64 5,.int .i64 0,.slice J d.length r,.int .i64 F] 43)) 28 #[.string t,.bool l,.slice A s.length cap];simpa using this).only (ae.ah C (zg _)) (by simp));have cc:=y.size;simp only[zp]at cc;clear C y U UY;rw[Lm 0 d F t l s.length,D.out];obtain⟨g0,g1,g2,_,_,_⟩:=aZ M2.out;cases H with
  |false=>
   have E:Hid (R=false):=za (by rw[HR.out,D.out];rfl);go_wp2;go_ret;exact⟨by rw[E.out];rfl,G.out⟩
  |true=>
   have E:Hid (R=bN s (Ty.mk 5 0 d F) 0):=za (by rw[HR.out,D.out];rfl);have ad:=za (HJ.out D.out);have Ha:=za (HV.out.below G.out);clear HJ HR;go_wp2_with fail
   go_loopw [21] (fun i wr=>∃m:Nat,m<=s.length/\i= .int .i64 m/\Hid (bN (s.take m) (Ty.mk 5 0 d F) 0=true)/\Below (w.heap.size+2) u wr) (fun i _=>s.length-(intOf i).toNat)
   case atStart=>exact⟨0,by omega,rfl,za (by simp[bN]),zl _ _⟩
   case round=>
    obtain⟨m,OV,rfl,hm,pT⟩:=hrel;have Z:=za pT;have UH:=pT.size;clear pT g0 g1 g2;obtain⟨g0,g1,g2,_,_,_⟩:=aZ (M2.out.ag Z.out (by omega));by_cases Y:m<s.length
    ·have J0:=za (Ha.out.ag Z.out (by have:=HV.out.lt;omega) (by have:=HV.out.lt;omega) (by have:=HV.out.lt;omega));have N:Below B w wr:=(G.out.mono hB).trans (Z.out.mono (by omega));obtain⟨b,o,d0,d1,d2,rfl,gZ,e0,e1,e2,hi⟩:=HS.out.at_ m Y;simp only[zG]at e0 e1 e2;replace e0:=(N.cell (p:=⟨b,o+m*3,none⟩) gZ).trans e0;replace e1:=(N.cell (p:=⟨b,o+m*3+1,none⟩) gZ).trans e1;replace e2:=(N.cell (p:=⟨b,o+m*3+2,none⟩) gZ).trans e2;obtain⟨A3,nN,rfl,rfl,rfl,_⟩:=hi.open_;obtain⟨j,hj⟩:∃j,G3 5 m=j:=⟨_,rfl⟩
     have oC:=ad.out m Y;have S9:=ai.out m;rw[hj]at oC S9;have ag:=za S9;obtain⟨K,o',f0,f1,f2,f3,rfl,gU,k0,k1,k2,k3,tL⟩:=tW.out.at_ j oC;simp only[zG]at k0 k1 k2 k3;have oy:Hid ((Ty.mk 5 0 d F).at m=d[j]):=za (by show(d[G3 5 m]?).getD (.mk 0 0 [] 0)=d[j];rw[hj,zx oC];rfl);have GR:=za (tL.below N);obtain⟨A4,DT,rfl,rfl,rfl,rfl,_⟩:=tL.open_;obtain⟨q,ca⟩:∃q,wr.alloc (.cells #[.string s[m].text,.bool s[m].list,.slice A3 s[m].sub.length nN] 28)=q:=⟨_,rfl⟩
     have cG:Hid (Below wr.heap.size wr q):=za (by rw[<-ca];exact(zl _ wr).alloc (zg _) _);have Bk:Hid (q.heap.size=wr.heap.size+1):=za (by rw[<-ca];simp);have VT:Hid (af q wr.heap.size 28 #[.string s[m].text,.bool s[m].list,.slice A3 s[m].sub.length nN]):=za (by rw[<-ca];exact af.new wr _ _);have ah:=za ca;have Bl:Hid (∀V,Below (wr.heap.size+1) q V->Below B w V/\Below (w.heap.size+2) u V/\wr.heap.size+1<=V.heap.size):=za (fun V n=>⟨N.trans ((cG.out.mono (by have:=N.size;omega)).trans (n.mono (by have:=N.size;omega))),Z.out.trans ((cG.out.mono (by omega)).trans (n.mono (by omega))),by have:=n.size;have:=Bk.out;omega⟩);have M:Hid (∀V,Below (wr.heap.size+1) q V->V.cell? ⟨O,0,none⟩=some (.func (.func 169) #[] #[.pointer (some ⟨L,0,none⟩),.pointer (some ⟨O,0,none⟩)])/\
      V.cell? ⟨w.heap.size,0,none⟩=some (.int .i64 5)/\V.cell? ⟨w.heap.size,1,none⟩=some (.int .i64 0)/\V.cell? ⟨w.heap.size,2,none⟩=some (.slice (some ⟨K,o',none⟩) d.length r)/\V.cell? ⟨w.heap.size,3,none⟩=some (.int .i64 F)/\
      V.cell? ⟨wr.heap.size,0,none⟩=some (.string s[m].text)/\V.cell? ⟨wr.heap.size,1,none⟩=some (.bool s[m].list)/\V.cell? ⟨wr.heap.size,2,none⟩=some (.slice A3 s[m].sub.length nN)/\Below (wr.heap.size+1) q V):=za (fun V n=>by
      have I:=Bl.out V n;have S:=J0.out.lt;have m1:=((J0.out.ag cG.out S.1 S.2.1 S.2.2).ag n (by omega) (by omega) (by omega)).fn.cell 0;have m2:=M1.out.ag I.2.1 (by omega);have m3:=VT.out.ag n (by omega);exact⟨m1,m2.cell 0,m2.cell 1,m2.cell 2,m2.cell 3,m3.cell 0,m3.cell 1,m3.cell 2,n⟩)
     have ab:Hid (∀V,Below (wr.heap.size+1) q V->Calls prog 170 #[.agg #[.int .i64 5,.int .i64 0,.slice (some ⟨K,o',none⟩) d.length r,.int .i64 F],.int .i64 m] V fun e w'=>e= .returned (.agg #[.int .i64 d[j].kind,.int .i64 d[j].size,.slice A4 d[j].sub.length DT,.int .i64 d[j].tail])/\Below (wr.heap.size+1) q w'):=za (fun V n=>by
      have I:=Bl.out V n;refine(F8 5 0 F K o' d.length r m j _ _ _ A4 _ DT V ag.out oC tv (by omega) ((I.1.cell (p:=⟨K,_,none⟩) gU).trans k0) ((I.1.cell (p:=⟨K,_,none⟩) gU).trans k1) ((I.1.cell (p:=⟨K,_,none⟩) gU).trans k2) ((I.1.cell (p:=⟨K,_,none⟩) gU).trans k3)).mono ?_;rintro e w' ⟨rfl,hx⟩;exact⟨rfl,n.trans (hx.mono (by omega))⟩)
     obtain⟨aa,hr⟩:∃aa,s[m].cI d[j]=aa:=⟨_,rfl⟩
     have UX:Hid (∀V,Below (wr.heap.size+1) q V->Calls prog 169 #[.agg #[.int .i64 d[j].kind,.int .i64 d[j].size,.slice A4 d[j].sub.length DT,.int .i64 d[j].tail],.agg #[.string s[m].text,.bool s[m].list,.slice A3 s[m].sub.length nN],.pointer (some ⟨L,0,none⟩),.pointer (some ⟨O,0,none⟩)] V fun e w'=>e= .returned (.bool aa)/\Below (wr.heap.size+1) q w'):=za (fun V n=>by
      have I:=Bl.out V n;have S:=J0.out.lt;refine(IH.out _ (zE Y) B V _ _ _ (hi.below I.1) (by omega) (fZ Ad.out m Y) d[j] _ _ _ _ (tL.below I.1) (dk Wf.out j oC) L O g ((J0.out.ag cG.out S.1 S.2.1 S.2.2).ag n (by omega) (by omega) (by omega))).mono ?_;rintro e w' ⟨rfl,hx⟩;exact⟨by rw[hr],n.trans (hx.mono (by omega))⟩)
     have sn:Hid (s[m].cI ((Ty.mk 5 0 d F).at m)=aa):=za (by rw[oy.out,hr]);clear hi tL k0 k1 k2 k3 hj S9 hr ca GR;go_wp2_with fail
     rw[ah.out];obtain⟨x0,x1,x2,x3,x4,x5,x6,x7,x8⟩:=M.out q (zl _ _);go_region_held3 (fun V=>V.cell? ⟨O,0,none⟩=some (.func (.func 169) #[] #[.pointer (some ⟨L,0,none⟩),.pointer (some ⟨O,0,none⟩)])/\
      V.cell? ⟨w.heap.size,0,none⟩=some (.int .i64 5)/\V.cell? ⟨w.heap.size,1,none⟩=some (.int .i64 0)/\V.cell? ⟨w.heap.size,2,none⟩=some (.slice (some ⟨K,o',none⟩) d.length r)/\V.cell? ⟨w.heap.size,3,none⟩=some (.int .i64 F)/\
      V.cell? ⟨wr.heap.size,0,none⟩=some (.string s[m].text)/\V.cell? ⟨wr.heap.size,1,none⟩=some (.bool s[m].list)/\V.cell? ⟨wr.heap.size,2,none⟩=some (.slice A3 s[m].sub.length nN)/\Below (wr.heap.size+1) q V)
      (first|exact M.out _ x8|exact M.out _ hv|exact M.out _ hv.drew|exact M.out _ x8.drew|exact M.out _ (by assumption)|exact M.out _ (Below.drew (by assumption)))
      (first|(go_at_call 170;((with_reducible refine(ab.out _ (by first|assumption|exact Below.drew (by assumption)|exact Below.bJ (by assumption) _)).mono ?_);rintro e w' ⟨rfl,hv⟩))|(go_at_call 169;((with_reducible refine(UX.out _ (by first|assumption|exact Below.drew (by assumption)|exact Below.bJ (by assumption) _)).mono ?_);rintro e w' ⟨rfl,hv⟩)))
     all_goals
      have dm:Hid (Below (w.heap.size+2) u w'):=za (Z.out.trans ((cG.out.mono (by omega)).trans (hv.mono (by omega))));cases aa with
      |true=>
       have HN:Hid (bN (s.take (m+1)) (Ty.mk 5 0 d F) 0=true):=za (by rw[jF Y,hm.out,sn.out];rfl);go_wp2;go_roundw
       case rel=>exact⟨m+1,by omega,by go_num,HN,dm.out⟩
       case measure=>simp[intOf];omega
      |false=>
       have HN:Hid (bN s (Ty.mk 5 0 d F) 0=false):=za (kh Y sn.out);go_wp2;go_ret;exact⟨by rw[E.out,HN.out];rfl,G.out.trans (dm.out.mono (by omega))⟩
    have cX:=hm.out;rw[zv (by omega)]at cX;have HM:=za cX;clear cX;go_wp2;go_ret;exact⟨by rw[E.out,HM.out];rfl,G.out.trans (Z.out.mono (by omega))⟩
theorem agB :∀(x:It) (B:Nat) (w:World) (c0 c1 c2:Value),bT w B x c0 c1 c2->B<=w.heap.size->x.right=true->∀(ty:Ty) (t0 t1 t2 t3:Value),cC w B ty t0 t1 t2 t3->ty.right=true->
 Calls prog 39 #[.agg #[t0,t1,t2,t3],.agg #[c0,c1,c2]] w fun e w'=>e= .returned (.bool (x.cI ty))/\Below w.heap.size w w':=by
 intro x;induction x using It.ind with
 |h t l s ih=>
  intro B w c0 c1 c2 h hB D ty t0 t1 t2 t3 hT pI;obtain⟨rfl,rfl,ht,hs,A,cap,rfl,lH,jR,cy⟩:=h;have IH:=za ih;have HS:=za cy;clear ih cy;obtain⟨k,z,d,n⟩:=ty;obtain⟨rfl,rfl,rfl,hk,hz,mJ,tv,A',L,rfl,ah,ag,GX⟩:=hT;obtain⟨bC,rj⟩:=iI pI;have Ad:=za D;have tW:=za GX;have Wf:=za rj;have q:Hid ((It.mk t l s).cI (Ty.mk k z d n)=(k8 (Ty.mk k z d n) t l s.length&&bN s (Ty.mk k z d n) 0)):=za (by simp only[It.cI]);generalize (It.mk t l s).cI (Ty.mk k z d n)=R at*;unfold mD at hk hz mJ;clear D GX rj pI;have K:∀k:Int,(k=1\/k=2\/k=3)->(k8 (Ty.mk k z d n) t l s.length&&bN s (Ty.mk k z d n) 0)=k8 (Ty.mk k z d n) t l s.length:=fun k hk=>by
   cases hb:k8 (Ty.mk k z d n) t l s.length with
   |false=>rfl
   |true=>rw[qO hb Ad.out hk];rfl
  rcases km bC with⟨rfl,h3,J,rfl⟩|⟨rfl,h3,h4,J,rfl⟩|⟨rfl,h3,h4,J,rfl⟩|⟨rfl,h3,h4,J,rfl⟩|⟨rfl,rfl,h4,h5,h6⟩
  ·rw[K 1 (.inl rfl)]at q;have j:Hid (R=(!l&&decide ((t.size:Int)<=z)&& !fC t.data.toList)):=q;clear bC IH HS q K tW J;rcases eu t with⟨dO,rfl⟩|⟨dO,cc,cE⟩
   ·have M:Hid (R= !l):=za (by rw[j.out];cases l<;>simp[fC,ByteArray.size];omega);clear j dO;cases l
    all_goals
     go_enter xi,y7
     go_wp2;all_goals
      go_ret;exact⟨by rw[M.out];rfl,bD⟩
   have hp:0<t.size:=by omega
   have M:Hid (R=(!l&&decide ((t.size:Int)<=z)&& !decide (t[0].toNat=0))):=za (by rw[j.out,FT t hp]);clear j dO;by_cases ab:(t.size:Int)<=z
   ·by_cases h0:t[0].toNat=0
    ·have G:((t[0].toNat:Int) !=0)=false:=by simp[h0]
     have aa:Hid (R=false):=za (by rw[M.out];simp[h0]);clear M h0;cases l
     all_goals
      go_enter xi,y7
      go_wp2;go_ret;exact⟨by rw[aa.out];rfl,bD⟩
    have G:((t[0].toNat:Int) !=0)=true:=by simp[h0]
    have aa:Hid (R= !l):=za (by rw[M.out];simp[h0,ab]);clear M h0;cases l
    all_goals
     go_enter xi,y7
     go_wp2;go_ret;exact⟨by rw[aa.out];rfl,bD⟩
   have aa:Hid (R=false):=za (by rw[M.out];simp[ab]);clear M;cases l
   all_goals
    go_enter xi,y7
    go_wp2;go_ret;exact⟨by rw[aa.out];rfl,bD⟩
  ·rw[K 2 (.inr (.inl rfl))]at q;have j:Hid (R=(!l&&decide ((t.size:Int)=z))):=q;clear bC IH HS q K tW J;cases l
   all_goals
    go_enter xi,y7
    go_wp2;all_goals
     go_ret;refine⟨aT ?_,bD⟩;rw[j.out];first|rfl|(rw[yE];simp)
  ·rw[K 3 (.inr (.inr rfl))]at q;have j:Hid (R=(!l&&decide ((t.size:Int)<=z))):=q;clear bC IH HS q K tW J;cases l
   all_goals
    go_enter xi,y7
    go_wp2;all_goals
     go_ret;refine⟨aT ?_,bD⟩;rw[j.out];first|rfl|(rw[yE];simp)
  ·clear bC K;have L6:=za J;clear J;cases l with
   |false=>
    have j:Hid (R=false):=za (by rw[q.out];simp[k8]);go_enter xi,y7
    go_wp2;all_goals
     go_ret;exact⟨by rw[j.out];rfl,bD⟩
   |true=>
    by_cases ad:(s.length:Int)<=z
    ·have j:Hid (R=bN s (Ty.mk 4 z d 0) 0):=za (by rw[q.out];simp[k8,ad]);clear q;go_enter xi,y7
     go_wp2_with fail
     go_loopw [5] (fun i wr=>∃c:Nat,c<=s.length/\i= .int .i64 c/\Hid (bN (s.take c) (Ty.mk 4 z d 0) 0=true)/\af wr w.heap.size 43 #[.int .i64 4,.int .i64 z,.slice A' d.length L,.int .i64 0]/\af wr (w.heap.size+1) 28 #[.string t,.bool true,.slice A s.length cap]/\Below w.heap.size w wr) (fun i _=>s.length-(intOf i).toNat)
     case atStart=>exact⟨0,by omega,rfl,za (by simp[bN]),(af.new w _ _).alloc _,by have:=af.new (w.alloc (.cells #[.int .i64 4,.int .i64 z,.slice A' d.length L,.int .i64 0] 43)) 28 #[.string t,.bool true,.slice A s.length cap];simpa using this,bD⟩
     case round=>
      obtain⟨c,OV,rfl,hm,X,H,pT⟩:=hrel;have q1:wr.cell? ⟨w.heap.size,2,none⟩=some (.slice A' d.length L):=X.cell 2;have q2:wr.cell? ⟨w.heap.size+1,2,none⟩=some (.slice A s.length cap):=H.cell 2;have DN:=H.lt;have K1:=za X;have K2:=za H;have u:=za pT;clear X H pT;by_cases y:c<s.length
      ·have m:Below B w wr:=u.out.mono hB;obtain⟨b,o,d0,d1,d2,rfl,U,W,G,Y,hi⟩:=HS.out.at_ c y;simp only[zG]at W G Y;replace W:=(m.cell (p:=⟨b,o+c*3,none⟩) U).trans W;replace G:=(m.cell (p:=⟨b,o+c*3+1,none⟩) U).trans G;replace Y:=(m.cell (p:=⟨b,o+c*3+2,none⟩) U).trans Y;have oC:0<d.length:=(by have:=L6.out;omega)
       obtain⟨C,o',f0,f1,f2,f3,rfl,I,N,k1,k2,Z,tL⟩:=tW.out.at_ (0) oC;simp only[zG,Nat.zero_mul,yU]at N k1 k2 Z;replace N:=(m.cell (p:=⟨C,_,none⟩) I).trans N;replace k1:=(m.cell (p:=⟨C,_,none⟩) I).trans k1;replace k2:=(m.cell (p:=⟨C,_,none⟩) I).trans k2;replace Z:=(m.cell (p:=⟨C,_,none⟩) I).trans Z;have oy:Hid ((Ty.mk 4 z d 0).at c=d[0]):=za (by show(d[G3 4 c]?).getD (.mk 0 0 [] 0)=d[0];rw[show G3 4 c=0 from rfl,zx oC];rfl);have HC:=za (IH.out _ (zE y) B wr.drew d0 d1 d2 ((hi.below m).below (zl _ _).drew) (by simp;omega) (fZ Ad.out c y) d[0] f0 f1 f2 f3 ((tL.below m).below (zl _ _).drew) (dk Wf.out (0) oC));obtain⟨r,D⟩:∃r,s[c].cI d[0]=r:=⟨_,rfl⟩
       rw[D]at HC;have sn:Hid (s[c].cI ((Ty.mk 4 z d 0).at c)=r):=za (by rw[oy.out,D]);clear hi tL D m;go_wp2_with fail
       go_still_tail 9,(by kernel_rfl)
       change wpList _ _ _ _ _ wr.drew
       go_wp2_with fail
       refine HC.out.mono ?_;rintro e O ⟨rfl,hx⟩;have F:=za hx;clear hx;cases r with
       |true=>
        have S:Hid (bN (s.take (c+1)) (Ty.mk 4 z d 0) 0=true):=za (by rw[jF y,hm.out,sn.out];rfl);go_wp2;go_roundw
        case rel=>
         have key:∃k2:Nat,k2<=s.length/\Value.int .i64 ((c:Int)+1)= .int .i64 k2/\Hid (bN (s.take k2) (Ty.mk 4 z d 0) 0=true)/\af O w.heap.size 43 #[.int .i64 4,.int .i64 z,.slice (some ⟨C,o',none⟩) d.length L,.int .i64 0]/\af O (w.heap.size+1) 28 #[.string t,.bool true,.slice (some ⟨b,o,none⟩) s.length cap]/\Below w.heap.size w O:=
          ⟨c+1,by omega,by go_num,S,K1.out.drew.ag F.out (by simp;omega),K2.out.drew.ag F.out (by simpa using DN),u.out.drew.trans (F.out.mono (by simpa using u.out.size))⟩
         first|exact key|((repeat apply Exists.intro);exact⟨key,rfl⟩)
        case measure=>simp[intOf];omega
       |false=>
        have S:Hid (bN s (Ty.mk 4 z d 0) 0=false):=za (kh y sn.out);go_wp2;go_ret;exact⟨by rw[j.out,S.out];rfl,u.out.drew.trans (F.out.mono (by simpa using u.out.size))⟩
      have E:=hm.out;rw[zv (by omega)]at E;have HM:=za E;clear E;go_wp2;go_ret;exact⟨by rw[j.out,HM.out];rfl,u.out⟩
    have j:Hid (R=false):=za (by rw[q.out];simp[k8,ad]);go_enter xi,y7
    go_wp2;all_goals
     go_ret;exact⟨by rw[j.out];rfl,bD⟩
  clear bC K;cases l with
  |false=>
   have j:Hid (R=false):=za (by rw[q.out];simp[k8]);go_enter xi,y7
   go_wp2;all_goals
    go_ret;exact⟨by rw[j.out];rfl,bD⟩
  |true=>
   by_cases E:s.length<=d.length
   ·by_cases pQ:(d.length:Int)-n<=s.length
    ·have j:Hid (R=bN s (Ty.mk 5 0 d n) 0):=za (by rw[q.out,<-Lm,zD E,zD pQ];rfl);clear q;have ae:decide (d.length<s.length)=false:=zu (by omega);have ai:decide ((s.length:Int)<(d.length:Int)-n)=false:=zu (by omega);go_enter xi,y7
     go_wp2_with fail
     go_loopw [6] (fun i wr=>∃c:Nat,c<=s.length/\i= .int .i64 c/\Hid (bN (s.take c) (Ty.mk 5 0 d n) 0=true)/\af wr w.heap.size 43 #[.int .i64 5,.int .i64 0,.slice A' d.length L,.int .i64 n]/\af wr (w.heap.size+1) 28 #[.string t,.bool true,.slice A s.length cap]/\Below w.heap.size w wr) (fun i _=>s.length-(intOf i).toNat)
     case atStart=>exact⟨0,by omega,rfl,za (by simp[bN]),(af.new w _ _).alloc _,by have:=af.new (w.alloc (.cells #[.int .i64 5,.int .i64 0,.slice A' d.length L,.int .i64 n] 43)) 28 #[.string t,.bool true,.slice A s.length cap];simpa using this,bD⟩
     case round=>
      obtain⟨c,OV,rfl,hm,X,H,pT⟩:=hrel;have q1:wr.cell? ⟨w.heap.size,2,none⟩=some (.slice A' d.length L):=X.cell 2;have q2:wr.cell? ⟨w.heap.size+1,2,none⟩=some (.slice A s.length cap):=H.cell 2;have DN:=H.lt;have K1:=za X;have K2:=za H;have u:=za pT;clear X H pT;by_cases y:c<s.length
      ·have m:Below B w wr:=u.out.mono hB;obtain⟨b,o,d0,d1,d2,rfl,U,W,G,Y,hi⟩:=HS.out.at_ c y;simp only[zG]at W G Y;replace W:=(m.cell (p:=⟨b,o+c*3,none⟩) U).trans W;replace G:=(m.cell (p:=⟨b,o+c*3+1,none⟩) U).trans G;replace Y:=(m.cell (p:=⟨b,o+c*3+2,none⟩) U).trans Y;have oC:c<d.length:=(by omega)
       obtain⟨C,o',f0,f1,f2,f3,rfl,I,N,k1,k2,Z,tL⟩:=tW.out.at_ (c) oC;simp only[zG,Nat.zero_mul,yU]at N k1 k2 Z;replace N:=(m.cell (p:=⟨C,_,none⟩) I).trans N;replace k1:=(m.cell (p:=⟨C,_,none⟩) I).trans k1;replace k2:=(m.cell (p:=⟨C,_,none⟩) I).trans k2;replace Z:=(m.cell (p:=⟨C,_,none⟩) I).trans Z;have oy:Hid ((Ty.mk 5 0 d n).at c=d[c]):=za (by show(d[G3 5 c]?).getD (.mk 0 0 [] 0)=d[c];rw[show G3 5 c=c from rfl,zx oC];rfl);have HC:=za (IH.out _ (zE y) B wr.drew d0 d1 d2 ((hi.below m).below (zl _ _).drew) (by simp;omega) (fZ Ad.out c y) d[c] f0 f1 f2 f3 ((tL.below m).below (zl _ _).drew) (dk Wf.out (c) oC));obtain⟨r,D⟩:∃r,s[c].cI d[c]=r:=⟨_,rfl⟩
       rw[D]at HC;have sn:Hid (s[c].cI ((Ty.mk 5 0 d n).at c)=r):=za (by rw[oy.out,D]);clear hi tL D m;go_wp2_with fail
       go_still_tail 10,(by kernel_rfl)
       change wpList _ _ _ _ _ wr.drew
       go_wp2_with fail
       refine HC.out.mono ?_;rintro e O ⟨rfl,hx⟩;have F:=za hx;clear hx;cases r with
       |true=>
        have S:Hid (bN (s.take (c+1)) (Ty.mk 5 0 d n) 0=true):=za (by rw[jF y,hm.out,sn.out];rfl);go_wp2;go_roundw
        case rel=>
         have key:∃k2:Nat,k2<=s.length/\Value.int .i64 ((c:Int)+1)= .int .i64 k2/\Hid (bN (s.take k2) (Ty.mk 5 0 d n) 0=true)/\af O w.heap.size 43 #[.int .i64 5,.int .i64 0,.slice (some ⟨C,o',none⟩) d.length L,.int .i64 n]/\af O (w.heap.size+1) 28 #[.string t,.bool true,.slice (some ⟨b,o,none⟩) s.length cap]/\Below w.heap.size w O:=
          ⟨c+1,by omega,by go_num,S,K1.out.drew.ag F.out (by simp;omega),K2.out.drew.ag F.out (by simpa using DN),u.out.drew.trans (F.out.mono (by simpa using u.out.size))⟩
         first|exact key|((repeat apply Exists.intro);exact⟨key,rfl⟩)
        case measure=>simp[intOf];omega
       |false=>
        have S:Hid (bN s (Ty.mk 5 0 d n) 0=false):=za (kh y sn.out);go_wp2;go_ret;exact⟨by rw[j.out,S.out];rfl,u.out.drew.trans (F.out.mono (by simpa using u.out.size))⟩
      have E:=hm.out;rw[zv (by omega)]at E;have HM:=za E;clear E;go_wp2;go_ret;exact⟨by rw[j.out,HM.out];rfl,u.out⟩
    have j:Hid (R=false):=za (by rw[q.out,<-Lm,zu pQ,Bool.and_false];rfl);go_enter xi,y7
    go_wp2;all_goals
     go_ret;exact⟨by rw[j.out];rfl,bD⟩
   have j:Hid (R=false):=za (by rw[q.out,<-Lm,zu E];rfl);go_enter xi,y7
   go_wp2;all_goals
    go_ret;exact⟨by rw[j.out];rfl,bD⟩
theorem Jt (ty:Ty)(x:It)(B:Nat)(w:World)(o q s t3 n l m:Value)(F:cC w B ty o q s t3)(G:bT w B x n l m)(U:B<=w.heap.size)(Z:Laid w):
 Calls prog 143 #[.agg #[o,q,s,t3],.agg #[n,l,m]] w fun e w'=>e= .returned (.int .i64 (cU ty x))/\Below w.heap.size w w':=by
 have fk:=Z.pos;obtain⟨k,r⟩:∃k,(w.alloc (.cells #[o,q,s,t3] 43)).alloc (.cells #[n,l,m] 28)=k:=⟨_,rfl⟩
 have z:Below w.heap.size w k:=by rw[<-r];exact((zl _ w).alloc (zg _) _).alloc (by simp) _
 have dO:k.heap.size=w.heap.size+2:=by rw[<-r];simp
 have m1:af k w.heap.size 43 #[o,q,s,t3]:=by rw[<-r];exact(af.new w _ _).alloc _
 have m2:af k (w.heap.size+1) 28 #[n,l,m]:=by rw[<-r];have:=af.new (w.alloc (.cells #[o,q,s,t3] 43)) 28 #[n,l,m];simpa using this
 have D:=za (kz ty B k o q s t3 (F.below (z.mono U)) (by omega) (Z.below z fk));have K:Hid (∀V,Below (w.heap.size+2) k V->Calls prog 167 #[.agg #[n,l,m]] V fun e w'=>e= .returned (.bool x.may)/\Below V.heap.size V w'):=za (fun V hV=>VB x B V n l m ((G.below (z.mono U)).below (hV.mono (by omega))) (by have:=hV.size;omega));have fR:=za m1;have L:=za m2;have C:=za z;have HT:=za F;have HI:=za G;have M:=za r;obtain⟨a,J⟩:∃a,ty.may=a:=⟨_,rfl⟩
 obtain⟨b,H⟩:∃b,x.may=b:=⟨_,rfl⟩
 obtain⟨c,S⟩:∃c,x.cI ty=c:=⟨_,rfl⟩
 have W:Hid (cU ty x=if a&&b then(if c then 0 else 12)else 1):=za (by rw[cU,J,H,S]);have HA:=za J;have Ej:=za H;have OW:=za S;rw[J]at D;rw[H]at K;obtain⟨A,cap,rfl,rfl,rfl,rfl,_⟩:=F.open_;obtain⟨A',aj,rfl,rfl,rfl,_⟩:=G.open_;generalize cU ty x=R at*;generalize ty.kind=ki at*;generalize ty.size=si at*;generalize ty.tail=ta at*;clear J H S F G r m1 m2;cases a with
 |false=>
  have u:Hid (R=1):=za (by rw[W.out];rfl);go_enter func143,ntmps143
  go_wp2_with fail
  rw[M.out];refine D.out.mono ?_;rintro e I ⟨rfl,j⟩;go_wp2;go_ret;exact⟨by rw[u.out];rfl,C.out.trans (j.mono (by omega))⟩
 |true=>
  cases b with
  |false=>
   have u:Hid (R=1):=za (by rw[W.out];rfl);go_enter func143,ntmps143
   go_wp2_with fail
   rw[M.out];refine D.out.mono ?_;rintro e I ⟨rfl,j⟩;obtain⟨g0,g1,g2,_,_,_⟩:=aZ (L.out.ag j (by omega));have N:=j.size;go_wp2_with fail
   refine(K.out I (j.mono (by omega))).mono ?_;rintro e d ⟨rfl,y⟩;go_wp2;go_ret;exact⟨by rw[u.out];rfl,C.out.trans ((j.trans (y.mono N)).mono (by omega))⟩
  |true=>
   have u:Hid (R=if c then 0 else 12):=za (by rw[W.out];rfl);go_enter func143,ntmps143
   go_wp2_with fail
   rw[M.out];refine D.out.mono ?_;rintro e I ⟨rfl,j⟩;obtain⟨g0,g1,g2,_,_,_⟩:=aZ (L.out.ag j (by omega));have N:=j.size;go_wp2_with fail
   refine(K.out I (j.mono (by omega))).mono ?_;rintro e d ⟨rfl,y⟩;have cE:=y.size;have dm:Hid (Below (w.heap.size+2) k d):=za ((j.trans (y.mono N)).mono (by omega));clear g0 g1 g2 j y;go_wp2_with fail
   refine(T8 d).mono ?_;rintro e w3 ⟨rfl,rfl⟩;obtain⟨i,p⟩:∃i,((d.alloc (.map OM.toArray 5)).alloc (.cells #[.map (some d.heap.size)] 217)).alloc (.cells #[.func (.func 169) #[] #[.pointer (some ⟨d.heap.size+1,0,none⟩),.pointer (some ⟨d.heap.size+1+1,0,none⟩)]] 95)=i:=⟨_,rfl⟩
   have El:i.heap.size=d.heap.size+3:=by rw[<-p];simp
   have X:Below d.heap.size d i:=by rw[<-p];exact(((zl _ _).alloc (zg _) _).alloc (by simp) _).alloc (by simp;omega) _
   have ab:Hid (FV i (d.heap.size+1) (d.heap.size+1+1) d.heap.size):=za (by
    rw[<-p];refine⟨?_, ?_, ?_⟩
    ·have:=(af.new (d.alloc (.map OM.toArray 5)) 217 #[.map (some d.heap.size)])
     rw[zp]at this;exact this.alloc _
    ·have:=af.new ((d.alloc (.map OM.toArray 5)).alloc (.cells #[.map (some d.heap.size)] 217)) 95 #[.func (.func 169) #[] #[.pointer (some ⟨d.heap.size+1,0,none⟩),.pointer (some ⟨d.heap.size+1+1,0,none⟩)]];rw[zp,zp]at this;exact this
    have h3:(d.alloc (.map OM.toArray 5)).heap[d.heap.size]?=some (.map OM.toArray 5):=yP d _;rw[Zy _ _ _ (by simp;omega),Zy _ _ _ (by simp)];exact h3)
   have E:Hid (Below (w.heap.size+2) k i):=za (dm.out.trans (X.mono (by omega)));have O:Below B w i:=(C.out.mono U).trans (E.out.mono (by omega));obtain⟨_,_,rj⟩:=Ig HA.out;have aa:x.right=true:=by
    have h:=Ej.out;unfold It.may at h;simp only[zz]at h;exact h.1.1
   have Y:=za (Ug x B i _ _ _ (HI.out.below O) (by omega) aa ty _ _ _ _ (HT.out.below O) rj _ _ _ ab.out);rw[OW.out]at Y;have rq:=za p;have n1:=fR.out.ag E.out (by omega);have n2:=L.out.ag E.out (by omega);have q0:i.cell? ⟨w.heap.size,0,none⟩=some (.int .i64 ki):=n1.cell 0;have q1:i.cell? ⟨w.heap.size,1,none⟩=some (.int .i64 si):=n1.cell 1;have q2:i.cell? ⟨w.heap.size,2,none⟩=some (.slice A ty.sub.length cap):=n1.cell 2;have q3:i.cell? ⟨w.heap.size,3,none⟩=some (.int .i64 ta):=n1.cell 3;have r0:i.cell? ⟨w.heap.size+1,0,none⟩=some (.string x.text):=n2.cell 0;have r1:i.cell? ⟨w.heap.size+1,1,none⟩=some (.bool x.list):=n2.cell 1;have r2:i.cell? ⟨w.heap.size+1,2,none⟩=some (.slice A' x.sub.length aj):=n2.cell 2;have l0:w.heap.size<d.heap.size:=by omega
   have l1:w.heap.size+1<d.heap.size:=by omega
   rw[<-p]at q0 q1 q2 q3 r0 r1 r2;clear p X O rj aa n1 n2;go_wp2_with fail
   rw[rq.out];refine Y.out.mono ?_;rintro e w6 ⟨rfl,mz⟩;have rk:Hid (Below w.heap.size w w6):=za (C.out.trans ((E.out.mono (by omega)).trans (mz.mono (by omega))));clear mz;cases c with
   |true=>
    go_wp2;go_ret;exact⟨by rw[u.out];rfl,rk.out⟩
   |false=>
    go_wp2;go_ret;exact⟨by rw[u.out];rfl,rk.out⟩
theorem NI (x:It)(B:Nat)(w:World)(b c d:Value)(h:bT w B x b c d)(k:B<=w.heap.size)(m:x.may=true)(n:x.right=true):
 Calls prog 153 #[.agg #[b,c,d]] w fun e w'=>e= .returned (.int .i64 x.count)/\Below w.heap.size w w':=by
 have j:=za (Jp x B (w.alloc (.cells #[b,c,d] 28)) b c d (h.below (WQ k)) (by simp;omega) _ (.inr ⟨rfl,n⟩));have i:oO x= .tuple #[.int .i64 x.count,.int .i64 x.deep,.bool true]:=by unfold oO;rw[m];rfl
 rw[i]at j;obtain⟨A,cap,rfl,rfl,rfl,_⟩:=h.open_;clear h i;generalize x.deep=D at*;generalize x.count=R at*;go_enter func153,ntmps153
 go_wp2_with fail
 refine j.out.mono ?_;rintro e o ⟨rfl,l⟩;go_wp2;go_ret;exact⟨rfl,(yv (zl _ _) (zg _) _).trans (l.mono (by simp))⟩
theorem Ju (h:∀b r,aL 8 l=some (b,r)->ei 64 b):cT l=none:=by
 unfold cT;split
 ·rename_i x hx
  rw[(h x [] hx).may];rfl
 rfl
theorem F9 {r:List UInt8}(h:aL 8 l=some (t,r))(b:r≠ []):cT l=none:=by
 unfold cT;rw[h];cases r with
 |nil=>exact absurd rfl b
 |cons c r=>rfl
theorem wu (h:aL 8 l=some (t,[])):cT l=if t.may=true then some t else none:=by
 unfold cT;rw[h]
theorem Uh (s:ByteArray)(w:World)(hs:s.size<=100000)(J:Laid w):
 Calls prog 124 #[.string s] w fun e w'=>FG w (cT s.data.toList) e w':=by
 have K:=za (FY 8 1 rfl (w.heap.size+1) s 0 64 ((w.alloc (.cells #[.int .i64 0,.int .i64 0,.slice none 0 0,.int .i64 0] 43)).alloc (.cells #[.string s,.int .i64 0,.int .i64 64] 205)) (af.at_ (by simp)) (yh _) hs (zg _));have X:=(af.new w 43 #[.int .i64 0,.int .i64 0,.slice none 0 0,.int .i64 0]).alloc (.cells #[.string s,.int .i64 0,.int .i64 64] 205);have F:=((zl w.heap.size w).alloc (zg _) (.cells #[.int .i64 0,.int .i64 0,.slice none 0 0,.int .i64 0] 43)).alloc (by simp) (.cells #[.string s,.int .i64 0,.int .i64 64] 205);have fG:((w.alloc (.cells #[.int .i64 0,.int .i64 0,.slice none 0 0,.int .i64 0] 43)).alloc (.cells #[.string s,.int .i64 0,.int .i64 64] 205)).heap.size=w.heap.size+2:=by simp
 generalize U:((w.alloc (.cells #[.int .i64 0,.int .i64 0,.slice none 0 0,.int .i64 0] 43)).alloc (.cells #[.string s,.int .i64 0,.int .i64 64] 205))=W0 at*;have HW:=za U;have ad:=za X;have At:=za F;have fk:=J.pos;obtain⟨R,r⟩:∃R,Hid (cT s.data.toList=R):=⟨_,za rfl⟩
 rw[r.out];clear U X F;go_enter func124,ntmps124
 go_wp2_with fail
 rw[HW.out];refine K.out.mono ?_;rintro e u ⟨t,ok,q,L1,k,z,y,A,n,cap,rfl,E,D,ah,c,B⟩;have N:=za (ad.out.only D (by simp));have x:Hid (Below w.heap.size w u):=za (At.out.trans (D.below (by omega) (by simp)));obtain⟨i,l,b,j,M,jY,H,I⟩:=aN N.out;have g1:=E.cells.2.1;have ss:w.heap.size+1<u.heap.size:=E.cells.2.2.2.2.2.2;have Z:w.heap.size<u.heap.size:=by omega
 clear K D E;cases ok with
 |false=>
  have p:Hid (R=none):=za (by rw[<-r.out];exact Ju (fun t' ab h=>c.2.1 rfl t' ab (by rw[zJ];exact h)));clear c B;go_wp2;refine zk (v:= .tuple #[.agg #[.int .i64 0,.int .i64 0,.slice none 0 0,.int .i64 0],.int .i64 3]) (by simp[results,Yl,go_sem,i,l,b,j,zA,Z]) rfl ?_;rw[p.out];exact⟨(((((x.out.setCell (by simp) _).setCell (by simp) _).setCell (by simp) _).setCell (by simp) _).alloc (by simp[World.setCell];omega) _),rfl⟩
 |true=>
  obtain⟨o,_,_⟩:=c.1 rfl;have ag:=c.2.2;rw[zJ]at o;by_cases W:q=s.size
  ·subst W;have n1:((s.size:Int) !=(s.size:Int))=false:=by simp
   rw[zI (by rw[aa];exact zg _)]at o;have C:=wu o;have Y:=za (B rfl);have HM:=za (kz t _ (u.alloc (.cells #[.int .i64 k,.int .i64 z,.slice A n cap,.int .i64 y] 43)) _ _ _ _ ((Y.out.below ((zl _ _).alloc (zg _) _)).AM) (zg _) (J.below (x.out.alloc (by omega) _) fk));rw[r.out]at C;generalize t.may=m at*;have p:=za C;clear o C c B r;go_wp2_with fail
   refine HM.out.mono ?_;rintro e G ⟨rfl,d⟩;have El:=d.size;simp only[zp]at El;clear i l b j M jY H I;obtain⟨i,l,b,j,M,jY,H,I⟩:=aN ((N.out.alloc _).ag d (by simp;omega));obtain⟨b0,b1,b2,b3,kQ,kP,kS,kR⟩:=aN ((af.new u 43 #[.int .i64 k,.int .i64 z,.slice A n cap,.int .i64 y]).ag d (by simp));have O:Hid (Below w.heap.size w G):=za ((x.out.alloc (by omega) _).trans (d.mono (by simp;omega)));have Hd:=za ((Y.out.below ((zl _ _).alloc (zg _) (.cells #[.int .i64 k,.int .i64 z,.slice A n cap,.int .i64 y] 43))).below d);clear d;cases m with
   |true=>
    go_wp2;refine zk (v:= .tuple #[.agg #[.int .i64 k,.int .i64 z,.slice A n cap,.int .i64 y],.int .i64 0]) (by simp[results,Yl,go_sem,i,l,b,j]) rfl ?_;rw[p.out,zi (by first|rfl|trivial)];exact⟨(((O.out.setCell (by simp) _).setCell (by simp) _).setCell (by simp) _).setCell (by simp) _,_,_,_,_,rfl,Hd.out.only (L:= [w.heap.size]) (((((ae.refl _ G).setCell (by simp) _).setCell (by simp) _).setCell (by simp) _).setCell (by simp) _) (by simp;omega) (fun k _ S=>by have S:W0.heap.size<=k:=S;show w.heap.size<=k;omega)⟩
   |false=>
    go_wp2;refine zk (v:= .tuple #[.agg #[.int .i64 0,.int .i64 0,.slice none 0 0,.int .i64 0],.int .i64 3]) (by simp[results,Yl,go_sem,i,l,b,j]) rfl ?_;rw[p.out,zh (by simp)];exact⟨(((O.out.setCell (by simp) _).setCell (by simp) _).setCell (by simp) _).setCell (by simp) _,rfl⟩
  have n1:((q:Int) !=(s.size:Int))=true:=yO.2 (by omega);have p:Hid (R=none):=za (by
   rw[<-r.out];refine F9 o (fun h0=> ?_);have:=xu List.length h0;simp only[zS,aa,zL]at this;omega)
  clear c B o W;go_wp2;refine zk (v:= .tuple #[.agg #[.int .i64 0,.int .i64 0,.slice none 0 0,.int .i64 0],.int .i64 3]) (by simp[results,Yl,go_sem,i,l,b,j,zA,Z]) rfl ?_;rw[p.out];exact⟨(((((x.out.setCell (by simp) _).setCell (by simp) _).setCell (by simp) _).setCell (by simp) _).alloc (by simp[World.setCell];omega) _),rfl⟩
theorem NJ (ty:Ty)(x:It)(B:Nat)(w:World)(m n p t3 l j k:Value)(z:cC w B ty m n p t3)(C:bT w B x l j k)(O:B<=w.heap.size)(qW:ty.count<=4611686018427387904)(ab:x.count<=4611686018427387904):
 Calls prog 14 #[.agg #[m,n,p,t3],.agg #[l,j,k]] w fun e w'=>e= .returned (.int .i64 (cU ty x))/\Below w.heap.size w w':=by
 obtain⟨i,o⟩:∃i,(w.alloc (.cells #[m,n,p,t3] 43)).alloc (.cells #[l,j,k] 28)=i:=⟨_,rfl⟩
 have H:Below w.heap.size w i:=by rw[<-o];exact((zl _ w).alloc (zg _) _).alloc (by simp) _
 have dO:i.heap.size=w.heap.size+2:=by rw[<-o];simp
 have Z:af i w.heap.size 43 #[m,n,p,t3]:=by rw[<-o];exact(af.new w _ _).alloc _
 have X:af i (w.heap.size+1) 28 #[l,j,k]:=by rw[<-o];have:=af.new (w.alloc (.cells #[m,n,p,t3] 43)) 28 #[l,j,k];simpa using this
 have u:=za (De ty B i m n p t3 (z.below (H.mono O)) (by omega) qW);have I:Hid (∀V,Below (w.heap.size+2) i V->Calls prog 38 #[.agg #[l,j,k]] V fun e w'=>e= .returned (.bool x.may)/\Below V.heap.size V w'):=za (fun V Y=>Qr x B V l j k ((C.below (H.mono O)).below (Y.mono (by omega))) (by have:=Y.size;omega) ab);have fR:=za Z;have J:=za X;have s:=za H;have HT:=za z;have HI:=za C;have K:=za o;obtain⟨a,G⟩:∃a,ty.may=a:=⟨_,rfl⟩
 obtain⟨b,E⟩:∃b,x.may=b:=⟨_,rfl⟩
 obtain⟨c,M⟩:∃c,x.cI ty=c:=⟨_,rfl⟩
 have S:Hid (cU ty x=if a&&b then(if c then 0 else 12)else 1):=za (by rw[cU,G,E,M]);have HA:=za G;have Ej:=za E;have OW:=za M;rw[G]at u;rw[E]at I;obtain⟨A,cap,rfl,rfl,rfl,rfl,_⟩:=z.open_;obtain⟨A',aj,rfl,rfl,rfl,_⟩:=C.open_;generalize cU ty x=R at*;generalize ty.kind=ki at*;generalize ty.size=si at*;generalize ty.tail=ta at*;clear G E M z C o Z X;cases a with
 |false=>
  have q:Hid (R=1):=za (by rw[S.out];rfl);go_enter func14,ntmps14
  go_wp2_with fail
  rw[K.out];refine u.out.mono ?_;rintro e F ⟨rfl,d⟩;go_wp2;go_ret;exact⟨by rw[q.out];rfl,s.out.trans (d.mono (by omega))⟩
 |true=>
  cases b with
  |false=>
   have q:Hid (R=1):=za (by rw[S.out];rfl);go_enter func14,ntmps14
   go_wp2_with fail
   rw[K.out];refine u.out.mono ?_;rintro e F ⟨rfl,d⟩;obtain⟨g0,g1,g2,_,_,_⟩:=aZ (J.out.ag d (by omega));have L:=d.size;go_wp2_with fail
   refine(I.out F (d.mono (by omega))).mono ?_;rintro e y ⟨rfl,r⟩;go_wp2;go_ret;exact⟨by rw[q.out];rfl,s.out.trans ((d.trans (r.mono L)).mono (by omega))⟩
  |true=>
   have q:Hid (R=if c then 0 else 12):=za (by rw[S.out];rfl);go_enter func14,ntmps14
   go_wp2_with fail
   rw[K.out];refine u.out.mono ?_;rintro e F ⟨rfl,d⟩;obtain⟨g0,g1,g2,_,_,_⟩:=aZ (J.out.ag d (by omega));have L:=d.size;go_wp2_with fail
   refine(I.out F (d.mono (by omega))).mono ?_;rintro e y ⟨rfl,r⟩;have cE:=r.size;have D:Hid (Below (w.heap.size+2) i y):=za ((d.trans (r.mono L)).mono (by omega));have N:Below B w y:=(s.out.mono O).trans (D.out.mono (by omega));obtain⟨_,_,rj⟩:=Ig HA.out;have aa:x.right=true:=by
    have h:=Ej.out;unfold It.may at h;simp only[zz]at h;exact h.1.1
   have U:=za (agB x B y _ _ _ (HI.out.below N) (by omega) aa ty _ _ _ _ (HT.out.below N) rj);rw[OW.out]at U;obtain⟨q0,q1,q2,q3,_⟩:=aN (fR.out.ag D.out (by omega));clear g0 g1 g2;obtain⟨g0,g1,g2,_,_,_⟩:=aZ (J.out.ag D.out (by omega));clear d r N rj aa;go_wp2_with fail
   refine U.out.mono ?_;rintro e w6 ⟨rfl,W⟩;have rk:Hid (Below w.heap.size w w6):=za (s.out.trans ((D.out.mono (by omega)).trans (W.mono (by omega))));clear W;cases c with
   |true=>
    go_wp2;go_ret;exact⟨by rw[q.out];rfl,rk.out⟩
   |false=>
    go_wp2;go_ret;exact⟨by rw[q.out];rfl,rk.out⟩
