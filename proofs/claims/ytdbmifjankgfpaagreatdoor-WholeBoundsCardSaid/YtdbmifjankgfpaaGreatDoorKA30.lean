/- Package typed: Fits. -/
import Derived.Test.YtdbmifjankgfpaaGreatDoorKA27
import Derived.Test.YtdbmifjankgfpaaGreatDoorKA24
set_option linter.all false
set_option maxRecDepth 100000
set_option maxHeartbeats 3200000
open Go.Proofs.Tryz
namespace Go.Proofs.YtdbmifjankgfpaaGreatDoor
open Go.RowKit
variable {w w':World}{g:Nat}{l:List UInt8}{t:Ty}
def Z0:=@ntmps169
def Ya:=@func169
def Yf:=@results124
def QG (k:Int)(i j:Nat):Prop:=(k=4/\j=0)\/(k≠4/\j=i)
theorem FN (k z r:Int)(b o n cap i j:Nat)(c h m:Int)(d:Option Addr)(p l:Nat)(w:World)(y:QG k i j)(C:j<n)(E:n<=9223372036854775807)(D:b<w.heap.size)
 (s:w.cell? ⟨b,o+j*4,none⟩=some (.int .i64 c)) (u:w.cell? ⟨b,o+j*4+1,none⟩=some (.int .i64 h)) (A:w.cell? ⟨b,o+j*4+2,none⟩=some (.slice d p l)) (x:w.cell? ⟨b,o+j*4+3,none⟩=some (.int .i64 m)):
 Calls prog 170 #[.agg #[.int .i64 k,.int .i64 z,.slice (some ⟨b,o,none⟩) n cap,.int .i64 r],.int .i64 i] w fun e w'=>e= .returned (.agg #[.int .i64 c,.int .i64 h,.slice d p l,.int .i64 m])/\Below w.heap.size w w':=by
 rcases y with⟨rfl,rfl⟩|⟨q,rfl⟩
 ·simp only[Nat.zero_mul,xd]at s u A x;go_enter func170,ntmps170
  go_wp2;refine zj (v:= .agg #[.int .i64 c,.int .i64 h,.slice d p l,.int .i64 m]) (by simp[results,results170,go_sem]) rfl ⟨rfl, ?_⟩;first|exact bT|trace_state
 have B:(k==4)=false:=zo.2 q;clear q;go_enter func170,ntmps170
 go_wp2;refine zj (v:= .agg #[.int .i64 c,.int .i64 h,.slice d p l,.int .i64 m]) (by simp[results,results170,go_sem]) rfl ⟨rfl, ?_⟩;first|exact bT|trace_state
def Om (k:Int)(i:Nat):Nat:=if k=4 then 0 else i
structure FV (w:World)(ob fb g:Nat):Prop where
 of_:af w ob 217 #[.map (some g)]
 fn:af w fb 95 #[.func (.func 169) #[] #[.pointer (some ⟨ob,0,none⟩),.pointer (some ⟨fb,0,none⟩)]]
 mp:w.heap[g]?=some (.map Ol.toArray 5)
theorem FV.ag {b c B:Nat}(h:FV w b c g)(d:Below B w w')(e:b<B)(i:c<B)(j:g<B):FV w' b c g:=⟨h.of_.ag d e,h.fn.ag d i,(d.block g j).trans h.mp⟩
theorem FV.lt {b c:Nat}(h:FV w b c g):b<w.heap.size/\c<w.heap.size/\g<w.heap.size:=⟨h.of_.lt,h.fn.lt,yP h.mp⟩
theorem FV.below {b c:Nat}(h:FV w b c g)(d:Below w.heap.size w w'):FV w' b c g:=h.ag d h.lt.1 h.lt.2.1 h.lt.2.2
theorem abY (z:Int)(l:List Ty)(d:Int)(c:ByteArray)(b:Bool)(m:Nat):(!b&&decide ((c.size:Int)<=z)&& !gG c.data.toList)=ow (Ty.mk 1 z l d) c b m:=rfl
theorem abZ (z:Int)(l:List Ty)(d:Int)(c:ByteArray)(b:Bool)(m:Nat):(!b&&decide ((c.size:Int)=z))=ow (Ty.mk 2 z l d) c b m:=rfl
theorem ab0 (z:Int)(l:List Ty)(d:Int)(c:ByteArray)(b:Bool)(m:Nat):(!b&&decide ((c.size:Int)<=z))=ow (Ty.mk 3 z l d) c b m:=rfl
theorem ab1 (z:Int)(l:List Ty)(c:Int)(d:ByteArray)(b:Bool)(m:Nat):(b&&decide ((m:Int)<=z))=ow (Ty.mk 4 z l c) d b m:=rfl
theorem ab2 (z:Int)(l:List Ty)(c:Int)(d:ByteArray)(b:Bool)(m:Nat):(b&&decide (m<=l.length)&&decide ((l.length:Int)-c<=m))=ow (Ty.mk 5 z l c) d b m:=rfl
theorem wh {k z:Int}{l:List Ty}{h:Int}{d:ByteArray}{b:Bool}{s:List It}(i:ow (Ty.mk k z l h) d b s.length=true)(c:(It.mk d b s).right=true)(e:k=1\/k=2\/k=3):s= []:=by
 have j:b=false:=by
  cases b with
  |false=>rfl
  |true=>rcases e with rfl|rfl|rfl<;>simp[ow]at i
 subst j;simp only[It.right,zy]at c;exact zp (by simpa[formed]using c.1)
theorem T' :∀(x:It) (B:Nat) (w:World) (c0 c1 c2:Value),dX w B x c0 c1 c2->B<=w.heap.size->x.right=true->∀(ty:Ty) (t0 t1 t2 t3:Value),cG w B ty t0 t1 t2 t3->ty.right=true->∀L S g,FV w L S g->
 Calls prog 169 #[.agg #[t0,t1,t2,t3],.agg #[c0,c1,c2],.pointer (some ⟨L,0,none⟩),.pointer (some ⟨S,0,none⟩)] w fun e w'=>e= .returned (.bool (x.dr ty))/\Below w.heap.size w w':=by
 intro x;induction x using It.ind with
 |h t l s ih=>
  intro B w c0 c1 c2 h hB hr ty t0 t1 t2 t3 hT rq L S g n;obtain⟨rfl,rfl,ht,hs,A,cap,rfl,so,mA,fx⟩:=h;have IH:=za ih;have HS:=za fx;clear ih fx;obtain⟨k,z,d,F⟩:=ty;obtain⟨rfl,rfl,rfl,hk,hz,oq,Ba,J,r,rfl,al,ak,RM⟩:=hT;obtain⟨bG,Ab⟩:=jL rq;have DK:=za hr;have DI:=za RM;have aj:=za Ab;have HR:Hid ((It.mk t l s).dr (Ty.mk k z d F)=(ow (Ty.mk k z d F) t l s.length&&df s (Ty.mk k z d F) 0)):=za (by simp only[It.dr]);generalize (It.mk t l s).dr (Ty.mk k z d F)=R at*;unfold mL at hk hz oq;clear hr RM Ab rq;rcases lM bG with⟨rfl,h3,hn,rfl⟩|⟨rfl,h3,h4,hn,rfl⟩|⟨rfl,h3,h4,hn,rfl⟩|⟨rfl,h3,h4,hn,rfl⟩|⟨rfl,rfl,h4,h5,h6⟩
  ·skip
   clear bG IH HS hn;have X:=za (nI (w:=((w.alloc (.cells #[.int .i64 1,.int .i64 z,.slice J d.length r,.int .i64 0] 43)).alloc (.cells #[.string t,.bool l,.slice A s.length cap] 28))) (es:=Ol) (c:=5) (((n.below ((zm _ _).alloc (zg _) _)).below ((zm _ _).alloc (zg _) _)).mp) 1 _ _ rfl);have W:=X.out;simp only[mu,jU,kJ,qy,ky]at W;have hf:∀w,(Instr.field 221 (.agg #[.func (.func 198) #[] #[],.func (.func 196) #[] #[]]) 0).run prog w= .ok (.func (.func 198) #[] #[]) w:=fun _=>by kernel_rfl
   have UR:w.cell? ⟨L,0,none⟩=some (.map (some g)):=n.of_.cell 0;have Ly:=n.lt.1;obtain⟨I,U⟩:∃I,ow (Ty.mk 1 z d 0) t l s.length=I:=⟨_,rfl⟩
   have y:=za U;have HV:=za n;clear U n X;go_enter Ya,Z0
   go_wp2_with fail
   refine(Xk 1 z 0 _ t l _ _ ht (by omega)).mono ?_;rintro e u ⟨rfl,D⟩;have C:=D;simp only[zq]at C;have G:Hid (Below w.heap.size w u):=za (((zm w.heap.size w).alloc (zg _) _|>.alloc (by simp) _).trans (C.mono (by omega)));have M1:Hid (af u w.heap.size 43 #[.int .i64 1,.int .i64 z,.slice J d.length r,.int .i64 0]):=za (((af.new w _ _).alloc _).only (ae.ah D (zg _)) (by simp));have M2:Hid (af u (w.heap.size+1) 28 #[.string t,.bool l,.slice A s.length cap]):=za ((show af _ (w.heap.size+1) _ _ from by have:=af.new (w.alloc (.cells #[.int .i64 1,.int .i64 z,.slice J d.length r,.int .i64 0] 43)) 28 #[.string t,.bool l,.slice A s.length cap];simpa using this).only (ae.ah D (zg _)) (by simp));have cr:=C.size;simp only[zq]at cr;clear D C W UR;rw[abY z d 0 t l s.length,y.out];obtain⟨g0,g1,g2,_,_,_⟩:=a8 M2.out;cases I with
   |false=>
    have E:Hid (R=false):=za (by rw[HR.out,y.out];rfl);go_wp2;go_ret;exact⟨by rw[E.out];rfl,G.out⟩
   |true=>
    have Bb:=wh y.out DK.out (by first|exact .inl rfl|exact .inr (.inl rfl)|exact .inr (.inr rfl));have E:Hid (R=true):=za (by rw[HR.out,y.out,Bb];rfl);have RL:s.length=0:=by rw[Bb];rfl
    clear Bb;rw[RL]at g2;go_wp2_with fail
    refine ye 1 ?_;rw[yr];go_wp2;go_ret;exact⟨by rw[E.out];rfl,G.out⟩
  ·skip
   clear bG IH HS hn;have X:=za (nI (w:=((w.alloc (.cells #[.int .i64 2,.int .i64 z,.slice J d.length r,.int .i64 0] 43)).alloc (.cells #[.string t,.bool l,.slice A s.length cap] 28))) (es:=Ol) (c:=5) (((n.below ((zm _ _).alloc (zg _) _)).below ((zm _ _).alloc (zg _) _)).mp) 2 _ _ rfl);have W:=X.out;simp only[mu,jU,kJ,qy,ky]at W;have hf:∀w,(Instr.field 221 (.agg #[.func (.func 199) #[] #[],.func (.func 200) #[] #[]]) 0).run prog w= .ok (.func (.func 199) #[] #[]) w:=fun _=>by kernel_rfl
   have UR:w.cell? ⟨L,0,none⟩=some (.map (some g)):=n.of_.cell 0;have Ly:=n.lt.1;obtain⟨I,U⟩:∃I,ow (Ty.mk 2 z d 0) t l s.length=I:=⟨_,rfl⟩
   have y:=za U;have HV:=za n;clear U n X;go_enter Ya,Z0
   go_wp2_with fail
   refine(Xl 2 z 0 J d.length r t l A s.length cap _ ht Ba hs (by omega) (by omega)).mono ?_;rintro e u ⟨rfl,D⟩;have C:=D;simp only[zq]at C;have G:Hid (Below w.heap.size w u):=za (((zm w.heap.size w).alloc (zg _) _|>.alloc (by simp) _).trans (C.mono (by omega)));have M1:Hid (af u w.heap.size 43 #[.int .i64 2,.int .i64 z,.slice J d.length r,.int .i64 0]):=za (((af.new w _ _).alloc _).only (ae.ah D (zg _)) (by simp));have M2:Hid (af u (w.heap.size+1) 28 #[.string t,.bool l,.slice A s.length cap]):=za ((show af _ (w.heap.size+1) _ _ from by have:=af.new (w.alloc (.cells #[.int .i64 2,.int .i64 z,.slice J d.length r,.int .i64 0] 43)) 28 #[.string t,.bool l,.slice A s.length cap];simpa using this).only (ae.ah D (zg _)) (by simp));have cr:=C.size;simp only[zq]at cr;clear D C W UR;rw[abZ z d 0 t l s.length,y.out];obtain⟨g0,g1,g2,_,_,_⟩:=a8 M2.out;cases I with
   |false=>
    have E:Hid (R=false):=za (by rw[HR.out,y.out];rfl);go_wp2;go_ret;exact⟨by rw[E.out];rfl,G.out⟩
   |true=>
    have Bb:=wh y.out DK.out (by first|exact .inl rfl|exact .inr (.inl rfl)|exact .inr (.inr rfl));have E:Hid (R=true):=za (by rw[HR.out,y.out,Bb];rfl);have RL:s.length=0:=by rw[Bb];rfl
    clear Bb;rw[RL]at g2;go_wp2_with fail
    refine ye 1 ?_;rw[yr];go_wp2;go_ret;exact⟨by rw[E.out];rfl,G.out⟩
  ·skip
   clear bG IH HS hn;have X:=za (nI (w:=((w.alloc (.cells #[.int .i64 3,.int .i64 z,.slice J d.length r,.int .i64 0] 43)).alloc (.cells #[.string t,.bool l,.slice A s.length cap] 28))) (es:=Ol) (c:=5) (((n.below ((zm _ _).alloc (zg _) _)).below ((zm _ _).alloc (zg _) _)).mp) 3 _ _ rfl);have W:=X.out;simp only[mu,jU,kJ,qy,ky]at W;have hf:∀w,(Instr.field 221 (.agg #[.func (.func 202) #[] #[],.func (.func 196) #[] #[]]) 0).run prog w= .ok (.func (.func 202) #[] #[]) w:=fun _=>by kernel_rfl
   have UR:w.cell? ⟨L,0,none⟩=some (.map (some g)):=n.of_.cell 0;have Ly:=n.lt.1;obtain⟨I,U⟩:∃I,ow (Ty.mk 3 z d 0) t l s.length=I:=⟨_,rfl⟩
   have y:=za U;have HV:=za n;clear U n X;go_enter Ya,Z0
   go_wp2_with fail
   refine(Xm 3 z 0 J d.length r t l A s.length cap _ ht Ba hs (by omega) (by omega)).mono ?_;rintro e u ⟨rfl,D⟩;have C:=D;simp only[zq]at C;have G:Hid (Below w.heap.size w u):=za (((zm w.heap.size w).alloc (zg _) _|>.alloc (by simp) _).trans (C.mono (by omega)));have M1:Hid (af u w.heap.size 43 #[.int .i64 3,.int .i64 z,.slice J d.length r,.int .i64 0]):=za (((af.new w _ _).alloc _).only (ae.ah D (zg _)) (by simp));have M2:Hid (af u (w.heap.size+1) 28 #[.string t,.bool l,.slice A s.length cap]):=za ((show af _ (w.heap.size+1) _ _ from by have:=af.new (w.alloc (.cells #[.int .i64 3,.int .i64 z,.slice J d.length r,.int .i64 0] 43)) 28 #[.string t,.bool l,.slice A s.length cap];simpa using this).only (ae.ah D (zg _)) (by simp));have cr:=C.size;simp only[zq]at cr;clear D C W UR;rw[ab0 z d 0 t l s.length,y.out];obtain⟨g0,g1,g2,_,_,_⟩:=a8 M2.out;cases I with
   |false=>
    have E:Hid (R=false):=za (by rw[HR.out,y.out];rfl);go_wp2;go_ret;exact⟨by rw[E.out];rfl,G.out⟩
   |true=>
    have Bb:=wh y.out DK.out (by first|exact .inl rfl|exact .inr (.inl rfl)|exact .inr (.inr rfl));have E:Hid (R=true):=za (by rw[HR.out,y.out,Bb];rfl);have RL:s.length=0:=by rw[Bb];rfl
    clear Bb;rw[RL]at g2;go_wp2_with fail
    refine ye 1 ?_;rw[yr];go_wp2;go_ret;exact⟨by rw[E.out];rfl,G.out⟩
  ·clear bG;have hj:∀i:Nat,i<s.length->Om 4 i<d.length:=fun i _=>by show 0<d.length;omega
   have S3:∀i:Nat,QG 4 i (Om 4 i):=fun i=> .inl ⟨rfl,rfl⟩
   have HJ:=za (fun(_:ow (Ty.mk 4 z d 0) t l s.length=true)=>hj);have ah:=za S3;clear hj S3 hn;have X:=za (nI (w:=((w.alloc (.cells #[.int .i64 4,.int .i64 z,.slice J d.length r,.int .i64 0] 43)).alloc (.cells #[.string t,.bool l,.slice A s.length cap] 28))) (es:=Ol) (c:=5) (((n.below ((zm _ _).alloc (zg _) _)).below ((zm _ _).alloc (zg _) _)).mp) 4 _ _ rfl);have W:=X.out;simp only[mu,jU,kJ,qy,ky]at W;have hf:∀w,(Instr.field 221 (.agg #[.func (.func 203) #[] #[],.func (.func 204) #[] #[]]) 0).run prog w= .ok (.func (.func 203) #[] #[]) w:=fun _=>by kernel_rfl
   have UR:w.cell? ⟨L,0,none⟩=some (.map (some g)):=n.of_.cell 0;have Ly:=n.lt.1;obtain⟨I,U⟩:∃I,ow (Ty.mk 4 z d 0) t l s.length=I:=⟨_,rfl⟩
   have y:=za U;have HV:=za n;clear U n X;go_enter Ya,Z0
   go_wp2_with fail
   refine(Xn 4 z 0 J d.length r t l A s.length cap _ ht Ba hs (by omega) (by omega)).mono ?_;rintro e u ⟨rfl,D⟩;have C:=D;simp only[zq]at C;have G:Hid (Below w.heap.size w u):=za (((zm w.heap.size w).alloc (zg _) _|>.alloc (by simp) _).trans (C.mono (by omega)));have M1:Hid (af u w.heap.size 43 #[.int .i64 4,.int .i64 z,.slice J d.length r,.int .i64 0]):=za (((af.new w _ _).alloc _).only (ae.ah D (zg _)) (by simp));have M2:Hid (af u (w.heap.size+1) 28 #[.string t,.bool l,.slice A s.length cap]):=za ((show af _ (w.heap.size+1) _ _ from by have:=af.new (w.alloc (.cells #[.int .i64 4,.int .i64 z,.slice J d.length r,.int .i64 0] 43)) 28 #[.string t,.bool l,.slice A s.length cap];simpa using this).only (ae.ah D (zg _)) (by simp));have cr:=C.size;simp only[zq]at cr;clear D C W UR;rw[ab1 z d 0 t l s.length,y.out];obtain⟨g0,g1,g2,_,_,_⟩:=a8 M2.out;cases I with
   |false=>
    have E:Hid (R=false):=za (by rw[HR.out,y.out];rfl);go_wp2;go_ret;exact⟨by rw[E.out];rfl,G.out⟩
   |true=>
    have E:Hid (R=df s (Ty.mk 4 z d 0) 0):=za (by rw[HR.out,y.out];rfl);have ag:=za (HJ.out y.out);have GY:=za (HV.out.below G.out);clear HJ HR;go_wp2_with fail
    go_loopw [21] (fun i wr=>∃m:Nat,m<=s.length/\i= .int .i64 m/\Hid (df (s.take m) (Ty.mk 4 z d 0) 0=true)/\Below (w.heap.size+2) u wr) (fun i _=>s.length-(intOf i).toNat)
    case atStart=>exact⟨0,by omega,rfl,za (by simp[df]),zm _ _⟩
    case round=>
     obtain⟨m,SX,rfl,hm,uw⟩:=hrel;have Z:=za uw;have UB:=uw.size;clear uw g0 g1 g2;obtain⟨g0,g1,g2,_,_,_⟩:=a8 (M2.out.ag Z.out (by omega));by_cases Y:m<s.length
     ·have JJ:=za (GY.out.ag Z.out (by have:=HV.out.lt;omega) (by have:=HV.out.lt;omega) (by have:=HV.out.lt;omega));have M:Below B w wr:=(G.out.mono hB).trans (Z.out.mono (by omega));obtain⟨b,o,d0,d1,d2,rfl,jJ,e0,e1,e2,hi⟩:=HS.out.at_ m Y;simp only[zQ]at e0 e1 e2;replace e0:=(M.cell (p:=⟨b,o+m*3,none⟩) jJ).trans e0;replace e1:=(M.cell (p:=⟨b,o+m*3+1,none⟩) jJ).trans e1;replace e2:=(M.cell (p:=⟨b,o+m*3+2,none⟩) jJ).trans e2;obtain⟨A3,qP,rfl,rfl,rfl,_⟩:=hi.open_;obtain⟨j,hj⟩:∃j,Om 4 m=j:=⟨_,rfl⟩
      have rj:=ag.out m Y;have S3:=ah.out m;rw[hj]at rj S3;have ab:=za S3;obtain⟨K,o',f0,f1,f2,f3,rfl,mh,k0,k1,k2,k3,Dx⟩:=DI.out.at_ j rj;simp only[zQ]at k0 k1 k2 k3;have qT:Hid ((Ty.mk 4 z d 0).at m=d[j]):=za (by show(d[Om 4 m]?).getD (.mk 0 0 [] 0)=d[j];rw[hj,zB rj];rfl);have Gs:=za (Dx.below M);obtain⟨A4,DJ,rfl,rfl,rfl,rfl,_⟩:=Dx.open_;obtain⟨q,bO⟩:∃q,wr.alloc (.cells #[.string s[m].text,.bool s[m].list,.slice A3 s[m].sub.length qP] 28)=q:=⟨_,rfl⟩
      have cw:Hid (Below wr.heap.size wr q):=za (by rw[<-bO];exact(zm _ wr).alloc (zg _) _);have Bo:Hid (q.heap.size=wr.heap.size+1):=za (by rw[<-bO];simp);have VJ:Hid (af q wr.heap.size 28 #[.string s[m].text,.bool s[m].list,.slice A3 s[m].sub.length qP]):=za (by rw[<-bO];exact af.new wr _ _);have ai:=za bO;have Bp:Hid (∀V,Below (wr.heap.size+1) q V->Below B w V/\Below (w.heap.size+2) u V/\wr.heap.size+1<=V.heap.size):=za (fun V n=>⟨M.trans ((cw.out.mono (by have:=M.size;omega)).trans (n.mono (by have:=M.size;omega))),Z.out.trans ((cw.out.mono (by omega)).trans (n.mono (by omega))),by have:=n.size;have:=Bo.out;omega⟩);have N:Hid (∀V,Below (wr.heap.size+1) q V->V.cell? ⟨S,0,none⟩=some (.func (.func 169) #[] #[.pointer (some ⟨L,0,none⟩),.pointer (some ⟨S,0,none⟩)])/\
       V.cell? ⟨w.heap.size,0,none⟩=some (.int .i64 4)/\V.cell? ⟨w.heap.size,1,none⟩=some (.int .i64 z)/\V.cell? ⟨w.heap.size,2,none⟩=some (.slice (some ⟨K,o',none⟩) d.length r)/\V.cell? ⟨w.heap.size,3,none⟩=some (.int .i64 0)/\
       V.cell? ⟨wr.heap.size,0,none⟩=some (.string s[m].text)/\V.cell? ⟨wr.heap.size,1,none⟩=some (.bool s[m].list)/\V.cell? ⟨wr.heap.size,2,none⟩=some (.slice A3 s[m].sub.length qP)/\Below (wr.heap.size+1) q V):=za (fun V n=>by
       have H:=Bp.out V n;have O:=JJ.out.lt;have m1:=((JJ.out.ag cw.out O.1 O.2.1 O.2.2).ag n (by omega) (by omega) (by omega)).fn.cell 0;have m2:=M1.out.ag H.2.1 (by omega);have m3:=VJ.out.ag n (by omega);exact⟨m1,m2.cell 0,m2.cell 1,m2.cell 2,m2.cell 3,m3.cell 0,m3.cell 1,m3.cell 2,n⟩)
      have ad:Hid (∀V,Below (wr.heap.size+1) q V->Calls prog 170 #[.agg #[.int .i64 4,.int .i64 z,.slice (some ⟨K,o',none⟩) d.length r,.int .i64 0],.int .i64 m] V fun e w'=>e= .returned (.agg #[.int .i64 d[j].kind,.int .i64 d[j].size,.slice A4 d[j].sub.length DJ,.int .i64 d[j].tail])/\Below (wr.heap.size+1) q w'):=za (fun V n=>by
       have H:=Bp.out V n;refine(FN 4 z 0 K o' d.length r m j _ _ _ A4 _ DJ V ab.out rj Ba (by omega) ((H.1.cell (p:=⟨K,_,none⟩) mh).trans k0) ((H.1.cell (p:=⟨K,_,none⟩) mh).trans k1) ((H.1.cell (p:=⟨K,_,none⟩) mh).trans k2) ((H.1.cell (p:=⟨K,_,none⟩) mh).trans k3)).mono ?_;rintro e w' ⟨rfl,hx⟩;exact⟨rfl,n.trans (hx.mono (by omega))⟩)
      obtain⟨aa,hr⟩:∃aa,s[m].dr d[j]=aa:=⟨_,rfl⟩
      have US:Hid (∀V,Below (wr.heap.size+1) q V->Calls prog 169 #[.agg #[.int .i64 d[j].kind,.int .i64 d[j].size,.slice A4 d[j].sub.length DJ,.int .i64 d[j].tail],.agg #[.string s[m].text,.bool s[m].list,.slice A3 s[m].sub.length qP],.pointer (some ⟨L,0,none⟩),.pointer (some ⟨S,0,none⟩)] V fun e w'=>e= .returned (.bool aa)/\Below (wr.heap.size+1) q w'):=za (fun V n=>by
       have H:=Bp.out V n;have O:=JJ.out.lt;refine(IH.out _ (zR Y) B V _ _ _ (hi.below H.1) (by omega) (jM DK.out m Y) d[j] _ _ _ _ (Dx.below H.1) (dT aj.out j rj) L S g ((JJ.out.ag cw.out O.1 O.2.1 O.2.2).ag n (by omega) (by omega) (by omega))).mono ?_;rintro e w' ⟨rfl,hx⟩;exact⟨by rw[hr],n.trans (hx.mono (by omega))⟩)
      have OC:Hid (s[m].dr ((Ty.mk 4 z d 0).at m)=aa):=za (by rw[qT.out,hr]);clear hi Dx k0 k1 k2 k3 hj S3 hr bO Gs;go_wp2_with fail
      rw[ai.out];obtain⟨x0,x1,x2,x3,x4,x5,x6,x7,x8⟩:=N.out q (zm _ _);go_region_held3 (fun V=>V.cell? ⟨S,0,none⟩=some (.func (.func 169) #[] #[.pointer (some ⟨L,0,none⟩),.pointer (some ⟨S,0,none⟩)])/\
       V.cell? ⟨w.heap.size,0,none⟩=some (.int .i64 4)/\V.cell? ⟨w.heap.size,1,none⟩=some (.int .i64 z)/\V.cell? ⟨w.heap.size,2,none⟩=some (.slice (some ⟨K,o',none⟩) d.length r)/\V.cell? ⟨w.heap.size,3,none⟩=some (.int .i64 0)/\
       V.cell? ⟨wr.heap.size,0,none⟩=some (.string s[m].text)/\V.cell? ⟨wr.heap.size,1,none⟩=some (.bool s[m].list)/\V.cell? ⟨wr.heap.size,2,none⟩=some (.slice A3 s[m].sub.length qP)/\Below (wr.heap.size+1) q V)
       (first|exact N.out _ x8|exact N.out _ hv|exact N.out _ hv.drew|exact N.out _ x8.drew|exact N.out _ (by assumption)|exact N.out _ (Below.drew (by assumption)))
       (first|(go_at_call 170;((with_reducible refine(ad.out _ (by first|assumption|exact Below.drew (by assumption)|exact Below.bs (by assumption) _)).mono ?_);rintro e w' ⟨rfl,hv⟩))|(go_at_call 169;((with_reducible refine(US.out _ (by first|assumption|exact Below.drew (by assumption)|exact Below.bs (by assumption) _)).mono ?_);rintro e w' ⟨rfl,hv⟩)))
      all_goals
       have ee:Hid (Below (w.heap.size+2) u w'):=za (Z.out.trans ((cw.out.mono (by omega)).trans (hv.mono (by omega))));cases aa with
       |true=>
        have HN:Hid (df (s.take (m+1)) (Ty.mk 4 z d 0) 0=true):=za (by rw[o8 Y,hm.out,OC.out];rfl);go_wp2;go_roundw
        case rel=>exact⟨m+1,by omega,by go_num,HN,ee.out⟩
        case measure=>simp[intOf];omega
       |false=>
        have HN:Hid (df s (Ty.mk 4 z d 0) 0=false):=za (sQ Y OC.out);go_wp2;go_ret;exact⟨by rw[E.out,HN.out];rfl,G.out.trans (ee.out.mono (by omega))⟩
     have gP:=hm.out;rw[zz (by omega)]at gP;have HM:=za gP;clear gP;go_wp2;go_ret;exact⟨by rw[E.out,HM.out];rfl,G.out.trans (Z.out.mono (by omega))⟩
  clear bG;have HJ:Hid (ow (Ty.mk 5 0 d F) t l s.length=true->∀i:Nat,i<s.length->Om 5 i<d.length):=za (fun h i hi=>by
   show i<d.length
   have h2:=Bool.and_eq_true_iff.1 h;have h3:=yj (Bool.and_eq_true_iff.1 h2.1).2;simp at h3;omega)
  have ah:Hid (∀i:Nat,QG 5 i (Om 5 i)):=za (fun i=> .inr ⟨by decide,rfl⟩);have X:=za (nI (w:=((w.alloc (.cells #[.int .i64 5,.int .i64 0,.slice J d.length r,.int .i64 F] 43)).alloc (.cells #[.string t,.bool l,.slice A s.length cap] 28))) (es:=Ol) (c:=5) (((n.below ((zm _ _).alloc (zg _) _)).below ((zm _ _).alloc (zg _) _)).mp) 5 _ _ rfl);have W:=X.out;simp only[mu,jU,kJ,qy,ky]at W;have hf:∀w,(Instr.field 221 (.agg #[.func (.func 206) #[] #[],.func (.func 207) #[] #[]]) 0).run prog w= .ok (.func (.func 206) #[] #[]) w:=fun _=>by kernel_rfl
  have UR:w.cell? ⟨L,0,none⟩=some (.map (some g)):=n.of_.cell 0;have Ly:=n.lt.1;obtain⟨I,U⟩:∃I,ow (Ty.mk 5 0 d F) t l s.length=I:=⟨_,rfl⟩
  have y:=za U;have HV:=za n;clear U n X;go_enter Ya,Z0
  go_wp2_with fail
  refine(Xo 5 0 F J d.length r t l A s.length cap _ ht Ba hs (by omega) (by omega)).mono ?_;rintro e u ⟨rfl,D⟩;have C:=D;simp only[zq]at C;have G:Hid (Below w.heap.size w u):=za (((zm w.heap.size w).alloc (zg _) _|>.alloc (by simp) _).trans (C.mono (by omega)));have M1:Hid (af u w.heap.size 43 #[.int .i64 5,.int .i64 0,.slice J d.length r,.int .i64 F]):=za (((af.new w _ _).alloc _).only (ae.ah D (zg _)) (by simp));have M2:Hid (af u (w.heap.size+1) 28 #[.string t,.bool l,.slice A s.length cap]):=za ((show af _ (w.heap.size+1) _ _ from by have:=af.new (w.alloc (.cells #[.int .i64 5,.int .i64 0,.slice J d.length r,.int .i64 F] 43)) 28 #[.string t,.bool l,.slice A s.length cap];simpa using this).only (ae.ah D (zg _)) (by simp));have cr:=C.size;simp only[zq]at cr;clear D C W UR;rw[ab2 0 d F t l s.length,y.out];obtain⟨g0,g1,g2,_,_,_⟩:=a8 M2.out;cases I with
  |false=>
   have E:Hid (R=false):=za (by rw[HR.out,y.out];rfl);go_wp2;go_ret;exact⟨by rw[E.out];rfl,G.out⟩
  |true=>
   have E:Hid (R=df s (Ty.mk 5 0 d F) 0):=za (by rw[HR.out,y.out];rfl);have ag:=za (HJ.out y.out);have GY:=za (HV.out.below G.out);clear HJ HR;go_wp2_with fail
   go_loopw [21] (fun i wr=>∃m:Nat,m<=s.length/\i= .int .i64 m/\Hid (df (s.take m) (Ty.mk 5 0 d F) 0=true)/\Below (w.heap.size+2) u wr) (fun i _=>s.length-(intOf i).toNat)
   case atStart=>exact⟨0,by omega,rfl,za (by simp[df]),zm _ _⟩
   case round=>
    obtain⟨m,SX,rfl,hm,uw⟩:=hrel;have Z:=za uw;have UB:=uw.size;clear uw g0 g1 g2;obtain⟨g0,g1,g2,_,_,_⟩:=a8 (M2.out.ag Z.out (by omega));by_cases Y:m<s.length
    ·have JJ:=za (GY.out.ag Z.out (by have:=HV.out.lt;omega) (by have:=HV.out.lt;omega) (by have:=HV.out.lt;omega));have M:Below B w wr:=(G.out.mono hB).trans (Z.out.mono (by omega));obtain⟨b,o,d0,d1,d2,rfl,jJ,e0,e1,e2,hi⟩:=HS.out.at_ m Y;simp only[zQ]at e0 e1 e2;replace e0:=(M.cell (p:=⟨b,o+m*3,none⟩) jJ).trans e0;replace e1:=(M.cell (p:=⟨b,o+m*3+1,none⟩) jJ).trans e1;replace e2:=(M.cell (p:=⟨b,o+m*3+2,none⟩) jJ).trans e2;obtain⟨A3,qP,rfl,rfl,rfl,_⟩:=hi.open_;obtain⟨j,hj⟩:∃j,Om 5 m=j:=⟨_,rfl⟩
     have rj:=ag.out m Y;have S3:=ah.out m;rw[hj]at rj S3;have ab:=za S3;obtain⟨K,o',f0,f1,f2,f3,rfl,mh,k0,k1,k2,k3,Dx⟩:=DI.out.at_ j rj;simp only[zQ]at k0 k1 k2 k3;have qT:Hid ((Ty.mk 5 0 d F).at m=d[j]):=za (by show(d[Om 5 m]?).getD (.mk 0 0 [] 0)=d[j];rw[hj,zB rj];rfl);have Gs:=za (Dx.below M);obtain⟨A4,DJ,rfl,rfl,rfl,rfl,_⟩:=Dx.open_;obtain⟨q,bO⟩:∃q,wr.alloc (.cells #[.string s[m].text,.bool s[m].list,.slice A3 s[m].sub.length qP] 28)=q:=⟨_,rfl⟩
     have cw:Hid (Below wr.heap.size wr q):=za (by rw[<-bO];exact(zm _ wr).alloc (zg _) _);have Bo:Hid (q.heap.size=wr.heap.size+1):=za (by rw[<-bO];simp);have VJ:Hid (af q wr.heap.size 28 #[.string s[m].text,.bool s[m].list,.slice A3 s[m].sub.length qP]):=za (by rw[<-bO];exact af.new wr _ _);have ai:=za bO;have Bp:Hid (∀V,Below (wr.heap.size+1) q V->Below B w V/\Below (w.heap.size+2) u V/\wr.heap.size+1<=V.heap.size):=za (fun V n=>⟨M.trans ((cw.out.mono (by have:=M.size;omega)).trans (n.mono (by have:=M.size;omega))),Z.out.trans ((cw.out.mono (by omega)).trans (n.mono (by omega))),by have:=n.size;have:=Bo.out;omega⟩);have N:Hid (∀V,Below (wr.heap.size+1) q V->V.cell? ⟨S,0,none⟩=some (.func (.func 169) #[] #[.pointer (some ⟨L,0,none⟩),.pointer (some ⟨S,0,none⟩)])/\
      V.cell? ⟨w.heap.size,0,none⟩=some (.int .i64 5)/\V.cell? ⟨w.heap.size,1,none⟩=some (.int .i64 0)/\V.cell? ⟨w.heap.size,2,none⟩=some (.slice (some ⟨K,o',none⟩) d.length r)/\V.cell? ⟨w.heap.size,3,none⟩=some (.int .i64 F)/\
      V.cell? ⟨wr.heap.size,0,none⟩=some (.string s[m].text)/\V.cell? ⟨wr.heap.size,1,none⟩=some (.bool s[m].list)/\V.cell? ⟨wr.heap.size,2,none⟩=some (.slice A3 s[m].sub.length qP)/\Below (wr.heap.size+1) q V):=za (fun V n=>by
      have H:=Bp.out V n;have O:=JJ.out.lt;have m1:=((JJ.out.ag cw.out O.1 O.2.1 O.2.2).ag n (by omega) (by omega) (by omega)).fn.cell 0;have m2:=M1.out.ag H.2.1 (by omega);have m3:=VJ.out.ag n (by omega);exact⟨m1,m2.cell 0,m2.cell 1,m2.cell 2,m2.cell 3,m3.cell 0,m3.cell 1,m3.cell 2,n⟩)
     have ad:Hid (∀V,Below (wr.heap.size+1) q V->Calls prog 170 #[.agg #[.int .i64 5,.int .i64 0,.slice (some ⟨K,o',none⟩) d.length r,.int .i64 F],.int .i64 m] V fun e w'=>e= .returned (.agg #[.int .i64 d[j].kind,.int .i64 d[j].size,.slice A4 d[j].sub.length DJ,.int .i64 d[j].tail])/\Below (wr.heap.size+1) q w'):=za (fun V n=>by
      have H:=Bp.out V n;refine(FN 5 0 F K o' d.length r m j _ _ _ A4 _ DJ V ab.out rj Ba (by omega) ((H.1.cell (p:=⟨K,_,none⟩) mh).trans k0) ((H.1.cell (p:=⟨K,_,none⟩) mh).trans k1) ((H.1.cell (p:=⟨K,_,none⟩) mh).trans k2) ((H.1.cell (p:=⟨K,_,none⟩) mh).trans k3)).mono ?_;rintro e w' ⟨rfl,hx⟩;exact⟨rfl,n.trans (hx.mono (by omega))⟩)
     obtain⟨aa,hr⟩:∃aa,s[m].dr d[j]=aa:=⟨_,rfl⟩
     have US:Hid (∀V,Below (wr.heap.size+1) q V->Calls prog 169 #[.agg #[.int .i64 d[j].kind,.int .i64 d[j].size,.slice A4 d[j].sub.length DJ,.int .i64 d[j].tail],.agg #[.string s[m].text,.bool s[m].list,.slice A3 s[m].sub.length qP],.pointer (some ⟨L,0,none⟩),.pointer (some ⟨S,0,none⟩)] V fun e w'=>e= .returned (.bool aa)/\Below (wr.heap.size+1) q w'):=za (fun V n=>by
      have H:=Bp.out V n;have O:=JJ.out.lt;refine(IH.out _ (zR Y) B V _ _ _ (hi.below H.1) (by omega) (jM DK.out m Y) d[j] _ _ _ _ (Dx.below H.1) (dT aj.out j rj) L S g ((JJ.out.ag cw.out O.1 O.2.1 O.2.2).ag n (by omega) (by omega) (by omega))).mono ?_;rintro e w' ⟨rfl,hx⟩;exact⟨by rw[hr],n.trans (hx.mono (by omega))⟩)
     have OC:Hid (s[m].dr ((Ty.mk 5 0 d F).at m)=aa):=za (by rw[qT.out,hr]);clear hi Dx k0 k1 k2 k3 hj S3 hr bO Gs;go_wp2_with fail
     rw[ai.out];obtain⟨x0,x1,x2,x3,x4,x5,x6,x7,x8⟩:=N.out q (zm _ _);go_region_held3 (fun V=>V.cell? ⟨S,0,none⟩=some (.func (.func 169) #[] #[.pointer (some ⟨L,0,none⟩),.pointer (some ⟨S,0,none⟩)])/\
      V.cell? ⟨w.heap.size,0,none⟩=some (.int .i64 5)/\V.cell? ⟨w.heap.size,1,none⟩=some (.int .i64 0)/\V.cell? ⟨w.heap.size,2,none⟩=some (.slice (some ⟨K,o',none⟩) d.length r)/\V.cell? ⟨w.heap.size,3,none⟩=some (.int .i64 F)/\
      V.cell? ⟨wr.heap.size,0,none⟩=some (.string s[m].text)/\V.cell? ⟨wr.heap.size,1,none⟩=some (.bool s[m].list)/\V.cell? ⟨wr.heap.size,2,none⟩=some (.slice A3 s[m].sub.length qP)/\Below (wr.heap.size+1) q V)
      (first|exact N.out _ x8|exact N.out _ hv|exact N.out _ hv.drew|exact N.out _ x8.drew|exact N.out _ (by assumption)|exact N.out _ (Below.drew (by assumption)))
      (first|(go_at_call 170;((with_reducible refine(ad.out _ (by first|assumption|exact Below.drew (by assumption)|exact Below.bs (by assumption) _)).mono ?_);rintro e w' ⟨rfl,hv⟩))|(go_at_call 169;((with_reducible refine(US.out _ (by first|assumption|exact Below.drew (by assumption)|exact Below.bs (by assumption) _)).mono ?_);rintro e w' ⟨rfl,hv⟩)))
     all_goals
      have ee:Hid (Below (w.heap.size+2) u w'):=za (Z.out.trans ((cw.out.mono (by omega)).trans (hv.mono (by omega))));cases aa with
      |true=>
       have HN:Hid (df (s.take (m+1)) (Ty.mk 5 0 d F) 0=true):=za (by rw[o8 Y,hm.out,OC.out];rfl);go_wp2;go_roundw
       case rel=>exact⟨m+1,by omega,by go_num,HN,ee.out⟩
       case measure=>simp[intOf];omega
      |false=>
       have HN:Hid (df s (Ty.mk 5 0 d F) 0=false):=za (sQ Y OC.out);go_wp2;go_ret;exact⟨by rw[E.out,HN.out];rfl,G.out.trans (ee.out.mono (by omega))⟩
    have gP:=hm.out;rw[zz (by omega)]at gP;have HM:=za gP;clear gP;go_wp2;go_ret;exact⟨by rw[E.out,HM.out];rfl,G.out.trans (Z.out.mono (by omega))⟩
theorem I9 (ty:Ty)(x:It)(B:Nat)(w:World)(p s u t3 n m l:Value)(H:cG w B ty p s u t3)(I:dX w B x n m l)(M:B<=w.heap.size)(hL:Laid w):
 Calls prog 143 #[.agg #[p,s,u,t3],.agg #[n,m,l]] w fun e w'=>e= .returned (.int .i64 (eO ty x))/\Below w.heap.size w w':=by
 have gB:=hL.pos;obtain⟨k,q⟩:∃k,(w.alloc (.cells #[p,s,u,t3] 43)).alloc (.cells #[n,m,l] 28)=k:=⟨_,rfl⟩
 have D:Below w.heap.size w k:=by rw[<-q];exact((zm _ w).alloc (zg _) _).alloc (by simp) _
 have eh:k.heap.size=w.heap.size+2:=by rw[<-q];simp
 have m1:af k w.heap.size 43 #[p,s,u,t3]:=by rw[<-q];exact(af.new w _ _).alloc _
 have m2:af k (w.heap.size+1) 28 #[n,m,l]:=by rw[<-q];have:=af.new (w.alloc (.cells #[p,s,u,t3] 43)) 28 #[n,m,l];simpa using this
 have C:=za (kB ty B k p s u t3 (H.below (D.mono M)) (by omega) (hL.below D gB));have K:Hid (∀V,Below (w.heap.size+2) k V->Calls prog 167 #[.agg #[n,m,l]] V fun e w'=>e= .returned (.bool x.may)/\Below V.heap.size V w'):=za (fun V X=>Vo x B V n m l ((I.below (D.mono M)).below (X.mono (by omega))) (by have:=X.size;omega));have fQ:=za m1;have N:=za m2;have z:=za D;have HT:=za H;have HI:=za I;have U:=za q;obtain⟨a,J⟩:∃a,ty.may=a:=⟨_,rfl⟩
 obtain⟨b,E⟩:∃b,x.may=b:=⟨_,rfl⟩
 obtain⟨c,W⟩:∃c,x.dr ty=c:=⟨_,rfl⟩
 have L:Hid (eO ty x=if a&&b then(if c then 0 else 12)else 1):=za (by rw[eO,J,E,W]);have HA:=za J;have G0:=za E;have SZ:=za W;rw[J]at C;rw[E]at K;obtain⟨A,cap,rfl,rfl,rfl,rfl,_⟩:=H.open_;obtain⟨A',aq,rfl,rfl,rfl,_⟩:=I.open_;generalize eO ty x=R at*;generalize ty.kind=ki at*;generalize ty.size=si at*;generalize ty.tail=ta at*;clear J E W H I q m1 m2;cases a with
 |false=>
  have r:Hid (R=1):=za (by rw[L.out];rfl);go_enter func143,ntmps143
  go_wp2_with fail
  rw[U.out];refine C.out.mono ?_;rintro e F ⟨rfl,j⟩;go_wp2;go_ret;exact⟨by rw[r.out];rfl,z.out.trans (j.mono (by omega))⟩
 |true=>
  cases b with
  |false=>
   have r:Hid (R=1):=za (by rw[L.out];rfl);go_enter func143,ntmps143
   go_wp2_with fail
   rw[U.out];refine C.out.mono ?_;rintro e F ⟨rfl,j⟩;obtain⟨g0,g1,g2,_,_,_⟩:=a8 (N.out.ag j (by omega));have S:=j.size;go_wp2_with fail
   refine(K.out F (j.mono (by omega))).mono ?_;rintro e d ⟨rfl,y⟩;go_wp2;go_ret;exact⟨by rw[r.out];rfl,z.out.trans ((j.trans (y.mono S)).mono (by omega))⟩
  |true=>
   have r:Hid (R=if c then 0 else 12):=za (by rw[L.out];rfl);go_enter func143,ntmps143
   go_wp2_with fail
   rw[U.out];refine C.out.mono ?_;rintro e F ⟨rfl,j⟩;obtain⟨g0,g1,g2,_,_,_⟩:=a8 (N.out.ag j (by omega));have S:=j.size;go_wp2_with fail
   refine(K.out F (j.mono (by omega))).mono ?_;rintro e d ⟨rfl,y⟩;have cE:=y.size;have ee:Hid (Below (w.heap.size+2) k d):=za ((j.trans (y.mono S)).mono (by omega));clear g0 g1 g2 j y;go_wp2_with fail
   refine(T2 d).mono ?_;rintro e w3 ⟨rfl,rfl⟩;obtain⟨i,o⟩:∃i,((d.alloc (.map Ol.toArray 5)).alloc (.cells #[.map (some d.heap.size)] 217)).alloc (.cells #[.func (.func 169) #[] #[.pointer (some ⟨d.heap.size+1,0,none⟩),.pointer (some ⟨d.heap.size+1+1,0,none⟩)]] 95)=i:=⟨_,rfl⟩
   have DL:i.heap.size=d.heap.size+3:=by rw[<-o];simp
   have jB:Below d.heap.size d i:=by rw[<-o];exact(((zm _ _).alloc (zg _) _).alloc (by simp) _).alloc (by simp;omega) _
   have aa:Hid (FV i (d.heap.size+1) (d.heap.size+1+1) d.heap.size):=za (by
    rw[<-o];refine⟨?_, ?_, ?_⟩
    ·have:=(af.new (d.alloc (.map Ol.toArray 5)) 217 #[.map (some d.heap.size)])
     rw[zq]at this;exact this.alloc _
    ·have:=af.new ((d.alloc (.map Ol.toArray 5)).alloc (.cells #[.map (some d.heap.size)] 217)) 95 #[.func (.func 169) #[] #[.pointer (some ⟨d.heap.size+1,0,none⟩),.pointer (some ⟨d.heap.size+1+1,0,none⟩)]];rw[zq,zq]at this;exact this
    have h3:(d.alloc (.map Ol.toArray 5)).heap[d.heap.size]?=some (.map Ol.toArray 5):=yR d _;rw[Zx _ _ _ (by simp;omega),Zx _ _ _ (by simp)];exact h3)
   have G:Hid (Below (w.heap.size+2) k i):=za (ee.out.trans (jB.mono (by omega)));have O:Below B w i:=(z.out.mono M).trans (G.out.mono (by omega));obtain⟨_,_,Ab⟩:=O7 HA.out;have Z:x.right=true:=by
    have h:=G0.out;unfold It.may at h;simp only[zy]at h;exact h.1.1
   have HF:=za (T' x B i _ _ _ (HI.out.below O) (by omega) Z ty _ _ _ _ (HT.out.below O) Ab _ _ _ aa.out);rw[SZ.out]at HF;have rr:=za o;have n1:=fQ.out.ag G.out (by omega);have n2:=N.out.ag G.out (by omega);have q0:i.cell? ⟨w.heap.size,0,none⟩=some (.int .i64 ki):=n1.cell 0;have q1:i.cell? ⟨w.heap.size,1,none⟩=some (.int .i64 si):=n1.cell 1;have q2:i.cell? ⟨w.heap.size,2,none⟩=some (.slice A ty.sub.length cap):=n1.cell 2;have q3:i.cell? ⟨w.heap.size,3,none⟩=some (.int .i64 ta):=n1.cell 3;have r0:i.cell? ⟨w.heap.size+1,0,none⟩=some (.string x.text):=n2.cell 0;have r1:i.cell? ⟨w.heap.size+1,1,none⟩=some (.bool x.list):=n2.cell 1;have r2:i.cell? ⟨w.heap.size+1,2,none⟩=some (.slice A' x.sub.length aq):=n2.cell 2;have l0:w.heap.size<d.heap.size:=by omega
   have l1:w.heap.size+1<d.heap.size:=by omega
   rw[<-o]at q0 q1 q2 q3 r0 r1 r2;clear o jB O Ab Z n1 n2;go_wp2_with fail
   rw[rr.out];refine HF.out.mono ?_;rintro e w6 ⟨rfl,pK⟩;have Y:Hid (Below w.heap.size w w6):=za (z.out.trans ((G.out.mono (by omega)).trans (pK.mono (by omega))));clear pK;cases c with
   |true=>
    go_wp2;go_ret;exact⟨by rw[r.out];rfl,Y.out⟩
   |false=>
    go_wp2;go_ret;exact⟨by rw[r.out];rfl,Y.out⟩
theorem Nj (x:It)(B:Nat)(w:World)(c d b:Value)(h:dX w B x c d b)(m:B<=w.heap.size)(k:x.may=true)(l:x.right=true):
 Calls prog 153 #[.agg #[c,d,b]] w fun e w'=>e= .returned (.int .i64 x.count)/\Below w.heap.size w w':=by
 have i:=za (I5 x B (w.alloc (.cells #[c,d,b] 28)) c d b (h.below (blm m)) (by simp;omega) _ (.inr ⟨rfl,l⟩));have j:oR x= .tuple #[.int .i64 x.count,.int .i64 x.deep,.bool true]:=by unfold oR;rw[k];rfl
 rw[j]at i;obtain⟨A,cap,rfl,rfl,rfl,_⟩:=h.open_;clear h j;generalize x.deep=D at*;generalize x.count=R at*;go_enter func153,ntmps153
 go_wp2_with fail
 refine i.out.mono ?_;rintro e o ⟨rfl,n⟩;go_wp2;go_ret;exact⟨rfl,(yQ (zm _ _) (zg _) _).trans (n.mono (by simp))⟩
theorem I' (h:∀b r,aL 8 l=some (b,r)->ej 64 b):cS l=none:=by
 unfold cS;split
 ·rename_i x hx
  rw[(h x [] hx).may];rfl
 rfl
theorem FO {r:List UInt8}(h:aL 8 l=some (t,r))(b:r≠ []):cS l=none:=by
 unfold cS;rw[h];cases r with
 |nil=>exact absurd rfl b
 |cons c r=>rfl
theorem wj (h:aL 8 l=some (t,[])):cS l=if t.may=true then some t else none:=by
 unfold cS;rw[h]
theorem Ua (s:ByteArray)(w:World)(hs:s.size<=100000)(O:Laid w):
 Calls prog 124 #[.string s] w fun e w'=>Fq w (cS s.data.toList) e w':=by
 have Z:=za (FD 8 1 rfl (w.heap.size+1) s 0 64 ((w.alloc (.cells #[.int .i64 0,.int .i64 0,.slice none 0 0,.int .i64 0] 43)).alloc (.cells #[.string s,.int .i64 0,.int .i64 64] 205)) (af.at_ (by simp)) (yk _) hs (zg _));have U:=(af.new w 43 #[.int .i64 0,.int .i64 0,.slice none 0 0,.int .i64 0]).alloc (.cells #[.string s,.int .i64 0,.int .i64 64] 205);have Y:=((zm w.heap.size w).alloc (zg _) (.cells #[.int .i64 0,.int .i64 0,.slice none 0 0,.int .i64 0] 43)).alloc (by simp) (.cells #[.string s,.int .i64 0,.int .i64 64] 205);have eX:((w.alloc (.cells #[.int .i64 0,.int .i64 0,.slice none 0 0,.int .i64 0] 43)).alloc (.cells #[.string s,.int .i64 0,.int .i64 64] 205)).heap.size=w.heap.size+2:=by simp
 generalize I:((w.alloc (.cells #[.int .i64 0,.int .i64 0,.slice none 0 0,.int .i64 0] 43)).alloc (.cells #[.string s,.int .i64 0,.int .i64 64] 205))=W0 at*;have HW:=za I;have ad:=za U;have An:=za Y;have gB:=O.pos;obtain⟨R,u⟩:∃R,Hid (cS s.data.toList=R):=⟨_,za rfl⟩
 rw[u.out];clear I U Y;go_enter func124,ntmps124
 go_wp2_with fail
 rw[HW.out];refine Z.out.mono ?_;rintro e r ⟨t,ok,q,L1,k,z,x,A,n,cap,rfl,C,D,ah,l,B⟩;have W:=za (ad.out.only D (by simp));have y:Hid (Below w.heap.size w r):=za (An.out.trans (D.below (by omega) (by simp)));obtain⟨j,b,d,i,J,F,K,M⟩:=aS W.out;have g1:=C.cells.2.1;have sA:w.heap.size+1<r.heap.size:=C.cells.2.2.2.2.2.2;have G:w.heap.size<r.heap.size:=by omega
 clear Z D C;cases ok with
 |false=>
  have c:Hid (R=none):=za (by rw[<-u.out];exact I' (fun t' ab h=>l.2.1 rfl t' ab (by rw[zL];exact h)));clear l B;go_wp2;refine zj (v:= .tuple #[.agg #[.int .i64 0,.int .i64 0,.slice none 0 0,.int .i64 0],.int .i64 3]) (by simp[results,Yf,go_sem,j,b,d,i,zA,G]) rfl ?_;rw[c.out];exact⟨(((((y.out.setCell (by simp) _).setCell (by simp) _).setCell (by simp) _).setCell (by simp) _).alloc (by simp[World.setCell];omega) _),rfl⟩
 |true=>
  obtain⟨o,_,_⟩:=l.1 rfl;have ag:=l.2.2;rw[zL]at o;by_cases X:q=s.size
  ·subst X;have n1:((s.size:Int) !=(s.size:Int))=false:=by simp
   rw[zH (by rw[aa];exact zg _)]at o;have E:=wj o;have S:=za (B rfl);have HM:=za (kB t _ (r.alloc (.cells #[.int .i64 k,.int .i64 z,.slice A n cap,.int .i64 x] 43)) _ _ _ _ ((S.out.below ((zm _ _).alloc (zg _) _)).Fg) (zg _) (O.below (y.out.alloc (by omega) _) gB));rw[u.out]at E;generalize t.may=m at*;have c:=za E;clear o E l B u;go_wp2_with fail
   refine HM.out.mono ?_;rintro e N ⟨rfl,p⟩;have DL:=p.size;simp only[zq]at DL;clear j b d i J F K M;obtain⟨j,b,d,i,J,F,K,M⟩:=aS ((W.out.alloc _).ag p (by simp;omega));obtain⟨b0,b1,b2,b3,kO,kP,kQ,kR⟩:=aS ((af.new r 43 #[.int .i64 k,.int .i64 z,.slice A n cap,.int .i64 x]).ag p (by simp));have H:Hid (Below w.heap.size w N):=za ((y.out.alloc (by omega) _).trans (p.mono (by simp;omega)));have G1:=za ((S.out.below ((zm _ _).alloc (zg _) (.cells #[.int .i64 k,.int .i64 z,.slice A n cap,.int .i64 x] 43))).below p);clear p;cases m with
   |true=>
    go_wp2;refine zj (v:= .tuple #[.agg #[.int .i64 k,.int .i64 z,.slice A n cap,.int .i64 x],.int .i64 0]) (by simp[results,Yf,go_sem,j,b,d,i]) rfl ?_;rw[c.out,zi (by first|rfl|trivial)];exact⟨(((H.out.setCell (by simp) _).setCell (by simp) _).setCell (by simp) _).setCell (by simp) _,_,_,_,_,rfl,G1.out.only (L:= [w.heap.size]) (((((ae.refl _ N).setCell (by simp) _).setCell (by simp) _).setCell (by simp) _).setCell (by simp) _) (by simp;omega) (fun k _ hk=>by have hk:W0.heap.size<=k:=hk;show w.heap.size<=k;omega)⟩
   |false=>
    go_wp2;refine zj (v:= .tuple #[.agg #[.int .i64 0,.int .i64 0,.slice none 0 0,.int .i64 0],.int .i64 3]) (by simp[results,Yf,go_sem,j,b,d,i]) rfl ?_;rw[c.out,zh (by simp)];exact⟨(((H.out.setCell (by simp) _).setCell (by simp) _).setCell (by simp) _).setCell (by simp) _,rfl⟩
  have n1:((q:Int) !=(s.size:Int))=true:=yz.2 (by omega);have c:Hid (R=none):=za (by
   rw[<-u.out];refine FO o (fun h0=> ?_);have:=xo List.length h0;simp only[zK,aa,zJ]at this;omega)
  clear l B o X;go_wp2;refine zj (v:= .tuple #[.agg #[.int .i64 0,.int .i64 0,.slice none 0 0,.int .i64 0],.int .i64 3]) (by simp[results,Yf,go_sem,j,b,d,i,zA,G]) rfl ?_;rw[c.out];exact⟨(((((y.out.setCell (by simp) _).setCell (by simp) _).setCell (by simp) _).setCell (by simp) _).alloc (by simp[World.setCell];omega) _),rfl⟩
