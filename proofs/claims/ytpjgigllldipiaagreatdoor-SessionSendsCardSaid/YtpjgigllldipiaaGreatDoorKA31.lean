/- Package typed: Fits. -/
import Derived.Test.YtpjgigllldipiaaGreatDoorKA28
import Derived.Test.YtpjgigllldipiaaGreatDoorKA25
set_option linter.all false
set_option maxRecDepth 100000
set_option maxHeartbeats 3200000
namespace Go.Proofs.YtpjgigllldipiaaGreatDoor
open Go.RowKit
def Yk:=@Tryz.ntmps129
def Ys:=@Tryz.func129
def P5 (k:Int)(i j:Nat):Prop:=(k=4/\j=0)\/(k≠4/\j=i)
theorem FD (k z A:Int)(b o n cap i j:Nat)(h p m:Int)(c:Option Addr)(d l:Nat)(w:World)(y:P5 k i j)(E:j<n)(B:n<=9223372036854775807)(C:b<w.heap.size)
 (u:w.cell? ⟨b,o+j*4,none⟩=some (.int .i64 h)) (r:w.cell? ⟨b,o+j*4+1,none⟩=some (.int .i64 p)) (s:w.cell? ⟨b,o+j*4+2,none⟩=some (.slice c d l)) (x:w.cell? ⟨b,o+j*4+3,none⟩=some (.int .i64 m)):
 Calls Tryz.prog 130 #[.agg #[.int .i64 k,.int .i64 z,.slice (some ⟨b,o,none⟩) n cap,.int .i64 A],.int .i64 i] w fun e w'=>e= .returned (.agg #[.int .i64 h,.int .i64 p,.slice c d l,.int .i64 m])/\Below w.heap.size w w':=by
 rcases y with⟨rfl,rfl⟩|⟨q,rfl⟩
 ·simp only[Nat.zero_mul,xp]at u r s x;go_enter Tryz.func130,Tryz.ntmps130
  go_wp2;refine zp (v:= .agg #[.int .i64 h,.int .i64 p,.slice c d l,.int .i64 m]) (by simp[results,Tryz.results130,go_sem]) rfl ⟨rfl, ?_⟩;first|exact bM|trace_state
 have D:(k==4)=false:=zr.2 q;clear q;go_enter Tryz.func130,Tryz.ntmps130
 go_wp2;refine zp (v:= .agg #[.int .i64 h,.int .i64 p,.slice c d l,.int .i64 m]) (by simp[results,Tryz.results130,go_sem]) rfl ⟨rfl, ?_⟩;first|exact bM|trace_state
def N2 (k:Int)(i:Nat):Nat:=if k=4 then 0 else i
structure FV (w:World)(ob fb g:Nat):Prop where
 of_:af w ob 171 #[.map (some g)]
 fn:af w fb 173 #[.func (.func 129) #[] #[.pointer (some ⟨ob,0,none⟩),.pointer (some ⟨fb,0,none⟩)]]
 mp:w.heap[g]?=some (.map N1.toArray 5)
theorem FV.ag {w w':World}{d b g B:Nat}(h:FV w d b g)(c:Below B w w')(i:d<B)(e:b<B)(j:g<B):FV w' d b g:=⟨h.of_.ag c i,h.fn.ag c e,(c.block g j).trans h.mp⟩
theorem FV.lt {w:World}{c b g:Nat}(h:FV w c b g):c<w.heap.size/\b<w.heap.size/\g<w.heap.size:=⟨h.of_.lt,h.fn.lt,y7 h.mp⟩
theorem FV.below {w w':World}{c b g:Nat}(h:FV w c b g)(d:Below w.heap.size w w'):FV w' c b g:=h.ag d h.lt.1 h.lt.2.1 h.lt.2.2
theorem abJ (z:Int)(l:List Ty)(d:Int)(c:ByteArray)(b:Bool)(m:Nat):(!b&&decide ((c.size:Int)<=z)&& !gj c.data.toList)=nR (Ty.mk 1 z l d) c b m:=rfl
theorem abK (z:Int)(l:List Ty)(d:Int)(c:ByteArray)(b:Bool)(m:Nat):(!b&&decide ((c.size:Int)=z))=nR (Ty.mk 2 z l d) c b m:=rfl
theorem abL (z:Int)(l:List Ty)(d:Int)(c:ByteArray)(b:Bool)(m:Nat):(!b&&decide ((c.size:Int)<=z))=nR (Ty.mk 3 z l d) c b m:=rfl
theorem abM (z:Int)(l:List Ty)(d:Int)(c:ByteArray)(b:Bool)(m:Nat):(b&&decide ((m:Int)<=z))=nR (Ty.mk 4 z l d) c b m:=rfl
theorem abN (z:Int)(l:List Ty)(c:Int)(d:ByteArray)(b:Bool)(m:Nat):(b&&decide (m<=l.length)&&decide ((l.length:Int)-c<=m))=nR (Ty.mk 5 z l c) d b m:=rfl
theorem vF {k z:Int}{l:List Ty}{i:Int}{c:ByteArray}{b:Bool}{s:List It}(h:nR (Ty.mk k z l i) c b s.length=true)(d:(It.mk c b s).right=true)(j:k=1\/k=2\/k=3):s= []:=by
 have e:b=false:=by
  cases b with
  |false=>rfl
  |true=>rcases j with rfl|rfl|rfl<;>simp[nR]at h
 subst e;simp only[It.right,zF]at d;exact zt (by simpa[formed]using d.1)
theorem Tz :∀(x:It) (B:Nat) (w:World) (c0 c1 c2:Value),bW w B x c0 c1 c2->B<=w.heap.size->x.right=true->∀(ty:Ty) (t0 t1 t2 t3:Value),cw w B ty t0 t1 t2 t3->ty.right=true->∀M S g,FV w M S g->
 Calls Tryz.prog 129 #[.agg #[t0,t1,t2,t3],.agg #[c0,c1,c2],.pointer (some ⟨M,0,none⟩),.pointer (some ⟨S,0,none⟩)] w fun e w'=>e= .returned (.bool (x.dj ty))/\Below w.heap.size w w':=by
 intro x;induction x using It.ind with
 |h t l s ih=>
  intro B w c0 c1 c2 h hB hr ty t0 t1 t2 t3 hT qM M S g n;obtain⟨rfl,rfl,ht,hs,A,cap,rfl,nW,lM,dx⟩:=h;have IH:=za ih;have HS:=za dx;clear ih dx;obtain⟨k,z,d,G⟩:=ty;obtain⟨rfl,rfl,rfl,hk,hz,nN,qJ,K,u,rfl,ak,aj,Re⟩:=hT;obtain⟨bC,Dx⟩:=ju qM;have Gs:=za hr;have Dw:=za Re;have ai:=za Dx;have HR:Hid ((It.mk t l s).dj (Ty.mk k z d G)=(nR (Ty.mk k z d G) t l s.length&&cR s (Ty.mk k z d G) 0)):=za (by simp only[It.dj]);generalize (It.mk t l s).dj (Ty.mk k z d G)=R at*;unfold l9 at hk hz nN;clear hr Re Dx qM;rcases lu bC with⟨rfl,h3,hn,rfl⟩|⟨rfl,h3,h4,hn,rfl⟩|⟨rfl,h3,h4,hn,rfl⟩|⟨rfl,h3,h4,hn,rfl⟩|⟨rfl,rfl,h4,h5,h6⟩
  ·skip
   clear bC IH HS hn;have W:=za (mZ (w:=((w.alloc (.cells #[.int .i64 1,.int .i64 z,.slice K d.length u,.int .i64 0] 64)).alloc (.cells #[.string t,.bool l,.slice A s.length cap] 28))) (es:=N1) (c:=5) (((n.below ((zq _ _).alloc (zi _) _)).below ((zq _ _).alloc (zi _) _)).mp) 1 _ _ rfl);have Y:=W.out;simp only[lT,jE,kr,qc,j9]at Y;have hf:∀w,(Instr.field 176 (.agg #[.func (.func 165) #[] #[],.func (.func 163) #[] #[]]) 0).run Tryz.prog w= .ok (.func (.func 165) #[] #[]) w:=fun _=>by kernel_rfl
   have Uh:w.cell? ⟨M,0,none⟩=some (.map (some g)):=n.of_.cell 0;have Cg:=n.lt.1;obtain⟨I,X⟩:∃I,nR (Ty.mk 1 z d 0) t l s.length=I:=⟨_,rfl⟩
   have E:=za X;have HV:=za n;clear X n W;go_enter Ys,Yk
   go_wp2_with fail
   refine(WE 1 z 0 _ t l _ _ ht (by omega)).mono ?_;rintro e y ⟨rfl,C⟩;have D:=C;simp only[zu]at D;have H:Hid (Below w.heap.size w y):=za (((zq w.heap.size w).alloc (zi _) _|>.alloc (by simp) _).trans (D.mono (by omega)));have M1:Hid (af y w.heap.size 64 #[.int .i64 1,.int .i64 z,.slice K d.length u,.int .i64 0]):=za (((af.new w _ _).alloc _).only (ae.ah C (zi _)) (by simp));have M2:Hid (af y (w.heap.size+1) 28 #[.string t,.bool l,.slice A s.length cap]):=za ((show af _ (w.heap.size+1) _ _ from by have:=af.new (w.alloc (.cells #[.int .i64 1,.int .i64 z,.slice K d.length u,.int .i64 0] 64)) 28 #[.string t,.bool l,.slice A s.length cap];simpa using this).only (ae.ah C (zi _)) (by simp));have cc:=D.size;simp only[zu]at cc;clear C D Y Uh;rw[abJ z d 0 t l s.length,E.out];obtain⟨g0,g1,g2,_,_,_⟩:=a8 M2.out;cases I with
   |false=>
    have F:Hid (R=false):=za (by rw[HR.out,E.out];rfl);go_wp2;go_ret;exact⟨by rw[F.out];rfl,H.out⟩
   |true=>
    have AI:=vF E.out Gs.out (by first|exact .inl rfl|exact .inr (.inl rfl)|exact .inr (.inr rfl));have F:Hid (R=true):=za (by rw[HR.out,E.out,AI];rfl);have Rf:s.length=0:=by rw[AI];rfl
    clear AI;rw[Rf]at g2;go_wp2_with fail
    refine yi 1 ?_;rw[yw];go_wp2;go_ret;exact⟨by rw[F.out];rfl,H.out⟩
  ·skip
   clear bC IH HS hn;have W:=za (mZ (w:=((w.alloc (.cells #[.int .i64 2,.int .i64 z,.slice K d.length u,.int .i64 0] 64)).alloc (.cells #[.string t,.bool l,.slice A s.length cap] 28))) (es:=N1) (c:=5) (((n.below ((zq _ _).alloc (zi _) _)).below ((zq _ _).alloc (zi _) _)).mp) 2 _ _ rfl);have Y:=W.out;simp only[lT,jE,kr,qc,j9]at Y;have hf:∀w,(Instr.field 176 (.agg #[.func (.func 166) #[] #[],.func (.func 167) #[] #[]]) 0).run Tryz.prog w= .ok (.func (.func 166) #[] #[]) w:=fun _=>by kernel_rfl
   have Uh:w.cell? ⟨M,0,none⟩=some (.map (some g)):=n.of_.cell 0;have Cg:=n.lt.1;obtain⟨I,X⟩:∃I,nR (Ty.mk 2 z d 0) t l s.length=I:=⟨_,rfl⟩
   have E:=za X;have HV:=za n;clear X n W;go_enter Ys,Yk
   go_wp2_with fail
   refine(WG 2 z 0 K d.length u t l A s.length cap _ ht qJ hs (by omega) (by omega)).mono ?_;rintro e y ⟨rfl,C⟩;have D:=C;simp only[zu]at D;have H:Hid (Below w.heap.size w y):=za (((zq w.heap.size w).alloc (zi _) _|>.alloc (by simp) _).trans (D.mono (by omega)));have M1:Hid (af y w.heap.size 64 #[.int .i64 2,.int .i64 z,.slice K d.length u,.int .i64 0]):=za (((af.new w _ _).alloc _).only (ae.ah C (zi _)) (by simp));have M2:Hid (af y (w.heap.size+1) 28 #[.string t,.bool l,.slice A s.length cap]):=za ((show af _ (w.heap.size+1) _ _ from by have:=af.new (w.alloc (.cells #[.int .i64 2,.int .i64 z,.slice K d.length u,.int .i64 0] 64)) 28 #[.string t,.bool l,.slice A s.length cap];simpa using this).only (ae.ah C (zi _)) (by simp));have cc:=D.size;simp only[zu]at cc;clear C D Y Uh;rw[abK z d 0 t l s.length,E.out];obtain⟨g0,g1,g2,_,_,_⟩:=a8 M2.out;cases I with
   |false=>
    have F:Hid (R=false):=za (by rw[HR.out,E.out];rfl);go_wp2;go_ret;exact⟨by rw[F.out];rfl,H.out⟩
   |true=>
    have AI:=vF E.out Gs.out (by first|exact .inl rfl|exact .inr (.inl rfl)|exact .inr (.inr rfl));have F:Hid (R=true):=za (by rw[HR.out,E.out,AI];rfl);have Rf:s.length=0:=by rw[AI];rfl
    clear AI;rw[Rf]at g2;go_wp2_with fail
    refine yi 1 ?_;rw[yw];go_wp2;go_ret;exact⟨by rw[F.out];rfl,H.out⟩
  ·skip
   clear bC IH HS hn;have W:=za (mZ (w:=((w.alloc (.cells #[.int .i64 3,.int .i64 z,.slice K d.length u,.int .i64 0] 64)).alloc (.cells #[.string t,.bool l,.slice A s.length cap] 28))) (es:=N1) (c:=5) (((n.below ((zq _ _).alloc (zi _) _)).below ((zq _ _).alloc (zi _) _)).mp) 3 _ _ rfl);have Y:=W.out;simp only[lT,jE,kr,qc,j9]at Y;have hf:∀w,(Instr.field 176 (.agg #[.func (.func 169) #[] #[],.func (.func 163) #[] #[]]) 0).run Tryz.prog w= .ok (.func (.func 169) #[] #[]) w:=fun _=>by kernel_rfl
   have Uh:w.cell? ⟨M,0,none⟩=some (.map (some g)):=n.of_.cell 0;have Cg:=n.lt.1;obtain⟨I,X⟩:∃I,nR (Ty.mk 3 z d 0) t l s.length=I:=⟨_,rfl⟩
   have E:=za X;have HV:=za n;clear X n W;go_enter Ys,Yk
   go_wp2_with fail
   refine(WH 3 z 0 K d.length u t l A s.length cap _ ht qJ hs (by omega) (by omega)).mono ?_;rintro e y ⟨rfl,C⟩;have D:=C;simp only[zu]at D;have H:Hid (Below w.heap.size w y):=za (((zq w.heap.size w).alloc (zi _) _|>.alloc (by simp) _).trans (D.mono (by omega)));have M1:Hid (af y w.heap.size 64 #[.int .i64 3,.int .i64 z,.slice K d.length u,.int .i64 0]):=za (((af.new w _ _).alloc _).only (ae.ah C (zi _)) (by simp));have M2:Hid (af y (w.heap.size+1) 28 #[.string t,.bool l,.slice A s.length cap]):=za ((show af _ (w.heap.size+1) _ _ from by have:=af.new (w.alloc (.cells #[.int .i64 3,.int .i64 z,.slice K d.length u,.int .i64 0] 64)) 28 #[.string t,.bool l,.slice A s.length cap];simpa using this).only (ae.ah C (zi _)) (by simp));have cc:=D.size;simp only[zu]at cc;clear C D Y Uh;rw[abL z d 0 t l s.length,E.out];obtain⟨g0,g1,g2,_,_,_⟩:=a8 M2.out;cases I with
   |false=>
    have F:Hid (R=false):=za (by rw[HR.out,E.out];rfl);go_wp2;go_ret;exact⟨by rw[F.out];rfl,H.out⟩
   |true=>
    have AI:=vF E.out Gs.out (by first|exact .inl rfl|exact .inr (.inl rfl)|exact .inr (.inr rfl));have F:Hid (R=true):=za (by rw[HR.out,E.out,AI];rfl);have Rf:s.length=0:=by rw[AI];rfl
    clear AI;rw[Rf]at g2;go_wp2_with fail
    refine yi 1 ?_;rw[yw];go_wp2;go_ret;exact⟨by rw[F.out];rfl,H.out⟩
  ·clear bC;have hj:∀i:Nat,i<s.length->N2 4 i<d.length:=fun i _=>by show 0<d.length;omega
   have Sq:∀i:Nat,P5 4 i (N2 4 i):=fun i=> .inl ⟨rfl,rfl⟩
   have HJ:=za (fun(_:nR (Ty.mk 4 z d 0) t l s.length=true)=>hj);have ah:=za Sq;clear hj Sq hn;have W:=za (mZ (w:=((w.alloc (.cells #[.int .i64 4,.int .i64 z,.slice K d.length u,.int .i64 0] 64)).alloc (.cells #[.string t,.bool l,.slice A s.length cap] 28))) (es:=N1) (c:=5) (((n.below ((zq _ _).alloc (zi _) _)).below ((zq _ _).alloc (zi _) _)).mp) 4 _ _ rfl);have Y:=W.out;simp only[lT,jE,kr,qc,j9]at Y;have hf:∀w,(Instr.field 176 (.agg #[.func (.func 170) #[] #[],.func (.func 171) #[] #[]]) 0).run Tryz.prog w= .ok (.func (.func 170) #[] #[]) w:=fun _=>by kernel_rfl
   have Uh:w.cell? ⟨M,0,none⟩=some (.map (some g)):=n.of_.cell 0;have Cg:=n.lt.1;obtain⟨I,X⟩:∃I,nR (Ty.mk 4 z d 0) t l s.length=I:=⟨_,rfl⟩
   have E:=za X;have HV:=za n;clear X n W;go_enter Ys,Yk
   go_wp2_with fail
   refine(WI 4 z 0 K d.length u t l A s.length cap _ ht qJ hs (by omega) (by omega)).mono ?_;rintro e y ⟨rfl,C⟩;have D:=C;simp only[zu]at D;have H:Hid (Below w.heap.size w y):=za (((zq w.heap.size w).alloc (zi _) _|>.alloc (by simp) _).trans (D.mono (by omega)));have M1:Hid (af y w.heap.size 64 #[.int .i64 4,.int .i64 z,.slice K d.length u,.int .i64 0]):=za (((af.new w _ _).alloc _).only (ae.ah C (zi _)) (by simp));have M2:Hid (af y (w.heap.size+1) 28 #[.string t,.bool l,.slice A s.length cap]):=za ((show af _ (w.heap.size+1) _ _ from by have:=af.new (w.alloc (.cells #[.int .i64 4,.int .i64 z,.slice K d.length u,.int .i64 0] 64)) 28 #[.string t,.bool l,.slice A s.length cap];simpa using this).only (ae.ah C (zi _)) (by simp));have cc:=D.size;simp only[zu]at cc;clear C D Y Uh;rw[abM z d 0 t l s.length,E.out];obtain⟨g0,g1,g2,_,_,_⟩:=a8 M2.out;cases I with
   |false=>
    have F:Hid (R=false):=za (by rw[HR.out,E.out];rfl);go_wp2;go_ret;exact⟨by rw[F.out];rfl,H.out⟩
   |true=>
    have F:Hid (R=cR s (Ty.mk 4 z d 0) 0):=za (by rw[HR.out,E.out];rfl);have ab:=za (HJ.out E.out);have GL:=za (HV.out.below H.out);clear HJ HR;go_wp2_with fail
    go_loopw [21] (fun i wr=>∃m:Nat,m<=s.length/\i= .int .i64 m/\Hid (cR (s.take m) (Ty.mk 4 z d 0) 0=true)/\Below (w.heap.size+2) y wr) (fun i _=>s.length-(intOf i).toNat)
    case atStart=>exact⟨0,by omega,rfl,za (by simp[cR]),zq _ _⟩
    case round=>
     obtain⟨m,NG,rfl,hm,tV⟩:=hrel;have Z:=za tV;have U8:=tV.size;clear tV g0 g1 g2;obtain⟨g0,g1,g2,_,_,_⟩:=a8 (M2.out.ag Z.out (by omega));by_cases aD:m<s.length
     ·have Jr:=za (GL.out.ag Z.out (by have:=HV.out.lt;omega) (by have:=HV.out.lt;omega) (by have:=HV.out.lt;omega));have N:Below B w wr:=(H.out.mono hB).trans (Z.out.mono (by omega));obtain⟨b,o,d0,d1,d2,rfl,kf,e0,e1,e2,hi⟩:=HS.out.at_ m aD;simp only[zQ]at e0 e1 e2;replace e0:=(N.cell (p:=⟨b,o+m*3,none⟩) kf).trans e0;replace e1:=(N.cell (p:=⟨b,o+m*3+1,none⟩) kf).trans e1;replace e2:=(N.cell (p:=⟨b,o+m*3+2,none⟩) kf).trans e2;obtain⟨A3,nr,rfl,rfl,rfl,_⟩:=hi.open_;obtain⟨j,hj⟩:∃j,N2 4 m=j:=⟨_,rfl⟩
      have tZ:=ab.out m aD;have Sq:=ah.out m;rw[hj]at tZ Sq;have ag:=za Sq;obtain⟨L,o',f0,f1,f2,f3,rfl,lO,k0,k1,k2,k3,Dj⟩:=Dw.out.at_ j tZ;simp only[zQ]at k0 k1 k2 k3;have qA:Hid ((Ty.mk 4 z d 0).at m=d[j]):=za (by show(d[N2 4 m]?).getD (.mk 0 0 [] 0)=d[j];rw[hj,zD tZ];rfl);have Gi:=za (Dj.below N);obtain⟨A4,Dy,rfl,rfl,rfl,rfl,_⟩:=Dj.open_;obtain⟨q,cC⟩:∃q,wr.alloc (.cells #[.string s[m].text,.bool s[m].list,.slice A3 s[m].sub.length nr] 28)=q:=⟨_,rfl⟩
      have cL:Hid (Below wr.heap.size wr q):=za (by rw[<-cC];exact(zq _ wr).alloc (zi _) _);have AS:Hid (q.heap.size=wr.heap.size+1):=za (by rw[<-cC];simp);have Vf:Hid (af q wr.heap.size 28 #[.string s[m].text,.bool s[m].list,.slice A3 s[m].sub.length nr]):=za (by rw[<-cC];exact af.new wr _ _);have aa:=za cC;have AR:Hid (∀V,Below (wr.heap.size+1) q V->Below B w V/\Below (w.heap.size+2) y V/\wr.heap.size+1<=V.heap.size):=za (fun V n=>⟨N.trans ((cL.out.mono (by have:=N.size;omega)).trans (n.mono (by have:=N.size;omega))),Z.out.trans ((cL.out.mono (by omega)).trans (n.mono (by omega))),by have:=n.size;have:=AS.out;omega⟩);have U:Hid (∀V,Below (wr.heap.size+1) q V->V.cell? ⟨S,0,none⟩=some (.func (.func 129) #[] #[.pointer (some ⟨M,0,none⟩),.pointer (some ⟨S,0,none⟩)])/\
       V.cell? ⟨w.heap.size,0,none⟩=some (.int .i64 4)/\V.cell? ⟨w.heap.size,1,none⟩=some (.int .i64 z)/\V.cell? ⟨w.heap.size,2,none⟩=some (.slice (some ⟨L,o',none⟩) d.length u)/\V.cell? ⟨w.heap.size,3,none⟩=some (.int .i64 0)/\
       V.cell? ⟨wr.heap.size,0,none⟩=some (.string s[m].text)/\V.cell? ⟨wr.heap.size,1,none⟩=some (.bool s[m].list)/\V.cell? ⟨wr.heap.size,2,none⟩=some (.slice A3 s[m].sub.length nr)/\Below (wr.heap.size+1) q V):=za (fun V n=>by
       have J:=AR.out V n;have O:=Jr.out.lt;have m1:=((Jr.out.ag cL.out O.1 O.2.1 O.2.2).ag n (by omega) (by omega) (by omega)).fn.cell 0;have m2:=M1.out.ag J.2.1 (by omega);have m3:=Vf.out.ag n (by omega);exact⟨m1,m2.cell 0,m2.cell 1,m2.cell 2,m2.cell 3,m3.cell 0,m3.cell 1,m3.cell 2,n⟩)
      have ad:Hid (∀V,Below (wr.heap.size+1) q V->Calls Tryz.prog 130 #[.agg #[.int .i64 4,.int .i64 z,.slice (some ⟨L,o',none⟩) d.length u,.int .i64 0],.int .i64 m] V fun e w'=>e= .returned (.agg #[.int .i64 d[j].kind,.int .i64 d[j].size,.slice A4 d[j].sub.length Dy,.int .i64 d[j].tail])/\Below (wr.heap.size+1) q w'):=za (fun V n=>by
       have J:=AR.out V n;refine(FD 4 z 0 L o' d.length u m j _ _ _ A4 _ Dy V ag.out tZ qJ (by omega) ((J.1.cell (p:=⟨L,_,none⟩) lO).trans k0) ((J.1.cell (p:=⟨L,_,none⟩) lO).trans k1) ((J.1.cell (p:=⟨L,_,none⟩) lO).trans k2) ((J.1.cell (p:=⟨L,_,none⟩) lO).trans k3)).mono ?_;rintro e w' ⟨rfl,hx⟩;exact⟨rfl,n.trans (hx.mono (by omega))⟩)
      obtain⟨r,hr⟩:∃r,s[m].dj d[j]=r:=⟨_,rfl⟩
      have Ug:Hid (∀V,Below (wr.heap.size+1) q V->Calls Tryz.prog 129 #[.agg #[.int .i64 d[j].kind,.int .i64 d[j].size,.slice A4 d[j].sub.length Dy,.int .i64 d[j].tail],.agg #[.string s[m].text,.bool s[m].list,.slice A3 s[m].sub.length nr],.pointer (some ⟨M,0,none⟩),.pointer (some ⟨S,0,none⟩)] V fun e w'=>e= .returned (.bool r)/\Below (wr.heap.size+1) q w'):=za (fun V n=>by
       have J:=AR.out V n;have O:=Jr.out.lt;refine(IH.out _ (zM aD) B V _ _ _ (hi.below J.1) (by omega) (jv Gs.out m aD) d[j] _ _ _ _ (Dj.below J.1) (dP ai.out j tZ) M S g ((Jr.out.ag cL.out O.1 O.2.1 O.2.2).ag n (by omega) (by omega) (by omega))).mono ?_;rintro e w' ⟨rfl,hx⟩;exact⟨by rw[hr],n.trans (hx.mono (by omega))⟩)
      have Ob:Hid (s[m].dj ((Ty.mk 4 z d 0).at m)=r):=za (by rw[qA.out,hr]);clear hi Dj k0 k1 k2 k3 hj Sq hr cC Gi;go_wp2_with fail
      rw[aa.out];obtain⟨x0,x1,x2,x3,x4,x5,x6,x7,x8⟩:=U.out q (zq _ _);go_region_held3 (fun V=>V.cell? ⟨S,0,none⟩=some (.func (.func 129) #[] #[.pointer (some ⟨M,0,none⟩),.pointer (some ⟨S,0,none⟩)])/\
       V.cell? ⟨w.heap.size,0,none⟩=some (.int .i64 4)/\V.cell? ⟨w.heap.size,1,none⟩=some (.int .i64 z)/\V.cell? ⟨w.heap.size,2,none⟩=some (.slice (some ⟨L,o',none⟩) d.length u)/\V.cell? ⟨w.heap.size,3,none⟩=some (.int .i64 0)/\
       V.cell? ⟨wr.heap.size,0,none⟩=some (.string s[m].text)/\V.cell? ⟨wr.heap.size,1,none⟩=some (.bool s[m].list)/\V.cell? ⟨wr.heap.size,2,none⟩=some (.slice A3 s[m].sub.length nr)/\Below (wr.heap.size+1) q V)
       (first|exact U.out _ x8|exact U.out _ hv|exact U.out _ hv.drew|exact U.out _ x8.drew|exact U.out _ (by assumption)|exact U.out _ (Below.drew (by assumption)))
       (first|(go_at_call 130;((with_reducible refine(ad.out _ (by first|assumption|exact Below.drew (by assumption)|exact Below.bE (by assumption) _)).mono ?_);rintro e w' ⟨rfl,hv⟩))|(go_at_call 129;((with_reducible refine(Ug.out _ (by first|assumption|exact Below.drew (by assumption)|exact Below.bE (by assumption) _)).mono ?_);rintro e w' ⟨rfl,hv⟩)))
      all_goals
       have dU:Hid (Below (w.heap.size+2) y w'):=za (Z.out.trans ((cL.out.mono (by omega)).trans (hv.mono (by omega))));cases r with
       |true=>
        have HN:Hid (cR (s.take (m+1)) (Ty.mk 4 z d 0) 0=true):=za (by rw[oF aD,hm.out,Ob.out];rfl);go_wp2;go_roundw
        case rel=>exact⟨m+1,by omega,by go_num,HN,dU.out⟩
        case measure=>simp[intOf];omega
       |false=>
        have HN:Hid (cR s (Ty.mk 4 z d 0) 0=false):=za (ss aD Ob.out);go_wp2;go_ret;exact⟨by rw[F.out,HN.out];rfl,H.out.trans (dU.out.mono (by omega))⟩
     have eO:=hm.out;rw[zC (by omega)]at eO;have HM:=za eO;clear eO;go_wp2;go_ret;exact⟨by rw[F.out,HM.out];rfl,H.out.trans (Z.out.mono (by omega))⟩
  clear bC;have HJ:Hid (nR (Ty.mk 5 0 d G) t l s.length=true->∀i:Nat,i<s.length->N2 5 i<d.length):=za (fun h i hi=>by
   show i<d.length
   have h2:=Bool.and_eq_true_iff.1 h;have h3:=yn (Bool.and_eq_true_iff.1 h2.1).2;simp at h3;omega)
  have ah:Hid (∀i:Nat,P5 5 i (N2 5 i)):=za (fun i=> .inr ⟨by decide,rfl⟩);have W:=za (mZ (w:=((w.alloc (.cells #[.int .i64 5,.int .i64 0,.slice K d.length u,.int .i64 G] 64)).alloc (.cells #[.string t,.bool l,.slice A s.length cap] 28))) (es:=N1) (c:=5) (((n.below ((zq _ _).alloc (zi _) _)).below ((zq _ _).alloc (zi _) _)).mp) 5 _ _ rfl);have Y:=W.out;simp only[lT,jE,kr,qc,j9]at Y;have hf:∀w,(Instr.field 176 (.agg #[.func (.func 173) #[] #[],.func (.func 174) #[] #[]]) 0).run Tryz.prog w= .ok (.func (.func 173) #[] #[]) w:=fun _=>by kernel_rfl
  have Uh:w.cell? ⟨M,0,none⟩=some (.map (some g)):=n.of_.cell 0;have Cg:=n.lt.1;obtain⟨I,X⟩:∃I,nR (Ty.mk 5 0 d G) t l s.length=I:=⟨_,rfl⟩
  have E:=za X;have HV:=za n;clear X n W;go_enter Ys,Yk
  go_wp2_with fail
  refine(WJ 5 0 G K d.length u t l A s.length cap _ ht qJ hs (by omega) (by omega)).mono ?_;rintro e y ⟨rfl,C⟩;have D:=C;simp only[zu]at D;have H:Hid (Below w.heap.size w y):=za (((zq w.heap.size w).alloc (zi _) _|>.alloc (by simp) _).trans (D.mono (by omega)));have M1:Hid (af y w.heap.size 64 #[.int .i64 5,.int .i64 0,.slice K d.length u,.int .i64 G]):=za (((af.new w _ _).alloc _).only (ae.ah C (zi _)) (by simp));have M2:Hid (af y (w.heap.size+1) 28 #[.string t,.bool l,.slice A s.length cap]):=za ((show af _ (w.heap.size+1) _ _ from by have:=af.new (w.alloc (.cells #[.int .i64 5,.int .i64 0,.slice K d.length u,.int .i64 G] 64)) 28 #[.string t,.bool l,.slice A s.length cap];simpa using this).only (ae.ah C (zi _)) (by simp));have cc:=D.size;simp only[zu]at cc;clear C D Y Uh;rw[abN 0 d G t l s.length,E.out];obtain⟨g0,g1,g2,_,_,_⟩:=a8 M2.out;cases I with
  |false=>
   have F:Hid (R=false):=za (by rw[HR.out,E.out];rfl);go_wp2;go_ret;exact⟨by rw[F.out];rfl,H.out⟩
  |true=>
   have F:Hid (R=cR s (Ty.mk 5 0 d G) 0):=za (by rw[HR.out,E.out];rfl);have ab:=za (HJ.out E.out);have GL:=za (HV.out.below H.out);clear HJ HR;go_wp2_with fail
   go_loopw [21] (fun i wr=>∃m:Nat,m<=s.length/\i= .int .i64 m/\Hid (cR (s.take m) (Ty.mk 5 0 d G) 0=true)/\Below (w.heap.size+2) y wr) (fun i _=>s.length-(intOf i).toNat)
   case atStart=>exact⟨0,by omega,rfl,za (by simp[cR]),zq _ _⟩
   case round=>
    obtain⟨m,NG,rfl,hm,tV⟩:=hrel;have Z:=za tV;have U8:=tV.size;clear tV g0 g1 g2;obtain⟨g0,g1,g2,_,_,_⟩:=a8 (M2.out.ag Z.out (by omega));by_cases aD:m<s.length
    ·have Jr:=za (GL.out.ag Z.out (by have:=HV.out.lt;omega) (by have:=HV.out.lt;omega) (by have:=HV.out.lt;omega));have N:Below B w wr:=(H.out.mono hB).trans (Z.out.mono (by omega));obtain⟨b,o,d0,d1,d2,rfl,kf,e0,e1,e2,hi⟩:=HS.out.at_ m aD;simp only[zQ]at e0 e1 e2;replace e0:=(N.cell (p:=⟨b,o+m*3,none⟩) kf).trans e0;replace e1:=(N.cell (p:=⟨b,o+m*3+1,none⟩) kf).trans e1;replace e2:=(N.cell (p:=⟨b,o+m*3+2,none⟩) kf).trans e2;obtain⟨A3,nr,rfl,rfl,rfl,_⟩:=hi.open_;obtain⟨j,hj⟩:∃j,N2 5 m=j:=⟨_,rfl⟩
     have tZ:=ab.out m aD;have Sq:=ah.out m;rw[hj]at tZ Sq;have ag:=za Sq;obtain⟨L,o',f0,f1,f2,f3,rfl,lO,k0,k1,k2,k3,Dj⟩:=Dw.out.at_ j tZ;simp only[zQ]at k0 k1 k2 k3;have qA:Hid ((Ty.mk 5 0 d G).at m=d[j]):=za (by show(d[N2 5 m]?).getD (.mk 0 0 [] 0)=d[j];rw[hj,zD tZ];rfl);have Gi:=za (Dj.below N);obtain⟨A4,Dy,rfl,rfl,rfl,rfl,_⟩:=Dj.open_;obtain⟨q,cC⟩:∃q,wr.alloc (.cells #[.string s[m].text,.bool s[m].list,.slice A3 s[m].sub.length nr] 28)=q:=⟨_,rfl⟩
     have cL:Hid (Below wr.heap.size wr q):=za (by rw[<-cC];exact(zq _ wr).alloc (zi _) _);have AS:Hid (q.heap.size=wr.heap.size+1):=za (by rw[<-cC];simp);have Vf:Hid (af q wr.heap.size 28 #[.string s[m].text,.bool s[m].list,.slice A3 s[m].sub.length nr]):=za (by rw[<-cC];exact af.new wr _ _);have aa:=za cC;have AR:Hid (∀V,Below (wr.heap.size+1) q V->Below B w V/\Below (w.heap.size+2) y V/\wr.heap.size+1<=V.heap.size):=za (fun V n=>⟨N.trans ((cL.out.mono (by have:=N.size;omega)).trans (n.mono (by have:=N.size;omega))),Z.out.trans ((cL.out.mono (by omega)).trans (n.mono (by omega))),by have:=n.size;have:=AS.out;omega⟩);have U:Hid (∀V,Below (wr.heap.size+1) q V->V.cell? ⟨S,0,none⟩=some (.func (.func 129) #[] #[.pointer (some ⟨M,0,none⟩),.pointer (some ⟨S,0,none⟩)])/\
      V.cell? ⟨w.heap.size,0,none⟩=some (.int .i64 5)/\V.cell? ⟨w.heap.size,1,none⟩=some (.int .i64 0)/\V.cell? ⟨w.heap.size,2,none⟩=some (.slice (some ⟨L,o',none⟩) d.length u)/\V.cell? ⟨w.heap.size,3,none⟩=some (.int .i64 G)/\
      V.cell? ⟨wr.heap.size,0,none⟩=some (.string s[m].text)/\V.cell? ⟨wr.heap.size,1,none⟩=some (.bool s[m].list)/\V.cell? ⟨wr.heap.size,2,none⟩=some (.slice A3 s[m].sub.length nr)/\Below (wr.heap.size+1) q V):=za (fun V n=>by
      have J:=AR.out V n;have O:=Jr.out.lt;have m1:=((Jr.out.ag cL.out O.1 O.2.1 O.2.2).ag n (by omega) (by omega) (by omega)).fn.cell 0;have m2:=M1.out.ag J.2.1 (by omega);have m3:=Vf.out.ag n (by omega);exact⟨m1,m2.cell 0,m2.cell 1,m2.cell 2,m2.cell 3,m3.cell 0,m3.cell 1,m3.cell 2,n⟩)
     have ad:Hid (∀V,Below (wr.heap.size+1) q V->Calls Tryz.prog 130 #[.agg #[.int .i64 5,.int .i64 0,.slice (some ⟨L,o',none⟩) d.length u,.int .i64 G],.int .i64 m] V fun e w'=>e= .returned (.agg #[.int .i64 d[j].kind,.int .i64 d[j].size,.slice A4 d[j].sub.length Dy,.int .i64 d[j].tail])/\Below (wr.heap.size+1) q w'):=za (fun V n=>by
      have J:=AR.out V n;refine(FD 5 0 G L o' d.length u m j _ _ _ A4 _ Dy V ag.out tZ qJ (by omega) ((J.1.cell (p:=⟨L,_,none⟩) lO).trans k0) ((J.1.cell (p:=⟨L,_,none⟩) lO).trans k1) ((J.1.cell (p:=⟨L,_,none⟩) lO).trans k2) ((J.1.cell (p:=⟨L,_,none⟩) lO).trans k3)).mono ?_;rintro e w' ⟨rfl,hx⟩;exact⟨rfl,n.trans (hx.mono (by omega))⟩)
     obtain⟨r,hr⟩:∃r,s[m].dj d[j]=r:=⟨_,rfl⟩
     have Ug:Hid (∀V,Below (wr.heap.size+1) q V->Calls Tryz.prog 129 #[.agg #[.int .i64 d[j].kind,.int .i64 d[j].size,.slice A4 d[j].sub.length Dy,.int .i64 d[j].tail],.agg #[.string s[m].text,.bool s[m].list,.slice A3 s[m].sub.length nr],.pointer (some ⟨M,0,none⟩),.pointer (some ⟨S,0,none⟩)] V fun e w'=>e= .returned (.bool r)/\Below (wr.heap.size+1) q w'):=za (fun V n=>by
      have J:=AR.out V n;have O:=Jr.out.lt;refine(IH.out _ (zM aD) B V _ _ _ (hi.below J.1) (by omega) (jv Gs.out m aD) d[j] _ _ _ _ (Dj.below J.1) (dP ai.out j tZ) M S g ((Jr.out.ag cL.out O.1 O.2.1 O.2.2).ag n (by omega) (by omega) (by omega))).mono ?_;rintro e w' ⟨rfl,hx⟩;exact⟨by rw[hr],n.trans (hx.mono (by omega))⟩)
     have Ob:Hid (s[m].dj ((Ty.mk 5 0 d G).at m)=r):=za (by rw[qA.out,hr]);clear hi Dj k0 k1 k2 k3 hj Sq hr cC Gi;go_wp2_with fail
     rw[aa.out];obtain⟨x0,x1,x2,x3,x4,x5,x6,x7,x8⟩:=U.out q (zq _ _);go_region_held3 (fun V=>V.cell? ⟨S,0,none⟩=some (.func (.func 129) #[] #[.pointer (some ⟨M,0,none⟩),.pointer (some ⟨S,0,none⟩)])/\
      V.cell? ⟨w.heap.size,0,none⟩=some (.int .i64 5)/\V.cell? ⟨w.heap.size,1,none⟩=some (.int .i64 0)/\V.cell? ⟨w.heap.size,2,none⟩=some (.slice (some ⟨L,o',none⟩) d.length u)/\V.cell? ⟨w.heap.size,3,none⟩=some (.int .i64 G)/\
      V.cell? ⟨wr.heap.size,0,none⟩=some (.string s[m].text)/\V.cell? ⟨wr.heap.size,1,none⟩=some (.bool s[m].list)/\V.cell? ⟨wr.heap.size,2,none⟩=some (.slice A3 s[m].sub.length nr)/\Below (wr.heap.size+1) q V)
      (first|exact U.out _ x8|exact U.out _ hv|exact U.out _ hv.drew|exact U.out _ x8.drew|exact U.out _ (by assumption)|exact U.out _ (Below.drew (by assumption)))
      (first|(go_at_call 130;((with_reducible refine(ad.out _ (by first|assumption|exact Below.drew (by assumption)|exact Below.bE (by assumption) _)).mono ?_);rintro e w' ⟨rfl,hv⟩))|(go_at_call 129;((with_reducible refine(Ug.out _ (by first|assumption|exact Below.drew (by assumption)|exact Below.bE (by assumption) _)).mono ?_);rintro e w' ⟨rfl,hv⟩)))
     all_goals
      have dU:Hid (Below (w.heap.size+2) y w'):=za (Z.out.trans ((cL.out.mono (by omega)).trans (hv.mono (by omega))));cases r with
      |true=>
       have HN:Hid (cR (s.take (m+1)) (Ty.mk 5 0 d G) 0=true):=za (by rw[oF aD,hm.out,Ob.out];rfl);go_wp2;go_roundw
       case rel=>exact⟨m+1,by omega,by go_num,HN,dU.out⟩
       case measure=>simp[intOf];omega
      |false=>
       have HN:Hid (cR s (Ty.mk 5 0 d G) 0=false):=za (ss aD Ob.out);go_wp2;go_ret;exact⟨by rw[F.out,HN.out];rfl,H.out.trans (dU.out.mono (by omega))⟩
    have eO:=hm.out;rw[zC (by omega)]at eO;have HM:=za eO;clear eO;go_wp2;go_ret;exact⟨by rw[F.out,HM.out];rfl,H.out.trans (Z.out.mono (by omega))⟩
theorem IV (ty:Ty)(x:It)(B:Nat)(w:World)(q p r t3 l n m:Value)(J:cw w B ty q p r t3)(E:bW w B x l n m)(U:B<=w.heap.size)(hL:Laid w):
 Calls Tryz.prog 87 #[.agg #[q,p,r,t3],.agg #[l,n,m]] w fun e w'=>e= .returned (.int .i64 (eI ty x))/\Below w.heap.size w w':=by
 have eZ:=hL.pos;obtain⟨k,o⟩:∃k,(w.alloc (.cells #[q,p,r,t3] 64)).alloc (.cells #[l,n,m] 28)=k:=⟨_,rfl⟩
 have H:Below w.heap.size w k:=by rw[<-o];exact((zq _ w).alloc (zi _) _).alloc (by simp) _
 have eo:k.heap.size=w.heap.size+2:=by rw[<-o];simp
 have m1:af k w.heap.size 64 #[q,p,r,t3]:=by rw[<-o];exact(af.new w _ _).alloc _
 have m2:af k (w.heap.size+1) 28 #[l,n,m]:=by rw[<-o];have:=af.new (w.alloc (.cells #[q,p,r,t3] 64)) 28 #[l,n,m];simpa using this
 have G:=za (kd ty B k q p r t3 (J.below (H.mono U)) (by omega) (hL.below H eZ));have W:Hid (∀V,Below (w.heap.size+2) k V->Calls Tryz.prog 127 #[.agg #[l,n,m]] V fun e w'=>e= .returned (.bool x.may)/\Below V.heap.size V w'):=za (fun V X=>UU x B V l n m ((E.below (H.mono U)).below (X.mono (by omega))) (by have:=X.size;omega));have ga:=za m1;have N:=za m2;have D:=za H;have HT:=za J;have HI:=za E;have M:=za o;obtain⟨a,F⟩:∃a,ty.may=a:=⟨_,rfl⟩
 obtain⟨b,z⟩:∃b,x.may=b:=⟨_,rfl⟩
 obtain⟨c,S⟩:∃c,x.dj ty=c:=⟨_,rfl⟩
 have K:Hid (eI ty x=if a&&b then(if c then 0 else 12)else 1):=za (by rw[eI,F,z,S]);have HA:=za F;have GN:=za z;have Sn:=za S;rw[F]at G;rw[z]at W;obtain⟨A,cap,rfl,rfl,rfl,rfl,_⟩:=J.open_;obtain⟨A',aq,rfl,rfl,rfl,_⟩:=E.open_;generalize eI ty x=R at*;generalize ty.kind=ki at*;generalize ty.size=si at*;generalize ty.tail=ta at*;clear F z S J E o m1 m2;cases a with
 |false=>
  have s:Hid (R=1):=za (by rw[K.out];rfl);go_enter Tryz.func87,Tryz.ntmps87
  go_wp2_with fail
  rw[M.out];refine G.out.mono ?_;rintro e I ⟨rfl,j⟩;go_wp2;go_ret;exact⟨by rw[s.out];rfl,D.out.trans (j.mono (by omega))⟩
 |true=>
  cases b with
  |false=>
   have s:Hid (R=1):=za (by rw[K.out];rfl);go_enter Tryz.func87,Tryz.ntmps87
   go_wp2_with fail
   rw[M.out];refine G.out.mono ?_;rintro e I ⟨rfl,j⟩;obtain⟨g0,g1,g2,_,_,_⟩:=a8 (N.out.ag j (by omega));have L:=j.size;go_wp2_with fail
   refine(W.out I (j.mono (by omega))).mono ?_;rintro e d ⟨rfl,y⟩;go_wp2;go_ret;exact⟨by rw[s.out];rfl,D.out.trans ((j.trans (y.mono L)).mono (by omega))⟩
  |true=>
   have s:Hid (R=if c then 0 else 12):=za (by rw[K.out];rfl);go_enter Tryz.func87,Tryz.ntmps87
   go_wp2_with fail
   rw[M.out];refine G.out.mono ?_;rintro e I ⟨rfl,j⟩;obtain⟨g0,g1,g2,_,_,_⟩:=a8 (N.out.ag j (by omega));have L:=j.size;go_wp2_with fail
   refine(W.out I (j.mono (by omega))).mono ?_;rintro e d ⟨rfl,y⟩;have cA:=y.size;have dU:Hid (Below (w.heap.size+2) k d):=za ((j.trans (y.mono L)).mono (by omega));clear g0 g1 g2 j y;go_wp2_with fail
   refine(To d).mono ?_;rintro e w3 ⟨rfl,rfl⟩;obtain⟨i,u⟩:∃i,((d.alloc (.map N1.toArray 5)).alloc (.cells #[.map (some d.heap.size)] 171)).alloc (.cells #[.func (.func 129) #[] #[.pointer (some ⟨d.heap.size+1,0,none⟩),.pointer (some ⟨d.heap.size+1+1,0,none⟩)]] 173)=i:=⟨_,rfl⟩
   have D3:i.heap.size=d.heap.size+3:=by rw[<-u];simp
   have kn:Below d.heap.size d i:=by rw[<-u];exact(((zq _ _).alloc (zi _) _).alloc (by simp) _).alloc (by simp;omega) _
   have aa:Hid (FV i (d.heap.size+1) (d.heap.size+1+1) d.heap.size):=za (by
    rw[<-u];refine⟨?_, ?_, ?_⟩
    ·have:=(af.new (d.alloc (.map N1.toArray 5)) 171 #[.map (some d.heap.size)])
     rw[zu]at this;exact this.alloc _
    ·have:=af.new ((d.alloc (.map N1.toArray 5)).alloc (.cells #[.map (some d.heap.size)] 171)) 173 #[.func (.func 129) #[] #[.pointer (some ⟨d.heap.size+1,0,none⟩),.pointer (some ⟨d.heap.size+1+1,0,none⟩)]];rw[zu,zu]at this;exact this
    have h3:(d.alloc (.map N1.toArray 5)).heap[d.heap.size]?=some (.map N1.toArray 5):=yX d _;rw[ZL _ _ _ (by simp;omega),ZL _ _ _ (by simp)];exact h3)
   have C:Hid (Below (w.heap.size+2) k i):=za (dU.out.trans (kn.mono (by omega)));have O:Below B w i:=(D.out.mono U).trans (C.out.mono (by omega));obtain⟨_,_,Z⟩:=OP HA.out;have Y:x.right=true:=by
    have h:=GN.out;unfold It.may at h;simp only[zF]at h;exact h.1.1
   have HF:=za (Tz x B i _ _ _ (HI.out.below O) (by omega) Y ty _ _ _ _ (HT.out.below O) Z _ _ _ aa.out);rw[Sn.out]at HF;have qP:=za u;have n1:=ga.out.ag C.out (by omega);have n2:=N.out.ag C.out (by omega);have q0:i.cell? ⟨w.heap.size,0,none⟩=some (.int .i64 ki):=n1.cell 0;have q1:i.cell? ⟨w.heap.size,1,none⟩=some (.int .i64 si):=n1.cell 1;have q2:i.cell? ⟨w.heap.size,2,none⟩=some (.slice A ty.sub.length cap):=n1.cell 2;have q3:i.cell? ⟨w.heap.size,3,none⟩=some (.int .i64 ta):=n1.cell 3;have r0:i.cell? ⟨w.heap.size+1,0,none⟩=some (.string x.text):=n2.cell 0;have r1:i.cell? ⟨w.heap.size+1,1,none⟩=some (.bool x.list):=n2.cell 1;have r2:i.cell? ⟨w.heap.size+1,2,none⟩=some (.slice A' x.sub.length aq):=n2.cell 2;have l0:w.heap.size<d.heap.size:=by omega
   have l1:w.heap.size+1<d.heap.size:=by omega
   rw[<-u]at q0 q1 q2 q3 r0 r1 r2;clear u kn O Z Y n1 n2;go_wp2_with fail
   rw[qP.out];refine HF.out.mono ?_;rintro e w6 ⟨rfl,nP⟩;have wL:Hid (Below w.heap.size w w6):=za (D.out.trans ((C.out.mono (by omega)).trans (nP.mono (by omega))));clear nP;cases c with
   |true=>
    go_wp2;go_ret;exact⟨by rw[s.out];rfl,wL.out⟩
   |false=>
    go_wp2;go_ret;exact⟨by rw[s.out];rfl,wL.out⟩
theorem MP (x:It)(B:Nat)(w:World)(c b d:Value)(h:bW w B x c b d)(m:B<=w.heap.size)(k:x.may=true)(n:x.right=true):
 Calls Tryz.prog 97 #[.agg #[c,b,d]] w fun e w'=>e= .returned (.int .i64 x.count)/\Below w.heap.size w w':=by
 have j:=za (IQ x B (w.alloc (.cells #[c,b,d] 28)) c b d (h.below (blm m)) (by simp;omega) _ (.inr ⟨rfl,n⟩));have i:oh x= .tuple #[.int .i64 x.count,.int .i64 x.deep,.bool true]:=by unfold oh;rw[k];rfl
 rw[i]at j;obtain⟨A,cap,rfl,rfl,rfl,_⟩:=h.open_;clear h i;generalize x.deep=D at*;generalize x.count=R at*;go_enter Tryz.func97,Tryz.ntmps97
 go_wp2_with fail
 refine j.out.mono ?_;rintro e o ⟨rfl,l⟩;go_wp2;go_ret;exact⟨rfl,(yJ (zq _ _) (zi _) _).trans (l.mono (by simp))⟩
theorem IW {l:List UInt8}(h:∀b r,aK 8 l=some (b,r)->dY 64 b):cI l=none:=by
 unfold cI;split
 ·rename_i x hx
  rw[(h x [] hx).may];rfl
 rfl
theorem FE {l r:List UInt8}{t:Ty}(h:aK 8 l=some (t,r))(b:r≠ []):cI l=none:=by
 unfold cI;rw[h];cases r with
 |nil=>exact absurd rfl b
 |cons c r=>rfl
theorem vG {l:List UInt8}{t:Ty}(h:aK 8 l=some (t,[])):cI l=if t.may=true then some t else none:=by
 unfold cI;rw[h]
theorem TA (s:ByteArray)(w:World)(hs:s.size<=100000)(S:Laid w):
 Calls Tryz.prog 63 #[.string s] w fun e w'=>Fi w (cI s.data.toList) e w':=by
 have U:=za (FA 8 1 rfl (w.heap.size+1) s 0 64 ((w.alloc (.cells #[.int .i64 0,.int .i64 0,.slice none 0 0,.int .i64 0] 64)).alloc (.cells #[.string s,.int .i64 0,.int .i64 64] 150)) (af.at_ (by simp)) (yo _) hs (zi _));have X:=(af.new w 64 #[.int .i64 0,.int .i64 0,.slice none 0 0,.int .i64 0]).alloc (.cells #[.string s,.int .i64 0,.int .i64 64] 150);have G:=((zq w.heap.size w).alloc (zi _) (.cells #[.int .i64 0,.int .i64 0,.slice none 0 0,.int .i64 0] 64)).alloc (by simp) (.cells #[.string s,.int .i64 0,.int .i64 64] 150);have ej:((w.alloc (.cells #[.int .i64 0,.int .i64 0,.slice none 0 0,.int .i64 0] 64)).alloc (.cells #[.string s,.int .i64 0,.int .i64 64] 150)).heap.size=w.heap.size+2:=by simp
 generalize N:((w.alloc (.cells #[.int .i64 0,.int .i64 0,.slice none 0 0,.int .i64 0] 64)).alloc (.cells #[.string s,.int .i64 0,.int .i64 64] 150))=W0 at*;have HW:=za N;have ab:=za X;have wW:=za G;have eZ:=S.pos;obtain⟨R,u⟩:∃R,Hid (cI s.data.toList=R):=⟨_,za rfl⟩
 rw[u.out];clear N X G;go_enter Tryz.func63,Tryz.ntmps63
 go_wp2_with fail
 rw[HW.out];refine U.out.mono ?_;rintro e x ⟨t,ok,q,L1,k,z,B,A,n,cap,rfl,F,D,ad,o,C⟩;have Z:=za (ab.out.only D (by simp));have y:Hid (Below w.heap.size w x):=za (wW.out.trans (D.below (by omega) (by simp)));obtain⟨c,l,p,j,J,M,K,H⟩:=aL Z.out;have g1:=F.cells.2.1;have rR:w.heap.size+1<x.heap.size:=F.cells.2.2.2.2.2.2;have kJ:w.heap.size<x.heap.size:=by omega
 clear U D F;cases ok with
 |false=>
  have b:Hid (R=none):=za (by rw[<-u.out];exact IW (fun t' r h=>o.2.1 rfl t' r (by rw[zN];exact h)));clear o C;go_wp2;refine zp (v:= .tuple #[.agg #[.int .i64 0,.int .i64 0,.slice none 0 0,.int .i64 0],.int .i64 3]) (by simp[results,Tryz.results63,go_sem,c,l,p,j,zE,kJ]) rfl ?_;rw[b.out];exact⟨(((((y.out.setCell (by simp) _).setCell (by simp) _).setCell (by simp) _).setCell (by simp) _).alloc (by simp[World.setCell];omega) _),rfl⟩
 |true=>
  obtain⟨i,_,_⟩:=o.1 rfl;have ag:=o.2.2;rw[zN]at i;by_cases AP:q=s.size
  ·subst AP;have n1:((s.size:Int) !=(s.size:Int))=false:=by simp
   rw[zR (by rw[aa];exact zi _)]at i;have E:=vG i;have Y:=za (C rfl);have HM:=za (kd t _ (x.alloc (.cells #[.int .i64 k,.int .i64 z,.slice A n cap,.int .i64 B] 64)) _ _ _ _ ((Y.out.below ((zq _ _).alloc (zi _) _)).Aj) (zi _) (S.below (y.out.alloc (by omega) _) eZ));rw[u.out]at E;generalize t.may=m at*;have b:=za E;clear i E o C u;go_wp2_with fail
   refine HM.out.mono ?_;rintro e O ⟨rfl,d⟩;have D3:=d.size;simp only[zu]at D3;clear c l p j J M K H;obtain⟨c,l,p,j,J,M,K,H⟩:=aL ((Z.out.alloc _).ag d (by simp;omega));obtain⟨b0,b1,b2,b3,kC,kB,kz,kD⟩:=aL ((af.new x 64 #[.int .i64 k,.int .i64 z,.slice A n cap,.int .i64 B]).ag d (by simp));have I:Hid (Below w.heap.size w O):=za ((y.out.alloc (by omega) _).trans (d.mono (by simp;omega)));have GO:=za ((Y.out.below ((zq _ _).alloc (zi _) (.cells #[.int .i64 k,.int .i64 z,.slice A n cap,.int .i64 B] 64))).below d);clear d;cases m with
   |true=>
    go_wp2;refine zp (v:= .tuple #[.agg #[.int .i64 k,.int .i64 z,.slice A n cap,.int .i64 B],.int .i64 0]) (by simp[results,Tryz.results63,go_sem,c,l,p,j]) rfl ?_;rw[b.out,zl (by first|rfl|trivial)];exact⟨(((I.out.setCell (by simp) _).setCell (by simp) _).setCell (by simp) _).setCell (by simp) _,_,_,_,_,rfl,GO.out.only (L:= [w.heap.size]) (((((ae.refl _ O).setCell (by simp) _).setCell (by simp) _).setCell (by simp) _).setCell (by simp) _) (by simp;omega) (fun k _ W=>by have W:W0.heap.size<=k:=W;show w.heap.size<=k;omega)⟩
   |false=>
    go_wp2;refine zp (v:= .tuple #[.agg #[.int .i64 0,.int .i64 0,.slice none 0 0,.int .i64 0],.int .i64 3]) (by simp[results,Tryz.results63,go_sem,c,l,p,j]) rfl ?_;rw[b.out,zj (by simp)];exact⟨(((I.out.setCell (by simp) _).setCell (by simp) _).setCell (by simp) _).setCell (by simp) _,rfl⟩
  have n1:((q:Int) !=(s.size:Int))=true:=yP.2 (by omega);have b:Hid (R=none):=za (by
   rw[<-u.out];refine FE i (fun h0=> ?_);have:=xj List.length h0;simp only[zZ,aa,zO]at this;omega)
  clear o C i AP;go_wp2;refine zp (v:= .tuple #[.agg #[.int .i64 0,.int .i64 0,.slice none 0 0,.int .i64 0],.int .i64 3]) (by simp[results,Tryz.results63,go_sem,c,l,p,j,zE,kJ]) rfl ?_;rw[b.out];exact⟨(((((y.out.setCell (by simp) _).setCell (by simp) _).setCell (by simp) _).setCell (by simp) _).alloc (by simp[World.setCell];omega) _),rfl⟩
