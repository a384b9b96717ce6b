/- Package typed: Fits. -/
import Derived.Test.YtimoclkoflamkaaGreatDoorKA17
import Derived.Test.YtimoclkoflamkaaGreatDoorKA10
set_option linter.all false
set_option maxRecDepth 100000
set_option maxHeartbeats 3200000
open Go.Proofs.Tryz
namespace Go.Proofs.YtimoclkoflamkaaGreatDoor
open Go.RowKit
variable {w w':World}{g:Nat}{l:List UInt8}{k z:Int}{s:List It}{t:Ty}
def Qt (k:Int)(i j:Nat):Prop:=(k=4/\j=0)\/(k≠4/\j=i)
theorem Qu (k z r:Int)(b o n cap i j:Nat)(m p h:Int)(c:Option Addr)(d l:Nat)(w:World)(u:Qt k i j)(E:j<n)(D:n<=9223372036854775807)(B:b<w.heap.size)
 (x:w.cell? (b,o+j*4)=some (.int .i64 m)) (A:w.cell? (b,o+j*4+1)=some (.int .i64 p)) (s:w.cell? (b,o+j*4+2)=some (.slice c d l)) (y:w.cell? (b,o+j*4+3)=some (.int .i64 h)):
 Calls prog 151 #[.agg #[k,z,.slice (some (b,o)) n cap,r],i] w fun e w'=>e= .returned (.agg #[m,p,.slice c d l,h])/\(w,w'):=by
 rcases u with⟨rfl,rfl⟩|⟨q,rfl⟩
 ·simp only[Nat.zero_mul,xe]at x A s y;go_enter func151,ntmps151
  go_wp2;refine zl (v:= .agg #[m,p,.slice c d l,h]) (by simp[results,results151,go_sem]) rfl ⟨rfl, ?_⟩;first|exact bO|trace_state
 have C:(k==4)=false:=zp.2 q;clear q;go_enter func151,ntmps151
 go_wp2;refine zl (v:= .agg #[m,p,.slice c d l,h]) (by simp[results,results151,go_sem]) rfl ⟨rfl, ?_⟩;first|exact bO|trace_state
def T0 (k:Int)(i:Nat):Nat:=if k=4 then 0 else i
structure FV (w:World)(ob fb g:Nat):Prop where
 of_:ag w ob 199 #[.map (some g)]
 fn:ag w fb 201 #[.func (.func 150) #[] #[(ob,0),(fb,0)]]
 mp:w.heap[g]?=some (.map Xg.toArray 5)
theorem FV.ah {d c B:Nat}(h:FV w d c g)(b:Below B w w')(j:d<B)(e:c<B)(i:g<B):FV w' d c g:=⟨h.of_.ah b j,h.fn.ah b e,(b.block g i).trans h.mp⟩
theorem FV.lt {b c:Nat}(h:FV w b c g):b<w.heap.size/\c<w.heap.size/\g<w.heap.size:=⟨h.of_.lt,h.fn.lt,yJ h.mp⟩
theorem FV.below {b c:Nat}(h:FV w b c g)(d:Below w.heap.size w w'):FV w' b c g:=h.ah d h.lt.1 h.lt.2.1 h.lt.2.2
theorem aco (z:Int)(l:List Ty)(d:Int)(c:ByteArray)(b:Bool)(m:Nat):(!b&&decide ((c.size:Int)<=z)&& !gW c.data.toList)=qZ (Ty.mk 1 z l d) c b m:=rfl
theorem acp (z:Int)(l:List Ty)(d:Int)(c:ByteArray)(b:Bool)(m:Nat):(!b&&decide ((c.size:Int)=z))=qZ (Ty.mk 2 z l d) c b m:=rfl
theorem acq (z:Int)(l:List Ty)(d:Int)(c:ByteArray)(b:Bool)(m:Nat):(!b&&decide ((c.size:Int)<=z))=qZ (Ty.mk 3 z l d) c b m:=rfl
theorem acr (z:Int)(l:List Ty)(c:Int)(d:ByteArray)(b:Bool)(m:Nat):(b&&decide ((m:Int)<=z))=qZ (Ty.mk 4 z l c) d b m:=rfl
theorem acs (z:Int)(l:List Ty)(c:Int)(d:ByteArray)(b:Bool)(m:Nat):(b&&decide (m<=l.length)&&decide ((l.length:Int)-c<=m))=qZ (Ty.mk 5 z l c) d b m:=rfl
theorem wv {l:List Ty}{h:Int}{d:ByteArray}{b:Bool}(j:qZ (Ty.mk k z l h) d b s.length=true)(c:(It.mk d b s).right=true)(i:k=1\/k=2\/k=3):s= []:=by
 have e:b=false:=by
  cases b with
  |false=>rfl
  |true=>rcases i with rfl|rfl|rfl<;>simp[qZ]at j
 subst e;simp only[It.right,zy]at c;exact zo (by simpa[formed]using c.1)
theorem XI {c:List Ty}{j:Int}{l:ByteArray}{b:Bool}(n:fH k z c.length j=true)(e:(It.mk l b s).right=true)(d:qZ (Ty.mk k z c j) l b s.length=true)(i:Nat)(hi:i<s.length):T0 k i<c.length:=by
 rcases ka n with⟨h,_⟩|⟨h,_⟩|⟨h,_⟩|⟨rfl,_,_,o,_⟩|⟨rfl,rfl,_⟩
 ·rw[wv d e (.inl h)]at hi;cases hi
 ·rw[wv d e (.inr (.inl h))]at hi;cases hi
 ·rw[wv d e (.inr (.inr h))]at hi;cases hi
 ·show 0<c.length;omega
 show i<c.length
 have m:=yf (Bool.and_eq_true_iff.1 (Bool.and_eq_true_iff.1 d).1).2;simp at m;omega
theorem T1 :∀(x:It) (B:Nat) (w:World) (c0 c1 c2:Value),bI w B x c0 c1 c2->B<=w.heap.size->x.right=true->∀(ty:Ty) (t0 t1 t2 t3:Value),cq w B ty t0 t1 t2 t3->ty.right=true->∀L D g,FV w L D g->
 Calls prog 150 #[.agg #[t0,t1,t2,t3],.agg #[c0,c1,c2],(L,0),(D,0)] w fun e w'=>e= .returned (.bool (x.dy ty))/\(w,w'):=by
 intro x;induction x using It.ind with
 |h t l s ih=>
  intro B w c0 c1 c2 h hB K ty t0 t1 t2 t3 hT rj L D g m;obtain⟨rfl,rfl,ht,hs,A,cap,rfl,nH,kr,cY⟩:=h;have IH:=za ih;have HS:=za cY;clear ih cY;obtain⟨k,z,d,n⟩:=ty;obtain⟨rfl,rfl,rfl,hk,hz,oc,uC,G,u,rfl,aq,ar,RJ⟩:=hT;obtain⟨bE,DR⟩:=jB rj;have N2:=za K;have Ed:=za RJ;have al:=za DR;have HR:Hid ((It.mk t l s).dy (Ty.mk k z d n)=(qZ (Ty.mk k z d n) t l s.length&&dK s (Ty.mk k z d n) 0)):=za (by simp only[It.dy]);generalize (It.mk t l s).dy (Ty.mk k z d n)=R at*;unfold mu at hk hz oc;have aa:=za (XI bE K);have ah:Hid (∀i:Nat,Qt k i (T0 k i)):=za (fun i=>by unfold Qt T0;by_cases h:k=4<;>simp[h]);obtain⟨y,W⟩:=gL ((w.alloc (.cells #[k,z,.slice G d.length u,n] 70)).alloc (.cells #[t,l,.slice A s.length cap] 28));have aI:Below w.heap.size w y:=by rw[<-W];exact bO
  have cF:y.heap.size=w.heap.size+2:=by rw[<-W];simp
  have M1:Hid (ag y w.heap.size 70 #[k,z,.slice G d.length u,n]):=za (by rw[<-W];exact(ag.new _ _ _).alloc _);have M2:Hid (ag y (w.heap.size+1) 28 #[t,l,.slice A s.length cap]):=za (by rw[<-W];have:=ag.new (w.alloc (.cells #[k,z,.slice G d.length u,n] 70)) 28 #[t,l,.slice A s.length cap];simpa using this);obtain⟨b1,aL⟩:=gL (qZ (Ty.mk k z d n) t l s.length);rw[aL]at HR aa;have ak:=m.of_.cell 0;have Rq:=m.lt.1;have N:=za (m.below aI).mp;have ep:=za aI;have ad:=za cF;have HW:=za W;have HV:=za m;have UN:=za bE;have cO:=za aL;clear K RJ DR rj m W aI cF aL bE;go_enter func150,ntmps150
  go_upto_region 1 with fail
  go_cut [17] (fun v wx=>v= .bool (!b1)/\Hid (Below y.heap.size y wx))
  case first=>
   rcases ka UN.out with⟨rfl,h3,H,rfl⟩|⟨rfl,h3,h4,H,rfl⟩|⟨rfl,h3,h4,H,rfl⟩|⟨rfl,h3,h4,H,rfl⟩|⟨rfl,rfl,h4,h5,h6⟩;focus
    have HC:=za (Xb 1 z 0 (.slice G d.length u) t l (.slice A s.length cap) y ht (by omega));have hf:∀w,(Instr.field 204 (.agg #[.func (.func 184) #[] #[],.func (.func 182) #[] #[]]) 0).run prog w= .ok (.func (.func 184) #[] #[]) w:=fun _=>by kernel_rfl
    have C:=nw N.out 1 _ _ rfl;have Y:=(aco _ _ _ _ _ _).trans cO.out;simp only[l7,jK,ky,qv,kg]at C;clear H
   rotate_left
   focus
    have HC:=za (Xc 2 z 0 G d.length u t l A s.length cap y ht uC hs (by omega) (by omega));have hf:∀w,(Instr.field 204 (.agg #[.func (.func 185) #[] #[],.func (.func 186) #[] #[]]) 0).run prog w= .ok (.func (.func 185) #[] #[]) w:=fun _=>by kernel_rfl
    have C:=nw N.out 2 _ _ rfl;have Y:=(acp _ _ _ _ _ _).trans cO.out;simp only[l7,jK,ky,qv,kg]at C;clear H
   rotate_left
   focus
    have HC:=za (Xd 3 z 0 G d.length u t l A s.length cap y ht uC hs (by omega) (by omega));have hf:∀w,(Instr.field 204 (.agg #[.func (.func 188) #[] #[],.func (.func 182) #[] #[]]) 0).run prog w= .ok (.func (.func 188) #[] #[]) w:=fun _=>by kernel_rfl
    have C:=nw N.out 3 _ _ rfl;have Y:=(acq _ _ _ _ _ _).trans cO.out;simp only[l7,jK,ky,qv,kg]at C;clear H
   rotate_left
   focus
    have HC:=za (Xe 4 z 0 G d.length u t l A s.length cap y ht uC hs (by omega) (by omega));have hf:∀w,(Instr.field 204 (.agg #[.func (.func 189) #[] #[],.func (.func 190) #[] #[]]) 0).run prog w= .ok (.func (.func 189) #[] #[]) w:=fun _=>by kernel_rfl
    have C:=nw N.out 4 _ _ rfl;have Y:=(acr _ _ _ _ _ _).trans cO.out;simp only[l7,jK,ky,qv,kg]at C;clear H
   rotate_left
   focus
    have HC:=za (Xf 5 0 n G d.length u t l A s.length cap y ht uC hs (by omega) (by omega));have hf:∀w,(Instr.field 204 (.agg #[.func (.func 192) #[] #[],.func (.func 193) #[] #[]]) 0).run prog w= .ok (.func (.func 192) #[] #[]) w:=fun _=>by kernel_rfl
    have C:=nw N.out 5 _ _ rfl;have Y:=(acs _ _ _ _ _ _).trans cO.out;simp only[l7,jK,ky,qv,kg]at C
   rotate_left
   all_goals
    rw[<-HW.out]at C;go_wp2_with fail
    rw[HW.out];refine cm HC.out fun w1 hb=> ?_
    have U:=za hb;rw[Y];clear hb Y;go_wp2_with fail
    go_meet;case rel=>exact⟨rfl,U⟩
  case rest=>
   obtain⟨rfl,O⟩:=hcut;obtain⟨w1,kH⟩:=gL wc;rw[kH]at O⊢;have iB:=za (ep.out.trans (O.out.mono ep.out.size));replace M1:=za (M1.out.ah O.out M1.out.lt);replace M2:=za (M2.out.ah O.out M2.out.lt);have cw:=O.out.size;rw[ad.out]at cw;obtain⟨g0,g1,g2,_,_,_⟩:=bp M2.out;clear ak N HW ad O kH;cases b1 with
   |false=>
    have U:Hid (R=false):=za (by rw[HR.out];rfl);go_wp2;go_ret;exact⟨by rw[U.out];rfl,iB.out⟩
   |true=>
    have U:Hid (R=dK s (Ty.mk k z d n) 0):=za (by rw[HR.out];rfl);replace aa:=za (aa.out rfl);have Cn:=za (HV.out.below iB.out);clear HR;go_wp2_with fail
    go_loopw [21] (fun i wr=>∃c:Nat,c<=s.length/\i= .int .i64 c/\Hid (dK (s.take c) (Ty.mk k z d n) 0=true)/\Below (w.heap.size+2) w1 wr) (fun i _=>s.length-(intOf i).toNat)
    case atStart=>exact⟨0,by omega,rfl,za (by simp[dK]),zm _ _⟩
    case round=>
     obtain⟨c,Lv,rfl,hm,Cu⟩:=hrel;have S:=za Cu;have Sw:=Cu.size;clear Cu g0 g1 g2;obtain⟨g0,g1,g2,_,_,_⟩:=bp (M2.out.ah S.out (by omega));by_cases X:c<s.length
     ·have SD:=za (Cn.out.ah S.out (by have:=HV.out.lt;omega) (by have:=HV.out.lt;omega) (by have:=HV.out.lt;omega));have J:Below B w wr:=(iB.out.mono hB).trans (S.out.mono (by omega));obtain⟨b,o,d0,d1,d2,rfl,jY,e0,e1,e2,hi⟩:=HS.out.at_ c X;simp only[zJ]at e0 e1 e2;replace e0:=(J.cell (p:=(b,o+c*3)) jY).trans e0;replace e1:=(J.cell (p:=(b,o+c*3+1)) jY).trans e1;replace e2:=(J.cell (p:=(b,o+c*3+2)) jY).trans e2;obtain⟨Z,DD,rfl,rfl,rfl,_⟩:=hi.open_;obtain⟨j,hj⟩:∃j,T0 k c=j:=⟨_,rfl⟩
      have JU:=aa.out c X;have ab:=ah.out c;rw[hj]at JU ab;have ae:=za ab;obtain⟨F,o',f0,f1,f2,f3,rfl,qY,k0,k1,k2,k3,Lg⟩:=Ed.out.at_ j JU;simp only[zJ]at k0 k1 k2 k3;have Cq:Hid ((Ty.mk k z d n).at c=d[j]):=za (by show(d[T0 k c]?).getD (.mk 0 0 [] 0)=d[j];rw[hj,zA JU];rfl);have D8:=za (Lg.below J);obtain⟨A4,RK,rfl,rfl,rfl,rfl,_⟩:=Lg.open_;obtain⟨q,dS⟩:∃q,wr.alloc (.cells #[.string s[c].text,.bool s[c].list,.slice Z s[c].sub.length DD] 28)=q:=⟨_,rfl⟩
      have dw:Hid (wr,q):=za (by rw[<-dS];exact(zm _ wr).alloc (zd _) _);have DQ:Hid (q.heap.size=wr.heap.size+1):=za (by rw[<-dS];simp);have aj:Hid (ag q wr.heap.size 28 #[.string s[c].text,.bool s[c].list,.slice Z s[c].sub.length DD]):=za (by rw[<-dS];exact ag.new wr _ _);have ao:=za dS;have YM:Hid (∀V,Below (wr.heap.size+1) q V->Below B w V/\Below (w.heap.size+2) w1 V/\wr.heap.size+1<=V.heap.size):=za (fun V m=>⟨J.trans ((dw.out.mono (by have:=J.size;omega)).trans (m.mono (by have:=J.size;omega))),S.out.trans ((dw.out.mono (by omega)).trans (m.mono (by omega))),by have:=m.size;have:=DQ.out;omega⟩);have I:Hid (∀V,Below (wr.heap.size+1) q V->(V,D,0,Value.func (.func 150) #[] #[(L,0),(D,0)])/\
       (V,w.heap.size,0,k)/\(V,w.heap.size,1,z)/\(V,w.heap.size,2,Value.slice (some (F,o')) d.length u)/\(V,w.heap.size,3,n)/\
       (V,wr.heap.size,0,Value.string s[c].text)/\(V,wr.heap.size,1,Value.bool s[c].list)/\(V,wr.heap.size,2,Value.slice Z s[c].sub.length DD)/\Below (wr.heap.size+1) q V):=za (fun V m=>by
       have E:=YM.out V m;have M:=SD.out.lt;have m1:=((SD.out.ah dw.out M.1 M.2.1 M.2.2).ah m (by omega) (by omega) (by omega)).fn.cell 0;have m2:=M1.out.ah E.2.1 (by omega);have m3:=aj.out.ah m (by omega);exact⟨m1,m2.cell 0,m2.cell 1,m2.cell 2,m2.cell 3,m3.cell 0,m3.cell 1,m3.cell 2,m⟩)
      have af:Hid (∀V,Below (wr.heap.size+1) q V->Calls prog 151 #[.agg #[k,z,.slice (some (F,o')) d.length u,n],c] V fun e w'=>e= .returned (.agg #[.int .i64 d[j].kind,.int .i64 d[j].size,.slice A4 d[j].sub.length RK,.int .i64 d[j].tail])/\Below (wr.heap.size+1) q w'):=za (fun V m=>by
       have E:=YM.out V m;refine(Qu k z n F o' d.length u c j _ _ _ A4 _ RK V ae.out JU uC (by omega) ((E.1.cell (p:=⟨F,_,none⟩) qY).trans k0) ((E.1.cell (p:=⟨F,_,none⟩) qY).trans k1) ((E.1.cell (p:=⟨F,_,none⟩) qY).trans k2) ((E.1.cell (p:=⟨F,_,none⟩) qY).trans k3)).mono ?_;rintro e w' ⟨rfl,hx⟩;exact⟨rfl,m.trans (hx.mono (by omega))⟩)
      obtain⟨r,K⟩:∃r,s[c].dy d[j]=r:=⟨_,rfl⟩
      have ai:Hid (∀V,Below (wr.heap.size+1) q V->Calls prog 150 #[.agg #[.int .i64 d[j].kind,.int .i64 d[j].size,.slice A4 d[j].sub.length RK,.int .i64 d[j].tail],.agg #[.string s[c].text,.bool s[c].list,.slice Z s[c].sub.length DD],(L,0),(D,0)] V fun e w'=>e= .returned r/\Below (wr.heap.size+1) q w'):=za (fun V m=>by
       have E:=YM.out V m;have M:=SD.out.lt;refine(IH.out _ (zD X) B V _ _ _ (hi.below E.1) (by omega) (lF N2.out c X) d[j] _ _ _ _ (Lg.below E.1) (eF al.out j JU) L D g ((SD.out.ah dw.out M.1 M.2.1 M.2.2).ah m (by omega) (by omega) (by omega))).mono ?_;rintro e w' ⟨rfl,hx⟩;exact⟨by rw[K],m.trans (hx.mono (by omega))⟩)
      have UM:Hid (s[c].dy ((Ty.mk k z d n).at c)=r):=za (by rw[Cq.out,K]);clear hi Lg k0 k1 k2 k3 hj ab K dS D8;go_wp2_with fail
      rw[ao.out];obtain⟨x0,x1,x2,x3,x4,x5,x6,x7,x8⟩:=I.out q (zm _ _);go_region_held3 (fun V=>(V,D,0,Value.func (.func 150) #[] #[(L,0),(D,0)])/\
       (V,w.heap.size,0,k)/\(V,w.heap.size,1,z)/\(V,w.heap.size,2,Value.slice (some (F,o')) d.length u)/\(V,w.heap.size,3,n)/\
       (V,wr.heap.size,0,Value.string s[c].text)/\(V,wr.heap.size,1,Value.bool s[c].list)/\(V,wr.heap.size,2,Value.slice Z s[c].sub.length DD)/\Below (wr.heap.size+1) q V)
       (first|exact I.out _ x8|exact I.out _ hv|exact I.out _ hv.drew|exact I.out _ x8.drew|exact I.out _ (by assumption)|exact I.out _ (Below.drew (by assumption)))
       (first|(go_at_call 151;((with_reducible refine(af.out _ (by first|assumption|exact Below.drew (by assumption)|exact Below.bF (by assumption) _)).mono ?_);rintro e w' ⟨rfl,hv⟩))|(go_at_call 150;((with_reducible refine(ai.out _ (by first|assumption|exact Below.drew (by assumption)|exact Below.bF (by assumption) _)).mono ?_);rintro e w' ⟨rfl,hv⟩)))
      all_goals
       have ep:Hid (Below (w.heap.size+2) w1 w'):=za (S.out.trans ((dw.out.mono (by omega)).trans (hv.mono (by omega))));cases r with
       |true=>
        have HN:Hid (dK (s.take (c+1)) (Ty.mk k z d n) 0=true):=za (by rw[ve X,hm.out,UM.out];rfl);go_wp2;go_roundw
        case rel=>(repeat apply Exists.intro);exact⟨⟨c+1,by omega,by go_num,HN,ep.out⟩,rfl⟩
        case measure=>simp[intOf];omega
       |false=>
        have HN:Hid (dK s (Ty.mk k z d n) 0=false):=za (EM X UM.out);go_wp2;go_ret;exact⟨by rw[U.out,HN.out];rfl,iB.out.trans (ep.out.mono (by omega))⟩
     have eM:=hm.out;rw[zx (by omega)]at eM;have HM:=za eM;clear eM;go_wp2;go_ret;exact⟨by rw[U.out,HM.out];rfl,iB.out.trans (S.out.mono (by omega))⟩
theorem Jj (ty:Ty)(x:It)(B:Nat)(w:World)(o q p t3 n m l:Value)(E:cq w B ty o q p t3)(z:bI w B x n m l)(O:B<=w.heap.size)(Z:Laid w):
 Calls prog 109 #[.agg #[o,q,p,t3],.agg #[n,m,l]] w fun e w'=>e= .returned (.int .i64 (dZ ty x))/\(w,w'):=by
 have fc:=Z.pos;obtain⟨k,u⟩:∃k,(w.alloc (.cells #[o,q,p,t3] 70)).alloc (.cells #[n,m,l] 28)=k:=⟨_,rfl⟩
 have H:Below w.heap.size w k:=by rw[<-u];exact((zm _ w).alloc (zd _) _).alloc (by simp) _
 have dF:k.heap.size=w.heap.size+2:=by rw[<-u];simp
 have m1:ag k w.heap.size 70 #[o,q,p,t3]:=by rw[<-u];exact(ag.new w _ _).alloc _
 have m2:ag k (w.heap.size+1) 28 #[n,m,l]:=by rw[<-u];have:=ag.new (w.alloc (.cells #[o,q,p,t3] 70)) 28 #[n,m,l];simpa using this
 have F:=za (ko ty B k o q p t3 (E.below (H.mono O)) (by omega) (Z.below H fc));have S:Hid (∀V,Below (w.heap.size+2) k V->Calls prog 54 #[.agg #[n,m,l]] V fun e w'=>e= .returned x.may/\(V,w')):=za (fun V hV=>Qr x B V n m l ((z.below (H.mono O)).below (hV.mono (by omega))) (by have:=hV.size;omega));have uc:=za m1;have K:=za m2;have G:=za H;have HT:=za E;have HI:=za z;have N:=za u;obtain⟨a,D⟩:∃a,ty.may=a:=⟨_,rfl⟩
 obtain⟨b,I⟩:∃b,x.may=b:=⟨_,rfl⟩
 obtain⟨c,W⟩:∃c,x.dy ty=c:=⟨_,rfl⟩
 have U:Hid (dZ ty x=if a&&b then(if c then 0 else 12)else 1):=za (by rw[dZ,D,I,W]);have HA:=za D;have Bc:=za I;have SM:=za W;rw[D]at F;rw[I]at S;obtain⟨A,cap,rfl,rfl,rfl,rfl,_⟩:=E.open_;obtain⟨A',an,rfl,rfl,rfl,_⟩:=z.open_;generalize dZ ty x=R at*;generalize ty.kind=ki at*;generalize ty.size=si at*;generalize ty.tail=ta at*;clear D I W E z u m1 m2;cases a with
 |false=>
  have s:Hid (R=1):=za (by rw[U.out];rfl);go_enter func109,ntmps109
  go_wp2_with fail
  rw[N.out];refine F.out.mono ?_;rintro e J ⟨rfl,j⟩;go_wp2;go_ret;exact⟨by rw[s.out];rfl,G.out.trans (j.mono (by omega))⟩
 |true=>
  cases b with
  |false=>
   have s:Hid (R=1):=za (by rw[U.out];rfl);go_enter func109,ntmps109
   go_wp2_with fail
   rw[N.out];refine F.out.mono ?_;rintro e J ⟨rfl,j⟩;obtain⟨g0,g1,g2,_,_,_⟩:=bp (K.out.ah j (by omega));have M:=j.size;go_wp2_with fail
   refine(S.out J (j.mono (by omega))).mono ?_;rintro e d ⟨rfl,y⟩;go_wp2;go_ret;exact⟨by rw[s.out];rfl,G.out.trans ((j.trans (y.mono M)).mono (by omega))⟩
  |true=>
   have s:Hid (R=if c then 0 else 12):=za (by rw[U.out];rfl);go_enter func109,ntmps109
   go_wp2_with fail
   rw[N.out];refine F.out.mono ?_;rintro e J ⟨rfl,j⟩;obtain⟨g0,g1,g2,_,_,_⟩:=bp (K.out.ah j (by omega));have M:=j.size;go_wp2_with fail
   refine(S.out J (j.mono (by omega))).mono ?_;rintro e d ⟨rfl,y⟩;have cF:=y.size;have ep:Hid (Below (w.heap.size+2) k d):=za ((j.trans (y.mono M)).mono (by omega));clear g0 g1 g2 j y;go_wp2_with fail
   refine(TH d).mono ?_;rintro e w3 ⟨rfl,rfl⟩;obtain⟨i,r⟩:∃i,((d.alloc (.map Xg.toArray 5)).alloc (.cells #[.map (some d.heap.size)] 199)).alloc (.cells #[.func (.func 150) #[] #[(d.heap.size+1,0),(d.heap.size+1+1,0)]] 201)=i:=⟨_,rfl⟩
   have NX:i.heap.size=d.heap.size+3:=by rw[<-r];simp
   have Y:Below d.heap.size d i:=by rw[<-r];exact(((zm _ _).alloc (zd _) _).alloc (by simp) _).alloc (by simp;omega) _
   have ab:Hid (FV i (d.heap.size+1) (d.heap.size+1+1) d.heap.size):=za (by
    rw[<-r];refine⟨?_, ?_, ?_⟩
    ·have:=(ag.new (d.alloc (.map Xg.toArray 5)) 199 #[.map (some d.heap.size)])
     rw[zt]at this;exact this.alloc _
    ·have:=ag.new ((d.alloc (.map Xg.toArray 5)).alloc (.cells #[.map (some d.heap.size)] 199)) 201 #[.func (.func 150) #[] #[(d.heap.size+1,0),(d.heap.size+1+1,0)]];rw[zt,zt]at this;exact this
    have h3:(d.alloc (.map Xg.toArray 5)).heap[d.heap.size]?=some (.map Xg.toArray 5):=yM d _;rw[ZI _ _ _ (by simp;omega),ZI _ _ _ (by simp)];exact h3)
   have C:Hid (Below (w.heap.size+2) k i):=za (ep.out.trans (Y.mono (by omega)));have L:Below B w i:=(G.out.mono O).trans (C.out.mono (by omega));obtain⟨_,_,DR⟩:=OU HA.out;have aa:x.right=true:=by
    have h:=Bc.out;unfold It.may at h;simp only[zy]at h;exact h.1.1
   have X:=za (T1 x B i _ _ _ (HI.out.below L) (by omega) aa ty _ _ _ _ (HT.out.below L) DR _ _ _ ab.out);rw[SM.out]at X;have oS:=za r;have n1:=uc.out.ah C.out (by omega);have n2:=K.out.ah C.out (by omega);have q0:i.cell? (w.heap.size,0)=some (.int .i64 ki):=n1.cell 0;have q1:i.cell? (w.heap.size,1)=some (.int .i64 si):=n1.cell 1;have q2:i.cell? (w.heap.size,2)=some (.slice A ty.sub.length cap):=n1.cell 2;have q3:i.cell? (w.heap.size,3)=some (.int .i64 ta):=n1.cell 3;have r0:i.cell? (w.heap.size+1,0)=some (.string x.text):=n2.cell 0;have r1:i.cell? (w.heap.size+1,1)=some (.bool x.list):=n2.cell 1;have r2:i.cell? (w.heap.size+1,2)=some (.slice A' x.sub.length an):=n2.cell 2;have l0:w.heap.size<d.heap.size:=by omega
   have l1:w.heap.size+1<d.heap.size:=by omega
   rw[<-r]at q0 q1 q2 q3 r0 r1 r2;clear r Y L DR aa n1 n2;go_wp2_with fail
   rw[oS.out];refine X.out.mono ?_;rintro e w6 ⟨rfl,mh⟩;have ua:Hid (w,w6):=za (G.out.trans ((C.out.mono (by omega)).trans (mh.mono (by omega))));clear mh;cases c with
   |true=>
    go_wp2;go_ret;exact⟨by rw[s.out];rfl,ua.out⟩
   |false=>
    go_wp2;go_ret;exact⟨by rw[s.out];rfl,ua.out⟩
theorem Nd (x:It)(B:Nat)(w:World)(b d c:Value)(h:bI w B x b d c)(n:B<=w.heap.size)(l:x.may=true)(m:x.right=true):
 Calls prog 119 #[.agg #[b,d,c]] w fun e w'=>e= .returned x.count/\(w,w'):=by
 have j:=za (Jf x B (w.alloc (.cells #[b,d,c] 28)) b d c (h.below (blm n)) (by simp;omega) _ (.inr ⟨rfl,m⟩));have i:oG x= .tuple #[x.count,x.deep,true]:=by unfold oG;rw[l];rfl
 rw[i]at j;obtain⟨A,cap,rfl,rfl,rfl,_⟩:=h.open_;clear h i;generalize x.deep=D at*;generalize x.count=R at*;go_enter func119,ntmps119
 go_wp2_with fail
 refine j.out.mono ?_;rintro e o ⟨rfl,k⟩;go_wp2;go_ret;exact⟨rfl,(yD (zm _ _) (zd _) _).trans (k.mono (by simp))⟩
theorem Jk (h:∀b r,aN 8 l=some (b,r)->dW 64 b):cL l=none:=by
 unfold cL;split
 ·rename_i x hx
  rw[(h x [] hx).may];rfl
 rfl
theorem F2 {r:List UInt8}(h:aN 8 l=some (t,r))(b:r≠ []):cL l=none:=by
 unfold cL;rw[h];cases r with
 |nil=>exact absurd rfl b
 |cons c r=>rfl
theorem wy (h:aN 8 l=some (t,[])):cL l=if t.may=true then some t else none:=by
 unfold cL;rw[h]
theorem T2 (s:ByteArray)(w:World)(hs:s.size<=100000)(F:Laid w):
 Calls prog 84 #[s] w fun e w'=>Fw w (cL s.data.toList) e w':=by
 have K:=za (FM 8 1 rfl (w.heap.size+1) s 0 64 ((w.alloc (.cells #[(0:Int),(0:Int),nS,(0:Int)] 70)).alloc (.cells #[s,(0:Int),(64:Int)] 178)) (ag.at_ (by simp)) (yb _) hs (zd _));have I:=(ag.new w 70 #[(0:Int),(0:Int),nS,(0:Int)]).alloc (.cells #[s,(0:Int),(64:Int)] 178);have H:=((zm w.heap.size w).alloc (zd _) (.cells #[(0:Int),(0:Int),nS,(0:Int)] 70)).alloc (by simp) (.cells #[s,(0:Int),(64:Int)] 178);have fa:((w.alloc (.cells #[(0:Int),(0:Int),nS,(0:Int)] 70)).alloc (.cells #[s,(0:Int),(64:Int)] 178)).heap.size=w.heap.size+2:=by simp
 generalize J:((w.alloc (.cells #[(0:Int),(0:Int),nS,(0:Int)] 70)).alloc (.cells #[s,(0:Int),(64:Int)] 178))=W0 at*;have HW:=za J;have ab:=za I;have Ak:=za H;have fc:=F.pos;obtain⟨R,r⟩:∃R,Hid (cL s.data.toList=R):=⟨_,za rfl⟩
 rw[r.out];clear J I H;go_enter func84,ntmps84
 go_wp2_with fail
 rw[HW.out];refine K.out.mono ?_;rintro e u ⟨t,ok,q,L1,k,z,x,A,n,cap,rfl,E,D,ah,j,B⟩;have Y:=za (ab.out.only D (by simp));have y:Hid (w,u):=za (Ak.out.trans (D.below (by omega) (by simp)));obtain⟨c,d,i,l,O,lX,N,W⟩:=aU Y.out;have g1:=E.cells.2.1;have AX:w.heap.size+1<u.heap.size:=E.cells.2.2.2.2.2.2;have M:w.heap.size<u.heap.size:=by omega
 clear K D E;cases ok with
 |false=>
  have p:Hid (R=none):=za (by rw[<-r.out];exact Jk (fun t' ad h=>j.2.1 rfl t' ad (by rw[zL];exact h)));clear j B;go_wp2;refine zl (v:= .tuple #[.agg #[(0:Int),(0:Int),nS,(0:Int)],(3:Int)]) (by simp[results,results84,go_sem,c,d,i,l,zI,M]) rfl ?_;rw[p.out];exact⟨(((((y.out.setCell (by simp) _).setCell (by simp) _).setCell (by simp) _).setCell (by simp) _).alloc (by simp[World.setCell];omega) _),rfl⟩
 |true=>
  obtain⟨o,_,_⟩:=j.1 rfl;have af:=j.2.2;rw[zL]at o;by_cases X:q=s.size
  ·subst X;have n1:((s.size:Int) !=(s.size:Int))=false:=by simp
   rw[zK (by rw[aa];exact zd _)]at o;have C:=wy o;have U:=za (B rfl);have HM:=za (ko t _ (u.alloc (.cells #[k,z,.slice A n cap,x] 70)) _ _ _ _ ((U.out.below ((zm _ _).alloc (zd _) _)).tJ) (zd _) (F.below (y.out.alloc (by omega) _) fc));rw[r.out]at C;generalize t.may=m at*;have p:=za C;clear o C j B r;go_wp2_with fail
   refine HM.out.mono ?_;rintro e Z ⟨rfl,b⟩;have NX:=b.size;simp only[zt]at NX;clear c d i l O lX N W;obtain⟨c,d,i,l,O,lX,N,W⟩:=aU ((Y.out.alloc _).ah b (by simp;omega));obtain⟨b0,b1,b2,b3,tu,tw,tv,tz⟩:=aU ((ag.new u 70 #[k,z,.slice A n cap,x]).ah b (by simp));have G:Hid (w,Z):=za ((y.out.alloc (by omega) _).trans (b.mono (by simp;omega)));have YN:=za ((U.out.below ((zm _ _).alloc (zd _) (.cells #[k,z,.slice A n cap,x] 70))).below b);clear b;cases m with
   |true=>
    go_wp2;refine zl (v:= .tuple #[.agg #[k,z,.slice A n cap,x],(0:Int)]) (by simp[results,results84,go_sem,c,d,i,l]) rfl ?_;rw[p.out,zj (by first|rfl|trivial)];exact⟨(((G.out.setCell (by simp) _).setCell (by simp) _).setCell (by simp) _).setCell (by simp) _,_,_,_,_,rfl,YN.out.only (L:= [w.heap.size]) (((((ae.refl _ Z).setCell (by simp) _).setCell (by simp) _).setCell (by simp) _).setCell (by simp) _) (by simp;omega) (fun k _ S=>by have S:W0.heap.size<=k:=S;show w.heap.size<=k;omega)⟩
   |false=>
    go_wp2;refine zl (v:= .tuple #[.agg #[(0:Int),(0:Int),nS,(0:Int)],(3:Int)]) (by simp[results,results84,go_sem,c,d,i,l]) rfl ?_;rw[p.out,zi (by simp)];exact⟨(((G.out.setCell (by simp) _).setCell (by simp) _).setCell (by simp) _).setCell (by simp) _,rfl⟩
  have n1:((q:Int) !=(s.size:Int))=true:=yN.2 (by omega);have p:Hid (R=none):=za (by
   rw[<-r.out];refine F2 o (fun h0=> ?_);have:=yp List.length h0;simp only[zP,aa,zO]at this;omega)
  clear j B o X;go_wp2;refine zl (v:= .tuple #[.agg #[(0:Int),(0:Int),nS,(0:Int)],(3:Int)]) (by simp[results,results84,go_sem,c,d,i,l,zI,M]) rfl ?_;rw[p.out];exact⟨(((((y.out.setCell (by simp) _).setCell (by simp) _).setCell (by simp) _).setCell (by simp) _).alloc (by simp[World.setCell];omega) _),rfl⟩
