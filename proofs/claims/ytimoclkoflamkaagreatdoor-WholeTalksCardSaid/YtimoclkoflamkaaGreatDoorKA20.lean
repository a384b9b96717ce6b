/- Package typed: Fits. -/
import Derived.Test.YtimoclkoflamkaaGreatDoorKA17
import Derived.Test.YtimoclkoflamkaaGreatDoorKA10
set_option linter.all false
set_option maxRecDepth 100000
set_option maxHeartbeats 3200000
open Go.Proofs.Tryz
namespace Go.Proofs.YtimoclkoflamkaaGreatDoor
open Go.RowKit
variable {w w':World}{g:Nat}{l:List UInt8}{k z:Int}{s:List It}{t:Ty}
def ZF:=@Nat.zero_mul
def Sz (k:Int)(i j:Nat):Prop:=(k=4/\j=0)\/(k≠4/\j=i)
theorem SA (k z A:Int)(b o n cap i j:Nat)(h d m:Int)(l:Option Addr)(c p:Nat)(w:World)(x:Sz k i j)(C:j<n)(B:n<=9223372036854775807)(D:b<w.heap.size)
 (r:w.cell? (b,o+j*4)=some (.int .i64 h)) (u:w.cell? (b,o+j*4+1)=some (.int .i64 d)) (s:w.cell? (b,o+j*4+2)=some (.slice l c p)) (y:w.cell? (b,o+j*4+3)=some (.int .i64 m)):
 Calls prog 151 #[.agg #[k,z,.slice (some (b,o)) n cap,A],i] w fun e w'=>e= .returned (.agg #[h,d,.slice l c p,m])/\(w,w'):=by
 rcases x with⟨rfl,rfl⟩|⟨q,rfl⟩
 ·simp only[ZF,xa]at r u s y;go_enter func151,ntmps151
  go_wp2;refine zj (v:= .agg #[h,d,.slice l c p,m]) (by simp[results,results151,go_sem]) rfl ⟨rfl, ?_⟩;first|exact bQ|trace_state
 have E:(k==4)=false:=zl.2 q;clear q;go_enter func151,ntmps151
 go_wp2;refine zj (v:= .agg #[h,d,.slice l c p,m]) (by simp[results,results151,go_sem]) rfl ⟨rfl, ?_⟩;first|exact bQ|trace_state
def VV (k:Int)(i:Nat):Nat:=if k=4 then 0 else i
structure FV (w:World)(ob fb g:Nat):Prop where
 of_:af w ob 199 #[.map (some g)]
 fn:af w fb 201 #[.func (.func 150) #[] #[(ob,0),(fb,0)]]
 mp:w.heap[g]?=some (.map kEs.toArray 5)
theorem FV.ah {b d B:Nat}(h:FV w b d g)(c:Below B w w')(i:b<B)(j:d<B)(e:g<B):FV w' b d g:=⟨h.of_.ah c i,h.fn.ah c j,(c.block g e).trans h.mp⟩
theorem FV.lt {c b:Nat}(h:FV w c b g):c<w.heap.size/\b<w.heap.size/\g<w.heap.size:=⟨h.of_.lt,h.fn.lt,yp h.mp⟩
theorem FV.below {c b:Nat}(h:FV w c b g)(d:Below w.heap.size w w'):FV w' c b g:=h.ah d h.lt.1 h.lt.2.1 h.lt.2.2
theorem aez (z:Int)(l:List Ty)(d:Int)(c:ByteArray)(b:Bool)(m:Nat):(!b&&decide ((c.size:Int)<=z)&& !ia c.data.toList)=rU (Ty.mk 1 z l d) c b m:=rfl
theorem aeA (z:Int)(l:List Ty)(d:Int)(c:ByteArray)(b:Bool)(m:Nat):(!b&&decide ((c.size:Int)=z))=rU (Ty.mk 2 z l d) c b m:=rfl
theorem aeB (z:Int)(l:List Ty)(d:Int)(c:ByteArray)(b:Bool)(m:Nat):(!b&&decide ((c.size:Int)<=z))=rU (Ty.mk 3 z l d) c b m:=rfl
theorem aeC (z:Int)(l:List Ty)(d:Int)(c:ByteArray)(b:Bool)(m:Nat):(b&&decide ((m:Int)<=z))=rU (Ty.mk 4 z l d) c b m:=rfl
theorem aeD (z:Int)(l:List Ty)(c:Int)(d:ByteArray)(b:Bool)(m:Nat):(b&&decide (m<=l.length)&&decide ((l.length:Int)-c<=m))=rU (Ty.mk 5 z l c) d b m:=rfl
theorem AE {l:List Ty}{j:Int}{d:ByteArray}{b:Bool}(h:rU (Ty.mk k z l j) d b s.length=true)(c:(It.mk d b s).right=true)(e:k=1\/k=2\/k=3):s= []:=by
 have i:b=false:=by
  cases b with
  |false=>rfl
  |true=>rcases e with rfl|rfl|rfl<;>simp[rU]at h
 subst i;simp only[It.right,zv]at c;exact zk (by simpa[formed]using c.1)
theorem aa4 {c:List Ty}{l:Int}{j:ByteArray}{b:Bool}(m:fK k z c.length l=true)(e:(It.mk j b s).right=true)(d:rU (Ty.mk k z c l) j b s.length=true)(i:Nat)(hi:i<s.length):VV k i<c.length:=by
 rcases kq m with⟨h,_⟩|⟨h,_⟩|⟨h,_⟩|⟨rfl,_,_,o,_⟩|⟨rfl,rfl,_⟩
 ·rw[AE d e (.inl h)]at hi;cases hi
 ·rw[AE d e (.inr (.inl h))]at hi;cases hi
 ·rw[AE d e (.inr (.inr h))]at hi;cases hi
 ·show 0<c.length;omega
 show i<c.length
 have n:=zX (Bool.and_eq_true_iff.1 (Bool.and_eq_true_iff.1 d).1).2;simp at n;omega
theorem VW :∀(x:It) (B:Nat) (w:World) (c0 c1 c2:Value),bH w B x c0 c1 c2->B<=w.heap.size->x.right=true->∀(ty:Ty) (t0 t1 t2 t3:Value),cz w B ty t0 t1 t2 t3->ty.right=true->∀L D g,FV w L D g->
 Calls prog 150 #[.agg #[t0,t1,t2,t3],.agg #[c0,c1,c2],(L,0),(D,0)] w fun e w'=>e= .returned (.bool (x.dF ty))/\(w,w'):=by
 intro x;induction x using It.ind with
 |h t l s ih=>
  intro B w c0 c1 c2 h hB M ty t0 t1 t2 t3 hT r8 L D g m;obtain⟨rfl,rfl,ht,hs,A,cap,rfl,od,jf,da⟩:=h;have IH:=za ih;have HS:=za da;clear ih da;obtain⟨k,z,d,n⟩:=ty;obtain⟨rfl,rfl,rfl,hk,hz,oO,Z,F,u,rfl,ar,aq,TO⟩:=hT;obtain⟨bG,Bk⟩:=jJ r8;have Li:=za M;have Fu:=za TO;have an:=za Bk;have HR:Hid ((It.mk t l s).dF (Ty.mk k z d n)=(rU (Ty.mk k z d n) t l s.length&&dS s (Ty.mk k z d n) 0)):=za (by simp only[It.dF]);generalize (It.mk t l s).dF (Ty.mk k z d n)=R at*;unfold mM at hk hz oO;have aa:=za (aa4 bG M);have al:Hid (∀i:Nat,Sz k i (VV k i)):=za (fun i=>by unfold Sz VV;by_cases h:k=4<;>simp[h]);obtain⟨y,Y⟩:=dY ((w.alloc (.cells #[k,z,.slice F d.length u,n] 70)).alloc (.cells #[t,l,.slice A s.length cap] 28));have aI:Below w.heap.size w y:=by rw[<-Y];exact bQ
  have cC:y.heap.size=w.heap.size+2:=by rw[<-Y];simp
  have M1:Hid (af y w.heap.size 70 #[k,z,.slice F d.length u,n]):=za (by rw[<-Y];exact(af.new _ _ _).alloc _);have M2:Hid (af y (w.heap.size+1) 28 #[t,l,.slice A s.length cap]):=za (by rw[<-Y];have:=af.new (w.alloc (.cells #[k,z,.slice F d.length u,n] 70)) 28 #[t,l,.slice A s.length cap];simpa using this);obtain⟨b1,aK⟩:=dY (rU (Ty.mk k z d n) t l s.length);rw[aK]at HR aa;have ak:=m.of_.cell 0;have Fq:=m.lt.1;have U:=za (m.below aI).mp;have dt:=za aI;have ae:=za cC;have HW:=za Y;have HV:=za m;have WR:=za bG;have cr:=za aK;clear M TO Bk r8 m Y aI cC aK bG;go_enter func150,ntmps150
  go_upto_region 1 with fail
  go_cut [17] (fun v wx=>v= .bool (!b1)/\Hid (Below y.heap.size y wx))
  case first=>
   rcases kq WR.out with⟨rfl,h3,K,rfl⟩|⟨rfl,h3,h4,K,rfl⟩|⟨rfl,h3,h4,K,rfl⟩|⟨rfl,h3,h4,K,rfl⟩|⟨rfl,rfl,h4,h5,h6⟩;focus
    have HC:=za (aax 1 z 0 (.slice F d.length u) t l (.slice A s.length cap) y ht (by omega));have hf:∀w,(Instr.field 204 (.agg #[.func (.func 184) #[] #[],.func (.func 182) #[] #[]]) 0).run prog w= .ok (.func (.func 184) #[] #[]) w:=fun _=>by kernel_rfl
    have C:=nQ U.out 1 _ _ rfl;have O:=(aez _ _ _ _ _ _).trans cr.out;simp only[mw,jR,kH,qV,kv]at C;clear K
   rotate_left
   focus
    have HC:=za (aay 2 z 0 F d.length u t l A s.length cap y ht Z hs (by omega) (by omega));have hf:∀w,(Instr.field 204 (.agg #[.func (.func 185) #[] #[],.func (.func 186) #[] #[]]) 0).run prog w= .ok (.func (.func 185) #[] #[]) w:=fun _=>by kernel_rfl
    have C:=nQ U.out 2 _ _ rfl;have O:=(aeA _ _ _ _ _ _).trans cr.out;simp only[mw,jR,kH,qV,kv]at C;clear K
   rotate_left
   focus
    have HC:=za (aaz 3 z 0 F d.length u t l A s.length cap y ht Z hs (by omega) (by omega));have hf:∀w,(Instr.field 204 (.agg #[.func (.func 188) #[] #[],.func (.func 182) #[] #[]]) 0).run prog w= .ok (.func (.func 188) #[] #[]) w:=fun _=>by kernel_rfl
    have C:=nQ U.out 3 _ _ rfl;have O:=(aeB _ _ _ _ _ _).trans cr.out;simp only[mw,jR,kH,qV,kv]at C;clear K
   rotate_left
   focus
    have HC:=za (aaA 4 z 0 F d.length u t l A s.length cap y ht Z hs (by omega) (by omega));have hf:∀w,(Instr.field 204 (.agg #[.func (.func 189) #[] #[],.func (.func 190) #[] #[]]) 0).run prog w= .ok (.func (.func 189) #[] #[]) w:=fun _=>by kernel_rfl
    have C:=nQ U.out 4 _ _ rfl;have O:=(aeC _ _ _ _ _ _).trans cr.out;simp only[mw,jR,kH,qV,kv]at C;clear K
   rotate_left
   focus
    have HC:=za (aaB 5 0 n F d.length u t l A s.length cap y ht Z hs (by omega) (by omega));have hf:∀w,(Instr.field 204 (.agg #[.func (.func 192) #[] #[],.func (.func 193) #[] #[]]) 0).run prog w= .ok (.func (.func 192) #[] #[]) w:=fun _=>by kernel_rfl
    have C:=nQ U.out 5 _ _ rfl;have O:=(aeD _ _ _ _ _ _).trans cr.out;simp only[mw,jR,kH,qV,kv]at C
   rotate_left
   all_goals
    rw[<-HW.out]at C;go_wp2_with fail
    rw[HW.out];refine cm HC.out fun w1 hb=> ?_
    have W:=za hb;rw[O];clear hb O;go_wp2_with fail
    go_meet;case rel=>exact⟨rfl,W⟩
  case rest=>
   obtain⟨rfl,X⟩:=hcut;obtain⟨w1,kR⟩:=dY wc;rw[kR]at X⊢;have ic:=za (dt.out.trans (X.out.mono dt.out.size));replace M1:=za (M1.out.ah X.out M1.out.lt);replace M2:=za (M2.out.ah X.out M2.out.lt);have cg:=X.out.size;rw[ae.out]at cg;obtain⟨g0,g1,g2,_,_,_⟩:=bq M2.out;clear ak U HW ae X kR;cases b1 with
   |false=>
    have W:Hid (R=false):=za (by rw[HR.out];rfl);go_wp2;go_ret;exact⟨by rw[W.out];rfl,ic.out⟩
   |true=>
    have W:Hid (R=dS s (Ty.mk k z d n) 0):=za (by rw[HR.out];rfl);replace aa:=za (aa.out rfl);have M9:=za (HV.out.below ic.out);clear HR;go_wp2_with fail
    go_loopw [21] (fun i wr=>∃c:Nat,c<=s.length/\i= .int .i64 c/\Hid (dS (s.take c) (Ty.mk k z d n) 0=true)/\Below (w.heap.size+2) w1 wr) (fun i _=>s.length-(intOf i).toNat)
    case atStart=>exact⟨0,by omega,rfl,za (by simp[dS]),zi _ _⟩
    case round=>
     obtain⟨c,IG,rfl,hm,DA⟩:=hrel;have S:=za DA;have Uw:=DA.size;clear DA g0 g1 g2;obtain⟨g0,g1,g2,_,_,_⟩:=bq (M2.out.ah S.out (by omega));by_cases N:c<s.length
     ·have UE:=za (M9.out.ah S.out (by have:=HV.out.lt;omega) (by have:=HV.out.lt;omega) (by have:=HV.out.lt;omega));have I:Below B w wr:=(ic.out.mono hB).trans (S.out.mono (by omega));obtain⟨b,o,d0,d1,d2,rfl,iV,e0,e1,e2,hi⟩:=HS.out.at_ c N;simp only[zK]at e0 e1 e2;replace e0:=(I.cell (p:=(b,o+c*3)) iV).trans e0;replace e1:=(I.cell (p:=(b,o+c*3+1)) iV).trans e1;replace e2:=(I.cell (p:=(b,o+c*3+2)) iV).trans e2;obtain⟨A3,Is,rfl,rfl,rfl,_⟩:=hi.open_;obtain⟨j,hj⟩:∃j,VV k c=j:=⟨_,rfl⟩
      have Lj:=aa.out c N;have ab:=al.out c;rw[hj]at Lj ab;have ai:=za ab;obtain⟨G,o',f0,f1,f2,f3,rfl,rS,k0,k1,k2,k3,Bs⟩:=Fu.out.at_ j Lj;simp only[zK]at k0 k1 k2 k3;have Dw:Hid ((Ty.mk k z d n).at c=d[j]):=za (by show(d[VV k c]?).getD (.mk 0 0 [] 0)=d[j];rw[hj,zr Lj];rfl);have mJ:=za (Bs.below I);obtain⟨A4,TN,rfl,rfl,rfl,rfl,_⟩:=Bs.open_;obtain⟨q,du⟩:∃q,wr.alloc (.cells #[.string s[c].text,.bool s[c].list,.slice A3 s[c].sub.length Is] 28)=q:=⟨_,rfl⟩
      have dm:Hid (wr,q):=za (by rw[<-du];exact(zi _ wr).alloc (ze _) _);have E4:Hid (q.heap.size=wr.heap.size+1):=za (by rw[<-du];simp);have ag:Hid (af q wr.heap.size 28 #[.string s[c].text,.bool s[c].list,.slice A3 s[c].sub.length Is]):=za (by rw[<-du];exact af.new wr _ _);have ao:=za du;have ad:Hid (∀V,Below (wr.heap.size+1) q V->Below B w V/\Below (w.heap.size+2) w1 V/\wr.heap.size+1<=V.heap.size):=za (fun V m=>⟨I.trans ((dm.out.mono (by have:=I.size;omega)).trans (m.mono (by have:=I.size;omega))),S.out.trans ((dm.out.mono (by omega)).trans (m.mono (by omega))),by have:=m.size;have:=E4.out;omega⟩);have H:Hid (∀V,Below (wr.heap.size+1) q V->(V,D,0,Value.func (.func 150) #[] #[(L,0),(D,0)])/\
       (V,w.heap.size,0,k)/\(V,w.heap.size,1,z)/\(V,w.heap.size,2,Value.slice (some (G,o')) d.length u)/\(V,w.heap.size,3,n)/\
       (V,wr.heap.size,0,Value.string s[c].text)/\(V,wr.heap.size,1,Value.bool s[c].list)/\(V,wr.heap.size,2,Value.slice A3 s[c].sub.length Is)/\Below (wr.heap.size+1) q V):=za (fun V m=>by
       have E:=ad.out V m;have J:=UE.out.lt;have m1:=((UE.out.ah dm.out J.1 J.2.1 J.2.2).ah m (by omega) (by omega) (by omega)).fn.cell 0;have m2:=M1.out.ah E.2.1 (by omega);have m3:=ag.out.ah m (by omega);exact⟨m1,m2.cell 0,m2.cell 1,m2.cell 2,m2.cell 3,m3.cell 0,m3.cell 1,m3.cell 2,m⟩)
      have ah:Hid (∀V,Below (wr.heap.size+1) q V->Calls prog 151 #[.agg #[k,z,.slice (some (G,o')) d.length u,n],c] V fun e w'=>e= .returned (.agg #[.int .i64 d[j].kind,.int .i64 d[j].size,.slice A4 d[j].sub.length TN,.int .i64 d[j].tail])/\Below (wr.heap.size+1) q w'):=za (fun V m=>by
       have E:=ad.out V m;refine(SA k z n G o' d.length u c j _ _ _ A4 _ TN V ai.out Lj Z (by omega) ((E.1.cell (p:=⟨G,_,none⟩) rS).trans k0) ((E.1.cell (p:=⟨G,_,none⟩) rS).trans k1) ((E.1.cell (p:=⟨G,_,none⟩) rS).trans k2) ((E.1.cell (p:=⟨G,_,none⟩) rS).trans k3)).mono ?_;rintro e w' ⟨rfl,hx⟩;exact⟨rfl,m.trans (hx.mono (by omega))⟩)
      obtain⟨r,M⟩:∃r,s[c].dF d[j]=r:=⟨_,rfl⟩
      have WT:Hid (∀V,Below (wr.heap.size+1) q V->Calls prog 150 #[.agg #[.int .i64 d[j].kind,.int .i64 d[j].size,.slice A4 d[j].sub.length TN,.int .i64 d[j].tail],.agg #[.string s[c].text,.bool s[c].list,.slice A3 s[c].sub.length Is],(L,0),(D,0)] V fun e w'=>e= .returned r/\Below (wr.heap.size+1) q w'):=za (fun V m=>by
       have E:=ad.out V m;have J:=UE.out.lt;refine(IH.out _ (zA N) B V _ _ _ (hi.below E.1) (by omega) (lQ Li.out c N) d[j] _ _ _ _ (Bs.below E.1) (eK an.out j Lj) L D g ((UE.out.ah dm.out J.1 J.2.1 J.2.2).ah m (by omega) (by omega) (by omega))).mono ?_;rintro e w' ⟨rfl,hx⟩;exact⟨by rw[M],m.trans (hx.mono (by omega))⟩)
      have WS:Hid (s[c].dF ((Ty.mk k z d n).at c)=r):=za (by rw[Dw.out,M]);clear hi Bs k0 k1 k2 k3 hj ab M du mJ;go_wp2_with fail
      rw[ao.out];obtain⟨x0,x1,x2,x3,x4,x5,x6,x7,x8⟩:=H.out q (zi _ _);go_region_held3 (fun V=>(V,D,0,Value.func (.func 150) #[] #[(L,0),(D,0)])/\
       (V,w.heap.size,0,k)/\(V,w.heap.size,1,z)/\(V,w.heap.size,2,Value.slice (some (G,o')) d.length u)/\(V,w.heap.size,3,n)/\
       (V,wr.heap.size,0,Value.string s[c].text)/\(V,wr.heap.size,1,Value.bool s[c].list)/\(V,wr.heap.size,2,Value.slice A3 s[c].sub.length Is)/\Below (wr.heap.size+1) q V)
       (first|exact H.out _ x8|exact H.out _ hv|exact H.out _ hv.drew|exact H.out _ x8.drew|exact H.out _ (by assumption)|exact H.out _ (Below.drew (by assumption)))
       (first|(go_at_call 151;((with_reducible refine(ah.out _ (by first|assumption|exact Below.drew (by assumption)|exact Below.bI (by assumption) _)).mono ?_);rintro e w' ⟨rfl,hv⟩))|(go_at_call 150;((with_reducible refine(WT.out _ (by first|assumption|exact Below.drew (by assumption)|exact Below.bI (by assumption) _)).mono ?_);rintro e w' ⟨rfl,hv⟩)))
      all_goals
       have dt:Hid (Below (w.heap.size+2) w1 w'):=za (S.out.trans ((dm.out.mono (by omega)).trans (hv.mono (by omega))));cases r with
       |true=>
        have HN:Hid (dS (s.take (c+1)) (Ty.mk k z d n) 0=true):=za (by rw[wj N,hm.out,WS.out];rfl);go_wp2;go_roundw
        case rel=>(repeat apply Exists.intro);exact⟨⟨c+1,by omega,by go_num,HN,dt.out⟩,rfl⟩
        case measure=>simp[intOf];omega
       |false=>
        have HN:Hid (dS s (Ty.mk k z d n) 0=false):=za (F3 N WS.out);go_wp2;go_ret;exact⟨by rw[W.out,HN.out];rfl,ic.out.trans (dt.out.mono (by omega))⟩
     have dN:=hm.out;rw[zw (by omega)]at dN;have HM:=za dN;clear dN;go_wp2;go_ret;exact⟨by rw[W.out,HM.out];rfl,ic.out.trans (S.out.mono (by omega))⟩
theorem Kv (ty:Ty)(x:It)(B:Nat)(w:World)(q r o t3 l m n:Value)(J:cz w B ty q r o t3)(I:bH w B x l m n)(O:B<=w.heap.size)(hL:Laid w):
 Calls prog 109 #[.agg #[q,r,o,t3],.agg #[l,m,n]] w fun e w'=>e= .returned (.int .i64 (ep ty x))/\(w,w'):=by
 have ff:=hL.pos;obtain⟨k,p⟩:∃k,(w.alloc (.cells #[q,r,o,t3] 70)).alloc (.cells #[l,m,n] 28)=k:=⟨_,rfl⟩
 have F:Below w.heap.size w k:=by rw[<-p];exact((zi _ w).alloc (ze _) _).alloc (by simp) _
 have dB:k.heap.size=w.heap.size+2:=by rw[<-p];simp
 have m1:af k w.heap.size 70 #[q,r,o,t3]:=by rw[<-p];exact(af.new w _ _).alloc _
 have X:af k (w.heap.size+1) 28 #[l,m,n]:=by rw[<-p];have:=af.new (w.alloc (.cells #[q,r,o,t3] 70)) 28 #[l,m,n];simpa using this
 have E:=za (kB ty B k q r o t3 (J.below (F.mono O)) (by omega) (hL.below F ff));have S:Hid (∀V,Below (w.heap.size+2) k V->Calls prog 54 #[.agg #[l,m,n]] V fun e w'=>e= .returned x.may/\(V,w')):=za (fun V Z=>Sx x B V l m n ((I.below (F.mono O)).below (Z.mono (by omega))) (by have:=Z.size;omega));have vf:=za m1;have U:=za X;have D:=za F;have HT:=za J;have HI:=za I;have K:=za p;obtain⟨a,C⟩:∃a,ty.may=a:=⟨_,rfl⟩
 obtain⟨b,z⟩:∃b,x.may=b:=⟨_,rfl⟩
 obtain⟨c,N⟩:∃c,x.dF ty=c:=⟨_,rfl⟩
 have L:Hid (ep ty x=if a&&b then(if c then 0 else 12)else 1):=za (by rw[ep,C,z,N]);have HA:=za C;have Ce:=za z;have UO:=za N;rw[C]at E;rw[z]at S;obtain⟨A,cap,rfl,rfl,rfl,rfl,_⟩:=J.open_;obtain⟨A',aj,rfl,rfl,rfl,_⟩:=I.open_;generalize ep ty x=R at*;generalize ty.kind=ki at*;generalize ty.size=si at*;generalize ty.tail=ta at*;clear C z N J I p m1 X;cases a with
 |false=>
  have s:Hid (R=1):=za (by rw[L.out];rfl);go_enter func109,ntmps109
  go_wp2_with fail
  rw[K.out];refine E.out.mono ?_;rintro e H ⟨rfl,j⟩;go_wp2;go_ret;exact⟨by rw[s.out];rfl,D.out.trans (j.mono (by omega))⟩
 |true=>
  cases b with
  |false=>
   have s:Hid (R=1):=za (by rw[L.out];rfl);go_enter func109,ntmps109
   go_wp2_with fail
   rw[K.out];refine E.out.mono ?_;rintro e H ⟨rfl,j⟩;obtain⟨g0,g1,g2,_,_,_⟩:=bq (U.out.ah j (by omega));have W:=j.size;go_wp2_with fail
   refine(S.out H (j.mono (by omega))).mono ?_;rintro e d ⟨rfl,y⟩;go_wp2;go_ret;exact⟨by rw[s.out];rfl,D.out.trans ((j.trans (y.mono W)).mono (by omega))⟩
  |true=>
   have s:Hid (R=if c then 0 else 12):=za (by rw[L.out];rfl);go_enter func109,ntmps109
   go_wp2_with fail
   rw[K.out];refine E.out.mono ?_;rintro e H ⟨rfl,j⟩;obtain⟨g0,g1,g2,_,_,_⟩:=bq (U.out.ah j (by omega));have W:=j.size;go_wp2_with fail
   refine(S.out H (j.mono (by omega))).mono ?_;rintro e d ⟨rfl,y⟩;have cC:=y.size;have dt:Hid (Below (w.heap.size+2) k d):=za ((j.trans (y.mono W)).mono (by omega));clear g0 g1 g2 j y;go_wp2_with fail
   refine(VE d).mono ?_;rintro e w3 ⟨rfl,rfl⟩;obtain⟨i,u⟩:∃i,((d.alloc (.map kEs.toArray 5)).alloc (.cells #[.map (some d.heap.size)] 199)).alloc (.cells #[.func (.func 150) #[] #[(d.heap.size+1,0),(d.heap.size+1+1,0)]] 201)=i:=⟨_,rfl⟩
   have K9:i.heap.size=d.heap.size+3:=by rw[<-u];simp
   have fk:Below d.heap.size d i:=by rw[<-u];exact(((zi _ _).alloc (ze _) _).alloc (by simp) _).alloc (by simp;omega) _
   have ab:Hid (FV i (d.heap.size+1) (d.heap.size+1+1) d.heap.size):=za (by
    rw[<-u];refine⟨?_, ?_, ?_⟩
    ·have:=(af.new (d.alloc (.map kEs.toArray 5)) 199 #[.map (some d.heap.size)])
     rw[zp]at this;exact this.alloc _
    ·have:=af.new ((d.alloc (.map kEs.toArray 5)).alloc (.cells #[.map (some d.heap.size)] 199)) 201 #[.func (.func 150) #[] #[(d.heap.size+1,0),(d.heap.size+1+1,0)]];rw[zp,zp]at this;exact this
    have h3:(d.alloc (.map kEs.toArray 5)).heap[d.heap.size]?=some (.map kEs.toArray 5):=yK d _;rw[ZO _ _ _ (by simp;omega),ZO _ _ _ (by simp)];exact h3)
   have G:Hid (Below (w.heap.size+2) k i):=za (dt.out.trans (fk.mono (by omega)));have M:Below B w i:=(D.out.mono O).trans (G.out.mono (by omega));obtain⟨_,_,Bk⟩:=QV HA.out;have aa:x.right=true:=by
    have h:=Ce.out;unfold It.may at h;simp only[zv]at h;exact h.1.1
   have HF:=za (VW x B i _ _ _ (HI.out.below M) (by omega) aa ty _ _ _ _ (HT.out.below M) Bk _ _ _ ab.out);rw[UO.out]at HF;have mz:=za u;have n1:=vf.out.ah G.out (by omega);have n2:=U.out.ah G.out (by omega);have q0:i.cell? (w.heap.size,0)=some (.int .i64 ki):=n1.cell 0;have q1:i.cell? (w.heap.size,1)=some (.int .i64 si):=n1.cell 1;have q2:i.cell? (w.heap.size,2)=some (.slice A ty.sub.length cap):=n1.cell 2;have q3:i.cell? (w.heap.size,3)=some (.int .i64 ta):=n1.cell 3;have r0:i.cell? (w.heap.size+1,0)=some (.string x.text):=n2.cell 0;have r1:i.cell? (w.heap.size+1,1)=some (.bool x.list):=n2.cell 1;have r2:i.cell? (w.heap.size+1,2)=some (.slice A' x.sub.length aj):=n2.cell 2;have l0:w.heap.size<d.heap.size:=by omega
   have l1:w.heap.size+1<d.heap.size:=by omega
   rw[<-u]at q0 q1 q2 q3 r0 r1 r2;clear u fk M Bk aa n1 n2;go_wp2_with fail
   rw[mz.out];refine HF.out.mono ?_;rintro e w6 ⟨rfl,qm⟩;have Y:Hid (w,w6):=za (D.out.trans ((G.out.mono (by omega)).trans (qm.mono (by omega))));clear qm;cases c with
   |true=>
    go_wp2;go_ret;exact⟨by rw[s.out];rfl,Y.out⟩
   |false=>
    go_wp2;go_ret;exact⟨by rw[s.out];rfl,Y.out⟩
theorem OZ (x:It)(B:Nat)(w:World)(b d c:Value)(h:bH w B x b d c)(k:B<=w.heap.size)(l:x.may=true)(n:x.right=true):
 Calls prog 119 #[.agg #[b,d,c]] w fun e w'=>e= .returned x.count/\(w,w'):=by
 have j:=za (Kr x B (w.alloc (.cells #[b,d,c] 28)) b d c (h.below (blm k)) (by simp;omega) _ (.inr ⟨rfl,n⟩));have i:o8 x= .tuple #[x.count,x.deep,true]:=by unfold o8;rw[l];rfl
 rw[i]at j;obtain⟨A,cap,rfl,rfl,rfl,_⟩:=h.open_;clear h i;generalize x.deep=D at*;generalize x.count=R at*;go_enter func119,ntmps119
 go_wp2_with fail
 refine j.out.mono ?_;rintro e o ⟨rfl,m⟩;go_wp2;go_ret;exact⟨rfl,(yD (zi _ _) (ze _) _).trans (m.mono (by simp))⟩
theorem Kw (h:∀b r,aN 8 l=some (b,r)->ef 64 b):cO l=none:=by
 unfold cO;split
 ·rename_i x hx
  rw[(h x [] hx).may];rfl
 rfl
theorem G9 {r:List UInt8}(h:aN 8 l=some (t,r))(b:r≠ []):cO l=none:=by
 unfold cO;rw[h];cases r with
 |nil=>exact absurd rfl b
 |cons c r=>rfl
theorem AF (h:aN 8 l=some (t,[])):cO l=if t.may=true then some t else none:=by
 unfold cO;rw[h]
theorem VX (s:ByteArray)(w:World)(hs:s.size<=100000)(hL:Laid w):
 Calls prog 84 #[s] w fun e w'=>GD w (cO s.data.toList) e w':=by
 have H:=za (GU 8 1 rfl (w.heap.size+1) s 0 64 ((w.alloc (.cells #[(0:Int),(0:Int),nS,(0:Int)] 70)).alloc (.cells #[s,(0:Int),(64:Int)] 178)) (af.at_ (by simp)) (ya _) hs (ze _));have S:=(af.new w 70 #[(0:Int),(0:Int),nS,(0:Int)]).alloc (.cells #[s,(0:Int),(64:Int)] 178);have iV:=((zi w.heap.size w).alloc (ze _) (.cells #[(0:Int),(0:Int),nS,(0:Int)] 70)).alloc (by simp) (.cells #[s,(0:Int),(64:Int)] 178);have dZ:((w.alloc (.cells #[(0:Int),(0:Int),nS,(0:Int)] 70)).alloc (.cells #[s,(0:Int),(64:Int)] 178)).heap.size=w.heap.size+2:=by simp
 generalize Z:((w.alloc (.cells #[(0:Int),(0:Int),nS,(0:Int)] 70)).alloc (.cells #[s,(0:Int),(64:Int)] 178))=W0 at*;have HW:=za Z;have ab:=za S;have By:=za iV;have ff:=hL.pos;obtain⟨R,u⟩:∃R,Hid (cO s.data.toList=R):=⟨_,za rfl⟩
 rw[u.out];clear Z S iV;go_enter func84,ntmps84
 go_wp2_with fail
 rw[HW.out];refine H.out.mono ?_;rintro e x ⟨t,ok,q,L1,k,z,B,A,n,cap,rfl,D,E,ag,d,C⟩;have O:=za (ab.out.only E (by simp));have y:Hid (w,x):=za (By.out.trans (E.below (by omega) (by simp)));obtain⟨l,p,c,o,K,J,I,Y⟩:=aY O.out;have g1:=D.cells.2.1;have B8:w.heap.size+1<x.heap.size:=D.cells.2.2.2.2.2.2;have N:w.heap.size<x.heap.size:=by omega
 clear H E D;cases ok with
 |false=>
  have j:Hid (R=none):=za (by rw[<-u.out];exact Kw (fun t' r h=>d.2.1 rfl t' r (by rw[zG];exact h)));clear d C;go_wp2;refine zj (v:= .tuple #[.agg #[(0:Int),(0:Int),nS,(0:Int)],(3:Int)]) (by simp[results,results84,go_sem,l,p,c,o,zF,N]) rfl ?_;rw[j.out];exact⟨(((((y.out.setCell (by simp) _).setCell (by simp) _).setCell (by simp) _).setCell (by simp) _).alloc (by simp[World.setCell];omega) _),rfl⟩
 |true=>
  obtain⟨b,_,_⟩:=d.1 rfl;have ad:=d.2.2;rw[zG]at b;by_cases W:q=s.size
  ·subst W;have n1:((s.size:Int) !=(s.size:Int))=false:=by simp
   rw[zL (by rw[aa];exact ze _)]at b;have F:=AF b;have U:=za (C rfl);have HM:=za (kB t _ (x.alloc (.cells #[k,z,.slice A n cap,B] 70)) _ _ _ _ ((U.out.below ((zi _ _).alloc (ze _) _)).uL) (ze _) (hL.below (y.out.alloc (by omega) _) ff));rw[u.out]at F;generalize t.may=m at*;have j:=za F;clear b F d C u;go_wp2_with fail
   refine HM.out.mono ?_;rintro e G ⟨rfl,i⟩;have K9:=i.size;simp only[zp]at K9;clear l p c o K J I Y;obtain⟨l,p,c,o,K,J,I,Y⟩:=aY ((O.out.alloc _).ah i (by simp;omega));obtain⟨b0,b1,b2,b3,uA,uz,uB,uy⟩:=aY ((af.new x 70 #[k,z,.slice A n cap,B]).ah i (by simp));have X:Hid (w,G):=za ((y.out.alloc (by omega) _).trans (i.mono (by simp;omega)));have UJ:=za ((U.out.below ((zi _ _).alloc (ze _) (.cells #[k,z,.slice A n cap,B] 70))).below i);clear i;cases m with
   |true=>
    go_wp2;refine zj (v:= .tuple #[.agg #[k,z,.slice A n cap,B],(0:Int)]) (by simp[results,results84,go_sem,l,p,c,o]) rfl ?_;rw[j.out,zg (by first|rfl|trivial)];exact⟨(((X.out.setCell (by simp) _).setCell (by simp) _).setCell (by simp) _).setCell (by simp) _,_,_,_,_,rfl,UJ.out.only (L:= [w.heap.size]) (((((ae.refl _ G).setCell (by simp) _).setCell (by simp) _).setCell (by simp) _).setCell (by simp) _) (by simp;omega) (fun k _ M=>by have M:W0.heap.size<=k:=M;show w.heap.size<=k;omega)⟩
   |false=>
    go_wp2;refine zj (v:= .tuple #[.agg #[(0:Int),(0:Int),nS,(0:Int)],(3:Int)]) (by simp[results,results84,go_sem,l,p,c,o]) rfl ?_;rw[j.out,zf (by simp)];exact⟨(((X.out.setCell (by simp) _).setCell (by simp) _).setCell (by simp) _).setCell (by simp) _,rfl⟩
  have n1:((q:Int) !=(s.size:Int))=true:=yL.2 (by omega);have j:Hid (R=none):=za (by
   rw[<-u.out];refine G9 b (fun h0=> ?_);have:=yi List.length h0;simp only[zN,aa,zM]at this;omega)
  clear d C b W;go_wp2;refine zj (v:= .tuple #[.agg #[(0:Int),(0:Int),nS,(0:Int)],(3:Int)]) (by simp[results,results84,go_sem,l,p,c,o,zF,N]) rfl ?_;rw[j.out];exact⟨(((((y.out.setCell (by simp) _).setCell (by simp) _).setCell (by simp) _).setCell (by simp) _).alloc (by simp[World.setCell];omega) _),rfl⟩
