/- Package typed: Fits. -/
import Derived.Test.YtdbmifjankgfpaaGreatDoorKA22
import Derived.Test.YtdbmifjankgfpaaGreatDoorKA20
set_option linter.all false
set_option maxRecDepth 100000
set_option maxHeartbeats 3200000
open Go.Proofs.Tryz
namespace Go.Proofs.YtdbmifjankgfpaaGreatDoor
open Go.RowKit
def Z7:=@ntmps169
def Yf:=@func169
def Yk:=@results124
def QE (k:Int)(i j:Nat):Prop:=(k=4/\j=0)\/(k≠4/\j=i)
theorem Ga (k z y:Int)(b o n cap i j:Nat)(m d h:Int)(c:Option Addr)(p l:Nat)(w:World)(A:QE k i j)(E:j<n)(D:n<=9223372036854775807)(B:b<w.heap.size)
 (s:w.cell? ⟨b,o+j*4,none⟩=some (.int .i64 m)) (x:w.cell? ⟨b,o+j*4+1,none⟩=some (.int .i64 d)) (u:w.cell? ⟨b,o+j*4+2,none⟩=some (.slice c p l)) (r:w.cell? ⟨b,o+j*4+3,none⟩=some (.int .i64 h)):
 Calls prog 170 #[.agg #[.int .i64 k,.int .i64 z,.slice (some ⟨b,o,none⟩) n cap,.int .i64 y],.int .i64 i] w fun e w'=>e= .returned (.agg #[.int .i64 m,.int .i64 d,.slice c p l,.int .i64 h])/\Below w.heap.size w w':=by
 rcases A with⟨rfl,rfl⟩|⟨q,rfl⟩
 ·simp only[Nat.zero_mul,y8]at s x u r;go_enter func170,ntmps170
  go_wp2;refine zk (v:= .agg #[.int .i64 m,.int .i64 d,.slice c p l,.int .i64 h]) (by simp[results,results170,go_sem]) rfl ⟨rfl, ?_⟩;first|exact bQ|trace_state
 have C:(k==4)=false:=zm.2 q;clear q;go_enter func170,ntmps170
 go_wp2;refine zk (v:= .agg #[.int .i64 m,.int .i64 d,.slice c p l,.int .i64 h]) (by simp[results,results170,go_sem]) rfl ⟨rfl, ?_⟩;first|exact bQ|trace_state
def Oo (k:Int)(i:Nat):Nat:=if k=4 then 0 else i
structure FV (w:World)(ob fb g:Nat):Prop where
 of_:af w ob 217 #[.map (some g)]
 fn:af w fb 95 #[.func (.func 169) #[] #[.pointer (some ⟨ob,0,none⟩),.pointer (some ⟨fb,0,none⟩)]]
 mp:w.heap[g]?=some (.map On.toArray 5)
theorem FV.ag {w w':World}{d c g B:Nat}(h:FV w d c g)(b:Below B w w')(j:d<B)(e:c<B)(i:g<B):FV w' d c g:=⟨h.of_.ag b j,h.fn.ag b e,(b.block g i).trans h.mp⟩
theorem FV.lt {w:World}{c b g:Nat}(h:FV w c b g):c<w.heap.size/\b<w.heap.size/\g<w.heap.size:=⟨h.of_.lt,h.fn.lt,yG h.mp⟩
theorem FV.below {w w':World}{c b g:Nat}(h:FV w c b g)(d:Below w.heap.size w w'):FV w' c b g:=h.ag d h.lt.1 h.lt.2.1 h.lt.2.2
theorem acw (z:Int)(l:List Ty)(d:Int)(c:ByteArray)(b:Bool)(m:Nat):(!b&&decide ((c.size:Int)<=z)&& !gB c.data.toList)=oJ (Ty.mk 1 z l d) c b m:=rfl
theorem acx (z:Int)(l:List Ty)(d:Int)(c:ByteArray)(b:Bool)(m:Nat):(!b&&decide ((c.size:Int)=z))=oJ (Ty.mk 2 z l d) c b m:=rfl
theorem acy (z:Int)(l:List Ty)(d:Int)(c:ByteArray)(b:Bool)(m:Nat):(!b&&decide ((c.size:Int)<=z))=oJ (Ty.mk 3 z l d) c b m:=rfl
theorem acz (z:Int)(l:List Ty)(c:Int)(d:ByteArray)(b:Bool)(m:Nat):(b&&decide ((m:Int)<=z))=oJ (Ty.mk 4 z l c) d b m:=rfl
theorem acA (z:Int)(l:List Ty)(c:Int)(d:ByteArray)(b:Bool)(m:Nat):(b&&decide (m<=l.length)&&decide ((l.length:Int)-c<=m))=oJ (Ty.mk 5 z l c) d b m:=rfl
theorem wC {k z:Int}{l:List Ty}{j:Int}{c:ByteArray}{b:Bool}{s:List It}(i:oJ (Ty.mk k z l j) c b s.length=true)(d:(It.mk c b s).right=true)(h:k=1\/k=2\/k=3):s= []:=by
 have e:b=false:=by
  cases b with
  |false=>rfl
  |true=>rcases h with rfl|rfl|rfl<;>simp[oJ]at i
 subst e;simp only[It.right,zx]at d;exact zo (by simpa[formed]using d.1)
theorem Uf :∀(x:It) (B:Nat) (w:World) (c0 c1 c2:Value),dg w B x c0 c1 c2->B<=w.heap.size->x.right=true->∀(ty:Ty) (t0 t1 t2 t3:Value),cD w B ty t0 t1 t2 t3->ty.right=true->∀L M g,FV w L M g->
 Calls prog 169 #[.agg #[t0,t1,t2,t3],.agg #[c0,c1,c2],.pointer (some ⟨L,0,none⟩),.pointer (some ⟨M,0,none⟩)] w fun e w'=>e= .returned (.bool (x.dj ty))/\Below w.heap.size w w':=by
 intro x;induction x using It.ind with
 |h t l s ih=>
  intro B w c0 c1 c2 h hB hr ty t0 t1 t2 t3 hT rA L M g n;obtain⟨rfl,rfl,ht,hs,A,cap,rfl,qZ,mR,eH⟩:=h;have IH:=za ih;have HS:=za eH;clear ih eH;obtain⟨k,z,d,F⟩:=ty;obtain⟨rfl,rfl,rfl,hk,hz,oF,uC,I,r,rfl,ak,al,RO⟩:=hT;obtain⟨bF,Ar⟩:=jM rA;have D7:=za hr;have D3:=za RO;have aj:=za Ar;have HR:Hid ((It.mk t l s).dj (Ty.mk k z d F)=(oJ (Ty.mk k z d F) t l s.length&&cV s (Ty.mk k z d F) 0)):=za (by simp only[It.dj]);generalize (It.mk t l s).dj (Ty.mk k z d F)=R at*;unfold mJ at hk hz oF;clear hr RO Ar rA;rcases lT bF with⟨rfl,h3,hn,rfl⟩|⟨rfl,h3,h4,hn,rfl⟩|⟨rfl,h3,h4,hn,rfl⟩|⟨rfl,h3,h4,hn,rfl⟩|⟨rfl,rfl,h4,h5,h6⟩
  ·skip
   clear bF IH HS hn;have W:=za (nP (w:=((w.alloc (.cells #[.int .i64 1,.int .i64 z,.slice I d.length r,.int .i64 0] 43)).alloc (.cells #[.string t,.bool l,.slice A s.length cap] 28))) (es:=On) (c:=5) (((n.below ((zl _ _).alloc (zd _) _)).below ((zl _ _).alloc (zd _) _)).mp) 1 _ _ rfl);have X:=W.out;simp only[mz,jT,kM,qJ,kD]at X;have hf:∀w,(Instr.field 221 (.agg #[.func (.func 198) #[] #[],.func (.func 196) #[] #[]]) 0).run prog w= .ok (.func (.func 198) #[] #[]) w:=fun _=>by kernel_rfl
   have UT:w.cell? ⟨L,0,none⟩=some (.map (some g)):=n.of_.cell 0;have LP:=n.lt.1;obtain⟨H,U⟩:∃H,oJ (Ty.mk 1 z d 0) t l s.length=H:=⟨_,rfl⟩
   have D:=za U;have HV:=za n;clear U n W;go_enter Yf,Z7
   go_wp2_with fail
   refine(Xx 1 z 0 _ t l _ _ ht (by omega)).mono ?_;rintro e u ⟨rfl,C⟩;have y:=C;simp only[zp]at y;have G:Hid (Below w.heap.size w u):=za (((zl w.heap.size w).alloc (zd _) _|>.alloc (by simp) _).trans (y.mono (by omega)));have M1:Hid (af u w.heap.size 43 #[.int .i64 1,.int .i64 z,.slice I d.length r,.int .i64 0]):=za (((af.new w _ _).alloc _).only (ae.ah C (zd _)) (by simp));have M2:Hid (af u (w.heap.size+1) 28 #[.string t,.bool l,.slice A s.length cap]):=za ((show af _ (w.heap.size+1) _ _ from by have:=af.new (w.alloc (.cells #[.int .i64 1,.int .i64 z,.slice I d.length r,.int .i64 0] 43)) 28 #[.string t,.bool l,.slice A s.length cap];simpa using this).only (ae.ah C (zd _)) (by simp));have cl:=y.size;simp only[zp]at cl;clear C y X UT;rw[acw z d 0 t l s.length,D.out];obtain⟨g0,g1,g2,_,_,_⟩:=bg M2.out;cases H with
   |false=>
    have E:Hid (R=false):=za (by rw[HR.out,D.out];rfl);go_wp2;go_ret;exact⟨by rw[E.out];rfl,G.out⟩
   |true=>
    have Br:=wC D.out D7.out (by first|exact .inl rfl|exact .inr (.inl rfl)|exact .inr (.inr rfl));have E:Hid (R=true):=za (by rw[HR.out,D.out,Br];rfl);have RP:s.length=0:=by rw[Br];rfl
    clear Br;rw[RP]at g2;go_wp2_with fail
    refine ya 1 ?_;rw[yn];go_wp2;go_ret;exact⟨by rw[E.out];rfl,G.out⟩
  ·skip
   clear bF IH HS hn;have W:=za (nP (w:=((w.alloc (.cells #[.int .i64 2,.int .i64 z,.slice I d.length r,.int .i64 0] 43)).alloc (.cells #[.string t,.bool l,.slice A s.length cap] 28))) (es:=On) (c:=5) (((n.below ((zl _ _).alloc (zd _) _)).below ((zl _ _).alloc (zd _) _)).mp) 2 _ _ rfl);have X:=W.out;simp only[mz,jT,kM,qJ,kD]at X;have hf:∀w,(Instr.field 221 (.agg #[.func (.func 199) #[] #[],.func (.func 200) #[] #[]]) 0).run prog w= .ok (.func (.func 199) #[] #[]) w:=fun _=>by kernel_rfl
   have UT:w.cell? ⟨L,0,none⟩=some (.map (some g)):=n.of_.cell 0;have LP:=n.lt.1;obtain⟨H,U⟩:∃H,oJ (Ty.mk 2 z d 0) t l s.length=H:=⟨_,rfl⟩
   have D:=za U;have HV:=za n;clear U n W;go_enter Yf,Z7
   go_wp2_with fail
   refine(Xy 2 z 0 I d.length r t l A s.length cap _ ht uC hs (by omega) (by omega)).mono ?_;rintro e u ⟨rfl,C⟩;have y:=C;simp only[zp]at y;have G:Hid (Below w.heap.size w u):=za (((zl w.heap.size w).alloc (zd _) _|>.alloc (by simp) _).trans (y.mono (by omega)));have M1:Hid (af u w.heap.size 43 #[.int .i64 2,.int .i64 z,.slice I d.length r,.int .i64 0]):=za (((af.new w _ _).alloc _).only (ae.ah C (zd _)) (by simp));have M2:Hid (af u (w.heap.size+1) 28 #[.string t,.bool l,.slice A s.length cap]):=za ((show af _ (w.heap.size+1) _ _ from by have:=af.new (w.alloc (.cells #[.int .i64 2,.int .i64 z,.slice I d.length r,.int .i64 0] 43)) 28 #[.string t,.bool l,.slice A s.length cap];simpa using this).only (ae.ah C (zd _)) (by simp));have cl:=y.size;simp only[zp]at cl;clear C y X UT;rw[acx z d 0 t l s.length,D.out];obtain⟨g0,g1,g2,_,_,_⟩:=bg M2.out;cases H with
   |false=>
    have E:Hid (R=false):=za (by rw[HR.out,D.out];rfl);go_wp2;go_ret;exact⟨by rw[E.out];rfl,G.out⟩
   |true=>
    have Br:=wC D.out D7.out (by first|exact .inl rfl|exact .inr (.inl rfl)|exact .inr (.inr rfl));have E:Hid (R=true):=za (by rw[HR.out,D.out,Br];rfl);have RP:s.length=0:=by rw[Br];rfl
    clear Br;rw[RP]at g2;go_wp2_with fail
    refine ya 1 ?_;rw[yn];go_wp2;go_ret;exact⟨by rw[E.out];rfl,G.out⟩
  ·skip
   clear bF IH HS hn;have W:=za (nP (w:=((w.alloc (.cells #[.int .i64 3,.int .i64 z,.slice I d.length r,.int .i64 0] 43)).alloc (.cells #[.string t,.bool l,.slice A s.length cap] 28))) (es:=On) (c:=5) (((n.below ((zl _ _).alloc (zd _) _)).below ((zl _ _).alloc (zd _) _)).mp) 3 _ _ rfl);have X:=W.out;simp only[mz,jT,kM,qJ,kD]at X;have hf:∀w,(Instr.field 221 (.agg #[.func (.func 202) #[] #[],.func (.func 196) #[] #[]]) 0).run prog w= .ok (.func (.func 202) #[] #[]) w:=fun _=>by kernel_rfl
   have UT:w.cell? ⟨L,0,none⟩=some (.map (some g)):=n.of_.cell 0;have LP:=n.lt.1;obtain⟨H,U⟩:∃H,oJ (Ty.mk 3 z d 0) t l s.length=H:=⟨_,rfl⟩
   have D:=za U;have HV:=za n;clear U n W;go_enter Yf,Z7
   go_wp2_with fail
   refine(Xz 3 z 0 I d.length r t l A s.length cap _ ht uC hs (by omega) (by omega)).mono ?_;rintro e u ⟨rfl,C⟩;have y:=C;simp only[zp]at y;have G:Hid (Below w.heap.size w u):=za (((zl w.heap.size w).alloc (zd _) _|>.alloc (by simp) _).trans (y.mono (by omega)));have M1:Hid (af u w.heap.size 43 #[.int .i64 3,.int .i64 z,.slice I d.length r,.int .i64 0]):=za (((af.new w _ _).alloc _).only (ae.ah C (zd _)) (by simp));have M2:Hid (af u (w.heap.size+1) 28 #[.string t,.bool l,.slice A s.length cap]):=za ((show af _ (w.heap.size+1) _ _ from by have:=af.new (w.alloc (.cells #[.int .i64 3,.int .i64 z,.slice I d.length r,.int .i64 0] 43)) 28 #[.string t,.bool l,.slice A s.length cap];simpa using this).only (ae.ah C (zd _)) (by simp));have cl:=y.size;simp only[zp]at cl;clear C y X UT;rw[acy z d 0 t l s.length,D.out];obtain⟨g0,g1,g2,_,_,_⟩:=bg M2.out;cases H with
   |false=>
    have E:Hid (R=false):=za (by rw[HR.out,D.out];rfl);go_wp2;go_ret;exact⟨by rw[E.out];rfl,G.out⟩
   |true=>
    have Br:=wC D.out D7.out (by first|exact .inl rfl|exact .inr (.inl rfl)|exact .inr (.inr rfl));have E:Hid (R=true):=za (by rw[HR.out,D.out,Br];rfl);have RP:s.length=0:=by rw[Br];rfl
    clear Br;rw[RP]at g2;go_wp2_with fail
    refine ya 1 ?_;rw[yn];go_wp2;go_ret;exact⟨by rw[E.out];rfl,G.out⟩
  ·clear bF;have hj:∀i:Nat,i<s.length->Oo 4 i<d.length:=fun i _=>by show 0<d.length;omega
   have S9:∀i:Nat,QE 4 i (Oo 4 i):=fun i=> .inl ⟨rfl,rfl⟩
   have HJ:=za (fun(_:oJ (Ty.mk 4 z d 0) t l s.length=true)=>hj);have ab:=za S9;clear hj S9 hn;have W:=za (nP (w:=((w.alloc (.cells #[.int .i64 4,.int .i64 z,.slice I d.length r,.int .i64 0] 43)).alloc (.cells #[.string t,.bool l,.slice A s.length cap] 28))) (es:=On) (c:=5) (((n.below ((zl _ _).alloc (zd _) _)).below ((zl _ _).alloc (zd _) _)).mp) 4 _ _ rfl);have X:=W.out;simp only[mz,jT,kM,qJ,kD]at X;have hf:∀w,(Instr.field 221 (.agg #[.func (.func 203) #[] #[],.func (.func 204) #[] #[]]) 0).run prog w= .ok (.func (.func 203) #[] #[]) w:=fun _=>by kernel_rfl
   have UT:w.cell? ⟨L,0,none⟩=some (.map (some g)):=n.of_.cell 0;have LP:=n.lt.1;obtain⟨H,U⟩:∃H,oJ (Ty.mk 4 z d 0) t l s.length=H:=⟨_,rfl⟩
   have D:=za U;have HV:=za n;clear U n W;go_enter Yf,Z7
   go_wp2_with fail
   refine(XA 4 z 0 I d.length r t l A s.length cap _ ht uC hs (by omega) (by omega)).mono ?_;rintro e u ⟨rfl,C⟩;have y:=C;simp only[zp]at y;have G:Hid (Below w.heap.size w u):=za (((zl w.heap.size w).alloc (zd _) _|>.alloc (by simp) _).trans (y.mono (by omega)));have M1:Hid (af u w.heap.size 43 #[.int .i64 4,.int .i64 z,.slice I d.length r,.int .i64 0]):=za (((af.new w _ _).alloc _).only (ae.ah C (zd _)) (by simp));have M2:Hid (af u (w.heap.size+1) 28 #[.string t,.bool l,.slice A s.length cap]):=za ((show af _ (w.heap.size+1) _ _ from by have:=af.new (w.alloc (.cells #[.int .i64 4,.int .i64 z,.slice I d.length r,.int .i64 0] 43)) 28 #[.string t,.bool l,.slice A s.length cap];simpa using this).only (ae.ah C (zd _)) (by simp));have cl:=y.size;simp only[zp]at cl;clear C y X UT;rw[acz z d 0 t l s.length,D.out];obtain⟨g0,g1,g2,_,_,_⟩:=bg M2.out;cases H with
   |false=>
    have E:Hid (R=false):=za (by rw[HR.out,D.out];rfl);go_wp2;go_ret;exact⟨by rw[E.out];rfl,G.out⟩
   |true=>
    have E:Hid (R=cV s (Ty.mk 4 z d 0) 0):=za (by rw[HR.out,D.out];rfl);have ad:=za (HJ.out D.out);have uH:=za (HV.out.below G.out);clear HJ HR;go_wp2_with fail
    go_loopw [21] (fun i wr=>∃m:Nat,m<=s.length/\i= .int .i64 m/\Hid (cV (s.take m) (Ty.mk 4 z d 0) 0=true)/\Below (w.heap.size+2) u wr) (fun i _=>s.length-(intOf i).toNat)
    case atStart=>exact⟨0,by omega,rfl,za (by simp[cV]),zl _ _⟩
    case round=>
     obtain⟨m,S4,rfl,hm,uG⟩:=hrel;have Y:=za uG;have UF:=uG.size;clear uG g0 g1 g2;obtain⟨g0,g1,g2,_,_,_⟩:=bg (M2.out.ag Y.out (by omega));by_cases Z:m<s.length
     ·have JW:=za (uH.out.ag Y.out (by have:=HV.out.lt;omega) (by have:=HV.out.lt;omega) (by have:=HV.out.lt;omega));have O:Below B w wr:=(G.out.mono hB).trans (Y.out.mono (by omega));obtain⟨b,o,d0,d1,d2,rfl,kY,e0,e1,e2,hi⟩:=HS.out.at_ m Z;simp only[zM]at e0 e1 e2;replace e0:=(O.cell (p:=⟨b,o+m*3,none⟩) kY).trans e0;replace e1:=(O.cell (p:=⟨b,o+m*3+1,none⟩) kY).trans e1;replace e2:=(O.cell (p:=⟨b,o+m*3+2,none⟩) kY).trans e2;obtain⟨A3,ra,rfl,rfl,rfl,_⟩:=hi.open_;obtain⟨j,hj⟩:∃j,Oo 4 m=j:=⟨_,rfl⟩
      have tX:=ad.out m Z;have S9:=ab.out m;rw[hj]at tX S9;have ai:=za S9;obtain⟨K,o',f0,f1,f2,f3,rfl,mm,k0,k1,k2,k3,x'⟩:=D3.out.at_ j tX;simp only[zM]at k0 k1 k2 k3;have rk:Hid ((Ty.mk 4 z d 0).at m=d[j]):=za (by show(d[Oo 4 m]?).getD (.mk 0 0 [] 0)=d[j];rw[hj,zA tX];rfl);have D0:=za (x'.below O);obtain⟨A4,D8,rfl,rfl,rfl,rfl,_⟩:=x'.open_;obtain⟨q,cm⟩:∃q,wr.alloc (.cells #[.string s[m].text,.bool s[m].list,.slice A3 s[m].sub.length ra] 28)=q:=⟨_,rfl⟩
      have cG:Hid (Below wr.heap.size wr q):=za (by rw[<-cm];exact(zl _ wr).alloc (zd _) _);have By:Hid (q.heap.size=wr.heap.size+1):=za (by rw[<-cm];simp);have VT:Hid (af q wr.heap.size 28 #[.string s[m].text,.bool s[m].list,.slice A3 s[m].sub.length ra]):=za (by rw[<-cm];exact af.new wr _ _);have ag:=za cm;have Bz:Hid (∀V,Below (wr.heap.size+1) q V->Below B w V/\Below (w.heap.size+2) u V/\wr.heap.size+1<=V.heap.size):=za (fun V n=>⟨O.trans ((cG.out.mono (by have:=O.size;omega)).trans (n.mono (by have:=O.size;omega))),Y.out.trans ((cG.out.mono (by omega)).trans (n.mono (by omega))),by have:=n.size;have:=By.out;omega⟩);have N:Hid (∀V,Below (wr.heap.size+1) q V->V.cell? ⟨M,0,none⟩=some (.func (.func 169) #[] #[.pointer (some ⟨L,0,none⟩),.pointer (some ⟨M,0,none⟩)])/\
       V.cell? ⟨w.heap.size,0,none⟩=some (.int .i64 4)/\V.cell? ⟨w.heap.size,1,none⟩=some (.int .i64 z)/\V.cell? ⟨w.heap.size,2,none⟩=some (.slice (some ⟨K,o',none⟩) d.length r)/\V.cell? ⟨w.heap.size,3,none⟩=some (.int .i64 0)/\
       V.cell? ⟨wr.heap.size,0,none⟩=some (.string s[m].text)/\V.cell? ⟨wr.heap.size,1,none⟩=some (.bool s[m].list)/\V.cell? ⟨wr.heap.size,2,none⟩=some (.slice A3 s[m].sub.length ra)/\Below (wr.heap.size+1) q V):=za (fun V n=>by
       have J:=Bz.out V n;have S:=JW.out.lt;have m1:=((JW.out.ag cG.out S.1 S.2.1 S.2.2).ag n (by omega) (by omega) (by omega)).fn.cell 0;have m2:=M1.out.ag J.2.1 (by omega);have m3:=VT.out.ag n (by omega);exact⟨m1,m2.cell 0,m2.cell 1,m2.cell 2,m2.cell 3,m3.cell 0,m3.cell 1,m3.cell 2,n⟩)
      have ah:Hid (∀V,Below (wr.heap.size+1) q V->Calls prog 170 #[.agg #[.int .i64 4,.int .i64 z,.slice (some ⟨K,o',none⟩) d.length r,.int .i64 0],.int .i64 m] V fun e w'=>e= .returned (.agg #[.int .i64 d[j].kind,.int .i64 d[j].size,.slice A4 d[j].sub.length D8,.int .i64 d[j].tail])/\Below (wr.heap.size+1) q w'):=za (fun V n=>by
       have J:=Bz.out V n;refine(Ga 4 z 0 K o' d.length r m j _ _ _ A4 _ D8 V ai.out tX uC (by omega) ((J.1.cell (p:=⟨K,_,none⟩) mm).trans k0) ((J.1.cell (p:=⟨K,_,none⟩) mm).trans k1) ((J.1.cell (p:=⟨K,_,none⟩) mm).trans k2) ((J.1.cell (p:=⟨K,_,none⟩) mm).trans k3)).mono ?_;rintro e w' ⟨rfl,hx⟩;exact⟨rfl,n.trans (hx.mono (by omega))⟩)
      obtain⟨aa,hr⟩:∃aa,s[m].dj d[j]=aa:=⟨_,rfl⟩
      have US:Hid (∀V,Below (wr.heap.size+1) q V->Calls prog 169 #[.agg #[.int .i64 d[j].kind,.int .i64 d[j].size,.slice A4 d[j].sub.length D8,.int .i64 d[j].tail],.agg #[.string s[m].text,.bool s[m].list,.slice A3 s[m].sub.length ra],.pointer (some ⟨L,0,none⟩),.pointer (some ⟨M,0,none⟩)] V fun e w'=>e= .returned (.bool aa)/\Below (wr.heap.size+1) q w'):=za (fun V n=>by
       have J:=Bz.out V n;have S:=JW.out.lt;refine(IH.out _ (zN Z) B V _ _ _ (hi.below J.1) (by omega) (jN D7.out m Z) d[j] _ _ _ _ (x'.below J.1) (dQ aj.out j tX) L M g ((JW.out.ag cG.out S.1 S.2.1 S.2.2).ag n (by omega) (by omega) (by omega))).mono ?_;rintro e w' ⟨rfl,hx⟩;exact⟨by rw[hr],n.trans (hx.mono (by omega))⟩)
      have OG:Hid (s[m].dj ((Ty.mk 4 z d 0).at m)=aa):=za (by rw[rk.out,hr]);clear hi x' k0 k1 k2 k3 hj S9 hr cm D0;go_wp2_with fail
      rw[ag.out];obtain⟨x0,x1,x2,x3,x4,x5,x6,x7,x8⟩:=N.out q (zl _ _);go_region_held3 (fun V=>V.cell? ⟨M,0,none⟩=some (.func (.func 169) #[] #[.pointer (some ⟨L,0,none⟩),.pointer (some ⟨M,0,none⟩)])/\
       V.cell? ⟨w.heap.size,0,none⟩=some (.int .i64 4)/\V.cell? ⟨w.heap.size,1,none⟩=some (.int .i64 z)/\V.cell? ⟨w.heap.size,2,none⟩=some (.slice (some ⟨K,o',none⟩) d.length r)/\V.cell? ⟨w.heap.size,3,none⟩=some (.int .i64 0)/\
       V.cell? ⟨wr.heap.size,0,none⟩=some (.string s[m].text)/\V.cell? ⟨wr.heap.size,1,none⟩=some (.bool s[m].list)/\V.cell? ⟨wr.heap.size,2,none⟩=some (.slice A3 s[m].sub.length ra)/\Below (wr.heap.size+1) q V)
       (first|exact N.out _ x8|exact N.out _ hv|exact N.out _ hv.drew|exact N.out _ x8.drew|exact N.out _ (by assumption)|exact N.out _ (Below.drew (by assumption)))
       (first|(go_at_call 170;((with_reducible refine(ah.out _ (by first|assumption|exact Below.drew (by assumption)|exact Below.bG (by assumption) _)).mono ?_);rintro e w' ⟨rfl,hv⟩))|(go_at_call 169;((with_reducible refine(US.out _ (by first|assumption|exact Below.drew (by assumption)|exact Below.bG (by assumption) _)).mono ?_);rintro e w' ⟨rfl,hv⟩)))
      all_goals
       have du:Hid (Below (w.heap.size+2) u w'):=za (Y.out.trans ((cG.out.mono (by omega)).trans (hv.mono (by omega))));cases aa with
       |true=>
        have HN:Hid (cV (s.take (m+1)) (Ty.mk 4 z d 0) 0=true):=za (by rw[pb Z,hm.out,OG.out];rfl);go_wp2;go_roundw
        case rel=>exact⟨m+1,by omega,by go_num,HN,du.out⟩
        case measure=>simp[intOf];omega
       |false=>
        have HN:Hid (cV s (Ty.mk 4 z d 0) 0=false):=za (sN Z OG.out);go_wp2;go_ret;exact⟨by rw[E.out,HN.out];rfl,G.out.trans (du.out.mono (by omega))⟩
     have gJ:=hm.out;rw[zy (by omega)]at gJ;have HM:=za gJ;clear gJ;go_wp2;go_ret;exact⟨by rw[E.out,HM.out];rfl,G.out.trans (Y.out.mono (by omega))⟩
  clear bF;have HJ:Hid (oJ (Ty.mk 5 0 d F) t l s.length=true->∀i:Nat,i<s.length->Oo 5 i<d.length):=za (fun h i hi=>by
   show i<d.length
   have h2:=Bool.and_eq_true_iff.1 h;have h3:=ye (Bool.and_eq_true_iff.1 h2.1).2;simp at h3;omega)
  have ab:Hid (∀i:Nat,QE 5 i (Oo 5 i)):=za (fun i=> .inr ⟨by decide,rfl⟩);have W:=za (nP (w:=((w.alloc (.cells #[.int .i64 5,.int .i64 0,.slice I d.length r,.int .i64 F] 43)).alloc (.cells #[.string t,.bool l,.slice A s.length cap] 28))) (es:=On) (c:=5) (((n.below ((zl _ _).alloc (zd _) _)).below ((zl _ _).alloc (zd _) _)).mp) 5 _ _ rfl);have X:=W.out;simp only[mz,jT,kM,qJ,kD]at X;have hf:∀w,(Instr.field 221 (.agg #[.func (.func 206) #[] #[],.func (.func 207) #[] #[]]) 0).run prog w= .ok (.func (.func 206) #[] #[]) w:=fun _=>by kernel_rfl
  have UT:w.cell? ⟨L,0,none⟩=some (.map (some g)):=n.of_.cell 0;have LP:=n.lt.1;obtain⟨H,U⟩:∃H,oJ (Ty.mk 5 0 d F) t l s.length=H:=⟨_,rfl⟩
  have D:=za U;have HV:=za n;clear U n W;go_enter Yf,Z7
  go_wp2_with fail
  refine(XB 5 0 F I d.length r t l A s.length cap _ ht uC hs (by omega) (by omega)).mono ?_;rintro e u ⟨rfl,C⟩;have y:=C;simp only[zp]at y;have G:Hid (Below w.heap.size w u):=za (((zl w.heap.size w).alloc (zd _) _|>.alloc (by simp) _).trans (y.mono (by omega)));have M1:Hid (af u w.heap.size 43 #[.int .i64 5,.int .i64 0,.slice I d.length r,.int .i64 F]):=za (((af.new w _ _).alloc _).only (ae.ah C (zd _)) (by simp));have M2:Hid (af u (w.heap.size+1) 28 #[.string t,.bool l,.slice A s.length cap]):=za ((show af _ (w.heap.size+1) _ _ from by have:=af.new (w.alloc (.cells #[.int .i64 5,.int .i64 0,.slice I d.length r,.int .i64 F] 43)) 28 #[.string t,.bool l,.slice A s.length cap];simpa using this).only (ae.ah C (zd _)) (by simp));have cl:=y.size;simp only[zp]at cl;clear C y X UT;rw[acA 0 d F t l s.length,D.out];obtain⟨g0,g1,g2,_,_,_⟩:=bg M2.out;cases H with
  |false=>
   have E:Hid (R=false):=za (by rw[HR.out,D.out];rfl);go_wp2;go_ret;exact⟨by rw[E.out];rfl,G.out⟩
  |true=>
   have E:Hid (R=cV s (Ty.mk 5 0 d F) 0):=za (by rw[HR.out,D.out];rfl);have ad:=za (HJ.out D.out);have uH:=za (HV.out.below G.out);clear HJ HR;go_wp2_with fail
   go_loopw [21] (fun i wr=>∃m:Nat,m<=s.length/\i= .int .i64 m/\Hid (cV (s.take m) (Ty.mk 5 0 d F) 0=true)/\Below (w.heap.size+2) u wr) (fun i _=>s.length-(intOf i).toNat)
   case atStart=>exact⟨0,by omega,rfl,za (by simp[cV]),zl _ _⟩
   case round=>
    obtain⟨m,S4,rfl,hm,uG⟩:=hrel;have Y:=za uG;have UF:=uG.size;clear uG g0 g1 g2;obtain⟨g0,g1,g2,_,_,_⟩:=bg (M2.out.ag Y.out (by omega));by_cases Z:m<s.length
    ·have JW:=za (uH.out.ag Y.out (by have:=HV.out.lt;omega) (by have:=HV.out.lt;omega) (by have:=HV.out.lt;omega));have O:Below B w wr:=(G.out.mono hB).trans (Y.out.mono (by omega));obtain⟨b,o,d0,d1,d2,rfl,kY,e0,e1,e2,hi⟩:=HS.out.at_ m Z;simp only[zM]at e0 e1 e2;replace e0:=(O.cell (p:=⟨b,o+m*3,none⟩) kY).trans e0;replace e1:=(O.cell (p:=⟨b,o+m*3+1,none⟩) kY).trans e1;replace e2:=(O.cell (p:=⟨b,o+m*3+2,none⟩) kY).trans e2;obtain⟨A3,ra,rfl,rfl,rfl,_⟩:=hi.open_;obtain⟨j,hj⟩:∃j,Oo 5 m=j:=⟨_,rfl⟩
     have tX:=ad.out m Z;have S9:=ab.out m;rw[hj]at tX S9;have ai:=za S9;obtain⟨K,o',f0,f1,f2,f3,rfl,mm,k0,k1,k2,k3,x'⟩:=D3.out.at_ j tX;simp only[zM]at k0 k1 k2 k3;have rk:Hid ((Ty.mk 5 0 d F).at m=d[j]):=za (by show(d[Oo 5 m]?).getD (.mk 0 0 [] 0)=d[j];rw[hj,zA tX];rfl);have D0:=za (x'.below O);obtain⟨A4,D8,rfl,rfl,rfl,rfl,_⟩:=x'.open_;obtain⟨q,cm⟩:∃q,wr.alloc (.cells #[.string s[m].text,.bool s[m].list,.slice A3 s[m].sub.length ra] 28)=q:=⟨_,rfl⟩
     have cG:Hid (Below wr.heap.size wr q):=za (by rw[<-cm];exact(zl _ wr).alloc (zd _) _);have By:Hid (q.heap.size=wr.heap.size+1):=za (by rw[<-cm];simp);have VT:Hid (af q wr.heap.size 28 #[.string s[m].text,.bool s[m].list,.slice A3 s[m].sub.length ra]):=za (by rw[<-cm];exact af.new wr _ _);have ag:=za cm;have Bz:Hid (∀V,Below (wr.heap.size+1) q V->Below B w V/\Below (w.heap.size+2) u V/\wr.heap.size+1<=V.heap.size):=za (fun V n=>⟨O.trans ((cG.out.mono (by have:=O.size;omega)).trans (n.mono (by have:=O.size;omega))),Y.out.trans ((cG.out.mono (by omega)).trans (n.mono (by omega))),by have:=n.size;have:=By.out;omega⟩);have N:Hid (∀V,Below (wr.heap.size+1) q V->V.cell? ⟨M,0,none⟩=some (.func (.func 169) #[] #[.pointer (some ⟨L,0,none⟩),.pointer (some ⟨M,0,none⟩)])/\
      V.cell? ⟨w.heap.size,0,none⟩=some (.int .i64 5)/\V.cell? ⟨w.heap.size,1,none⟩=some (.int .i64 0)/\V.cell? ⟨w.heap.size,2,none⟩=some (.slice (some ⟨K,o',none⟩) d.length r)/\V.cell? ⟨w.heap.size,3,none⟩=some (.int .i64 F)/\
      V.cell? ⟨wr.heap.size,0,none⟩=some (.string s[m].text)/\V.cell? ⟨wr.heap.size,1,none⟩=some (.bool s[m].list)/\V.cell? ⟨wr.heap.size,2,none⟩=some (.slice A3 s[m].sub.length ra)/\Below (wr.heap.size+1) q V):=za (fun V n=>by
      have J:=Bz.out V n;have S:=JW.out.lt;have m1:=((JW.out.ag cG.out S.1 S.2.1 S.2.2).ag n (by omega) (by omega) (by omega)).fn.cell 0;have m2:=M1.out.ag J.2.1 (by omega);have m3:=VT.out.ag n (by omega);exact⟨m1,m2.cell 0,m2.cell 1,m2.cell 2,m2.cell 3,m3.cell 0,m3.cell 1,m3.cell 2,n⟩)
     have ah:Hid (∀V,Below (wr.heap.size+1) q V->Calls prog 170 #[.agg #[.int .i64 5,.int .i64 0,.slice (some ⟨K,o',none⟩) d.length r,.int .i64 F],.int .i64 m] V fun e w'=>e= .returned (.agg #[.int .i64 d[j].kind,.int .i64 d[j].size,.slice A4 d[j].sub.length D8,.int .i64 d[j].tail])/\Below (wr.heap.size+1) q w'):=za (fun V n=>by
      have J:=Bz.out V n;refine(Ga 5 0 F K o' d.length r m j _ _ _ A4 _ D8 V ai.out tX uC (by omega) ((J.1.cell (p:=⟨K,_,none⟩) mm).trans k0) ((J.1.cell (p:=⟨K,_,none⟩) mm).trans k1) ((J.1.cell (p:=⟨K,_,none⟩) mm).trans k2) ((J.1.cell (p:=⟨K,_,none⟩) mm).trans k3)).mono ?_;rintro e w' ⟨rfl,hx⟩;exact⟨rfl,n.trans (hx.mono (by omega))⟩)
     obtain⟨aa,hr⟩:∃aa,s[m].dj d[j]=aa:=⟨_,rfl⟩
     have US:Hid (∀V,Below (wr.heap.size+1) q V->Calls prog 169 #[.agg #[.int .i64 d[j].kind,.int .i64 d[j].size,.slice A4 d[j].sub.length D8,.int .i64 d[j].tail],.agg #[.string s[m].text,.bool s[m].list,.slice A3 s[m].sub.length ra],.pointer (some ⟨L,0,none⟩),.pointer (some ⟨M,0,none⟩)] V fun e w'=>e= .returned (.bool aa)/\Below (wr.heap.size+1) q w'):=za (fun V n=>by
      have J:=Bz.out V n;have S:=JW.out.lt;refine(IH.out _ (zN Z) B V _ _ _ (hi.below J.1) (by omega) (jN D7.out m Z) d[j] _ _ _ _ (x'.below J.1) (dQ aj.out j tX) L M g ((JW.out.ag cG.out S.1 S.2.1 S.2.2).ag n (by omega) (by omega) (by omega))).mono ?_;rintro e w' ⟨rfl,hx⟩;exact⟨by rw[hr],n.trans (hx.mono (by omega))⟩)
     have OG:Hid (s[m].dj ((Ty.mk 5 0 d F).at m)=aa):=za (by rw[rk.out,hr]);clear hi x' k0 k1 k2 k3 hj S9 hr cm D0;go_wp2_with fail
     rw[ag.out];obtain⟨x0,x1,x2,x3,x4,x5,x6,x7,x8⟩:=N.out q (zl _ _);go_region_held3 (fun V=>V.cell? ⟨M,0,none⟩=some (.func (.func 169) #[] #[.pointer (some ⟨L,0,none⟩),.pointer (some ⟨M,0,none⟩)])/\
      V.cell? ⟨w.heap.size,0,none⟩=some (.int .i64 5)/\V.cell? ⟨w.heap.size,1,none⟩=some (.int .i64 0)/\V.cell? ⟨w.heap.size,2,none⟩=some (.slice (some ⟨K,o',none⟩) d.length r)/\V.cell? ⟨w.heap.size,3,none⟩=some (.int .i64 F)/\
      V.cell? ⟨wr.heap.size,0,none⟩=some (.string s[m].text)/\V.cell? ⟨wr.heap.size,1,none⟩=some (.bool s[m].list)/\V.cell? ⟨wr.heap.size,2,none⟩=some (.slice A3 s[m].sub.length ra)/\Below (wr.heap.size+1) q V)
      (first|exact N.out _ x8|exact N.out _ hv|exact N.out _ hv.drew|exact N.out _ x8.drew|exact N.out _ (by assumption)|exact N.out _ (Below.drew (by assumption)))
      (first|(go_at_call 170;((with_reducible refine(ah.out _ (by first|assumption|exact Below.drew (by assumption)|exact Below.bG (by assumption) _)).mono ?_);rintro e w' ⟨rfl,hv⟩))|(go_at_call 169;((with_reducible refine(US.out _ (by first|assumption|exact Below.drew (by assumption)|exact Below.bG (by assumption) _)).mono ?_);rintro e w' ⟨rfl,hv⟩)))
     all_goals
      have du:Hid (Below (w.heap.size+2) u w'):=za (Y.out.trans ((cG.out.mono (by omega)).trans (hv.mono (by omega))));cases aa with
      |true=>
       have HN:Hid (cV (s.take (m+1)) (Ty.mk 5 0 d F) 0=true):=za (by rw[pb Z,hm.out,OG.out];rfl);go_wp2;go_roundw
       case rel=>exact⟨m+1,by omega,by go_num,HN,du.out⟩
       case measure=>simp[intOf];omega
      |false=>
       have HN:Hid (cV s (Ty.mk 5 0 d F) 0=false):=za (sN Z OG.out);go_wp2;go_ret;exact⟨by rw[E.out,HN.out];rfl,G.out.trans (du.out.mono (by omega))⟩
    have gJ:=hm.out;rw[zy (by omega)]at gJ;have HM:=za gJ;clear gJ;go_wp2;go_ret;exact⟨by rw[E.out,HM.out];rfl,G.out.trans (Y.out.mono (by omega))⟩
theorem Jj (ty:Ty)(x:It)(B:Nat)(w:World)(r o q t3 l n m:Value)(J:cD w B ty r o q t3)(H:dg w B x l n m)(U:B<=w.heap.size)(hL:Laid w):
 Calls prog 143 #[.agg #[r,o,q,t3],.agg #[l,n,m]] w fun e w'=>e= .returned (.int .i64 (eO ty x))/\Below w.heap.size w w':=by
 have gw:=hL.pos;obtain⟨k,p⟩:∃k,(w.alloc (.cells #[r,o,q,t3] 43)).alloc (.cells #[l,n,m] 28)=k:=⟨_,rfl⟩
 have z:Below w.heap.size w k:=by rw[<-p];exact((zl _ w).alloc (zd _) _).alloc (by simp) _
 have ea:k.heap.size=w.heap.size+2:=by rw[<-p];simp
 have Y:af k w.heap.size 43 #[r,o,q,t3]:=by rw[<-p];exact(af.new w _ _).alloc _
 have m2:af k (w.heap.size+1) 28 #[l,n,m]:=by rw[<-p];have:=af.new (w.alloc (.cells #[r,o,q,t3] 43)) 28 #[l,n,m];simpa using this
 have F:=za (kF ty B k r o q t3 (J.below (z.mono U)) (by omega) (hL.below z gw));have M:Hid (∀V,Below (w.heap.size+2) k V->Calls prog 167 #[.agg #[l,n,m]] V fun e w'=>e= .returned (.bool x.may)/\Below V.heap.size V w'):=za (fun V hV=>Vz x B V l n m ((H.below (z.mono U)).below (hV.mono (by omega))) (by have:=hV.size;omega));have gz:=za Y;have O:=za m2;have E:=za z;have HT:=za J;have HI:=za H;have S:=za p;obtain⟨a,C⟩:∃a,ty.may=a:=⟨_,rfl⟩
 obtain⟨b,D⟩:∃b,x.may=b:=⟨_,rfl⟩
 obtain⟨c,K⟩:∃c,x.dj ty=c:=⟨_,rfl⟩
 have N:Hid (eO ty x=if a&&b then(if c then 0 else 12)else 1):=za (by rw[eO,C,D,K]);have HA:=za C;have He:=za D;have S7:=za K;rw[C]at F;rw[D]at M;obtain⟨A,cap,rfl,rfl,rfl,rfl,_⟩:=J.open_;obtain⟨A',aq,rfl,rfl,rfl,_⟩:=H.open_;generalize eO ty x=R at*;generalize ty.kind=ki at*;generalize ty.size=si at*;generalize ty.tail=ta at*;clear C D K J H p Y m2;cases a with
 |false=>
  have s:Hid (R=1):=za (by rw[N.out];rfl);go_enter func143,ntmps143
  go_wp2_with fail
  rw[S.out];refine F.out.mono ?_;rintro e G ⟨rfl,j⟩;go_wp2;go_ret;exact⟨by rw[s.out];rfl,E.out.trans (j.mono (by omega))⟩
 |true=>
  cases b with
  |false=>
   have s:Hid (R=1):=za (by rw[N.out];rfl);go_enter func143,ntmps143
   go_wp2_with fail
   rw[S.out];refine F.out.mono ?_;rintro e G ⟨rfl,j⟩;obtain⟨g0,g1,g2,_,_,_⟩:=bg (O.out.ag j (by omega));have W:=j.size;go_wp2_with fail
   refine(M.out G (j.mono (by omega))).mono ?_;rintro e d ⟨rfl,y⟩;go_wp2;go_ret;exact⟨by rw[s.out];rfl,E.out.trans ((j.trans (y.mono W)).mono (by omega))⟩
  |true=>
   have s:Hid (R=if c then 0 else 12):=za (by rw[N.out];rfl);go_enter func143,ntmps143
   go_wp2_with fail
   rw[S.out];refine F.out.mono ?_;rintro e G ⟨rfl,j⟩;obtain⟨g0,g1,g2,_,_,_⟩:=bg (O.out.ag j (by omega));have W:=j.size;go_wp2_with fail
   refine(M.out G (j.mono (by omega))).mono ?_;rintro e d ⟨rfl,y⟩;have cC:=y.size;have du:Hid (Below (w.heap.size+2) k d):=za ((j.trans (y.mono W)).mono (by omega));clear g0 g1 g2 j y;go_wp2_with fail
   refine(T8 d).mono ?_;rintro e w3 ⟨rfl,rfl⟩;obtain⟨i,u⟩:∃i,((d.alloc (.map On.toArray 5)).alloc (.cells #[.map (some d.heap.size)] 217)).alloc (.cells #[.func (.func 169) #[] #[.pointer (some ⟨d.heap.size+1,0,none⟩),.pointer (some ⟨d.heap.size+1+1,0,none⟩)]] 95)=i:=⟨_,rfl⟩
   have CO:i.heap.size=d.heap.size+3:=by rw[<-u];simp
   have Z:Below d.heap.size d i:=by rw[<-u];exact(((zl _ _).alloc (zd _) _).alloc (by simp) _).alloc (by simp;omega) _
   have ab:Hid (FV i (d.heap.size+1) (d.heap.size+1+1) d.heap.size):=za (by
    rw[<-u];refine⟨?_, ?_, ?_⟩
    ·have:=(af.new (d.alloc (.map On.toArray 5)) 217 #[.map (some d.heap.size)])
     rw[zp]at this;exact this.alloc _
    ·have:=af.new ((d.alloc (.map On.toArray 5)).alloc (.cells #[.map (some d.heap.size)] 217)) 95 #[.func (.func 169) #[] #[.pointer (some ⟨d.heap.size+1,0,none⟩),.pointer (some ⟨d.heap.size+1+1,0,none⟩)]];rw[zp,zp]at this;exact this
    have h3:(d.alloc (.map On.toArray 5)).heap[d.heap.size]?=some (.map On.toArray 5):=yM d _;rw[ZE _ _ _ (by simp;omega),ZE _ _ _ (by simp)];exact h3)
   have I:Hid (Below (w.heap.size+2) k i):=za (du.out.trans (Z.mono (by omega)));have L:Below B w i:=(E.out.mono U).trans (I.out.mono (by omega));obtain⟨_,_,Ar⟩:=O4 HA.out;have aa:x.right=true:=by
    have h:=He.out;unfold It.may at h;simp only[zx]at h;exact h.1.1
   have X:=za (Uf x B i _ _ _ (HI.out.below L) (by omega) aa ty _ _ _ _ (HT.out.below L) Ar _ _ _ ab.out);rw[S7.out]at X;have rB:=za u;have n1:=gz.out.ag I.out (by omega);have n2:=O.out.ag I.out (by omega);have q0:i.cell? ⟨w.heap.size,0,none⟩=some (.int .i64 ki):=n1.cell 0;have q1:i.cell? ⟨w.heap.size,1,none⟩=some (.int .i64 si):=n1.cell 1;have q2:i.cell? ⟨w.heap.size,2,none⟩=some (.slice A ty.sub.length cap):=n1.cell 2;have q3:i.cell? ⟨w.heap.size,3,none⟩=some (.int .i64 ta):=n1.cell 3;have r0:i.cell? ⟨w.heap.size+1,0,none⟩=some (.string x.text):=n2.cell 0;have r1:i.cell? ⟨w.heap.size+1,1,none⟩=some (.bool x.list):=n2.cell 1;have r2:i.cell? ⟨w.heap.size+1,2,none⟩=some (.slice A' x.sub.length aq):=n2.cell 2;have l0:w.heap.size<d.heap.size:=by omega
   have l1:w.heap.size+1<d.heap.size:=by omega
   rw[<-u]at q0 q1 q2 q3 r0 r1 r2;clear u Z L Ar aa n1 n2;go_wp2_with fail
   rw[rB.out];refine X.out.mono ?_;rintro e w6 ⟨rfl,oH⟩;have sD:Hid (Below w.heap.size w w6):=za (E.out.trans ((I.out.mono (by omega)).trans (oH.mono (by omega))));clear oH;cases c with
   |true=>
    go_wp2;go_ret;exact⟨by rw[s.out];rfl,sD.out⟩
   |false=>
    go_wp2;go_ret;exact⟨by rw[s.out];rfl,sD.out⟩
theorem Nq (x:It)(B:Nat)(w:World)(b c d:Value)(h:dg w B x b c d)(n:B<=w.heap.size)(m:x.may=true)(l:x.right=true):
 Calls prog 153 #[.agg #[b,c,d]] w fun e w'=>e= .returned (.int .i64 x.count)/\Below w.heap.size w w':=by
 have j:=za (Jf x B (w.alloc (.cells #[b,c,d] 28)) b c d (h.below (blm n)) (by simp;omega) _ (.inr ⟨rfl,l⟩));have i:oZ x= .tuple #[.int .i64 x.count,.int .i64 x.deep,.bool true]:=by unfold oZ;rw[m];rfl
 rw[i]at j;obtain⟨A,cap,rfl,rfl,rfl,_⟩:=h.open_;clear h i;generalize x.deep=D at*;generalize x.count=R at*;go_enter func153,ntmps153
 go_wp2_with fail
 refine j.out.mono ?_;rintro e o ⟨rfl,k⟩;go_wp2;go_ret;exact⟨rfl,(yK (zl _ _) (zd _) _).trans (k.mono (by simp))⟩
theorem Jk {l:List UInt8}(h:∀b r,aJ 8 l=some (b,r)->eh 64 b):cP l=none:=by
 unfold cP;split
 ·rename_i x hx
  rw[(h x [] hx).may];rfl
 rfl
theorem Gb {l r:List UInt8}{t:Ty}(h:aJ 8 l=some (t,r))(b:r≠ []):cP l=none:=by
 unfold cP;rw[h];cases r with
 |nil=>exact absurd rfl b
 |cons c r=>rfl
theorem wD {l:List UInt8}{t:Ty}(h:aJ 8 l=some (t,[])):cP l=if t.may=true then some t else none:=by
 unfold cP;rw[h]
theorem Ug (s:ByteArray)(w:World)(hs:s.size<=100000)(Z:Laid w):
 Calls prog 124 #[.string s] w fun e w'=>FM w (cP s.data.toList) e w':=by
 have HC:=za (F1 8 1 rfl (w.heap.size+1) s 0 64 ((w.alloc (.cells #[.int .i64 0,.int .i64 0,.slice none 0 0,.int .i64 0] 43)).alloc (.cells #[.string s,.int .i64 0,.int .i64 64] 205)) (af.at_ (by simp)) (yc _) hs (zd _));have F:=(af.new w 43 #[.int .i64 0,.int .i64 0,.slice none 0 0,.int .i64 0]).alloc (.cells #[.string s,.int .i64 0,.int .i64 64] 205);have I:=((zl w.heap.size w).alloc (zd _) (.cells #[.int .i64 0,.int .i64 0,.slice none 0 0,.int .i64 0] 43)).alloc (by simp) (.cells #[.string s,.int .i64 0,.int .i64 64] 205);have gF:((w.alloc (.cells #[.int .i64 0,.int .i64 0,.slice none 0 0,.int .i64 0] 43)).alloc (.cells #[.string s,.int .i64 0,.int .i64 64] 205)).heap.size=w.heap.size+2:=by simp
 generalize U:((w.alloc (.cells #[.int .i64 0,.int .i64 0,.slice none 0 0,.int .i64 0] 43)).alloc (.cells #[.string s,.int .i64 0,.int .i64 64] 205))=W0 at*;have HW:=za U;have ad:=za F;have rE:=za I;have gw:=Z.pos;obtain⟨R,r⟩:∃R,Hid (cP s.data.toList=R):=⟨_,za rfl⟩
 rw[r.out];clear U F I;go_enter func124,ntmps124
 go_wp2_with fail
 rw[HW.out];refine HC.out.mono ?_;rintro e u ⟨t,ok,q,L1,k,z,x,A,n,cap,rfl,C,E,ag,l,B⟩;have G:=za (ad.out.only E (by simp));have y:Hid (Below w.heap.size w u):=za (rE.out.trans (E.below (by omega) (by simp)));obtain⟨d,j,p,b,S,W,O,J⟩:=aU G.out;have g1:=C.cells.2.1;have sC:w.heap.size+1<u.heap.size:=C.cells.2.2.2.2.2.2;have K:w.heap.size<u.heap.size:=by omega
 clear HC E C;cases ok with
 |false=>
  have c:Hid (R=none):=za (by rw[<-r.out];exact Jk (fun t' ab h=>l.2.1 rfl t' ab (by rw[zK];exact h)));clear l B;go_wp2;refine zk (v:= .tuple #[.agg #[.int .i64 0,.int .i64 0,.slice none 0 0,.int .i64 0],.int .i64 3]) (by simp[results,Yk,go_sem,d,j,p,b,zz,K]) rfl ?_;rw[c.out];exact⟨(((((y.out.setCell (by simp) _).setCell (by simp) _).setCell (by simp) _).setCell (by simp) _).alloc (by simp[World.setCell];omega) _),rfl⟩
 |true=>
  obtain⟨o,_,_⟩:=l.1 rfl;have ah:=l.2.2;rw[zK]at o;by_cases M:q=s.size
  ·subst M;have n1:((s.size:Int) !=(s.size:Int))=false:=by simp
   rw[zI (by rw[aa];exact zd _)]at o;have D:=wD o;have N:=za (B rfl);have HM:=za (kF t _ (u.alloc (.cells #[.int .i64 k,.int .i64 z,.slice A n cap,.int .i64 x] 43)) _ _ _ _ ((N.out.below ((zl _ _).alloc (zd _) _)).AZ) (zd _) (Z.below (y.out.alloc (by omega) _) gw));rw[r.out]at D;generalize t.may=m at*;have c:=za D;clear o D l B r;go_wp2_with fail
   refine HM.out.mono ?_;rintro e H ⟨rfl,i⟩;have CO:=i.size;simp only[zp]at CO;clear d j p b S W O J;obtain⟨d,j,p,b,S,W,O,J⟩:=aU ((G.out.alloc _).ag i (by simp;omega));obtain⟨b0,b1,b2,b3,kS,kU,kT,kR⟩:=aU ((af.new u 43 #[.int .i64 k,.int .i64 z,.slice A n cap,.int .i64 x]).ag i (by simp));have Y:Hid (Below w.heap.size w H):=za ((y.out.alloc (by omega) _).trans (i.mono (by simp;omega)));have Hf:=za ((N.out.below ((zl _ _).alloc (zd _) (.cells #[.int .i64 k,.int .i64 z,.slice A n cap,.int .i64 x] 43))).below i);clear i;cases m with
   |true=>
    go_wp2;refine zk (v:= .tuple #[.agg #[.int .i64 k,.int .i64 z,.slice A n cap,.int .i64 x],.int .i64 0]) (by simp[results,Yk,go_sem,d,j,p,b]) rfl ?_;rw[c.out,zi (by first|rfl|trivial)];exact⟨(((Y.out.setCell (by simp) _).setCell (by simp) _).setCell (by simp) _).setCell (by simp) _,_,_,_,_,rfl,Hf.out.only (L:= [w.heap.size]) (((((ae.refl _ H).setCell (by simp) _).setCell (by simp) _).setCell (by simp) _).setCell (by simp) _) (by simp;omega) (fun k _ X=>by have X:W0.heap.size<=k:=X;show w.heap.size<=k;omega)⟩
   |false=>
    go_wp2;refine zk (v:= .tuple #[.agg #[.int .i64 0,.int .i64 0,.slice none 0 0,.int .i64 0],.int .i64 3]) (by simp[results,Yk,go_sem,d,j,p,b]) rfl ?_;rw[c.out,zh (by simp)];exact⟨(((Y.out.setCell (by simp) _).setCell (by simp) _).setCell (by simp) _).setCell (by simp) _,rfl⟩
  have n1:((q:Int) !=(s.size:Int))=true:=yL.2 (by omega);have c:Hid (R=none):=za (by
   rw[<-r.out];refine Gb o (fun h0=> ?_);have:=xi List.length h0;simp only[zR,aa,zL]at this;omega)
  clear l B o M;go_wp2;refine zk (v:= .tuple #[.agg #[.int .i64 0,.int .i64 0,.slice none 0 0,.int .i64 0],.int .i64 3]) (by simp[results,Yk,go_sem,d,j,p,b,zz,K]) rfl ?_;rw[c.out];exact⟨(((((y.out.setCell (by simp) _).setCell (by simp) _).setCell (by simp) _).setCell (by simp) _).alloc (by simp[World.setCell];omega) _),rfl⟩
