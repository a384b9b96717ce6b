/- package registry: Encode. -/
import Derived.Test.YtdbmifjankgfpaaGreatDoorKA25
import Derived.Test.YtdbmifjankgfpaaGreatDoorKA38
import Derived.Test.YtdbmifjankgfpaaGreatDoorKA42
import Derived.Test.YtdbmifjankgfpaaGreatDoorKA44
import Derived.Test.YtdbmifjankgfpaaGreatDoorKA45
set_option linter.all false
set_option maxRecDepth 100000
set_option maxHeartbeats 3200000
open Go.Proofs.Tryz
namespace Go.Proofs.YtdbmifjankgfpaaGreatDoor
open Go.RowKit
variable {w w':World}{l:List bZ}{g k hi a0 n cap j d:Nat}{E a3 a4:Int}{A:Option Addr}{e:bD}{t:Ty}
def yl:=@heap_alloc_old
def ZO:=@results33
def ab5 (w:World)(S:Nat->Prop)(o:Option bD)(a0:Nat)(a1 a2:ByteArray)(a3 a4:Int)(A:Option Addr)(n cap:Nat)(a6:Int)(b:Bool):Prop:=
 (o=none/\b=false/\a0=0/\a1=⟨#[]⟩/\a2=⟨#[]⟩)\/∃e,o=some e/\b=true/\a0=e.id/\a1=e.name/\a2=e.ty/\fK w S e.shape (.int .i64 a3) (.int .i64 a4) (.slice A n cap) (.int .i64 a6)/\oN e/\cS e.ty.data.toList=some e.shape
theorem K4 {E x D:Nat}{c:aI}(h:mr w E hi g x D c l){o:Option bD}{s q:ByteArray}{p:Int}{b:Bool}(i:Qw l o a0 s q a3 a4 A n cap p b):ab5 w (fun k=>g<k/\k<hi) o a0 s q a3 a4 A n cap p b:=by
 rcases i with⟨j,m,d⟩|⟨r,i,j,m,d⟩
 ·simp[C1]at d;exact .inl ⟨j,m,by omega,d.2.1,d.2.2.1⟩
 obtain⟨J,I,H,L,e,G⟩:=h.rows r i;rw[e]at d;simp at d;obtain⟨K,C,F,B,y,u,z⟩:=d;subst B y u z;exact .inr ⟨r.1,j,m,by omega,C,F,G,h.sz r i,h.ok.ty r.1 (xH.2 ⟨r,i,rfl⟩)⟩
theorem Ug (lo hi g m gi:Nat)(c:aI)(l:List bZ)(nm:ByteArray)(x:It)(B:Nat)(w:World)(c0 c1 c2:Value)(h:mr w lo hi g m gi c l)(hI:dX w B x c0 c1 c2)(hB:B<=w.heap.size)(hL:Laid w)(jl:bq w)(hl:c.fm≠1->x.gN.length<=1099511627776):
 Calls prog 33 #[.pointer (some ⟨g,0,none⟩),.agg #[.string nm,c0,c1,c2]] w fun e w'=>e= .returned (.tuple #[(bI c (aK l) nm x).1.val,.int .i64 (bI c (aK l) nm x).2])/\Below w.heap.size w w':=by
 have tR:g<w.heap.size:=zU h.g2 h.his;have ai:m<w.heap.size:=h.nm.lt;obtain⟨y,D,rfl,rfl,rfl,_⟩:=hI.open_;obtain⟨W,H⟩:∃W,(w.alloc (.cells #[.string nm,.string x.text,.bool x.list,.slice y x.sub.length D] 30)).alloc (.cells #[.int .u64 0,.string ⟨#[]⟩,.string ⟨#[]⟩] 84)=W:=⟨_,rfl⟩
 have I:Below w.heap.size w W:=by rw[<-H];exact((zm _ w).alloc (zg _) _).alloc (by simp) _
 have Wg:W.heap.size=w.heap.size+2:=by rw[<-H];simp
 have Cw:af W w.heap.size 30 #[.string nm,.string x.text,.bool x.list,.slice y x.sub.length D]:=by rw[<-H];exact(af.new w _ _).alloc _
 have rk:af W (w.heap.size+1) 84 #[.int .u64 0,.string ⟨#[]⟩,.string ⟨#[]⟩]:=by rw[<-H];exact af.at_ (by simp)
 obtain⟨a0,J,a2,a3,a4,A,n,cap,k,b,qW,om⟩:=Df h nm;have Cv:=za (K4 h qW);have sw:=za om;have rz:=za (h.below (I.mono h.his));have HS:Hid (∀V:World,V.heap[g]?=W.heap[g]?/\V.heap[m]?=W.heap[m]?/\V.heap[w.heap.size]?=W.heap[w.heap.size]?->V.cell? ⟨g,6,none⟩=some (.map (some m))/\V.cell? ⟨w.heap.size,0,none⟩=some (.string nm)/\jv V m (AH l)):=za (fun V d=>⟨af.cell (show af V g _ _ from d.1.trans rz.out.blk) 6,af.cell (show af V w.heap.size _ _ from d.2.2.trans Cw) 0,rz.out.nm.ag d.2.1⟩);have ae:=za (hI.below (I.mono hB));have kg:=za Cw;have bQ:=za rk;have fZ:=za I;have HW:=za H;have G3:=za (hL.below I hL.pos);have Sb:=za (jl.below I jl.pos);have mR:Hid (bI c (aK l) nm x=match fN (aK l) nm with
  |none=>(rD,11)
  |some e=>if(bY c e.shape x).2≠0 then(rD,(bY c e.shape x).2)else if c.fm=1 then(⟨0,e.name,(bY c e.shape x).1⟩,0)else(⟨e.id,ByteArray.empty,(bY c e.shape x).1⟩,0)):=za rfl
 generalize bI c (aK l) nm x=ag at*;generalize fN (aK l) nm=aj at*;clear h hI hL jl H I Cw rk qW om;go_enter func33,ntmps33
 go_wp2_with fail
 rw[HW.out];refine aD 12 (fun V=>V.cell? ⟨g,6,none⟩=some (.map (some m))/\V.cell? ⟨w.heap.size,0,none⟩=some (.string nm)/\jv V m (AH l)) (by kernel_rfl) (by kernel_rfl) ?_;have hHeld:=HS.out W.drew ⟨rfl,rfl,rfl⟩;refine GT.jV [0,1,2,3,4,5,6,7,8,9] hHeld (fun _ _ _ _ _ h=>h) (by kernel_rfl) ?_;iterate 6 (refine .c rfl rfl (fun V d=>by go_simp<;>with_reducible rfl) ?_;simp only[Act.put,zb,zd,ze])
 refine .c (v:= .tuple #[.agg #[.int .u64 a0,.string J,.string a2,.int .i64 a3,.int .i64 a4,.slice A n cap,.int .i64 k],.bool b]) rfl rfl (fun V d=>by have hl:=sw.out V d.2.2;go_simp) ?_;try simp only[Act.put,zb,zd,ze];iterate 3 (refine .c rfl rfl (fun V d=>by go_simp<;>with_reducible rfl) ?_;simp only[Act.put,zb,zd,ze])
 refine .nil ?_;refine GT.fP 10 (fun K p=> ?_) rfl (by kernel_rfl);go_simp;have jZ:(W.alloc (.cells #[.int .u64 0,.string ⟨#[]⟩,.string ⟨#[]⟩,.int .i64 0,.int .i64 0,.slice none 0 0,.int .i64 0] 116)).drew.heap[g]?=W.heap[g]?/\(W.alloc (.cells #[.int .u64 0,.string ⟨#[]⟩,.string ⟨#[]⟩,.int .i64 0,.int .i64 0,.slice none 0 0,.int .i64 0] 116)).drew.heap[m]?=W.heap[m]?/\(W.alloc (.cells #[.int .u64 0,.string ⟨#[]⟩,.string ⟨#[]⟩,.int .i64 0,.int .i64 0,.slice none 0 0,.int .i64 0] 116)).drew.heap[w.heap.size]?=W.heap[w.heap.size]?:=⟨yl _ _ (by omega),yl _ _ (by omega),yl _ _ (by omega)⟩
 refine p.out _ _ (HS.out _ jZ) (fun hHeld=> ?_);clear p K;try simp only[Act.put,zb,zd,ze]
 refine GT.fP 11 (fun K p=> ?_) rfl (by kernel_rfl);go_simp;have fz:(W.alloc (.cells #[.int .u64 a0,.string J,.string a2,.int .i64 a3,.int .i64 a4,.slice A n cap,.int .i64 k] 116)).drew.heap[g]?=W.heap[g]?/\(W.alloc (.cells #[.int .u64 a0,.string J,.string a2,.int .i64 a3,.int .i64 a4,.slice A n cap,.int .i64 k] 116)).drew.heap[m]?=W.heap[m]?/\(W.alloc (.cells #[.int .u64 a0,.string J,.string a2,.int .i64 a3,.int .i64 a4,.slice A n cap,.int .i64 k] 116)).drew.heap[w.heap.size]?=W.heap[w.heap.size]?:=⟨yl _ _ (by omega),yl _ _ (by omega),yl _ _ (by omega)⟩
 refine p.out _ _ (HS.out _ fz) (fun hHeld=> ?_);clear p K;try simp only[Act.put,zb,zd,ze]
 refine GT.pt 12 ?_ rfl (by kernel_rfl);go_simp;obtain⟨i,Z⟩:∃i,(W.alloc (.cells #[.int .u64 a0,.string J,.string a2,.int .i64 a3,.int .i64 a4,.slice A n cap,.int .i64 k] 116)).drew=i:=⟨_,rfl⟩
 have C:Below W.heap.size W i:=by rw[<-Z];exact((zm _ W).alloc (zg _) _).drew
 have Gn:af i (w.heap.size+2) 116 #[.int .u64 a0,.string J,.string a2,.int .i64 a3,.int .i64 a4,.slice A n cap,.int .i64 k]:=by rw[<-Z];exact af.drew (af.at_ Wg)
 have z:=za (rz.out.below (C.mono rz.out.his));have UZ:=za (kg.out.ag C (by omega));have DP:=za (bQ.out.ag C (by omega));have X:=za Gn;have An:=za (fZ.out.trans (C.mono (by omega)));have qX:=za (ae.out.below (C.mono (by omega)));have Oc:=za (G3.out.below C G3.out.pos);have Sa:=za (Sb.out.below C Sb.out.pos);have cE:w.heap.size+2<i.heap.size:=Gn.lt;rw[Z];clear jZ fz Z C Gn sw HS hHeld;rcases Cv.out with⟨rfl,rfl,rfl,rfl,rfl⟩|⟨e,rfl,rfl,rfl,rfl,rfl,ot,ah,Ab⟩
 ·obtain⟨q0,q1,q2,V9,ad,ab⟩:=a8 DP.out;go_wp2;obtain⟨r,u,s⟩:=fG DP.out (.int .u64 0) (.string ⟨#[]⟩) (.string ⟨#[]⟩);refine zj (v:= .tuple #[.agg #[.int .u64 0,.string ⟨#[]⟩,.string ⟨#[]⟩],.int .i64 11]) (by simp[results,ZO,go_sem,r,u,s]) rfl ?_;rw[mR.out];exact⟨rfl,((An.out.setCell (by simp) _).setCell (by simp) _).setCell (by simp) _⟩
 have OB:=za ((ot.below An.out).Fg);obtain⟨u0,u1,u2,u3,u4,u5,u6⟩:=nz X.out;have q:Hid (ag=if(bY c e.shape x).2≠0 then(rD,(bY c e.shape x).2)else if c.fm=1 then(⟨0,e.name,(bY c e.shape x).1⟩,0)else(⟨e.id,ByteArray.empty,(bY c e.shape x).1⟩,0)):=mR;clear mR;clear ot;by_cases o:c.fm=1
 ·have M:tH c= .func (.func 88) #[.agg #[.int .i64 c.de,.int .i64 c.it]] #[]:=by unfold tH AK;rw[zi o]
  have aa:Hid (∀V,Below i.heap.size i V->Calls prog 88 #[.agg #[.int .i64 c.de,.int .i64 c.it],.agg #[.int .i64 a3,.int .i64 a4,.slice A n cap,.int .i64 k],.agg #[.string x.text,.bool x.list,.slice y x.sub.length D]] V fun L w'=>L= .returned (.tuple #[.string (bY c e.shape x).1,.int .i64 (bY c e.shape x).2])/\Below V.heap.size V w'):=za (fun V d=>by
   unfold bY;rw[zi o];exact FU e.shape x c.de c.it i.heap.size V _ _ _ _ _ _ _ (OB.out.below d) ((qX.out.below (d.mono (by omega))).mono (by omega)) d.size (Oc.out.below d Oc.out.pos) (Sa.out.below d Sa.out.pos))
  rw[zi o]at q;have Yq:((c.fm:Int)==1)=true:=yS.2 o;have U:Hid (∀V,Below i.heap.size i V->V.cell? ⟨g,8,none⟩=some (.func (.func 88) #[.agg #[.int .i64 c.de,.int .i64 c.it]] #[])/\V.cell? ⟨w.heap.size+2,3,none⟩=some (.int .i64 a3)/\V.cell? ⟨w.heap.size+2,4,none⟩=some (.int .i64 a4)/\V.cell? ⟨w.heap.size+2,5,none⟩=some (.slice A n cap)/\V.cell? ⟨w.heap.size+2,6,none⟩=some (.int .i64 k)/\V.cell? ⟨w.heap.size,1,none⟩=some (.string x.text)/\V.cell? ⟨w.heap.size,2,none⟩=some (.bool x.list)/\V.cell? ⟨w.heap.size,3,none⟩=some (.slice y x.sub.length D)):=za (fun V d=>by
   obtain⟨_,_,_,y3,y4,y5,y6⟩:=nz (X.out.ag d (by omega));obtain⟨_,G,z2,z3,_⟩:=aS (UZ.out.ag d (by omega));have Y:=(z.out.below (d.mono z.out.his)).cells.2.2.2.1;rw[M]at Y;exact⟨Y,y3,y4,y5,y6,G,z2,z3⟩)
  generalize (bY c e.shape x).1=PS at*;generalize (bY c e.shape x).2=PE at*;clear M o;go_wp2_with fail
  refine aD 14 (fun V=>V.cell? ⟨g,8,none⟩=some (.func (.func 88) #[.agg #[.int .i64 c.de,.int .i64 c.it]] #[])/\V.cell? ⟨w.heap.size+2,3,none⟩=some (.int .i64 a3)/\V.cell? ⟨w.heap.size+2,4,none⟩=some (.int .i64 a4)/\V.cell? ⟨w.heap.size+2,5,none⟩=some (.slice A n cap)/\V.cell? ⟨w.heap.size+2,6,none⟩=some (.int .i64 k)/\V.cell? ⟨w.heap.size,1,none⟩=some (.string x.text)/\V.cell? ⟨w.heap.size,2,none⟩=some (.bool x.list)/\V.cell? ⟨w.heap.size,3,none⟩=some (.slice y x.sub.length D)) (by kernel_rfl) (by kernel_rfl) ?_;have hHeld:=U.out i.drew bT;refine GT.jV [0,1,2,3,4,5,6,7,8] hHeld (fun _ _ _ _ _ h=>h) (by kernel_rfl) ?_;repeat(refine .c rfl rfl (fun V d=>by go_simp<;>with_reducible rfl) ?_;simp only[Act.put,zb,zd,ze])
  refine .nil ?_;refine GT.fP 9 (fun K p=> ?_) rfl (by kernel_rfl);go_simp;refine(aa.out i.drew bT).mono ?_;rintro L w3 ⟨rfl,N⟩;go_wp2_with fail
  have j:Below i.heap.size i w3:=(show Below i.heap.size i i.drew from bT).trans N;refine p.out _ _ (U.out w3 j) (fun hHeld=> ?_);clear p K;try simp only[Act.put,zb,zd,ze]
  refine GT.jV [10,11,12,13] hHeld (fun _ _ _ _ _ h=>h) (by kernel_rfl) ?_;repeat(refine .c rfl rfl (fun V d=>by go_simp<;>with_reducible rfl) ?_;simp only[Act.put,zb,zd,ze])
  refine .nil ?_;refine GT.pt 14 ?_ rfl (by kernel_rfl);go_simp;have g0:=(z.out.below (j.mono z.out.his)).cells.1;have E:=DP.out.ag j (by omega);have O:=X.out.ag j (by omega);have R:=za (An.out.trans (j.mono (by omega)));have S:=za E;clear N j hHeld u0 u1 u2 u3 u4 u5 u6;obtain⟨q0,q1,q2,V9,ad,ab⟩:=a8 E;obtain⟨u0,u1,u2,u3,u4,u5,u6⟩:=nz O;clear E O;rcases eY PE with⟨F,G,z2⟩|⟨F,G,z2⟩
  ·subst F;rw[zh (by simp)]at q;go_wp2;obtain⟨r,u,s⟩:=fG S.out (.int .u64 0) (.string e.name) (.string PS);refine zj (v:= .tuple #[.agg #[(.int .u64 0),(.string e.name),.string PS],.int .i64 0]) (by simp[results,ZO,go_sem,r,u,s]) rfl ?_;rw[q.out];exact⟨rfl,((R.out.setCell (by simp) _).setCell (by simp) _).setCell (by simp) _⟩
  rw[zi F]at q;go_wp2;obtain⟨r,u,s⟩:=fG S.out (.int .u64 0) (.string ⟨#[]⟩) (.string ⟨#[]⟩);refine zj (v:= .tuple #[.agg #[.int .u64 0,.string ⟨#[]⟩,.string ⟨#[]⟩],.int .i64 PE]) (by simp[results,ZO,go_sem,r,u,s]) rfl ?_;rw[q.out];exact⟨rfl,((R.out.setCell (by simp) _).setCell (by simp) _).setCell (by simp) _⟩
 have M:tH c= .func (.func 86) #[.agg #[.int .i64 c.de,.int .i64 c.it]] #[]:=by unfold tH AK;rw[zh o]
 have aa:Hid (∀V,Below i.heap.size i V->Calls prog 86 #[.agg #[.int .i64 c.de,.int .i64 c.it],.agg #[.int .i64 a3,.int .i64 a4,.slice A n cap,.int .i64 k],.agg #[.string x.text,.bool x.list,.slice y x.sub.length D]] V fun L w'=>L= .returned (.tuple #[.string (bY c e.shape x).1,.int .i64 (bY c e.shape x).2])/\Below V.heap.size V w'):=za (fun V d=>by
  unfold bY;rw[zh o];exact Nq e.shape x c.de c.it i.heap.size V _ _ _ _ _ _ _ (OB.out.below d) ((qX.out.below (d.mono (by omega))).mono (by omega)) d.size (Oc.out.below d Oc.out.pos) (hl o))
 rw[zh o]at q;have Yq:((c.fm:Int)==1)=false:=zo.2 o;have U:Hid (∀V,Below i.heap.size i V->V.cell? ⟨g,8,none⟩=some (.func (.func 86) #[.agg #[.int .i64 c.de,.int .i64 c.it]] #[])/\V.cell? ⟨w.heap.size+2,3,none⟩=some (.int .i64 a3)/\V.cell? ⟨w.heap.size+2,4,none⟩=some (.int .i64 a4)/\V.cell? ⟨w.heap.size+2,5,none⟩=some (.slice A n cap)/\V.cell? ⟨w.heap.size+2,6,none⟩=some (.int .i64 k)/\V.cell? ⟨w.heap.size,1,none⟩=some (.string x.text)/\V.cell? ⟨w.heap.size,2,none⟩=some (.bool x.list)/\V.cell? ⟨w.heap.size,3,none⟩=some (.slice y x.sub.length D)):=za (fun V d=>by
  obtain⟨_,_,_,y3,y4,y5,y6⟩:=nz (X.out.ag d (by omega));obtain⟨_,G,z2,z3,_⟩:=aS (UZ.out.ag d (by omega));have Y:=(z.out.below (d.mono z.out.his)).cells.2.2.2.1;rw[M]at Y;exact⟨Y,y3,y4,y5,y6,G,z2,z3⟩)
 generalize (bY c e.shape x).1=PS at*;generalize (bY c e.shape x).2=PE at*;clear M o;go_wp2_with fail
 refine aD 14 (fun V=>V.cell? ⟨g,8,none⟩=some (.func (.func 86) #[.agg #[.int .i64 c.de,.int .i64 c.it]] #[])/\V.cell? ⟨w.heap.size+2,3,none⟩=some (.int .i64 a3)/\V.cell? ⟨w.heap.size+2,4,none⟩=some (.int .i64 a4)/\V.cell? ⟨w.heap.size+2,5,none⟩=some (.slice A n cap)/\V.cell? ⟨w.heap.size+2,6,none⟩=some (.int .i64 k)/\V.cell? ⟨w.heap.size,1,none⟩=some (.string x.text)/\V.cell? ⟨w.heap.size,2,none⟩=some (.bool x.list)/\V.cell? ⟨w.heap.size,3,none⟩=some (.slice y x.sub.length D)) (by kernel_rfl) (by kernel_rfl) ?_;have hHeld:=U.out i.drew bT;refine GT.jV [0,1,2,3,4,5,6,7,8] hHeld (fun _ _ _ _ _ h=>h) (by kernel_rfl) ?_;repeat(refine .c rfl rfl (fun V d=>by go_simp<;>with_reducible rfl) ?_;simp only[Act.put,zb,zd,ze])
 refine .nil ?_;refine GT.fP 9 (fun K p=> ?_) rfl (by kernel_rfl);go_simp;refine(aa.out i.drew bT).mono ?_;rintro L w3 ⟨rfl,N⟩;go_wp2_with fail
 have j:Below i.heap.size i w3:=(show Below i.heap.size i i.drew from bT).trans N;refine p.out _ _ (U.out w3 j) (fun hHeld=> ?_);clear p K;try simp only[Act.put,zb,zd,ze]
 refine GT.jV [10,11,12,13] hHeld (fun _ _ _ _ _ h=>h) (by kernel_rfl) ?_;repeat(refine .c rfl rfl (fun V d=>by go_simp<;>with_reducible rfl) ?_;simp only[Act.put,zb,zd,ze])
 refine .nil ?_;refine GT.pt 14 ?_ rfl (by kernel_rfl);go_simp;have g0:=(z.out.below (j.mono z.out.his)).cells.1;have E:=DP.out.ag j (by omega);have O:=X.out.ag j (by omega);have R:=za (An.out.trans (j.mono (by omega)));have S:=za E;clear N j hHeld u0 u1 u2 u3 u4 u5 u6;obtain⟨q0,q1,q2,V9,ad,ab⟩:=a8 E;obtain⟨u0,u1,u2,u3,u4,u5,u6⟩:=nz O;clear E O;rcases eY PE with⟨F,G,z2⟩|⟨F,G,z2⟩
 ·subst F;rw[zh (by simp)]at q;go_wp2;obtain⟨r,u,s⟩:=fG S.out (.int .u64 e.id) (.string ⟨#[]⟩) (.string PS);refine zj (v:= .tuple #[.agg #[(.int .u64 e.id),(.string ⟨#[]⟩),.string PS],.int .i64 0]) (by simp[results,ZO,go_sem,r,u,s]) rfl ?_;rw[q.out];exact⟨rfl,((R.out.setCell (by simp) _).setCell (by simp) _).setCell (by simp) _⟩
 rw[zi F]at q;go_wp2;obtain⟨r,u,s⟩:=fG S.out (.int .u64 0) (.string ⟨#[]⟩) (.string ⟨#[]⟩);refine zj (v:= .tuple #[.agg #[.int .u64 0,.string ⟨#[]⟩,.string ⟨#[]⟩],.int .i64 PE]) (by simp[results,ZO,go_sem,r,u,s]) rfl ?_;rw[q.out];exact⟨rfl,((R.out.setCell (by simp) _).setCell (by simp) _).setCell (by simp) _⟩
def Vx (w:World)(D:Int×Ms)(e:Ending)(w':World):Prop:=Below w.heap.size w w'/\∃d0 d1 d2 d3,e= .returned (.tuple #[.agg #[d0,d1,d2,d3],.int .i64 D.1])/\pg w' (w.heap.size<= ·) D.2 d0 d1 d2 d3
theorem Dm (w:World)(S:Nat->Prop):pg w S rM (.string ⟨#[]⟩) (.string ⟨#[]⟩) (.bool false) (.slice none 0 0):=⟨rfl,by simp[rM,ByteArray.size],nF w S⟩
theorem iE {t:TypeId}{n j e z3:Value}(h:af w g t #[n,j,e,z3])(b c d v3:Value):(w.setCell ⟨g,0,none⟩ b).cell? ⟨g,0,none⟩=some b/\((w.setCell ⟨g,0,none⟩ b).setCell ⟨g,1,none⟩ c).cell? ⟨g,1,none⟩=some c/\(((w.setCell ⟨g,0,none⟩ b).setCell ⟨g,1,none⟩ c).setCell ⟨g,2,none⟩ d).cell? ⟨g,2,none⟩=some d/\((((w.setCell ⟨g,0,none⟩ b).setCell ⟨g,1,none⟩ c).setCell ⟨g,2,none⟩ d).setCell ⟨g,3,none⟩ v3).cell? ⟨g,3,none⟩=some v3:=by
 have m:af _ g t #[b,j,e,z3]:=h.store (i:=0) (u:=b) rfl;have k:af _ g t #[b,c,e,z3]:=m.store (i:=1) (u:=c) rfl;have l:af _ g t #[b,c,d,z3]:=k.store (i:=2) (u:=d) rfl;have o:af _ g t #[b,c,d,v3]:=l.store (i:=3) (u:=v3) rfl;exact⟨m.cell 0,k.cell 1,l.cell 2,o.cell 3⟩
theorem eM (w:World)(g:Nat)(c d b v3:Value):ae [g] w ((((w.setCell ⟨g,0,none⟩ c).setCell ⟨g,1,none⟩ d).setCell ⟨g,2,none⟩ b).setCell ⟨g,3,none⟩ v3):=((((ae.refl _ w).setCell (by simp) _).setCell (by simp) _).setCell (by simp) _).setCell (by simp) _
theorem Uh (lo hi g gn gi:Nat)(c:aI)(l:List bZ)(f:Fr)(w:World)(h:mr w lo hi g gn gi c l)(hL:Laid w)(jl:bq w)(hs:f.body.size<=1099511627776):
 Calls prog 64 #[.pointer (some ⟨g,0,none⟩),.agg #[.int .u64 f.id,.string f.nm,.string f.body]] w fun e w'=>Vx w (fh c (aK l) f) e w':=by
 obtain⟨W,J⟩:∃W,(w.alloc (.cells #[.int .u64 f.id,.string f.nm,.string f.body] 84)).alloc (.cells #[.string ⟨#[]⟩,.string ⟨#[]⟩,.bool false,.slice none 0 0] 30)=W:=⟨_,rfl⟩
 have S:Below w.heap.size w W:=by rw[<-J];exact((zm _ w).alloc (zg _) _).alloc (by simp) _
 have Wg:W.heap.size=w.heap.size+2:=by rw[<-J];simp
 have Cw:af W w.heap.size 84 #[.int .u64 f.id,.string f.nm,.string f.body]:=by rw[<-J];exact(af.new w _ _).alloc _
 have rk:af W (w.heap.size+1) 30 #[.string ⟨#[]⟩,.string ⟨#[]⟩,.bool false,.slice none 0 0]:=by rw[<-J];exact af.at_ (by simp)
 have rz:=za (h.below (S.mono h.his));have ad:=za (Xs lo hi g gn gi c l f W rz.out);have kg:=za Cw;have bQ:=za rk;have fZ:=za S;have HW:=za J;have G3:=za (hL.below S hL.pos);have Sb:=za (jl.below S jl.pos);have R:Hid (fh c (aK l) f=match gh c (aK l) f with
  |none=>(11,rM)
  |some e=>if(dD c e.shape f.body).1=0 then(0,⟨e.name,(dD c e.shape f.body).2⟩)else if(dD c e.shape f.body).1=2 then(3,rM)else((dD c e.shape f.body).1,rM)):=za rfl
 obtain⟨r0,r1,r2,_⟩:=a8 Cw;obtain⟨id,nm,body⟩:=f;simp only at r0 r1 r2 hs ad kg HW;generalize fh c (aK l) ⟨id,nm,body⟩=ar at*;clear h hL jl J S Cw rk;go_enter func64,ntmps64
 go_wp2_with fail
 rw[HW.out];refine ad.out.mono ?_;rintro e o ⟨E,a0,a1,a2,a3,a4,A,n,cap,G,b,rfl,qW⟩;have Cv:=za (K4 rz.out qW);obtain⟨d,U⟩:∃d,o.alloc (.cells #[.int .u64 a0,.string a1,.string a2,.int .i64 a3,.int .i64 a4,.slice A n cap,.int .i64 G] 116)=d:=⟨_,rfl⟩
 have u:Below W.heap.size W d:=by rw[<-U];exact E.alloc E.size _
 have cr:w.heap.size+2<=o.heap.size:=by have:=E.size;omega
 have rm:Hid (af d o.heap.size 116 #[.int .u64 a0,.string a1,.string a2,.int .i64 a3,.int .i64 a4,.slice A n cap,.int .i64 G]):=za (by rw[<-U];exact af.new _ _ _);have rp:=za (rz.out.below (u.mono rz.out.his));have UZ:=za (kg.out.ag u (by omega));have DP:=za (bQ.out.ag u (by omega));have An:=za (fZ.out.trans (u.mono (by omega)));have Oc:=za (G3.out.below u G3.out.pos);have Sa:=za (Sb.out.below u Sb.out.pos);have wZ:=za u;have al:=za (bQ.out.ag E (by omega));have an:=za (fZ.out.trans (E.mono (by omega)));have kV:w.heap.size+1<o.heap.size:=by omega
 have cE:o.heap.size<d.heap.size:=rm.out.lt;have su:=za U;clear E u qW U ad r0 r1 r2;rcases Cv.out with⟨N,rfl,rfl,rfl,rfl⟩|⟨e,N,rfl,rfl,rfl,rfl,ot,aj,Ab⟩
 ·rw[N]at R;clear Cv N;obtain⟨q0,q1,q2,q3,V9,au,ao,aq⟩:=aS al.out;go_wp2;obtain⟨x,C,z,s⟩:=iE al.out (.string ⟨#[]⟩) (.string ⟨#[]⟩) (.bool false) (.slice none 0 0);refine zj (v:= .tuple #[.agg #[.string ⟨#[]⟩,.string ⟨#[]⟩,.bool false,.slice none 0 0],.int .i64 11]) (by simp[results,results64,go_sem,x,C,z,s,zA,kV]) rfl ?_;rw[R.out];exact⟨(an.out.trans ((eM o (w.heap.size+1) _ _ _ _).below an.out.size (by simp))).alloc (by simp[World.setCell];omega) _,_,_,_,_,rfl,Dm _ _⟩
 have OB:=za ((ot.below wZ.out).Fg);rw[N]at R;have B:Hid (ar=if(dD c e.shape body).1=0 then(0,⟨e.name,(dD c e.shape body).2⟩)else if(dD c e.shape body).1=2 then(3,rM)else((dD c e.shape body).1,rM)):=R;have av:=aj.name;clear R Cv N ot aj Ab;have JD:(qo c= .func (.func 89) #[.agg #[.int .i64 c.de,.int .i64 c.it]] #[]/\Hid (∀V,Below d.heap.size d V->Calls prog 89 #[.agg #[.int .i64 c.de,.int .i64 c.it],.agg #[.int .i64 a3,.int .i64 a4,.slice A n cap,.int .i64 G],.string body] V fun M w'=>vD V w' (dD c e.shape body).2 (dD c e.shape body).1 M))\/(qo c= .func (.func 87) #[.agg #[.int .i64 c.de,.int .i64 c.it]] #[]/\Hid (∀V,Below d.heap.size d V->Calls prog 87 #[.agg #[.int .i64 c.de,.int .i64 c.it],.agg #[.int .i64 a3,.int .i64 a4,.slice A n cap,.int .i64 G],.string body] V fun M w'=>vD V w' (dD c e.shape body).2 (dD c e.shape body).1 M)):=by
  by_cases Y:c.fm=1
  ·refine .inl ⟨by unfold qo AK;rw[zi Y],za (fun V j=> ?_)⟩;unfold dD;rw[zi Y];exact FW e.shape body c.de c.it d.heap.size V _ _ _ _ (OB.out.below j) j.size (Oc.out.below j Oc.out.pos) (Sa.out.below j Sa.out.pos) hs
  refine .inr ⟨by unfold qo AK;rw[zh Y],za (fun V j=> ?_)⟩;unfold dD;rw[zh Y];exact Nr e.shape body c.de c.it d.heap.size V _ _ _ _ (OB.out.below j) j.size (Oc.out.below j Oc.out.pos) (by omega)
 rcases JD with⟨LG,aa⟩|⟨LG,aa⟩;all_goals
  have D:Hid (∀V,Below d.heap.size d V->V.cell? ⟨g,9,none⟩=some (qo c)/\V.cell? ⟨o.heap.size,3,none⟩=some (.int .i64 a3)/\V.cell? ⟨o.heap.size,4,none⟩=some (.int .i64 a4)/\V.cell? ⟨o.heap.size,5,none⟩=some (.slice A n cap)/\V.cell? ⟨o.heap.size,6,none⟩=some (.int .i64 G)/\V.cell? ⟨w.heap.size,2,none⟩=some (.string body)):=za (fun V j=>by
   obtain⟨_,_,_,s,y4,y5,y6⟩:=nz (rm.out.ag j (by omega));obtain⟨_,_,z2,_⟩:=a8 (UZ.out.ag j (by omega));have hp:=(rp.out.below (j.mono rp.out.his)).cells.2.2.2.2;exact⟨hp,s,y4,y5,y6,z2⟩)
  generalize (dD c e.shape body).1=PE at*;generalize (dD c e.shape body).2=PX at*;go_wp2_with fail
  rw[su.out];refine aD 15 (fun V=>V.cell? ⟨g,9,none⟩=some (qo c)/\V.cell? ⟨o.heap.size,3,none⟩=some (.int .i64 a3)/\V.cell? ⟨o.heap.size,4,none⟩=some (.int .i64 a4)/\V.cell? ⟨o.heap.size,5,none⟩=some (.slice A n cap)/\V.cell? ⟨o.heap.size,6,none⟩=some (.int .i64 G)/\V.cell? ⟨w.heap.size,2,none⟩=some (.string body)) (by kernel_rfl) (by kernel_rfl) ?_;have hHeld:=D.out d.drew bT;refine GT.jV [0,1,2,3,4,5,6,7,8] hHeld (fun _ _ _ _ _ h=>h) (by kernel_rfl) ?_;repeat(refine .c rfl rfl (fun V j=>by go_simp<;>with_reducible rfl) ?_;simp only[Act.put,zb,zd,ze])
  refine .nil ?_;refine GT.T4 9 13 rfl rfl (by kernel_rfl) (fun K i=> ?_) (fun K i=> ?_);focus
   go_simp;refine(aa.out d.drew bT).mono ?_;rintro M w3 ⟨F,d0,d1,d2,rfl,y⟩;obtain⟨r,bx,rfl,rfl,rfl,_⟩:=y.open_;have p:Below d.heap.size d w3:=(show Below d.heap.size d d.drew from bT).trans F;go_wp2_with fail
   refine i.out _ _ (D.out w3 p) (fun hHeld=> ?_);clear i K;try simp only[Act.put,zb,zd,ze]
   refine GT.jV [10,11,12] hHeld (fun _ _ _ _ _ h=>h) (by kernel_rfl) ?_;repeat(refine .c rfl rfl (fun V j=>by go_simp<;>with_reducible rfl) ?_;simp only[Act.put,zb,zd,ze])
   refine .nil ?_;refine GT.fP 13 (fun K i=> ?_) rfl (by kernel_rfl);go_simp;refine i.out _ _ (D.out _ (p.alloc p.size _)) (fun hHeld=> ?_);clear i K;try simp only[Act.put,zb,zd,ze]
   refine GT.fP 14 (fun K i=> ?_) rfl (by kernel_rfl);go_simp;refine i.out _ _ (D.out _ (p.alloc p.size _)) (fun hHeld=> ?_);clear i K;try simp only[Act.put,zb,zd,ze]
   refine GT.pt 15 ?_ rfl (by kernel_rfl);go_simp;obtain⟨m,q⟩:∃m,w3.alloc (.cells #[.string PX.text,.bool PX.list,.slice r PX.sub.length bx] 28)=m:=⟨_,rfl⟩
   have X:Hid (Below d.heap.size d m):=za (by rw[<-q];exact p.alloc p.size _);have ai:af m w3.heap.size 28 #[.string PX.text,.bool PX.list,.slice r PX.sub.length bx]:=by rw[<-q];exact af.new _ _ _
   have G1:Hid (gz m (d.heap.size<= ·) PX (.string PX.text) (.bool PX.list) (.slice r PX.sub.length bx)):=za (by rw[<-q];exact y.below ((zm _ _).alloc (zg _) _));rw[q];clear q F p y hHeld
  rotate_left
  focus
   go_simp;have O:Below d.heap.size d (d.alloc (.cells #[.string ⟨#[]⟩,.bool false,.slice none 0 0] 28)).drew:=((zm d.heap.size d).alloc (zg _) _).drew;have ag:af (d.alloc (.cells #[.string ⟨#[]⟩,.bool false,.slice none 0 0] 28)).drew d.heap.size 28 #[.string ⟨#[]⟩,.bool false,.slice none 0 0]:=(af.new d _ _).drew;refine i.out _ _ (D.out _ O) (fun hHeld=> ?_);clear i K;try simp only[Act.put,zb,zd,ze]
   refine GT.fP 9 (fun K i=> ?_) rfl (by kernel_rfl);go_simp;refine(aa.out _ O).mono ?_;rintro M w3 ⟨F,d0,d1,d2,rfl,y⟩;obtain⟨r,bx,rfl,rfl,rfl,_⟩:=y.open_;have p:Below d.heap.size d w3:=O.trans (F.mono O.size);have Sc:=ag.ag F ag.lt;go_wp2_with fail
   refine i.out _ _ (D.out w3 p) (fun hHeld=> ?_);clear i K;try simp only[Act.put,zb,zd,ze]
   refine GT.jV [10,11,12] hHeld (fun _ _ _ _ _ h=>h) (by kernel_rfl) ?_;repeat(refine .c rfl rfl (fun V j=>by go_simp<;>with_reducible rfl) ?_;simp only[Act.put,zb,zd,ze])
   refine .nil ?_;obtain⟨t0,t1,t2,LA,N',S5⟩:=a8 Sc;refine GT.fP 14 (fun K i=> ?_) rfl (by kernel_rfl);go_simp;have pK:Below d.heap.size d (((w3.setCell ⟨d.heap.size,0,none⟩ (.string PX.text)).setCell ⟨d.heap.size,1,none⟩ (.bool PX.list)).setCell ⟨d.heap.size,2,none⟩ (.slice r PX.sub.length bx)):=((p.setCell (by simp) _).setCell (by simp) _).setCell (by simp) _;refine i.out _ _ (D.out _ pK) (fun hHeld=> ?_);clear i K;try simp only[Act.put,zb,zd,ze]
   refine GT.pt 15 ?_ rfl (by kernel_rfl);go_simp;obtain⟨m,q⟩:∃m,(((w3.setCell ⟨d.heap.size,0,none⟩ (.string PX.text)).setCell ⟨d.heap.size,1,none⟩ (.bool PX.list)).setCell ⟨d.heap.size,2,none⟩ (.slice r PX.sub.length bx))=m:=⟨_,rfl⟩
   have X:Hid (Below d.heap.size d m):=za (by rw[<-q];exact pK);have ai:af m d.heap.size 28 #[.string PX.text,.bool PX.list,.slice r PX.sub.length bx]:=by rw[<-q];exact dK Sc _ _ _
   have G1:Hid (gz m (d.heap.size<= ·) PX (.string PX.text) (.bool PX.list) (.slice r PX.sub.length bx)):=za (by rw[<-q];exact y.only (L:= [d.heap.size]) ((((ae.refl _ w3).setCell (by simp) _).setCell (by simp) _).setCell (by simp) _) (by simp[World.drew]) (fun k _ I=>by have I:(d.alloc (.cells #[.string ⟨#[]⟩,.bool false,.slice none 0 0] 28)).heap.size<=k:=I;simp at I;show d.heap.size<=k;omega));rw[q];clear q F p y hHeld O ag pK Sc t0 t1 t2 LA N' S5
  all_goals
   have ab:=DP.out.ag X.out (by omega);have ak:=rm.out.ag X.out (by omega);have ah:=za ab;have H:=za (An.out.trans (X.out.mono (by omega)));obtain⟨q0,q1,q2,q3,V9,au,ao,aq⟩:=aS ab;obtain⟨u0,u1,u2,u3,u4,u5,u6⟩:=nz ak;obtain⟨t0,t1,t2⟩:=ku ai;clear ab ak ai;rcases eY PE with⟨he,z1,z2⟩|⟨he,z1,z2⟩
   ·subst he;rw[zi rfl]at B;go_wp2;obtain⟨x,C,z,s⟩:=iE ah.out (.string e.name) (.string PX.text) (.bool PX.list) (.slice r PX.sub.length bx);refine zj (v:= .tuple #[.agg #[.string e.name,.string PX.text,.bool PX.list,.slice r PX.sub.length bx],.int .i64 0]) (by simp[results,results64,go_sem,x,C,z,s]) rfl ?_;rw[B.out];exact⟨H.out.trans ((eM m (w.heap.size+1) _ _ _ _).below H.out.size (by simp)),_,_,_,_,rfl,rfl,by simp only;omega,G1.out.only (L:= [w.heap.size+1]) (eM m (w.heap.size+1) _ _ _ _) (by simp;omega) (fun k _ I=>by have I:d.heap.size<=k:=I;show w.heap.size<=k;omega)⟩
   rw[zh he]at B;by_cases Z:PE=2
   ·have z3:(PE==2)=true:=yS.2 Z;rw[zi Z]at B;go_wp2;obtain⟨x,C,z,s⟩:=iE ah.out (.string ⟨#[]⟩) (.string ⟨#[]⟩) (.bool false) (.slice none 0 0);refine zj (v:= .tuple #[.agg #[.string ⟨#[]⟩,.string ⟨#[]⟩,.bool false,.slice none 0 0],.int .i64 3]) (by simp[results,results64,go_sem,x,C,z,s]) rfl ?_;rw[B.out];exact⟨H.out.trans ((eM m (w.heap.size+1) _ _ _ _).below H.out.size (by simp)),_,_,_,_,rfl,Dm _ _⟩
   have z3:(PE==2)=false:=zo.2 Z;rw[zh Z]at B;go_wp2;obtain⟨x,C,z,s⟩:=iE ah.out (.string ⟨#[]⟩) (.string ⟨#[]⟩) (.bool false) (.slice none 0 0);refine zj (v:= .tuple #[.agg #[.string ⟨#[]⟩,.string ⟨#[]⟩,.bool false,.slice none 0 0],.int .i64 PE]) (by simp[results,results64,go_sem,x,C,z,s]) rfl ?_;rw[B.out];exact⟨H.out.trans ((eM m (w.heap.size+1) _ _ _ _).below H.out.size (by simp)),_,_,_,_,rfl,Dm _ _⟩
theorem mr.put {i:Nat}{c:aI}(h:mr w j hi g d i c l)(m:ae [d,i] w w')(hz:w'.heap.size=w.heap.size){v:Value}(o:jv w' d (AH (l++ [(e,v)])))(q:jv w' i (AI (l++ [(e,v)])))(u:Vi w (fun k=>g<k/\k<w.heap.size) (e,v))(x:gM c (aK l) e=0)(n:oN e):mr w' j w'.heap.size g d i c (l++ [(e,v)]) where
 blk:=h.blk.only m (by have:=h.n2;have:=h.i2;simp;omega)
 nm:=o
 ix:=q
 n1:=h.n1
 n2:=h.n2
 i1:=h.i1
 i2:=h.i2
 ne:=h.ne
 g2:=by have:=h.g2;have:=h.his;omega
 his:=zg _
 rows:=fun r b=>by
  have key:Vi w (fun k=>g<k/\k<w.heap.size) r:=by
   rcases ZD.1 b with b|b
   ·exact(h.rows r b).ag (fun k _ hS=>⟨hS.1,by have:=hS.2;have:=h.his;omega⟩) (fun _ _ _=>rfl)
   obtain rfl:=xw.1 b;exact u
  exact key.ag (fun k _ hS=>⟨hS.1,by have:=hS.2;omega⟩) fun p s hS=>m.cell s (by have:=hS.1;have:=h.n2;have:=h.i2;simp;omega)
 ok:=by
  have:aK (l++ [(e,v)])=aK l++ [e]:=by simp[aK]
  rw[this];exact h.ok.snoc x
 sz:=fun r b=>by
  rcases ZD.1 b with b|b
  ·exact h.sz r b
  obtain rfl:=xw.1 b;exact n
def Vy (w:World)(lo g gn gi:Nat)(c:aI)(l:List bZ)(e:bD)(en:Ending)(w':World):Prop:=
 en= .returned (.int .i64 (gM c (aK l) e))/\ae [gn,gi] w w'/\(gM c (aK l) e=0->∃v,mr w' lo w'.heap.size g gn gi c (l++ [(e,v)]))
theorem lr {b:Nat}{c:aI}(h:gM c (aK l) e=E)(i:E≠0)(j:ae [b,d] w w'):Vy w k g b d c l e (.returned (.int .i64 E)) w':=⟨by rw[h],j,fun m=>absurd (h.symm.trans m) i⟩
theorem eN {L:List Nat}(h:Below w.heap.size w w'):ae L w w':=(ae.ah h (zg _)).mono (by simp)
theorem XG {c:aI}(h:cX c (aK l)){nm:ByteArray}(i:∀x∈aK l,x.name≠nm):Instr.findNow .string (.string nm) (mE (AH l) 0) 0=some none:=by
 rcases B6 h nm with⟨e,_⟩|⟨j,r,_,d,b,_⟩
 ·exact e
 exact absurd b (i r.1 (xH.2 ⟨r,xi d,rfl⟩))
theorem XH {c:aI}(h:cX c (aK l)){id:Nat}(i:∀x∈aK l,x.id≠id):Instr.findNow (.int .u64) (.int .u64 id) (mE (AI l) 0) 0=some none:=by
 rcases Ks h id _ (fun _=>rfl)with⟨e,_⟩|⟨j,r,_,d,b,_⟩
 ·exact e
 exact absurd b (i r.1 (xH.2 ⟨r,xi d,rfl⟩))
theorem K5 {p:bD->Bool}{i d:ByteArray}{e:Int}{b:Bool}(h:Qw l ((aK l).find? p) a0 i d a3 a4 A n cap e b):(aK l).any p=b:=by
 rcases h with⟨c,rfl,_⟩|⟨r,_,c,rfl,_⟩
 ·exact Fb c
 exact Fc c
theorem Ui (lo hi g j i:Nat)(c:aI)(l:List bZ)(e:bD)(w:World)(h:mr w lo hi g j i c l)(hL:Laid w)(hg:1<lo)(hs:oN e):
 Calls prog 90 #[.pointer (some ⟨g,0,none⟩),.agg #[.int .u64 e.id,.string e.name,.string e.ty]] w fun en w'=>Vy w lo g j i c l e en w':=by
 obtain⟨g0,g6,g7,_,_⟩:=h.cells;have tR:g<w.heap.size:=zU h.g2 h.his;have aT:j<w.heap.size:=h.nm.lt;have nQ:i<w.heap.size:=h.ix.lt;obtain⟨W,hW⟩:∃W,w.alloc (.cells #[.int .u64 e.id,.string e.name,.string e.ty] 48)=W:=⟨_,rfl⟩
 have oE:Below w.heap.size w W:=by rw[<-hW];exact(zm _ w).alloc (zg _) _
 have Wg:W.heap.size=w.heap.size+1:=by rw[<-hW];simp
 have Cw:af W w.heap.size 48 #[.int .u64 e.id,.string e.name,.string e.ty]:=by rw[<-hW];exact af.new w _ _
 obtain⟨a0,a1,a2,a3,a4,A,n,cap,a6,b,qW,om⟩:=Df h e.name;have ay:=K5 qW;have rz:=za (h.below (oE.mono h.his));have sw:=za om;have C:Hid (∀V:World,V.heap[g]?=W.heap[g]?/\V.heap[j]?=W.heap[j]?/\V.heap[w.heap.size]?=W.heap[w.heap.size]?->V.cell? ⟨g,6,none⟩=some (.map (some j))/\V.cell? ⟨w.heap.size,1,none⟩=some (.string e.name)/\jv V j (AH l)):=za (fun V d=>⟨af.cell (show af V g _ _ from d.1.trans rz.out.blk) 6,af.cell (show af V w.heap.size _ _ from d.2.2.trans Cw) 1,rz.out.nm.ag d.2.1⟩);have kg:=za Cw;have fZ:=za oE;have HW:=za hW;have G3:=za (hL.below oE hL.pos);have o:Hid (gM c (aK l) e=if cd e.name=false then 11 else if((aK l).any fun x=>decide (x.name=e.name))=true then 11 else if((aK l).any fun x=>decide (x.id=e.id))=true then 1
  else if cS e.ty.data.toList=none then 3 else if c.fm=1/\e.shape.flat=false then 12 else 0):=za rfl
 rw[show((aK l).any fun x=>decide (x.name=e.name))=b from ay]at o;have UX:=za hs;have aW:=hs.name;have aR:=hs.ty;have aP:=za (fun V=>ql e.name V (by omega));clear h hL hW oE Cw qW om ay hs;go_enter func90,ntmps90
 go_wp2_with fail
 rw[HW.out];refine aD 12 (fun V=>V.cell? ⟨g,6,none⟩=some (.map (some j))/\V.cell? ⟨w.heap.size,1,none⟩=some (.string e.name)/\jv V j (AH l)) (by kernel_rfl) (by kernel_rfl) ?_;have hHeld:=C.out W.drew ⟨rfl,rfl,rfl⟩;refine GT.jV [0,1,2,3,4,5,6,7,8,9] hHeld (fun _ _ _ _ _ h=>h) (by kernel_rfl) ?_;iterate 6 (refine .c rfl rfl (fun V d=>by go_simp<;>with_reducible rfl) ?_;simp only[Act.put,zb,zd,ze])
 refine .c (v:= .tuple #[.agg #[.int .u64 a0,.string a1,.string a2,.int .i64 a3,.int .i64 a4,.slice A n cap,.int .i64 a6],.bool b]) rfl rfl (fun V d=>by have hl:=sw.out V d.2.2;go_simp) ?_;try simp only[Act.put,zb,zd,ze];iterate 3 (refine .c rfl rfl (fun V d=>by go_simp<;>with_reducible rfl) ?_;simp only[Act.put,zb,zd,ze])
 refine .nil ?_;refine GT.fP 10 (fun K u=> ?_) rfl (by kernel_rfl);go_simp;refine u.out _ _ (C.out _ ⟨yl _ _ (by omega),yl _ _ (by omega),yl _ _ (by omega)⟩) (fun hHeld=> ?_);clear u K;try simp only[Act.put,zb,zd,ze]
 refine GT.fP 11 (fun K u=> ?_) rfl (by kernel_rfl);go_simp;refine u.out _ _ (C.out _ ⟨yl _ _ (by omega),yl _ _ (by omega),yl _ _ (by omega)⟩) (fun hHeld=> ?_);clear u K;try simp only[Act.put,zb,zd,ze]
 refine GT.pt 12 ?_ rfl (by kernel_rfl);go_simp;obtain⟨r,mQ⟩:∃r,(W.alloc (.cells #[.int .u64 a0,.string a1,.string a2,.int .i64 a3,.int .i64 a4,.slice A n cap,.int .i64 a6] 116)).drew=r:=⟨_,rfl⟩
 have aO:Below W.heap.size W r:=by rw[<-mQ];exact((zm _ W).alloc (zg _) _).drew
 have An:=za (fZ.out.trans (aO.mono (by omega)));have Z:=za (kg.out.ag aO (by omega));have Oc:=za (G3.out.below aO G3.out.pos);have H:=za (rz.out.below (aO.mono rz.out.his));rw[mQ];clear mQ aO sw C hHeld kg G3 rz fZ;obtain⟨u0,u1,u2,ai,ab,ah⟩:=a8 Z.out;cases b with
 |true=>
  have p:gM c (aK l) e=11:=by rw[o.out];split<;>rfl
  go_wp2;go_ret;exact lr p (by decide) (eN An.out)
 |false=>
  rw[zh (show¬(false=true)by simp)]at o;go_wp2_with fail
  refine(aP.out _).mono ?_;rintro en w' ⟨rfl,rfl⟩;cases hmy:cd e.name with
  |false=>
   have p:gM c (aK l) e=11:=by rw[o.out,zi hmy]
   go_wp2;go_ret;exact lr p (by decide) (eN An.out)
  |true=>
   rw[zh (by simp[hmy])]at o;obtain⟨a0,a1,a2,a3,a4,A,n,cap,a6,b,qW,om⟩:=KN H.out e.id;rw[show((aK l).any fun x=>decide (x.id=e.id))=b from K5 qW]at o;have sw:=za om;have C:Hid (∀V:World,V.heap[g]?=r.heap[g]?/\V.heap[i]?=r.heap[i]?/\V.heap[w.heap.size]?=r.heap[w.heap.size]?->V.cell? ⟨g,7,none⟩=some (.map (some i))/\V.cell? ⟨w.heap.size,0,none⟩=some (.int .u64 e.id)/\jv V i (AI l)):=za (fun V d=>⟨af.cell (show af V g _ _ from d.1.trans H.out.blk) 7,af.cell (show af V w.heap.size _ _ from d.2.2.trans Z.out) 0,H.out.ix.ag d.2.1⟩);have aQ:=An.out.size;clear qW om u0 u1 u2 ai ab ah hmy;go_wp2_with fail
   refine aD 12 (fun V=>V.cell? ⟨g,7,none⟩=some (.map (some i))/\V.cell? ⟨w.heap.size,0,none⟩=some (.int .u64 e.id)/\jv V i (AI l)) (by kernel_rfl) (by kernel_rfl) ?_;have hHeld:=C.out r.drew ⟨rfl,rfl,rfl⟩;have aY:w.heap.size<r.heap.size:=Z.out.lt;refine GT.jV [0,1,2,3,4,5,6,7,8,9] hHeld (fun _ _ _ _ _ h=>h) (by kernel_rfl) ?_;iterate 6 (refine .c rfl rfl (fun V d=>by go_simp<;>with_reducible rfl) ?_;simp only[Act.put,zb,zd,ze])
   refine .c (v:= .tuple #[.agg #[.int .u64 a0,.string a1,.string a2,.int .i64 a3,.int .i64 a4,.slice A n cap,.int .i64 a6],.bool b]) rfl rfl (fun V d=>by have hl:=sw.out V d.2.2;go_simp) ?_;try simp only[Act.put,zb,zd,ze];iterate 3 (refine .c rfl rfl (fun V d=>by go_simp<;>with_reducible rfl) ?_;simp only[Act.put,zb,zd,ze])
   refine .nil ?_;refine GT.fP 10 (fun K u=> ?_) rfl (by kernel_rfl);go_simp;refine u.out _ _ (C.out _ ⟨yl _ _ (by omega),yl _ _ (by omega),yl _ _ (by omega)⟩) (fun hHeld=> ?_);clear u K;try simp only[Act.put,zb,zd,ze]
   refine GT.fP 11 (fun K u=> ?_) rfl (by kernel_rfl);go_simp;refine u.out _ _ (C.out _ ⟨yl _ _ (by omega),yl _ _ (by omega),yl _ _ (by omega)⟩) (fun hHeld=> ?_);clear u K;try simp only[Act.put,zb,zd,ze]
   refine GT.pt 12 ?_ rfl (by kernel_rfl);go_simp;obtain⟨S,sx⟩:∃S,(r.alloc (.cells #[.int .u64 a0,.string a1,.string a2,.int .i64 a3,.int .i64 a4,.slice A n cap,.int .i64 a6] 116)).drew=S:=⟨_,rfl⟩
   have bN:Below r.heap.size r S:=by rw[<-sx];exact((zm _ r).alloc (zg _) _).drew
   have Sd:=za (An.out.trans (bN.mono (by omega)));have cZ:=za (Z.out.ag bN (by omega));have Lv:=za (Oc.out.below bN Oc.out.pos);have LI:=za (H.out.below (bN.mono H.out.his));rw[sx];clear sx bN sw C hHeld Z Oc H An;obtain⟨u0,u1,u2,ai,ab,ah⟩:=a8 cZ.out;cases b with
   |true=>
    have p:gM c (aK l) e=1:=by rw[o.out,zi rfl]
    go_wp2;go_ret;exact lr p (by decide) (eN Sd.out)
   |false=>
    rw[zh (show¬(false=true)by simp)]at o;have HG:=za (Ua e.ty S (by omega) Lv.out);go_wp2_with fail
    refine HG.out.mono ?_;rintro en m dZ;obtain⟨T,hT⟩:∃T,cS e.ty.data.toList=T:=⟨_,rfl⟩
    rw[hT]at dZ o;cases T with
    |none=>
     obtain⟨D,rfl⟩:=dZ;have p:gM c (aK l) e=3:=by rw[o.out,zi rfl]
     have gK:=za (Sd.out.trans (D.mono Sd.out.size));clear D hT;go_wp2;go_ret;exact lr p (by decide) (eN (gK.out.alloc gK.out.size _))
    |some t=>
     obtain⟨D,d0,d1,d2,d3,rfl,ot⟩:=dZ;have wR:e.shape=t:=by unfold bD.shape;rw[hT];rfl
     rw[zh (by simp),wR]at o;obtain⟨B,z,rfl,rfl,rfl,rfl,_⟩:=ot.open_;have aG:=Sd.out.size;have aa:=cZ.out.ag D (by have:=cZ.out.lt;omega);have G:=LI.out.below (D.mono LI.out.his);have aB:=G.cells.1;have aX:g<m.heap.size:=zU G.g2 G.his;have N:Below m.heap.size m (m.alloc (.cells #[.int .i64 t.kind,.int .i64 t.size,.slice B t.sub.length z,.int .i64 t.tail] 43)):=(zm _ m).alloc (zg _) _;have Y:=za ((Sd.out.trans (D.mono aG)).trans (N.mono (by have:=D.size;omega)));have R:=za (aa.ag N aa.lt);have M:=za (G.below (N.mono G.his));have O:=za (af.new m 43 #[.int .i64 t.kind,.int .i64 t.size,.slice B t.sub.length z,.int .i64 t.tail]);have I:=za (ot.below N);have ak:=Lv.out.below D Lv.out.pos;have HF:=za (I4 t _ _ _ _ _ _ I.out.Fg (zg _) (ak.below N ak.pos));have aV:w.heap.size<m.heap.size:=aa.lt;clear u0 u1 u2 ai ab ah D hT cZ LI ot aa G N ak;by_cases J:c.fm=1;focus
      have Yq:((c.fm:Int)==1)=true:=yS.2 J;go_wp2_with fail
      refine HF.out.mono ?_;rintro en w7 ⟨rfl,F⟩;have aH:=F.size;simp only[zq]at aH;have al:=za (Y.out.trans (F.mono Y.out.size));have ag:=za (R.out.ag F R.out.lt);have s:=za (M.out.below (F.mono M.out.his));have ad:=za (O.out.ag F O.out.lt);have an:=za (I.out.below F);clear F HF M R O I aB;cases mf:t.flat
      ·have p:gM c (aK l) e=12:=by rw[o.out,zi ⟨J,mf⟩]
       go_wp2;go_ret;exact lr p (by decide) (eN al.out)
      have p:gM c (aK l) e=0:=by rw[o.out,zh (by simp[mf])]
      obtain⟨q,rfl⟩:∃q,q=w7:=⟨w7,rfl⟩
      clear mf J;go_wp2_with fail
     rotate_left
     focus
      have Yq:((c.fm:Int)==1)=false:=zo.2 J;have p:gM c (aK l) e=0:=by rw[o.out,zh (by simp[J])]
      obtain⟨q,ru⟩:∃q,m.alloc (.cells #[.int .i64 t.kind,.int .i64 t.size,.slice B t.sub.length z,.int .i64 t.tail] 43)=q:=⟨_,rfl⟩
      rw[ru]at Y R M O I;have Gu:=za ru;have al:=Y;have ag:=R;have s:=M;have ad:=O;have an:=I;clear HF J ru Y R M O I;go_wp2_with fail
      rw[Gu.out];clear aB
     all_goals
      obtain⟨z1,z2,z3,z4,z5⟩:=B3 p;have aF:=Kr (P:=prog) (T:=118) (w:=q.drew) (s.out.nm.ag rfl) underlying118 zN (by simp[MapKept.IsKey]) (XG s.out.ok z2) (.agg #[.int .u64 e.id,.string e.name,.string e.ty,.int .i64 t.kind,.int .i64 t.size,.slice B t.sub.length z,.int .i64 t.tail]);have LH:=fun(V:World) (d:jv V i (AI l))=>Kr (P:=prog) (T:=119) (w:=V) d underlying119 ZV (by simp[MapKept.IsKey]) (XH s.out.ok z3) (.agg #[.int .u64 e.id,.string e.name,.string e.ty,.int .i64 t.kind,.int .i64 t.size,.slice B t.sub.length z,.int .i64 t.tail])
      have aE:=za LH;clear z1 z2 z3 z4 z5 LH;obtain⟨b0,X,b2,_⟩:=a8 ag.out.drew;obtain⟨t0,t1,t2,t3,_⟩:=aS ad.out.drew;have ax:q.drew.cell? ⟨g,6,none⟩=some (.map (some j)):=(af.drew s.out.blk).cell 6;refine aD 9 (fun V=>V.cell? ⟨g,6,none⟩=some (.map (some j))/\V.cell? ⟨w.heap.size,0,none⟩=some (.int .u64 e.id)/\V.cell? ⟨w.heap.size,1,none⟩=some (.string e.name)/\V.cell? ⟨w.heap.size,2,none⟩=some (.string e.ty)/\V.cell? ⟨m.heap.size,0,none⟩=some (.int .i64 t.kind)/\V.cell? ⟨m.heap.size,1,none⟩=some (.int .i64 t.size)/\V.cell? ⟨m.heap.size,2,none⟩=some (.slice B t.sub.length z)/\V.cell? ⟨m.heap.size,3,none⟩=some (.int .i64 t.tail)) (by kernel_rfl) (by kernel_rfl) ?_;have hHeld:=And.intro ax (And.intro b0 (And.intro X (And.intro b2 (And.intro t0 (And.intro t1 (And.intro t2 t3))))));clear b0 X b2 t0 t1 t2 t3 ax;refine GT.jV [0,1,2,3,4,5,6,7,8] hHeld (fun _ _ _ _ _ h=>h) (by kernel_rfl) ?_;repeat(refine .c rfl rfl (fun V d=>by go_simp<;>with_reducible rfl) ?_;simp only[Act.put,zb,zd,ze])
      refine .nil ?_;refine GT.pt 9 ?_ rfl (by kernel_rfl);go_simp;obtain⟨y,U⟩:∃y,oK q.drew j (AH l) (.string e.name) (.agg #[.int .u64 e.id,.string e.name,.string e.ty,.int .i64 t.kind,.int .i64 t.size,.slice B t.sub.length z,.int .i64 t.tail])=y:=⟨_,rfl⟩
      have aA:jv y j (AH l++ [(.string e.name,(.agg #[.int .u64 e.id,.string e.name,.string e.ty,.int .i64 t.kind,.int .i64 t.size,.slice B t.sub.length z,.int .i64 t.tail]))]):=by rw[<-U];exact sZ (s.out.nm.ag rfl) _ _
      have L:ae [j] q y:=by rw[<-U];exact(ae.refl [j] q).drew.trans (vr _ _ _ _ _)
      have SY:y.heap.size=q.heap.size:=by rw[<-U];simp[oK]
      rw[U];have aU:=s.out.n2;have cn:=s.out.ne;have au:=(ag.out.only L (by simp;omega)).drew;have aC:=(ad.out.only L (by simp;omega)).drew;have av:=af.drew (s.out.blk.only L (by simp;omega));have aj:jv y.drew i (AI l):=(s.out.ix.only L (by simp;omega)).ag rfl;have LH:=aE.out y.drew aj;obtain⟨b0,X,b2,_⟩:=a8 au;obtain⟨t0,t1,t2,t3,_⟩:=aS aC;have aw:y.drew.cell? ⟨g,7,none⟩=some (.map (some i)):=av.cell 7;have aN:=za aA;have aJ:=za L;have aM:=za SY;have aL:=za aj;clear hHeld U aA L SY aF au aC av aj;go_wp2_with fail
      refine aD 9 (fun V=>V.cell? ⟨g,7,none⟩=some (.map (some i))/\V.cell? ⟨w.heap.size,0,none⟩=some (.int .u64 e.id)/\V.cell? ⟨w.heap.size,1,none⟩=some (.string e.name)/\V.cell? ⟨w.heap.size,2,none⟩=some (.string e.ty)/\V.cell? ⟨m.heap.size,0,none⟩=some (.int .i64 t.kind)/\V.cell? ⟨m.heap.size,1,none⟩=some (.int .i64 t.size)/\V.cell? ⟨m.heap.size,2,none⟩=some (.slice B t.sub.length z)/\V.cell? ⟨m.heap.size,3,none⟩=some (.int .i64 t.tail)) (by kernel_rfl) (by kernel_rfl) ?_;have hHeld:=And.intro aw (And.intro b0 (And.intro X (And.intro b2 (And.intro t0 (And.intro t1 (And.intro t2 t3))))));clear b0 X b2 t0 t1 t2 t3 aw;refine GT.jV [0,1,2,3,4,5,6,7,8] hHeld (fun _ _ _ _ _ h=>h) (by kernel_rfl) ?_;repeat(refine .c rfl rfl (fun V d=>by go_simp<;>with_reducible rfl) ?_;simp only[Act.put,zb,zd,ze])
      refine .nil ?_;refine GT.pt 9 ?_ rfl (by kernel_rfl);go_simp;clear LH;obtain⟨E,S8⟩:∃E,oK y.drew i (AI l) (.int .u64 e.id) (.agg #[.int .u64 e.id,.string e.name,.string e.ty,.int .i64 t.kind,.int .i64 t.size,.slice B t.sub.length z,.int .i64 t.tail])=E:=⟨_,rfl⟩
      have ao:jv E i (AI l++ [(.int .u64 e.id,(.agg #[.int .u64 e.id,.string e.name,.string e.ty,.int .i64 t.kind,.int .i64 t.size,.slice B t.sub.length z,.int .i64 t.tail]))]):=by rw[<-S8];exact sZ aL.out _ _
      have ry:ae [i] y E:=by rw[<-S8];exact(ae.refl [i] y).drew.trans (vr _ _ _ _ _)
      have ar:E.heap.size=q.heap.size:=by rw[<-aM.out,<-S8];simp[oK]
      rw[S8];have aq:=aN.out.only ry (by simp;omega);have az:Hid (ae [j,i] q E):=za ((aJ.out.mono (by simp)).trans (ry.mono (by simp)));have HQ:Hid (∃v,mr E lo E.heap.size g j i c (l++ [(e,v)])):=za ⟨_,s.out.put az.out ar (by simpa[AH]using aq) (by simpa[AI]using ao) ⟨_,_,_,_,rfl,by
       show fK q _ e.shape _ _ _ _
       rw[wR];exact an.out.iz (fun k hk hS=>⟨by have hS:S.heap.size<=k:=hS;omega,hk⟩)⟩ p UX.out⟩
      clear S8 ao ry ar aq hHeld;go_wp2;go_ret;exact⟨by rw[p];rfl,(eN al.out).trans az.out,fun _=>HQ.out⟩
def ab6 (w:World)(c:aI)(l:List bD)(e:Ending)(w':World):Prop:=
 Below w.heap.size w w'/\((np c l=0/\∃g gn gi rows,e= .returned (.tuple #[.pointer (some ⟨g,0,none⟩),.int .i64 0])/\mr w' w.heap.size w'.heap.size g gn gi c rows/\aK rows=l)\/(np c l≠0/\e= .returned (.tuple #[.pointer none,.int .i64 (np c l)])))
theorem wA {c:aI}{l:List bD}(h:jo c (l.take k) (l.drop k)=E)(d:k<l.length):(gM c (l.take k) l[k]≠0->E=gM c (l.take k) l[k])/\(gM c (l.take k) l[k]=0->jo c (l.take (k+1)) (l.drop (k+1))=E):=by
 rw[xC d,jo]at h;refine⟨fun b=> ?_,fun b=> ?_⟩
 ·rw[zi b]at h;exact h.symm
 rw[zh (by simp[b])]at h;rw[List.take_add_one,zB d];exact h
theorem Cm {c:aI}{l:List bD}(h:jo c (l.take l.length) (l.drop l.length)=E):E=0:=by
 rw[Z5]at h;exact h.symm
theorem r9 {c:aI}{l:List bD}(h:c.right=true)(b:l.length<=32):np c l=jo c [] l:=by
 unfold np;rw[zh (by simp[h]),zh (by omega)]
theorem mr.fresh {h b:Nat}{c:aI}{W:World}(d:((w.alloc (.map #[] 0)).alloc (.map #[] 0)).alloc (.cells (rgC c b (b+1) (tH c) (qo c)) 125)=W)(j:w.heap.size=b)(i:h<=b):mr W h W.heap.size (b+1+1) b (b+1) c []:=by
 subst j;have hz:W.heap.size=w.heap.size+3:=by rw[<-d];simp
 exact{
  blk:=by rw[<-d];exact af.at_ (by simp)
  nm:=by
   have e:jv (w.alloc (.map #[] 0)) w.heap.size []:=jv.new w;rw[<-d];exact(yl _ _ (by simp;omega)).trans ((yl _ _ (by simp)).trans e)
  ix:=by
   have e:jv ((w.alloc (.map #[] 0)).alloc (.map #[] 0)) (w.alloc (.map #[] 0)).heap.size []:=jv.new _;simp only[zq]at e;rw[<-d];exact(yl _ _ (by simp)).trans e
  n1:=i
  n2:=by omega
  i1:=by omega
  i2:=by omega
  ne:=by omega
  g2:=by omega
  his:=zg _
  rows:=by simp
  ok:=cX.nil c
  sz:=by simp}
theorem Uj (c:aI)(l:List bD)(v:Value)(B:Nat)(w:World)(M:qj w B v l)(hB:B<=w.heap.size)(L:Laid w)(hs:∀e∈l,oN e):
 Calls prog 48 #[c.val,v] w fun e w'=>ab6 w c l e w':=by
 obtain⟨A,n,cap,rfl,x,X6,mA⟩:=M.cF;have R:=za (eW c (w.alloc (.cells #[.int .i64 c.fm,.int .u32 c.mg,.int .i64 c.fr,.int .i64 c.un,.int .i64 c.de,.int .i64 c.it] 24)));have je:=(zm w.heap.size w).alloc (zg _) (.cells #[.int .i64 c.fm,.int .u32 c.mg,.int .i64 c.fr,.int .i64 c.un,.int .i64 c.de,.int .i64 c.it] 24);have D0:=af.new w 24 #[.int .i64 c.fm,.int .u32 c.mg,.int .i64 c.fr,.int .i64 c.un,.int .i64 c.de,.int .i64 c.it];have HV:=za M;have HS:=za hs;have hp:=L.pos;have HL:=za L;unfold aI.val at*;obtain⟨N,W⟩:∃N,c.right=N:=⟨_,rfl⟩
 rw[W]at R;have U:=za W;clear M hs L W;go_enter func48,ntmps48
 go_wp2_with fail
 refine R.out.mono ?_;rintro e b ⟨rfl,I⟩;have F:=za (je.trans (I.mono (by simp)));have S:=D0.ag I (by simp);have mO:w.heap.size<b.heap.size:=S.lt;obtain⟨c0,c1,c2,c3,c4,c5⟩:=eR S;clear je I D0 R S;cases N with
 |false=>
  go_wp2;go_ret2
  have d:np c l=1:=by unfold np;rw[zi U.out]
  exact⟨F.out,.inr ⟨by rw[d];decide,by rw[d];rfl⟩⟩
 |true=>
  by_cases ah:32<n
  ·have hi:(32:Int)<(n:Int):=by omega
   go_wp2;go_ret2
   have d:np c l=4:=by unfold np;rw[zh (by simp[U.out]),zi (by rw[<-x.out];exact ah)]
   exact⟨F.out,.inr ⟨by rw[d];decide,by rw[d];rfl⟩⟩
  have hi:¬(32:Int)<(n:Int):=by omega
  have Rr:= @run_makeMap prog;have rl:w.heap.size<b.heap.size+1:=by omega
  have JC:w.heap.size<b.heap.size+1+1:=by omega
  have ag:w.heap.size<b.heap.size+1+1+1:=by omega
  have ae:l.length<=32:=by rw[<-x.out];omega
  have G6:=za (r9 U.out ae);by_cases p:c.fm=1;focus
   have k1:((c.fm:Int)==1)=true:=yS.2 p;have H:tH c= .func (.func 88) #[.agg #[.int .i64 c.de,.int .i64 c.it]] #[]:=by unfold tH AK;rw[zi p]
   have X:qo c= .func (.func 89) #[.agg #[.int .i64 c.de,.int .i64 c.it]] #[]:=by unfold qo AK;rw[zi p]
   clear p
  rotate_left
  focus
   have k1:((c.fm:Int)==1)=false:=zo.2 p;have H:tH c= .func (.func 86) #[.agg #[.int .i64 c.de,.int .i64 c.it]] #[]:=by unfold tH AK;rw[zh p]
   have X:qo c= .func (.func 87) #[.agg #[.int .i64 c.de,.int .i64 c.it]] #[]:=by unfold qo AK;rw[zh p]
   clear p
  all_goals
   obtain⟨q,s⟩:∃q,(((b.alloc (.cells #[.int .i64 c.de,.int .i64 c.it] 145)).alloc (.map #[] 0)).alloc (.map #[] 0)).alloc (.cells #[.int .i64 c.fm,.int .u32 c.mg,.int .i64 c.fr,.int .i64 c.un,.int .i64 c.de,.int .i64 c.it,.map (some (b.heap.size+1)),.map (some (b.heap.size+1+1)),tH c,qo c] 125)=q:=⟨_,rfl⟩
   have aa:mr q w.heap.size q.heap.size (b.heap.size+1+1+1) (b.heap.size+1) (b.heap.size+1+1) c []:=mr.fresh (w:=b.alloc (.cells #[.int .i64 c.de,.int .i64 c.it] 145)) (by unfold rgC;exact s) (by simp) (by omega);have bN:Below w.heap.size w q:=by rw[<-s];exact((((F.out.alloc (by omega) _).alloc (by simp;omega) _).alloc (by simp;omega) _).alloc (by simp;omega) _)
   have LI:=za aa;have cZ:=za bN;rw[H,X]at s;have Bk:=za s;clear s aa bN H X;go_wp2_with fail
   rw[Bk.out];clear c0 c1 c2 c3 c4 c5 k1 Rr rl JC ag;go_loopw [45] (fun i wr=>∃(k:Nat) (rows:List bZ),k<=n/\i= .int .i64 k/\Hid (mr wr w.heap.size wr.heap.size (b.heap.size+1+1+1) (b.heap.size+1) (b.heap.size+1+1) c rows)/\Hid (aK rows=l.take k)/\Hid (jo c (l.take k) (l.drop k)=jo c [] l)/\Hid (Below w.heap.size w wr)) (fun i _=>n-(intOf i).toNat)
   case atStart=>exact⟨0,[],by omega,by go_num,LI,za rfl,za (by simp),cZ⟩
   case round=>
    obtain⟨k,rows,hk,rfl,HM,E,HT,u⟩:=hrel;clear LI cZ;by_cases ai:k<n
    ·skip
     have m:k<l.length:=by have:=x.out;omega
     obtain⟨ge,o,hA,jA,e0,e1,e2⟩:=(HV.out.below (u.out.mono hB)).at_ (j:=k) m;subst hA;obtain⟨fP,SN⟩:=wA HT.out m;have J:=HS.out _ (zR m);obtain⟨h,K⟩:∃h,l[k]=h:=⟨_,rfl⟩
     rw[K]at e0 e1 e2 fP SN J;have AZ:l.take (k+1)=l.take k++ [h]:=by rw[List.take_add_one,zB m,K];rfl
     have mc:=u.out.size;obtain⟨C,D⟩:∃C,wr.alloc (.cells #[.int .u64 h.id,.string h.name,.string h.ty] 48)=C:=⟨_,rfl⟩
     have z:Below wr.heap.size wr C:=by rw[<-D];exact(zm _ wr).alloc (zg _) _
     have HA:=za (Ui w.heap.size wr.heap.size _ _ _ c rows h C (HM.out.below z) (HL.out.below (u.out.trans (z.mono mc)) hp) hp J);have Z:=za (u.out.trans (z.mono mc));have rr:=za D;have Rm:=za AZ;clear D z K J AZ;go_wp2_with fail
     rw[rr.out];refine HA.out.mono ?_;rintro e O ⟨rfl,ho,Y⟩;rw[E.out]at Y⊢;have HO:=za (Z.out.trans (ho.below Z.out.size (by simp;omega)));have Sg:=za Y;generalize gM c (l.take k) h=EE at*;clear ho Y HA e0 e1 e2;rcases eY EE with⟨y,z1,z2⟩|⟨y,z1,z2⟩
     ·subst y;obtain⟨vv,ab⟩:=Sg.out rfl;have HN:=za ab;have G:=za (SN rfl);clear ab fP SN;go_wp2;go_roundw
      case rel=>
       have key:∃(r:Nat) (rows:List bZ),r<=n/\Value.int .i64 ((k:Int)+1)= .int .i64 r/\Hid (mr O w.heap.size O.heap.size (b.heap.size+1+1+1) (b.heap.size+1) (b.heap.size+1+1) c rows)/\Hid (aK rows=l.take r)/\Hid (jo c (l.take r) (l.drop r)=jo c [] l)/\Hid (Below w.heap.size w O):=⟨k+1,rows++ [(h,vv)],by omega,by go_num,HN,za (by rw[Rm.out,<-E.out];simp[aK]),G,HO⟩
       first|exact key|((repeat apply Exists.intro);exact⟨key,rfl⟩)
      case measure=>simp[intOf];omega
     have G:=za (fP y);clear fP SN;go_wp2;go_ret2
     have d:np c l=EE:=by rw[G6.out];exact G.out
     exact⟨HO.out,.inr ⟨by rw[d];exact y,by rw[d];rfl⟩⟩
    skip
    have m:k=l.length:=by have:=x.out;omega
    have d:np c l=0:=by
     rw[G6.out];have h1:=HT.out;rw[m]at h1;exact Cm h1
    have ad:aK rows=l:=by rw[E.out,m];simp
    have HF:=za d;have HG:=za ad;clear m d ad;go_wp2;go_ret2
    exact⟨u.out,.inl ⟨HF.out,_,_,_,rows,rfl,HM.out,HG.out⟩⟩
theorem Jh {l:List UInt8}(h:cS l=some t):t.may=true:=by
 unfold cS at h;split at h
 ·rename_i x hx
  cases hm:x.may with
  |true=>rw[hm,zi rfl]at h;injection h with h;rw[<-h];exact hm
  |false=>rw[hm]at h;cases h
 cases h
theorem NF (h:t.may=true):t.count<=64:=by
 simp only[Ty.may,zy,yb]at h;omega
theorem FZ {l:List bD}{p:bD->Bool}(h:∀j (b:j<l.length),j<k->p l[j]=false):(l.take k).any p=false:=by
 rw[ZY];intro e c;obtain⟨j,b,rfl⟩:=y7 c;rw[zV]at b;rw[List.getElem_take];rw[h j (by omega) (by omega)];simp
theorem QR {l:List bD}{p:bD->Bool}(b:k<=l.length)(c:j<k)(h:p (l[j]'(by omega))=true):(l.take k).any p=true:=
 Zv.2 ⟨l[j]'(by omega),by rw[List.mem_take_iff_getElem];exact⟨j,by omega,rfl⟩,h⟩
theorem Ji (c:aI)(l:List bD)(v:Value)(B:Nat)(w:World)(hv:qj w B v l)(K:B<=w.heap.size)(hs:∀e∈l,oN e):
 Calls prog 30 #[c.val,v] w fun e w'=>e= .returned (.int .i64 (np c l))/\Below w.heap.size w w':=by
 obtain⟨A,n,cap,rfl,hn,X6,mA⟩:=hv.cF;have HR:=za (Dl c (w.alloc (.cells #[.int .i64 c.fm,.int .u32 c.mg,.int .i64 c.fr,.int .i64 c.un,.int .i64 c.de,.int .i64 c.it] 24)));have je:=(zm w.heap.size w).alloc (zg _) (.cells #[.int .i64 c.fm,.int .u32 c.mg,.int .i64 c.fr,.int .i64 c.un,.int .i64 c.de,.int .i64 c.it] 24);have D0:=af.new w 24 #[.int .i64 c.fm,.int .u32 c.mg,.int .i64 c.fr,.int .i64 c.un,.int .i64 c.de,.int .i64 c.it];have M:=za hv;have HS:=za hs;unfold aI.val at*;obtain⟨rt,Ab⟩:∃rt,c.right=rt:=⟨_,rfl⟩
 rw[Ab]at HR;have DK:=za Ab;clear hv hs Ab;go_enter func30,ntmps30
 go_wp2_with fail
 refine HR.out.mono ?_;rintro e w1 ⟨rfl,aF⟩;have Z:=za (je.trans (aF.mono (by simp)));have Y2:=za (D0.ag aF (by simp));clear je aF D0 HR;cases rt with
 |false=>
  go_wp2;go_ret;have d:np c l=1:=by unfold np;rw[zi DK.out]
  exact⟨by rw[d];rfl,Z.out⟩
 |true=>
  by_cases ar:32<n
  ·have hi:(32:Int)<(n:Int):=by omega
   go_wp2;go_ret;have d:np c l=4:=by unfold np;rw[zh (by simp[DK.out]),zi (by rw[<-hn.out];exact ar)]
   exact⟨by rw[d];rfl,Z.out⟩
  have hi:¬(32:Int)<(n:Int):=by omega
  have ae:l.length<=32:=by rw[<-hn.out];omega
  have I:=za (r9 DK.out ae);clear ae DK;go_wp2_with fail
  go_loopw [5] (fun i wr=>∃k:Nat,i= .int .i64 k/\k<=n/\Hid (jo c (l.take k) (l.drop k)=jo c [] l)/\Hid (Below w.heap.size w wr)/\Hid (af wr w.heap.size 24 #[.int .i64 c.fm,.int .u32 c.mg,.int .i64 c.fr,.int .i64 c.un,.int .i64 c.de,.int .i64 c.it])) (fun i _=>n-(intOf i).toNat)
  case atStart=>exact⟨0,rfl,by omega,za (by simp),Z,Y2⟩
  case round=>
   obtain⟨k,rfl,hk,HT,X,HC⟩:=hrel;clear Z Y2;by_cases av:k<n
   ·have s:k<l.length:=by have:=hn.out;omega
    obtain⟨ge,o,hA,jA,e0,e1,e2⟩:=(M.out.below (X.out.mono K)).at_ (j:=k) s;subst hA;obtain⟨fP,SN⟩:=wA HT.out s;have Wh:=HS.out _ (zR s);obtain⟨b,qO⟩:∃b,l[k]=b:=⟨_,rfl⟩
    rw[qO]at e0 e1 e2 fP SN Wh;have aw:=Wh.name;have au:=Wh.ty;have mR:=za qO;have U:=za fP;have ai:=za SN;have r:Hid (gM c (l.take k) b=if cd b.name=false then 11 else if((l.take k).any fun x=>decide (x.name=b.name))=true then 11 else if((l.take k).any fun x=>decide (x.id=b.id))=true then 1 else if cS b.ty.data.toList=none then 3 else if c.fm=1/\b.shape.flat=false then 12 else 0):=za rfl;have aj:=za (fun V=>MF b.name V (by omega));clear qO fP SN Wh;generalize wr=w2 at*;go_wp2_with fail
    refine(aj.out _).mono ?_;rintro e w' ⟨rfl,rfl⟩;cases hmy:cd b.name with
    |false=>
     have d:np c l=11:=by
      have q:gM c (l.take k) b=11:=by rw[r.out,zi hmy]
      rw[I.out,U.out (by rw[q];decide),q]
     go_wp2;go_ret;exact⟨by rw[d];rfl,X.out⟩
    |true=>
     rw[zh (by simp[hmy])]at r;clear aj hmy;go_wp2_with fail
     go_loopw [6] (fun i wr=>∃m:Nat,i= .int .i64 m/\m<=k/\Hid (∀j (u:j<l.length),j<m->decide (l[j].name=b.name)=false)/\Hid (Below w2.heap.size w2 wr)) (fun i _=>k-(intOf i).toNat)
     case atStart=>exact⟨0,rfl,by omega,za (by omega),za (zm _ _)⟩
     case round=>
      obtain⟨m,rfl,hm,F,hG⟩:=hrel;have H:=za (X.out.trans (hG.out.mono X.out.size));generalize wr=w3 at*;by_cases aq:m<k
      ·have an:m<n:=by omega
       have VH:m<l.length:=by omega
       obtain⟨g',o',p,Ra,d0,d1,d2⟩:=(M.out.below (H.out.mono K)).at_ (j:=m) VH;injection p with p;injection p with hA1 hA2;subst hA1 hA2;obtain⟨g',o',p,_,f0,f1,f2⟩:=(M.out.below (H.out.mono K)).at_ (j:=k) s;injection p with p;injection p with hA1 hA2;subst hA1 hA2;rw[mR.out]at f0 f1 f2;obtain⟨z,E⟩:∃z,l[m]=z:=⟨_,rfl⟩
       rw[E]at d0 d1 d2;have O:=za E;clear E;clear d0 d2 e0 e2 f0 f2;rcases Ee z.name b.name with⟨y,q1,q2⟩|⟨y,q1,q2⟩
       ·have d:np c l=11:=by
         have q:gM c (l.take k) b=11:=by rw[r.out,zi (QR (Yc s) aq (by rw[O.out];exact zD y))]
         rw[I.out,U.out (by rw[q];decide),q]
        have C:=za d;clear d y;go_wp2_with fail
        go_quiet (fail)
        go_wp2;go_ret;exact⟨by rw[C.out];rfl,Below.bs H.out _⟩
       have CA:Hid (∀j (u:j<l.length),j<m+1->decide (l[j].name=b.name)=false):=za (fun j u ak=>by
        by_cases h:j=m
        ·subst h;rw[O.out];exact zv y
        exact F.out j u (by omega))
       clear y;go_wp2_with fail
       go_quiet (fail)
       go_wp2;go_roundw
       case rel=>exact⟨m+1,by go_num,by omega,CA,za (Below.bs hG.out _)⟩
       case measure=>simp[intOf];omega
      skip
      have S:Hid (((l.take k).any fun x=>decide (x.name=b.name))=false):=za (FZ (fun j u VK=>F.out j u (by omega)));rw[S.out,zh (by simp)]at r;clear S F;go_wp2_with fail
      go_loopw [7] (fun i wr=>∃m:Nat,i= .int .i64 m/\m<=k/\Hid (∀j (u:j<l.length),j<m->decide (l[j].id=b.id)=false)/\Hid (Below w3.heap.size w3 wr)) (fun i _=>k-(intOf i).toNat)
      case atStart=>exact⟨0,rfl,by omega,za (by omega),za (zm _ _)⟩
      case round=>
       obtain⟨W,rfl,ay,F,gK⟩:=hrel;have D:=za (H.out.trans (gK.out.mono H.out.size));generalize wr=w4 at*;by_cases ao:W<k
       ·have an:W<n:=by omega
        have VH:W<l.length:=by omega
        obtain⟨m,Rr⟩:∃m,m=W:=⟨W,rfl⟩
        subst Rr;obtain⟨g',o',p,Ra,d0,d1,d2⟩:=(M.out.below (D.out.mono K)).at_ (j:=m) VH;injection p with p;injection p with hA1 hA2;subst hA1 hA2;obtain⟨g',o',p,_,f0,f1,f2⟩:=(M.out.below (D.out.mono K)).at_ (j:=k) s;injection p with p;injection p with hA1 hA2;subst hA1 hA2;rw[mR.out]at f0 f1 f2;obtain⟨z,E⟩:∃z,l[m]=z:=⟨_,rfl⟩
        rw[E]at d0 d1 d2;have O:=za E;clear E;clear d1 d2 e1 e2 f1 f2;by_cases y:z.id=b.id
        ·have q1:((z.id:Int)==(b.id:Int))=true:=yS.2 (by omega);have d:np c l=1:=by
          have q:gM c (l.take k) b=1:=by rw[r.out,zi (QR (Yc s) ao (by rw[O.out];exact zD y))]
          rw[I.out,U.out (by rw[q];decide),q]
         have C:=za d;clear d y;go_wp2_with fail
         go_quiet (fail)
         go_wp2;go_ret;exact⟨by rw[C.out];rfl,Below.bs D.out _⟩
        have q1:((z.id:Int)==(b.id:Int))=false:=zo.2 (by omega);have CA:Hid (∀j (u:j<l.length),j<m+1->decide (l[j].id=b.id)=false):=za (fun j u ak=>by
         by_cases h:j=m
         ·subst h;rw[O.out];exact zv y
         exact F.out j u (by omega))
        clear y;go_wp2_with fail
        go_quiet (fail)
        go_wp2;go_roundw
        case rel=>exact⟨m+1,by go_num,by omega,CA,za (Below.bs gK.out _)⟩
        case measure=>simp[intOf];omega
       have S:Hid (((l.take k).any fun x=>decide (x.id=b.id))=false):=za (FZ (fun j u VK=>F.out j u (by omega)));rw[S.out,zh (by simp)]at r;clear S F;obtain⟨g',o',p,_,f0,f1,f2⟩:=(M.out.below (D.out.mono K)).at_ (j:=k) s;injection p with p;injection p with hA1 hA2;subst hA1 hA2;rw[mR.out]at f0 f1 f2;have ax:=H.out.size;have ag:=za ((HC.out.ag hG.out HC.out.lt).ag gK.out (by have:=HC.out.lt;have:=hG.out.size;omega));have HG:=za (Jg b.ty w4 (by omega));obtain⟨T,hT⟩:∃T,cS b.ty.data.toList=T:=⟨_,rfl⟩
       rw[hT]at HG r;have ah:=za hT;clear e0 e1 e2 f0 f1 hT;go_wp2_with fail
       refine HG.out.mono ?_;rintro e R dZ;cases T with
       |none=>
        obtain⟨L,rfl⟩:=dZ;have d:np c l=3:=by
         have q:gM c (l.take k) b=3:=by rw[r.out,zi rfl]
         rw[I.out,U.out (by rw[q];decide),q]
        have C:=za d;have Y:=za (D.out.trans (L.mono D.out.size));clear d L;go_wp2;go_ret;exact⟨by rw[C.out];rfl,Y.out.alloc Y.out.size _⟩
       |some t=>
        obtain⟨L,d0,d1,d2,d3,rfl,ot⟩:=dZ;have wR:b.shape=t:=by unfold bD.shape;rw[ah.out];rfl
        rw[zh (by simp),wR]at r;obtain⟨A5,eS,rfl,rfl,rfl,rfl,_⟩:=ot.open_;have aa:=ag.out.ag L ag.out.lt;have az:w.heap.size<R.heap.size:=aa.lt;have Y:=za (D.out.trans (L.mono D.out.size));have N:Hid (Below w.heap.size w (R.alloc (.cells #[.int .i64 t.kind,.int .i64 t.size,.slice A5 t.sub.length eS,.int .i64 t.tail] 43))):=za (Y.out.alloc Y.out.size _);have ab:=za (aa.alloc (.cells #[.int .i64 t.kind,.int .i64 t.size,.slice A5 t.sub.length eS,.int .i64 t.tail] 43));have YZ:=za (Ni t _ (R.alloc (.cells #[.int .i64 t.kind,.int .i64 t.size,.slice A5 t.sub.length eS,.int .i64 t.tail] 43)) _ _ _ _ ((ot.below ((zm _ R).alloc (zg _) _)).Fg) (zg _) (by have:=NF (Jh ah.out);omega));have c0:R.cell? ⟨w.heap.size,0,none⟩=some (.int .i64 c.fm):=aa.cell 0;clear L ot aa wR f2;by_cases G:c.fm=1
        ·have k1:((c.fm:Int)==1)=true:=yS.2 G;cases mf:t.flat with
         |false=>
          have d:np c l=12:=by
           have q:gM c (l.take k) b=12:=by rw[r.out,zi ⟨G,mf⟩]
           rw[I.out,U.out (by rw[q];decide),q]
          rw[mf]at YZ;have C:=za d;clear d G mf;go_wp2_with fail
          refine YZ.out.mono ?_;rintro e w6 ⟨rfl,J⟩;have ad:=za (N.out.trans (J.mono N.out.size));clear J;go_wp2;go_ret;exact⟨by rw[C.out];rfl,ad.out⟩
         |true=>
          have uv:=za (ai.out (by rw[r.out,zh (by simp[mf])]));rw[mf]at YZ;clear G mf;go_wp2_with fail
          refine YZ.out.mono ?_;rintro e w6 ⟨rfl,J⟩;have ad:=za (N.out.trans (J.mono N.out.size));have al:=za (ab.out.ag J ab.out.lt);clear J;go_wp2;go_roundw
          case rel=>exact⟨k+1,by go_num,by omega,uv,ad,al⟩
          case measure=>simp[intOf];omega
        have k1:((c.fm:Int)==1)=false:=zo.2 G;have uv:=za (ai.out (by rw[r.out,zh (by simp[G])]));clear G;go_wp2;go_roundw
        case rel=>exact⟨k+1,by go_num,by omega,uv,N,ab⟩
        case measure=>simp[intOf];omega
   have s:k=l.length:=by have:=hn.out;omega
   have d:np c l=0:=by
    rw[I.out];have q:=HT.out;rw[s]at q;exact Cm q
   have C:=za d;clear s d;go_wp2;go_ret;exact⟨by rw[C.out];rfl,X.out⟩
