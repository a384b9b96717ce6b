/- package registry: Encode. -/
import Derived.Test.YtdbmifjankgfpaaGreatDoorKA23
import Derived.Test.YtdbmifjankgfpaaGreatDoorKA36
import Derived.Test.YtdbmifjankgfpaaGreatDoorKA40
import Derived.Test.YtdbmifjankgfpaaGreatDoorKA42
import Derived.Test.YtdbmifjankgfpaaGreatDoorKA43
set_option linter.all false
set_option maxRecDepth 100000
set_option maxHeartbeats 3200000
open Go.Proofs.Tryz
namespace Go.Proofs.YtdbmifjankgfpaaGreatDoor
open Go.RowKit
variable {w w':World}{l:List cg}{g k hi a0 n cap d j:Nat}{E a3 a4:Int}{A:Option Addr}{e:bz}{t:Ty}
def yj:=@heap_alloc_old
def ZQ:=@results33
def acz (w:World)(S:Nat->Prop)(o:Option bz)(a0:Nat)(a1 a2:ByteArray)(a3 a4:Int)(A:Option Addr)(n cap:Nat)(a6:Int)(b:Bool):Prop:=
 (o=none/\b=false/\a0=0/\a1=⟨#[]⟩/\a2=⟨#[]⟩)\/∃e,o=some e/\b=true/\a0=e.id/\a1=e.name/\a2=e.ty/\fE w S e.shape (.int .i64 a3) (.int .i64 a4) (.slice A n cap) (.int .i64 a6)/\nz e/\cT e.ty.data.toList=some e.shape
theorem Lr {E G D:Nat}{c:aP}(h:mi w E hi g G D c l){o:Option bz}{s q:ByteArray}{p:Int}{b:Bool}(i:QK l o a0 s q a3 a4 A n cap p b):acz w (fun k=>g<k/\k<hi) o a0 s q a3 a4 A n cap p b:=by
 rcases i with⟨m,j,d⟩|⟨r,i,m,j,d⟩
 ·simp[C5]at d;exact .inl ⟨m,j,by omega,d.2.1,d.2.2.1⟩
 obtain⟨L,I,K,J,e,C⟩:=h.rows r i;rw[e]at d;simp at d;obtain⟨H,y,z,B,F,x,u⟩:=d;subst B F x u;exact .inr ⟨r.1,m,j,by omega,y,z,C,h.sz r i,h.ok.ty r.1 (xH.2 ⟨r,i,rfl⟩)⟩
theorem Ul (lo hi g m gi:Nat)(c:aP)(l:List cg)(nm:ByteArray)(x:It)(B:Nat)(w:World)(c0 c1 c2:Value)(h:mi w lo hi g m gi c l)(hI:bT w B x c0 c1 c2)(hB:B<=w.heap.size)(hL:Laid w)(iR:bj w)(hl:c.fm≠1->x.fO.length<=1099511627776):
 Calls prog 33 #[.pointer (some ⟨g,0,none⟩),.agg #[.string nm,c0,c1,c2]] w fun e w'=>e= .returned (.tuple #[(bc c (aK l) nm x).1.val,.int .i64 (bc c (aK l) nm x).2])/\Below w.heap.size w w':=by
 have Aq:g<w.heap.size:=zU h.g2 h.his;have ai:m<w.heap.size:=h.nm.lt;obtain⟨D,y,rfl,rfl,rfl,_⟩:=hI.open_;obtain⟨W,H⟩:∃W,(w.alloc (.cells #[.string nm,.string x.text,.bool x.list,.slice D x.sub.length y] 30)).alloc (.cells #[.int .u64 0,.string ⟨#[]⟩,.string ⟨#[]⟩] 84)=W:=⟨_,rfl⟩
 have I:Below w.heap.size w W:=by rw[<-H];exact((zl _ w).alloc (zg _) _).alloc (by simp) _
 have Wt:W.heap.size=w.heap.size+2:=by rw[<-H];simp
 have Ct:af W w.heap.size 30 #[.string nm,.string x.text,.bool x.list,.slice D x.sub.length y]:=by rw[<-H];exact(af.new w _ _).alloc _
 have oh:af W (w.heap.size+1) 84 #[.int .u64 0,.string ⟨#[]⟩,.string ⟨#[]⟩]:=by rw[<-H];exact af.at_ (by simp)
 obtain⟨a0,J,a2,a3,a4,A,n,cap,k,b,rh,og⟩:=Dk h nm;have Cu:=za (Lr h rh);have sr:=za og;have Cv:=za (h.below (I.mono h.his));have HS:Hid (∀V:World,V.heap[g]?=W.heap[g]?/\V.heap[m]?=W.heap[m]?/\V.heap[w.heap.size]?=W.heap[w.heap.size]?->V.cell? ⟨g,6,none⟩=some (.map (some m))/\V.cell? ⟨w.heap.size,0,none⟩=some (.string nm)/\jl V m (AJ l)):=za (fun V d=>⟨af.cell (show af V g _ _ from d.1.trans Cv.out.blk) 6,af.cell (show af V w.heap.size _ _ from d.2.2.trans Ct) 0,Cv.out.nm.ag d.2.1⟩);have ae:=za (hI.below (I.mono hB));have jU:=za Ct;have cr:=za oh;have eE:=za I;have HW:=za H;have He:=za (hL.below I hL.pos);have Sr:=za (iR.below I iR.pos);have mM:Hid (bc c (aK l) nm x=match dw (aK l) nm with
  |none=>(mQ,11)
  |some e=>if(bE c e.shape x).2≠0 then(mQ,(bE c e.shape x).2)else if c.fm=1 then(⟨0,e.name,(bE c e.shape x).1⟩,0)else(⟨e.id,ByteArray.empty,(bE c e.shape x).1⟩,0)):=za rfl
 generalize bc c (aK l) nm x=ag at*;generalize dw (aK l) nm=ah at*;clear h hI hL iR H I Ct oh rh og;go_enter func33,ntmps33
 go_wp2_with fail
 rw[HW.out];refine aB 12 (fun V=>V.cell? ⟨g,6,none⟩=some (.map (some m))/\V.cell? ⟨w.heap.size,0,none⟩=some (.string nm)/\jl V m (AJ l)) (by kernel_rfl) (by kernel_rfl) ?_;have hHeld:=HS.out W.drew ⟨rfl,rfl,rfl⟩;refine GT.jr [0,1,2,3,4,5,6,7,8,9] hHeld (fun _ _ _ _ _ h=>h) (by kernel_rfl) ?_;iterate 6 (refine .c rfl rfl (fun V d=>by go_simp<;>with_reducible rfl) ?_;simp only[Act.put,zb,zd,ze])
 refine .c (v:= .tuple #[.agg #[.int .u64 a0,.string J,.string a2,.int .i64 a3,.int .i64 a4,.slice A n cap,.int .i64 k],.bool b]) rfl rfl (fun V d=>by have hl:=sr.out V d.2.2;go_simp) ?_;try simp only[Act.put,zb,zd,ze];iterate 3 (refine .c rfl rfl (fun V d=>by go_simp<;>with_reducible rfl) ?_;simp only[Act.put,zb,zd,ze])
 refine .nil ?_;refine GT.fF 10 (fun K p=> ?_) rfl (by kernel_rfl);go_simp;have jb:(W.alloc (.cells #[.int .u64 0,.string ⟨#[]⟩,.string ⟨#[]⟩,.int .i64 0,.int .i64 0,.slice none 0 0,.int .i64 0] 116)).drew.heap[g]?=W.heap[g]?/\(W.alloc (.cells #[.int .u64 0,.string ⟨#[]⟩,.string ⟨#[]⟩,.int .i64 0,.int .i64 0,.slice none 0 0,.int .i64 0] 116)).drew.heap[m]?=W.heap[m]?/\(W.alloc (.cells #[.int .u64 0,.string ⟨#[]⟩,.string ⟨#[]⟩,.int .i64 0,.int .i64 0,.slice none 0 0,.int .i64 0] 116)).drew.heap[w.heap.size]?=W.heap[w.heap.size]?:=⟨yj _ _ (by omega),yj _ _ (by omega),yj _ _ (by omega)⟩
 refine p.out _ _ (HS.out _ jb) (fun hHeld=> ?_);clear p K;try simp only[Act.put,zb,zd,ze]
 refine GT.fF 11 (fun K p=> ?_) rfl (by kernel_rfl);go_simp;have eD:(W.alloc (.cells #[.int .u64 a0,.string J,.string a2,.int .i64 a3,.int .i64 a4,.slice A n cap,.int .i64 k] 116)).drew.heap[g]?=W.heap[g]?/\(W.alloc (.cells #[.int .u64 a0,.string J,.string a2,.int .i64 a3,.int .i64 a4,.slice A n cap,.int .i64 k] 116)).drew.heap[m]?=W.heap[m]?/\(W.alloc (.cells #[.int .u64 a0,.string J,.string a2,.int .i64 a3,.int .i64 a4,.slice A n cap,.int .i64 k] 116)).drew.heap[w.heap.size]?=W.heap[w.heap.size]?:=⟨yj _ _ (by omega),yj _ _ (by omega),yj _ _ (by omega)⟩
 refine p.out _ _ (HS.out _ eD) (fun hHeld=> ?_);clear p K;try simp only[Act.put,zb,zd,ze]
 refine GT.oL 12 ?_ rfl (by kernel_rfl);go_simp;obtain⟨i,mL⟩:∃i,(W.alloc (.cells #[.int .u64 a0,.string J,.string a2,.int .i64 a3,.int .i64 a4,.slice A n cap,.int .i64 k] 116)).drew=i:=⟨_,rfl⟩
 have z:Below W.heap.size W i:=by rw[<-mL];exact((zl _ W).alloc (zg _) _).drew
 have GM:af i (w.heap.size+2) 116 #[.int .u64 a0,.string J,.string a2,.int .i64 a3,.int .i64 a4,.slice A n cap,.int .i64 k]:=by rw[<-mL];exact af.drew (af.at_ Wt)
 have C:=za (Cv.out.below (z.mono Cv.out.his));have U5:=za (jU.out.ag z (by omega));have OA:=za (cr.out.ag z (by omega));have X:=za GM;have At:=za (eE.out.trans (z.mono (by omega)));have ri:=za (ae.out.below (z.mono (by omega)));have Z:=za (He.out.below z He.out.pos);have Sq:=za (Sr.out.below z Sr.out.pos);have cE:w.heap.size+2<i.heap.size:=GM.lt;rw[mL];clear jb eD mL z GM sr HS hHeld;rcases Cu.out with⟨rfl,rfl,rfl,rfl,rfl⟩|⟨e,rfl,rfl,rfl,rfl,rfl,my,aj,rj⟩
 ·obtain⟨q0,q1,q2,Wm,ab,ad⟩:=aZ OA.out;go_wp2;obtain⟨s,r,u⟩:=fz OA.out (.int .u64 0) (.string ⟨#[]⟩) (.string ⟨#[]⟩);refine zk (v:= .tuple #[.agg #[.int .u64 0,.string ⟨#[]⟩,.string ⟨#[]⟩],.int .i64 11]) (by simp[results,ZQ,go_sem,s,r,u]) rfl ?_;rw[mM.out];exact⟨rfl,((At.out.setCell (by simp) _).setCell (by simp) _).setCell (by simp) _⟩
 have OX:=za ((my.below At.out).AM);obtain⟨u0,u1,u2,u3,u4,u5,u6⟩:=nB X.out;have q:Hid (ag=if(bE c e.shape x).2≠0 then(mQ,(bE c e.shape x).2)else if c.fm=1 then(⟨0,e.name,(bE c e.shape x).1⟩,0)else(⟨e.id,ByteArray.empty,(bE c e.shape x).1⟩,0)):=mM;clear mM;clear my;by_cases o:c.fm=1
 ·have R:tG c= .func (.func 88) #[.agg #[.int .i64 c.de,.int .i64 c.it]] #[]:=by unfold tG AN;rw[zi o]
  have aa:Hid (∀V,Below i.heap.size i V->Calls prog 88 #[.agg #[.int .i64 c.de,.int .i64 c.it],.agg #[.int .i64 a3,.int .i64 a4,.slice A n cap,.int .i64 k],.agg #[.string x.text,.bool x.list,.slice D x.sub.length y]] V fun Y w'=>Y= .returned (.tuple #[.string (bE c e.shape x).1,.int .i64 (bE c e.shape x).2])/\Below V.heap.size V w'):=za (fun V d=>by
   unfold bE;rw[zi o];exact Gd e.shape x c.de c.it i.heap.size V _ _ _ _ _ _ _ (OX.out.below d) ((ri.out.below (d.mono (by omega))).mono (by omega)) d.size (Z.out.below d Z.out.pos) (Sq.out.below d Sq.out.pos))
  rw[zi o]at q;have YT:((c.fm:Int)==1)=true:=yQ.2 o;have N:Hid (∀V,Below i.heap.size i V->V.cell? ⟨g,8,none⟩=some (.func (.func 88) #[.agg #[.int .i64 c.de,.int .i64 c.it]] #[])/\V.cell? ⟨w.heap.size+2,3,none⟩=some (.int .i64 a3)/\V.cell? ⟨w.heap.size+2,4,none⟩=some (.int .i64 a4)/\V.cell? ⟨w.heap.size+2,5,none⟩=some (.slice A n cap)/\V.cell? ⟨w.heap.size+2,6,none⟩=some (.int .i64 k)/\V.cell? ⟨w.heap.size,1,none⟩=some (.string x.text)/\V.cell? ⟨w.heap.size,2,none⟩=some (.bool x.list)/\V.cell? ⟨w.heap.size,3,none⟩=some (.slice D x.sub.length y)):=za (fun V d=>by
   obtain⟨_,_,_,y3,y4,y5,y6⟩:=nB (X.out.ag d (by omega));obtain⟨_,F,z2,z3,_⟩:=aN (U5.out.ag d (by omega));have L:=(C.out.below (d.mono C.out.his)).cells.2.2.2.1;rw[R]at L;exact⟨L,y3,y4,y5,y6,F,z2,z3⟩)
  generalize (bE c e.shape x).1=PS at*;generalize (bE c e.shape x).2=PE at*;clear R o;go_wp2_with fail
  refine aB 14 (fun V=>V.cell? ⟨g,8,none⟩=some (.func (.func 88) #[.agg #[.int .i64 c.de,.int .i64 c.it]] #[])/\V.cell? ⟨w.heap.size+2,3,none⟩=some (.int .i64 a3)/\V.cell? ⟨w.heap.size+2,4,none⟩=some (.int .i64 a4)/\V.cell? ⟨w.heap.size+2,5,none⟩=some (.slice A n cap)/\V.cell? ⟨w.heap.size+2,6,none⟩=some (.int .i64 k)/\V.cell? ⟨w.heap.size,1,none⟩=some (.string x.text)/\V.cell? ⟨w.heap.size,2,none⟩=some (.bool x.list)/\V.cell? ⟨w.heap.size,3,none⟩=some (.slice D x.sub.length y)) (by kernel_rfl) (by kernel_rfl) ?_;have hHeld:=N.out i.drew bD;refine GT.jr [0,1,2,3,4,5,6,7,8] hHeld (fun _ _ _ _ _ h=>h) (by kernel_rfl) ?_;repeat(refine .c rfl rfl (fun V d=>by go_simp<;>with_reducible rfl) ?_;simp only[Act.put,zb,zd,ze])
  refine .nil ?_;refine GT.fF 9 (fun K p=> ?_) rfl (by kernel_rfl);go_simp;refine(aa.out i.drew bD).mono ?_;rintro Y w3 ⟨rfl,M⟩;go_wp2_with fail
  have j:Below i.heap.size i w3:=(show Below i.heap.size i i.drew from bD).trans M;refine p.out _ _ (N.out w3 j) (fun hHeld=> ?_);clear p K;try simp only[Act.put,zb,zd,ze]
  refine GT.jr [10,11,12,13] hHeld (fun _ _ _ _ _ h=>h) (by kernel_rfl) ?_;repeat(refine .c rfl rfl (fun V d=>by go_simp<;>with_reducible rfl) ?_;simp only[Act.put,zb,zd,ze])
  refine .nil ?_;refine GT.oL 14 ?_ rfl (by kernel_rfl);go_simp;have g0:=(C.out.below (j.mono C.out.his)).cells.1;have G:=OA.out.ag j (by omega);have U:=X.out.ag j (by omega);have O:=za (At.out.trans (j.mono (by omega)));have S:=za G;clear M j hHeld u0 u1 u2 u3 u4 u5 u6;obtain⟨q0,q1,q2,Wm,ab,ad⟩:=aZ G;obtain⟨u0,u1,u2,u3,u4,u5,u6⟩:=nB U;clear G U;rcases eP PE with⟨E,F,z2⟩|⟨E,F,z2⟩
  ·subst E;rw[zh (by simp)]at q;go_wp2;obtain⟨s,r,u⟩:=fz S.out (.int .u64 0) (.string e.name) (.string PS);refine zk (v:= .tuple #[.agg #[(.int .u64 0),(.string e.name),.string PS],.int .i64 0]) (by simp[results,ZQ,go_sem,s,r,u]) rfl ?_;rw[q.out];exact⟨rfl,((O.out.setCell (by simp) _).setCell (by simp) _).setCell (by simp) _⟩
  rw[zi E]at q;go_wp2;obtain⟨s,r,u⟩:=fz S.out (.int .u64 0) (.string ⟨#[]⟩) (.string ⟨#[]⟩);refine zk (v:= .tuple #[.agg #[.int .u64 0,.string ⟨#[]⟩,.string ⟨#[]⟩],.int .i64 PE]) (by simp[results,ZQ,go_sem,s,r,u]) rfl ?_;rw[q.out];exact⟨rfl,((O.out.setCell (by simp) _).setCell (by simp) _).setCell (by simp) _⟩
 have R:tG c= .func (.func 86) #[.agg #[.int .i64 c.de,.int .i64 c.it]] #[]:=by unfold tG AN;rw[zh o]
 have aa:Hid (∀V,Below i.heap.size i V->Calls prog 86 #[.agg #[.int .i64 c.de,.int .i64 c.it],.agg #[.int .i64 a3,.int .i64 a4,.slice A n cap,.int .i64 k],.agg #[.string x.text,.bool x.list,.slice D x.sub.length y]] V fun Y w'=>Y= .returned (.tuple #[.string (bE c e.shape x).1,.int .i64 (bE c e.shape x).2])/\Below V.heap.size V w'):=za (fun V d=>by
  unfold bE;rw[zh o];exact NP e.shape x c.de c.it i.heap.size V _ _ _ _ _ _ _ (OX.out.below d) ((ri.out.below (d.mono (by omega))).mono (by omega)) d.size (Z.out.below d Z.out.pos) (hl o))
 rw[zh o]at q;have YT:((c.fm:Int)==1)=false:=zm.2 o;have N:Hid (∀V,Below i.heap.size i V->V.cell? ⟨g,8,none⟩=some (.func (.func 86) #[.agg #[.int .i64 c.de,.int .i64 c.it]] #[])/\V.cell? ⟨w.heap.size+2,3,none⟩=some (.int .i64 a3)/\V.cell? ⟨w.heap.size+2,4,none⟩=some (.int .i64 a4)/\V.cell? ⟨w.heap.size+2,5,none⟩=some (.slice A n cap)/\V.cell? ⟨w.heap.size+2,6,none⟩=some (.int .i64 k)/\V.cell? ⟨w.heap.size,1,none⟩=some (.string x.text)/\V.cell? ⟨w.heap.size,2,none⟩=some (.bool x.list)/\V.cell? ⟨w.heap.size,3,none⟩=some (.slice D x.sub.length y)):=za (fun V d=>by
  obtain⟨_,_,_,y3,y4,y5,y6⟩:=nB (X.out.ag d (by omega));obtain⟨_,F,z2,z3,_⟩:=aN (U5.out.ag d (by omega));have L:=(C.out.below (d.mono C.out.his)).cells.2.2.2.1;rw[R]at L;exact⟨L,y3,y4,y5,y6,F,z2,z3⟩)
 generalize (bE c e.shape x).1=PS at*;generalize (bE c e.shape x).2=PE at*;clear R o;go_wp2_with fail
 refine aB 14 (fun V=>V.cell? ⟨g,8,none⟩=some (.func (.func 86) #[.agg #[.int .i64 c.de,.int .i64 c.it]] #[])/\V.cell? ⟨w.heap.size+2,3,none⟩=some (.int .i64 a3)/\V.cell? ⟨w.heap.size+2,4,none⟩=some (.int .i64 a4)/\V.cell? ⟨w.heap.size+2,5,none⟩=some (.slice A n cap)/\V.cell? ⟨w.heap.size+2,6,none⟩=some (.int .i64 k)/\V.cell? ⟨w.heap.size,1,none⟩=some (.string x.text)/\V.cell? ⟨w.heap.size,2,none⟩=some (.bool x.list)/\V.cell? ⟨w.heap.size,3,none⟩=some (.slice D x.sub.length y)) (by kernel_rfl) (by kernel_rfl) ?_;have hHeld:=N.out i.drew bD;refine GT.jr [0,1,2,3,4,5,6,7,8] hHeld (fun _ _ _ _ _ h=>h) (by kernel_rfl) ?_;repeat(refine .c rfl rfl (fun V d=>by go_simp<;>with_reducible rfl) ?_;simp only[Act.put,zb,zd,ze])
 refine .nil ?_;refine GT.fF 9 (fun K p=> ?_) rfl (by kernel_rfl);go_simp;refine(aa.out i.drew bD).mono ?_;rintro Y w3 ⟨rfl,M⟩;go_wp2_with fail
 have j:Below i.heap.size i w3:=(show Below i.heap.size i i.drew from bD).trans M;refine p.out _ _ (N.out w3 j) (fun hHeld=> ?_);clear p K;try simp only[Act.put,zb,zd,ze]
 refine GT.jr [10,11,12,13] hHeld (fun _ _ _ _ _ h=>h) (by kernel_rfl) ?_;repeat(refine .c rfl rfl (fun V d=>by go_simp<;>with_reducible rfl) ?_;simp only[Act.put,zb,zd,ze])
 refine .nil ?_;refine GT.oL 14 ?_ rfl (by kernel_rfl);go_simp;have g0:=(C.out.below (j.mono C.out.his)).cells.1;have G:=OA.out.ag j (by omega);have U:=X.out.ag j (by omega);have O:=za (At.out.trans (j.mono (by omega)));have S:=za G;clear M j hHeld u0 u1 u2 u3 u4 u5 u6;obtain⟨q0,q1,q2,Wm,ab,ad⟩:=aZ G;obtain⟨u0,u1,u2,u3,u4,u5,u6⟩:=nB U;clear G U;rcases eP PE with⟨E,F,z2⟩|⟨E,F,z2⟩
 ·subst E;rw[zh (by simp)]at q;go_wp2;obtain⟨s,r,u⟩:=fz S.out (.int .u64 e.id) (.string ⟨#[]⟩) (.string PS);refine zk (v:= .tuple #[.agg #[(.int .u64 e.id),(.string ⟨#[]⟩),.string PS],.int .i64 0]) (by simp[results,ZQ,go_sem,s,r,u]) rfl ?_;rw[q.out];exact⟨rfl,((O.out.setCell (by simp) _).setCell (by simp) _).setCell (by simp) _⟩
 rw[zi E]at q;go_wp2;obtain⟨s,r,u⟩:=fz S.out (.int .u64 0) (.string ⟨#[]⟩) (.string ⟨#[]⟩);refine zk (v:= .tuple #[.agg #[.int .u64 0,.string ⟨#[]⟩,.string ⟨#[]⟩],.int .i64 PE]) (by simp[results,ZQ,go_sem,s,r,u]) rfl ?_;rw[q.out];exact⟨rfl,((O.out.setCell (by simp) _).setCell (by simp) _).setCell (by simp) _⟩
def VH (w:World)(D:Int×Ms)(e:Ending)(w':World):Prop:=Below w.heap.size w w'/\∃d0 d1 d2 d3,e= .returned (.tuple #[.agg #[d0,d1,d2,d3],.int .i64 D.1])/\pg w' (w.heap.size<= ·) D.2 d0 d1 d2 d3
theorem Ds (w:World)(S:Nat->Prop):pg w S rI (.string ⟨#[]⟩) (.string ⟨#[]⟩) (.bool false) (.slice none 0 0):=⟨rfl,by simp[rI,ByteArray.size],ny w S⟩
theorem iq {t:TypeId}{o l e z3:Value}(h:af w g t #[o,l,e,z3])(b c d v3:Value):(w.setCell ⟨g,0,none⟩ b).cell? ⟨g,0,none⟩=some b/\((w.setCell ⟨g,0,none⟩ b).setCell ⟨g,1,none⟩ c).cell? ⟨g,1,none⟩=some c/\(((w.setCell ⟨g,0,none⟩ b).setCell ⟨g,1,none⟩ c).setCell ⟨g,2,none⟩ d).cell? ⟨g,2,none⟩=some d/\((((w.setCell ⟨g,0,none⟩ b).setCell ⟨g,1,none⟩ c).setCell ⟨g,2,none⟩ d).setCell ⟨g,3,none⟩ v3).cell? ⟨g,3,none⟩=some v3:=by
 have k:af _ g t #[b,l,e,z3]:=h.store (i:=0) (u:=b) rfl;have j:af _ g t #[b,c,e,z3]:=k.store (i:=1) (u:=c) rfl;have m:af _ g t #[b,c,d,z3]:=j.store (i:=2) (u:=d) rfl;have n:af _ g t #[b,c,d,v3]:=m.store (i:=3) (u:=v3) rfl;exact⟨k.cell 0,j.cell 1,m.cell 2,n.cell 3⟩
theorem eN (w:World)(g:Nat)(c b d v3:Value):ae [g] w ((((w.setCell ⟨g,0,none⟩ c).setCell ⟨g,1,none⟩ b).setCell ⟨g,2,none⟩ d).setCell ⟨g,3,none⟩ v3):=((((ae.refl _ w).setCell (by simp) _).setCell (by simp) _).setCell (by simp) _).setCell (by simp) _
theorem Um (lo hi g gn gi:Nat)(c:aP)(l:List cg)(f:Fr)(w:World)(h:mi w lo hi g gn gi c l)(hL:Laid w)(iR:bj w)(hs:f.body.size<=1099511627776):
 Calls prog 64 #[.pointer (some ⟨g,0,none⟩),.agg #[.int .u64 f.id,.string f.nm,.string f.body]] w fun e w'=>VH w (fc c (aK l) f) e w':=by
 obtain⟨W,F⟩:∃W,(w.alloc (.cells #[.int .u64 f.id,.string f.nm,.string f.body] 84)).alloc (.cells #[.string ⟨#[]⟩,.string ⟨#[]⟩,.bool false,.slice none 0 0] 30)=W:=⟨_,rfl⟩
 have O:Below w.heap.size w W:=by rw[<-F];exact((zl _ w).alloc (zg _) _).alloc (by simp) _
 have Wt:W.heap.size=w.heap.size+2:=by rw[<-F];simp
 have Ct:af W w.heap.size 84 #[.int .u64 f.id,.string f.nm,.string f.body]:=by rw[<-F];exact(af.new w _ _).alloc _
 have oh:af W (w.heap.size+1) 30 #[.string ⟨#[]⟩,.string ⟨#[]⟩,.bool false,.slice none 0 0]:=by rw[<-F];exact af.at_ (by simp)
 have Cv:=za (h.below (O.mono h.his));have ag:=za (XH lo hi g gn gi c l f W Cv.out);have jU:=za Ct;have cr:=za oh;have eE:=za O;have HW:=za F;have He:=za (hL.below O hL.pos);have Sr:=za (iR.below O iR.pos);have M:Hid (fc c (aK l) f=match fS c (aK l) f with
  |none=>(11,rI)
  |some e=>if(dG c e.shape f.body).1=0 then(0,⟨e.name,(dG c e.shape f.body).2⟩)else if(dG c e.shape f.body).1=2 then(3,rI)else((dG c e.shape f.body).1,rI)):=za rfl
 obtain⟨r0,r1,r2,_⟩:=aZ Ct;obtain⟨id,nm,body⟩:=f;simp only at r0 r1 r2 hs ag jU HW;generalize fc c (aK l) ⟨id,nm,body⟩=ar at*;clear h hL iR F O Ct oh;go_enter func64,ntmps64
 go_wp2_with fail
 rw[HW.out];refine ag.out.mono ?_;rintro e o ⟨J,a0,a1,a2,a3,a4,A,n,cap,I,b,rfl,rh⟩;have Cu:=za (Lr Cv.out rh);obtain⟨d,X⟩:∃d,o.alloc (.cells #[.int .u64 a0,.string a1,.string a2,.int .i64 a3,.int .i64 a4,.slice A n cap,.int .i64 I] 116)=d:=⟨_,rfl⟩
 have u:Below W.heap.size W d:=by rw[<-X];exact J.alloc J.size _
 have cc:w.heap.size+2<=o.heap.size:=by have:=J.size;omega
 have pS:Hid (af d o.heap.size 116 #[.int .u64 a0,.string a1,.string a2,.int .i64 a3,.int .i64 a4,.slice A n cap,.int .i64 I]):=za (by rw[<-X];exact af.new _ _ _);have oW:=za (Cv.out.below (u.mono Cv.out.his));have U5:=za (jU.out.ag u (by omega));have OA:=za (cr.out.ag u (by omega));have At:=za (eE.out.trans (u.mono (by omega)));have U:=za (He.out.below u He.out.pos);have Sq:=za (Sr.out.below u Sr.out.pos);have Ac:=za u;have ak:=za (cr.out.ag J (by omega));have al:=za (eE.out.trans (J.mono (by omega)));have kW:w.heap.size+1<o.heap.size:=by omega
 have cE:o.heap.size<d.heap.size:=pS.out.lt;have sq:=za X;clear J u rh X ag r0 r1 r2;rcases Cu.out with⟨N,rfl,rfl,rfl,rfl⟩|⟨e,N,rfl,rfl,rfl,rfl,my,an,rj⟩
 ·rw[N]at M;clear Cu N;obtain⟨q0,q1,q2,q3,Wm,aq,au,ao⟩:=aN ak.out;go_wp2;obtain⟨C,y,D,s⟩:=iq ak.out (.string ⟨#[]⟩) (.string ⟨#[]⟩) (.bool false) (.slice none 0 0);refine zk (v:= .tuple #[.agg #[.string ⟨#[]⟩,.string ⟨#[]⟩,.bool false,.slice none 0 0],.int .i64 11]) (by simp[results,results64,go_sem,C,y,D,s,zA,kW]) rfl ?_;rw[M.out];exact⟨(al.out.trans ((eN o (w.heap.size+1) _ _ _ _).below al.out.size (by simp))).alloc (by simp[World.setCell];omega) _,_,_,_,_,rfl,Ds _ _⟩
 have OX:=za ((my.below Ac.out).AM);rw[N]at M;have z:Hid (ar=if(dG c e.shape body).1=0 then(0,⟨e.name,(dG c e.shape body).2⟩)else if(dG c e.shape body).1=2 then(3,rI)else((dG c e.shape body).1,rI)):=M;have Yx:=an.name;clear M Cu N my an rj;have JX:(qB c= .func (.func 89) #[.agg #[.int .i64 c.de,.int .i64 c.it]] #[]/\Hid (∀V,Below d.heap.size d V->Calls prog 89 #[.agg #[.int .i64 c.de,.int .i64 c.it],.agg #[.int .i64 a3,.int .i64 a4,.slice A n cap,.int .i64 I],.string body] V fun S w'=>vG V w' (dG c e.shape body).2 (dG c e.shape body).1 S))\/(qB c= .func (.func 87) #[.agg #[.int .i64 c.de,.int .i64 c.it]] #[]/\Hid (∀V,Below d.heap.size d V->Calls prog 87 #[.agg #[.int .i64 c.de,.int .i64 c.it],.agg #[.int .i64 a3,.int .i64 a4,.slice A n cap,.int .i64 I],.string body] V fun S w'=>vG V w' (dG c e.shape body).2 (dG c e.shape body).1 S)):=by
  by_cases Y:c.fm=1
  ·refine .inl ⟨by unfold qB AN;rw[zi Y],za (fun V j=> ?_)⟩;unfold dG;rw[zi Y];exact Ge e.shape body c.de c.it d.heap.size V _ _ _ _ (OX.out.below j) j.size (U.out.below j U.out.pos) (Sq.out.below j Sq.out.pos) hs
  refine .inr ⟨by unfold qB AN;rw[zh Y],za (fun V j=> ?_)⟩;unfold dG;rw[zh Y];exact NQ e.shape body c.de c.it d.heap.size V _ _ _ _ (OX.out.below j) j.size (U.out.below j U.out.pos) (by omega)
 rcases JX with⟨Me,ai⟩|⟨Me,ai⟩;all_goals
  have B:Hid (∀V,Below d.heap.size d V->V.cell? ⟨g,9,none⟩=some (qB c)/\V.cell? ⟨o.heap.size,3,none⟩=some (.int .i64 a3)/\V.cell? ⟨o.heap.size,4,none⟩=some (.int .i64 a4)/\V.cell? ⟨o.heap.size,5,none⟩=some (.slice A n cap)/\V.cell? ⟨o.heap.size,6,none⟩=some (.int .i64 I)/\V.cell? ⟨w.heap.size,2,none⟩=some (.string body)):=za (fun V j=>by
   obtain⟨_,_,_,s,y4,y5,y6⟩:=nB (pS.out.ag j (by omega));obtain⟨_,_,z2,_⟩:=aZ (U5.out.ag j (by omega));have hp:=(oW.out.below (j.mono oW.out.his)).cells.2.2.2.2;exact⟨hp,s,y4,y5,y6,z2⟩)
  generalize (dG c e.shape body).1=PE at*;generalize (dG c e.shape body).2=PX at*;go_wp2_with fail
  rw[sq.out];refine aB 15 (fun V=>V.cell? ⟨g,9,none⟩=some (qB c)/\V.cell? ⟨o.heap.size,3,none⟩=some (.int .i64 a3)/\V.cell? ⟨o.heap.size,4,none⟩=some (.int .i64 a4)/\V.cell? ⟨o.heap.size,5,none⟩=some (.slice A n cap)/\V.cell? ⟨o.heap.size,6,none⟩=some (.int .i64 I)/\V.cell? ⟨w.heap.size,2,none⟩=some (.string body)) (by kernel_rfl) (by kernel_rfl) ?_;have hHeld:=B.out d.drew bD;refine GT.jr [0,1,2,3,4,5,6,7,8] hHeld (fun _ _ _ _ _ h=>h) (by kernel_rfl) ?_;repeat(refine .c rfl rfl (fun V j=>by go_simp<;>with_reducible rfl) ?_;simp only[Act.put,zb,zd,ze])
  refine .nil ?_;refine GT.Ua 9 13 rfl rfl (by kernel_rfl) (fun K i=> ?_) (fun K i=> ?_);focus
   go_simp;refine(ai.out d.drew bD).mono ?_;rintro S w3 ⟨H,d0,d1,d2,rfl,x⟩;obtain⟨r,bx,rfl,rfl,rfl,_⟩:=x.open_;have p:Below d.heap.size d w3:=(show Below d.heap.size d d.drew from bD).trans H;go_wp2_with fail
   refine i.out _ _ (B.out w3 p) (fun hHeld=> ?_);clear i K;try simp only[Act.put,zb,zd,ze]
   refine GT.jr [10,11,12] hHeld (fun _ _ _ _ _ h=>h) (by kernel_rfl) ?_;repeat(refine .c rfl rfl (fun V j=>by go_simp<;>with_reducible rfl) ?_;simp only[Act.put,zb,zd,ze])
   refine .nil ?_;refine GT.fF 13 (fun K i=> ?_) rfl (by kernel_rfl);go_simp;refine i.out _ _ (B.out _ (p.alloc p.size _)) (fun hHeld=> ?_);clear i K;try simp only[Act.put,zb,zd,ze]
   refine GT.fF 14 (fun K i=> ?_) rfl (by kernel_rfl);go_simp;refine i.out _ _ (B.out _ (p.alloc p.size _)) (fun hHeld=> ?_);clear i K;try simp only[Act.put,zb,zd,ze]
   refine GT.oL 15 ?_ rfl (by kernel_rfl);go_simp;obtain⟨m,q⟩:∃m,w3.alloc (.cells #[.string PX.text,.bool PX.list,.slice r PX.sub.length bx] 28)=m:=⟨_,rfl⟩
   have Z:Hid (Below d.heap.size d m):=za (by rw[<-q];exact p.alloc p.size _);have aa:af m w3.heap.size 28 #[.string PX.text,.bool PX.list,.slice r PX.sub.length bx]:=by rw[<-q];exact af.new _ _ _
   have Hd:Hid (ga m (d.heap.size<= ·) PX (.string PX.text) (.bool PX.list) (.slice r PX.sub.length bx)):=za (by rw[<-q];exact x.below ((zl _ _).alloc (zg _) _));rw[q];clear q H p x hHeld
  rotate_left
  focus
   go_simp;have R:Below d.heap.size d (d.alloc (.cells #[.string ⟨#[]⟩,.bool false,.slice none 0 0] 28)).drew:=((zl d.heap.size d).alloc (zg _) _).drew;have ah:af (d.alloc (.cells #[.string ⟨#[]⟩,.bool false,.slice none 0 0] 28)).drew d.heap.size 28 #[.string ⟨#[]⟩,.bool false,.slice none 0 0]:=(af.new d _ _).drew;refine i.out _ _ (B.out _ R) (fun hHeld=> ?_);clear i K;try simp only[Act.put,zb,zd,ze]
   refine GT.fF 9 (fun K i=> ?_) rfl (by kernel_rfl);go_simp;refine(ai.out _ R).mono ?_;rintro S w3 ⟨H,d0,d1,d2,rfl,x⟩;obtain⟨r,bx,rfl,rfl,rfl,_⟩:=x.open_;have p:Below d.heap.size d w3:=R.trans (H.mono R.size);have St:=ah.ag H ah.lt;go_wp2_with fail
   refine i.out _ _ (B.out w3 p) (fun hHeld=> ?_);clear i K;try simp only[Act.put,zb,zd,ze]
   refine GT.jr [10,11,12] hHeld (fun _ _ _ _ _ h=>h) (by kernel_rfl) ?_;repeat(refine .c rfl rfl (fun V j=>by go_simp<;>with_reducible rfl) ?_;simp only[Act.put,zb,zd,ze])
   refine .nil ?_;obtain⟨t0,t1,t2,L9,Ov,Ta⟩:=aZ St;refine GT.fF 14 (fun K i=> ?_) rfl (by kernel_rfl);go_simp;have mz:Below d.heap.size d (((w3.setCell ⟨d.heap.size,0,none⟩ (.string PX.text)).setCell ⟨d.heap.size,1,none⟩ (.bool PX.list)).setCell ⟨d.heap.size,2,none⟩ (.slice r PX.sub.length bx)):=((p.setCell (by simp) _).setCell (by simp) _).setCell (by simp) _;refine i.out _ _ (B.out _ mz) (fun hHeld=> ?_);clear i K;try simp only[Act.put,zb,zd,ze]
   refine GT.oL 15 ?_ rfl (by kernel_rfl);go_simp;obtain⟨m,q⟩:∃m,(((w3.setCell ⟨d.heap.size,0,none⟩ (.string PX.text)).setCell ⟨d.heap.size,1,none⟩ (.bool PX.list)).setCell ⟨d.heap.size,2,none⟩ (.slice r PX.sub.length bx))=m:=⟨_,rfl⟩
   have Z:Hid (Below d.heap.size d m):=za (by rw[<-q];exact mz);have aa:af m d.heap.size 28 #[.string PX.text,.bool PX.list,.slice r PX.sub.length bx]:=by rw[<-q];exact ef St _ _ _
   have Hd:Hid (ga m (d.heap.size<= ·) PX (.string PX.text) (.bool PX.list) (.slice r PX.sub.length bx)):=za (by rw[<-q];exact x.only (L:= [d.heap.size]) ((((ae.refl _ w3).setCell (by simp) _).setCell (by simp) _).setCell (by simp) _) (by simp[World.drew]) (fun k _ E=>by have E:(d.alloc (.cells #[.string ⟨#[]⟩,.bool false,.slice none 0 0] 28)).heap.size<=k:=E;simp at E;show d.heap.size<=k;omega));rw[q];clear q H p x hHeld R ah mz St t0 t1 t2 L9 Ov Ta
  all_goals
   have ad:=OA.out.ag Z.out (by omega);have aj:=pS.out.ag Z.out (by omega);have ab:=za ad;have G:=za (At.out.trans (Z.out.mono (by omega)));obtain⟨q0,q1,q2,q3,Wm,aq,au,ao⟩:=aN ad;obtain⟨u0,u1,u2,u3,u4,u5,u6⟩:=nB aj;obtain⟨t0,t1,t2⟩:=kr aa;clear ad aj aa;rcases eP PE with⟨he,z1,z2⟩|⟨he,z1,z2⟩
   ·subst he;rw[zi rfl]at z;go_wp2;obtain⟨C,y,D,s⟩:=iq ab.out (.string e.name) (.string PX.text) (.bool PX.list) (.slice r PX.sub.length bx);refine zk (v:= .tuple #[.agg #[.string e.name,.string PX.text,.bool PX.list,.slice r PX.sub.length bx],.int .i64 0]) (by simp[results,results64,go_sem,C,y,D,s]) rfl ?_;rw[z.out];exact⟨G.out.trans ((eN m (w.heap.size+1) _ _ _ _).below G.out.size (by simp)),_,_,_,_,rfl,rfl,by simp only;omega,Hd.out.only (L:= [w.heap.size+1]) (eN m (w.heap.size+1) _ _ _ _) (by simp;omega) (fun k _ E=>by have E:d.heap.size<=k:=E;show w.heap.size<=k;omega)⟩
   rw[zh he]at z;by_cases h2:PE=2
   ·have z3:(PE==2)=true:=yQ.2 h2;rw[zi h2]at z;go_wp2;obtain⟨C,y,D,s⟩:=iq ab.out (.string ⟨#[]⟩) (.string ⟨#[]⟩) (.bool false) (.slice none 0 0);refine zk (v:= .tuple #[.agg #[.string ⟨#[]⟩,.string ⟨#[]⟩,.bool false,.slice none 0 0],.int .i64 3]) (by simp[results,results64,go_sem,C,y,D,s]) rfl ?_;rw[z.out];exact⟨G.out.trans ((eN m (w.heap.size+1) _ _ _ _).below G.out.size (by simp)),_,_,_,_,rfl,Ds _ _⟩
   have z3:(PE==2)=false:=zm.2 h2;rw[zh h2]at z;go_wp2;obtain⟨C,y,D,s⟩:=iq ab.out (.string ⟨#[]⟩) (.string ⟨#[]⟩) (.bool false) (.slice none 0 0);refine zk (v:= .tuple #[.agg #[.string ⟨#[]⟩,.string ⟨#[]⟩,.bool false,.slice none 0 0],.int .i64 PE]) (by simp[results,results64,go_sem,C,y,D,s]) rfl ?_;rw[z.out];exact⟨G.out.trans ((eN m (w.heap.size+1) _ _ _ _).below G.out.size (by simp)),_,_,_,_,rfl,Ds _ _⟩
theorem mi.put {m i:Nat}{c:aP}(h:mi w m hi g d i c l)(j:ae [d,i] w w')(hz:w'.heap.size=w.heap.size){v:Value}(o:jl w' d (AJ (l++ [(e,v)])))(q:jl w' i (AK (l++ [(e,v)])))(n:Vv w (fun k=>g<k/\k<w.heap.size) (e,v))(s:gD c (aK l) e=0)(x:nz e):mi w' m w'.heap.size g d i c (l++ [(e,v)]) where
 blk:=h.blk.only j (by have:=h.n2;have:=h.i2;simp;omega)
 nm:=o
 ix:=q
 n1:=h.n1
 n2:=h.n2
 i1:=h.i1
 i2:=h.i2
 ne:=h.ne
 g2:=by have:=h.g2;have:=h.his;omega
 his:=zg _
 rows:=fun r b=>by
  have key:Vv w (fun k=>g<k/\k<w.heap.size) r:=by
   rcases ZF.1 b with b|b
   ·exact(h.rows r b).ag (fun k _ hS=>⟨hS.1,by have:=hS.2;have:=h.his;omega⟩) (fun _ _ _=>rfl)
   obtain rfl:=xd.1 b;exact n
  exact key.ag (fun k _ hS=>⟨hS.1,by have:=hS.2;omega⟩) fun p u hS=>j.cell u (by have:=hS.1;have:=h.n2;have:=h.i2;simp;omega)
 ok:=by
  have:aK (l++ [(e,v)])=aK l++ [e]:=by simp[aK]
  rw[this];exact h.ok.snoc s
 sz:=fun r b=>by
  rcases ZF.1 b with b|b
  ·exact h.sz r b
  obtain rfl:=xd.1 b;exact x
def VI (w:World)(lo g gn gi:Nat)(c:aP)(l:List cg)(e:bz)(en:Ending)(w':World):Prop:=
 en= .returned (.int .i64 (gD c (aK l) e))/\ae [gn,gi] w w'/\(gD c (aK l) e=0->∃v,mi w' lo w'.heap.size g gn gi c (l++ [(e,v)]))
theorem lB {b:Nat}{c:aP}(h:gD c (aK l) e=E)(m:E≠0)(i:ae [b,d] w w'):VI w j g b d c l e (.returned (.int .i64 E)) w':=⟨by rw[h],i,fun k=>absurd (h.symm.trans k) m⟩
theorem eO {L:List Nat}(h:Below w.heap.size w w'):ae L w w':=(ae.ah h (zg _)).mono (by simp)
theorem XV {c:aP}(h:cK c (aK l)){nm:ByteArray}(d:∀x∈aK l,x.name≠nm):Instr.findNow .string (.string nm) (mE (AJ l) 0) 0=some none:=by
 rcases BZ h nm with⟨b,_⟩|⟨j,r,_,e,i,_⟩
 ·exact b
 exact absurd i (d r.1 (xH.2 ⟨r,xj e,rfl⟩))
theorem XW {c:aP}(h:cK c (aK l)){id:Nat}(d:∀x∈aK l,x.id≠id):Instr.findNow (.int .u64) (.int .u64 id) (mE (AK l) 0) 0=some none:=by
 rcases KO h id _ (fun _=>rfl)with⟨b,_⟩|⟨j,r,_,e,i,_⟩
 ·exact b
 exact absurd i (d r.1 (xH.2 ⟨r,xj e,rfl⟩))
theorem Ls {p:bz->Bool}{i e:ByteArray}{d:Int}{b:Bool}(h:QK l ((aK l).find? p) a0 i e a3 a4 A n cap d b):(aK l).any p=b:=by
 rcases h with⟨c,rfl,_⟩|⟨r,_,c,rfl,_⟩
 ·exact Fo c
 exact Fp c
theorem Un (lo hi g j i:Nat)(c:aP)(l:List cg)(e:bz)(w:World)(h:mi w lo hi g j i c l)(hL:Laid w)(hg:1<lo)(hs:nz e):
 Calls prog 90 #[.pointer (some ⟨g,0,none⟩),.agg #[.int .u64 e.id,.string e.name,.string e.ty]] w fun en w'=>VI w lo g j i c l e en w':=by
 obtain⟨g0,g6,g7,_,_⟩:=h.cells;have Aq:g<w.heap.size:=zU h.g2 h.his;have aV:j<w.heap.size:=h.nm.lt;have iU:i<w.heap.size:=h.ix.lt;obtain⟨W,hW⟩:∃W,w.alloc (.cells #[.int .u64 e.id,.string e.name,.string e.ty] 48)=W:=⟨_,rfl⟩
 have oB:Below w.heap.size w W:=by rw[<-hW];exact(zl _ w).alloc (zg _) _
 have Wt:W.heap.size=w.heap.size+1:=by rw[<-hW];simp
 have Ct:af W w.heap.size 48 #[.int .u64 e.id,.string e.name,.string e.ty]:=by rw[<-hW];exact af.new w _ _
 obtain⟨a0,a1,a2,a3,a4,A,n,cap,a6,b,rh,X⟩:=Dk h e.name;have az:=Ls rh;have Cv:=za (h.below (oB.mono h.his));have sr:=za X;have D:Hid (∀V:World,V.heap[g]?=W.heap[g]?/\V.heap[j]?=W.heap[j]?/\V.heap[w.heap.size]?=W.heap[w.heap.size]?->V.cell? ⟨g,6,none⟩=some (.map (some j))/\V.cell? ⟨w.heap.size,1,none⟩=some (.string e.name)/\jl V j (AJ l)):=za (fun V d=>⟨af.cell (show af V g _ _ from d.1.trans Cv.out.blk) 6,af.cell (show af V w.heap.size _ _ from d.2.2.trans Ct) 1,Cv.out.nm.ag d.2.1⟩);have jU:=za Ct;have eE:=za oB;have HW:=za hW;have He:=za (hL.below oB hL.pos);have o:Hid (gD c (aK l) e=if bZ e.name=false then 11 else if((aK l).any fun x=>decide (x.name=e.name))=true then 11 else if((aK l).any fun x=>decide (x.id=e.id))=true then 1
  else if cT e.ty.data.toList=none then 3 else if c.fm=1/\e.shape.flat=false then 12 else 0):=za rfl
 rw[show((aK l).any fun x=>decide (x.name=e.name))=b from az]at o;have aO:=za hs;have aU:=hs.name;have aS:=hs.ty;have UU:=za (fun V=>qy e.name V (by omega));clear h hL hW oB Ct rh X az hs;go_enter func90,ntmps90
 go_wp2_with fail
 rw[HW.out];refine aB 12 (fun V=>V.cell? ⟨g,6,none⟩=some (.map (some j))/\V.cell? ⟨w.heap.size,1,none⟩=some (.string e.name)/\jl V j (AJ l)) (by kernel_rfl) (by kernel_rfl) ?_;have hHeld:=D.out W.drew ⟨rfl,rfl,rfl⟩;refine GT.jr [0,1,2,3,4,5,6,7,8,9] hHeld (fun _ _ _ _ _ h=>h) (by kernel_rfl) ?_;iterate 6 (refine .c rfl rfl (fun V d=>by go_simp<;>with_reducible rfl) ?_;simp only[Act.put,zb,zd,ze])
 refine .c (v:= .tuple #[.agg #[.int .u64 a0,.string a1,.string a2,.int .i64 a3,.int .i64 a4,.slice A n cap,.int .i64 a6],.bool b]) rfl rfl (fun V d=>by have hl:=sr.out V d.2.2;go_simp) ?_;try simp only[Act.put,zb,zd,ze];iterate 3 (refine .c rfl rfl (fun V d=>by go_simp<;>with_reducible rfl) ?_;simp only[Act.put,zb,zd,ze])
 refine .nil ?_;refine GT.fF 10 (fun K y=> ?_) rfl (by kernel_rfl);go_simp;refine y.out _ _ (D.out _ ⟨yj _ _ (by omega),yj _ _ (by omega),yj _ _ (by omega)⟩) (fun hHeld=> ?_);clear y K;try simp only[Act.put,zb,zd,ze]
 refine GT.fF 11 (fun K y=> ?_) rfl (by kernel_rfl);go_simp;refine y.out _ _ (D.out _ ⟨yj _ _ (by omega),yj _ _ (by omega),yj _ _ (by omega)⟩) (fun hHeld=> ?_);clear y K;try simp only[Act.put,zb,zd,ze]
 refine GT.oL 12 ?_ rfl (by kernel_rfl);go_simp;obtain⟨r,mL⟩:∃r,(W.alloc (.cells #[.int .u64 a0,.string a1,.string a2,.int .i64 a3,.int .i64 a4,.slice A n cap,.int .i64 a6] 116)).drew=r:=⟨_,rfl⟩
 have aJ:Below W.heap.size W r:=by rw[<-mL];exact((zl _ W).alloc (zg _) _).drew
 have At:=za (eE.out.trans (aJ.mono (by omega)));have dm:=za (jU.out.ag aJ (by omega));have OB:=za (He.out.below aJ He.out.pos);have R:=za (Cv.out.below (aJ.mono Cv.out.his));rw[mL];clear mL aJ sr D hHeld jU He Cv eE;obtain⟨u0,u1,u2,ab,ah,ad⟩:=aZ dm.out;cases b with
 |true=>
  have q:gD c (aK l) e=11:=by rw[o.out];split<;>rfl
  go_wp2;go_ret;exact lB q (by decide) (eO At.out)
 |false=>
  rw[zh (show¬(false=true)by simp)]at o;go_wp2_with fail
  refine(UU.out _).mono ?_;rintro en w' ⟨rfl,rfl⟩;cases hmy:bZ e.name with
  |false=>
   have q:gD c (aK l) e=11:=by rw[o.out,zi hmy]
   go_wp2;go_ret;exact lB q (by decide) (eO At.out)
  |true=>
   rw[zh (by simp[hmy])]at o;obtain⟨a0,a1,a2,a3,a4,A,n,cap,a6,b,rh,X⟩:=La R.out e.id;rw[show((aK l).any fun x=>decide (x.id=e.id))=b from Ls rh]at o;have sr:=za X;have D:Hid (∀V:World,V.heap[g]?=r.heap[g]?/\V.heap[i]?=r.heap[i]?/\V.heap[w.heap.size]?=r.heap[w.heap.size]?->V.cell? ⟨g,7,none⟩=some (.map (some i))/\V.cell? ⟨w.heap.size,0,none⟩=some (.int .u64 e.id)/\jl V i (AK l)):=za (fun V d=>⟨af.cell (show af V g _ _ from d.1.trans R.out.blk) 7,af.cell (show af V w.heap.size _ _ from d.2.2.trans dm.out) 0,R.out.ix.ag d.2.1⟩);have aX:=At.out.size;clear rh X u0 u1 u2 ab ah ad hmy;go_wp2_with fail
   refine aB 12 (fun V=>V.cell? ⟨g,7,none⟩=some (.map (some i))/\V.cell? ⟨w.heap.size,0,none⟩=some (.int .u64 e.id)/\jl V i (AK l)) (by kernel_rfl) (by kernel_rfl) ?_;have hHeld:=D.out r.drew ⟨rfl,rfl,rfl⟩;have aR:w.heap.size<r.heap.size:=dm.out.lt;refine GT.jr [0,1,2,3,4,5,6,7,8,9] hHeld (fun _ _ _ _ _ h=>h) (by kernel_rfl) ?_;iterate 6 (refine .c rfl rfl (fun V d=>by go_simp<;>with_reducible rfl) ?_;simp only[Act.put,zb,zd,ze])
   refine .c (v:= .tuple #[.agg #[.int .u64 a0,.string a1,.string a2,.int .i64 a3,.int .i64 a4,.slice A n cap,.int .i64 a6],.bool b]) rfl rfl (fun V d=>by have hl:=sr.out V d.2.2;go_simp) ?_;try simp only[Act.put,zb,zd,ze];iterate 3 (refine .c rfl rfl (fun V d=>by go_simp<;>with_reducible rfl) ?_;simp only[Act.put,zb,zd,ze])
   refine .nil ?_;refine GT.fF 10 (fun K y=> ?_) rfl (by kernel_rfl);go_simp;refine y.out _ _ (D.out _ ⟨yj _ _ (by omega),yj _ _ (by omega),yj _ _ (by omega)⟩) (fun hHeld=> ?_);clear y K;try simp only[Act.put,zb,zd,ze]
   refine GT.fF 11 (fun K y=> ?_) rfl (by kernel_rfl);go_simp;refine y.out _ _ (D.out _ ⟨yj _ _ (by omega),yj _ _ (by omega),yj _ _ (by omega)⟩) (fun hHeld=> ?_);clear y K;try simp only[Act.put,zb,zd,ze]
   refine GT.oL 12 ?_ rfl (by kernel_rfl);go_simp;obtain⟨S,pU⟩:∃S,(r.alloc (.cells #[.int .u64 a0,.string a1,.string a2,.int .i64 a3,.int .i64 a4,.slice A n cap,.int .i64 a6] 116)).drew=S:=⟨_,rfl⟩
   have bX:Below r.heap.size r S:=by rw[<-pU];exact((zl _ r).alloc (zg _) _).drew
   have Y:=za (At.out.trans (bX.mono (by omega)));have dB:=za (dm.out.ag bX (by omega));have LZ:=za (OB.out.below bX OB.out.pos);have Te:=za (R.out.below (bX.mono R.out.his));rw[pU];clear pU bX sr D hHeld dm OB R At;obtain⟨u0,u1,u2,ab,ah,ad⟩:=aZ dB.out;cases b with
   |true=>
    have q:gD c (aK l) e=1:=by rw[o.out,zi rfl]
    go_wp2;go_ret;exact lB q (by decide) (eO Y.out)
   |false=>
    rw[zh (show¬(false=true)by simp)]at o;have HG:=za (Uh e.ty S (by omega) LZ.out);go_wp2_with fail
    refine HG.out.mono ?_;rintro en m ec;obtain⟨T,hT⟩:∃T,cT e.ty.data.toList=T:=⟨_,rfl⟩
    rw[hT]at ec o;cases T with
    |none=>
     obtain⟨C,rfl⟩:=ec;have q:gD c (aK l) e=3:=by rw[o.out,zi rfl]
     have fL:=za (Y.out.trans (C.mono Y.out.size));clear C hT;go_wp2;go_ret;exact lB q (by decide) (eO (fL.out.alloc fL.out.size _))
    |some t=>
     obtain⟨C,d0,d1,d2,d3,rfl,my⟩:=ec;have wW:e.shape=t:=by unfold bz.shape;rw[hT];rfl
     rw[zh (by simp),wW]at o;obtain⟨B,s,rfl,rfl,rfl,rfl,_⟩:=my.open_;have aM:=Y.out.size;have aa:=dB.out.ag C (by have:=dB.out.lt;omega);have N:=Te.out.below (C.mono Te.out.his);have ax:=N.cells.1;have aQ:g<m.heap.size:=zU N.g2 N.his;have G:Below m.heap.size m (m.alloc (.cells #[.int .i64 t.kind,.int .i64 t.size,.slice B t.sub.length s,.int .i64 t.tail] 43)):=(zl _ m).alloc (zg _) _;have U:=za ((Y.out.trans (C.mono aM)).trans (G.mono (by have:=C.size;omega)));have L:=za (aa.ag G aa.lt);have J:=za (N.below (G.mono N.his));have M:=za (af.new m 43 #[.int .i64 t.kind,.int .i64 t.size,.slice B t.sub.length s,.int .i64 t.tail]);have O:=za (my.below G);have aj:=LZ.out.below C LZ.out.pos;have HF:=za (Jo t _ _ _ _ _ _ O.out.AM (zg _) (aj.below G aj.pos));have aT:w.heap.size<m.heap.size:=aa.lt;clear u0 u1 u2 ab ah ad C hT dB Te my aa N G aj;by_cases I:c.fm=1;focus
      have YT:((c.fm:Int)==1)=true:=yQ.2 I;go_wp2_with fail
      refine HF.out.mono ?_;rintro en w7 ⟨rfl,F⟩;have aG:=F.size;simp only[zp]at aG;have ak:=za (U.out.trans (F.mono U.out.size));have Wu:=za (L.out.ag F L.out.lt);have z:=za (J.out.below (F.mono J.out.his));have ai:=za (M.out.ag F M.out.lt);have au:=za (O.out.below F);clear F HF J L M O ax;cases mu:t.flat
      ·have q:gD c (aK l) e=12:=by rw[o.out,zi ⟨I,mu⟩]
       go_wp2;go_ret;exact lB q (by decide) (eO ak.out)
      have q:gD c (aK l) e=0:=by rw[o.out,zh (by simp[mu])]
      obtain⟨p,rfl⟩:∃p,p=w7:=⟨w7,rfl⟩
      clear mu I;go_wp2_with fail
     rotate_left
     focus
      have YT:((c.fm:Int)==1)=false:=zm.2 I;have q:gD c (aK l) e=0:=by rw[o.out,zh (by simp[I])]
      obtain⟨p,oz⟩:∃p,m.alloc (.cells #[.int .i64 t.kind,.int .i64 t.size,.slice B t.sub.length s,.int .i64 t.tail] 43)=p:=⟨_,rfl⟩
      rw[oz]at U L J M O;have DS:=za oz;have ak:=U;have Wu:=L;have z:=J;have ai:=M;have au:=O;clear HF I oz U L J M O;go_wp2_with fail
      rw[DS.out];clear ax
     all_goals
      obtain⟨z1,z2,z3,z4,z5⟩:=BW q;have aD:=KN (P:=prog) (T:=118) (w:=p.drew) (z.out.nm.ag rfl) underlying118 zM (by simp[MapKept.IsKey]) (XV z.out.ok z2) (.agg #[.int .u64 e.id,.string e.name,.string e.ty,.int .i64 t.kind,.int .i64 t.size,.slice B t.sub.length s,.int .i64 t.tail]);have Mg:=fun(V:World) (d:jl V i (AK l))=>KN (P:=prog) (T:=119) (w:=V) d underlying119 ZX (by simp[MapKept.IsKey]) (XW z.out.ok z3) (.agg #[.int .u64 e.id,.string e.name,.string e.ty,.int .i64 t.kind,.int .i64 t.size,.slice B t.sub.length s,.int .i64 t.tail])
      have aL:=za Mg;clear z1 z2 z3 z4 z5 Mg;obtain⟨b0,Z,b2,_⟩:=aZ Wu.out.drew;obtain⟨t0,t1,t2,t3,_⟩:=aN ai.out.drew;have al:p.drew.cell? ⟨g,6,none⟩=some (.map (some j)):=(af.drew z.out.blk).cell 6;refine aB 9 (fun V=>V.cell? ⟨g,6,none⟩=some (.map (some j))/\V.cell? ⟨w.heap.size,0,none⟩=some (.int .u64 e.id)/\V.cell? ⟨w.heap.size,1,none⟩=some (.string e.name)/\V.cell? ⟨w.heap.size,2,none⟩=some (.string e.ty)/\V.cell? ⟨m.heap.size,0,none⟩=some (.int .i64 t.kind)/\V.cell? ⟨m.heap.size,1,none⟩=some (.int .i64 t.size)/\V.cell? ⟨m.heap.size,2,none⟩=some (.slice B t.sub.length s)/\V.cell? ⟨m.heap.size,3,none⟩=some (.int .i64 t.tail)) (by kernel_rfl) (by kernel_rfl) ?_;have hHeld:=And.intro al (And.intro b0 (And.intro Z (And.intro b2 (And.intro t0 (And.intro t1 (And.intro t2 t3))))));clear b0 Z b2 t0 t1 t2 t3 al;refine GT.jr [0,1,2,3,4,5,6,7,8] hHeld (fun _ _ _ _ _ h=>h) (by kernel_rfl) ?_;repeat(refine .c rfl rfl (fun V d=>by go_simp<;>with_reducible rfl) ?_;simp only[Act.put,zb,zd,ze])
      refine .nil ?_;refine GT.oL 9 ?_ rfl (by kernel_rfl);go_simp;obtain⟨u,Aw⟩:∃u,oI p.drew j (AJ l) (.string e.name) (.agg #[.int .u64 e.id,.string e.name,.string e.ty,.int .i64 t.kind,.int .i64 t.size,.slice B t.sub.length s,.int .i64 t.tail])=u:=⟨_,rfl⟩
      have aA:jl u j (AJ l++ [(.string e.name,(.agg #[.int .u64 e.id,.string e.name,.string e.ty,.int .i64 t.kind,.int .i64 t.size,.slice B t.sub.length s,.int .i64 t.tail]))]):=by rw[<-Aw];exact sS (z.out.nm.ag rfl) _ _
      have H:ae [j] p u:=by rw[<-Aw];exact(ae.refl [j] p).drew.trans (vx _ _ _ _ _)
      have S7:u.heap.size=p.heap.size:=by rw[<-Aw];simp[oI]
      rw[Aw];have aW:=z.out.n2;have cF:=z.out.ne;have ar:=(Wu.out.only H (by simp;omega)).drew;have aq:=(ai.out.only H (by simp;omega)).drew;have av:=af.drew (z.out.blk.only H (by simp;omega));have ag:jl u.drew i (AK l):=(z.out.ix.only H (by simp;omega)).ag rfl;have Mg:=aL.out u.drew ag;obtain⟨b0,Z,b2,_⟩:=aZ ar;obtain⟨t0,t1,t2,t3,_⟩:=aN aq;have aC:u.drew.cell? ⟨g,7,none⟩=some (.map (some i)):=av.cell 7;have aH:=za aA;have aF:=za H;have aI:=za S7;have aE:=za ag;clear hHeld Aw aA H S7 aD ar aq av ag;go_wp2_with fail
      refine aB 9 (fun V=>V.cell? ⟨g,7,none⟩=some (.map (some i))/\V.cell? ⟨w.heap.size,0,none⟩=some (.int .u64 e.id)/\V.cell? ⟨w.heap.size,1,none⟩=some (.string e.name)/\V.cell? ⟨w.heap.size,2,none⟩=some (.string e.ty)/\V.cell? ⟨m.heap.size,0,none⟩=some (.int .i64 t.kind)/\V.cell? ⟨m.heap.size,1,none⟩=some (.int .i64 t.size)/\V.cell? ⟨m.heap.size,2,none⟩=some (.slice B t.sub.length s)/\V.cell? ⟨m.heap.size,3,none⟩=some (.int .i64 t.tail)) (by kernel_rfl) (by kernel_rfl) ?_;have hHeld:=And.intro aC (And.intro b0 (And.intro Z (And.intro b2 (And.intro t0 (And.intro t1 (And.intro t2 t3))))));clear b0 Z b2 t0 t1 t2 t3 aC;refine GT.jr [0,1,2,3,4,5,6,7,8] hHeld (fun _ _ _ _ _ h=>h) (by kernel_rfl) ?_;repeat(refine .c rfl rfl (fun V d=>by go_simp<;>with_reducible rfl) ?_;simp only[Act.put,zb,zd,ze])
      refine .nil ?_;refine GT.oL 9 ?_ rfl (by kernel_rfl);go_simp;clear Mg;obtain⟨E,Td⟩:∃E,oI u.drew i (AK l) (.int .u64 e.id) (.agg #[.int .u64 e.id,.string e.name,.string e.ty,.int .i64 t.kind,.int .i64 t.size,.slice B t.sub.length s,.int .i64 t.tail])=E:=⟨_,rfl⟩
      have ao:jl E i (AK l++ [(.int .u64 e.id,(.agg #[.int .u64 e.id,.string e.name,.string e.ty,.int .i64 t.kind,.int .i64 t.size,.slice B t.sub.length s,.int .i64 t.tail]))]):=by rw[<-Td];exact sS aE.out _ _
      have rr:ae [i] u E:=by rw[<-Td];exact(ae.refl [i] u).drew.trans (vx _ _ _ _ _)
      have ay:E.heap.size=p.heap.size:=by rw[<-aI.out,<-Td];simp[oI]
      rw[Td];have an:=aH.out.only rr (by simp;omega);have aw:Hid (ae [j,i] p E):=za ((aF.out.mono (by simp)).trans (rr.mono (by simp)));have HQ:Hid (∃v,mi E lo E.heap.size g j i c (l++ [(e,v)])):=za ⟨_,z.out.put aw.out ay (by simpa[AJ]using an) (by simpa[AK]using ao) ⟨_,_,_,_,rfl,by
       show fE p _ e.shape _ _ _ _
       rw[wW];exact au.out.gQ (fun k hk hS=>⟨by have hS:S.heap.size<=k:=hS;omega,hk⟩)⟩ q aO.out⟩
      clear Td ao rr ay an hHeld;go_wp2;go_ret;exact⟨by rw[q];rfl,(eO ak.out).trans aw.out,fun _=>HQ.out⟩
def acA (w:World)(c:aP)(l:List bz)(e:Ending)(w':World):Prop:=
 Below w.heap.size w w'/\((nh c l=0/\∃g gn gi rows,e= .returned (.tuple #[.pointer (some ⟨g,0,none⟩),.int .i64 0])/\mi w' w.heap.size w'.heap.size g gn gi c rows/\aK rows=l)\/(nh c l≠0/\e= .returned (.tuple #[.pointer none,.int .i64 (nh c l)])))
theorem wD {c:aP}{l:List bz}(h:jf c (l.take k) (l.drop k)=E)(d:k<l.length):(gD c (l.take k) l[k]≠0->E=gD c (l.take k) l[k])/\(gD c (l.take k) l[k]=0->jf c (l.take (k+1)) (l.drop (k+1))=E):=by
 rw[y9 d,jf]at h;refine⟨fun b=> ?_,fun b=> ?_⟩
 ·rw[zi b]at h;exact h.symm
 rw[zh (by simp[b])]at h;rw[ZY,zx d];exact h
theorem Cj {c:aP}{l:List bz}(h:jf c (l.take l.length) (l.drop l.length)=E):E=0:=by
 rw[Z9]at h;exact h.symm
theorem rY {c:aP}{l:List bz}(h:c.right=true)(b:l.length<=32):nh c l=jf c [] l:=by
 unfold nh;rw[zh (by simp[h]),zh (by omega)]
theorem mi.fresh {h b:Nat}{c:aP}{W:World}(e:((w.alloc (.map #[] 0)).alloc (.map #[] 0)).alloc (.cells (rgC c b (b+1) (tG c) (qB c)) 125)=W)(i:w.heap.size=b)(j:h<=b):mi W h W.heap.size (b+1+1) b (b+1) c []:=by
 subst i;have hz:W.heap.size=w.heap.size+3:=by rw[<-e];simp
 exact{
  blk:=by rw[<-e];exact af.at_ (by simp)
  nm:=by
   have d:jl (w.alloc (.map #[] 0)) w.heap.size []:=jl.new w;rw[<-e];exact(yj _ _ (by simp;omega)).trans ((yj _ _ (by simp)).trans d)
  ix:=by
   have d:jl ((w.alloc (.map #[] 0)).alloc (.map #[] 0)) (w.alloc (.map #[] 0)).heap.size []:=jl.new _;simp only[zp]at d;rw[<-e];exact(yj _ _ (by simp)).trans d
  n1:=j
  n2:=by omega
  i1:=by omega
  i2:=by omega
  ne:=by omega
  g2:=by omega
  his:=zg _
  rows:=by simp
  ok:=cK.nil c
  sz:=by simp}
theorem Uo (c:aP)(l:List bz)(v:Value)(B:Nat)(w:World)(X:pe w B v l)(hB:B<=w.heap.size)(E:Laid w)(hs:∀e∈l,nz e):
 Calls prog 48 #[c.val,v] w fun e w'=>acA w c l e w':=by
 obtain⟨A,n,cap,rfl,x,S2,jR⟩:=X.cH;have G:=za (js c (w.alloc (.cells #[.int .i64 c.fm,.int .u32 c.mg,.int .i64 c.fr,.int .i64 c.un,.int .i64 c.de,.int .i64 c.it] 24)));have gA:=(zl w.heap.size w).alloc (zg _) (.cells #[.int .i64 c.fm,.int .u32 c.mg,.int .i64 c.fr,.int .i64 c.un,.int .i64 c.de,.int .i64 c.it] 24);have D8:=af.new w 24 #[.int .i64 c.fm,.int .u32 c.mg,.int .i64 c.fr,.int .i64 c.un,.int .i64 c.de,.int .i64 c.it];have HV:=za X;have HS:=za hs;have Z:=E.pos;have HL:=za E;unfold aP.val at*;obtain⟨Y,I⟩:∃Y,c.right=Y:=⟨_,rfl⟩
 rw[I]at G;have U:=za I;clear X hs E I;go_enter func48,ntmps48
 go_wp2_with fail
 refine G.out.mono ?_;rintro e b ⟨rfl,S⟩;have W:=za (gA.trans (S.mono (by simp)));have N:=D8.ag S (by simp);have pF:w.heap.size<b.heap.size:=N.lt;obtain⟨c0,c1,c2,c3,c4,c5⟩:=eV N;clear gA S D8 G N;cases Y with
 |false=>
  go_wp2;go_ret2
  have d:nh c l=1:=by unfold nh;rw[zi U.out]
  exact⟨W.out,.inr ⟨by rw[d];decide,by rw[d];rfl⟩⟩
 |true=>
  by_cases ah:32<n
  ·have hi:(32:Int)<(n:Int):=by omega
   go_wp2;go_ret2
   have d:nh c l=4:=by unfold nh;rw[zh (by simp[U.out]),zi (by rw[<-x.out];exact ah)]
   exact⟨W.out,.inr ⟨by rw[d];decide,by rw[d];rfl⟩⟩
  have hi:¬(32:Int)<(n:Int):=by omega
  have RC:= @run_makeMap prog;have uz:w.heap.size<b.heap.size+1:=by omega
  have LO:w.heap.size<b.heap.size+1+1:=by omega
  have ag:w.heap.size<b.heap.size+1+1+1:=by omega
  have ae:l.length<=32:=by rw[<-x.out];omega
  have Hg:=za (rY U.out ae);by_cases m:c.fm=1;focus
   have k1:((c.fm:Int)==1)=true:=yQ.2 m;have K:tG c= .func (.func 88) #[.agg #[.int .i64 c.de,.int .i64 c.it]] #[]:=by unfold tG AN;rw[zi m]
   have F:qB c= .func (.func 89) #[.agg #[.int .i64 c.de,.int .i64 c.it]] #[]:=by unfold qB AN;rw[zi m]
   clear m
  rotate_left
  focus
   have k1:((c.fm:Int)==1)=false:=zm.2 m;have K:tG c= .func (.func 86) #[.agg #[.int .i64 c.de,.int .i64 c.it]] #[]:=by unfold tG AN;rw[zh m]
   have F:qB c= .func (.func 87) #[.agg #[.int .i64 c.de,.int .i64 c.it]] #[]:=by unfold qB AN;rw[zh m]
   clear m
  all_goals
   obtain⟨q,s⟩:∃q,(((b.alloc (.cells #[.int .i64 c.de,.int .i64 c.it] 145)).alloc (.map #[] 0)).alloc (.map #[] 0)).alloc (.cells #[.int .i64 c.fm,.int .u32 c.mg,.int .i64 c.fr,.int .i64 c.un,.int .i64 c.de,.int .i64 c.it,.map (some (b.heap.size+1)),.map (some (b.heap.size+1+1)),tG c,qB c] 125)=q:=⟨_,rfl⟩
   have ad:mi q w.heap.size q.heap.size (b.heap.size+1+1+1) (b.heap.size+1) (b.heap.size+1+1) c []:=mi.fresh (w:=b.alloc (.cells #[.int .i64 c.de,.int .i64 c.it] 145)) (by unfold rgC;exact s) (by simp) (by omega);have bX:Below w.heap.size w q:=by rw[<-s];exact((((W.out.alloc (by omega) _).alloc (by simp;omega) _).alloc (by simp;omega) _).alloc (by simp;omega) _)
   have Te:=za ad;have dB:=za bX;rw[K,F]at s;have Bj:=za s;clear s ad bX K F;go_wp2_with fail
   rw[Bj.out];clear c0 c1 c2 c3 c4 c5 k1 RC uz LO ag;go_loopw [45] (fun i wr=>∃(k:Nat) (rows:List cg),k<=n/\i= .int .i64 k/\Hid (mi wr w.heap.size wr.heap.size (b.heap.size+1+1+1) (b.heap.size+1) (b.heap.size+1+1) c rows)/\Hid (aK rows=l.take k)/\Hid (jf c (l.take k) (l.drop k)=jf c [] l)/\Hid (Below w.heap.size w wr)) (fun i _=>n-(intOf i).toNat)
   case atStart=>exact⟨0,[],by omega,by go_num,Te,za rfl,za (by simp),dB⟩
   case round=>
    obtain⟨k,rows,hk,rfl,HM,J,HT,r⟩:=hrel;clear Te dB;by_cases ai:k<n
    ·skip
     have p:k<l.length:=by have:=x.out;omega
     obtain⟨ge,o,hA,jS,e0,e1,e2⟩:=(HV.out.below (r.out.mono hB)).at_ (j:=k) p;subst hA;obtain⟨fF,SX⟩:=wD HT.out p;have O:=HS.out _ (zE p);obtain⟨h,R⟩:∃h,l[k]=h:=⟨_,rfl⟩
     rw[R]at e0 e1 e2 fF SX O;have A8:l.take (k+1)=l.take k++ [h]:=by rw[ZY,zx p,R];rfl
     have gF:=r.out.size;obtain⟨C,H⟩:∃C,wr.alloc (.cells #[.int .u64 h.id,.string h.name,.string h.ty] 48)=C:=⟨_,rfl⟩
     have z:Below wr.heap.size wr C:=by rw[<-H];exact(zl _ wr).alloc (zg _) _
     have HA:=za (Un w.heap.size wr.heap.size _ _ _ c rows h C (HM.out.below z) (HL.out.below (r.out.trans (z.mono gF)) Z) Z O);have fL:=za (r.out.trans (z.mono gF));have rq:=za H;have UK:=za A8;clear H z R O A8;go_wp2_with fail
     rw[rq.out];refine HA.out.mono ?_;rintro e M ⟨rfl,ho,D⟩;rw[J.out]at D⊢;have HO:=za (fL.out.trans (ho.below fL.out.size (by simp;omega)));have OC:=za D;generalize gD c (l.take k) h=EE at*;clear ho D HA e0 e1 e2;rcases eP EE with⟨y,z1,z2⟩|⟨y,z1,z2⟩
     ·subst y;obtain⟨vv,ab⟩:=OC.out rfl;have HN:=za ab;have L:=za (SX rfl);clear ab fF SX;go_wp2;go_roundw
      case rel=>
       have key:∃(u:Nat) (rows:List cg),u<=n/\Value.int .i64 ((k:Int)+1)= .int .i64 u/\Hid (mi M w.heap.size M.heap.size (b.heap.size+1+1+1) (b.heap.size+1) (b.heap.size+1+1) c rows)/\Hid (aK rows=l.take u)/\Hid (jf c (l.take u) (l.drop u)=jf c [] l)/\Hid (Below w.heap.size w M):=⟨k+1,rows++ [(h,vv)],by omega,by go_num,HN,za (by rw[UK.out,<-J.out];simp[aK]),L,HO⟩
       first|exact key|((repeat apply Exists.intro);exact⟨key,rfl⟩)
      case measure=>simp[intOf];omega
     have L:=za (fF y);clear fF SX;go_wp2;go_ret2
     have d:nh c l=EE:=by rw[Hg.out];exact L.out
     exact⟨HO.out,.inr ⟨by rw[d];exact y,by rw[d];rfl⟩⟩
    skip
    have p:k=l.length:=by have:=x.out;omega
    have d:nh c l=0:=by
     rw[Hg.out];have h1:=HT.out;rw[p]at h1;exact Cj h1
    have aa:aK rows=l:=by rw[J.out,p];simp
    have HF:=za d;have HG:=za aa;clear p d aa;go_wp2;go_ret2
    exact⟨r.out,.inl ⟨HF.out,_,_,_,rows,rfl,HM.out,HG.out⟩⟩
theorem wE {l:List UInt8}(h:cT l=some t):t.may=true:=by
 unfold cT at h;split at h
 ·rename_i x hx
  cases hm:x.may with
  |true=>rw[hm,zi rfl]at h;injection h with h;rw[<-h];exact hm
  |false=>rw[hm]at h;cases h
 cases h
theorem Ck (h:t.may=true):t.count<=64:=by
 simp only[Ty.may,zz,zY]at h;omega
theorem Gi {l:List bz}{p:bz->Bool}(h:∀j (b:j<l.length),j<k->p l[j]=false):(l.take k).any p=false:=by
 rw[Z0];intro e c;obtain⟨j,b,rfl⟩:=yS c;rw[zV]at b;rw[List.getElem_take];rw[h j (by omega) (by omega)];simp
theorem Q7 {l:List bz}{p:bz->Bool}(c:k<=l.length)(b:j<k)(h:p (l[j]'(by omega))=true):(l.take k).any p=true:=
 Zw.2 ⟨l[j]'(by omega),by rw[List.mem_take_iff_getElem];exact⟨j,by omega,rfl⟩,h⟩
theorem Jz (c:aP)(l:List bz)(v:Value)(B:Nat)(w:World)(hv:pe w B v l)(L:B<=w.heap.size)(hs:∀e∈l,nz e):
 Calls prog 30 #[c.val,v] w fun e w'=>e= .returned (.int .i64 (nh c l))/\Below w.heap.size w w':=by
 obtain⟨A,n,cap,rfl,Z,S2,jR⟩:=hv.cH;have HR:=za (Dr c (w.alloc (.cells #[.int .i64 c.fm,.int .u32 c.mg,.int .i64 c.fr,.int .i64 c.un,.int .i64 c.de,.int .i64 c.it] 24)));have gA:=(zl w.heap.size w).alloc (zg _) (.cells #[.int .i64 c.fm,.int .u32 c.mg,.int .i64 c.fr,.int .i64 c.un,.int .i64 c.de,.int .i64 c.it] 24);have D8:=af.new w 24 #[.int .i64 c.fm,.int .u32 c.mg,.int .i64 c.fr,.int .i64 c.un,.int .i64 c.de,.int .i64 c.it];have M:=za hv;have HS:=za hs;unfold aP.val at*;obtain⟨rt,rj⟩:∃rt,c.right=rt:=⟨_,rfl⟩
 rw[rj]at HR;have Ad:=za rj;clear hv hs rj;go_enter func30,ntmps30
 go_wp2_with fail
 refine HR.out.mono ?_;rintro e w1 ⟨rfl,aG⟩;have cr:=za (gA.trans (aG.mono (by simp)));have OY:=za (D8.ag aG (by simp));clear gA aG D8 HR;cases rt with
 |false=>
  go_wp2;go_ret;have d:nh c l=1:=by unfold nh;rw[zi Ad.out]
  exact⟨by rw[d];rfl,cr.out⟩
 |true=>
  by_cases aq:32<n
  ·have hi:(32:Int)<(n:Int):=by omega
   go_wp2;go_ret;have d:nh c l=4:=by unfold nh;rw[zh (by simp[Ad.out]),zi (by rw[<-Z.out];exact aq)]
   exact⟨by rw[d];rfl,cr.out⟩
  have hi:¬(32:Int)<(n:Int):=by omega
  have ag:l.length<=32:=by rw[<-Z.out];omega
  have K:=za (rY Ad.out ag);clear ag Ad;go_wp2_with fail
  go_loopw [5] (fun i wr=>∃k:Nat,i= .int .i64 k/\k<=n/\Hid (jf c (l.take k) (l.drop k)=jf c [] l)/\Hid (Below w.heap.size w wr)/\Hid (af wr w.heap.size 24 #[.int .i64 c.fm,.int .u32 c.mg,.int .i64 c.fr,.int .i64 c.un,.int .i64 c.de,.int .i64 c.it])) (fun i _=>n-(intOf i).toNat)
  case atStart=>exact⟨0,rfl,by omega,za (by simp),cr,OY⟩
  case round=>
   obtain⟨k,rfl,hk,HT,N,HC⟩:=hrel;clear cr OY;by_cases au:k<n
   ·have u:k<l.length:=by have:=Z.out;omega
    obtain⟨ge,o,hA,jS,e0,e1,e2⟩:=(M.out.below (N.out.mono L)).at_ (j:=k) u;subst hA;obtain⟨fF,SX⟩:=wD HT.out u;have Wv:=HS.out _ (zE u);obtain⟨b,ow⟩:∃b,l[k]=b:=⟨_,rfl⟩
    rw[ow]at e0 e1 e2 fF SX Wv;have ax:=Wv.name;have aw:=Wv.ty;have mM:=za ow;have X:=za fF;have ah:=za SX;have r:Hid (gD c (l.take k) b=if bZ b.name=false then 11 else if((l.take k).any fun x=>decide (x.name=b.name))=true then 11 else if((l.take k).any fun x=>decide (x.id=b.id))=true then 1 else if cT b.ty.data.toList=none then 3 else if c.fm=1/\b.shape.flat=false then 12 else 0):=za rfl;have UU:=za (fun V=>M9 b.name V (by omega));clear ow fF SX Wv;generalize wr=w2 at*;go_wp2_with fail
    refine(UU.out _).mono ?_;rintro e w' ⟨rfl,rfl⟩;cases hmy:bZ b.name with
    |false=>
     have d:nh c l=11:=by
      have q:gD c (l.take k) b=11:=by rw[r.out,zi hmy]
      rw[K.out,X.out (by rw[q];decide),q]
     go_wp2;go_ret;exact⟨by rw[d];rfl,N.out⟩
    |true=>
     rw[zh (by simp[hmy])]at r;clear UU hmy;go_wp2_with fail
     go_loopw [6] (fun i wr=>∃m:Nat,i= .int .i64 m/\m<=k/\Hid (∀j (s:j<l.length),j<m->decide (l[j].name=b.name)=false)/\Hid (Below w2.heap.size w2 wr)) (fun i _=>k-(intOf i).toNat)
     case atStart=>exact⟨0,rfl,by omega,za (by omega),za (zl _ _)⟩
     case round=>
      obtain⟨m,rfl,hm,E,j6⟩:=hrel;have I:=za (N.out.trans (j6.out.mono N.out.size));generalize wr=w3 at*;by_cases al:m<k
      ·have an:m<n:=by omega
       have UJ:m<l.length:=by omega
       obtain⟨g',o',p,GG,d0,d1,d2⟩:=(M.out.below (I.out.mono L)).at_ (j:=m) UJ;injection p with p;injection p with hA1 hA2;subst hA1 hA2;obtain⟨g',o',p,_,f0,f1,f2⟩:=(M.out.below (I.out.mono L)).at_ (j:=k) u;injection p with p;injection p with hA1 hA2;subst hA1 hA2;rw[mM.out]at f0 f1 f2;obtain⟨z,G⟩:∃z,l[m]=z:=⟨_,rfl⟩
       rw[G]at d0 d1 d2;have S:=za G;clear G;clear d0 d2 e0 e2 f0 f2;rcases pW z.name b.name with⟨y,q1,q2⟩|⟨y,q1,q2⟩
       ·have d:nh c l=11:=by
         have q:gD c (l.take k) b=11:=by rw[r.out,zi (Q7 (Yh u) al (by rw[S.out];exact zD y))]
         rw[K.out,X.out (by rw[q];decide),q]
        have C:=za d;clear d y;go_wp2_with fail
        go_quiet (fail)
        go_wp2;go_ret;exact⟨by rw[C.out];rfl,Below.bJ I.out _⟩
       have Ki:Hid (∀j (s:j<l.length),j<m+1->decide (l[j].name=b.name)=false):=za (fun j s ar=>by
        by_cases h:j=m
        ·subst h;rw[S.out];exact zu y
        exact E.out j s (by omega))
       clear y;go_wp2_with fail
       go_quiet (fail)
       go_wp2;go_roundw
       case rel=>exact⟨m+1,by go_num,by omega,Ki,za (Below.bJ j6.out _)⟩
       case measure=>simp[intOf];omega
      skip
      have U:Hid (((l.take k).any fun x=>decide (x.name=b.name))=false):=za (Gi (fun j s RA=>E.out j s (by omega)));rw[U.out,zh (by simp)]at r;clear U E;go_wp2_with fail
      go_loopw [7] (fun i wr=>∃m:Nat,i= .int .i64 m/\m<=k/\Hid (∀j (s:j<l.length),j<m->decide (l[j].id=b.id)=false)/\Hid (Below w3.heap.size w3 wr)) (fun i _=>k-(intOf i).toNat)
      case atStart=>exact⟨0,rfl,by omega,za (by omega),za (zl _ _)⟩
      case round=>
       obtain⟨W,rfl,ay,E,fL⟩:=hrel;have D:=za (I.out.trans (fL.out.mono I.out.size));generalize wr=w4 at*;by_cases ao:W<k
       ·have an:W<n:=by omega
        have UJ:W<l.length:=by omega
        obtain⟨m,RC⟩:∃m,m=W:=⟨W,rfl⟩
        subst RC;obtain⟨g',o',p,GG,d0,d1,d2⟩:=(M.out.below (D.out.mono L)).at_ (j:=m) UJ;injection p with p;injection p with hA1 hA2;subst hA1 hA2;obtain⟨g',o',p,_,f0,f1,f2⟩:=(M.out.below (D.out.mono L)).at_ (j:=k) u;injection p with p;injection p with hA1 hA2;subst hA1 hA2;rw[mM.out]at f0 f1 f2;obtain⟨z,G⟩:∃z,l[m]=z:=⟨_,rfl⟩
        rw[G]at d0 d1 d2;have S:=za G;clear G;clear d1 d2 e1 e2 f1 f2;by_cases y:z.id=b.id
        ·have q1:((z.id:Int)==(b.id:Int))=true:=yQ.2 (by omega);have d:nh c l=1:=by
          have q:gD c (l.take k) b=1:=by rw[r.out,zi (Q7 (Yh u) ao (by rw[S.out];exact zD y))]
          rw[K.out,X.out (by rw[q];decide),q]
         have C:=za d;clear d y;go_wp2_with fail
         go_quiet (fail)
         go_wp2;go_ret;exact⟨by rw[C.out];rfl,Below.bJ D.out _⟩
        have q1:((z.id:Int)==(b.id:Int))=false:=zm.2 (by omega);have Ki:Hid (∀j (s:j<l.length),j<m+1->decide (l[j].id=b.id)=false):=za (fun j s ar=>by
         by_cases h:j=m
         ·subst h;rw[S.out];exact zu y
         exact E.out j s (by omega))
        clear y;go_wp2_with fail
        go_quiet (fail)
        go_wp2;go_roundw
        case rel=>exact⟨m+1,by go_num,by omega,Ki,za (Below.bJ fL.out _)⟩
        case measure=>simp[intOf];omega
       have U:Hid (((l.take k).any fun x=>decide (x.id=b.id))=false):=za (Gi (fun j s RA=>E.out j s (by omega)));rw[U.out,zh (by simp)]at r;clear U E;obtain⟨g',o',p,_,f0,f1,f2⟩:=(M.out.below (D.out.mono L)).at_ (j:=k) u;injection p with p;injection p with hA1 hA2;subst hA1 hA2;rw[mM.out]at f0 f1 f2;have az:=I.out.size;have aj:=za ((HC.out.ag j6.out HC.out.lt).ag fL.out (by have:=HC.out.lt;have:=j6.out.size;omega));have HG:=za (wC b.ty w4 (by omega));obtain⟨T,hT⟩:∃T,cT b.ty.data.toList=T:=⟨_,rfl⟩
       rw[hT]at HG r;have ai:=za hT;clear e0 e1 e2 f0 f1 hT;go_wp2_with fail
       refine HG.out.mono ?_;rintro e R ec;cases T with
       |none=>
        obtain⟨J,rfl⟩:=ec;have d:nh c l=3:=by
         have q:gD c (l.take k) b=3:=by rw[r.out,zi rfl]
         rw[K.out,X.out (by rw[q];decide),q]
        have C:=za d;have Y:=za (D.out.trans (J.mono D.out.size));clear d J;go_wp2;go_ret;exact⟨by rw[C.out];rfl,Y.out.alloc Y.out.size _⟩
       |some t=>
        obtain⟨J,d0,d1,d2,d3,rfl,my⟩:=ec;have wW:b.shape=t:=by unfold bz.shape;rw[ai.out];rfl
        rw[zh (by simp),wW]at r;obtain⟨A5,eF,rfl,rfl,rfl,rfl,_⟩:=my.open_;have aa:=aj.out.ag J aj.out.lt;have av:w.heap.size<R.heap.size:=aa.lt;have Y:=za (D.out.trans (J.mono D.out.size));have O:Hid (Below w.heap.size w (R.alloc (.cells #[.int .i64 t.kind,.int .i64 t.size,.slice A5 t.sub.length eF,.int .i64 t.tail] 43))):=za (Y.out.alloc Y.out.size _);have ae:=za (aa.alloc (.cells #[.int .i64 t.kind,.int .i64 t.size,.slice A5 t.sub.length eF,.int .i64 t.tail] 43));have ab:=za (NH t _ (R.alloc (.cells #[.int .i64 t.kind,.int .i64 t.size,.slice A5 t.sub.length eF,.int .i64 t.tail] 43)) _ _ _ _ ((my.below ((zl _ R).alloc (zg _) _)).AM) (zg _) (by have:=Ck (wE ai.out);omega));have c0:R.cell? ⟨w.heap.size,0,none⟩=some (.int .i64 c.fm):=aa.cell 0;clear J my aa wW f2;by_cases F:c.fm=1
        ·have k1:((c.fm:Int)==1)=true:=yQ.2 F;cases mu:t.flat with
         |false=>
          have d:nh c l=12:=by
           have q:gD c (l.take k) b=12:=by rw[r.out,zi ⟨F,mu⟩]
           rw[K.out,X.out (by rw[q];decide),q]
          rw[mu]at ab;have C:=za d;clear d F mu;go_wp2_with fail
          refine ab.out.mono ?_;rintro e w6 ⟨rfl,H⟩;have ad:=za (O.out.trans (H.mono O.out.size));clear H;go_wp2;go_ret;exact⟨by rw[C.out];rfl,ad.out⟩
         |true=>
          have uA:=za (ah.out (by rw[r.out,zh (by simp[mu])]));rw[mu]at ab;clear F mu;go_wp2_with fail
          refine ab.out.mono ?_;rintro e w6 ⟨rfl,H⟩;have ad:=za (O.out.trans (H.mono O.out.size));have ak:=za (ae.out.ag H ae.out.lt);clear H;go_wp2;go_roundw
          case rel=>exact⟨k+1,by go_num,by omega,uA,ad,ak⟩
          case measure=>simp[intOf];omega
        have k1:((c.fm:Int)==1)=false:=zm.2 F;have uA:=za (ah.out (by rw[r.out,zh (by simp[F])]));clear F;go_wp2;go_roundw
        case rel=>exact⟨k+1,by go_num,by omega,uA,O,ae⟩
        case measure=>simp[intOf];omega
   have u:k=l.length:=by have:=Z.out;omega
   have d:nh c l=0:=by
    rw[K.out];have q:=HT.out;rw[u]at q;exact Cj q
   have C:=za d;clear u d;go_wp2;go_ret;exact⟨by rw[C.out];rfl,N.out⟩
