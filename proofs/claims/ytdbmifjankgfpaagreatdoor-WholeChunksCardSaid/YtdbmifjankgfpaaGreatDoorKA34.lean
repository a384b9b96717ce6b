/- package registry: Encode. -/
import Derived.Test.YtdbmifjankgfpaaGreatDoorKA21
import Derived.Test.YtdbmifjankgfpaaGreatDoorKA33
import Derived.Test.YtdbmifjankgfpaaGreatDoorKA37
import Derived.Test.YtdbmifjankgfpaaGreatDoorKA39
import Derived.Test.YtdbmifjankgfpaaGreatDoorKA40
set_option linter.all false
set_option maxRecDepth 100000
set_option maxHeartbeats 3200000
open Go.Proofs.Tryz
namespace Go.Proofs.YtdbmifjankgfpaaGreatDoor
open Go.RowKit
def yi:=@heap_alloc_old
def ZV:=@results33
def acD (w:World)(S:Nat->Prop)(o:Option bC)(a0:Nat)(a1 a2:ByteArray)(a3 a4:Int)(A:Option Addr)(n cap:Nat)(a6:Int)(b:Bool):Prop:=
 (o=none/\b=false/\a0=0/\a1=⟨#[]⟩/\a2=⟨#[]⟩)\/∃e,o=some e/\b=true/\a0=e.id/\a1=e.name/\a2=e.ty/\fD w S e.shape (.int .i64 a3) (.int .i64 a4) (.slice A n cap) (.int .i64 a6)/\oV e/\cP e.ty.data.toList=some e.shape
theorem Ld {w:World}{lo hi g y F:Nat}{c:aN}{l:List bZ}(h:mw w lo hi g y F c l){o:Option bC}{a0:Nat}{p q:ByteArray}{a3 a4:Int}{A:Option Addr}{n cap:Nat}{s:Int}{b:Bool}(i:Qu l o a0 p q a3 a4 A n cap s b):acD w (fun k=>g<k/\k<hi) o a0 p q a3 a4 A n cap s b:=by
 rcases i with⟨m,j,d⟩|⟨r,i,m,j,d⟩
 ·simp[Dj]at d;exact .inl ⟨m,j,by omega,d.2.1,d.2.2.1⟩
 obtain⟨G,K,H,J,e,x⟩:=h.rows r i;rw[e]at d;simp at d;obtain⟨I,u,E,C,z,B,D⟩:=d;subst C z B D;exact .inr ⟨r.1,m,j,by omega,u,E,x,h.sz r i,h.ok.ty r.1 (xD.2 ⟨r,i,rfl⟩)⟩
theorem Ul (lo hi g k gi:Nat)(c:aN)(l:List bZ)(nm:ByteArray)(x:It)(B:Nat)(w:World)(c0 c1 c2:Value)(h:mw w lo hi g k gi c l)(hI:dg w B x c0 c1 c2)(hB:B<=w.heap.size)(hL:Laid w)(ic:ba w)(hl:c.fm≠1->x.gI.length<=1099511627776):
 Calls prog 33 #[.pointer (some ⟨g,0,none⟩),.agg #[.string nm,c0,c1,c2]] w fun e w'=>e= .returned (.tuple #[(bI c (aI l) nm x).1.val,.int .i64 (bI c (aI l) nm x).2])/\Below w.heap.size w w':=by
 have AK:g<w.heap.size:=zT h.g2 h.his;have aj:k<w.heap.size:=h.nm.lt;obtain⟨z,D,rfl,rfl,rfl,_⟩:=hI.open_;obtain⟨W,I⟩:∃W,(w.alloc (.cells #[.string nm,.string x.text,.bool x.list,.slice z x.sub.length D] 30)).alloc (.cells #[.int .u64 0,.string ⟨#[]⟩,.string ⟨#[]⟩] 84)=W:=⟨_,rfl⟩
 have J:Below w.heap.size w W:=by rw[<-I];exact((zl _ w).alloc (zd _) _).alloc (by simp) _
 have U1:W.heap.size=w.heap.size+2:=by rw[<-I];simp
 have Am:af W w.heap.size 30 #[.string nm,.string x.text,.bool x.list,.slice z x.sub.length D]:=by rw[<-I];exact(af.new w _ _).alloc _
 have pN:af W (w.heap.size+1) 84 #[.int .u64 0,.string ⟨#[]⟩,.string ⟨#[]⟩]:=by rw[<-I];exact af.at_ (by simp)
 obtain⟨a0,H,a2,a3,a4,A,n,cap,m,b,rp,oE⟩:=Dy h nm;have CK:=za (Ld h rp);have sx:=za oE;have CL:=za (h.below (J.mono h.his));have HS:Hid (∀V:World,V.heap[g]?=W.heap[g]?/\V.heap[k]?=W.heap[k]?/\V.heap[w.heap.size]?=W.heap[w.heap.size]?->V.cell? ⟨g,6,none⟩=some (.map (some k))/\V.cell? ⟨w.heap.size,0,none⟩=some (.string nm)/\jw V k (AW l)):=za (fun V d=>⟨af.cell (show af V g _ _ from d.1.trans CL.out.blk) 6,af.cell (show af V w.heap.size _ _ from d.2.2.trans Am) 0,CL.out.nm.ag d.2.1⟩);have ae:=za (hI.below (J.mono hB));have kZ:=za Am;have ch:=za pN;have fS:=za J;have HW:=za I;have Hg:=za (hL.below J hL.pos);have Sg:=za (ic.below J ic.pos);have mW:Hid (bI c (aI l) nm x=match fG (aI l) nm with
  |none=>(rG,11)
  |some e=>if(bY c e.shape x).2≠0 then(rG,(bY c e.shape x).2)else if c.fm=1 then(⟨0,e.name,(bY c e.shape x).1⟩,0)else(⟨e.id,ByteArray.empty,(bY c e.shape x).1⟩,0)):=za rfl
 generalize bI c (aI l) nm x=ag at*;generalize fG (aI l) nm=ah at*;clear h hI hL ic I J Am pN rp oE;go_enter func33,ntmps33
 go_wp2_with fail
 rw[HW.out];refine aC 12 (fun V=>V.cell? ⟨g,6,none⟩=some (.map (some k))/\V.cell? ⟨w.heap.size,0,none⟩=some (.string nm)/\jw V k (AW l)) (by kernel_rfl) (by kernel_rfl) ?_;have hHeld:=HS.out W.drew ⟨rfl,rfl,rfl⟩;refine GT.jV [0,1,2,3,4,5,6,7,8,9] hHeld (fun _ _ _ _ _ h=>h) (by kernel_rfl) ?_;iterate 6 (refine .c rfl rfl (fun V d=>by go_simp<;>with_reducible rfl) ?_;simp only[Act.put,zb,ze,zf])
 refine .c (v:= .tuple #[.agg #[.int .u64 a0,.string H,.string a2,.int .i64 a3,.int .i64 a4,.slice A n cap,.int .i64 m],.bool b]) rfl rfl (fun V d=>by have hl:=sx.out V d.2.2;go_simp) ?_;try simp only[Act.put,zb,ze,zf];iterate 3 (refine .c rfl rfl (fun V d=>by go_simp<;>with_reducible rfl) ?_;simp only[Act.put,zb,ze,zf])
 refine .nil ?_;refine GT.fJ 10 (fun K p=> ?_) rfl (by kernel_rfl);go_simp;have iA:(W.alloc (.cells #[.int .u64 0,.string ⟨#[]⟩,.string ⟨#[]⟩,.int .i64 0,.int .i64 0,.slice none 0 0,.int .i64 0] 116)).drew.heap[g]?=W.heap[g]?/\(W.alloc (.cells #[.int .u64 0,.string ⟨#[]⟩,.string ⟨#[]⟩,.int .i64 0,.int .i64 0,.slice none 0 0,.int .i64 0] 116)).drew.heap[k]?=W.heap[k]?/\(W.alloc (.cells #[.int .u64 0,.string ⟨#[]⟩,.string ⟨#[]⟩,.int .i64 0,.int .i64 0,.slice none 0 0,.int .i64 0] 116)).drew.heap[w.heap.size]?=W.heap[w.heap.size]?:=⟨yi _ _ (by omega),yi _ _ (by omega),yi _ _ (by omega)⟩
 refine p.out _ _ (HS.out _ iA) (fun hHeld=> ?_);clear p K;try simp only[Act.put,zb,ze,zf]
 refine GT.fJ 11 (fun K p=> ?_) rfl (by kernel_rfl);go_simp;have eN:(W.alloc (.cells #[.int .u64 a0,.string H,.string a2,.int .i64 a3,.int .i64 a4,.slice A n cap,.int .i64 m] 116)).drew.heap[g]?=W.heap[g]?/\(W.alloc (.cells #[.int .u64 a0,.string H,.string a2,.int .i64 a3,.int .i64 a4,.slice A n cap,.int .i64 m] 116)).drew.heap[k]?=W.heap[k]?/\(W.alloc (.cells #[.int .u64 a0,.string H,.string a2,.int .i64 a3,.int .i64 a4,.slice A n cap,.int .i64 m] 116)).drew.heap[w.heap.size]?=W.heap[w.heap.size]?:=⟨yi _ _ (by omega),yi _ _ (by omega),yi _ _ (by omega)⟩
 refine p.out _ _ (HS.out _ eN) (fun hHeld=> ?_);clear p K;try simp only[Act.put,zb,ze,zf]
 refine GT.pA 12 ?_ rfl (by kernel_rfl);go_simp;obtain⟨i,jH⟩:∃i,(W.alloc (.cells #[.int .u64 a0,.string H,.string a2,.int .i64 a3,.int .i64 a4,.slice A n cap,.int .i64 m] 116)).drew=i:=⟨_,rfl⟩
 have y:Below W.heap.size W i:=by rw[<-jH];exact((zl _ W).alloc (zd _) _).drew
 have GQ:af i (w.heap.size+2) 116 #[.int .u64 a0,.string H,.string a2,.int .i64 a3,.int .i64 a4,.slice A n cap,.int .i64 m]:=by rw[<-jH];exact af.drew (af.at_ U1)
 have C:=za (CL.out.below (y.mono CL.out.his));have U0:=za (kZ.out.ag y (by omega));have Oe:=za (ch.out.ag y (by omega));have O:=za GQ;have rE:=za (fS.out.trans (y.mono (by omega)));have rq:=za (ae.out.below (y.mono (by omega)));have tY:=za (Hg.out.below y Hg.out.pos);have Sj:=za (Sg.out.below y Sg.out.pos);have cC:w.heap.size+2<i.heap.size:=GQ.lt;rw[jH];clear iA eN jH y GQ sx HS hHeld;rcases CK.out with⟨rfl,rfl,rfl,rfl,rfl⟩|⟨e,rfl,rfl,rfl,rfl,rfl,oG,ai,Ar⟩
 ·obtain⟨q0,q1,q2,Wk,ad,ab⟩:=bg Oe.out;go_wp2;obtain⟨s,r,u⟩:=fz Oe.out (.int .u64 0) (.string ⟨#[]⟩) (.string ⟨#[]⟩);refine zk (v:= .tuple #[.agg #[.int .u64 0,.string ⟨#[]⟩,.string ⟨#[]⟩],.int .i64 11]) (by simp[results,ZV,go_sem,s,r,u]) rfl ?_;rw[mW.out];exact⟨rfl,((rE.out.setCell (by simp) _).setCell (by simp) _).setCell (by simp) _⟩
 have OF:=za ((oG.below rE.out).AZ);obtain⟨u0,u1,u2,Z,u4,u5,u6⟩:=nK O.out;have q:Hid (ag=if(bY c e.shape x).2≠0 then(rG,(bY c e.shape x).2)else if c.fm=1 then(⟨0,e.name,(bY c e.shape x).1⟩,0)else(⟨e.id,ByteArray.empty,(bY c e.shape x).1⟩,0)):=mW;clear mW;clear oG;by_cases o:c.fm=1
 ·have Y:tH c= .func (.func 88) #[.agg #[.int .i64 c.de,.int .i64 c.it]] #[]:=by unfold tH A8;rw[zi o]
  have aa:Hid (∀V,Below i.heap.size i V->Calls prog 88 #[.agg #[.int .i64 c.de,.int .i64 c.it],.agg #[.int .i64 a3,.int .i64 a4,.slice A n cap,.int .i64 m],.agg #[.string x.text,.bool x.list,.slice z x.sub.length D]] V fun S w'=>S= .returned (.tuple #[.string (bY c e.shape x).1,.int .i64 (bY c e.shape x).2])/\Below V.heap.size V w'):=za (fun V d=>by
   unfold bY;rw[zi o];exact Gg e.shape x c.de c.it i.heap.size V _ _ _ _ _ _ _ (OF.out.below d) ((rq.out.below (d.mono (by omega))).mono (by omega)) d.size (tY.out.below d tY.out.pos) (Sj.out.below d Sj.out.pos))
  rw[zi o]at q;have JT:((c.fm:Int)==1)=true:=yN.2 o;have X:Hid (∀V,Below i.heap.size i V->V.cell? ⟨g,8,none⟩=some (.func (.func 88) #[.agg #[.int .i64 c.de,.int .i64 c.it]] #[])/\V.cell? ⟨w.heap.size+2,3,none⟩=some (.int .i64 a3)/\V.cell? ⟨w.heap.size+2,4,none⟩=some (.int .i64 a4)/\V.cell? ⟨w.heap.size+2,5,none⟩=some (.slice A n cap)/\V.cell? ⟨w.heap.size+2,6,none⟩=some (.int .i64 m)/\V.cell? ⟨w.heap.size,1,none⟩=some (.string x.text)/\V.cell? ⟨w.heap.size,2,none⟩=some (.bool x.list)/\V.cell? ⟨w.heap.size,3,none⟩=some (.slice z x.sub.length D)):=za (fun V d=>by
   obtain⟨_,_,_,y3,y4,y5,y6⟩:=nK (O.out.ag d (by omega));obtain⟨_,E,z2,z3,_⟩:=aU (U0.out.ag d (by omega));have N:=(C.out.below (d.mono C.out.his)).cells.2.2.2.1;rw[Y]at N;exact⟨N,y3,y4,y5,y6,E,z2,z3⟩)
  generalize (bY c e.shape x).1=PS at*;generalize (bY c e.shape x).2=PE at*;clear Y o;go_wp2_with fail
  refine aC 14 (fun V=>V.cell? ⟨g,8,none⟩=some (.func (.func 88) #[.agg #[.int .i64 c.de,.int .i64 c.it]] #[])/\V.cell? ⟨w.heap.size+2,3,none⟩=some (.int .i64 a3)/\V.cell? ⟨w.heap.size+2,4,none⟩=some (.int .i64 a4)/\V.cell? ⟨w.heap.size+2,5,none⟩=some (.slice A n cap)/\V.cell? ⟨w.heap.size+2,6,none⟩=some (.int .i64 m)/\V.cell? ⟨w.heap.size,1,none⟩=some (.string x.text)/\V.cell? ⟨w.heap.size,2,none⟩=some (.bool x.list)/\V.cell? ⟨w.heap.size,3,none⟩=some (.slice z x.sub.length D)) (by kernel_rfl) (by kernel_rfl) ?_;have hHeld:=X.out i.drew bQ;refine GT.jV [0,1,2,3,4,5,6,7,8] hHeld (fun _ _ _ _ _ h=>h) (by kernel_rfl) ?_;repeat(refine .c rfl rfl (fun V d=>by go_simp<;>with_reducible rfl) ?_;simp only[Act.put,zb,ze,zf])
  refine .nil ?_;refine GT.fJ 9 (fun K p=> ?_) rfl (by kernel_rfl);go_simp;refine(aa.out i.drew bQ).mono ?_;rintro S w3 ⟨rfl,R⟩;go_wp2_with fail
  have j:Below i.heap.size i w3:=(show Below i.heap.size i i.drew from bQ).trans R;refine p.out _ _ (X.out w3 j) (fun hHeld=> ?_);clear p K;try simp only[Act.put,zb,ze,zf]
  refine GT.jV [10,11,12,13] hHeld (fun _ _ _ _ _ h=>h) (by kernel_rfl) ?_;repeat(refine .c rfl rfl (fun V d=>by go_simp<;>with_reducible rfl) ?_;simp only[Act.put,zb,ze,zf])
  refine .nil ?_;refine GT.pA 14 ?_ rfl (by kernel_rfl);go_simp;have g0:=(C.out.below (j.mono C.out.his)).cells.1;have F:=Oe.out.ag j (by omega);have U:=O.out.ag j (by omega);have L:=za (rE.out.trans (j.mono (by omega)));have M:=za F;clear R j hHeld u0 u1 u2 Z u4 u5 u6;obtain⟨q0,q1,q2,Wk,ad,ab⟩:=bg F;obtain⟨u0,u1,u2,Z,u4,u5,u6⟩:=nK U;clear F U;rcases eT PE with⟨G,E,z2⟩|⟨G,E,z2⟩
  ·subst G;rw[zh (by simp)]at q;go_wp2;obtain⟨s,r,u⟩:=fz M.out (.int .u64 0) (.string e.name) (.string PS);refine zk (v:= .tuple #[.agg #[(.int .u64 0),(.string e.name),.string PS],.int .i64 0]) (by simp[results,ZV,go_sem,s,r,u]) rfl ?_;rw[q.out];exact⟨rfl,((L.out.setCell (by simp) _).setCell (by simp) _).setCell (by simp) _⟩
  rw[zi G]at q;go_wp2;obtain⟨s,r,u⟩:=fz M.out (.int .u64 0) (.string ⟨#[]⟩) (.string ⟨#[]⟩);refine zk (v:= .tuple #[.agg #[.int .u64 0,.string ⟨#[]⟩,.string ⟨#[]⟩],.int .i64 PE]) (by simp[results,ZV,go_sem,s,r,u]) rfl ?_;rw[q.out];exact⟨rfl,((L.out.setCell (by simp) _).setCell (by simp) _).setCell (by simp) _⟩
 have Y:tH c= .func (.func 86) #[.agg #[.int .i64 c.de,.int .i64 c.it]] #[]:=by unfold tH A8;rw[zh o]
 have aa:Hid (∀V,Below i.heap.size i V->Calls prog 86 #[.agg #[.int .i64 c.de,.int .i64 c.it],.agg #[.int .i64 a3,.int .i64 a4,.slice A n cap,.int .i64 m],.agg #[.string x.text,.bool x.list,.slice z x.sub.length D]] V fun S w'=>S= .returned (.tuple #[.string (bY c e.shape x).1,.int .i64 (bY c e.shape x).2])/\Below V.heap.size V w'):=za (fun V d=>by
  unfold bY;rw[zh o];exact Nw e.shape x c.de c.it i.heap.size V _ _ _ _ _ _ _ (OF.out.below d) ((rq.out.below (d.mono (by omega))).mono (by omega)) d.size (tY.out.below d tY.out.pos) (hl o))
 rw[zh o]at q;have JT:((c.fm:Int)==1)=false:=zm.2 o;have X:Hid (∀V,Below i.heap.size i V->V.cell? ⟨g,8,none⟩=some (.func (.func 86) #[.agg #[.int .i64 c.de,.int .i64 c.it]] #[])/\V.cell? ⟨w.heap.size+2,3,none⟩=some (.int .i64 a3)/\V.cell? ⟨w.heap.size+2,4,none⟩=some (.int .i64 a4)/\V.cell? ⟨w.heap.size+2,5,none⟩=some (.slice A n cap)/\V.cell? ⟨w.heap.size+2,6,none⟩=some (.int .i64 m)/\V.cell? ⟨w.heap.size,1,none⟩=some (.string x.text)/\V.cell? ⟨w.heap.size,2,none⟩=some (.bool x.list)/\V.cell? ⟨w.heap.size,3,none⟩=some (.slice z x.sub.length D)):=za (fun V d=>by
  obtain⟨_,_,_,y3,y4,y5,y6⟩:=nK (O.out.ag d (by omega));obtain⟨_,E,z2,z3,_⟩:=aU (U0.out.ag d (by omega));have N:=(C.out.below (d.mono C.out.his)).cells.2.2.2.1;rw[Y]at N;exact⟨N,y3,y4,y5,y6,E,z2,z3⟩)
 generalize (bY c e.shape x).1=PS at*;generalize (bY c e.shape x).2=PE at*;clear Y o;go_wp2_with fail
 refine aC 14 (fun V=>V.cell? ⟨g,8,none⟩=some (.func (.func 86) #[.agg #[.int .i64 c.de,.int .i64 c.it]] #[])/\V.cell? ⟨w.heap.size+2,3,none⟩=some (.int .i64 a3)/\V.cell? ⟨w.heap.size+2,4,none⟩=some (.int .i64 a4)/\V.cell? ⟨w.heap.size+2,5,none⟩=some (.slice A n cap)/\V.cell? ⟨w.heap.size+2,6,none⟩=some (.int .i64 m)/\V.cell? ⟨w.heap.size,1,none⟩=some (.string x.text)/\V.cell? ⟨w.heap.size,2,none⟩=some (.bool x.list)/\V.cell? ⟨w.heap.size,3,none⟩=some (.slice z x.sub.length D)) (by kernel_rfl) (by kernel_rfl) ?_;have hHeld:=X.out i.drew bQ;refine GT.jV [0,1,2,3,4,5,6,7,8] hHeld (fun _ _ _ _ _ h=>h) (by kernel_rfl) ?_;repeat(refine .c rfl rfl (fun V d=>by go_simp<;>with_reducible rfl) ?_;simp only[Act.put,zb,ze,zf])
 refine .nil ?_;refine GT.fJ 9 (fun K p=> ?_) rfl (by kernel_rfl);go_simp;refine(aa.out i.drew bQ).mono ?_;rintro S w3 ⟨rfl,R⟩;go_wp2_with fail
 have j:Below i.heap.size i w3:=(show Below i.heap.size i i.drew from bQ).trans R;refine p.out _ _ (X.out w3 j) (fun hHeld=> ?_);clear p K;try simp only[Act.put,zb,ze,zf]
 refine GT.jV [10,11,12,13] hHeld (fun _ _ _ _ _ h=>h) (by kernel_rfl) ?_;repeat(refine .c rfl rfl (fun V d=>by go_simp<;>with_reducible rfl) ?_;simp only[Act.put,zb,ze,zf])
 refine .nil ?_;refine GT.pA 14 ?_ rfl (by kernel_rfl);go_simp;have g0:=(C.out.below (j.mono C.out.his)).cells.1;have F:=Oe.out.ag j (by omega);have U:=O.out.ag j (by omega);have L:=za (rE.out.trans (j.mono (by omega)));have M:=za F;clear R j hHeld u0 u1 u2 Z u4 u5 u6;obtain⟨q0,q1,q2,Wk,ad,ab⟩:=bg F;obtain⟨u0,u1,u2,Z,u4,u5,u6⟩:=nK U;clear F U;rcases eT PE with⟨G,E,z2⟩|⟨G,E,z2⟩
 ·subst G;rw[zh (by simp)]at q;go_wp2;obtain⟨s,r,u⟩:=fz M.out (.int .u64 e.id) (.string ⟨#[]⟩) (.string PS);refine zk (v:= .tuple #[.agg #[(.int .u64 e.id),(.string ⟨#[]⟩),.string PS],.int .i64 0]) (by simp[results,ZV,go_sem,s,r,u]) rfl ?_;rw[q.out];exact⟨rfl,((L.out.setCell (by simp) _).setCell (by simp) _).setCell (by simp) _⟩
 rw[zi G]at q;go_wp2;obtain⟨s,r,u⟩:=fz M.out (.int .u64 0) (.string ⟨#[]⟩) (.string ⟨#[]⟩);refine zk (v:= .tuple #[.agg #[.int .u64 0,.string ⟨#[]⟩,.string ⟨#[]⟩],.int .i64 PE]) (by simp[results,ZV,go_sem,s,r,u]) rfl ?_;rw[q.out];exact⟨rfl,((L.out.setCell (by simp) _).setCell (by simp) _).setCell (by simp) _⟩
def VF (w:World)(D:Int×Ms)(e:Ending)(w':World):Prop:=Below w.heap.size w w'/\∃d0 d1 d2 d3,e= .returned (.tuple #[.agg #[d0,d1,d2,d3],.int .i64 D.1])/\pt w' (w.heap.size<= ·) D.2 d0 d1 d2 d3
theorem DF (w:World)(S:Nat->Prop):pt w S qv (.string ⟨#[]⟩) (.string ⟨#[]⟩) (.bool false) (.slice none 0 0):=⟨rfl,by simp[qv,ByteArray.size],nN w S⟩
theorem iz {w:World}{g:Nat}{t:TypeId}{n j e z3:Value}(h:af w g t #[n,j,e,z3])(b c d v3:Value):(w.setCell ⟨g,0,none⟩ b).cell? ⟨g,0,none⟩=some b/\((w.setCell ⟨g,0,none⟩ b).setCell ⟨g,1,none⟩ c).cell? ⟨g,1,none⟩=some c/\(((w.setCell ⟨g,0,none⟩ b).setCell ⟨g,1,none⟩ c).setCell ⟨g,2,none⟩ d).cell? ⟨g,2,none⟩=some d/\((((w.setCell ⟨g,0,none⟩ b).setCell ⟨g,1,none⟩ c).setCell ⟨g,2,none⟩ d).setCell ⟨g,3,none⟩ v3).cell? ⟨g,3,none⟩=some v3:=by
 have k:af _ g t #[b,j,e,z3]:=h.store (i:=0) (u:=b) rfl;have m:af _ g t #[b,c,e,z3]:=k.store (i:=1) (u:=c) rfl;have l:af _ g t #[b,c,d,z3]:=m.store (i:=2) (u:=d) rfl;have o:af _ g t #[b,c,d,v3]:=l.store (i:=3) (u:=v3) rfl;exact⟨k.cell 0,m.cell 1,l.cell 2,o.cell 3⟩
theorem eL (w:World)(g:Nat)(d c b v3:Value):ae [g] w ((((w.setCell ⟨g,0,none⟩ d).setCell ⟨g,1,none⟩ c).setCell ⟨g,2,none⟩ b).setCell ⟨g,3,none⟩ v3):=((((ae.refl _ w).setCell (by simp) _).setCell (by simp) _).setCell (by simp) _).setCell (by simp) _
theorem Um (lo hi g gn gi:Nat)(c:aN)(l:List bZ)(f:Fr)(w:World)(h:mw w lo hi g gn gi c l)(hL:Laid w)(ic:ba w)(hs:f.body.size<=1099511627776):
 Calls prog 64 #[.pointer (some ⟨g,0,none⟩),.agg #[.int .u64 f.id,.string f.nm,.string f.body]] w fun e w'=>VF w (eZ c (aI l) f) e w':=by
 obtain⟨W,E⟩:∃W,(w.alloc (.cells #[.int .u64 f.id,.string f.nm,.string f.body] 84)).alloc (.cells #[.string ⟨#[]⟩,.string ⟨#[]⟩,.bool false,.slice none 0 0] 30)=W:=⟨_,rfl⟩
 have N:Below w.heap.size w W:=by rw[<-E];exact((zl _ w).alloc (zd _) _).alloc (by simp) _
 have U1:W.heap.size=w.heap.size+2:=by rw[<-E];simp
 have Am:af W w.heap.size 84 #[.int .u64 f.id,.string f.nm,.string f.body]:=by rw[<-E];exact(af.new w _ _).alloc _
 have pN:af W (w.heap.size+1) 30 #[.string ⟨#[]⟩,.string ⟨#[]⟩,.bool false,.slice none 0 0]:=by rw[<-E];exact af.at_ (by simp)
 have Z:=za (h.below (N.mono h.his));have ag:=za (XF lo hi g gn gi c l f W Z.out);have kZ:=za Am;have ch:=za pN;have fS:=za N;have HW:=za E;have Hg:=za (hL.below N hL.pos);have Sg:=za (ic.below N ic.pos);have O:Hid (eZ c (aI l) f=match fU c (aI l) f with
  |none=>(11,qv)
  |some e=>if(dz c e.shape f.body).1=0 then(0,⟨e.name,(dz c e.shape f.body).2⟩)else if(dz c e.shape f.body).1=2 then(3,qv)else((dz c e.shape f.body).1,qv)):=za rfl
 obtain⟨r0,r1,r2,_⟩:=bg Am;obtain⟨id,nm,body⟩:=f;simp only at r0 r1 r2 hs ag kZ HW;generalize eZ c (aI l) ⟨id,nm,body⟩=ao at*;clear h hL ic E N Am pN;go_enter func64,ntmps64
 go_wp2_with fail
 rw[HW.out];refine ag.out.mono ?_;rintro e o ⟨H,a0,a1,a2,a3,a4,A,n,cap,F,b,rfl,rp⟩;have CK:=za (Ld Z.out rp);obtain⟨d,X⟩:∃d,o.alloc (.cells #[.int .u64 a0,.string a1,.string a2,.int .i64 a3,.int .i64 a4,.slice A n cap,.int .i64 F] 116)=d:=⟨_,rfl⟩
 have u:Below W.heap.size W d:=by rw[<-X];exact H.alloc H.size _
 have cl:w.heap.size+2<=o.heap.size:=by have:=H.size;omega
 have pY:Hid (af d o.heap.size 116 #[.int .u64 a0,.string a1,.string a2,.int .i64 a3,.int .i64 a4,.slice A n cap,.int .i64 F]):=za (by rw[<-X];exact af.new _ _ _);have rz:=za (Z.out.below (u.mono Z.out.his));have U0:=za (kZ.out.ag u (by omega));have Oe:=za (ch.out.ag u (by omega));have rE:=za (fS.out.trans (u.mono (by omega)));have Y:=za (Hg.out.below u Hg.out.pos);have Sj:=za (Sg.out.below u Sg.out.pos);have Aq:=za u;have al:=za (ch.out.ag H (by omega));have ak:=za (fS.out.trans (H.mono (by omega)));have jI:w.heap.size+1<o.heap.size:=by omega
 have cC:o.heap.size<d.heap.size:=pY.out.lt;have pQ:=za X;clear H u rp X ag r0 r1 r2;rcases CK.out with⟨S,rfl,rfl,rfl,rfl⟩|⟨e,S,rfl,rfl,rfl,rfl,oG,aj,Ar⟩
 ·rw[S]at O;clear CK S;obtain⟨q0,q1,q2,q3,Wk,ar,an,aq⟩:=aU al.out;go_wp2;obtain⟨z,x,B,s⟩:=iz al.out (.string ⟨#[]⟩) (.string ⟨#[]⟩) (.bool false) (.slice none 0 0);refine zk (v:= .tuple #[.agg #[.string ⟨#[]⟩,.string ⟨#[]⟩,.bool false,.slice none 0 0],.int .i64 11]) (by simp[results,results64,go_sem,z,x,B,s,zz,jI]) rfl ?_;rw[O.out];exact⟨(ak.out.trans ((eL o (w.heap.size+1) _ _ _ _).below ak.out.size (by simp))).alloc (by simp[World.setCell];omega) _,_,_,_,_,rfl,DF _ _⟩
 have OF:=za ((oG.below Aq.out).AZ);rw[S]at O;have D:Hid (ao=if(dz c e.shape body).1=0 then(0,⟨e.name,(dz c e.shape body).2⟩)else if(dz c e.shape body).1=2 then(3,qv)else((dz c e.shape body).1,qv)):=O;have au:=aj.name;clear O CK S oG aj Ar;have JR:(qA c= .func (.func 89) #[.agg #[.int .i64 c.de,.int .i64 c.it]] #[]/\Hid (∀V,Below d.heap.size d V->Calls prog 89 #[.agg #[.int .i64 c.de,.int .i64 c.it],.agg #[.int .i64 a3,.int .i64 a4,.slice A n cap,.int .i64 F],.string body] V fun R w'=>vM V w' (dz c e.shape body).2 (dz c e.shape body).1 R))\/(qA c= .func (.func 87) #[.agg #[.int .i64 c.de,.int .i64 c.it]] #[]/\Hid (∀V,Below d.heap.size d V->Calls prog 87 #[.agg #[.int .i64 c.de,.int .i64 c.it],.agg #[.int .i64 a3,.int .i64 a4,.slice A n cap,.int .i64 F],.string body] V fun R w'=>vM V w' (dz c e.shape body).2 (dz c e.shape body).1 R)):=by
  by_cases U:c.fm=1
  ·refine .inl ⟨by unfold qA A8;rw[zi U],za (fun V m=> ?_)⟩;unfold dz;rw[zi U];exact Gh e.shape body c.de c.it d.heap.size V _ _ _ _ (OF.out.below m) m.size (Y.out.below m Y.out.pos) (Sj.out.below m Sj.out.pos) hs
  refine .inr ⟨by unfold qA A8;rw[zh U],za (fun V m=> ?_)⟩;unfold dz;rw[zh U];exact Ny e.shape body c.de c.it d.heap.size V _ _ _ _ (OF.out.below m) m.size (Y.out.below m Y.out.pos) (by omega)
 rcases JR with⟨L5,aa⟩|⟨L5,aa⟩;all_goals
  have C:Hid (∀V,Below d.heap.size d V->V.cell? ⟨g,9,none⟩=some (qA c)/\V.cell? ⟨o.heap.size,3,none⟩=some (.int .i64 a3)/\V.cell? ⟨o.heap.size,4,none⟩=some (.int .i64 a4)/\V.cell? ⟨o.heap.size,5,none⟩=some (.slice A n cap)/\V.cell? ⟨o.heap.size,6,none⟩=some (.int .i64 F)/\V.cell? ⟨w.heap.size,2,none⟩=some (.string body)):=za (fun V m=>by
   obtain⟨_,_,_,s,y4,y5,y6⟩:=nK (pY.out.ag m (by omega));obtain⟨_,_,z2,_⟩:=bg (U0.out.ag m (by omega));have hp:=(rz.out.below (m.mono rz.out.his)).cells.2.2.2.2;exact⟨hp,s,y4,y5,y6,z2⟩)
  generalize (dz c e.shape body).1=PE at*;generalize (dz c e.shape body).2=PX at*;go_wp2_with fail
  rw[pQ.out];refine aC 15 (fun V=>V.cell? ⟨g,9,none⟩=some (qA c)/\V.cell? ⟨o.heap.size,3,none⟩=some (.int .i64 a3)/\V.cell? ⟨o.heap.size,4,none⟩=some (.int .i64 a4)/\V.cell? ⟨o.heap.size,5,none⟩=some (.slice A n cap)/\V.cell? ⟨o.heap.size,6,none⟩=some (.int .i64 F)/\V.cell? ⟨w.heap.size,2,none⟩=some (.string body)) (by kernel_rfl) (by kernel_rfl) ?_;have hHeld:=C.out d.drew bQ;refine GT.jV [0,1,2,3,4,5,6,7,8] hHeld (fun _ _ _ _ _ h=>h) (by kernel_rfl) ?_;repeat(refine .c rfl rfl (fun V m=>by go_simp<;>with_reducible rfl) ?_;simp only[Act.put,zb,ze,zf])
  refine .nil ?_;refine GT.T' 9 13 rfl rfl (by kernel_rfl) (fun K i=> ?_) (fun K i=> ?_);focus
   go_simp;refine(aa.out d.drew bQ).mono ?_;rintro R w3 ⟨G,d0,d1,d2,rfl,y⟩;obtain⟨r,bx,rfl,rfl,rfl,_⟩:=y.open_;have p:Below d.heap.size d w3:=(show Below d.heap.size d d.drew from bQ).trans G;go_wp2_with fail
   refine i.out _ _ (C.out w3 p) (fun hHeld=> ?_);clear i K;try simp only[Act.put,zb,ze,zf]
   refine GT.jV [10,11,12] hHeld (fun _ _ _ _ _ h=>h) (by kernel_rfl) ?_;repeat(refine .c rfl rfl (fun V m=>by go_simp<;>with_reducible rfl) ?_;simp only[Act.put,zb,ze,zf])
   refine .nil ?_;refine GT.fJ 13 (fun K i=> ?_) rfl (by kernel_rfl);go_simp;refine i.out _ _ (C.out _ (p.alloc p.size _)) (fun hHeld=> ?_);clear i K;try simp only[Act.put,zb,ze,zf]
   refine GT.fJ 14 (fun K i=> ?_) rfl (by kernel_rfl);go_simp;refine i.out _ _ (C.out _ (p.alloc p.size _)) (fun hHeld=> ?_);clear i K;try simp only[Act.put,zb,ze,zf]
   refine GT.pA 15 ?_ rfl (by kernel_rfl);go_simp;obtain⟨j,q⟩:∃j,w3.alloc (.cells #[.string PX.text,.bool PX.list,.slice r PX.sub.length bx] 28)=j:=⟨_,rfl⟩
   have fT:Hid (Below d.heap.size d j):=za (by rw[<-q];exact p.alloc p.size _);have Te:af j w3.heap.size 28 #[.string PX.text,.bool PX.list,.slice r PX.sub.length bx]:=by rw[<-q];exact af.new _ _ _
   have Hf:Hid (gq j (d.heap.size<= ·) PX (.string PX.text) (.bool PX.list) (.slice r PX.sub.length bx)):=za (by rw[<-q];exact y.below ((zl _ _).alloc (zd _) _));rw[q];clear q G p y hHeld
  rotate_left
  focus
   go_simp;have M:Below d.heap.size d (d.alloc (.cells #[.string ⟨#[]⟩,.bool false,.slice none 0 0] 28)).drew:=((zl d.heap.size d).alloc (zd _) _).drew;have ah:af (d.alloc (.cells #[.string ⟨#[]⟩,.bool false,.slice none 0 0] 28)).drew d.heap.size 28 #[.string ⟨#[]⟩,.bool false,.slice none 0 0]:=(af.new d _ _).drew;refine i.out _ _ (C.out _ M) (fun hHeld=> ?_);clear i K;try simp only[Act.put,zb,ze,zf]
   refine GT.fJ 9 (fun K i=> ?_) rfl (by kernel_rfl);go_simp;refine(aa.out _ M).mono ?_;rintro R w3 ⟨G,d0,d1,d2,rfl,y⟩;obtain⟨r,bx,rfl,rfl,rfl,_⟩:=y.open_;have p:Below d.heap.size d w3:=M.trans (G.mono M.size);have Sk:=ah.ag G ah.lt;go_wp2_with fail
   refine i.out _ _ (C.out w3 p) (fun hHeld=> ?_);clear i K;try simp only[Act.put,zb,ze,zf]
   refine GT.jV [10,11,12] hHeld (fun _ _ _ _ _ h=>h) (by kernel_rfl) ?_;repeat(refine .c rfl rfl (fun V m=>by go_simp<;>with_reducible rfl) ?_;simp only[Act.put,zb,ze,zf])
   refine .nil ?_;obtain⟨t0,t1,t2,LV,Oa,Tb⟩:=bg Sk;refine GT.fJ 14 (fun K i=> ?_) rfl (by kernel_rfl);go_simp;have oH:Below d.heap.size d (((w3.setCell ⟨d.heap.size,0,none⟩ (.string PX.text)).setCell ⟨d.heap.size,1,none⟩ (.bool PX.list)).setCell ⟨d.heap.size,2,none⟩ (.slice r PX.sub.length bx)):=((p.setCell (by simp) _).setCell (by simp) _).setCell (by simp) _;refine i.out _ _ (C.out _ oH) (fun hHeld=> ?_);clear i K;try simp only[Act.put,zb,ze,zf]
   refine GT.pA 15 ?_ rfl (by kernel_rfl);go_simp;obtain⟨j,q⟩:∃j,(((w3.setCell ⟨d.heap.size,0,none⟩ (.string PX.text)).setCell ⟨d.heap.size,1,none⟩ (.bool PX.list)).setCell ⟨d.heap.size,2,none⟩ (.slice r PX.sub.length bx))=j:=⟨_,rfl⟩
   have fT:Hid (Below d.heap.size d j):=za (by rw[<-q];exact oH);have Te:af j d.heap.size 28 #[.string PX.text,.bool PX.list,.slice r PX.sub.length bx]:=by rw[<-q];exact ec Sk _ _ _
   have Hf:Hid (gq j (d.heap.size<= ·) PX (.string PX.text) (.bool PX.list) (.slice r PX.sub.length bx)):=za (by rw[<-q];exact y.only (L:= [d.heap.size]) ((((ae.refl _ w3).setCell (by simp) _).setCell (by simp) _).setCell (by simp) _) (by simp[World.drew]) (fun k _ I=>by have I:(d.alloc (.cells #[.string ⟨#[]⟩,.bool false,.slice none 0 0] 28)).heap.size<=k:=I;simp at I;show d.heap.size<=k;omega));rw[q];clear q G p y hHeld M ah oH Sk t0 t1 t2 LV Oa Tb
  all_goals
   have ad:=Oe.out.ag fT.out (by omega);have ai:=pY.out.ag fT.out (by omega);have ab:=za ad;have J:=za (rE.out.trans (fT.out.mono (by omega)));obtain⟨q0,q1,q2,q3,Wk,ar,an,aq⟩:=aU ad;obtain⟨u0,u1,u2,u3,u4,u5,u6⟩:=nK ai;obtain⟨t0,t1,t2⟩:=kz Te;clear ad ai Te;rcases eT PE with⟨he,z1,z2⟩|⟨he,z1,z2⟩
   ·subst he;rw[zi rfl]at D;go_wp2;obtain⟨z,x,B,s⟩:=iz ab.out (.string e.name) (.string PX.text) (.bool PX.list) (.slice r PX.sub.length bx);refine zk (v:= .tuple #[.agg #[.string e.name,.string PX.text,.bool PX.list,.slice r PX.sub.length bx],.int .i64 0]) (by simp[results,results64,go_sem,z,x,B,s]) rfl ?_;rw[D.out];exact⟨J.out.trans ((eL j (w.heap.size+1) _ _ _ _).below J.out.size (by simp)),_,_,_,_,rfl,rfl,by simp only;omega,Hf.out.only (L:= [w.heap.size+1]) (eL j (w.heap.size+1) _ _ _ _) (by simp;omega) (fun k _ I=>by have I:d.heap.size<=k:=I;show w.heap.size<=k;omega)⟩
   rw[zh he]at D;by_cases h2:PE=2
   ·have z3:(PE==2)=true:=yN.2 h2;rw[zi h2]at D;go_wp2;obtain⟨z,x,B,s⟩:=iz ab.out (.string ⟨#[]⟩) (.string ⟨#[]⟩) (.bool false) (.slice none 0 0);refine zk (v:= .tuple #[.agg #[.string ⟨#[]⟩,.string ⟨#[]⟩,.bool false,.slice none 0 0],.int .i64 3]) (by simp[results,results64,go_sem,z,x,B,s]) rfl ?_;rw[D.out];exact⟨J.out.trans ((eL j (w.heap.size+1) _ _ _ _).below J.out.size (by simp)),_,_,_,_,rfl,DF _ _⟩
   have z3:(PE==2)=false:=zm.2 h2;rw[zh h2]at D;go_wp2;obtain⟨z,x,B,s⟩:=iz ab.out (.string ⟨#[]⟩) (.string ⟨#[]⟩) (.bool false) (.slice none 0 0);refine zk (v:= .tuple #[.agg #[.string ⟨#[]⟩,.string ⟨#[]⟩,.bool false,.slice none 0 0],.int .i64 PE]) (by simp[results,results64,go_sem,z,x,B,s]) rfl ?_;rw[D.out];exact⟨J.out.trans ((eL j (w.heap.size+1) _ _ _ _).below J.out.size (by simp)),_,_,_,_,rfl,DF _ _⟩
theorem mw.put {w w':World}{lo hi g d i:Nat}{c:aN}{l:List bZ}(h:mw w lo hi g d i c l)(j:ae [d,i] w w')(hz:w'.heap.size=w.heap.size){e:bC}{v:Value}(s:jw w' d (AW (l++ [(e,v)])))(q:jw w' i (AX (l++ [(e,v)])))(u:Vt w (fun k=>g<k/\k<w.heap.size) (e,v))(m:fP c (aI l) e=0)(n:oV e):mw w' lo w'.heap.size g d i c (l++ [(e,v)]) where
 blk:=h.blk.only j (by have:=h.n2;have:=h.i2;simp;omega)
 nm:=s
 ix:=q
 n1:=h.n1
 n2:=h.n2
 i1:=h.i1
 i2:=h.i2
 ne:=h.ne
 g2:=by have:=h.g2;have:=h.his;omega
 his:=zd _
 rows:=fun r b=>by
  have key:Vt w (fun k=>g<k/\k<w.heap.size) r:=by
   rcases ZK.1 b with b|b
   ·exact(h.rows r b).ag (fun k _ hS=>⟨hS.1,by have:=hS.2;have:=h.his;omega⟩) (fun _ _ _=>rfl)
   obtain rfl:=yS.1 b;exact u
  exact key.ag (fun k _ hS=>⟨hS.1,by have:=hS.2;omega⟩) fun p o hS=>j.cell o (by have:=hS.1;have:=h.n2;have:=h.i2;simp;omega)
 ok:=by
  have:aI (l++ [(e,v)])=aI l++ [e]:=by simp[aI]
  rw[this];exact h.ok.snoc m
 sz:=fun r b=>by
  rcases ZK.1 b with b|b
  ·exact h.sz r b
  obtain rfl:=yS.1 b;exact n
def VG (w:World)(lo g gn gi:Nat)(c:aN)(l:List bZ)(e:bC)(en:Ending)(w':World):Prop:=
 en= .returned (.int .i64 (fP c (aI l) e))/\ae [gn,gi] w w'/\(fP c (aI l) e=0->∃v,mw w' lo w'.heap.size g gn gi c (l++ [(e,v)]))
theorem lD {w w':World}{lo g b d:Nat}{c:aN}{l:List bZ}{e:bC}{E:Int}(h:fP c (aI l) e=E)(j:E≠0)(k:ae [b,d] w w'):VG w lo g b d c l e (.returned (.int .i64 E)) w':=⟨by rw[h],k,fun i=>absurd (h.symm.trans i) j⟩
theorem eM {w w':World}{L:List Nat}(h:Below w.heap.size w w'):ae L w w':=(ae.ah h (zd _)).mono (by simp)
theorem XT {c:aN}{l:List bZ}(h:cT c (aI l)){nm:ByteArray}(e:∀x∈aI l,x.name≠nm):Instr.findNow .string (.string nm) (mE (AW l) 0) 0=some none:=by
 rcases Cg h nm with⟨i,_⟩|⟨j,r,_,b,d,_⟩
 ·exact i
 exact absurd d (e r.1 (xD.2 ⟨r,xf b,rfl⟩))
theorem XU {c:aN}{l:List bZ}(h:cT c (aI l)){id:Nat}(e:∀x∈aI l,x.id≠id):Instr.findNow (.int .u64) (.int .u64 id) (mE (AX l) 0) 0=some none:=by
 rcases KG h id _ (fun _=>rfl)with⟨i,_⟩|⟨j,r,_,b,d,_⟩
 ·exact i
 exact absurd d (e r.1 (xD.2 ⟨r,xf b,rfl⟩))
theorem Le {l:List bZ}{p:bC->Bool}{a0:Nat}{d i:ByteArray}{a3 a4:Int}{A:Option Addr}{n cap:Nat}{e:Int}{b:Bool}(h:Qu l ((aI l).find? p) a0 d i a3 a4 A n cap e b):(aI l).any p=b:=by
 rcases h with⟨c,rfl,_⟩|⟨r,_,c,rfl,_⟩
 ·exact Fy c
 exact Fz c
theorem Un (lo hi g j d:Nat)(c:aN)(l:List bZ)(e:bC)(w:World)(h:mw w lo hi g j d c l)(hL:Laid w)(hg:1<lo)(hs:oV e):
 Calls prog 90 #[.pointer (some ⟨g,0,none⟩),.agg #[.int .u64 e.id,.string e.name,.string e.ty]] w fun en w'=>VG w lo g j d c l e en w':=by
 obtain⟨g0,g6,g7,_,_⟩:=h.cells;have AK:g<w.heap.size:=zT h.g2 h.his;have aV:j<w.heap.size:=h.nm.lt;have oa:d<w.heap.size:=h.ix.lt;obtain⟨W,hW⟩:∃W,w.alloc (.cells #[.int .u64 e.id,.string e.name,.string e.ty] 48)=W:=⟨_,rfl⟩
 have k7:Below w.heap.size w W:=by rw[<-hW];exact(zl _ w).alloc (zd _) _
 have U1:W.heap.size=w.heap.size+1:=by rw[<-hW];simp
 have Am:af W w.heap.size 48 #[.int .u64 e.id,.string e.name,.string e.ty]:=by rw[<-hW];exact af.new w _ _
 obtain⟨a0,S,a2,a3,a4,A,n,cap,a6,b,U,oE⟩:=Dy h e.name;have ay:=Le U;have CL:=za (h.below (k7.mono h.his));have sx:=za oE;have D:Hid (∀V:World,V.heap[g]?=W.heap[g]?/\V.heap[j]?=W.heap[j]?/\V.heap[w.heap.size]?=W.heap[w.heap.size]?->V.cell? ⟨g,6,none⟩=some (.map (some j))/\V.cell? ⟨w.heap.size,1,none⟩=some (.string e.name)/\jw V j (AW l)):=za (fun V i=>⟨af.cell (show af V g _ _ from i.1.trans CL.out.blk) 6,af.cell (show af V w.heap.size _ _ from i.2.2.trans Am) 1,CL.out.nm.ag i.2.1⟩);have kZ:=za Am;have fS:=za k7;have HW:=za hW;have Hg:=za (hL.below k7 hL.pos);have p:Hid (fP c (aI l) e=if b8 e.name=false then 11 else if((aI l).any fun x=>decide (x.name=e.name))=true then 11 else if((aI l).any fun x=>decide (x.id=e.id))=true then 1
  else if cP e.ty.data.toList=none then 3 else if c.fm=1/\e.shape.flat=false then 12 else 0):=za rfl
 rw[show((aI l).any fun x=>decide (x.name=e.name))=b from ay]at p;have Wm:=za hs;have aO:=hs.name;have aM:=hs.ty;have aF:=za (fun V=>qy e.name V (by omega));clear h hL hW k7 Am U oE ay hs;go_enter func90,ntmps90
 go_wp2_with fail
 rw[HW.out];refine aC 12 (fun V=>V.cell? ⟨g,6,none⟩=some (.map (some j))/\V.cell? ⟨w.heap.size,1,none⟩=some (.string e.name)/\jw V j (AW l)) (by kernel_rfl) (by kernel_rfl) ?_;have hHeld:=D.out W.drew ⟨rfl,rfl,rfl⟩;refine GT.jV [0,1,2,3,4,5,6,7,8,9] hHeld (fun _ _ _ _ _ h=>h) (by kernel_rfl) ?_;iterate 6 (refine .c rfl rfl (fun V i=>by go_simp<;>with_reducible rfl) ?_;simp only[Act.put,zb,ze,zf])
 refine .c (v:= .tuple #[.agg #[.int .u64 a0,.string S,.string a2,.int .i64 a3,.int .i64 a4,.slice A n cap,.int .i64 a6],.bool b]) rfl rfl (fun V i=>by have hl:=sx.out V i.2.2;go_simp) ?_;try simp only[Act.put,zb,ze,zf];iterate 3 (refine .c rfl rfl (fun V i=>by go_simp<;>with_reducible rfl) ?_;simp only[Act.put,zb,ze,zf])
 refine .nil ?_;refine GT.fJ 10 (fun K y=> ?_) rfl (by kernel_rfl);go_simp;refine y.out _ _ (D.out _ ⟨yi _ _ (by omega),yi _ _ (by omega),yi _ _ (by omega)⟩) (fun hHeld=> ?_);clear y K;try simp only[Act.put,zb,ze,zf]
 refine GT.fJ 11 (fun K y=> ?_) rfl (by kernel_rfl);go_simp;refine y.out _ _ (D.out _ ⟨yi _ _ (by omega),yi _ _ (by omega),yi _ _ (by omega)⟩) (fun hHeld=> ?_);clear y K;try simp only[Act.put,zb,ze,zf]
 refine GT.pA 12 ?_ rfl (by kernel_rfl);go_simp;obtain⟨r,jH⟩:∃r,(W.alloc (.cells #[.int .u64 a0,.string S,.string a2,.int .i64 a3,.int .i64 a4,.slice A n cap,.int .i64 a6] 116)).drew=r:=⟨_,rfl⟩
 have Z:Below W.heap.size W r:=by rw[<-jH];exact((zl _ W).alloc (zd _) _).drew
 have rE:=za (fS.out.trans (Z.mono (by omega)));have du:=za (kZ.out.ag Z (by omega));have tY:=za (Hg.out.below Z Hg.out.pos);have R:=za (CL.out.below (Z.mono CL.out.his));rw[jH];clear jH Z sx D hHeld kZ Hg CL fS;obtain⟨u0,u1,u2,ak,ah,ad⟩:=bg du.out;cases b with
 |true=>
  have q:fP c (aI l) e=11:=by rw[p.out];split<;>rfl
  go_wp2;go_ret;exact lD q (by decide) (eM rE.out)
 |false=>
  rw[zh (show¬(false=true)by simp)]at p;go_wp2_with fail
  refine(aF.out _).mono ?_;rintro en w' ⟨rfl,rfl⟩;cases hmy:b8 e.name with
  |false=>
   have q:fP c (aI l) e=11:=by rw[p.out,zi hmy]
   go_wp2;go_ret;exact lD q (by decide) (eM rE.out)
  |true=>
   rw[zh (by simp[hmy])]at p;obtain⟨a0,S,a2,a3,a4,A,n,cap,a6,b,U,oE⟩:=KV R.out e.id;rw[show((aI l).any fun x=>decide (x.id=e.id))=b from Le U]at p;have sx:=za oE;have D:Hid (∀V:World,V.heap[g]?=r.heap[g]?/\V.heap[d]?=r.heap[d]?/\V.heap[w.heap.size]?=r.heap[w.heap.size]?->V.cell? ⟨g,7,none⟩=some (.map (some d))/\V.cell? ⟨w.heap.size,0,none⟩=some (.int .u64 e.id)/\jw V d (AX l)):=za (fun V i=>⟨af.cell (show af V g _ _ from i.1.trans R.out.blk) 7,af.cell (show af V w.heap.size _ _ from i.2.2.trans du.out) 0,R.out.ix.ag i.2.1⟩);have aT:=rE.out.size;clear U oE u0 u1 u2 ak ah ad hmy;go_wp2_with fail
   refine aC 12 (fun V=>V.cell? ⟨g,7,none⟩=some (.map (some d))/\V.cell? ⟨w.heap.size,0,none⟩=some (.int .u64 e.id)/\jw V d (AX l)) (by kernel_rfl) (by kernel_rfl) ?_;have hHeld:=D.out r.drew ⟨rfl,rfl,rfl⟩;have aP:w.heap.size<r.heap.size:=du.out.lt;refine GT.jV [0,1,2,3,4,5,6,7,8,9] hHeld (fun _ _ _ _ _ h=>h) (by kernel_rfl) ?_;iterate 6 (refine .c rfl rfl (fun V i=>by go_simp<;>with_reducible rfl) ?_;simp only[Act.put,zb,ze,zf])
   refine .c (v:= .tuple #[.agg #[.int .u64 a0,.string S,.string a2,.int .i64 a3,.int .i64 a4,.slice A n cap,.int .i64 a6],.bool b]) rfl rfl (fun V i=>by have hl:=sx.out V i.2.2;go_simp) ?_;try simp only[Act.put,zb,ze,zf];iterate 3 (refine .c rfl rfl (fun V i=>by go_simp<;>with_reducible rfl) ?_;simp only[Act.put,zb,ze,zf])
   refine .nil ?_;refine GT.fJ 10 (fun K y=> ?_) rfl (by kernel_rfl);go_simp;refine y.out _ _ (D.out _ ⟨yi _ _ (by omega),yi _ _ (by omega),yi _ _ (by omega)⟩) (fun hHeld=> ?_);clear y K;try simp only[Act.put,zb,ze,zf]
   refine GT.fJ 11 (fun K y=> ?_) rfl (by kernel_rfl);go_simp;refine y.out _ _ (D.out _ ⟨yi _ _ (by omega),yi _ _ (by omega),yi _ _ (by omega)⟩) (fun hHeld=> ?_);clear y K;try simp only[Act.put,zb,ze,zf]
   refine GT.pA 12 ?_ rfl (by kernel_rfl);go_simp;obtain⟨W4,sB⟩:∃W4,(r.alloc (.cells #[.int .u64 a0,.string S,.string a2,.int .i64 a3,.int .i64 a4,.slice A n cap,.int .i64 a6] 116)).drew=W4:=⟨_,rfl⟩
   have bR:Below r.heap.size r W4:=by rw[<-sB];exact((zl _ r).alloc (zd _) _).drew
   have Sm:=za (rE.out.trans (bR.mono (by omega)));have ei:=za (du.out.ag bR (by omega));have LQ:=za (tY.out.below bR tY.out.pos);have Tg:=za (R.out.below (bR.mono R.out.his));rw[sB];clear sB bR sx D hHeld du tY R rE;obtain⟨u0,u1,u2,ak,ah,ad⟩:=bg ei.out;cases b with
   |true=>
    have q:fP c (aI l) e=1:=by rw[p.out,zi rfl]
    go_wp2;go_ret;exact lD q (by decide) (eM Sm.out)
   |false=>
    rw[zh (show¬(false=true)by simp)]at p;have HG:=za (Ug e.ty W4 (by omega) LQ.out);go_wp2_with fail
    refine HG.out.mono ?_;rintro en m dY;obtain⟨T,hT⟩:∃T,cP e.ty.data.toList=T:=⟨_,rfl⟩
    rw[hT]at dY p;cases T with
    |none=>
     obtain⟨C,rfl⟩:=dY;have q:fP c (aI l) e=3:=by rw[p.out,zi rfl]
     have fT:=za (Sm.out.trans (C.mono Sm.out.size));clear C hT;go_wp2;go_ret;exact lD q (by decide) (eM (fT.out.alloc fT.out.size _))
    |some t=>
     obtain⟨C,d0,d1,d2,d3,rfl,oG⟩:=dY;have tR:e.shape=t:=by unfold bC.shape;rw[hT];rfl
     rw[zh (by simp),tR]at p;obtain⟨s,u,rfl,rfl,rfl,rfl,_⟩:=oG.open_;have aK:=Sm.out.size;have aa:=ei.out.ag C (by have:=ei.out.lt;omega);have O:=Tg.out.below (C.mono Tg.out.his);have an:=O.cells.1;have aR:g<m.heap.size:=zT O.g2 O.his;have N:Below m.heap.size m (m.alloc (.cells #[.int .i64 t.kind,.int .i64 t.size,.slice s t.sub.length u,.int .i64 t.tail] 43)):=(zl _ m).alloc (zd _) _;have Sn:=za ((Sm.out.trans (C.mono aK)).trans (N.mono (by have:=C.size;omega)));have J:=za (aa.ag N aa.lt);have H:=za (O.below (N.mono O.his));have M:=za (af.new m 43 #[.int .i64 t.kind,.int .i64 t.size,.slice s t.sub.length u,.int .i64 t.tail]);have I:=za (oG.below N);have al:=LQ.out.below C LQ.out.pos;have HF:=za (Je t _ _ _ _ _ _ I.out.AZ (zd _) (al.below N al.pos));have aW:w.heap.size<m.heap.size:=aa.lt;clear u0 u1 u2 ak ah ad C hT ei Tg oG aa O N al;by_cases G:c.fm=1;focus
      have JT:((c.fm:Int)==1)=true:=yN.2 G;go_wp2_with fail
      refine HF.out.mono ?_;rintro en w7 ⟨rfl,F⟩;have aL:=F.size;simp only[zp]at aL;have ab:=za (Sn.out.trans (F.mono Sn.out.size));have aj:=za (J.out.ag F J.out.lt);have B:=za (H.out.below (F.mono H.out.his));have ai:=za (M.out.ag F M.out.lt);have ao:=za (I.out.below F);clear F HF H J M I an;cases mD:t.flat
      ·have q:fP c (aI l) e=12:=by rw[p.out,zi ⟨G,mD⟩]
       go_wp2;go_ret;exact lD q (by decide) (eM ab.out)
      have q:fP c (aI l) e=0:=by rw[p.out,zh (by simp[mD])]
      obtain⟨o,rfl⟩:∃o,o=w7:=⟨w7,rfl⟩
      clear mD G;go_wp2_with fail
     rotate_left
     focus
      have JT:((c.fm:Int)==1)=false:=zm.2 G;have q:fP c (aI l) e=0:=by rw[p.out,zh (by simp[G])]
      obtain⟨o,rD⟩:∃o,m.alloc (.cells #[.int .i64 t.kind,.int .i64 t.size,.slice s t.sub.length u,.int .i64 t.tail] 43)=o:=⟨_,rfl⟩
      rw[rD]at Sn J H M I;have GW:=za rD;have ab:=Sn;have aj:=J;have B:=H;have ai:=M;have ao:=I;clear HF G rD Sn J H M I;go_wp2_with fail
      rw[GW.out];clear an
     all_goals
      obtain⟨z1,z2,z3,z4,z5⟩:=Cd q;have aD:=KF (P:=prog) (T:=118) (w:=o.drew) (B.out.nm.ag rfl) underlying118 zG (by simp[MapKept.IsKey]) (XT B.out.ok z2) (.agg #[.int .u64 e.id,.string e.name,.string e.ty,.int .i64 t.kind,.int .i64 t.size,.slice s t.sub.length u,.int .i64 t.tail]);have L7:=fun(V:World) (i:jw V d (AX l))=>KF (P:=prog) (T:=119) (w:=V) i underlying119 Z2 (by simp[MapKept.IsKey]) (XU B.out.ok z3) (.agg #[.int .u64 e.id,.string e.name,.string e.ty,.int .i64 t.kind,.int .i64 t.size,.slice s t.sub.length u,.int .i64 t.tail])
      have aJ:=za L7;clear z1 z2 z3 z4 z5 L7;obtain⟨b0,Y,X,_⟩:=bg aj.out.drew;obtain⟨t0,t1,t2,t3,_⟩:=aU ai.out.drew;have az:o.drew.cell? ⟨g,6,none⟩=some (.map (some j)):=(af.drew B.out.blk).cell 6;refine aC 9 (fun V=>V.cell? ⟨g,6,none⟩=some (.map (some j))/\V.cell? ⟨w.heap.size,0,none⟩=some (.int .u64 e.id)/\V.cell? ⟨w.heap.size,1,none⟩=some (.string e.name)/\V.cell? ⟨w.heap.size,2,none⟩=some (.string e.ty)/\V.cell? ⟨m.heap.size,0,none⟩=some (.int .i64 t.kind)/\V.cell? ⟨m.heap.size,1,none⟩=some (.int .i64 t.size)/\V.cell? ⟨m.heap.size,2,none⟩=some (.slice s t.sub.length u)/\V.cell? ⟨m.heap.size,3,none⟩=some (.int .i64 t.tail)) (by kernel_rfl) (by kernel_rfl) ?_;have hHeld:=And.intro az (And.intro b0 (And.intro Y (And.intro X (And.intro t0 (And.intro t1 (And.intro t2 t3))))));clear b0 Y X t0 t1 t2 t3 az;refine GT.jV [0,1,2,3,4,5,6,7,8] hHeld (fun _ _ _ _ _ h=>h) (by kernel_rfl) ?_;repeat(refine .c rfl rfl (fun V i=>by go_simp<;>with_reducible rfl) ?_;simp only[Act.put,zb,ze,zf])
      refine .nil ?_;refine GT.pA 9 ?_ rfl (by kernel_rfl);go_simp;obtain⟨z,AN⟩:∃z,oT o.drew j (AW l) (.string e.name) (.agg #[.int .u64 e.id,.string e.name,.string e.ty,.int .i64 t.kind,.int .i64 t.size,.slice s t.sub.length u,.int .i64 t.tail])=z:=⟨_,rfl⟩
      have au:jw z j (AW l++ [(.string e.name,(.agg #[.int .u64 e.id,.string e.name,.string e.ty,.int .i64 t.kind,.int .i64 t.size,.slice s t.sub.length u,.int .i64 t.tail]))]):=by rw[<-AN];exact sZ (B.out.nm.ag rfl) _ _
      have L:ae [j] o z:=by rw[<-AN];exact(ae.refl [j] o).drew.trans (vE _ _ _ _ _)
      have S5:z.heap.size=o.heap.size:=by rw[<-AN];simp[oT]
      rw[AN];have aQ:=B.out.n2;have cB:=B.out.ne;have aw:=(aj.out.only L (by simp;omega)).drew;have Te:=(ai.out.only L (by simp;omega)).drew;have aA:=af.drew (B.out.blk.only L (by simp;omega));have ag:jw z.drew d (AX l):=(B.out.ix.only L (by simp;omega)).ag rfl;have L7:=aJ.out z.drew ag;obtain⟨b0,Y,X,_⟩:=bg aw;obtain⟨t0,t1,t2,t3,_⟩:=aU Te;have ar:z.drew.cell? ⟨g,7,none⟩=some (.map (some d)):=aA.cell 7;have aE:=za au;have Wt:=za L;have aH:=za S5;have aG:=za ag;clear hHeld AN au L S5 aD aw Te aA ag;go_wp2_with fail
      refine aC 9 (fun V=>V.cell? ⟨g,7,none⟩=some (.map (some d))/\V.cell? ⟨w.heap.size,0,none⟩=some (.int .u64 e.id)/\V.cell? ⟨w.heap.size,1,none⟩=some (.string e.name)/\V.cell? ⟨w.heap.size,2,none⟩=some (.string e.ty)/\V.cell? ⟨m.heap.size,0,none⟩=some (.int .i64 t.kind)/\V.cell? ⟨m.heap.size,1,none⟩=some (.int .i64 t.size)/\V.cell? ⟨m.heap.size,2,none⟩=some (.slice s t.sub.length u)/\V.cell? ⟨m.heap.size,3,none⟩=some (.int .i64 t.tail)) (by kernel_rfl) (by kernel_rfl) ?_;have hHeld:=And.intro ar (And.intro b0 (And.intro Y (And.intro X (And.intro t0 (And.intro t1 (And.intro t2 t3))))));clear b0 Y X t0 t1 t2 t3 ar;refine GT.jV [0,1,2,3,4,5,6,7,8] hHeld (fun _ _ _ _ _ h=>h) (by kernel_rfl) ?_;repeat(refine .c rfl rfl (fun V i=>by go_simp<;>with_reducible rfl) ?_;simp only[Act.put,zb,ze,zf])
      refine .nil ?_;refine GT.pA 9 ?_ rfl (by kernel_rfl);go_simp;clear L7;obtain⟨E,Tf⟩:∃E,oT z.drew d (AX l) (.int .u64 e.id) (.agg #[.int .u64 e.id,.string e.name,.string e.ty,.int .i64 t.kind,.int .i64 t.size,.slice s t.sub.length u,.int .i64 t.tail])=E:=⟨_,rfl⟩
      have aB:jw E d (AX l++ [(.int .u64 e.id,(.agg #[.int .u64 e.id,.string e.name,.string e.ty,.int .i64 t.kind,.int .i64 t.size,.slice s t.sub.length u,.int .i64 t.tail]))]):=by rw[<-Tf];exact sZ aG.out _ _
      have rC:ae [d] z E:=by rw[<-Tf];exact(ae.refl [d] z).drew.trans (vE _ _ _ _ _)
      have aq:E.heap.size=o.heap.size:=by rw[<-aH.out,<-Tf];simp[oT]
      rw[Tf];have ax:=aE.out.only rC (by simp;omega);have av:Hid (ae [j,d] o E):=za ((Wt.out.mono (by simp)).trans (rC.mono (by simp)));have HQ:Hid (∃v,mw E lo E.heap.size g j d c (l++ [(e,v)])):=za ⟨_,B.out.put av.out aq (by simpa[AW]using ax) (by simpa[AX]using aB) ⟨_,_,_,_,rfl,by
       show fD o _ e.shape _ _ _ _
       rw[tR];exact ao.out.fe (fun k hk hS=>⟨by have hS:W4.heap.size<=k:=hS;omega,hk⟩)⟩ q Wm.out⟩
      clear Tf aB rC aq ax hHeld;go_wp2;go_ret;exact⟨by rw[q];rfl,(eM ab.out).trans av.out,fun _=>HQ.out⟩
def acE (w:World)(c:aN)(l:List bC)(e:Ending)(w':World):Prop:=
 Below w.heap.size w w'/\((mQ c l=0/\∃g gn gi rows,e= .returned (.tuple #[.pointer (some ⟨g,0,none⟩),.int .i64 0])/\mw w' w.heap.size w'.heap.size g gn gi c rows/\aI rows=l)\/(mQ c l≠0/\e= .returned (.tuple #[.pointer none,.int .i64 (mQ c l)])))
theorem wI {c:aN}{l:List bC}{k:Nat}{E:Int}(h:iT c (l.take k) (l.drop k)=E)(d:k<l.length):(fP c (l.take k) l[k]≠0->E=fP c (l.take k) l[k])/\(fP c (l.take k) l[k]=0->iT c (l.take (k+1)) (l.drop (k+1))=E):=by
 rw[yX d,iT]at h;refine⟨fun b=> ?_,fun b=> ?_⟩
 ·rw[zi b]at h;exact h.symm
 rw[zh (by simp[b])]at h;rw[Z3,zA d];exact h
theorem Cx {c:aN}{l:List bC}{E:Int}(h:iT c (l.take l.length) (l.drop l.length)=E):E=0:=by
 rw[Ya]at h;exact h.symm
theorem oA {c:aN}{l:List bC}(h:c.right=true)(b:l.length<=32):mQ c l=iT c [] l:=by
 unfold mQ;rw[zh (by simp[h]),zh (by omega)]
theorem mw.fresh {w:World}{lo b:Nat}{c:aN}{W:World}(d:((w.alloc (.map #[] 0)).alloc (.map #[] 0)).alloc (.cells (rgC c b (b+1) (tH c) (qA c)) 125)=W)(h:w.heap.size=b)(i:lo<=b):mw W lo W.heap.size (b+1+1) b (b+1) c []:=by
 subst h;have hz:W.heap.size=w.heap.size+3:=by rw[<-d];simp
 exact{
  blk:=by rw[<-d];exact af.at_ (by simp)
  nm:=by
   have e:jw (w.alloc (.map #[] 0)) w.heap.size []:=jw.new w;rw[<-d];exact(yi _ _ (by simp;omega)).trans ((yi _ _ (by simp)).trans e)
  ix:=by
   have e:jw ((w.alloc (.map #[] 0)).alloc (.map #[] 0)) (w.alloc (.map #[] 0)).heap.size []:=jw.new _;simp only[zp]at e;rw[<-d];exact(yi _ _ (by simp)).trans e
  n1:=i
  n2:=by omega
  i1:=by omega
  i2:=by omega
  ne:=by omega
  g2:=by omega
  his:=zd _
  rows:=by simp
  ok:=cT.nil c
  sz:=by simp}
theorem Uo (c:aN)(l:List bC)(v:Value)(B:Nat)(w:World)(F:po w B v l)(hB:B<=w.heap.size)(X:Laid w)(hs:∀e∈l,oV e):
 Calls prog 48 #[c.val,v] w fun e w'=>acE w c l e w':=by
 obtain⟨A,n,cap,rfl,z,UJ,mR⟩:=F.bT;have D:=za (jB c (w.alloc (.cells #[.int .i64 c.fm,.int .u32 c.mg,.int .i64 c.fr,.int .i64 c.un,.int .i64 c.de,.int .i64 c.it] 24)));have jb:=(zl w.heap.size w).alloc (zd _) (.cells #[.int .i64 c.fm,.int .u32 c.mg,.int .i64 c.fr,.int .i64 c.un,.int .i64 c.de,.int .i64 c.it] 24);have Ek:=af.new w 24 #[.int .i64 c.fm,.int .u32 c.mg,.int .i64 c.fr,.int .i64 c.un,.int .i64 c.de,.int .i64 c.it];have HV:=za F;have HS:=za hs;have hp:=X.pos;have HL:=za X;unfold aN.val at*;obtain⟨Y,L⟩:∃Y,c.right=Y:=⟨_,rfl⟩
 rw[L]at D;have M:=za L;clear F hs X L;go_enter func48,ntmps48
 go_wp2_with fail
 refine D.out.mono ?_;rintro e b ⟨rfl,O⟩;have R:=za (jb.trans (O.mono (by simp)));have K:=Ek.ag O (by simp);have pM:w.heap.size<b.heap.size:=K.lt;obtain⟨c0,c1,c2,c3,c4,c5⟩:=fh K;clear jb O Ek D K;cases Y with
 |false=>
  go_wp2;go_ret2
  have d:mQ c l=1:=by unfold mQ;rw[zi M.out]
  exact⟨R.out,.inr ⟨by rw[d];decide,by rw[d];rfl⟩⟩
 |true=>
  by_cases ah:32<n
  ·have hi:(32:Int)<(n:Int):=by omega
   go_wp2;go_ret2
   have d:mQ c l=4:=by unfold mQ;rw[zh (by simp[M.out]),zi (by rw[<-z.out];exact ah)]
   exact⟨R.out,.inr ⟨by rw[d];decide,by rw[d];rfl⟩⟩
  have hi:¬(32:Int)<(n:Int):=by omega
  have Ro:= @run_makeMap prog;have ry:w.heap.size<b.heap.size+1:=by omega
  have LF:w.heap.size<b.heap.size+1+1:=by omega
  have ad:w.heap.size<b.heap.size+1+1+1:=by omega
  have ae:l.length<=32:=by rw[<-z.out];omega
  have Hj:=za (oA M.out ae);by_cases m:c.fm=1;focus
   have k1:((c.fm:Int)==1)=true:=yN.2 m;have S:tH c= .func (.func 88) #[.agg #[.int .i64 c.de,.int .i64 c.it]] #[]:=by unfold tH A8;rw[zi m]
   have I:qA c= .func (.func 89) #[.agg #[.int .i64 c.de,.int .i64 c.it]] #[]:=by unfold qA A8;rw[zi m]
   clear m
  rotate_left
  focus
   have k1:((c.fm:Int)==1)=false:=zm.2 m;have S:tH c= .func (.func 86) #[.agg #[.int .i64 c.de,.int .i64 c.it]] #[]:=by unfold tH A8;rw[zh m]
   have I:qA c= .func (.func 87) #[.agg #[.int .i64 c.de,.int .i64 c.it]] #[]:=by unfold qA A8;rw[zh m]
   clear m
  all_goals
   obtain⟨r,u⟩:∃r,(((b.alloc (.cells #[.int .i64 c.de,.int .i64 c.it] 145)).alloc (.map #[] 0)).alloc (.map #[] 0)).alloc (.cells #[.int .i64 c.fm,.int .u32 c.mg,.int .i64 c.fr,.int .i64 c.un,.int .i64 c.de,.int .i64 c.it,.map (some (b.heap.size+1)),.map (some (b.heap.size+1+1)),tH c,qA c] 125)=r:=⟨_,rfl⟩
   have Z:mw r w.heap.size r.heap.size (b.heap.size+1+1+1) (b.heap.size+1) (b.heap.size+1+1) c []:=mw.fresh (w:=b.alloc (.cells #[.int .i64 c.de,.int .i64 c.it] 145)) (by unfold rgC;exact u) (by simp) (by omega);have bR:Below w.heap.size w r:=by rw[<-u];exact((((R.out.alloc (by omega) _).alloc (by simp;omega) _).alloc (by simp;omega) _).alloc (by simp;omega) _)
   have Tg:=za Z;have ei:=za bR;rw[S,I]at u;have Bw:=za u;clear u Z bR S I;go_wp2_with fail
   rw[Bw.out];clear c0 c1 c2 c3 c4 c5 k1 Ro ry LF ad;go_loopw [45] (fun i wr=>∃(k:Nat) (rows:List bZ),k<=n/\i= .int .i64 k/\Hid (mw wr w.heap.size wr.heap.size (b.heap.size+1+1+1) (b.heap.size+1) (b.heap.size+1+1) c rows)/\Hid (aI rows=l.take k)/\Hid (iT c (l.take k) (l.drop k)=iT c [] l)/\Hid (Below w.heap.size w wr)) (fun i _=>n-(intOf i).toNat)
   case atStart=>exact⟨0,[],by omega,by go_num,Tg,za rfl,za (by simp),ei⟩
   case round=>
    obtain⟨k,rows,hk,rfl,HM,H,HT,s⟩:=hrel;clear Tg ei;by_cases ai:k<n
    ·skip
     have p:k<l.length:=by have:=z.out;omega
     obtain⟨ge,o,hA,ke,e0,e1,e2⟩:=(HV.out.below (s.out.mono hB)).at_ (j:=k) p;subst hA;obtain⟨fJ,SR⟩:=wI HT.out p;have G:=HS.out _ (zN p);obtain⟨h,J⟩:∃h,l[k]=h:=⟨_,rfl⟩
     rw[J]at e0 e1 e2 fJ SR G;have Bo:l.take (k+1)=l.take k++ [h]:=by rw[Z3,zA p,J];rfl
     have kd:=s.out.size;obtain⟨x,W⟩:∃x,wr.alloc (.cells #[.int .u64 h.id,.string h.name,.string h.ty] 48)=x:=⟨_,rfl⟩
     have y:Below wr.heap.size wr x:=by rw[<-W];exact(zl _ wr).alloc (zd _) _
     have HA:=za (Un w.heap.size wr.heap.size _ _ _ c rows h x (HM.out.below y) (HL.out.below (s.out.trans (y.mono kd)) hp) hp G);have fT:=za (s.out.trans (y.mono kd));have rB:=za W;have UH:=za Bo;clear W y J G Bo;go_wp2_with fail
     rw[rB.out];refine HA.out.mono ?_;rintro e E ⟨rfl,ho,U⟩;rw[H.out]at U⊢;have HO:=za (fT.out.trans (ho.below fT.out.size (by simp;omega)));have ag:=za U;generalize fP c (l.take k) h=EE at*;clear ho U HA e0 e1 e2;rcases eT EE with⟨C,z1,z2⟩|⟨C,z1,z2⟩
     ·subst C;obtain⟨vv,ab⟩:=ag.out rfl;have HN:=za ab;have N:=za (SR rfl);clear ab fJ SR;go_wp2;go_roundw
      case rel=>
       have key:∃(q:Nat) (rows:List bZ),q<=n/\Value.int .i64 ((k:Int)+1)= .int .i64 q/\Hid (mw E w.heap.size E.heap.size (b.heap.size+1+1+1) (b.heap.size+1) (b.heap.size+1+1) c rows)/\Hid (aI rows=l.take q)/\Hid (iT c (l.take q) (l.drop q)=iT c [] l)/\Hid (Below w.heap.size w E):=⟨k+1,rows++ [(h,vv)],by omega,by go_num,HN,za (by rw[UH.out,<-H.out];simp[aI]),N,HO⟩
       first|exact key|((repeat apply Exists.intro);exact⟨key,rfl⟩)
      case measure=>simp[intOf];omega
     have N:=za (fJ C);clear fJ SR;go_wp2;go_ret2
     have d:mQ c l=EE:=by rw[Hj.out];exact N.out
     exact⟨HO.out,.inr ⟨by rw[d];exact C,by rw[d];rfl⟩⟩
    skip
    have p:k=l.length:=by have:=z.out;omega
    have d:mQ c l=0:=by
     rw[Hj.out];have h1:=HT.out;rw[p]at h1;exact Cx h1
    have aa:aI rows=l:=by rw[H.out,p];simp
    have HF:=za d;have HG:=za aa;clear p d aa;go_wp2;go_ret2
    exact⟨s.out,.inl ⟨HF.out,_,_,_,rows,rfl,HM.out,HG.out⟩⟩
theorem Jp {l:List UInt8}{t:Ty}(h:cP l=some t):t.may=true:=by
 unfold cP at h;split at h
 ·rename_i x hx
  cases hm:x.may with
  |true=>rw[hm,zi rfl]at h;injection h with h;rw[<-h];exact hm
  |false=>rw[hm]at h;cases h
 cases h
theorem NI {t:Ty}(h:t.may=true):t.count<=64:=by
 simp only[Ty.may,zx,zY]at h;omega
theorem Gj {l:List bC}{p:bC->Bool}{k:Nat}(h:∀j (b:j<l.length),j<k->p l[j]=false):(l.take k).any p=false:=by
 rw[Z5];intro e c;obtain⟨j,b,rfl⟩:=yW c;rw[zU]at b;rw[List.getElem_take];rw[h j (by omega) (by omega)];simp
theorem QN {l:List bC}{p:bC->Bool}{k j:Nat}(c:k<=l.length)(b:j<k)(h:p (l[j]'(by omega))=true):(l.take k).any p=true:=
 ZD.2 ⟨l[j]'(by omega),by rw[List.mem_take_iff_getElem];exact⟨j,by omega,rfl⟩,h⟩
theorem Jq (c:aN)(l:List bC)(v:Value)(B:Nat)(w:World)(hv:po w B v l)(I:B<=w.heap.size)(hs:∀e∈l,oV e):
 Calls prog 30 #[c.val,v] w fun e w'=>e= .returned (.int .i64 (mQ c l))/\Below w.heap.size w w':=by
 obtain⟨A,n,cap,rfl,hn,UJ,mR⟩:=hv.bT;have HR:=za (DE c (w.alloc (.cells #[.int .i64 c.fm,.int .u32 c.mg,.int .i64 c.fr,.int .i64 c.un,.int .i64 c.de,.int .i64 c.it] 24)));have jb:=(zl w.heap.size w).alloc (zd _) (.cells #[.int .i64 c.fm,.int .u32 c.mg,.int .i64 c.fr,.int .i64 c.un,.int .i64 c.de,.int .i64 c.it] 24);have Ek:=af.new w 24 #[.int .i64 c.fm,.int .u32 c.mg,.int .i64 c.fr,.int .i64 c.un,.int .i64 c.de,.int .i64 c.it];have K:=za hv;have HS:=za hs;unfold aN.val at*;obtain⟨rt,Ar⟩:∃rt,c.right=rt:=⟨_,rfl⟩
 rw[Ar]at HR;have D7:=za Ar;clear hv hs Ar;go_enter func30,ntmps30
 go_wp2_with fail
 refine HR.out.mono ?_;rintro e w1 ⟨rfl,aH⟩;have ch:=za (jb.trans (aH.mono (by simp)));have ai:=za (Ek.ag aH (by simp));clear jb aH Ek HR;cases rt with
 |false=>
  go_wp2;go_ret;have d:mQ c l=1:=by unfold mQ;rw[zi D7.out]
  exact⟨by rw[d];rfl,ch.out⟩
 |true=>
  by_cases av:32<n
  ·have hi:(32:Int)<(n:Int):=by omega
   go_wp2;go_ret;have d:mQ c l=4:=by unfold mQ;rw[zh (by simp[D7.out]),zi (by rw[<-hn.out];exact av)]
   exact⟨by rw[d];rfl,ch.out⟩
  have hi:¬(32:Int)<(n:Int):=by omega
  have aj:l.length<=32:=by rw[<-hn.out];omega
  have J:=za (oA D7.out aj);clear aj D7;go_wp2_with fail
  go_loopw [5] (fun i wr=>∃k:Nat,i= .int .i64 k/\k<=n/\Hid (iT c (l.take k) (l.drop k)=iT c [] l)/\Hid (Below w.heap.size w wr)/\Hid (af wr w.heap.size 24 #[.int .i64 c.fm,.int .u32 c.mg,.int .i64 c.fr,.int .i64 c.un,.int .i64 c.de,.int .i64 c.it])) (fun i _=>n-(intOf i).toNat)
  case atStart=>exact⟨0,rfl,by omega,za (by simp),ch,ai⟩
  case round=>
   obtain⟨k,rfl,hk,HT,X,HC⟩:=hrel;clear ch ai;by_cases aB:k<n
   ·have s:k<l.length:=by have:=hn.out;omega
    obtain⟨ge,o,hA,ke,e0,e1,e2⟩:=(K.out.below (X.out.mono I)).at_ (j:=k) s;subst hA;obtain⟨fJ,SR⟩:=wI HT.out s;have Z:=HS.out _ (zN s);obtain⟨b,nY⟩:∃b,l[k]=b:=⟨_,rfl⟩
    rw[nY]at e0 e1 e2 fJ SR Z;have ax:=Z.name;have aw:=Z.ty;have mW:=za nY;have W:=za fJ;have al:=za SR;have r:Hid (fP c (l.take k) b=if b8 b.name=false then 11 else if((l.take k).any fun x=>decide (x.name=b.name))=true then 11 else if((l.take k).any fun x=>decide (x.id=b.id))=true then 1 else if cP b.ty.data.toList=none then 3 else if c.fm=1/\b.shape.flat=false then 12 else 0):=za rfl;have ah:=za (fun V=>MQ b.name V (by omega));clear nY fJ SR Z;generalize wr=w2 at*;go_wp2_with fail
    refine(ah.out _).mono ?_;rintro e w' ⟨rfl,rfl⟩;cases hmy:b8 b.name with
    |false=>
     have d:mQ c l=11:=by
      have q:fP c (l.take k) b=11:=by rw[r.out,zi hmy]
      rw[J.out,W.out (by rw[q];decide),q]
     go_wp2;go_ret;exact⟨by rw[d];rfl,X.out⟩
    |true=>
     rw[zh (by simp[hmy])]at r;clear ah hmy;go_wp2_with fail
     go_loopw [6] (fun i wr=>∃m:Nat,i= .int .i64 m/\m<=k/\Hid (∀j (u:j<l.length),j<m->decide (l[j].name=b.name)=false)/\Hid (Below w2.heap.size w2 wr)) (fun i _=>k-(intOf i).toNat)
     case atStart=>exact⟨0,rfl,by omega,za (by omega),za (zl _ _)⟩
     case round=>
      obtain⟨m,rfl,hm,G,jJ⟩:=hrel;have H:=za (X.out.trans (jJ.out.mono X.out.size));generalize wr=w3 at*;by_cases au:m<k
      ·have ar:m<n:=by omega
       have VR:m<l.length:=by omega
       obtain⟨g',o',p,GM,d0,d1,d2⟩:=(K.out.below (H.out.mono I)).at_ (j:=m) VR;injection p with p;injection p with hA1 hA2;subst hA1 hA2;obtain⟨g',o',p,_,f0,f1,f2⟩:=(K.out.below (H.out.mono I)).at_ (j:=k) s;injection p with p;injection p with hA1 hA2;subst hA1 hA2;rw[mW.out]at f0 f1 f2;obtain⟨C,F⟩:∃C,l[m]=C:=⟨_,rfl⟩
       rw[F]at d0 d1 d2;have Y:=za F;clear F;clear d0 d2 e0 e2 f0 f2;rcases pZ C.name b.name with⟨y,q1,q2⟩|⟨y,q1,q2⟩
       ·have d:mQ c l=11:=by
         have q:fP c (l.take k) b=11:=by rw[r.out,zi (QN (Yh s) au (by rw[Y.out];exact zE y))]
         rw[J.out,W.out (by rw[q];decide),q]
        have z:=za d;clear d y;go_wp2_with fail
        go_quiet (fail)
        go_wp2;go_ret;exact⟨by rw[z.out];rfl,Below.bG H.out _⟩
       have Oc:Hid (∀j (u:j<l.length),j<m+1->decide (l[j].name=b.name)=false):=za (fun j u an=>by
        by_cases h:j=m
        ·subst h;rw[Y.out];exact zu y
        exact G.out j u (by omega))
       clear y;go_wp2_with fail
       go_quiet (fail)
       go_wp2;go_roundw
       case rel=>exact⟨m+1,by go_num,by omega,Oc,za (Below.bG jJ.out _)⟩
       case measure=>simp[intOf];omega
      skip
      have N:Hid (((l.take k).any fun x=>decide (x.name=b.name))=false):=za (Gj (fun j u SV=>G.out j u (by omega)));rw[N.out,zh (by simp)]at r;clear N G;go_wp2_with fail
      go_loopw [7] (fun i wr=>∃m:Nat,i= .int .i64 m/\m<=k/\Hid (∀j (u:j<l.length),j<m->decide (l[j].id=b.id)=false)/\Hid (Below w3.heap.size w3 wr)) (fun i _=>k-(intOf i).toNat)
      case atStart=>exact⟨0,rfl,by omega,za (by omega),za (zl _ _)⟩
      case round=>
       obtain⟨R,rfl,ay,G,fT⟩:=hrel;have D:=za (H.out.trans (fT.out.mono H.out.size));generalize wr=w4 at*;by_cases ao:R<k
       ·have ar:R<n:=by omega
        have VR:R<l.length:=by omega
        obtain⟨m,Ro⟩:∃m,m=R:=⟨R,rfl⟩
        subst Ro;obtain⟨g',o',p,GM,d0,d1,d2⟩:=(K.out.below (D.out.mono I)).at_ (j:=m) VR;injection p with p;injection p with hA1 hA2;subst hA1 hA2;obtain⟨g',o',p,_,f0,f1,f2⟩:=(K.out.below (D.out.mono I)).at_ (j:=k) s;injection p with p;injection p with hA1 hA2;subst hA1 hA2;rw[mW.out]at f0 f1 f2;obtain⟨C,F⟩:∃C,l[m]=C:=⟨_,rfl⟩
        rw[F]at d0 d1 d2;have Y:=za F;clear F;clear d1 d2 e1 e2 f1 f2;by_cases y:C.id=b.id
        ·have q1:((C.id:Int)==(b.id:Int))=true:=yN.2 (by omega);have d:mQ c l=1:=by
          have q:fP c (l.take k) b=1:=by rw[r.out,zi (QN (Yh s) ao (by rw[Y.out];exact zE y))]
          rw[J.out,W.out (by rw[q];decide),q]
         have z:=za d;clear d y;go_wp2_with fail
         go_quiet (fail)
         go_wp2;go_ret;exact⟨by rw[z.out];rfl,Below.bG D.out _⟩
        have q1:((C.id:Int)==(b.id:Int))=false:=zm.2 (by omega);have Oc:Hid (∀j (u:j<l.length),j<m+1->decide (l[j].id=b.id)=false):=za (fun j u an=>by
         by_cases h:j=m
         ·subst h;rw[Y.out];exact zu y
         exact G.out j u (by omega))
        clear y;go_wp2_with fail
        go_quiet (fail)
        go_wp2;go_roundw
        case rel=>exact⟨m+1,by go_num,by omega,Oc,za (Below.bG fT.out _)⟩
        case measure=>simp[intOf];omega
       have N:Hid (((l.take k).any fun x=>decide (x.id=b.id))=false):=za (Gj (fun j u SV=>G.out j u (by omega)));rw[N.out,zh (by simp)]at r;clear N G;obtain⟨g',o',p,_,f0,f1,f2⟩:=(K.out.below (D.out.mono I)).at_ (j:=k) s;injection p with p;injection p with hA1 hA2;subst hA1 hA2;rw[mW.out]at f0 f1 f2;have aA:=H.out.size;have ak:=za ((HC.out.ag jJ.out HC.out.lt).ag fT.out (by have:=HC.out.lt;have:=jJ.out.size;omega));have HG:=za (Jo b.ty w4 (by omega));obtain⟨T,hT⟩:∃T,cP b.ty.data.toList=T:=⟨_,rfl⟩
       rw[hT]at HG r;have ag:=za hT;clear e0 e1 e2 f0 f1 hT;go_wp2_with fail
       refine HG.out.mono ?_;rintro e U dY;cases T with
       |none=>
        obtain⟨L,rfl⟩:=dY;have d:mQ c l=3:=by
         have q:fP c (l.take k) b=3:=by rw[r.out,zi rfl]
         rw[J.out,W.out (by rw[q];decide),q]
        have z:=za d;have O:=za (D.out.trans (L.mono D.out.size));clear d L;go_wp2;go_ret;exact⟨by rw[z.out];rfl,O.out.alloc O.out.size _⟩
       |some t=>
        obtain⟨L,d0,d1,d2,d3,rfl,oG⟩:=dY;have tR:b.shape=t:=by unfold bC.shape;rw[ag.out];rfl
        rw[zh (by simp),tR]at r;obtain⟨A5,ef,rfl,rfl,rfl,rfl,_⟩:=oG.open_;have ab:=ak.out.ag L ak.out.lt;have az:w.heap.size<U.heap.size:=ab.lt;have O:=za (D.out.trans (L.mono D.out.size));have S:Hid (Below w.heap.size w (U.alloc (.cells #[.int .i64 t.kind,.int .i64 t.size,.slice A5 t.sub.length ef,.int .i64 t.tail] 43))):=za (O.out.alloc O.out.size _);have ad:=za (ab.alloc (.cells #[.int .i64 t.kind,.int .i64 t.size,.slice A5 t.sub.length ef,.int .i64 t.tail] 43));have aa:=za (Np t _ (U.alloc (.cells #[.int .i64 t.kind,.int .i64 t.size,.slice A5 t.sub.length ef,.int .i64 t.tail] 43)) _ _ _ _ ((oG.below ((zl _ U).alloc (zd _) _)).AZ) (zd _) (by have:=NI (Jp ag.out);omega));have c0:U.cell? ⟨w.heap.size,0,none⟩=some (.int .i64 c.fm):=ab.cell 0;clear L oG ab tR f2;by_cases E:c.fm=1
        ·have k1:((c.fm:Int)==1)=true:=yN.2 E;cases mD:t.flat with
         |false=>
          have d:mQ c l=12:=by
           have q:fP c (l.take k) b=12:=by rw[r.out,zi ⟨E,mD⟩]
           rw[J.out,W.out (by rw[q];decide),q]
          rw[mD]at aa;have z:=za d;clear d E mD;go_wp2_with fail
          refine aa.out.mono ?_;rintro e w6 ⟨rfl,M⟩;have ae:=za (S.out.trans (M.mono S.out.size));clear M;go_wp2;go_ret;exact⟨by rw[z.out];rfl,ae.out⟩
         |true=>
          have uF:=za (al.out (by rw[r.out,zh (by simp[mD])]));rw[mD]at aa;clear E mD;go_wp2_with fail
          refine aa.out.mono ?_;rintro e w6 ⟨rfl,M⟩;have ae:=za (S.out.trans (M.mono S.out.size));have aq:=za (ad.out.ag M ad.out.lt);clear M;go_wp2;go_roundw
          case rel=>exact⟨k+1,by go_num,by omega,uF,ae,aq⟩
          case measure=>simp[intOf];omega
        have k1:((c.fm:Int)==1)=false:=zm.2 E;have uF:=za (al.out (by rw[r.out,zh (by simp[E])]));clear E;go_wp2;go_roundw
        case rel=>exact⟨k+1,by go_num,by omega,uF,S,ad⟩
        case measure=>simp[intOf];omega
   have s:k=l.length:=by have:=hn.out;omega
   have d:mQ c l=0:=by
    rw[J.out];have q:=HT.out;rw[s]at q;exact Cx q
   have z:=za d;clear s d;go_wp2;go_ret;exact⟨by rw[z.out];rfl,X.out⟩
