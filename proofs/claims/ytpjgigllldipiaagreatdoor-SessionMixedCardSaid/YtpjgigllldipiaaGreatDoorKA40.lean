/- package registry: Encode. -/
import Derived.Test.YtpjgigllldipiaaGreatDoorKA24
import Derived.Test.YtpjgigllldipiaaGreatDoorKA39
import Derived.Test.YtpjgigllldipiaaGreatDoorKA43
import Derived.Test.YtpjgigllldipiaaGreatDoorKA46
import Derived.Test.YtpjgigllldipiaaGreatDoorKA47
set_option linter.all false
set_option maxRecDepth 100000
set_option maxHeartbeats 3200000
open Go.Proofs.Tryz
namespace Go.Proofs.YtpjgigllldipiaaGreatDoor
open Go.RowKit
def yp:=@heap_alloc_old
def Z1:=@results27
def abr (w:World)(S:Nat->Prop)(o:Option bA)(a0:Nat)(a1 a2:ByteArray)(a3 a4:Int)(A:Option Addr)(n cap:Nat)(a6:Int)(b:Bool):Prop:=
 (o=none/\b=false/\a0=0/\a1=⟨#[]⟩/\a2=⟨#[]⟩)\/∃e,o=some e/\b=true/\a0=e.id/\a1=e.name/\a2=e.ty/\fh w S e.shape (.int .i64 a3) (.int .i64 a4) (.slice A n cap) (.int .i64 a6)/\pN e/\cI e.ty.data.toList=some e.shape
theorem Ko {w:World}{E hi g D y:Nat}{c:aR}{l:List bV}(h:lO w E hi g D y c l){o:Option bA}{a0:Nat}{p s:ByteArray}{a3 a4:Int}{A:Option Addr}{n cap:Nat}{q:Int}{b:Bool}(i:Pc l o a0 p s a3 a4 A n cap q b):abr w (fun k=>g<k/\k<hi) o a0 p s a3 a4 A n cap q b:=by
 rcases i with⟨m,j,d⟩|⟨r,i,m,j,d⟩
 ·simp[CH]at d;exact .inl ⟨m,j,by omega,d.2.1,d.2.2.1⟩
 obtain⟨J,H,K,L,e,C⟩:=h.rows r i;rw[e]at d;simp at d;obtain⟨I,F,z,G,B,x,u⟩:=d;subst G B x u;exact .inr ⟨r.1,m,j,by omega,F,z,C,h.sz r i,h.ok.ty r.1 (xL.2 ⟨r,i,rfl⟩)⟩
theorem Tq (lo hi g k gi:Nat)(c:aR)(l:List bV)(nm:ByteArray)(x:It)(B:Nat)(w:World)(c0 c1 c2:Value)(h:lO w lo hi g k gi c l)(hI:bZ w B x c0 c1 c2)(hB:B<=w.heap.size)(hL:Laid w)(iM:bj w)(hl:c.fm≠1->x.fA.length<=1099511627776):
 Calls prog 27 #[.pointer (some ⟨g,0,none⟩),.agg #[.string nm,c0,c1,c2]] w fun e w'=>e= .returned (.tuple #[(bD c (aJ l) nm x).1.val,.int .i64 (bD c (aJ l) nm x).2])/\Below w.heap.size w w':=by
 have wJ:g<w.heap.size:=yg h.g2 h.his;have ai:k<w.heap.size:=h.nm.lt;obtain⟨D,y,rfl,rfl,rfl,_⟩:=hI.open_;obtain⟨W,I⟩:∃W,(w.alloc (.cells #[.string nm,.string x.text,.bool x.list,.slice D x.sub.length y] 30)).alloc (.cells #[.int .u64 0,.string ⟨#[]⟩,.string ⟨#[]⟩] 74)=W:=⟨_,rfl⟩
 have H:Below w.heap.size w W:=by rw[<-I];exact((zq _ w).alloc (zf _) _).alloc (by simp) _
 have Vr:W.heap.size=w.heap.size+2:=by rw[<-I];simp
 have B3:af W w.heap.size 30 #[.string nm,.string x.text,.bool x.list,.slice D x.sub.length y]:=by rw[<-I];exact(af.new w _ _).alloc _
 have pf:af W (w.heap.size+1) 74 #[.int .u64 0,.string ⟨#[]⟩,.string ⟨#[]⟩]:=by rw[<-I];exact af.at_ (by simp)
 obtain⟨a0,J,a2,a3,a4,A,n,cap,m,b,qq,nI⟩:=CP h nm;have B0:=za (Ko h qq);have rG:=za nI;have BZ:=za (h.below (H.mono h.his));have HS:Hid (∀V:World,V.heap[g]?=W.heap[g]?/\V.heap[k]?=W.heap[k]?/\V.heap[w.heap.size]?=W.heap[w.heap.size]?->V.cell? ⟨g,6,none⟩=some (.map (some k))/\V.cell? ⟨w.heap.size,0,none⟩=some (.string nm)/\iV V k (wV l)):=za (fun V d=>⟨af.cell (show af V g _ _ from d.1.trans BZ.out.blk) 6,af.cell (show af V w.heap.size _ _ from d.2.2.trans B3) 0,BZ.out.nm.ah d.2.1⟩);have ad:=za (hI.below (H.mono hB));have lZ:=za B3;have cq:=za pf;have fE:=za H;have HW:=za I;have GC:=za (hL.below H hL.pos);have Rl:=za (iM.below H iM.pos);have mf:Hid (bD c (aJ l) nm x=match fp (aJ l) nm with
  |none=>(nM,11)
  |some e=>if(bQ c e.shape x).2≠0 then(nM,(bQ c e.shape x).2)else if c.fm=1 then(⟨0,e.name,(bQ c e.shape x).1⟩,0)else(⟨e.id,ByteArray.empty,(bQ c e.shape x).1⟩,0)):=za rfl
 generalize bD c (aJ l) nm x=ae at*;generalize fp (aJ l) nm=ah at*;clear h hI hL iM I H B3 pf qq nI;go_enter func27,ntmps27
 go_wp2_with fail
 rw[HW.out];refine aA 12 (fun V=>V.cell? ⟨g,6,none⟩=some (.map (some k))/\V.cell? ⟨w.heap.size,0,none⟩=some (.string nm)/\iV V k (wV l)) (by kernel_rfl) (by kernel_rfl) ?_;have hHeld:=HS.out W.drew ⟨rfl,rfl,rfl⟩;refine GT.jy [0,1,2,3,4,5,6,7,8,9] hHeld (fun _ _ _ _ _ h=>h) (by kernel_rfl) ?_;iterate 6 (refine .c rfl rfl (fun V d=>by go_simp<;>with_reducible rfl) ?_;simp only[Act.put,zb,ze,zg])
 refine .c (v:= .tuple #[.agg #[.int .u64 a0,.string J,.string a2,.int .i64 a3,.int .i64 a4,.slice A n cap,.int .i64 m],.bool b]) rfl rfl (fun V d=>by have hl:=rG.out V d.2.2;go_simp) ?_;try simp only[Act.put,zb,ze,zg];iterate 3 (refine .c rfl rfl (fun V d=>by go_simp<;>with_reducible rfl) ?_;simp only[Act.put,zb,ze,zg])
 refine .nil ?_;refine GT.fw 10 (fun K o=> ?_) rfl (by kernel_rfl);go_simp;have iJ:(W.alloc (.cells #[.int .u64 0,.string ⟨#[]⟩,.string ⟨#[]⟩,.int .i64 0,.int .i64 0,.slice none 0 0,.int .i64 0] 98)).drew.heap[g]?=W.heap[g]?/\(W.alloc (.cells #[.int .u64 0,.string ⟨#[]⟩,.string ⟨#[]⟩,.int .i64 0,.int .i64 0,.slice none 0 0,.int .i64 0] 98)).drew.heap[k]?=W.heap[k]?/\(W.alloc (.cells #[.int .u64 0,.string ⟨#[]⟩,.string ⟨#[]⟩,.int .i64 0,.int .i64 0,.slice none 0 0,.int .i64 0] 98)).drew.heap[w.heap.size]?=W.heap[w.heap.size]?:=⟨yp _ _ (by omega),yp _ _ (by omega),yp _ _ (by omega)⟩
 refine o.out _ _ (HS.out _ iJ) (fun hHeld=> ?_);clear o K;try simp only[Act.put,zb,ze,zg]
 refine GT.fw 11 (fun K o=> ?_) rfl (by kernel_rfl);go_simp;have eG:(W.alloc (.cells #[.int .u64 a0,.string J,.string a2,.int .i64 a3,.int .i64 a4,.slice A n cap,.int .i64 m] 98)).drew.heap[g]?=W.heap[g]?/\(W.alloc (.cells #[.int .u64 a0,.string J,.string a2,.int .i64 a3,.int .i64 a4,.slice A n cap,.int .i64 m] 98)).drew.heap[k]?=W.heap[k]?/\(W.alloc (.cells #[.int .u64 a0,.string J,.string a2,.int .i64 a3,.int .i64 a4,.slice A n cap,.int .i64 m] 98)).drew.heap[w.heap.size]?=W.heap[w.heap.size]?:=⟨yp _ _ (by omega),yp _ _ (by omega),yp _ _ (by omega)⟩
 refine o.out _ _ (HS.out _ eG) (fun hHeld=> ?_);clear o K;try simp only[Act.put,zb,ze,zg]
 refine GT.oL 12 ?_ rfl (by kernel_rfl);go_simp;obtain⟨i,Z⟩:∃i,(W.alloc (.cells #[.int .u64 a0,.string J,.string a2,.int .i64 a3,.int .i64 a4,.slice A n cap,.int .i64 m] 98)).drew=i:=⟨_,rfl⟩
 have z:Below W.heap.size W i:=by rw[<-Z];exact((zq _ W).alloc (zf _) _).drew
 have F8:af i (w.heap.size+2) 98 #[.int .u64 a0,.string J,.string a2,.int .i64 a3,.int .i64 a4,.slice A n cap,.int .i64 m]:=by rw[<-Z];exact af.drew (af.at_ Vr)
 have C:=za (BZ.out.below (z.mono BZ.out.his));have T7:=za (lZ.out.ah z (by omega));have Nt:=za (cq.out.ah z (by omega));have N:=za F8;have wI:=za (fE.out.trans (z.mono (by omega)));have qx:=za (ad.out.below (z.mono (by omega)));have Jp:=za (GC.out.below z GC.out.pos);have Rm:=za (Rl.out.below z Rl.out.pos);have cG:w.heap.size+2<i.heap.size:=F8.lt;rw[Z];clear iJ eG Z z F8 rG HS hHeld;rcases B0.out with⟨rfl,rfl,rfl,rfl,rfl⟩|⟨e,rfl,rfl,rfl,rfl,rfl,nK,ag,Dq⟩
 ·obtain⟨q0,q1,q2,Vi,ab,aa⟩:=a8 Nt.out;go_wp2;obtain⟨s,r,u⟩:=fe Nt.out (.int .u64 0) (.string ⟨#[]⟩) (.string ⟨#[]⟩);refine zo (v:= .tuple #[.agg #[.int .u64 0,.string ⟨#[]⟩,.string ⟨#[]⟩],.int .i64 11]) (by simp[results,Z1,go_sem,s,r,u]) rfl ?_;rw[mf.out];exact⟨rfl,((wI.out.setCell (by simp) _).setCell (by simp) _).setCell (by simp) _⟩
 have Jg:=za ((nK.below wI.out).wY);obtain⟨u0,u1,u2,u3,u4,u5,u6⟩:=mL N.out;have q:Hid (ae=if(bQ c e.shape x).2≠0 then(nM,(bQ c e.shape x).2)else if c.fm=1 then(⟨0,e.name,(bQ c e.shape x).1⟩,0)else(⟨e.id,ByteArray.empty,(bQ c e.shape x).1⟩,0)):=mf;clear mf;clear nK;by_cases p:c.fm=1
 ·have Y:sZ c= .func (.func 41) #[.agg #[.int .i64 c.de,.int .i64 c.it]] #[]:=by unfold sZ x';rw[zl p]
  have YN:Hid (∀V,Below i.heap.size i V->Calls prog 41 #[.agg #[.int .i64 c.de,.int .i64 c.it],.agg #[.int .i64 a3,.int .i64 a4,.slice A n cap,.int .i64 m],.agg #[.string x.text,.bool x.list,.slice D x.sub.length y]] V fun S w'=>S= .returned (.tuple #[.string (bQ c e.shape x).1,.int .i64 (bQ c e.shape x).2])/\Below V.heap.size V w'):=za (fun V d=>by
   unfold bQ;rw[zl p];exact FF e.shape x c.de c.it i.heap.size V _ _ _ _ _ _ _ (Jg.out.below d) ((qx.out.below (d.mono (by omega))).mono (by omega)) d.size (Jp.out.below d Jp.out.pos) (Rm.out.below d Rm.out.pos))
  rw[zl p]at q;have XP:((c.fm:Int)==1)=true:=xd.2 p;have L:Hid (∀V,Below i.heap.size i V->V.cell? ⟨g,8,none⟩=some (.func (.func 41) #[.agg #[.int .i64 c.de,.int .i64 c.it]] #[])/\V.cell? ⟨w.heap.size+2,3,none⟩=some (.int .i64 a3)/\V.cell? ⟨w.heap.size+2,4,none⟩=some (.int .i64 a4)/\V.cell? ⟨w.heap.size+2,5,none⟩=some (.slice A n cap)/\V.cell? ⟨w.heap.size+2,6,none⟩=some (.int .i64 m)/\V.cell? ⟨w.heap.size,1,none⟩=some (.string x.text)/\V.cell? ⟨w.heap.size,2,none⟩=some (.bool x.list)/\V.cell? ⟨w.heap.size,3,none⟩=some (.slice D x.sub.length y)):=za (fun V d=>by
   obtain⟨_,_,_,y3,y4,y5,y6⟩:=mL (N.out.ah d (by omega));obtain⟨_,F,z2,z3,_⟩:=aO (T7.out.ah d (by omega));have U:=(C.out.below (d.mono C.out.his)).cells.2.2.2.1;rw[Y]at U;exact⟨U,y3,y4,y5,y6,F,z2,z3⟩)
  generalize (bQ c e.shape x).1=PS at*;generalize (bQ c e.shape x).2=PE at*;clear Y p;go_wp2_with fail
  refine aA 14 (fun V=>V.cell? ⟨g,8,none⟩=some (.func (.func 41) #[.agg #[.int .i64 c.de,.int .i64 c.it]] #[])/\V.cell? ⟨w.heap.size+2,3,none⟩=some (.int .i64 a3)/\V.cell? ⟨w.heap.size+2,4,none⟩=some (.int .i64 a4)/\V.cell? ⟨w.heap.size+2,5,none⟩=some (.slice A n cap)/\V.cell? ⟨w.heap.size+2,6,none⟩=some (.int .i64 m)/\V.cell? ⟨w.heap.size,1,none⟩=some (.string x.text)/\V.cell? ⟨w.heap.size,2,none⟩=some (.bool x.list)/\V.cell? ⟨w.heap.size,3,none⟩=some (.slice D x.sub.length y)) (by kernel_rfl) (by kernel_rfl) ?_;have hHeld:=L.out i.drew bN;refine GT.jy [0,1,2,3,4,5,6,7,8] hHeld (fun _ _ _ _ _ h=>h) (by kernel_rfl) ?_;repeat(refine .c rfl rfl (fun V d=>by go_simp<;>with_reducible rfl) ?_;simp only[Act.put,zb,ze,zg])
  refine .nil ?_;refine GT.fw 9 (fun K o=> ?_) rfl (by kernel_rfl);go_simp;refine(YN.out i.drew bN).mono ?_;rintro S w3 ⟨rfl,R⟩;go_wp2_with fail
  have j:Below i.heap.size i w3:=(show Below i.heap.size i i.drew from bN).trans R;refine o.out _ _ (L.out w3 j) (fun hHeld=> ?_);clear o K;try simp only[Act.put,zb,ze,zg]
  refine GT.jy [10,11,12,13] hHeld (fun _ _ _ _ _ h=>h) (by kernel_rfl) ?_;repeat(refine .c rfl rfl (fun V d=>by go_simp<;>with_reducible rfl) ?_;simp only[Act.put,zb,ze,zg])
  refine .nil ?_;refine GT.oL 14 ?_ rfl (by kernel_rfl);go_simp;have g0:=(C.out.below (j.mono C.out.his)).cells.1;have E:=Nt.out.ah j (by omega);have M:=N.out.ah j (by omega);have O:=za (wI.out.trans (j.mono (by omega)));have X:=za E;clear R j hHeld u0 u1 u2 u3 u4 u5 u6;obtain⟨q0,q1,q2,Vi,ab,aa⟩:=a8 E;obtain⟨u0,u1,u2,u3,u4,u5,u6⟩:=mL M;clear E M;rcases eF PE with⟨G,F,z2⟩|⟨G,F,z2⟩
  ·subst G;rw[zj (by simp)]at q;go_wp2;obtain⟨s,r,u⟩:=fe X.out (.int .u64 0) (.string e.name) (.string PS);refine zo (v:= .tuple #[.agg #[(.int .u64 0),(.string e.name),.string PS],.int .i64 0]) (by simp[results,Z1,go_sem,s,r,u]) rfl ?_;rw[q.out];exact⟨rfl,((O.out.setCell (by simp) _).setCell (by simp) _).setCell (by simp) _⟩
  rw[zl G]at q;go_wp2;obtain⟨s,r,u⟩:=fe X.out (.int .u64 0) (.string ⟨#[]⟩) (.string ⟨#[]⟩);refine zo (v:= .tuple #[.agg #[.int .u64 0,.string ⟨#[]⟩,.string ⟨#[]⟩],.int .i64 PE]) (by simp[results,Z1,go_sem,s,r,u]) rfl ?_;rw[q.out];exact⟨rfl,((O.out.setCell (by simp) _).setCell (by simp) _).setCell (by simp) _⟩
 have Y:sZ c= .func (.func 39) #[.agg #[.int .i64 c.de,.int .i64 c.it]] #[]:=by unfold sZ x';rw[zj p]
 have YN:Hid (∀V,Below i.heap.size i V->Calls prog 39 #[.agg #[.int .i64 c.de,.int .i64 c.it],.agg #[.int .i64 a3,.int .i64 a4,.slice A n cap,.int .i64 m],.agg #[.string x.text,.bool x.list,.slice D x.sub.length y]] V fun S w'=>S= .returned (.tuple #[.string (bQ c e.shape x).1,.int .i64 (bQ c e.shape x).2])/\Below V.heap.size V w'):=za (fun V d=>by
  unfold bQ;rw[zj p];exact MA e.shape x c.de c.it i.heap.size V _ _ _ _ _ _ _ (Jg.out.below d) ((qx.out.below (d.mono (by omega))).mono (by omega)) d.size (Jp.out.below d Jp.out.pos) (hl p))
 rw[zj p]at q;have XP:((c.fm:Int)==1)=false:=zr.2 p;have L:Hid (∀V,Below i.heap.size i V->V.cell? ⟨g,8,none⟩=some (.func (.func 39) #[.agg #[.int .i64 c.de,.int .i64 c.it]] #[])/\V.cell? ⟨w.heap.size+2,3,none⟩=some (.int .i64 a3)/\V.cell? ⟨w.heap.size+2,4,none⟩=some (.int .i64 a4)/\V.cell? ⟨w.heap.size+2,5,none⟩=some (.slice A n cap)/\V.cell? ⟨w.heap.size+2,6,none⟩=some (.int .i64 m)/\V.cell? ⟨w.heap.size,1,none⟩=some (.string x.text)/\V.cell? ⟨w.heap.size,2,none⟩=some (.bool x.list)/\V.cell? ⟨w.heap.size,3,none⟩=some (.slice D x.sub.length y)):=za (fun V d=>by
  obtain⟨_,_,_,y3,y4,y5,y6⟩:=mL (N.out.ah d (by omega));obtain⟨_,F,z2,z3,_⟩:=aO (T7.out.ah d (by omega));have U:=(C.out.below (d.mono C.out.his)).cells.2.2.2.1;rw[Y]at U;exact⟨U,y3,y4,y5,y6,F,z2,z3⟩)
 generalize (bQ c e.shape x).1=PS at*;generalize (bQ c e.shape x).2=PE at*;clear Y p;go_wp2_with fail
 refine aA 14 (fun V=>V.cell? ⟨g,8,none⟩=some (.func (.func 39) #[.agg #[.int .i64 c.de,.int .i64 c.it]] #[])/\V.cell? ⟨w.heap.size+2,3,none⟩=some (.int .i64 a3)/\V.cell? ⟨w.heap.size+2,4,none⟩=some (.int .i64 a4)/\V.cell? ⟨w.heap.size+2,5,none⟩=some (.slice A n cap)/\V.cell? ⟨w.heap.size+2,6,none⟩=some (.int .i64 m)/\V.cell? ⟨w.heap.size,1,none⟩=some (.string x.text)/\V.cell? ⟨w.heap.size,2,none⟩=some (.bool x.list)/\V.cell? ⟨w.heap.size,3,none⟩=some (.slice D x.sub.length y)) (by kernel_rfl) (by kernel_rfl) ?_;have hHeld:=L.out i.drew bN;refine GT.jy [0,1,2,3,4,5,6,7,8] hHeld (fun _ _ _ _ _ h=>h) (by kernel_rfl) ?_;repeat(refine .c rfl rfl (fun V d=>by go_simp<;>with_reducible rfl) ?_;simp only[Act.put,zb,ze,zg])
 refine .nil ?_;refine GT.fw 9 (fun K o=> ?_) rfl (by kernel_rfl);go_simp;refine(YN.out i.drew bN).mono ?_;rintro S w3 ⟨rfl,R⟩;go_wp2_with fail
 have j:Below i.heap.size i w3:=(show Below i.heap.size i i.drew from bN).trans R;refine o.out _ _ (L.out w3 j) (fun hHeld=> ?_);clear o K;try simp only[Act.put,zb,ze,zg]
 refine GT.jy [10,11,12,13] hHeld (fun _ _ _ _ _ h=>h) (by kernel_rfl) ?_;repeat(refine .c rfl rfl (fun V d=>by go_simp<;>with_reducible rfl) ?_;simp only[Act.put,zb,ze,zg])
 refine .nil ?_;refine GT.oL 14 ?_ rfl (by kernel_rfl);go_simp;have g0:=(C.out.below (j.mono C.out.his)).cells.1;have E:=Nt.out.ah j (by omega);have M:=N.out.ah j (by omega);have O:=za (wI.out.trans (j.mono (by omega)));have X:=za E;clear R j hHeld u0 u1 u2 u3 u4 u5 u6;obtain⟨q0,q1,q2,Vi,ab,aa⟩:=a8 E;obtain⟨u0,u1,u2,u3,u4,u5,u6⟩:=mL M;clear E M;rcases eF PE with⟨G,F,z2⟩|⟨G,F,z2⟩
 ·subst G;rw[zj (by simp)]at q;go_wp2;obtain⟨s,r,u⟩:=fe X.out (.int .u64 e.id) (.string ⟨#[]⟩) (.string PS);refine zo (v:= .tuple #[.agg #[(.int .u64 e.id),(.string ⟨#[]⟩),.string PS],.int .i64 0]) (by simp[results,Z1,go_sem,s,r,u]) rfl ?_;rw[q.out];exact⟨rfl,((O.out.setCell (by simp) _).setCell (by simp) _).setCell (by simp) _⟩
 rw[zl G]at q;go_wp2;obtain⟨s,r,u⟩:=fe X.out (.int .u64 0) (.string ⟨#[]⟩) (.string ⟨#[]⟩);refine zo (v:= .tuple #[.agg #[.int .u64 0,.string ⟨#[]⟩,.string ⟨#[]⟩],.int .i64 PE]) (by simp[results,Z1,go_sem,s,r,u]) rfl ?_;rw[q.out];exact⟨rfl,((O.out.setCell (by simp) _).setCell (by simp) _).setCell (by simp) _⟩
def UE (w:World)(D:Int×Ms)(e:Ending)(w':World):Prop:=Below w.heap.size w w'/\∃d0 d1 d2 d3,e= .returned (.tuple #[.agg #[d0,d1,d2,d3],.int .i64 D.1])/\oJ w' (w.heap.size<= ·) D.2 d0 d1 d2 d3
theorem C3 (w:World)(S:Nat->Prop):oJ w S qX (.string ⟨#[]⟩) (.string ⟨#[]⟩) (.bool false) (.slice none 0 0):=⟨rfl,by simp[qX,ByteArray.size],mS w S⟩
theorem gZ {w:World}{g:Nat}{t:TypeId}{n k e z3:Value}(h:af w g t #[n,k,e,z3])(b c d v3:Value):(w.setCell ⟨g,0,none⟩ b).cell? ⟨g,0,none⟩=some b/\((w.setCell ⟨g,0,none⟩ b).setCell ⟨g,1,none⟩ c).cell? ⟨g,1,none⟩=some c/\(((w.setCell ⟨g,0,none⟩ b).setCell ⟨g,1,none⟩ c).setCell ⟨g,2,none⟩ d).cell? ⟨g,2,none⟩=some d/\((((w.setCell ⟨g,0,none⟩ b).setCell ⟨g,1,none⟩ c).setCell ⟨g,2,none⟩ d).setCell ⟨g,3,none⟩ v3).cell? ⟨g,3,none⟩=some v3:=by
 have j:af _ g t #[b,k,e,z3]:=h.store (i:=0) (u:=b) rfl;have l:af _ g t #[b,c,e,z3]:=j.store (i:=1) (u:=c) rfl;have m:af _ g t #[b,c,d,z3]:=l.store (i:=2) (u:=d) rfl;have o:af _ g t #[b,c,d,v3]:=m.store (i:=3) (u:=v3) rfl;exact⟨j.cell 0,l.cell 1,m.cell 2,o.cell 3⟩
theorem eu (w:World)(g:Nat)(c d b v3:Value):ae [g] w ((((w.setCell ⟨g,0,none⟩ c).setCell ⟨g,1,none⟩ d).setCell ⟨g,2,none⟩ b).setCell ⟨g,3,none⟩ v3):=((((ae.refl _ w).setCell (by simp) _).setCell (by simp) _).setCell (by simp) _).setCell (by simp) _
theorem Tr (lo hi g gn gi:Nat)(c:aR)(l:List bV)(f:Fr)(w:World)(h:lO w lo hi g gn gi c l)(hL:Laid w)(iM:bj w)(hs:f.body.size<=1099511627776):
 Calls prog 50 #[.pointer (some ⟨g,0,none⟩),.agg #[.int .u64 f.id,.string f.nm,.string f.body]] w fun e w'=>UE w (eO c (aJ l) f) e w':=by
 obtain⟨W,I⟩:∃W,(w.alloc (.cells #[.int .u64 f.id,.string f.nm,.string f.body] 74)).alloc (.cells #[.string ⟨#[]⟩,.string ⟨#[]⟩,.bool false,.slice none 0 0] 30)=W:=⟨_,rfl⟩
 have M:Below w.heap.size w W:=by rw[<-I];exact((zq _ w).alloc (zf _) _).alloc (by simp) _
 have Vr:W.heap.size=w.heap.size+2:=by rw[<-I];simp
 have B3:af W w.heap.size 74 #[.int .u64 f.id,.string f.nm,.string f.body]:=by rw[<-I];exact(af.new w _ _).alloc _
 have pf:af W (w.heap.size+1) 30 #[.string ⟨#[]⟩,.string ⟨#[]⟩,.bool false,.slice none 0 0]:=by rw[<-I];exact af.at_ (by simp)
 have Z:=za (h.below (M.mono h.his));have ad:=za (Wb lo hi g gn gi c l f W Z.out);have lZ:=za B3;have cq:=za pf;have fE:=za M;have HW:=za I;have GC:=za (hL.below M hL.pos);have Rl:=za (iM.below M iM.pos);have O:Hid (eO c (aJ l) f=match fG c (aJ l) f with
  |none=>(11,qX)
  |some e=>if(dr c e.shape f.body).1=0 then(0,⟨e.name,(dr c e.shape f.body).2⟩)else if(dr c e.shape f.body).1=2 then(3,qX)else((dr c e.shape f.body).1,qX)):=za rfl
 obtain⟨r0,r1,r2,_⟩:=a8 B3;obtain⟨id,nm,body⟩:=f;simp only at r0 r1 r2 hs ad lZ HW;generalize eO c (aJ l) ⟨id,nm,body⟩=ak at*;clear h hL iM I M B3 pf;go_enter func50,ntmps50
 go_wp2_with fail
 rw[HW.out];refine ad.out.mono ?_;rintro e o ⟨H,a0,a1,a2,a3,a4,A,n,cap,J,b,rfl,qq⟩;have B0:=za (Ko Z.out qq);obtain⟨d,U⟩:∃d,o.alloc (.cells #[.int .u64 a0,.string a1,.string a2,.int .i64 a3,.int .i64 a4,.slice A n cap,.int .i64 J] 98)=d:=⟨_,rfl⟩
 have u:Below W.heap.size W d:=by rw[<-U];exact H.alloc H.size _
 have cg:w.heap.size+2<=o.heap.size:=by have:=H.size;omega
 have qE:Hid (af d o.heap.size 98 #[.int .u64 a0,.string a1,.string a2,.int .i64 a3,.int .i64 a4,.slice A n cap,.int .i64 J]):=za (by rw[<-U];exact af.new _ _ _);have qG:=za (Z.out.below (u.mono Z.out.his));have T7:=za (lZ.out.ah u (by omega));have Nt:=za (cq.out.ah u (by omega));have wI:=za (fE.out.trans (u.mono (by omega)));have X:=za (GC.out.below u GC.out.pos);have Rm:=za (Rl.out.below u Rl.out.pos);have wv:=za u;have aj:=za (cq.out.ah H (by omega));have ai:=za (fE.out.trans (H.mono (by omega)));have kC:w.heap.size+1<o.heap.size:=by omega
 have cG:o.heap.size<d.heap.size:=qE.out.lt;have rI:=za U;clear H u qq U ad r0 r1 r2;rcases B0.out with⟨S,rfl,rfl,rfl,rfl⟩|⟨e,S,rfl,rfl,rfl,rfl,nK,ag,Dq⟩
 ·rw[S]at O;clear B0 S;obtain⟨q0,q1,q2,q3,Vi,an,al,ao⟩:=aO aj.out;go_wp2;obtain⟨z,x,C,s⟩:=gZ aj.out (.string ⟨#[]⟩) (.string ⟨#[]⟩) (.bool false) (.slice none 0 0);refine zo (v:= .tuple #[.agg #[.string ⟨#[]⟩,.string ⟨#[]⟩,.bool false,.slice none 0 0],.int .i64 11]) (by simp[results,results50,go_sem,z,x,C,s,zE,kC]) rfl ?_;rw[O.out];exact⟨(ai.out.trans ((eu o (w.heap.size+1) _ _ _ _).below ai.out.size (by simp))).alloc (by simp[World.setCell];omega) _,_,_,_,_,rfl,C3 _ _⟩
 have Jg:=za ((nK.below wv.out).wY);rw[S]at O;have D:Hid (ak=if(dr c e.shape body).1=0 then(0,⟨e.name,(dr c e.shape body).2⟩)else if(dr c e.shape body).1=2 then(3,qX)else((dr c e.shape body).1,qX)):=O;have UQ:=ag.name;clear O B0 S nK ag Dq;have Dg:(pM c= .func (.func 42) #[.agg #[.int .i64 c.de,.int .i64 c.it]] #[]/\Hid (∀V,Below d.heap.size d V->Calls prog 42 #[.agg #[.int .i64 c.de,.int .i64 c.it],.agg #[.int .i64 a3,.int .i64 a4,.slice A n cap,.int .i64 J],.string body] V fun N w'=>uV V w' (dr c e.shape body).2 (dr c e.shape body).1 N))\/(pM c= .func (.func 40) #[.agg #[.int .i64 c.de,.int .i64 c.it]] #[]/\Hid (∀V,Below d.heap.size d V->Calls prog 40 #[.agg #[.int .i64 c.de,.int .i64 c.it],.agg #[.int .i64 a3,.int .i64 a4,.slice A n cap,.int .i64 J],.string body] V fun N w'=>uV V w' (dr c e.shape body).2 (dr c e.shape body).1 N)):=by
  by_cases Y:c.fm=1
  ·refine .inl ⟨by unfold pM x';rw[zl Y],za (fun V j=> ?_)⟩;unfold dr;rw[zl Y];exact FG e.shape body c.de c.it d.heap.size V _ _ _ _ (Jg.out.below j) j.size (X.out.below j X.out.pos) (Rm.out.below j Rm.out.pos) hs
  refine .inr ⟨by unfold pM x';rw[zj Y],za (fun V j=> ?_)⟩;unfold dr;rw[zj Y];exact MB e.shape body c.de c.it d.heap.size V _ _ _ _ (Jg.out.below j) j.size (X.out.below j X.out.pos) (by omega)
 rcases Dg with⟨KZ,YN⟩|⟨KZ,YN⟩;all_goals
  have y:Hid (∀V,Below d.heap.size d V->V.cell? ⟨g,9,none⟩=some (pM c)/\V.cell? ⟨o.heap.size,3,none⟩=some (.int .i64 a3)/\V.cell? ⟨o.heap.size,4,none⟩=some (.int .i64 a4)/\V.cell? ⟨o.heap.size,5,none⟩=some (.slice A n cap)/\V.cell? ⟨o.heap.size,6,none⟩=some (.int .i64 J)/\V.cell? ⟨w.heap.size,2,none⟩=some (.string body)):=za (fun V j=>by
   obtain⟨_,_,_,s,y4,y5,y6⟩:=mL (qE.out.ah j (by omega));obtain⟨_,_,z2,_⟩:=a8 (T7.out.ah j (by omega));have hp:=(qG.out.below (j.mono qG.out.his)).cells.2.2.2.2;exact⟨hp,s,y4,y5,y6,z2⟩)
  generalize (dr c e.shape body).1=PE at*;generalize (dr c e.shape body).2=PX at*;go_wp2_with fail
  rw[rI.out];refine aA 15 (fun V=>V.cell? ⟨g,9,none⟩=some (pM c)/\V.cell? ⟨o.heap.size,3,none⟩=some (.int .i64 a3)/\V.cell? ⟨o.heap.size,4,none⟩=some (.int .i64 a4)/\V.cell? ⟨o.heap.size,5,none⟩=some (.slice A n cap)/\V.cell? ⟨o.heap.size,6,none⟩=some (.int .i64 J)/\V.cell? ⟨w.heap.size,2,none⟩=some (.string body)) (by kernel_rfl) (by kernel_rfl) ?_;have hHeld:=y.out d.drew bN;refine GT.jy [0,1,2,3,4,5,6,7,8] hHeld (fun _ _ _ _ _ h=>h) (by kernel_rfl) ?_;repeat(refine .c rfl rfl (fun V j=>by go_simp<;>with_reducible rfl) ?_;simp only[Act.put,zb,ze,zg])
  refine .nil ?_;refine GT.SW 9 13 rfl rfl (by kernel_rfl) (fun K i=> ?_) (fun K i=> ?_);focus
   go_simp;refine(YN.out d.drew bN).mono ?_;rintro N w3 ⟨F,d0,d1,d2,rfl,B⟩;obtain⟨r,bx,rfl,rfl,rfl,_⟩:=B.open_;have p:Below d.heap.size d w3:=(show Below d.heap.size d d.drew from bN).trans F;go_wp2_with fail
   refine i.out _ _ (y.out w3 p) (fun hHeld=> ?_);clear i K;try simp only[Act.put,zb,ze,zg]
   refine GT.jy [10,11,12] hHeld (fun _ _ _ _ _ h=>h) (by kernel_rfl) ?_;repeat(refine .c rfl rfl (fun V j=>by go_simp<;>with_reducible rfl) ?_;simp only[Act.put,zb,ze,zg])
   refine .nil ?_;refine GT.fw 13 (fun K i=> ?_) rfl (by kernel_rfl);go_simp;refine i.out _ _ (y.out _ (p.alloc p.size _)) (fun hHeld=> ?_);clear i K;try simp only[Act.put,zb,ze,zg]
   refine GT.fw 14 (fun K i=> ?_) rfl (by kernel_rfl);go_simp;refine i.out _ _ (y.out _ (p.alloc p.size _)) (fun hHeld=> ?_);clear i K;try simp only[Act.put,zb,ze,zg]
   refine GT.oL 15 ?_ rfl (by kernel_rfl);go_simp;obtain⟨m,q⟩:∃m,w3.alloc (.cells #[.string PX.text,.bool PX.list,.slice r PX.sub.length bx] 28)=m:=⟨_,rfl⟩
   have gJ:Hid (Below d.heap.size d m):=za (by rw[<-q];exact p.alloc p.size _);have ab:af m w3.heap.size 28 #[.string PX.text,.bool PX.list,.slice r PX.sub.length bx]:=by rw[<-q];exact af.new _ _ _
   have GB:Hid (fO m (d.heap.size<= ·) PX (.string PX.text) (.bool PX.list) (.slice r PX.sub.length bx)):=za (by rw[<-q];exact B.below ((zq _ _).alloc (zf _) _));rw[q];clear q F p B hHeld
  rotate_left
  focus
   go_simp;have R:Below d.heap.size d (d.alloc (.cells #[.string ⟨#[]⟩,.bool false,.slice none 0 0] 28)).drew:=((zq d.heap.size d).alloc (zf _) _).drew;have aa:af (d.alloc (.cells #[.string ⟨#[]⟩,.bool false,.slice none 0 0] 28)).drew d.heap.size 28 #[.string ⟨#[]⟩,.bool false,.slice none 0 0]:=(af.new d _ _).drew;refine i.out _ _ (y.out _ R) (fun hHeld=> ?_);clear i K;try simp only[Act.put,zb,ze,zg]
   refine GT.fw 9 (fun K i=> ?_) rfl (by kernel_rfl);go_simp;refine(YN.out _ R).mono ?_;rintro N w3 ⟨F,d0,d1,d2,rfl,B⟩;obtain⟨r,bx,rfl,rfl,rfl,_⟩:=B.open_;have p:Below d.heap.size d w3:=R.trans (F.mono R.size);have Ro:=aa.ah F aa.lt;go_wp2_with fail
   refine i.out _ _ (y.out w3 p) (fun hHeld=> ?_);clear i K;try simp only[Act.put,zb,ze,zg]
   refine GT.jy [10,11,12] hHeld (fun _ _ _ _ _ h=>h) (by kernel_rfl) ?_;repeat(refine .c rfl rfl (fun V j=>by go_simp<;>with_reducible rfl) ?_;simp only[Act.put,zb,ze,zg])
   refine .nil ?_;obtain⟨t0,t1,t2,KV,Np,Sb⟩:=a8 Ro;refine GT.fw 14 (fun K i=> ?_) rfl (by kernel_rfl);go_simp;have pg:Below d.heap.size d (((w3.setCell ⟨d.heap.size,0,none⟩ (.string PX.text)).setCell ⟨d.heap.size,1,none⟩ (.bool PX.list)).setCell ⟨d.heap.size,2,none⟩ (.slice r PX.sub.length bx)):=((p.setCell (by simp) _).setCell (by simp) _).setCell (by simp) _;refine i.out _ _ (y.out _ pg) (fun hHeld=> ?_);clear i K;try simp only[Act.put,zb,ze,zg]
   refine GT.oL 15 ?_ rfl (by kernel_rfl);go_simp;obtain⟨m,q⟩:∃m,(((w3.setCell ⟨d.heap.size,0,none⟩ (.string PX.text)).setCell ⟨d.heap.size,1,none⟩ (.bool PX.list)).setCell ⟨d.heap.size,2,none⟩ (.slice r PX.sub.length bx))=m:=⟨_,rfl⟩
   have gJ:Hid (Below d.heap.size d m):=za (by rw[<-q];exact pg);have ab:af m d.heap.size 28 #[.string PX.text,.bool PX.list,.slice r PX.sub.length bx]:=by rw[<-q];exact dP Ro _ _ _
   have GB:Hid (fO m (d.heap.size<= ·) PX (.string PX.text) (.bool PX.list) (.slice r PX.sub.length bx)):=za (by rw[<-q];exact B.only (L:= [d.heap.size]) ((((ae.refl _ w3).setCell (by simp) _).setCell (by simp) _).setCell (by simp) _) (by simp[World.drew]) (fun k _ G=>by have G:(d.alloc (.cells #[.string ⟨#[]⟩,.bool false,.slice none 0 0] 28)).heap.size<=k:=G;simp at G;show d.heap.size<=k;omega));rw[q];clear q F p B hHeld R aa pg Ro t0 t1 t2 KV Np Sb
  all_goals
   have YO:=Nt.out.ah gJ.out (by omega);have ah:=qE.out.ah gJ.out (by omega);have YP:=za YO;have E:=za (wI.out.trans (gJ.out.mono (by omega)));obtain⟨q0,q1,q2,q3,Vi,an,al,ao⟩:=aO YO;obtain⟨u0,u1,u2,u3,u4,u5,u6⟩:=mL ah;obtain⟨t0,t1,t2⟩:=jY ab;clear YO ah ab;rcases eF PE with⟨he,z1,z2⟩|⟨he,z1,z2⟩
   ·subst he;rw[zl rfl]at D;go_wp2;obtain⟨z,x,C,s⟩:=gZ YP.out (.string e.name) (.string PX.text) (.bool PX.list) (.slice r PX.sub.length bx);refine zo (v:= .tuple #[.agg #[.string e.name,.string PX.text,.bool PX.list,.slice r PX.sub.length bx],.int .i64 0]) (by simp[results,results50,go_sem,z,x,C,s]) rfl ?_;rw[D.out];exact⟨E.out.trans ((eu m (w.heap.size+1) _ _ _ _).below E.out.size (by simp)),_,_,_,_,rfl,rfl,by simp only;omega,GB.out.only (L:= [w.heap.size+1]) (eu m (w.heap.size+1) _ _ _ _) (by simp;omega) (fun k _ G=>by have G:d.heap.size<=k:=G;show w.heap.size<=k;omega)⟩
   rw[zj he]at D;by_cases h2:PE=2
   ·have z3:(PE==2)=true:=xd.2 h2;rw[zl h2]at D;go_wp2;obtain⟨z,x,C,s⟩:=gZ YP.out (.string ⟨#[]⟩) (.string ⟨#[]⟩) (.bool false) (.slice none 0 0);refine zo (v:= .tuple #[.agg #[.string ⟨#[]⟩,.string ⟨#[]⟩,.bool false,.slice none 0 0],.int .i64 3]) (by simp[results,results50,go_sem,z,x,C,s]) rfl ?_;rw[D.out];exact⟨E.out.trans ((eu m (w.heap.size+1) _ _ _ _).below E.out.size (by simp)),_,_,_,_,rfl,C3 _ _⟩
   have z3:(PE==2)=false:=zr.2 h2;rw[zj h2]at D;go_wp2;obtain⟨z,x,C,s⟩:=gZ YP.out (.string ⟨#[]⟩) (.string ⟨#[]⟩) (.bool false) (.slice none 0 0);refine zo (v:= .tuple #[.agg #[.string ⟨#[]⟩,.string ⟨#[]⟩,.bool false,.slice none 0 0],.int .i64 PE]) (by simp[results,results50,go_sem,z,x,C,s]) rfl ?_;rw[D.out];exact⟨E.out.trans ((eu m (w.heap.size+1) _ _ _ _).below E.out.size (by simp)),_,_,_,_,rfl,C3 _ _⟩
theorem lO.put {w w':World}{j hi g i d:Nat}{c:aR}{l:List bV}(h:lO w j hi g i d c l)(m:ae [i,d] w w')(hz:w'.heap.size=w.heap.size){e:bA}{v:Value}(q:iV w' i (wV (l++ [(e,v)])))(x:iV w' d (wW (l++ [(e,v)])))(n:Us w (fun k=>g<k/\k<w.heap.size) (e,v))(o:gd c (aJ l) e=0)(s:pN e):lO w' j w'.heap.size g i d c (l++ [(e,v)]) where
 blk:=h.blk.only m (by have:=h.n2;have:=h.i2;simp;omega)
 nm:=q
 ix:=x
 n1:=h.n1
 n2:=h.n2
 i1:=h.i1
 i2:=h.i2
 ne:=h.ne
 g2:=by have:=h.g2;have:=h.his;omega
 his:=zf _
 rows:=fun r b=>by
  have key:Us w (fun k=>g<k/\k<w.heap.size) r:=by
   rcases ZQ.1 b with b|b
   ·exact(h.rows r b).ah (fun k _ hS=>⟨hS.1,by have:=hS.2;have:=h.his;omega⟩) (fun _ _ _=>rfl)
   obtain rfl:=y8.1 b;exact n
  exact key.ah (fun k _ hS=>⟨hS.1,by have:=hS.2;omega⟩) fun p u hS=>m.cell u (by have:=hS.1;have:=h.n2;have:=h.i2;simp;omega)
 ok:=by
  have:aJ (l++ [(e,v)])=aJ l++ [e]:=by simp[aJ]
  rw[this];exact h.ok.snoc o
 sz:=fun r b=>by
  rcases ZQ.1 b with b|b
  ·exact h.sz r b
  obtain rfl:=y8.1 b;exact s
def UF (w:World)(lo g gn gi:Nat)(c:aR)(l:List bV)(e:bA)(en:Ending)(w':World):Prop:=
 en= .returned (.int .i64 (gd c (aJ l) e))/\ae [gn,gi] w w'/\(gd c (aJ l) e=0->∃v,lO w' lo w'.heap.size g gn gi c (l++ [(e,v)]))
theorem kU {w w':World}{i g d b:Nat}{c:aR}{l:List bV}{e:bA}{E:Int}(h:gd c (aJ l) e=E)(k:E≠0)(m:ae [d,b] w w'):UF w i g d b c l e (.returned (.int .i64 E)) w':=⟨by rw[h],m,fun j=>absurd (h.symm.trans j) k⟩
theorem ey {w w':World}{L:List Nat}(h:Below w.heap.size w w'):ae L w w':=(ae.ag h (zf _)).mono (by simp)
theorem WD {c:aR}{l:List bV}(h:cM c (aJ l)){nm:ByteArray}(d:∀x∈aJ l,x.name≠nm):Instr.findNow .string (.string nm) (mE (wV l) 0) 0=some none:=by
 rcases BB h nm with⟨i,_⟩|⟨j,r,_,e,b,_⟩
 ·exact i
 exact absurd b (d r.1 (xL.2 ⟨r,xo e,rfl⟩))
theorem WE {c:aR}{l:List bV}(h:cM c (aJ l)){id:Nat}(d:∀x∈aJ l,x.id≠id):Instr.findNow (.int .u64) (.int .u64 id) (mE (wW l) 0) 0=some none:=by
 rcases JS h id _ (fun _=>rfl)with⟨i,_⟩|⟨j,r,_,e,b,_⟩
 ·exact i
 exact absurd b (d r.1 (xL.2 ⟨r,xo e,rfl⟩))
theorem Kp {l:List bV}{p:bA->Bool}{a0:Nat}{i e:ByteArray}{a3 a4:Int}{A:Option Addr}{n cap:Nat}{d:Int}{b:Bool}(h:Pc l ((aJ l).find? p) a0 i e a3 a4 A n cap d b):(aJ l).any p=b:=by
 rcases h with⟨c,rfl,_⟩|⟨r,_,c,rfl,_⟩
 ·exact EN c
 exact EO c
theorem Ts (lo hi g j d:Nat)(c:aR)(l:List bV)(e:bA)(w:World)(h:lO w lo hi g j d c l)(hL:Laid w)(hg:1<lo)(hs:pN e):
 Calls prog 43 #[.pointer (some ⟨g,0,none⟩),.agg #[.int .u64 e.id,.string e.name,.string e.ty]] w fun en w'=>UF w lo g j d c l e en w':=by
 obtain⟨g0,g6,g7,_,_⟩:=h.cells;have wJ:g<w.heap.size:=yg h.g2 h.his;have aU:j<w.heap.size:=h.nm.lt;have k7:d<w.heap.size:=h.ix.lt;obtain⟨W,Y⟩:∃W,w.alloc (.cells #[.int .u64 e.id,.string e.name,.string e.ty] 57)=W:=⟨_,rfl⟩
 have lJ:Below w.heap.size w W:=by rw[<-Y];exact(zq _ w).alloc (zf _) _
 have Vr:W.heap.size=w.heap.size+1:=by rw[<-Y];simp
 have B3:af W w.heap.size 57 #[.int .u64 e.id,.string e.name,.string e.ty]:=by rw[<-Y];exact af.new w _ _
 obtain⟨a0,a1,a2,a3,a4,A,n,cap,a6,b,qq,nI⟩:=CP h e.name;have aw:=Kp qq;have BZ:=za (h.below (lJ.mono h.his));have U:=za nI;have D:Hid (∀V:World,V.heap[g]?=W.heap[g]?/\V.heap[j]?=W.heap[j]?/\V.heap[w.heap.size]?=W.heap[w.heap.size]?->V.cell? ⟨g,6,none⟩=some (.map (some j))/\V.cell? ⟨w.heap.size,1,none⟩=some (.string e.name)/\iV V j (wV l)):=za (fun V i=>⟨af.cell (show af V g _ _ from i.1.trans BZ.out.blk) 6,af.cell (show af V w.heap.size _ _ from i.2.2.trans B3) 1,BZ.out.nm.ah i.2.1⟩);have lZ:=za B3;have fE:=za lJ;have HW:=za Y;have GC:=za (hL.below lJ hL.pos);have o:Hid (gd c (aJ l) e=if b8 e.name=false then 11 else if((aJ l).any fun x=>decide (x.name=e.name))=true then 11 else if((aJ l).any fun x=>decide (x.id=e.id))=true then 1
  else if cI e.ty.data.toList=none then 3 else if c.fm=1/\e.shape.flat=false then 12 else 0):=za rfl
 rw[show((aJ l).any fun x=>decide (x.name=e.name))=b from aw]at o;have YB:=za hs;have aT:=hs.name;have aS:=hs.ty;have aG:=za (fun V=>pL e.name V (by omega));clear h hL Y lJ B3 qq nI aw hs;go_enter func43,ntmps43
 go_wp2_with fail
 rw[HW.out];refine aA 12 (fun V=>V.cell? ⟨g,6,none⟩=some (.map (some j))/\V.cell? ⟨w.heap.size,1,none⟩=some (.string e.name)/\iV V j (wV l)) (by kernel_rfl) (by kernel_rfl) ?_;have hHeld:=D.out W.drew ⟨rfl,rfl,rfl⟩;refine GT.jy [0,1,2,3,4,5,6,7,8,9] hHeld (fun _ _ _ _ _ h=>h) (by kernel_rfl) ?_;iterate 6 (refine .c rfl rfl (fun V i=>by go_simp<;>with_reducible rfl) ?_;simp only[Act.put,zb,ze,zg])
 refine .c (v:= .tuple #[.agg #[.int .u64 a0,.string a1,.string a2,.int .i64 a3,.int .i64 a4,.slice A n cap,.int .i64 a6],.bool b]) rfl rfl (fun V i=>by have hl:=U.out V i.2.2;go_simp) ?_;try simp only[Act.put,zb,ze,zg];iterate 3 (refine .c rfl rfl (fun V i=>by go_simp<;>with_reducible rfl) ?_;simp only[Act.put,zb,ze,zg])
 refine .nil ?_;refine GT.fw 10 (fun K u=> ?_) rfl (by kernel_rfl);go_simp;refine u.out _ _ (D.out _ ⟨yp _ _ (by omega),yp _ _ (by omega),yp _ _ (by omega)⟩) (fun hHeld=> ?_);clear u K;try simp only[Act.put,zb,ze,zg]
 refine GT.fw 11 (fun K u=> ?_) rfl (by kernel_rfl);go_simp;refine u.out _ _ (D.out _ ⟨yp _ _ (by omega),yp _ _ (by omega),yp _ _ (by omega)⟩) (fun hHeld=> ?_);clear u K;try simp only[Act.put,zb,ze,zg]
 refine GT.oL 12 ?_ rfl (by kernel_rfl);go_simp;obtain⟨r,ma⟩:∃r,(W.alloc (.cells #[.int .u64 a0,.string a1,.string a2,.int .i64 a3,.int .i64 a4,.slice A n cap,.int .i64 a6] 98)).drew=r:=⟨_,rfl⟩
 have aM:Below W.heap.size W r:=by rw[<-ma];exact((zq _ W).alloc (zf _) _).drew
 have Z:=za (fE.out.trans (aM.mono (by omega)));have X:=za (lZ.out.ah aM (by omega));have Jp:=za (GC.out.below aM GC.out.pos);have O:=za (BZ.out.below (aM.mono BZ.out.his));rw[ma];clear ma aM U D hHeld lZ GC BZ fE;obtain⟨u0,u1,u2,ab,ad,ah⟩:=a8 X.out;cases b with
 |true=>
  have q:gd c (aJ l) e=11:=by rw[o.out];split<;>rfl
  go_wp2;go_ret;exact kU q (by decide) (ey Z.out)
 |false=>
  rw[zj (show¬(false=true)by simp)]at o;go_wp2_with fail
  refine(aG.out _).mono ?_;rintro en w' ⟨rfl,rfl⟩;cases hmy:b8 e.name with
  |false=>
   have q:gd c (aJ l) e=11:=by rw[o.out,zl hmy]
   go_wp2;go_ret;exact kU q (by decide) (ey Z.out)
  |true=>
   rw[zj (by simp[hmy])]at o;obtain⟨a0,a1,a2,a3,a4,A,n,cap,a6,b,qq,nI⟩:=J5 O.out e.id;rw[show((aJ l).any fun x=>decide (x.id=e.id))=b from Kp qq]at o;have U:=za nI;have D:Hid (∀V:World,V.heap[g]?=r.heap[g]?/\V.heap[d]?=r.heap[d]?/\V.heap[w.heap.size]?=r.heap[w.heap.size]?->V.cell? ⟨g,7,none⟩=some (.map (some d))/\V.cell? ⟨w.heap.size,0,none⟩=some (.int .u64 e.id)/\iV V d (wW l)):=za (fun V i=>⟨af.cell (show af V g _ _ from i.1.trans O.out.blk) 7,af.cell (show af V w.heap.size _ _ from i.2.2.trans X.out) 0,O.out.ix.ah i.2.1⟩);have aQ:=Z.out.size;clear qq nI u0 u1 u2 ab ad ah hmy;go_wp2_with fail
   refine aA 12 (fun V=>V.cell? ⟨g,7,none⟩=some (.map (some d))/\V.cell? ⟨w.heap.size,0,none⟩=some (.int .u64 e.id)/\iV V d (wW l)) (by kernel_rfl) (by kernel_rfl) ?_;have hHeld:=D.out r.drew ⟨rfl,rfl,rfl⟩;have aW:w.heap.size<r.heap.size:=X.out.lt;refine GT.jy [0,1,2,3,4,5,6,7,8,9] hHeld (fun _ _ _ _ _ h=>h) (by kernel_rfl) ?_;iterate 6 (refine .c rfl rfl (fun V i=>by go_simp<;>with_reducible rfl) ?_;simp only[Act.put,zb,ze,zg])
   refine .c (v:= .tuple #[.agg #[.int .u64 a0,.string a1,.string a2,.int .i64 a3,.int .i64 a4,.slice A n cap,.int .i64 a6],.bool b]) rfl rfl (fun V i=>by have hl:=U.out V i.2.2;go_simp) ?_;try simp only[Act.put,zb,ze,zg];iterate 3 (refine .c rfl rfl (fun V i=>by go_simp<;>with_reducible rfl) ?_;simp only[Act.put,zb,ze,zg])
   refine .nil ?_;refine GT.fw 10 (fun K u=> ?_) rfl (by kernel_rfl);go_simp;refine u.out _ _ (D.out _ ⟨yp _ _ (by omega),yp _ _ (by omega),yp _ _ (by omega)⟩) (fun hHeld=> ?_);clear u K;try simp only[Act.put,zb,ze,zg]
   refine GT.fw 11 (fun K u=> ?_) rfl (by kernel_rfl);go_simp;refine u.out _ _ (D.out _ ⟨yp _ _ (by omega),yp _ _ (by omega),yp _ _ (by omega)⟩) (fun hHeld=> ?_);clear u K;try simp only[Act.put,zb,ze,zg]
   refine GT.oL 12 ?_ rfl (by kernel_rfl);go_simp;obtain⟨W4,rJ⟩:∃W4,(r.alloc (.cells #[.int .u64 a0,.string a1,.string a2,.int .i64 a3,.int .i64 a4,.slice A n cap,.int .i64 a6] 98)).drew=W4:=⟨_,rfl⟩
   have bP:Below r.heap.size r W4:=by rw[<-rJ];exact((zq _ r).alloc (zf _) _).drew
   have Rr:=za (Z.out.trans (bP.mono (by omega)));have dT:=za (X.out.ah bP (by omega));have KR:=za (Jp.out.below bP Jp.out.pos);have Sd:=za (O.out.below (bP.mono O.out.his));rw[rJ];clear rJ bP U D hHeld X Jp O Z;obtain⟨u0,u1,u2,ab,ad,ah⟩:=a8 dT.out;cases b with
   |true=>
    have q:gd c (aJ l) e=1:=by rw[o.out,zl rfl]
    go_wp2;go_ret;exact kU q (by decide) (ey Rr.out)
   |false=>
    rw[zj (show¬(false=true)by simp)]at o;have HG:=za (Tl e.ty W4 (by omega) KR.out);go_wp2_with fail
    refine HG.out.mono ?_;rintro en m dB;obtain⟨T,hT⟩:∃T,cI e.ty.data.toList=T:=⟨_,rfl⟩
    rw[hT]at dB o;cases T with
    |none=>
     obtain⟨C,rfl⟩:=dB;have q:gd c (aJ l) e=3:=by rw[o.out,zl rfl]
     have gJ:=za (Rr.out.trans (C.mono Rr.out.size));clear C hT;go_wp2;go_ret;exact kU q (by decide) (ey (gJ.out.alloc gJ.out.size _))
    |some t=>
     obtain⟨C,d0,d1,d2,d3,rfl,nK⟩:=dB;have vZ:e.shape=t:=by unfold bA.shape;rw[hT];rfl
     rw[zj (by simp),vZ]at o;obtain⟨B,y,rfl,rfl,rfl,rfl,_⟩:=nK.open_;have aF:=Rr.out.size;have aa:=dT.out.ah C (by have:=dT.out.lt;omega);have H:=Sd.out.below (C.mono Sd.out.his);have al:=H.cells.1;have aX:g<m.heap.size:=yg H.g2 H.his;have N:Below m.heap.size m (m.alloc (.cells #[.int .i64 t.kind,.int .i64 t.size,.slice B t.sub.length y,.int .i64 t.tail] 64)):=(zq _ m).alloc (zf _) _;have Rp:=za ((Rr.out.trans (C.mono aF)).trans (N.mono (by have:=C.size;omega)));have L:=za (aa.ah N aa.lt);have G:=za (H.below (N.mono H.his));have I:=za (af.new m 64 #[.int .i64 t.kind,.int .i64 t.size,.slice B t.sub.length y,.int .i64 t.tail]);have R:=za (nK.below N);have ak:=KR.out.below C KR.out.pos;have HF:=za (Iz t _ _ _ _ _ _ R.out.wY (zf _) (ak.below N ak.pos));have aP:w.heap.size<m.heap.size:=aa.lt;clear u0 u1 u2 ab ad ah C hT dT Sd nK aa H N ak;by_cases M:c.fm=1;focus
      have XP:((c.fm:Int)==1)=true:=xd.2 M;go_wp2_with fail
      refine HF.out.mono ?_;rintro en w7 ⟨rfl,F⟩;have aN:=F.size;simp only[zt]at aN;have YQ:=za (Rp.out.trans (F.mono Rp.out.size));have aj:=za (L.out.ah F L.out.lt);have s:=za (G.out.below (F.mono G.out.his));have ag:=za (I.out.ah F I.out.lt);have az:=za (R.out.below F);clear F HF G L I R al;cases lY:t.flat
      ·have q:gd c (aJ l) e=12:=by rw[o.out,zl ⟨M,lY⟩]
       go_wp2;go_ret;exact kU q (by decide) (ey YQ.out)
      have q:gd c (aJ l) e=0:=by rw[o.out,zj (by simp[lY])]
      obtain⟨p,rfl⟩:∃p,p=w7:=⟨w7,rfl⟩
      clear lY M;go_wp2_with fail
     rotate_left
     focus
      have XP:((c.fm:Int)==1)=false:=zr.2 M;have q:gd c (aJ l) e=0:=by rw[o.out,zj (by simp[M])]
      obtain⟨p,qK⟩:∃p,m.alloc (.cells #[.int .i64 t.kind,.int .i64 t.size,.slice B t.sub.length y,.int .i64 t.tail] 64)=p:=⟨_,rfl⟩
      rw[qK]at Rp L G I R;have Gc:=za qK;have YQ:=Rp;have aj:=L;have s:=G;have ag:=I;have az:=R;clear HF M qK Rp L G I R;go_wp2_with fail
      rw[Gc.out];clear al
     all_goals
      obtain⟨z1,z2,z3,z4,z5⟩:=By q;have aL:=JR (P:=prog) (T:=88) (w:=p.drew) (s.out.nm.ah rfl) underlying88 zO (by simp[MapKept.IsKey]) (WD s.out.ok z2) (.agg #[.int .u64 e.id,.string e.name,.string e.ty,.int .i64 t.kind,.int .i64 t.size,.slice B t.sub.length y,.int .i64 t.tail]);have K4:=fun(V:World) (i:iV V d (wW l))=>JR (P:=prog) (T:=89) (w:=V) i underlying89 Yd (by simp[MapKept.IsKey]) (WE s.out.ok z3) (.agg #[.int .u64 e.id,.string e.name,.string e.ty,.int .i64 t.kind,.int .i64 t.size,.slice B t.sub.length y,.int .i64 t.tail])
      have aH:=za K4;clear z1 z2 z3 z4 z5 K4;obtain⟨b0,b1,S,_⟩:=a8 aj.out.drew;obtain⟨t0,t1,t2,t3,_⟩:=aO ag.out.drew;have av:p.drew.cell? ⟨g,6,none⟩=some (.map (some j)):=(af.drew s.out.blk).cell 6;refine aA 9 (fun V=>V.cell? ⟨g,6,none⟩=some (.map (some j))/\V.cell? ⟨w.heap.size,0,none⟩=some (.int .u64 e.id)/\V.cell? ⟨w.heap.size,1,none⟩=some (.string e.name)/\V.cell? ⟨w.heap.size,2,none⟩=some (.string e.ty)/\V.cell? ⟨m.heap.size,0,none⟩=some (.int .i64 t.kind)/\V.cell? ⟨m.heap.size,1,none⟩=some (.int .i64 t.size)/\V.cell? ⟨m.heap.size,2,none⟩=some (.slice B t.sub.length y)/\V.cell? ⟨m.heap.size,3,none⟩=some (.int .i64 t.tail)) (by kernel_rfl) (by kernel_rfl) ?_;have hHeld:=And.intro av (And.intro b0 (And.intro b1 (And.intro S (And.intro t0 (And.intro t1 (And.intro t2 t3))))));clear b0 b1 S t0 t1 t2 t3 av;refine GT.jy [0,1,2,3,4,5,6,7,8] hHeld (fun _ _ _ _ _ h=>h) (by kernel_rfl) ?_;repeat(refine .c rfl rfl (fun V i=>by go_simp<;>with_reducible rfl) ?_;simp only[Act.put,zb,ze,zg])
      refine .nil ?_;refine GT.oL 9 ?_ rfl (by kernel_rfl);go_simp;obtain⟨z,wN⟩:∃z,nW p.drew j (wV l) (.string e.name) (.agg #[.int .u64 e.id,.string e.name,.string e.ty,.int .i64 t.kind,.int .i64 t.size,.slice B t.sub.length y,.int .i64 t.tail])=z:=⟨_,rfl⟩
      have ar:iV z j (wV l++ [(.string e.name,(.agg #[.int .u64 e.id,.string e.name,.string e.ty,.int .i64 t.kind,.int .i64 t.size,.slice B t.sub.length y,.int .i64 t.tail]))]):=by rw[<-wN];exact sq (s.out.nm.ah rfl) _ _
      have J:ae [j] p z:=by rw[<-wN];exact(ae.refl [j] p).drew.trans (uM _ _ _ _ _)
      have R4:z.heap.size=p.heap.size:=by rw[<-wN];simp[nW]
      rw[wN];have aV:=s.out.n2;have cd:=s.out.ne;have aB:=(aj.out.only J (by simp;omega)).drew;have aq:=(ag.out.only J (by simp;omega)).drew;have ax:=af.drew (s.out.blk.only J (by simp;omega));have ai:iV z.drew d (wW l):=(s.out.ix.only J (by simp;omega)).ah rfl;have K4:=aH.out z.drew ai;obtain⟨b0,b1,S,_⟩:=a8 aB;obtain⟨t0,t1,t2,t3,_⟩:=aO aq;have ao:z.drew.cell? ⟨g,7,none⟩=some (.map (some d)):=ax.cell 7;have aI:=za ar;have aK:=za J;have aD:=za R4;have aE:=za ai;clear hHeld wN ar J R4 aL aB aq ax ai;go_wp2_with fail
      refine aA 9 (fun V=>V.cell? ⟨g,7,none⟩=some (.map (some d))/\V.cell? ⟨w.heap.size,0,none⟩=some (.int .u64 e.id)/\V.cell? ⟨w.heap.size,1,none⟩=some (.string e.name)/\V.cell? ⟨w.heap.size,2,none⟩=some (.string e.ty)/\V.cell? ⟨m.heap.size,0,none⟩=some (.int .i64 t.kind)/\V.cell? ⟨m.heap.size,1,none⟩=some (.int .i64 t.size)/\V.cell? ⟨m.heap.size,2,none⟩=some (.slice B t.sub.length y)/\V.cell? ⟨m.heap.size,3,none⟩=some (.int .i64 t.tail)) (by kernel_rfl) (by kernel_rfl) ?_;have hHeld:=And.intro ao (And.intro b0 (And.intro b1 (And.intro S (And.intro t0 (And.intro t1 (And.intro t2 t3))))));clear b0 b1 S t0 t1 t2 t3 ao;refine GT.jy [0,1,2,3,4,5,6,7,8] hHeld (fun _ _ _ _ _ h=>h) (by kernel_rfl) ?_;repeat(refine .c rfl rfl (fun V i=>by go_simp<;>with_reducible rfl) ?_;simp only[Act.put,zb,ze,zg])
      refine .nil ?_;refine GT.oL 9 ?_ rfl (by kernel_rfl);go_simp;clear K4;obtain⟨E,Se⟩:∃E,nW z.drew d (wW l) (.int .u64 e.id) (.agg #[.int .u64 e.id,.string e.name,.string e.ty,.int .i64 t.kind,.int .i64 t.size,.slice B t.sub.length y,.int .i64 t.tail])=E:=⟨_,rfl⟩
      have aC:iV E d (wW l++ [(.int .u64 e.id,(.agg #[.int .u64 e.id,.string e.name,.string e.ty,.int .i64 t.kind,.int .i64 t.size,.slice B t.sub.length y,.int .i64 t.tail]))]):=by rw[<-Se];exact sq aE.out _ _
      have qJ:ae [d] z E:=by rw[<-Se];exact(ae.refl [d] z).drew.trans (uM _ _ _ _ _)
      have ay:E.heap.size=p.heap.size:=by rw[<-aD.out,<-Se];simp[nW]
      rw[Se];have an:=aI.out.only qJ (by simp;omega);have au:Hid (ae [j,d] p E):=za ((aK.out.mono (by simp)).trans (qJ.mono (by simp)));have HQ:Hid (∃v,lO E lo E.heap.size g j d c (l++ [(e,v)])):=za ⟨_,s.out.put au.out ay (by simpa[wV]using an) (by simpa[wW]using aC) ⟨_,_,_,_,rfl,by
       show fh p _ e.shape _ _ _ _
       rw[vZ];exact az.out.gh (fun k hk hS=>⟨by have hS:W4.heap.size<=k:=hS;omega,hk⟩)⟩ q YB.out⟩
      clear Se aC qJ ay an hHeld;go_wp2;go_ret;exact⟨by rw[q];rfl,(ey YQ.out).trans au.out,fun _=>HQ.out⟩
def abt (w:World)(c:aR)(l:List bA)(e:Ending)(w':World):Prop:=
 Below w.heap.size w w'/\((oH c l=0/\∃g gn gi rows,e= .returned (.tuple #[.pointer (some ⟨g,0,none⟩),.int .i64 0])/\lO w' w.heap.size w'.heap.size g gn gi c rows/\aJ rows=l)\/(oH c l≠0/\e= .returned (.tuple #[.pointer none,.int .i64 (oH c l)])))
theorem vB {c:aR}{l:List bA}{k:Nat}{E:Int}(h:iP c (l.take k) (l.drop k)=E)(d:k<l.length):(gd c (l.take k) l[k]≠0->E=gd c (l.take k) l[k])/\(gd c (l.take k) l[k]=0->iP c (l.take (k+1)) (l.drop (k+1))=E):=by
 rw[xI d,iP]at h;refine⟨fun b=> ?_,fun b=> ?_⟩
 ·rw[zl b]at h;exact h.symm
 rw[zj (by simp[b])]at h;rw[Ye,zB d];exact h
theorem BQ {c:aR}{l:List bA}{E:Int}(h:iP c (l.take l.length) (l.drop l.length)=E):E=0:=by
 rw[Yj]at h;exact h.symm
theorem rA {c:aR}{l:List bA}(h:c.right=true)(b:l.length<=32):oH c l=iP c [] l:=by
 unfold oH;rw[zj (by simp[h]),zj (by omega)]
theorem lO.fresh {w:World}{h b:Nat}{c:aR}{W:World}(e:((w.alloc (.map #[] 0)).alloc (.map #[] 0)).alloc (.cells (rgC c b (b+1) (sZ c) (pM c)) 95)=W)(i:w.heap.size=b)(j:h<=b):lO W h W.heap.size (b+1+1) b (b+1) c []:=by
 subst i;have hz:W.heap.size=w.heap.size+3:=by rw[<-e];simp
 exact{
  blk:=by rw[<-e];exact af.at_ (by simp)
  nm:=by
   have d:iV (w.alloc (.map #[] 0)) w.heap.size []:=iV.new w;rw[<-e];exact(yp _ _ (by simp;omega)).trans ((yp _ _ (by simp)).trans d)
  ix:=by
   have d:iV ((w.alloc (.map #[] 0)).alloc (.map #[] 0)) (w.alloc (.map #[] 0)).heap.size []:=iV.new _;simp only[zt]at d;rw[<-e];exact(yp _ _ (by simp)).trans d
  n1:=j
  n2:=by omega
  i1:=by omega
  i2:=by omega
  ne:=by omega
  g2:=by omega
  his:=zf _
  rows:=by simp
  ok:=cM.nil c
  sz:=by simp}
theorem Tt (c:aR)(l:List bA)(v:Value)(B:Nat)(w:World)(D:rj w B v l)(hB:B<=w.heap.size)(O:Laid w)(hs:∀e∈l,pN e):
 Calls prog 26 #[c.val,v] w fun e w'=>abt w c l e w':=by
 obtain⟨A,n,cap,rfl,C,ai,lI⟩:=D.dk;have Y:=za (i' c (w.alloc (.cells #[.int .i64 c.fm,.int .u32 c.mg,.int .i64 c.fr,.int .i64 c.un,.int .i64 c.de,.int .i64 c.it] 24)));have kz:=(zq w.heap.size w).alloc (zf _) (.cells #[.int .i64 c.fm,.int .u32 c.mg,.int .i64 c.fr,.int .i64 c.un,.int .i64 c.de,.int .i64 c.it] 24);have DE:=af.new w 24 #[.int .i64 c.fm,.int .u32 c.mg,.int .i64 c.fr,.int .i64 c.un,.int .i64 c.de,.int .i64 c.it];have HV:=za D;have HS:=za hs;have hp:=O.pos;have HL:=za O;unfold aR.val at*;obtain⟨R,K⟩:∃R,c.right=R:=⟨_,rfl⟩
 rw[K]at Y;have I:=za K;clear D hs O K;go_enter func26,ntmps26
 go_wp2_with fail
 refine Y.out.mono ?_;rintro e b ⟨rfl,J⟩;have S:=za (kz.trans (J.mono (by simp)));have F:=DE.ah J (by simp);have oY:w.heap.size<b.heap.size:=F.lt;obtain⟨c0,c1,c2,c3,c4,c5⟩:=fB F;clear kz J DE Y F;cases R with
 |false=>
  go_wp2;go_ret2
  have d:oH c l=1:=by unfold oH;rw[zl I.out]
  exact⟨S.out,.inr ⟨by rw[d];decide,by rw[d];rfl⟩⟩
 |true=>
  by_cases ah:32<n
  ·have hi:(32:Int)<(n:Int):=by omega
   go_wp2;go_ret2
   have d:oH c l=4:=by unfold oH;rw[zj (by simp[I.out]),zl (by rw[<-C.out];exact ah)]
   exact⟨S.out,.inr ⟨by rw[d];decide,by rw[d];rfl⟩⟩
  have hi:¬(32:Int)<(n:Int):=by omega
  have Qx:= @run_makeMap prog;have tL:w.heap.size<b.heap.size+1:=by omega
  have KG:w.heap.size<b.heap.size+1+1:=by omega
  have ag:w.heap.size<b.heap.size+1+1+1:=by omega
  have ae:l.length<=32:=by rw[<-C.out];omega
  have GH:=za (rA I.out ae);by_cases p:c.fm=1;focus
   have k1:((c.fm:Int)==1)=true:=xd.2 p;have W:sZ c= .func (.func 41) #[.agg #[.int .i64 c.de,.int .i64 c.it]] #[]:=by unfold sZ x';rw[zl p]
   have H:pM c= .func (.func 42) #[.agg #[.int .i64 c.de,.int .i64 c.it]] #[]:=by unfold pM x';rw[zl p]
   clear p
  rotate_left
  focus
   have k1:((c.fm:Int)==1)=false:=zr.2 p;have W:sZ c= .func (.func 39) #[.agg #[.int .i64 c.de,.int .i64 c.it]] #[]:=by unfold sZ x';rw[zj p]
   have H:pM c= .func (.func 40) #[.agg #[.int .i64 c.de,.int .i64 c.it]] #[]:=by unfold pM x';rw[zj p]
   clear p
  all_goals
   obtain⟨s,r⟩:∃s,(((b.alloc (.cells #[.int .i64 c.de,.int .i64 c.it] 87)).alloc (.map #[] 0)).alloc (.map #[] 0)).alloc (.cells #[.int .i64 c.fm,.int .u32 c.mg,.int .i64 c.fr,.int .i64 c.un,.int .i64 c.de,.int .i64 c.it,.map (some (b.heap.size+1)),.map (some (b.heap.size+1+1)),sZ c,pM c] 95)=s:=⟨_,rfl⟩
   have aa:lO s w.heap.size s.heap.size (b.heap.size+1+1+1) (b.heap.size+1) (b.heap.size+1+1) c []:=lO.fresh (w:=b.alloc (.cells #[.int .i64 c.de,.int .i64 c.it] 87)) (by unfold rgC;exact r) (by simp) (by omega);have bP:Below w.heap.size w s:=by rw[<-r];exact((((S.out.alloc (by omega) _).alloc (by simp;omega) _).alloc (by simp;omega) _).alloc (by simp;omega) _)
   have Sd:=za aa;have dT:=za bP;rw[W,H]at r;have AJ:=za r;clear r aa bP W H;go_wp2_with fail
   rw[AJ.out];clear c0 c1 c2 c3 c4 c5 k1 Qx tL KG ag;go_loopw [45] (fun i wr=>∃(k:Nat) (rows:List bV),k<=n/\i= .int .i64 k/\Hid (lO wr w.heap.size wr.heap.size (b.heap.size+1+1+1) (b.heap.size+1) (b.heap.size+1+1) c rows)/\Hid (aJ rows=l.take k)/\Hid (iP c (l.take k) (l.drop k)=iP c [] l)/\Hid (Below w.heap.size w wr)) (fun i _=>n-(intOf i).toNat)
   case atStart=>exact⟨0,[],by omega,by go_num,Sd,za rfl,za (by simp),dT⟩
   case round=>
    obtain⟨k,rows,hk,rfl,HM,N,HT,u⟩:=hrel;clear Sd dT;by_cases Xf:k<n
    ·skip
     have m:k<l.length:=by have:=C.out;omega
     obtain⟨ge,o,hA,ko,e0,e1,e2⟩:=(HV.out.below (u.out.mono hB)).at_ (j:=k) m;subst hA;obtain⟨fw,RP⟩:=vB HT.out m;have X:=HS.out _ (zM m);obtain⟨h,G⟩:∃h,l[k]=h:=⟨_,rfl⟩
     rw[G]at e0 e1 e2 fw RP X;have Ar:l.take (k+1)=l.take k++ [h]:=by rw[Ye,zB m,G];rfl
     have hG:=u.out.size;obtain⟨z,L⟩:∃z,wr.alloc (.cells #[.int .u64 h.id,.string h.name,.string h.ty] 57)=z:=⟨_,rfl⟩
     have x:Below wr.heap.size wr z:=by rw[<-L];exact(zq _ wr).alloc (zf _) _
     have Z:=za (Ts w.heap.size wr.heap.size _ _ _ c rows h z (HM.out.below x) (HL.out.below (u.out.trans (x.mono hG)) hp) hp X);have gJ:=za (u.out.trans (x.mono hG));have qI:=za L;have TQ:=za Ar;clear L x G X Ar;go_wp2_with fail
     rw[qI.out];refine Z.out.mono ?_;rintro e E ⟨rfl,ho,M⟩;rw[N.out]at M⊢;have HO:=za (gJ.out.trans (ho.below gJ.out.size (by simp;omega)));have YR:=za M;generalize gd c (l.take k) h=EE at*;clear ho M Z e0 e1 e2;rcases eF EE with⟨y,z1,z2⟩|⟨y,z1,z2⟩
     ·subst y;obtain⟨vv,ad⟩:=YR.out rfl;have HN:=za ad;have U:=za (RP rfl);clear ad fw RP;go_wp2;go_roundw
      case rel=>
       have key:∃(q:Nat) (rows:List bV),q<=n/\Value.int .i64 ((k:Int)+1)= .int .i64 q/\Hid (lO E w.heap.size E.heap.size (b.heap.size+1+1+1) (b.heap.size+1) (b.heap.size+1+1) c rows)/\Hid (aJ rows=l.take q)/\Hid (iP c (l.take q) (l.drop q)=iP c [] l)/\Hid (Below w.heap.size w E):=⟨k+1,rows++ [(h,vv)],by omega,by go_num,HN,za (by rw[TQ.out,<-N.out];simp[aJ]),U,HO⟩
       first|exact key|((repeat apply Exists.intro);exact⟨key,rfl⟩)
      case measure=>simp[intOf];omega
     have U:=za (fw y);clear fw RP;go_wp2;go_ret2
     have d:oH c l=EE:=by rw[GH.out];exact U.out
     exact⟨HO.out,.inr ⟨by rw[d];exact y,by rw[d];rfl⟩⟩
    skip
    have m:k=l.length:=by have:=C.out;omega
    have d:oH c l=0:=by
     rw[GH.out];have h1:=HT.out;rw[m]at h1;exact BQ h1
    have ab:aJ rows=l:=by rw[N.out,m];simp
    have HF:=za d;have HG:=za ab;clear m d ab;go_wp2;go_ret2
    exact⟨u.out,.inl ⟨HF.out,_,_,_,rows,rfl,HM.out,HG.out⟩⟩
theorem IL {l:List UInt8}{t:Ty}(h:cI l=some t):t.may=true:=by
 unfold cI at h;split at h
 ·rename_i x hx
  cases hm:x.may with
  |true=>rw[hm,zl rfl]at h;injection h with h;rw[<-h];exact hm
  |false=>rw[hm]at h;cases h
 cases h
theorem MM {t:Ty}(h:t.may=true):t.count<=64:=by
 simp only[Ty.may,zF,yj]at h;omega
theorem FJ {l:List bA}{p:bA->Bool}{k:Nat}(h:∀j (b:j<l.length),j<k->p l[j]=false):(l.take k).any p=false:=by
 rw[xY];intro e c;obtain⟨j,b,rfl⟩:=yZ c;rw[yc]at b;rw[List.getElem_take];rw[h j (by omega) (by omega)];simp
theorem PY {l:List bA}{p:bA->Bool}{k j:Nat}(c:k<=l.length)(b:j<k)(h:p (l[j]'(by omega))=true):(l.take k).any p=true:=
 Zk.2 ⟨l[j]'(by omega),by rw[List.mem_take_iff_getElem];exact⟨j,by omega,rfl⟩,h⟩
theorem IM (c:aR)(l:List bA)(v:Value)(B:Nat)(w:World)(hv:rj w B v l)(K:B<=w.heap.size)(hs:∀e∈l,pN e):
 Calls prog 8 #[c.val,v] w fun e w'=>e= .returned (.int .i64 (oH c l))/\Below w.heap.size w w':=by
 obtain⟨A,n,cap,rfl,hn,av,lI⟩:=hv.dk;have HR:=za (C2 c (w.alloc (.cells #[.int .i64 c.fm,.int .u32 c.mg,.int .i64 c.fr,.int .i64 c.un,.int .i64 c.de,.int .i64 c.it] 24)));have kz:=(zq w.heap.size w).alloc (zf _) (.cells #[.int .i64 c.fm,.int .u32 c.mg,.int .i64 c.fr,.int .i64 c.un,.int .i64 c.de,.int .i64 c.it] 24);have DE:=af.new w 24 #[.int .i64 c.fm,.int .u32 c.mg,.int .i64 c.fr,.int .i64 c.un,.int .i64 c.de,.int .i64 c.it];have H:=za hv;have HS:=za hs;unfold aR.val at*;obtain⟨rt,Dq⟩:∃rt,c.right=rt:=⟨_,rfl⟩
 rw[Dq]at HR;have Gg:=za Dq;clear hv hs Dq;go_enter func8,ntmps8
 go_wp2_with fail
 refine HR.out.mono ?_;rintro e w1 ⟨rfl,aI⟩;have cq:=za (kz.trans (aI.mono (by simp)));have X8:=za (DE.ah aI (by simp));clear kz aI DE HR;cases rt with
 |false=>
  go_wp2;go_ret;have d:oH c l=1:=by unfold oH;rw[zl Gg.out]
  exact⟨by rw[d];rfl,cq.out⟩
 |true=>
  by_cases ao:32<n
  ·have hi:(32:Int)<(n:Int):=by omega
   go_wp2;go_ret;have d:oH c l=4:=by unfold oH;rw[zj (by simp[Gg.out]),zl (by rw[<-hn.out];exact ao)]
   exact⟨by rw[d];rfl,cq.out⟩
  have hi:¬(32:Int)<(n:Int):=by omega
  have ah:l.length<=32:=by rw[<-hn.out];omega
  have L:=za (rA Gg.out ah);clear ah Gg;go_wp2_with fail
  go_loopw [5] (fun i wr=>∃k:Nat,i= .int .i64 k/\k<=n/\Hid (iP c (l.take k) (l.drop k)=iP c [] l)/\Hid (Below w.heap.size w wr)/\Hid (af wr w.heap.size 24 #[.int .i64 c.fm,.int .u32 c.mg,.int .i64 c.fr,.int .i64 c.un,.int .i64 c.de,.int .i64 c.it])) (fun i _=>n-(intOf i).toNat)
  case atStart=>exact⟨0,rfl,by omega,za (by simp),cq,X8⟩
  case round=>
   obtain⟨k,rfl,hk,HT,Y,HC⟩:=hrel;clear cq X8;by_cases Xf:k<n
   ·have s:k<l.length:=by have:=hn.out;omega
    obtain⟨ge,o,hA,ko,e0,e1,Z⟩:=(H.out.below (Y.out.mono K)).at_ (j:=k) s;subst hA;obtain⟨fw,RP⟩:=vB HT.out s;have Sf:=HS.out _ (zM s);obtain⟨b,qm⟩:∃b,l[k]=b:=⟨_,rfl⟩
    rw[qm]at e0 e1 Z fw RP Sf;have ax:=Sf.name;have aw:=Sf.ty;have mf:=za qm;have X:=za fw;have ai:=za RP;have r:Hid (gd c (l.take k) b=if b8 b.name=false then 11 else if((l.take k).any fun x=>decide (x.name=b.name))=true then 11 else if((l.take k).any fun x=>decide (x.id=b.id))=true then 1 else if cI b.ty.data.toList=none then 3 else if c.fm=1/\b.shape.flat=false then 12 else 0):=za rfl;have ag:=za (fun V=>LS b.name V (by omega));clear qm fw RP Sf;generalize wr=w2 at*;go_wp2_with fail
    refine(ag.out _).mono ?_;rintro e w' ⟨rfl,rfl⟩;cases hmy:b8 b.name with
    |false=>
     have d:oH c l=11:=by
      have q:gd c (l.take k) b=11:=by rw[r.out,zl hmy]
      rw[L.out,X.out (by rw[q];decide),q]
     go_wp2;go_ret;exact⟨by rw[d];rfl,Y.out⟩
    |true=>
     rw[zj (by simp[hmy])]at r;clear ag hmy;go_wp2_with fail
     go_loopw [6] (fun i wr=>∃m:Nat,i= .int .i64 m/\m<=k/\Hid (∀j (u:j<l.length),j<m->decide (l[j].name=b.name)=false)/\Hid (Below w2.heap.size w2 wr)) (fun i _=>k-(intOf i).toNat)
     case atStart=>exact⟨0,rfl,by omega,za (by omega),za (zq _ _)⟩
     case round=>
      obtain⟨m,rfl,hm,E,ji⟩:=hrel;have J:=za (Y.out.trans (ji.out.mono Y.out.size));generalize wr=w3 at*;by_cases al:m<k
      ·have aq:m<n:=by omega
       have TO:m<l.length:=by omega
       obtain⟨g',o',p,Ql,d0,d1,d2⟩:=(H.out.below (J.out.mono K)).at_ (j:=m) TO;injection p with p;injection p with hA1 hA2;subst hA1 hA2;obtain⟨g',o',p,_,f0,f1,f2⟩:=(H.out.below (J.out.mono K)).at_ (j:=k) s;injection p with p;injection p with hA1 hA2;subst hA1 hA2;rw[mf.out]at f0 f1 f2;obtain⟨z,G⟩:∃z,l[m]=z:=⟨_,rfl⟩
       rw[G]at d0 d1 d2;have O:=za G;clear G;clear d0 d2 e0 Z f0 f2;rcases ph z.name b.name with⟨y,q1,q2⟩|⟨y,q1,q2⟩
       ·have d:oH c l=11:=by
         have q:gd c (l.take k) b=11:=by rw[r.out,zl (PY (Ys s) al (by rw[O.out];exact zH y))]
         rw[L.out,X.out (by rw[q];decide),q]
        have C:=za d;clear d y;go_wp2_with fail
        go_quiet (fail)
        go_wp2;go_ret;exact⟨by rw[C.out];rfl,Below.bB J.out _⟩
       have Gz:Hid (∀j (u:j<l.length),j<m+1->decide (l[j].name=b.name)=false):=za (fun j u an=>by
        by_cases h:j=m
        ·subst h;rw[O.out];exact zz y
        exact E.out j u (by omega))
       clear y;go_wp2_with fail
       go_quiet (fail)
       go_wp2;go_roundw
       case rel=>exact⟨m+1,by go_num,by omega,Gz,za (Below.bB ji.out _)⟩
       case measure=>simp[intOf];omega
      skip
      have S:Hid (((l.take k).any fun x=>decide (x.name=b.name))=false):=za (FJ (fun j u Qv=>E.out j u (by omega)));rw[S.out,zj (by simp)]at r;clear S E;go_wp2_with fail
      go_loopw [7] (fun i wr=>∃m:Nat,i= .int .i64 m/\m<=k/\Hid (∀j (u:j<l.length),j<m->decide (l[j].id=b.id)=false)/\Hid (Below w3.heap.size w3 wr)) (fun i _=>k-(intOf i).toNat)
      case atStart=>exact⟨0,rfl,by omega,za (by omega),za (zq _ _)⟩
      case round=>
       obtain⟨N,rfl,au,E,gJ⟩:=hrel;have D:=za (J.out.trans (gJ.out.mono J.out.size));generalize wr=w4 at*;by_cases ar:N<k
       ·have aq:N<n:=by omega
        have TO:N<l.length:=by omega
        obtain⟨m,Qx⟩:∃m,m=N:=⟨N,rfl⟩
        subst Qx;obtain⟨g',o',p,Ql,d0,d1,d2⟩:=(H.out.below (D.out.mono K)).at_ (j:=m) TO;injection p with p;injection p with hA1 hA2;subst hA1 hA2;obtain⟨g',o',p,_,f0,f1,f2⟩:=(H.out.below (D.out.mono K)).at_ (j:=k) s;injection p with p;injection p with hA1 hA2;subst hA1 hA2;rw[mf.out]at f0 f1 f2;obtain⟨z,G⟩:∃z,l[m]=z:=⟨_,rfl⟩
        rw[G]at d0 d1 d2;have O:=za G;clear G;clear d1 d2 e1 Z f1 f2;by_cases y:z.id=b.id
        ·have q1:((z.id:Int)==(b.id:Int))=true:=xd.2 (by omega);have d:oH c l=1:=by
          have q:gd c (l.take k) b=1:=by rw[r.out,zl (PY (Ys s) ar (by rw[O.out];exact zH y))]
          rw[L.out,X.out (by rw[q];decide),q]
         have C:=za d;clear d y;go_wp2_with fail
         go_quiet (fail)
         go_wp2;go_ret;exact⟨by rw[C.out];rfl,Below.bB D.out _⟩
        have q1:((z.id:Int)==(b.id:Int))=false:=zr.2 (by omega);have Gz:Hid (∀j (u:j<l.length),j<m+1->decide (l[j].id=b.id)=false):=za (fun j u an=>by
         by_cases h:j=m
         ·subst h;rw[O.out];exact zz y
         exact E.out j u (by omega))
        clear y;go_wp2_with fail
        go_quiet (fail)
        go_wp2;go_roundw
        case rel=>exact⟨m+1,by go_num,by omega,Gz,za (Below.bB gJ.out _)⟩
        case measure=>simp[intOf];omega
       have S:Hid (((l.take k).any fun x=>decide (x.id=b.id))=false):=za (FJ (fun j u Qv=>E.out j u (by omega)));rw[S.out,zj (by simp)]at r;clear S E;obtain⟨g',o',p,_,f0,f1,f2⟩:=(H.out.below (D.out.mono K)).at_ (j:=k) s;injection p with p;injection p with hA1 hA2;subst hA1 hA2;rw[mf.out]at f0 f1 f2;have ay:=J.out.size;have ae:=za ((HC.out.ah ji.out HC.out.lt).ah gJ.out (by have:=HC.out.lt;have:=ji.out.size;omega));have HG:=za (IK b.ty w4 (by omega));obtain⟨T,hT⟩:∃T,cI b.ty.data.toList=T:=⟨_,rfl⟩
       rw[hT]at HG r;have aj:=za hT;clear e0 e1 Z f0 f1 hT;go_wp2_with fail
       refine HG.out.mono ?_;rintro e W dB;cases T with
       |none=>
        obtain⟨I,rfl⟩:=dB;have d:oH c l=3:=by
         have q:gd c (l.take k) b=3:=by rw[r.out,zl rfl]
         rw[L.out,X.out (by rw[q];decide),q]
        have C:=za d;have R:=za (D.out.trans (I.mono D.out.size));clear d I;go_wp2;go_ret;exact⟨by rw[C.out];rfl,R.out.alloc R.out.size _⟩
       |some t=>
        obtain⟨I,d0,d1,d2,d3,rfl,nK⟩:=dB;have vZ:b.shape=t:=by unfold bA.shape;rw[aj.out];rfl
        rw[zj (by simp),vZ]at r;obtain⟨A5,fS,rfl,rfl,rfl,rfl,_⟩:=nK.open_;have aa:=ae.out.ah I ae.out.lt;have az:w.heap.size<W.heap.size:=aa.lt;have R:=za (D.out.trans (I.mono D.out.size));have U:Hid (Below w.heap.size w (W.alloc (.cells #[.int .i64 t.kind,.int .i64 t.size,.slice A5 t.sub.length fS,.int .i64 t.tail] 64))):=za (R.out.alloc R.out.size _);have ab:=za (aa.alloc (.cells #[.int .i64 t.kind,.int .i64 t.size,.slice A5 t.sub.length fS,.int .i64 t.tail] 64));have X1:=za (Mt t _ (W.alloc (.cells #[.int .i64 t.kind,.int .i64 t.size,.slice A5 t.sub.length fS,.int .i64 t.tail] 64)) _ _ _ _ ((nK.below ((zq _ W).alloc (zf _) _)).wY) (zf _) (by have:=MM (IL aj.out);omega));have c0:W.cell? ⟨w.heap.size,0,none⟩=some (.int .i64 c.fm):=aa.cell 0;clear I nK aa vZ f2;by_cases F:c.fm=1
        ·have k1:((c.fm:Int)==1)=true:=xd.2 F;cases lY:t.flat with
         |false=>
          have d:oH c l=12:=by
           have q:gd c (l.take k) b=12:=by rw[r.out,zl ⟨F,lY⟩]
           rw[L.out,X.out (by rw[q];decide),q]
          rw[lY]at X1;have C:=za d;clear d F lY;go_wp2_with fail
          refine X1.out.mono ?_;rintro e w6 ⟨rfl,M⟩;have ad:=za (U.out.trans (M.mono U.out.size));clear M;go_wp2;go_ret;exact⟨by rw[C.out];rfl,ad.out⟩
         |true=>
          have tN:=za (ai.out (by rw[r.out,zj (by simp[lY])]));rw[lY]at X1;clear F lY;go_wp2_with fail
          refine X1.out.mono ?_;rintro e w6 ⟨rfl,M⟩;have ad:=za (U.out.trans (M.mono U.out.size));have ak:=za (ab.out.ah M ab.out.lt);clear M;go_wp2;go_roundw
          case rel=>exact⟨k+1,by go_num,by omega,tN,ad,ak⟩
          case measure=>simp[intOf];omega
        have k1:((c.fm:Int)==1)=false:=zr.2 F;have tN:=za (ai.out (by rw[r.out,zj (by simp[F])]));clear F;go_wp2;go_roundw
        case rel=>exact⟨k+1,by go_num,by omega,tN,U,ab⟩
        case measure=>simp[intOf];omega
   have s:k=l.length:=by have:=hn.out;omega
   have d:oH c l=0:=by
    rw[L.out];have q:=HT.out;rw[s]at q;exact BQ q
   have C:=za d;clear s d;go_wp2;go_ret;exact⟨by rw[C.out];rfl,Y.out⟩
theorem FK (a b:ByteArray)(x y:It)(B:Nat)(w:World)(s q z o p u:Value)(hx:bZ w B x s q z)(k:bZ w B y o p u)(m:B<=w.heap.size):
 Calls prog 15 #[.agg #[.string a,s,q,z],.agg #[.string b,o,p,u]] w fun e w'=>(∃r:Bool,e= .returned (.bool r)/\(r=true↔a=b/\x=y))/\Below w.heap.size w w':=by
 obtain⟨I,C,rfl,rfl,rfl,_⟩:=hx.open_;obtain⟨E,F,rfl,rfl,rfl,_⟩:=k.open_;obtain⟨W,l⟩:∃W,(w.alloc (.cells #[.string a,.string x.text,.bool x.list,.slice I x.sub.length C] 30)).alloc (.cells #[.string b,.string y.text,.bool y.list,.slice E y.sub.length F] 30)=W:=⟨_,rfl⟩
 have d:Below w.heap.size w W:=by rw[<-l];exact((zq _ w).alloc (zf _) _).alloc (by simp) _
 have A:=za (Md x B W _ _ _ (hx.below (d.mono m)) (zK m d.size) y _ _ _ (k.below (d.mono m)));have i:=za d;have n:=za l;clear hx k d l;rcases ph a b with⟨c,J,D⟩|⟨c,J,D⟩
 ·have j:=za c;clear c;go_enter func15,ntmps15
  go_wp2_with fail
  rw[n.out];refine A.out.mono ?_;rintro e K ⟨⟨r,rfl,H⟩,G⟩;go_wp2;go_ret;exact⟨⟨r,rfl,H.trans ⟨fun h=>⟨j.out,h⟩,fun h=>h.2⟩⟩,i.out.trans (G.mono i.out.size)⟩
 have j:=za c;clear c;go_enter func15,ntmps15
 go_wp2;first|rw[n.out]|skip
 go_ret;exact⟨⟨false,rfl,⟨(by intro h;cases h),fun h=>absurd h.1 j.out⟩⟩,by first|exact i.out|(rw[<-n.out]at i;exact i.out)|exact bN⟩
