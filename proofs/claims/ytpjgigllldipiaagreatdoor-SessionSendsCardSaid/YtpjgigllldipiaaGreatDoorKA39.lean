/- package registry: Encode. -/
import Derived.Test.YtpjgigllldipiaaGreatDoorKA24
import Derived.Test.YtpjgigllldipiaaGreatDoorKA38
import Derived.Test.YtpjgigllldipiaaGreatDoorKA42
import Derived.Test.YtpjgigllldipiaaGreatDoorKA44
import Derived.Test.YtpjgigllldipiaaGreatDoorKA45
set_option linter.all false
set_option maxRecDepth 100000
set_option maxHeartbeats 3200000
namespace Go.Proofs.YtpjgigllldipiaaGreatDoor
open Go.RowKit
def yp:=@heap_alloc_old
def yW:=@List.getElem?_cons_zero
def y8:=@List.getElem?_toArray
def Z2:=@Tryz.results27
def abU (w:World)(S:Nat->Prop)(o:Option bF)(a0:Nat)(a1 a2:ByteArray)(a3 a4:Int)(A:Option Addr)(n cap:Nat)(a6:Int)(b:Bool):Prop:=
 (o=none/\b=false/\a0=0/\a1=⟨#[]⟩/\a2=⟨#[]⟩)\/∃e,o=some e/\b=true/\a0=e.id/\a1=e.name/\a2=e.ty/\fy w S e.shape (.int .i64 a3) (.int .i64 a4) (.slice A n cap) (.int .i64 a6)/\pV e/\cI e.ty.data.toList=some e.shape
theorem KJ {w:World}{E hi g u C:Nat}{c:aS}{l:List bV}(h:lS w E hi g u C c l){o:Option bF}{a0:Nat}{q p:ByteArray}{a3 a4:Int}{A:Option Addr}{n cap:Nat}{s:Int}{b:Bool}(i:Pt l o a0 q p a3 a4 A n cap s b):abU w (fun k=>g<k/\k<hi) o a0 q p a3 a4 A n cap s b:=by
 rcases i with⟨j,m,d⟩|⟨r,i,j,m,d⟩
 ·simp[CO]at d;exact .inl ⟨j,m,by omega,d.2.1,d.2.2.1⟩
 obtain⟨L,K,J,I,e,x⟩:=h.rows r i;rw[e]at d;simp at d;obtain⟨H,D,F,y,G,z,B⟩:=d;subst y G z B;exact .inr ⟨r.1,j,m,by omega,D,F,x,h.sz r i,h.ok.ty r.1 (xP.2 ⟨r,i,rfl⟩)⟩
theorem TF (lo hi g m gi:Nat)(c:aS)(l:List bV)(nm:ByteArray)(x:It)(B:Nat)(w:World)(c0 c1 c2:Value)(h:lS w lo hi g m gi c l)(hI:bW w B x c0 c1 c2)(hB:B<=w.heap.size)(hL:Laid w)(iS:bn w)(hl:c.fm≠1->x.fJ.length<=1099511627776):
 Calls Tryz.prog 27 #[.pointer (some ⟨g,0,none⟩),.agg #[.string nm,c0,c1,c2]] w fun e w'=>e= .returned (.tuple #[(bz c (aJ l) nm x).1.val,.int .i64 (bz c (aJ l) nm x).2])/\Below w.heap.size w w':=by
 have wV:g<w.heap.size:=yf h.g2 h.his;have ai:m<w.heap.size:=h.nm.lt;obtain⟨z,D,rfl,rfl,rfl,_⟩:=hI.open_;obtain⟨W,I⟩:∃W,(w.alloc (.cells #[.string nm,.string x.text,.bool x.list,.slice z x.sub.length D] 30)).alloc (.cells #[.int .u64 0,.string ⟨#[]⟩,.string ⟨#[]⟩] 74)=W:=⟨_,rfl⟩
 have H:Below w.heap.size w W:=by rw[<-I];exact((zq _ w).alloc (zi _) _).alloc (by simp) _
 have VP:W.heap.size=w.heap.size+2:=by rw[<-I];simp
 have Ce:af W w.heap.size 30 #[.string nm,.string x.text,.bool x.list,.slice z x.sub.length D]:=by rw[<-I];exact(af.new w _ _).alloc _
 have pn:af W (w.heap.size+1) 74 #[.int .u64 0,.string ⟨#[]⟩,.string ⟨#[]⟩]:=by rw[<-I];exact af.at_ (by simp)
 obtain⟨a0,J,a2,a3,a4,A,n,cap,k,b,qx,nM⟩:=CY h nm;have Cd:=za (KJ h qx);have rN:=za nM;have Cc:=za (h.below (H.mono h.his));have HS:Hid (∀V:World,V.heap[g]?=W.heap[g]?/\V.heap[m]?=W.heap[m]?/\V.heap[w.heap.size]?=W.heap[w.heap.size]?->V.cell? ⟨g,6,none⟩=some (.map (some m))/\V.cell? ⟨w.heap.size,0,none⟩=some (.string nm)/\ja V m (Ag l)):=za (fun V d=>⟨af.cell (show af V g _ _ from d.1.trans Cc.out.blk) 6,af.cell (show af V w.heap.size _ _ from d.2.2.trans Ce) 0,Cc.out.nm.ag d.2.1⟩);have ag:=za (hI.below (H.mono hB));have l6:=za Ce;have cl:=za pn;have fL:=za H;have HW:=za I;have GP:=za (hL.below H hL.pos);have RB:=za (iS.below H iS.pos);have mn:Hid (bz c (aJ l) nm x=match fB (aJ l) nm with
  |none=>(mw,11)
  |some e=>if(bQ c e.shape x).2≠0 then(mw,(bQ c e.shape x).2)else if c.fm=1 then(⟨0,e.name,(bQ c e.shape x).1⟩,0)else(⟨e.id,ByteArray.empty,(bQ c e.shape x).1⟩,0)):=za rfl
 generalize bz c (aJ l) nm x=ae at*;generalize fB (aJ l) nm=aj at*;clear h hI hL iS I H Ce pn qx nM;go_enter Tryz.func27,Tryz.ntmps27
 go_wp2_with fail
 rw[HW.out];refine aB 12 (fun V=>V.cell? ⟨g,6,none⟩=some (.map (some m))/\V.cell? ⟨w.heap.size,0,none⟩=some (.string nm)/\ja V m (Ag l)) (by kernel_rfl) (by kernel_rfl) ?_;have hHeld:=HS.out W.drew ⟨rfl,rfl,rfl⟩;refine GT.jD [0,1,2,3,4,5,6,7,8,9] hHeld (fun _ _ _ _ _ h=>h) (by kernel_rfl) ?_;iterate 6 (refine .c rfl rfl (fun V d=>by go_simp<;>with_reducible rfl) ?_;simp only[Act.put,zb,ze,zf])
 refine .c (v:= .tuple #[.agg #[.int .u64 a0,.string J,.string a2,.int .i64 a3,.int .i64 a4,.slice A n cap,.int .i64 k],.bool b]) rfl rfl (fun V d=>by have hl:=rN.out V d.2.2;go_simp) ?_;try simp only[Act.put,zb,ze,zf];iterate 3 (refine .c rfl rfl (fun V d=>by go_simp<;>with_reducible rfl) ?_;simp only[Act.put,zb,ze,zf])
 refine .nil ?_;refine GT.fF 10 (fun K p=> ?_) rfl (by kernel_rfl);go_simp;have iP:(W.alloc (.cells #[.int .u64 0,.string ⟨#[]⟩,.string ⟨#[]⟩,.int .i64 0,.int .i64 0,.slice none 0 0,.int .i64 0] 98)).drew.heap[g]?=W.heap[g]?/\(W.alloc (.cells #[.int .u64 0,.string ⟨#[]⟩,.string ⟨#[]⟩,.int .i64 0,.int .i64 0,.slice none 0 0,.int .i64 0] 98)).drew.heap[m]?=W.heap[m]?/\(W.alloc (.cells #[.int .u64 0,.string ⟨#[]⟩,.string ⟨#[]⟩,.int .i64 0,.int .i64 0,.slice none 0 0,.int .i64 0] 98)).drew.heap[w.heap.size]?=W.heap[w.heap.size]?:=⟨yp _ _ (by omega),yp _ _ (by omega),yp _ _ (by omega)⟩
 refine p.out _ _ (HS.out _ iP) (fun hHeld=> ?_);clear p K;try simp only[Act.put,zb,ze,zf]
 refine GT.fF 11 (fun K p=> ?_) rfl (by kernel_rfl);go_simp;have ep:(W.alloc (.cells #[.int .u64 a0,.string J,.string a2,.int .i64 a3,.int .i64 a4,.slice A n cap,.int .i64 k] 98)).drew.heap[g]?=W.heap[g]?/\(W.alloc (.cells #[.int .u64 a0,.string J,.string a2,.int .i64 a3,.int .i64 a4,.slice A n cap,.int .i64 k] 98)).drew.heap[m]?=W.heap[m]?/\(W.alloc (.cells #[.int .u64 a0,.string J,.string a2,.int .i64 a3,.int .i64 a4,.slice A n cap,.int .i64 k] 98)).drew.heap[w.heap.size]?=W.heap[w.heap.size]?:=⟨yp _ _ (by omega),yp _ _ (by omega),yp _ _ (by omega)⟩
 refine p.out _ _ (HS.out _ ep) (fun hHeld=> ?_);clear p K;try simp only[Act.put,zb,ze,zf]
 refine GT.oP 12 ?_ rfl (by kernel_rfl);go_simp;obtain⟨i,Z⟩:∃i,(W.alloc (.cells #[.int .u64 a0,.string J,.string a2,.int .i64 a3,.int .i64 a4,.slice A n cap,.int .i64 k] 98)).drew=i:=⟨_,rfl⟩
 have y:Below W.heap.size W i:=by rw[<-Z];exact((zq _ W).alloc (zi _) _).drew
 have Gg:af i (w.heap.size+2) 98 #[.int .u64 a0,.string J,.string a2,.int .i64 a3,.int .i64 a4,.slice A n cap,.int .i64 k]:=by rw[<-Z];exact af.drew (af.at_ VP)
 have C:=za (Cc.out.below (y.mono Cc.out.his));have Uo:=za (l6.out.ag y (by omega));have NR:=za (cl.out.ag y (by omega));have O:=za Gg;have wW:=za (fL.out.trans (y.mono (by omega)));have qD:=za (ag.out.below (y.mono (by omega)));have NS:=za (GP.out.below y GP.out.pos);have RC:=za (RB.out.below y RB.out.pos);have cA:w.heap.size+2<i.heap.size:=Gg.lt;rw[Z];clear iP ep Z y Gg rN HS hHeld;rcases Cd.out with⟨rfl,rfl,rfl,rfl,rfl⟩|⟨e,rfl,rfl,rfl,rfl,rfl,nO,ah,Dx⟩
 ·obtain⟨q0,q1,q2,VH,ab,ad⟩:=a8 NR.out;go_wp2;obtain⟨u,s,r⟩:=fq NR.out (.int .u64 0) (.string ⟨#[]⟩) (.string ⟨#[]⟩);refine zp (v:= .tuple #[.agg #[.int .u64 0,.string ⟨#[]⟩,.string ⟨#[]⟩],.int .i64 11]) (by simp[results,Z2,go_sem,u,s,r]) rfl ?_;rw[mn.out];exact⟨rfl,((wW.out.setCell (by simp) _).setCell (by simp) _).setCell (by simp) _⟩
 have Oa:=za ((nO.below wW.out).Aj);obtain⟨u0,u1,u2,u3,u4,u5,u6⟩:=mQ O.out;have q:Hid (ae=if(bQ c e.shape x).2≠0 then(mw,(bQ c e.shape x).2)else if c.fm=1 then(⟨0,e.name,(bQ c e.shape x).1⟩,0)else(⟨e.id,ByteArray.empty,(bQ c e.shape x).1⟩,0)):=mn;clear mn;clear nO;by_cases o:c.fm=1
 ·have M:ti c= .func (.func 41) #[.agg #[.int .i64 c.de,.int .i64 c.it]] #[]:=by unfold ti Al;rw[zl o]
  have aa:Hid (∀V,Below i.heap.size i V->Calls Tryz.prog 41 #[.agg #[.int .i64 c.de,.int .i64 c.it],.agg #[.int .i64 a3,.int .i64 a4,.slice A n cap,.int .i64 k],.agg #[.string x.text,.bool x.list,.slice z x.sub.length D]] V fun L w'=>L= .returned (.tuple #[.string (bQ c e.shape x).1,.int .i64 (bQ c e.shape x).2])/\Below V.heap.size V w'):=za (fun V d=>by
   unfold bQ;rw[zl o];exact FM e.shape x c.de c.it i.heap.size V _ _ _ _ _ _ _ (Oa.out.below d) ((qD.out.below (d.mono (by omega))).mono (by omega)) d.size (NS.out.below d NS.out.pos) (RC.out.below d RC.out.pos))
  rw[zl o]at q;have YH:((c.fm:Int)==1)=true:=xh.2 o;have R:Hid (∀V,Below i.heap.size i V->V.cell? ⟨g,8,none⟩=some (.func (.func 41) #[.agg #[.int .i64 c.de,.int .i64 c.it]] #[])/\V.cell? ⟨w.heap.size+2,3,none⟩=some (.int .i64 a3)/\V.cell? ⟨w.heap.size+2,4,none⟩=some (.int .i64 a4)/\V.cell? ⟨w.heap.size+2,5,none⟩=some (.slice A n cap)/\V.cell? ⟨w.heap.size+2,6,none⟩=some (.int .i64 k)/\V.cell? ⟨w.heap.size,1,none⟩=some (.string x.text)/\V.cell? ⟨w.heap.size,2,none⟩=some (.bool x.list)/\V.cell? ⟨w.heap.size,3,none⟩=some (.slice z x.sub.length D)):=za (fun V d=>by
   obtain⟨_,_,_,y3,y4,y5,y6⟩:=mQ (O.out.ag d (by omega));obtain⟨_,F,z2,z3,_⟩:=aL (Uo.out.ag d (by omega));have X:=(C.out.below (d.mono C.out.his)).cells.2.2.2.1;rw[M]at X;exact⟨X,y3,y4,y5,y6,F,z2,z3⟩)
  generalize (bQ c e.shape x).1=PS at*;generalize (bQ c e.shape x).2=PE at*;clear M o;go_wp2_with fail
  refine aB 14 (fun V=>V.cell? ⟨g,8,none⟩=some (.func (.func 41) #[.agg #[.int .i64 c.de,.int .i64 c.it]] #[])/\V.cell? ⟨w.heap.size+2,3,none⟩=some (.int .i64 a3)/\V.cell? ⟨w.heap.size+2,4,none⟩=some (.int .i64 a4)/\V.cell? ⟨w.heap.size+2,5,none⟩=some (.slice A n cap)/\V.cell? ⟨w.heap.size+2,6,none⟩=some (.int .i64 k)/\V.cell? ⟨w.heap.size,1,none⟩=some (.string x.text)/\V.cell? ⟨w.heap.size,2,none⟩=some (.bool x.list)/\V.cell? ⟨w.heap.size,3,none⟩=some (.slice z x.sub.length D)) (by kernel_rfl) (by kernel_rfl) ?_;have hHeld:=R.out i.drew bM;refine GT.jD [0,1,2,3,4,5,6,7,8] hHeld (fun _ _ _ _ _ h=>h) (by kernel_rfl) ?_;repeat(refine .c rfl rfl (fun V d=>by go_simp<;>with_reducible rfl) ?_;simp only[Act.put,zb,ze,zf])
  refine .nil ?_;refine GT.fF 9 (fun K p=> ?_) rfl (by kernel_rfl);go_simp;refine(aa.out i.drew bM).mono ?_;rintro L w3 ⟨rfl,Y⟩;go_wp2_with fail
  have j:Below i.heap.size i w3:=(show Below i.heap.size i i.drew from bM).trans Y;refine p.out _ _ (R.out w3 j) (fun hHeld=> ?_);clear p K;try simp only[Act.put,zb,ze,zf]
  refine GT.jD [10,11,12,13] hHeld (fun _ _ _ _ _ h=>h) (by kernel_rfl) ?_;repeat(refine .c rfl rfl (fun V d=>by go_simp<;>with_reducible rfl) ?_;simp only[Act.put,zb,ze,zf])
  refine .nil ?_;refine GT.oP 14 ?_ rfl (by kernel_rfl);go_simp;have g0:=(C.out.below (j.mono C.out.his)).cells.1;have E:=NR.out.ag j (by omega);have N:=O.out.ag j (by omega);have S:=za (wW.out.trans (j.mono (by omega)));have U:=za E;clear Y j hHeld u0 u1 u2 u3 u4 u5 u6;obtain⟨q0,q1,q2,VH,ab,ad⟩:=a8 E;obtain⟨u0,u1,u2,u3,u4,u5,u6⟩:=mQ N;clear E N;rcases eH PE with⟨G,F,z2⟩|⟨G,F,z2⟩
  ·subst G;rw[zj (by simp)]at q;go_wp2;obtain⟨u,s,r⟩:=fq U.out (.int .u64 0) (.string e.name) (.string PS);refine zp (v:= .tuple #[.agg #[(.int .u64 0),(.string e.name),.string PS],.int .i64 0]) (by simp[results,Z2,go_sem,u,s,r]) rfl ?_;rw[q.out];exact⟨rfl,((S.out.setCell (by simp) _).setCell (by simp) _).setCell (by simp) _⟩
  rw[zl G]at q;go_wp2;obtain⟨u,s,r⟩:=fq U.out (.int .u64 0) (.string ⟨#[]⟩) (.string ⟨#[]⟩);refine zp (v:= .tuple #[.agg #[.int .u64 0,.string ⟨#[]⟩,.string ⟨#[]⟩],.int .i64 PE]) (by simp[results,Z2,go_sem,u,s,r]) rfl ?_;rw[q.out];exact⟨rfl,((S.out.setCell (by simp) _).setCell (by simp) _).setCell (by simp) _⟩
 have M:ti c= .func (.func 39) #[.agg #[.int .i64 c.de,.int .i64 c.it]] #[]:=by unfold ti Al;rw[zj o]
 have aa:Hid (∀V,Below i.heap.size i V->Calls Tryz.prog 39 #[.agg #[.int .i64 c.de,.int .i64 c.it],.agg #[.int .i64 a3,.int .i64 a4,.slice A n cap,.int .i64 k],.agg #[.string x.text,.bool x.list,.slice z x.sub.length D]] V fun L w'=>L= .returned (.tuple #[.string (bQ c e.shape x).1,.int .i64 (bQ c e.shape x).2])/\Below V.heap.size V w'):=za (fun V d=>by
  unfold bQ;rw[zj o];exact MW e.shape x c.de c.it i.heap.size V _ _ _ _ _ _ _ (Oa.out.below d) ((qD.out.below (d.mono (by omega))).mono (by omega)) d.size (NS.out.below d NS.out.pos) (hl o))
 rw[zj o]at q;have YH:((c.fm:Int)==1)=false:=zr.2 o;have R:Hid (∀V,Below i.heap.size i V->V.cell? ⟨g,8,none⟩=some (.func (.func 39) #[.agg #[.int .i64 c.de,.int .i64 c.it]] #[])/\V.cell? ⟨w.heap.size+2,3,none⟩=some (.int .i64 a3)/\V.cell? ⟨w.heap.size+2,4,none⟩=some (.int .i64 a4)/\V.cell? ⟨w.heap.size+2,5,none⟩=some (.slice A n cap)/\V.cell? ⟨w.heap.size+2,6,none⟩=some (.int .i64 k)/\V.cell? ⟨w.heap.size,1,none⟩=some (.string x.text)/\V.cell? ⟨w.heap.size,2,none⟩=some (.bool x.list)/\V.cell? ⟨w.heap.size,3,none⟩=some (.slice z x.sub.length D)):=za (fun V d=>by
  obtain⟨_,_,_,y3,y4,y5,y6⟩:=mQ (O.out.ag d (by omega));obtain⟨_,F,z2,z3,_⟩:=aL (Uo.out.ag d (by omega));have X:=(C.out.below (d.mono C.out.his)).cells.2.2.2.1;rw[M]at X;exact⟨X,y3,y4,y5,y6,F,z2,z3⟩)
 generalize (bQ c e.shape x).1=PS at*;generalize (bQ c e.shape x).2=PE at*;clear M o;go_wp2_with fail
 refine aB 14 (fun V=>V.cell? ⟨g,8,none⟩=some (.func (.func 39) #[.agg #[.int .i64 c.de,.int .i64 c.it]] #[])/\V.cell? ⟨w.heap.size+2,3,none⟩=some (.int .i64 a3)/\V.cell? ⟨w.heap.size+2,4,none⟩=some (.int .i64 a4)/\V.cell? ⟨w.heap.size+2,5,none⟩=some (.slice A n cap)/\V.cell? ⟨w.heap.size+2,6,none⟩=some (.int .i64 k)/\V.cell? ⟨w.heap.size,1,none⟩=some (.string x.text)/\V.cell? ⟨w.heap.size,2,none⟩=some (.bool x.list)/\V.cell? ⟨w.heap.size,3,none⟩=some (.slice z x.sub.length D)) (by kernel_rfl) (by kernel_rfl) ?_;have hHeld:=R.out i.drew bM;refine GT.jD [0,1,2,3,4,5,6,7,8] hHeld (fun _ _ _ _ _ h=>h) (by kernel_rfl) ?_;repeat(refine .c rfl rfl (fun V d=>by go_simp<;>with_reducible rfl) ?_;simp only[Act.put,zb,ze,zf])
 refine .nil ?_;refine GT.fF 9 (fun K p=> ?_) rfl (by kernel_rfl);go_simp;refine(aa.out i.drew bM).mono ?_;rintro L w3 ⟨rfl,Y⟩;go_wp2_with fail
 have j:Below i.heap.size i w3:=(show Below i.heap.size i i.drew from bM).trans Y;refine p.out _ _ (R.out w3 j) (fun hHeld=> ?_);clear p K;try simp only[Act.put,zb,ze,zf]
 refine GT.jD [10,11,12,13] hHeld (fun _ _ _ _ _ h=>h) (by kernel_rfl) ?_;repeat(refine .c rfl rfl (fun V d=>by go_simp<;>with_reducible rfl) ?_;simp only[Act.put,zb,ze,zf])
 refine .nil ?_;refine GT.oP 14 ?_ rfl (by kernel_rfl);go_simp;have g0:=(C.out.below (j.mono C.out.his)).cells.1;have E:=NR.out.ag j (by omega);have N:=O.out.ag j (by omega);have S:=za (wW.out.trans (j.mono (by omega)));have U:=za E;clear Y j hHeld u0 u1 u2 u3 u4 u5 u6;obtain⟨q0,q1,q2,VH,ab,ad⟩:=a8 E;obtain⟨u0,u1,u2,u3,u4,u5,u6⟩:=mQ N;clear E N;rcases eH PE with⟨G,F,z2⟩|⟨G,F,z2⟩
 ·subst G;rw[zj (by simp)]at q;go_wp2;obtain⟨u,s,r⟩:=fq U.out (.int .u64 e.id) (.string ⟨#[]⟩) (.string PS);refine zp (v:= .tuple #[.agg #[(.int .u64 e.id),(.string ⟨#[]⟩),.string PS],.int .i64 0]) (by simp[results,Z2,go_sem,u,s,r]) rfl ?_;rw[q.out];exact⟨rfl,((S.out.setCell (by simp) _).setCell (by simp) _).setCell (by simp) _⟩
 rw[zl G]at q;go_wp2;obtain⟨u,s,r⟩:=fq U.out (.int .u64 0) (.string ⟨#[]⟩) (.string ⟨#[]⟩);refine zp (v:= .tuple #[.agg #[.int .u64 0,.string ⟨#[]⟩,.string ⟨#[]⟩],.int .i64 PE]) (by simp[results,Z2,go_sem,u,s,r]) rfl ?_;rw[q.out];exact⟨rfl,((S.out.setCell (by simp) _).setCell (by simp) _).setCell (by simp) _⟩
def U1 (w:World)(D:Int×Ms)(e:Ending)(w':World):Prop:=Below w.heap.size w w'/\∃d0 d1 d2 d3,e= .returned (.tuple #[.agg #[d0,d1,d2,d3],.int .i64 D.1])/\oN w' (w.heap.size<= ·) D.2 d0 d1 d2 d3
theorem Db (w:World)(S:Nat->Prop):oN w S ri (.string ⟨#[]⟩) (.string ⟨#[]⟩) (.bool false) (.slice none 0 0):=⟨rfl,by simp[ri,ByteArray.size],mX w S⟩
theorem hU {w:World}{g:Nat}{t:TypeId}{n l e z3:Value}(h:af w g t #[n,l,e,z3])(b c d v3:Value):(w.setCell ⟨g,0,none⟩ b).cell? ⟨g,0,none⟩=some b/\((w.setCell ⟨g,0,none⟩ b).setCell ⟨g,1,none⟩ c).cell? ⟨g,1,none⟩=some c/\(((w.setCell ⟨g,0,none⟩ b).setCell ⟨g,1,none⟩ c).setCell ⟨g,2,none⟩ d).cell? ⟨g,2,none⟩=some d/\((((w.setCell ⟨g,0,none⟩ b).setCell ⟨g,1,none⟩ c).setCell ⟨g,2,none⟩ d).setCell ⟨g,3,none⟩ v3).cell? ⟨g,3,none⟩=some v3:=by
 have k:af _ g t #[b,l,e,z3]:=h.store (i:=0) (u:=b) rfl;have m:af _ g t #[b,c,e,z3]:=k.store (i:=1) (u:=c) rfl;have j:af _ g t #[b,c,d,z3]:=m.store (i:=2) (u:=d) rfl;have o:af _ g t #[b,c,d,v3]:=j.store (i:=3) (u:=v3) rfl;exact⟨k.cell 0,m.cell 1,j.cell 2,o.cell 3⟩
theorem eF (w:World)(g:Nat)(c b d v3:Value):ae [g] w ((((w.setCell ⟨g,0,none⟩ c).setCell ⟨g,1,none⟩ b).setCell ⟨g,2,none⟩ d).setCell ⟨g,3,none⟩ v3):=((((ae.refl _ w).setCell (by simp) _).setCell (by simp) _).setCell (by simp) _).setCell (by simp) _
theorem TG (lo hi g gn gi:Nat)(c:aS)(l:List bV)(f:Fr)(w:World)(h:lS w lo hi g gn gi c l)(hL:Laid w)(iS:bn w)(hs:f.body.size<=1099511627776):
 Calls Tryz.prog 50 #[.pointer (some ⟨g,0,none⟩),.agg #[.int .u64 f.id,.string f.nm,.string f.body]] w fun e w'=>U1 w (eM c (aJ l) f) e w':=by
 obtain⟨W,G⟩:∃W,(w.alloc (.cells #[.int .u64 f.id,.string f.nm,.string f.body] 74)).alloc (.cells #[.string ⟨#[]⟩,.string ⟨#[]⟩,.bool false,.slice none 0 0] 30)=W:=⟨_,rfl⟩
 have R:Below w.heap.size w W:=by rw[<-G];exact((zq _ w).alloc (zi _) _).alloc (by simp) _
 have VP:W.heap.size=w.heap.size+2:=by rw[<-G];simp
 have Ce:af W w.heap.size 74 #[.int .u64 f.id,.string f.nm,.string f.body]:=by rw[<-G];exact(af.new w _ _).alloc _
 have pn:af W (w.heap.size+1) 30 #[.string ⟨#[]⟩,.string ⟨#[]⟩,.bool false,.slice none 0 0]:=by rw[<-G];exact af.at_ (by simp)
 have Cc:=za (h.below (R.mono h.his));have ag:=za (Wz lo hi g gn gi c l f W Cc.out);have l6:=za Ce;have cl:=za pn;have fL:=za R;have HW:=za G;have GP:=za (hL.below R hL.pos);have RB:=za (iS.below R iS.pos);have X:Hid (eM c (aJ l) f=match fN c (aJ l) f with
  |none=>(11,ri)
  |some e=>if(dw c e.shape f.body).1=0 then(0,⟨e.name,(dw c e.shape f.body).2⟩)else if(dw c e.shape f.body).1=2 then(3,ri)else((dw c e.shape f.body).1,ri)):=za rfl
 obtain⟨r0,r1,r2,_⟩:=a8 Ce;obtain⟨id,nm,body⟩:=f;simp only at r0 r1 r2 hs ag l6 HW;generalize eM c (aJ l) ⟨id,nm,body⟩=ao at*;clear h hL iS G R Ce pn;go_enter Tryz.func50,Tryz.ntmps50
 go_wp2_with fail
 rw[HW.out];refine ag.out.mono ?_;rintro e q ⟨H,a0,a1,a2,a3,a4,A,n,cap,J,b,rfl,qx⟩;have Cd:=za (KJ Cc.out qx);obtain⟨d,Y⟩:∃d,q.alloc (.cells #[.int .u64 a0,.string a1,.string a2,.int .i64 a3,.int .i64 a4,.slice A n cap,.int .i64 J] 98)=d:=⟨_,rfl⟩
 have y:Below W.heap.size W d:=by rw[<-Y];exact H.alloc H.size _
 have cc:w.heap.size+2<=q.heap.size:=by have:=H.size;omega
 have qL:Hid (af d q.heap.size 98 #[.int .u64 a0,.string a1,.string a2,.int .i64 a3,.int .i64 a4,.slice A n cap,.int .i64 J]):=za (by rw[<-Y];exact af.new _ _ _);have qN:=za (Cc.out.below (y.mono Cc.out.his));have Uo:=za (l6.out.ag y (by omega));have NR:=za (cl.out.ag y (by omega));have wW:=za (fL.out.trans (y.mono (by omega)));have NS:=za (GP.out.below y GP.out.pos);have RC:=za (RB.out.below y RB.out.pos);have wK:=za y;have aj:=za (cl.out.ag H (by omega));have an:=za (fL.out.trans (H.mono (by omega)));have kJ:w.heap.size+1<q.heap.size:=by omega
 have cA:q.heap.size<d.heap.size:=qL.out.lt;have rP:=za Y;clear H y qx Y ag r0 r1 r2;rcases Cd.out with⟨U,rfl,rfl,rfl,rfl⟩|⟨e,U,rfl,rfl,rfl,rfl,nO,ak,Dx⟩
 ·rw[U]at X;clear Cd U;obtain⟨q0,q1,q2,q3,VH,ar,au,aq⟩:=aL aj.out;go_wp2;obtain⟨F,D,B,x⟩:=hU aj.out (.string ⟨#[]⟩) (.string ⟨#[]⟩) (.bool false) (.slice none 0 0);refine zp (v:= .tuple #[.agg #[.string ⟨#[]⟩,.string ⟨#[]⟩,.bool false,.slice none 0 0],.int .i64 11]) (by simp[results,Tryz.results50,go_sem,F,D,B,x,zE,kJ]) rfl ?_;rw[X.out];exact⟨(an.out.trans ((eF q (w.heap.size+1) _ _ _ _).below an.out.size (by simp))).alloc (by simp[World.setCell];omega) _,_,_,_,_,rfl,Db _ _⟩
 have Oa:=za ((nO.below wK.out).Aj);rw[U]at X;have C:Hid (ao=if(dw c e.shape body).1=0 then(0,⟨e.name,(dw c e.shape body).2⟩)else if(dw c e.shape body).1=2 then(3,ri)else((dw c e.shape body).1,ri)):=X;have av:=ak.name;clear X Cd U nO ak Dx;have Jo:(pU c= .func (.func 42) #[.agg #[.int .i64 c.de,.int .i64 c.it]] #[]/\Hid (∀V,Below d.heap.size d V->Calls Tryz.prog 42 #[.agg #[.int .i64 c.de,.int .i64 c.it],.agg #[.int .i64 a3,.int .i64 a4,.slice A n cap,.int .i64 J],.string body] V fun S w'=>ve V w' (dw c e.shape body).2 (dw c e.shape body).1 S))\/(pU c= .func (.func 40) #[.agg #[.int .i64 c.de,.int .i64 c.it]] #[]/\Hid (∀V,Below d.heap.size d V->Calls Tryz.prog 40 #[.agg #[.int .i64 c.de,.int .i64 c.it],.agg #[.int .i64 a3,.int .i64 a4,.slice A n cap,.int .i64 J],.string body] V fun S w'=>ve V w' (dw c e.shape body).2 (dw c e.shape body).1 S)):=by
  by_cases Z:c.fm=1
  ·refine .inl ⟨by unfold pU Al;rw[zl Z],za (fun V o=> ?_)⟩;unfold dw;rw[zl Z];exact FN e.shape body c.de c.it d.heap.size V _ _ _ _ (Oa.out.below o) o.size (NS.out.below o NS.out.pos) (RC.out.below o RC.out.pos) hs
  refine .inr ⟨by unfold pU Al;rw[zj Z],za (fun V o=> ?_)⟩;unfold dw;rw[zj Z];exact MX e.shape body c.de c.it d.heap.size V _ _ _ _ (Oa.out.below o) o.size (NS.out.below o NS.out.pos) (by omega)
 rcases Jo with⟨Lr,ah⟩|⟨Lr,ah⟩;all_goals
  have E:Hid (∀V,Below d.heap.size d V->V.cell? ⟨g,9,none⟩=some (pU c)/\V.cell? ⟨q.heap.size,3,none⟩=some (.int .i64 a3)/\V.cell? ⟨q.heap.size,4,none⟩=some (.int .i64 a4)/\V.cell? ⟨q.heap.size,5,none⟩=some (.slice A n cap)/\V.cell? ⟨q.heap.size,6,none⟩=some (.int .i64 J)/\V.cell? ⟨w.heap.size,2,none⟩=some (.string body)):=za (fun V o=>by
   obtain⟨_,_,_,x,y4,y5,y6⟩:=mQ (qL.out.ag o (by omega));obtain⟨_,_,z2,_⟩:=a8 (Uo.out.ag o (by omega));have hp:=(qN.out.below (o.mono qN.out.his)).cells.2.2.2.2;exact⟨hp,x,y4,y5,y6,z2⟩)
  generalize (dw c e.shape body).1=PE at*;generalize (dw c e.shape body).2=PX at*;go_wp2_with fail
  rw[rP.out];refine aB 15 (fun V=>V.cell? ⟨g,9,none⟩=some (pU c)/\V.cell? ⟨q.heap.size,3,none⟩=some (.int .i64 a3)/\V.cell? ⟨q.heap.size,4,none⟩=some (.int .i64 a4)/\V.cell? ⟨q.heap.size,5,none⟩=some (.slice A n cap)/\V.cell? ⟨q.heap.size,6,none⟩=some (.int .i64 J)/\V.cell? ⟨w.heap.size,2,none⟩=some (.string body)) (by kernel_rfl) (by kernel_rfl) ?_;have hHeld:=E.out d.drew bM;refine GT.jD [0,1,2,3,4,5,6,7,8] hHeld (fun _ _ _ _ _ h=>h) (by kernel_rfl) ?_;repeat(refine .c rfl rfl (fun V o=>by go_simp<;>with_reducible rfl) ?_;simp only[Act.put,zb,ze,zf])
  refine .nil ?_;refine GT.two (i:=9) (j:=13) (by simp only[y8,yW,yM];rfl) (by simp only[y8,yW,yM];rfl) (by kernel_rfl) (by kernel_rfl) (by kernel_rfl) (fun K m=> ?_) (fun K m=> ?_);focus
   go_simp;refine(ah.out d.drew bM).mono ?_;rintro S w3 ⟨N,d0,d1,d2,rfl,z⟩;obtain⟨u,bx,rfl,rfl,rfl,_⟩:=z.open_;have r:Below d.heap.size d w3:=(show Below d.heap.size d d.drew from bM).trans N;go_wp2_with fail
   refine m.out _ _ (E.out w3 r) (fun hHeld=> ?_);clear m K;try simp only[Act.put,zb,ze,zf]
   refine GT.jD [10,11,12] hHeld (fun _ _ _ _ _ h=>h) (by kernel_rfl) ?_;repeat(refine .c rfl rfl (fun V o=>by go_simp<;>with_reducible rfl) ?_;simp only[Act.put,zb,ze,zf])
   refine .nil ?_;refine GT.fF 13 (fun K m=> ?_) rfl (by kernel_rfl);go_simp;refine m.out _ _ (E.out _ (r.alloc r.size _)) (fun hHeld=> ?_);clear m K;try simp only[Act.put,zb,ze,zf]
   refine GT.fF 14 (fun K m=> ?_) rfl (by kernel_rfl);go_simp;refine m.out _ _ (E.out _ (r.alloc r.size _)) (fun hHeld=> ?_);clear m K;try simp only[Act.put,zb,ze,zf]
   refine GT.oP 15 ?_ rfl (by kernel_rfl);go_simp;obtain⟨p,s⟩:∃p,w3.alloc (.cells #[.string PX.text,.bool PX.list,.slice u PX.sub.length bx] 28)=p:=⟨_,rfl⟩
   have fZ:Hid (Below d.heap.size d p):=za (by rw[<-s];exact r.alloc r.size _);have aa:af p w3.heap.size 28 #[.string PX.text,.bool PX.list,.slice u PX.sub.length bx]:=by rw[<-s];exact af.new _ _ _
   have GO:Hid (fV p (d.heap.size<= ·) PX (.string PX.text) (.bool PX.list) (.slice u PX.sub.length bx)):=za (by rw[<-s];exact z.below ((zq _ _).alloc (zi _) _));rw[s];clear s N r z hHeld
  rotate_left
  focus
   go_simp;have O:Below d.heap.size d (d.alloc (.cells #[.string ⟨#[]⟩,.bool false,.slice none 0 0] 28)).drew:=((zq d.heap.size d).alloc (zi _) _).drew;have ab:af (d.alloc (.cells #[.string ⟨#[]⟩,.bool false,.slice none 0 0] 28)).drew d.heap.size 28 #[.string ⟨#[]⟩,.bool false,.slice none 0 0]:=(af.new d _ _).drew;refine m.out _ _ (E.out _ O) (fun hHeld=> ?_);clear m K;try simp only[Act.put,zb,ze,zf]
   refine GT.fF 9 (fun K m=> ?_) rfl (by kernel_rfl);go_simp;refine(ah.out _ O).mono ?_;rintro S w3 ⟨N,d0,d1,d2,rfl,z⟩;obtain⟨u,bx,rfl,rfl,rfl,_⟩:=z.open_;have r:Below d.heap.size d w3:=O.trans (N.mono O.size);have RE:=ab.ag N ab.lt;go_wp2_with fail
   refine m.out _ _ (E.out w3 r) (fun hHeld=> ?_);clear m K;try simp only[Act.put,zb,ze,zf]
   refine GT.jD [10,11,12] hHeld (fun _ _ _ _ _ h=>h) (by kernel_rfl) ?_;repeat(refine .c rfl rfl (fun V o=>by go_simp<;>with_reducible rfl) ?_;simp only[Act.put,zb,ze,zf])
   refine .nil ?_;obtain⟨t0,t1,t2,Ll,NL,Ss⟩:=a8 RE;refine GT.fF 14 (fun K m=> ?_) rfl (by kernel_rfl);go_simp;have nP:Below d.heap.size d (((w3.setCell ⟨d.heap.size,0,none⟩ (.string PX.text)).setCell ⟨d.heap.size,1,none⟩ (.bool PX.list)).setCell ⟨d.heap.size,2,none⟩ (.slice u PX.sub.length bx)):=((r.setCell (by simp) _).setCell (by simp) _).setCell (by simp) _;refine m.out _ _ (E.out _ nP) (fun hHeld=> ?_);clear m K;try simp only[Act.put,zb,ze,zf]
   refine GT.oP 15 ?_ rfl (by kernel_rfl);go_simp;obtain⟨p,s⟩:∃p,(((w3.setCell ⟨d.heap.size,0,none⟩ (.string PX.text)).setCell ⟨d.heap.size,1,none⟩ (.bool PX.list)).setCell ⟨d.heap.size,2,none⟩ (.slice u PX.sub.length bx))=p:=⟨_,rfl⟩
   have fZ:Hid (Below d.heap.size d p):=za (by rw[<-s];exact nP);have aa:af p d.heap.size 28 #[.string PX.text,.bool PX.list,.slice u PX.sub.length bx]:=by rw[<-s];exact dV RE _ _ _
   have GO:Hid (fV p (d.heap.size<= ·) PX (.string PX.text) (.bool PX.list) (.slice u PX.sub.length bx)):=za (by rw[<-s];exact z.only (L:= [d.heap.size]) ((((ae.refl _ w3).setCell (by simp) _).setCell (by simp) _).setCell (by simp) _) (by simp[World.drew]) (fun k _ M=>by have M:(d.alloc (.cells #[.string ⟨#[]⟩,.bool false,.slice none 0 0] 28)).heap.size<=k:=M;simp at M;show d.heap.size<=k;omega));rw[s];clear s N r z hHeld O ab nP RE t0 t1 t2 Ll NL Ss
  all_goals
   have ad:=NR.out.ag fZ.out (by omega);have al:=qL.out.ag fZ.out (by omega);have ai:=za ad;have I:=za (wW.out.trans (fZ.out.mono (by omega)));obtain⟨q0,q1,q2,q3,VH,ar,au,aq⟩:=aL ad;obtain⟨u0,u1,u2,u3,u4,u5,u6⟩:=mQ al;obtain⟨t0,t1,t2⟩:=j7 aa;clear ad al aa;rcases eH PE with⟨he,z1,z2⟩|⟨he,z1,z2⟩
   ·subst he;rw[zl rfl]at C;go_wp2;obtain⟨F,D,B,x⟩:=hU ai.out (.string e.name) (.string PX.text) (.bool PX.list) (.slice u PX.sub.length bx);refine zp (v:= .tuple #[.agg #[.string e.name,.string PX.text,.bool PX.list,.slice u PX.sub.length bx],.int .i64 0]) (by simp[results,Tryz.results50,go_sem,F,D,B,x]) rfl ?_;rw[C.out];exact⟨I.out.trans ((eF p (w.heap.size+1) _ _ _ _).below I.out.size (by simp)),_,_,_,_,rfl,rfl,by simp only;omega,GO.out.only (L:= [w.heap.size+1]) (eF p (w.heap.size+1) _ _ _ _) (by simp;omega) (fun k _ M=>by have M:d.heap.size<=k:=M;show w.heap.size<=k;omega)⟩
   rw[zj he]at C;by_cases h2:PE=2
   ·have z3:(PE==2)=true:=xh.2 h2;rw[zl h2]at C;go_wp2;obtain⟨F,D,B,x⟩:=hU ai.out (.string ⟨#[]⟩) (.string ⟨#[]⟩) (.bool false) (.slice none 0 0);refine zp (v:= .tuple #[.agg #[.string ⟨#[]⟩,.string ⟨#[]⟩,.bool false,.slice none 0 0],.int .i64 3]) (by simp[results,Tryz.results50,go_sem,F,D,B,x]) rfl ?_;rw[C.out];exact⟨I.out.trans ((eF p (w.heap.size+1) _ _ _ _).below I.out.size (by simp)),_,_,_,_,rfl,Db _ _⟩
   have z3:(PE==2)=false:=zr.2 h2;rw[zj h2]at C;go_wp2;obtain⟨F,D,B,x⟩:=hU ai.out (.string ⟨#[]⟩) (.string ⟨#[]⟩) (.bool false) (.slice none 0 0);refine zp (v:= .tuple #[.agg #[.string ⟨#[]⟩,.string ⟨#[]⟩,.bool false,.slice none 0 0],.int .i64 PE]) (by simp[results,Tryz.results50,go_sem,F,D,B,x]) rfl ?_;rw[C.out];exact⟨I.out.trans ((eF p (w.heap.size+1) _ _ _ _).below I.out.size (by simp)),_,_,_,_,rfl,Db _ _⟩
theorem lS.put {w w':World}{j hi g d i:Nat}{c:aS}{l:List bV}(h:lS w j hi g d i c l)(m:ae [d,i] w w')(hz:w'.heap.size=w.heap.size){e:bF}{v:Value}(s:ja w' d (Ag (l++ [(e,v)])))(n:ja w' i (Ah (l++ [(e,v)])))(q:UO w (fun k=>g<k/\k<w.heap.size) (e,v))(u:gw c (aJ l) e=0)(o:pV e):lS w' j w'.heap.size g d i c (l++ [(e,v)]) where
 blk:=h.blk.only m (by have:=h.n2;have:=h.i2;simp;omega)
 nm:=s
 ix:=n
 n1:=h.n1
 n2:=h.n2
 i1:=h.i1
 i2:=h.i2
 ne:=h.ne
 g2:=by have:=h.g2;have:=h.his;omega
 his:=zi _
 rows:=fun r b=>by
  have key:UO w (fun k=>g<k/\k<w.heap.size) r:=by
   rcases ZR.1 b with b|b
   ·exact(h.rows r b).ag (fun k _ hS=>⟨hS.1,by have:=hS.2;have:=h.his;omega⟩) (fun _ _ _=>rfl)
   obtain rfl:=xG.1 b;exact q
  exact key.ag (fun k _ hS=>⟨hS.1,by have:=hS.2;omega⟩) fun p x hS=>m.cell x (by have:=hS.1;have:=h.n2;have:=h.i2;simp;omega)
 ok:=by
  have:aJ (l++ [(e,v)])=aJ l++ [e]:=by simp[aJ]
  rw[this];exact h.ok.snoc u
 sz:=fun r b=>by
  rcases ZR.1 b with b|b
  ·exact h.sz r b
  obtain rfl:=xG.1 b;exact o
def U2 (w:World)(lo g gn gi:Nat)(c:aS)(l:List bV)(e:bF)(en:Ending)(w':World):Prop:=
 en= .returned (.int .i64 (gw c (aJ l) e))/\ae [gn,gi] w w'/\(gw c (aJ l) e=0->∃v,lS w' lo w'.heap.size g gn gi c (l++ [(e,v)]))
theorem k6 {w w':World}{j g b d:Nat}{c:aS}{l:List bV}{e:bF}{E:Int}(h:gw c (aJ l) e=E)(m:E≠0)(k:ae [b,d] w w'):U2 w j g b d c l e (.returned (.int .i64 E)) w':=⟨by rw[h],k,fun i=>absurd (h.symm.trans i) m⟩
theorem eG {w w':World}{L:List Nat}(h:Below w.heap.size w w'):ae L w w':=(ae.ah h (zi _)).mono (by simp)
theorem Xd {c:aS}{l:List bV}(h:cK c (aJ l)){nm:ByteArray}(b:∀x∈aJ l,x.name≠nm):Instr.findNow .string (.string nm) (mE (Ag l) 0) 0=some none:=by
 rcases BJ h nm with⟨e,_⟩|⟨j,r,_,d,i,_⟩
 ·exact e
 exact absurd i (b r.1 (xP.2 ⟨r,xw d,rfl⟩))
theorem Xe {c:aS}{l:List bV}(h:cK c (aJ l)){id:Nat}(b:∀x∈aJ l,x.id≠id):Instr.findNow (.int .u64) (.int .u64 id) (mE (Ah l) 0) 0=some none:=by
 rcases Ke h id _ (fun _=>rfl)with⟨e,_⟩|⟨j,r,_,d,i,_⟩
 ·exact e
 exact absurd i (b r.1 (xP.2 ⟨r,xw d,rfl⟩))
theorem KK {l:List bV}{p:bF->Bool}{a0:Nat}{e i:ByteArray}{a3 a4:Int}{A:Option Addr}{n cap:Nat}{d:Int}{b:Bool}(h:Pt l ((aJ l).find? p) a0 e i a3 a4 A n cap d b):(aJ l).any p=b:=by
 rcases h with⟨c,rfl,_⟩|⟨r,_,c,rfl,_⟩
 ·exact EV c
 exact EW c
theorem TH (lo hi g j d:Nat)(c:aS)(l:List bV)(e:bF)(w:World)(h:lS w lo hi g j d c l)(hL:Laid w)(hg:1<lo)(hs:pV e):
 Calls Tryz.prog 43 #[.pointer (some ⟨g,0,none⟩),.agg #[.int .u64 e.id,.string e.name,.string e.ty]] w fun en w'=>U2 w lo g j d c l e en w':=by
 obtain⟨g0,g6,g7,_,_⟩:=h.cells;have wV:g<w.heap.size:=yf h.g2 h.his;have aT:j<w.heap.size:=h.nm.lt;have lh:d<w.heap.size:=h.ix.lt;obtain⟨W,X⟩:∃W,w.alloc (.cells #[.int .u64 e.id,.string e.name,.string e.ty] 57)=W:=⟨_,rfl⟩
 have lN:Below w.heap.size w W:=by rw[<-X];exact(zq _ w).alloc (zi _) _
 have VP:W.heap.size=w.heap.size+1:=by rw[<-X];simp
 have Ce:af W w.heap.size 57 #[.int .u64 e.id,.string e.name,.string e.ty]:=by rw[<-X];exact af.new w _ _
 obtain⟨a0,a1,a2,a3,a4,A,n,cap,a6,b,qx,nM⟩:=CY h e.name;have az:=KK qx;have Cc:=za (h.below (lN.mono h.his));have U:=za nM;have C:Hid (∀V:World,V.heap[g]?=W.heap[g]?/\V.heap[j]?=W.heap[j]?/\V.heap[w.heap.size]?=W.heap[w.heap.size]?->V.cell? ⟨g,6,none⟩=some (.map (some j))/\V.cell? ⟨w.heap.size,1,none⟩=some (.string e.name)/\ja V j (Ag l)):=za (fun V i=>⟨af.cell (show af V g _ _ from i.1.trans Cc.out.blk) 6,af.cell (show af V w.heap.size _ _ from i.2.2.trans Ce) 1,Cc.out.nm.ag i.2.1⟩);have l6:=za Ce;have fL:=za lN;have HW:=za X;have GP:=za (hL.below lN hL.pos);have q:Hid (gw c (aJ l) e=if bY e.name=false then 11 else if((aJ l).any fun x=>decide (x.name=e.name))=true then 11 else if((aJ l).any fun x=>decide (x.id=e.id))=true then 1
  else if cI e.ty.data.toList=none then 3 else if c.fm=1/\e.shape.flat=false then 12 else 0):=za rfl
 rw[show((aJ l).any fun x=>decide (x.name=e.name))=b from az]at q;have Ru:=za hs;have aU:=hs.name;have aX:=hs.ty;have Uf:=za (fun V=>pT e.name V (by omega));clear h hL X lN Ce qx nM az hs;go_enter Tryz.func43,Tryz.ntmps43
 go_wp2_with fail
 rw[HW.out];refine aB 12 (fun V=>V.cell? ⟨g,6,none⟩=some (.map (some j))/\V.cell? ⟨w.heap.size,1,none⟩=some (.string e.name)/\ja V j (Ag l)) (by kernel_rfl) (by kernel_rfl) ?_;have hHeld:=C.out W.drew ⟨rfl,rfl,rfl⟩;refine GT.jD [0,1,2,3,4,5,6,7,8,9] hHeld (fun _ _ _ _ _ h=>h) (by kernel_rfl) ?_;iterate 6 (refine .c rfl rfl (fun V i=>by go_simp<;>with_reducible rfl) ?_;simp only[Act.put,zb,ze,zf])
 refine .c (v:= .tuple #[.agg #[.int .u64 a0,.string a1,.string a2,.int .i64 a3,.int .i64 a4,.slice A n cap,.int .i64 a6],.bool b]) rfl rfl (fun V i=>by have hl:=U.out V i.2.2;go_simp) ?_;try simp only[Act.put,zb,ze,zf];iterate 3 (refine .c rfl rfl (fun V i=>by go_simp<;>with_reducible rfl) ?_;simp only[Act.put,zb,ze,zf])
 refine .nil ?_;refine GT.fF 10 (fun K u=> ?_) rfl (by kernel_rfl);go_simp;refine u.out _ _ (C.out _ ⟨yp _ _ (by omega),yp _ _ (by omega),yp _ _ (by omega)⟩) (fun hHeld=> ?_);clear u K;try simp only[Act.put,zb,ze,zf]
 refine GT.fF 11 (fun K u=> ?_) rfl (by kernel_rfl);go_simp;refine u.out _ _ (C.out _ ⟨yp _ _ (by omega),yp _ _ (by omega),yp _ _ (by omega)⟩) (fun hHeld=> ?_);clear u K;try simp only[Act.put,zb,ze,zf]
 refine GT.oP 12 ?_ rfl (by kernel_rfl);go_simp;obtain⟨r,mf⟩:∃r,(W.alloc (.cells #[.int .u64 a0,.string a1,.string a2,.int .i64 a3,.int .i64 a4,.slice A n cap,.int .i64 a6] 98)).drew=r:=⟨_,rfl⟩
 have aM:Below W.heap.size W r:=by rw[<-mf];exact((zq _ W).alloc (zi _) _).drew
 have wW:=za (fL.out.trans (aM.mono (by omega)));have dU:=za (l6.out.ag aM (by omega));have NS:=za (GP.out.below aM GP.out.pos);have G:=za (Cc.out.below (aM.mono Cc.out.his));rw[mf];clear mf aM U C hHeld l6 GP Cc fL;obtain⟨u0,u1,u2,ah,al,ab⟩:=a8 dU.out;cases b with
 |true=>
  have p:gw c (aJ l) e=11:=by rw[q.out];split<;>rfl
  go_wp2;go_ret;exact k6 p (by decide) (eG wW.out)
 |false=>
  rw[zj (show¬(false=true)by simp)]at q;go_wp2_with fail
  refine(Uf.out _).mono ?_;rintro en w' ⟨rfl,rfl⟩;cases hmy:bY e.name with
  |false=>
   have p:gw c (aJ l) e=11:=by rw[q.out,zl hmy]
   go_wp2;go_ret;exact k6 p (by decide) (eG wW.out)
  |true=>
   rw[zj (by simp[hmy])]at q;obtain⟨a0,a1,a2,a3,a4,A,n,cap,a6,b,qx,nM⟩:=Kq G.out e.id;rw[show((aJ l).any fun x=>decide (x.id=e.id))=b from KK qx]at q;have U:=za nM;have C:Hid (∀V:World,V.heap[g]?=r.heap[g]?/\V.heap[d]?=r.heap[d]?/\V.heap[w.heap.size]?=r.heap[w.heap.size]?->V.cell? ⟨g,7,none⟩=some (.map (some d))/\V.cell? ⟨w.heap.size,0,none⟩=some (.int .u64 e.id)/\ja V d (Ah l)):=za (fun V i=>⟨af.cell (show af V g _ _ from i.1.trans G.out.blk) 7,af.cell (show af V w.heap.size _ _ from i.2.2.trans dU.out) 0,G.out.ix.ag i.2.1⟩);have aV:=wW.out.size;clear qx nM u0 u1 u2 ah al ab hmy;go_wp2_with fail
   refine aB 12 (fun V=>V.cell? ⟨g,7,none⟩=some (.map (some d))/\V.cell? ⟨w.heap.size,0,none⟩=some (.int .u64 e.id)/\ja V d (Ah l)) (by kernel_rfl) (by kernel_rfl) ?_;have hHeld:=C.out r.drew ⟨rfl,rfl,rfl⟩;have aW:w.heap.size<r.heap.size:=dU.out.lt;refine GT.jD [0,1,2,3,4,5,6,7,8,9] hHeld (fun _ _ _ _ _ h=>h) (by kernel_rfl) ?_;iterate 6 (refine .c rfl rfl (fun V i=>by go_simp<;>with_reducible rfl) ?_;simp only[Act.put,zb,ze,zf])
   refine .c (v:= .tuple #[.agg #[.int .u64 a0,.string a1,.string a2,.int .i64 a3,.int .i64 a4,.slice A n cap,.int .i64 a6],.bool b]) rfl rfl (fun V i=>by have hl:=U.out V i.2.2;go_simp) ?_;try simp only[Act.put,zb,ze,zf];iterate 3 (refine .c rfl rfl (fun V i=>by go_simp<;>with_reducible rfl) ?_;simp only[Act.put,zb,ze,zf])
   refine .nil ?_;refine GT.fF 10 (fun K u=> ?_) rfl (by kernel_rfl);go_simp;refine u.out _ _ (C.out _ ⟨yp _ _ (by omega),yp _ _ (by omega),yp _ _ (by omega)⟩) (fun hHeld=> ?_);clear u K;try simp only[Act.put,zb,ze,zf]
   refine GT.fF 11 (fun K u=> ?_) rfl (by kernel_rfl);go_simp;refine u.out _ _ (C.out _ ⟨yp _ _ (by omega),yp _ _ (by omega),yp _ _ (by omega)⟩) (fun hHeld=> ?_);clear u K;try simp only[Act.put,zb,ze,zf]
   refine GT.oP 12 ?_ rfl (by kernel_rfl);go_simp;obtain⟨W4,rQ⟩:∃W4,(r.alloc (.cells #[.int .u64 a0,.string a1,.string a2,.int .i64 a3,.int .i64 a4,.slice A n cap,.int .i64 a6] 98)).drew=W4:=⟨_,rfl⟩
   have S:Below r.heap.size r W4:=by rw[<-rQ];exact((zq _ r).alloc (zi _) _).drew
   have RF:=za (wW.out.trans (S.mono (by omega)));have dM:=za (dU.out.ag S (by omega));have Lh:=za (NS.out.below S NS.out.pos);have Su:=za (G.out.below (S.mono G.out.his));rw[rQ];clear rQ S U C hHeld dU NS G wW;obtain⟨u0,u1,u2,ah,al,ab⟩:=a8 dM.out;cases b with
   |true=>
    have p:gw c (aJ l) e=1:=by rw[q.out,zl rfl]
    go_wp2;go_ret;exact k6 p (by decide) (eG RF.out)
   |false=>
    rw[zj (show¬(false=true)by simp)]at q;have HG:=za (TA e.ty W4 (by omega) Lh.out);go_wp2_with fail
    refine HG.out.mono ?_;rintro en m dG;obtain⟨T,hT⟩:∃T,cI e.ty.data.toList=T:=⟨_,rfl⟩
    rw[hT]at dG q;cases T with
    |none=>
     obtain⟨D,rfl⟩:=dG;have p:gw c (aJ l) e=3:=by rw[q.out,zl rfl]
     have fZ:=za (RF.out.trans (D.mono RF.out.size));clear D hT;go_wp2;go_ret;exact k6 p (by decide) (eG (fZ.out.alloc fZ.out.size _))
    |some t=>
     obtain⟨D,d0,d1,d2,d3,rfl,nO⟩:=dG;have wC:e.shape=t:=by unfold bF.shape;rw[hT];rfl
     rw[zj (by simp),wC]at q;obtain⟨y,z,rfl,rfl,rfl,rfl,_⟩:=nO.open_;have aK:=RF.out.size;have aa:=dM.out.ag D (by have:=dM.out.lt;omega);have M:=Su.out.below (D.mono Su.out.his);have aw:=M.cells.1;have aR:g<m.heap.size:=yf M.g2 M.his;have L:Below m.heap.size m (m.alloc (.cells #[.int .i64 t.kind,.int .i64 t.size,.slice y t.sub.length z,.int .i64 t.tail] 64)):=(zq _ m).alloc (zi _) _;have RG:=za ((RF.out.trans (D.mono aK)).trans (L.mono (by have:=D.size;omega)));have I:=za (aa.ag L aa.lt);have J:=za (M.below (L.mono M.his));have O:=za (af.new m 64 #[.int .i64 t.kind,.int .i64 t.size,.slice y t.sub.length z,.int .i64 t.tail]);have R:=za (nO.below L);have ad:=Lh.out.below D Lh.out.pos;have HF:=za (IP t _ _ _ _ _ _ R.out.Aj (zi _) (ad.below L ad.pos));have aQ:w.heap.size<m.heap.size:=aa.lt;clear u0 u1 u2 ah al ab D hT dM Su nO aa M L ad;by_cases H:c.fm=1;focus
      have YH:((c.fm:Int)==1)=true:=xh.2 H;go_wp2_with fail
      refine HF.out.mono ?_;rintro en w7 ⟨rfl,F⟩;have aO:=F.size;simp only[zu]at aO;have ak:=za (RG.out.trans (F.mono RG.out.size));have ag:=za (I.out.ag F I.out.lt);have B:=za (J.out.below (F.mono J.out.his));have ai:=za (O.out.ag F O.out.lt);have av:=za (R.out.below F);clear F HF J I O R aw;cases lg:t.flat
      ·have p:gw c (aJ l) e=12:=by rw[q.out,zl ⟨H,lg⟩]
       go_wp2;go_ret;exact k6 p (by decide) (eG ak.out)
      have p:gw c (aJ l) e=0:=by rw[q.out,zj (by simp[lg])]
      obtain⟨o,rfl⟩:∃o,o=w7:=⟨w7,rfl⟩
      clear lg H;go_wp2_with fail
     rotate_left
     focus
      have YH:((c.fm:Int)==1)=false:=zr.2 H;have p:gw c (aJ l) e=0:=by rw[q.out,zj (by simp[H])]
      obtain⟨o,qQ⟩:∃o,m.alloc (.cells #[.int .i64 t.kind,.int .i64 t.size,.slice y t.sub.length z,.int .i64 t.tail] 64)=o:=⟨_,rfl⟩
      rw[qQ]at RG I J O R;have Gp:=za qQ;have ak:=RG;have ag:=I;have B:=J;have ai:=O;have av:=R;clear HF H qQ RG I J O R;go_wp2_with fail
      rw[Gp.out];clear aw
     all_goals
      obtain⟨z1,z2,z3,z4,z5⟩:=BG p;have aG:=Kd (P:=Tryz.prog) (T:=88) (w:=o.drew) (B.out.nm.ag rfl) Tryz.underlying88 zT (by simp[MapKept.IsKey]) (Xd B.out.ok z2) (.agg #[.int .u64 e.id,.string e.name,.string e.ty,.int .i64 t.kind,.int .i64 t.size,.slice y t.sub.length z,.int .i64 t.tail]);have Ls:=fun(V:World) (i:ja V d (Ah l))=>Kd (P:=Tryz.prog) (T:=89) (w:=V) i Tryz.underlying89 Ye (by simp[MapKept.IsKey]) (Xe B.out.ok z3) (.agg #[.int .u64 e.id,.string e.name,.string e.ty,.int .i64 t.kind,.int .i64 t.size,.slice y t.sub.length z,.int .i64 t.tail])
      have aI:=za Ls;clear z1 z2 z3 z4 z5 Ls;obtain⟨b0,b1,b2,_⟩:=a8 ag.out.drew;obtain⟨t0,t1,t2,t3,_⟩:=aL ai.out.drew;have an:o.drew.cell? ⟨g,6,none⟩=some (.map (some j)):=(af.drew B.out.blk).cell 6;refine aB 9 (fun V=>V.cell? ⟨g,6,none⟩=some (.map (some j))/\V.cell? ⟨w.heap.size,0,none⟩=some (.int .u64 e.id)/\V.cell? ⟨w.heap.size,1,none⟩=some (.string e.name)/\V.cell? ⟨w.heap.size,2,none⟩=some (.string e.ty)/\V.cell? ⟨m.heap.size,0,none⟩=some (.int .i64 t.kind)/\V.cell? ⟨m.heap.size,1,none⟩=some (.int .i64 t.size)/\V.cell? ⟨m.heap.size,2,none⟩=some (.slice y t.sub.length z)/\V.cell? ⟨m.heap.size,3,none⟩=some (.int .i64 t.tail)) (by kernel_rfl) (by kernel_rfl) ?_;have hHeld:=And.intro an (And.intro b0 (And.intro b1 (And.intro b2 (And.intro t0 (And.intro t1 (And.intro t2 t3))))));clear b0 b1 b2 t0 t1 t2 t3 an;refine GT.jD [0,1,2,3,4,5,6,7,8] hHeld (fun _ _ _ _ _ h=>h) (by kernel_rfl) ?_;repeat(refine .c rfl rfl (fun V i=>by go_simp<;>with_reducible rfl) ?_;simp only[Act.put,zb,ze,zf])
      refine .nil ?_;refine GT.oP 9 ?_ rfl (by kernel_rfl);go_simp;obtain⟨s,Y⟩:∃s,oa o.drew j (Ag l) (.string e.name) (.agg #[.int .u64 e.id,.string e.name,.string e.ty,.int .i64 t.kind,.int .i64 t.size,.slice y t.sub.length z,.int .i64 t.tail])=s:=⟨_,rfl⟩
      have au:ja s j (Ag l++ [(.string e.name,(.agg #[.int .u64 e.id,.string e.name,.string e.ty,.int .i64 t.kind,.int .i64 t.size,.slice y t.sub.length z,.int .i64 t.tail]))]):=by rw[<-Y];exact sB (B.out.nm.ag rfl) _ _
      have N:ae [j] o s:=by rw[<-Y];exact(ae.refl [j] o).drew.trans (uW _ _ _ _ _)
      have Sm:s.heap.size=o.heap.size:=by rw[<-Y];simp[oa]
      rw[Y];have aP:=B.out.n2;have ch:=B.out.ne;have aC:=(ag.out.only N (by simp;omega)).drew;have ao:=(ai.out.only N (by simp;omega)).drew;have ax:=af.drew (B.out.blk.only N (by simp;omega));have aj:ja s.drew d (Ah l):=(B.out.ix.only N (by simp;omega)).ag rfl;have Ls:=aI.out s.drew aj;obtain⟨b0,b1,b2,_⟩:=a8 aC;obtain⟨t0,t1,t2,t3,_⟩:=aL ao;have aq:s.drew.cell? ⟨g,7,none⟩=some (.map (some d)):=ax.cell 7;have aN:=za au;have aF:=za N;have aE:=za Sm;have aH:=za aj;clear hHeld Y au N Sm aG aC ao ax aj;go_wp2_with fail
      refine aB 9 (fun V=>V.cell? ⟨g,7,none⟩=some (.map (some d))/\V.cell? ⟨w.heap.size,0,none⟩=some (.int .u64 e.id)/\V.cell? ⟨w.heap.size,1,none⟩=some (.string e.name)/\V.cell? ⟨w.heap.size,2,none⟩=some (.string e.ty)/\V.cell? ⟨m.heap.size,0,none⟩=some (.int .i64 t.kind)/\V.cell? ⟨m.heap.size,1,none⟩=some (.int .i64 t.size)/\V.cell? ⟨m.heap.size,2,none⟩=some (.slice y t.sub.length z)/\V.cell? ⟨m.heap.size,3,none⟩=some (.int .i64 t.tail)) (by kernel_rfl) (by kernel_rfl) ?_;have hHeld:=And.intro aq (And.intro b0 (And.intro b1 (And.intro b2 (And.intro t0 (And.intro t1 (And.intro t2 t3))))));clear b0 b1 b2 t0 t1 t2 t3 aq;refine GT.jD [0,1,2,3,4,5,6,7,8] hHeld (fun _ _ _ _ _ h=>h) (by kernel_rfl) ?_;repeat(refine .c rfl rfl (fun V i=>by go_simp<;>with_reducible rfl) ?_;simp only[Act.put,zb,ze,zf])
      refine .nil ?_;refine GT.oP 9 ?_ rfl (by kernel_rfl);go_simp;clear Ls;obtain⟨E,Z⟩:∃E,oa s.drew d (Ah l) (.int .u64 e.id) (.agg #[.int .u64 e.id,.string e.name,.string e.ty,.int .i64 t.kind,.int .i64 t.size,.slice y t.sub.length z,.int .i64 t.tail])=E:=⟨_,rfl⟩
      have aD:ja E d (Ah l++ [(.int .u64 e.id,(.agg #[.int .u64 e.id,.string e.name,.string e.ty,.int .i64 t.kind,.int .i64 t.size,.slice y t.sub.length z,.int .i64 t.tail]))]):=by rw[<-Z];exact sB aH.out _ _
      have mi:ae [d] s E:=by rw[<-Z];exact(ae.refl [d] s).drew.trans (uW _ _ _ _ _)
      have ay:E.heap.size=o.heap.size:=by rw[<-aE.out,<-Z];simp[oa]
      rw[Z];have ar:=aN.out.only mi (by simp;omega);have aA:Hid (ae [j,d] o E):=za ((aF.out.mono (by simp)).trans (mi.mono (by simp)));have HQ:Hid (∃v,lS E lo E.heap.size g j d c (l++ [(e,v)])):=za ⟨_,B.out.put aA.out ay (by simpa[Ag]using ar) (by simpa[Ah]using aD) ⟨_,_,_,_,rfl,by
       show fy o _ e.shape _ _ _ _
       rw[wC];exact av.out.fW (fun k hk hS=>⟨by have hS:W4.heap.size<=k:=hS;omega,hk⟩)⟩ p Ru.out⟩
      clear Z aD mi ay ar hHeld;go_wp2;go_ret;exact⟨by rw[p];rfl,(eG ak.out).trans aA.out,fun _=>HQ.out⟩
def abV (w:World)(c:aS)(l:List bF)(e:Ending)(w':World):Prop:=
 Below w.heap.size w w'/\((oL c l=0/\∃g gn gi rows,e= .returned (.tuple #[.pointer (some ⟨g,0,none⟩),.int .i64 0])/\lS w' w.heap.size w'.heap.size g gn gi c rows/\aJ rows=l)\/(oL c l≠0/\e= .returned (.tuple #[.pointer none,.int .i64 (oL c l)])))
theorem vM {c:aS}{l:List bF}{k:Nat}{E:Int}(h:iV c (l.take k) (l.drop k)=E)(d:k<l.length):(gw c (l.take k) l[k]≠0->E=gw c (l.take k) l[k])/\(gw c (l.take k) l[k]=0->iV c (l.take (k+1)) (l.drop (k+1))=E):=by
 rw[xL d,iV]at h;refine⟨fun b=> ?_,fun b=> ?_⟩
 ·rw[zl b]at h;exact h.symm
 rw[zj (by simp[b])]at h;rw[List.take_add_one,zD d];exact h
theorem B0 {c:aS}{l:List bF}{E:Int}(h:iV c (l.take l.length) (l.drop l.length)=E):E=0:=by
 rw[Ym]at h;exact h.symm
theorem rG {c:aS}{l:List bF}(h:c.right=true)(b:l.length<=32):oL c l=iV c [] l:=by
 unfold oL;rw[zj (by simp[h]),zj (by omega)]
theorem lS.fresh {w:World}{h b:Nat}{c:aS}{W:World}(d:((w.alloc (.map #[] 0)).alloc (.map #[] 0)).alloc (.cells (rgC c b (b+1) (ti c) (pU c)) 95)=W)(i:w.heap.size=b)(j:h<=b):lS W h W.heap.size (b+1+1) b (b+1) c []:=by
 subst i;have hz:W.heap.size=w.heap.size+3:=by rw[<-d];simp
 exact{
  blk:=by rw[<-d];exact af.at_ (by simp)
  nm:=by
   have e:ja (w.alloc (.map #[] 0)) w.heap.size []:=ja.new w;rw[<-d];exact(yp _ _ (by simp;omega)).trans ((yp _ _ (by simp)).trans e)
  ix:=by
   have e:ja ((w.alloc (.map #[] 0)).alloc (.map #[] 0)) (w.alloc (.map #[] 0)).heap.size []:=ja.new _;simp only[zu]at e;rw[<-d];exact(yp _ _ (by simp)).trans e
  n1:=j
  n2:=by omega
  i1:=by omega
  i2:=by omega
  ne:=by omega
  g2:=by omega
  his:=zi _
  rows:=by simp
  ok:=cK.nil c
  sz:=by simp}
theorem TJ (c:aS)(l:List bF)(v:Value)(B:Nat)(w:World)(L:rq w B v l)(hB:B<=w.heap.size)(W:Laid w)(hs:∀e∈l,pV e):
 Calls Tryz.prog 26 #[c.val,v] w fun e w'=>abV w c l e w':=by
 obtain⟨A,n,cap,rfl,x,aj,lM⟩:=L.df;have E:=za (jf c (w.alloc (.cells #[.int .i64 c.fm,.int .u32 c.mg,.int .i64 c.fr,.int .i64 c.un,.int .i64 c.de,.int .i64 c.it] 24)));have kH:=(zq w.heap.size w).alloc (zi _) (.cells #[.int .i64 c.fm,.int .u32 c.mg,.int .i64 c.fr,.int .i64 c.un,.int .i64 c.de,.int .i64 c.it] 24);have DN:=af.new w 24 #[.int .i64 c.fm,.int .u32 c.mg,.int .i64 c.fr,.int .i64 c.un,.int .i64 c.de,.int .i64 c.it];have HV:=za L;have HS:=za hs;have hp:=W.pos;have HL:=za W;unfold aS.val at*;obtain⟨U,H⟩:∃U,c.right=U:=⟨_,rfl⟩
 rw[H]at E;have Y:=za H;clear L hs W H;go_enter Tryz.func26,Tryz.ntmps26
 go_wp2_with fail
 refine E.out.mono ?_;rintro e b ⟨rfl,F⟩;have S:=za (kH.trans (F.mono (by simp)));have D:=DN.ag F (by simp);have o6:w.heap.size<b.heap.size:=D.lt;obtain⟨c0,c1,c2,c3,c4,c5⟩:=fu D;clear kH F DN E D;cases U with
 |false=>
  go_wp2;go_ret2
  have d:oL c l=1:=by unfold oL;rw[zl Y.out]
  exact⟨S.out,.inr ⟨by rw[d];decide,by rw[d];rfl⟩⟩
 |true=>
  by_cases ah:32<n
  ·have hi:(32:Int)<(n:Int):=by omega
   go_wp2;go_ret2
   have d:oL c l=4:=by unfold oL;rw[zj (by simp[Y.out]),zl (by rw[<-x.out];exact ah)]
   exact⟨S.out,.inr ⟨by rw[d];decide,by rw[d];rfl⟩⟩
  have hi:¬(32:Int)<(n:Int):=by omega
  have QL:= @run_makeMap Tryz.prog;have tT:w.heap.size<b.heap.size+1:=by omega
  have K8:w.heap.size<b.heap.size+1+1:=by omega
  have ae:w.heap.size<b.heap.size+1+1+1:=by omega
  have ag:l.length<=32:=by rw[<-x.out];omega
  have GS:=za (rG Y.out ag);by_cases m:c.fm=1;focus
   have k1:((c.fm:Int)==1)=true:=xh.2 m;have G:ti c= .func (.func 41) #[.agg #[.int .i64 c.de,.int .i64 c.it]] #[]:=by unfold ti Al;rw[zl m]
   have X:pU c= .func (.func 42) #[.agg #[.int .i64 c.de,.int .i64 c.it]] #[]:=by unfold pU Al;rw[zl m]
   clear m
  rotate_left
  focus
   have k1:((c.fm:Int)==1)=false:=zr.2 m;have G:ti c= .func (.func 39) #[.agg #[.int .i64 c.de,.int .i64 c.it]] #[]:=by unfold ti Al;rw[zj m]
   have X:pU c= .func (.func 40) #[.agg #[.int .i64 c.de,.int .i64 c.it]] #[]:=by unfold pU Al;rw[zj m]
   clear m
  all_goals
   obtain⟨u,s⟩:∃u,(((b.alloc (.cells #[.int .i64 c.de,.int .i64 c.it] 87)).alloc (.map #[] 0)).alloc (.map #[] 0)).alloc (.cells #[.int .i64 c.fm,.int .u32 c.mg,.int .i64 c.fr,.int .i64 c.un,.int .i64 c.de,.int .i64 c.it,.map (some (b.heap.size+1)),.map (some (b.heap.size+1+1)),ti c,pU c] 95)=u:=⟨_,rfl⟩
   have aa:lS u w.heap.size u.heap.size (b.heap.size+1+1+1) (b.heap.size+1) (b.heap.size+1+1) c []:=lS.fresh (w:=b.alloc (.cells #[.int .i64 c.de,.int .i64 c.it] 87)) (by unfold rgC;exact s) (by simp) (by omega);have Z:Below w.heap.size w u:=by rw[<-s];exact((((S.out.alloc (by omega) _).alloc (by simp;omega) _).alloc (by simp;omega) _).alloc (by simp;omega) _)
   have Su:=za aa;have dM:=za Z;rw[G,X]at s;have AQ:=za s;clear s aa Z G X;go_wp2_with fail
   rw[AQ.out];clear c0 c1 c2 c3 c4 c5 k1 QL tT K8 ae;go_loopw [45] (fun i wr=>∃(k:Nat) (rows:List bV),k<=n/\i= .int .i64 k/\Hid (lS wr w.heap.size wr.heap.size (b.heap.size+1+1+1) (b.heap.size+1) (b.heap.size+1+1) c rows)/\Hid (aJ rows=l.take k)/\Hid (iV c (l.take k) (l.drop k)=iV c [] l)/\Hid (Below w.heap.size w wr)) (fun i _=>n-(intOf i).toNat)
   case atStart=>exact⟨0,[],by omega,by go_num,Su,za rfl,za (by simp),dM⟩
   case round=>
    obtain⟨k,rows,hk,rfl,HM,R,HT,r⟩:=hrel;clear Su dM;by_cases ai:k<n
    ·skip
     have p:k<l.length:=by have:=x.out;omega
     obtain⟨ge,o,hA,jP,e0,e1,e2⟩:=(HV.out.below (r.out.mono hB)).at_ (j:=k) p;subst hA;obtain⟨fF,Sc⟩:=vM HT.out p;have K:=HS.out _ (zM p);obtain⟨h,O⟩:∃h,l[k]=h:=⟨_,rfl⟩
     rw[O]at e0 e1 e2 fF Sc K;have AG:l.take (k+1)=l.take k++ [h]:=by rw[List.take_add_one,zD p,O];rfl
     have hZ:=r.out.size;obtain⟨y,J⟩:∃y,wr.alloc (.cells #[.int .u64 h.id,.string h.name,.string h.ty] 57)=y:=⟨_,rfl⟩
     have C:Below wr.heap.size wr y:=by rw[<-J];exact(zq _ wr).alloc (zi _) _
     have HA:=za (TH w.heap.size wr.heap.size _ _ _ c rows h y (HM.out.below C) (HL.out.below (r.out.trans (C.mono hZ)) hp) hp K);have fZ:=za (r.out.trans (C.mono hZ));have qP:=za J;have T5:=za AG;clear J C O K AG;go_wp2_with fail
     rw[qP.out];refine HA.out.mono ?_;rintro e N ⟨rfl,ho,I⟩;rw[R.out]at I⊢;have HO:=za (fZ.out.trans (ho.below fZ.out.size (by simp;omega)));have Sw:=za I;generalize gw c (l.take k) h=EE at*;clear ho I HA e0 e1 e2;rcases eH EE with⟨z,z1,z2⟩|⟨z,z1,z2⟩
     ·subst z;obtain⟨vv,ab⟩:=Sw.out rfl;have HN:=za ab;have M:=za (Sc rfl);clear ab fF Sc;go_wp2;go_roundw
      case rel=>
       have key:∃(q:Nat) (rows:List bV),q<=n/\Value.int .i64 ((k:Int)+1)= .int .i64 q/\Hid (lS N w.heap.size N.heap.size (b.heap.size+1+1+1) (b.heap.size+1) (b.heap.size+1+1) c rows)/\Hid (aJ rows=l.take q)/\Hid (iV c (l.take q) (l.drop q)=iV c [] l)/\Hid (Below w.heap.size w N):=⟨k+1,rows++ [(h,vv)],by omega,by go_num,HN,za (by rw[T5.out,<-R.out];simp[aJ]),M,HO⟩
       first|exact key|((repeat apply Exists.intro);exact⟨key,rfl⟩)
      case measure=>simp[intOf];omega
     have M:=za (fF z);clear fF Sc;go_wp2;go_ret2
     have d:oL c l=EE:=by rw[GS.out];exact M.out
     exact⟨HO.out,.inr ⟨by rw[d];exact z,by rw[d];rfl⟩⟩
    skip
    have p:k=l.length:=by have:=x.out;omega
    have d:oL c l=0:=by
     rw[GS.out];have h1:=HT.out;rw[p]at h1;exact B0 h1
    have ad:aJ rows=l:=by rw[R.out,p];simp
    have HF:=za d;have HG:=za ad;clear p d ad;go_wp2;go_ret2
    exact⟨r.out,.inl ⟨HF.out,_,_,_,rows,rfl,HM.out,HG.out⟩⟩
theorem I5 {l:List UInt8}{t:Ty}(h:cI l=some t):t.may=true:=by
 unfold cI at h;split at h
 ·rename_i x hx
  cases hm:x.may with
  |true=>rw[hm,zl rfl]at h;injection h with h;rw[<-h];exact hm
  |false=>rw[hm]at h;cases h
 cases h
theorem M9 {t:Ty}(h:t.may=true):t.count<=64:=by
 simp only[Ty.may,zF,yk]at h;omega
theorem FQ {l:List bF}{p:bF->Bool}{k:Nat}(h:∀j (b:j<l.length),j<k->p l[j]=false):(l.take k).any p=false:=by
 rw[Yg];intro e c;obtain⟨j,b,rfl⟩:=xg c;rw[yc]at b;rw[List.getElem_take];rw[h j (by omega) (by omega)];simp
theorem Qf {l:List bF}{p:bF->Bool}{k j:Nat}(b:k<=l.length)(c:j<k)(h:p (l[j]'(by omega))=true):(l.take k).any p=true:=
 ZJ.2 ⟨l[j]'(by omega),by rw[List.mem_take_iff_getElem];exact⟨j,by omega,rfl⟩,h⟩
theorem I6 (c:aS)(l:List bF)(v:Value)(B:Nat)(w:World)(hv:rq w B v l)(M:B<=w.heap.size)(hs:∀e∈l,pV e):
 Calls Tryz.prog 8 #[c.val,v] w fun e w'=>e= .returned (.int .i64 (oL c l))/\Below w.heap.size w w':=by
 obtain⟨A,n,cap,rfl,hn,ay,lM⟩:=hv.df;have HR:=za (Da c (w.alloc (.cells #[.int .i64 c.fm,.int .u32 c.mg,.int .i64 c.fr,.int .i64 c.un,.int .i64 c.de,.int .i64 c.it] 24)));have kH:=(zq w.heap.size w).alloc (zi _) (.cells #[.int .i64 c.fm,.int .u32 c.mg,.int .i64 c.fr,.int .i64 c.un,.int .i64 c.de,.int .i64 c.it] 24);have DN:=af.new w 24 #[.int .i64 c.fm,.int .u32 c.mg,.int .i64 c.fr,.int .i64 c.un,.int .i64 c.de,.int .i64 c.it];have J:=za hv;have HS:=za hs;unfold aS.val at*;obtain⟨rt,Dx⟩:∃rt,c.right=rt:=⟨_,rfl⟩
 rw[Dx]at HR;have Gs:=za Dx;clear hv hs Dx;go_enter Tryz.func8,Tryz.ntmps8
 go_wp2_with fail
 refine HR.out.mono ?_;rintro e w1 ⟨rfl,aI⟩;have cl:=za (kH.trans (aI.mono (by simp)));have YV:=za (DN.ag aI (by simp));clear kH aI DN HR;cases rt with
 |false=>
  go_wp2;go_ret;have d:oL c l=1:=by unfold oL;rw[zl Gs.out]
  exact⟨by rw[d];rfl,cl.out⟩
 |true=>
  by_cases ao:32<n
  ·have hi:(32:Int)<(n:Int):=by omega
   go_wp2;go_ret;have d:oL c l=4:=by unfold oL;rw[zj (by simp[Gs.out]),zl (by rw[<-hn.out];exact ao)]
   exact⟨by rw[d];rfl,cl.out⟩
  have hi:¬(32:Int)<(n:Int):=by omega
  have ae:l.length<=32:=by rw[<-hn.out];omega
  have K:=za (rG Gs.out ae);clear ae Gs;go_wp2_with fail
  go_loopw [5] (fun i wr=>∃k:Nat,i= .int .i64 k/\k<=n/\Hid (iV c (l.take k) (l.drop k)=iV c [] l)/\Hid (Below w.heap.size w wr)/\Hid (af wr w.heap.size 24 #[.int .i64 c.fm,.int .u32 c.mg,.int .i64 c.fr,.int .i64 c.un,.int .i64 c.de,.int .i64 c.it])) (fun i _=>n-(intOf i).toNat)
  case atStart=>exact⟨0,rfl,by omega,za (by simp),cl,YV⟩
  case round=>
   obtain⟨k,rfl,hk,HT,R,HC⟩:=hrel;clear cl YV;by_cases au:k<n
   ·have s:k<l.length:=by have:=hn.out;omega
    obtain⟨ge,o,hA,jP,e0,e1,e2⟩:=(J.out.below (R.out.mono M)).at_ (j:=k) s;subst hA;obtain⟨fF,Sc⟩:=vM HT.out s;have VQ:=HS.out _ (zM s);obtain⟨b,qv⟩:∃b,l[k]=b:=⟨_,rfl⟩
    rw[qv]at e0 e1 e2 fF Sc VQ;have av:=VQ.name;have az:=VQ.ty;have mn:=za qv;have X:=za fF;have ah:=za Sc;have r:Hid (gw c (l.take k) b=if bY b.name=false then 11 else if((l.take k).any fun x=>decide (x.name=b.name))=true then 11 else if((l.take k).any fun x=>decide (x.id=b.id))=true then 1 else if cI b.ty.data.toList=none then 3 else if c.fm=1/\b.shape.flat=false then 12 else 0):=za rfl;have Uf:=za (fun V=>Mj b.name V (by omega));clear qv fF Sc VQ;generalize wr=w2 at*;go_wp2_with fail
    refine(Uf.out _).mono ?_;rintro e w' ⟨rfl,rfl⟩;cases hmy:bY b.name with
    |false=>
     have d:oL c l=11:=by
      have q:gw c (l.take k) b=11:=by rw[r.out,zl hmy]
      rw[K.out,X.out (by rw[q];decide),q]
     go_wp2;go_ret;exact⟨by rw[d];rfl,R.out⟩
    |true=>
     rw[zj (by simp[hmy])]at r;clear Uf hmy;go_wp2_with fail
     go_loopw [6] (fun i wr=>∃m:Nat,i= .int .i64 m/\m<=k/\Hid (∀j (u:j<l.length),j<m->decide (l[j].name=b.name)=false)/\Hid (Below w2.heap.size w2 wr)) (fun i _=>k-(intOf i).toNat)
     case atStart=>exact⟨0,rfl,by omega,za (by omega),za (zq _ _)⟩
     case round=>
      obtain⟨m,rfl,hm,E,jg⟩:=hrel;have I:=za (R.out.trans (jg.out.mono R.out.size));generalize wr=w3 at*;by_cases al:m<k
      ·have aj:m<n:=by omega
       have T2:m<l.length:=by omega
       obtain⟨Z,o',p,QC,d0,d1,d2⟩:=(J.out.below (I.out.mono M)).at_ (j:=m) T2;injection p with p;injection p with hA1 hA2;subst hA1 hA2;obtain⟨Z,o',p,_,f0,f1,f2⟩:=(J.out.below (I.out.mono M)).at_ (j:=k) s;injection p with p;injection p with hA1 hA2;subst hA1 hA2;rw[mn.out]at f0 f1 f2;obtain⟨C,G⟩:∃C,l[m]=C:=⟨_,rfl⟩
       rw[G]at d0 d1 d2;have O:=za G;clear G;clear d0 d2 e0 e2 f0 f2;rcases pt C.name b.name with⟨y,q1,q2⟩|⟨y,q1,q2⟩
       ·have d:oL c l=11:=by
         have q:gw c (l.take k) b=11:=by rw[r.out,zl (Qf (Yt s) al (by rw[O.out];exact zH y))]
         rw[K.out,X.out (by rw[q];decide),q]
        have z:=za d;clear d y;go_wp2_with fail
        go_quiet (fail)
        go_wp2;go_ret;exact⟨by rw[z.out];rfl,Below.bE I.out _⟩
       have NP:Hid (∀j (u:j<l.length),j<m+1->decide (l[j].name=b.name)=false):=za (fun j u an=>by
        by_cases h:j=m
        ·subst h;rw[O.out];exact zz y
        exact E.out j u (by omega))
       clear y;go_wp2_with fail
       go_quiet (fail)
       go_wp2;go_roundw
       case rel=>exact⟨m+1,by go_num,by omega,NP,za (Below.bE jg.out _)⟩
       case measure=>simp[intOf];omega
      skip
      have Y:Hid (((l.take k).any fun x=>decide (x.name=b.name))=false):=za (FQ (fun j u Sf=>E.out j u (by omega)));rw[Y.out,zj (by simp)]at r;clear Y E;go_wp2_with fail
      go_loopw [7] (fun i wr=>∃m:Nat,i= .int .i64 m/\m<=k/\Hid (∀j (u:j<l.length),j<m->decide (l[j].id=b.id)=false)/\Hid (Below w3.heap.size w3 wr)) (fun i _=>k-(intOf i).toNat)
      case atStart=>exact⟨0,rfl,by omega,za (by omega),za (zq _ _)⟩
      case round=>
       obtain⟨U,rfl,aw,E,fZ⟩:=hrel;have D:=za (I.out.trans (fZ.out.mono I.out.size));generalize wr=w4 at*;by_cases ak:U<k
       ·have aj:U<n:=by omega
        have T2:U<l.length:=by omega
        obtain⟨m,QL⟩:∃m,m=U:=⟨U,rfl⟩
        subst QL;obtain⟨Z,o',p,QC,d0,d1,d2⟩:=(J.out.below (D.out.mono M)).at_ (j:=m) T2;injection p with p;injection p with hA1 hA2;subst hA1 hA2;obtain⟨Z,o',p,_,f0,f1,f2⟩:=(J.out.below (D.out.mono M)).at_ (j:=k) s;injection p with p;injection p with hA1 hA2;subst hA1 hA2;rw[mn.out]at f0 f1 f2;obtain⟨C,G⟩:∃C,l[m]=C:=⟨_,rfl⟩
        rw[G]at d0 d1 d2;have O:=za G;clear G;clear d1 d2 e1 e2 f1 f2;by_cases y:C.id=b.id
        ·have q1:((C.id:Int)==(b.id:Int))=true:=xh.2 (by omega);have d:oL c l=1:=by
          have q:gw c (l.take k) b=1:=by rw[r.out,zl (Qf (Yt s) ak (by rw[O.out];exact zH y))]
          rw[K.out,X.out (by rw[q];decide),q]
         have z:=za d;clear d y;go_wp2_with fail
         go_quiet (fail)
         go_wp2;go_ret;exact⟨by rw[z.out];rfl,Below.bE D.out _⟩
        have q1:((C.id:Int)==(b.id:Int))=false:=zr.2 (by omega);have NP:Hid (∀j (u:j<l.length),j<m+1->decide (l[j].id=b.id)=false):=za (fun j u an=>by
         by_cases h:j=m
         ·subst h;rw[O.out];exact zz y
         exact E.out j u (by omega))
        clear y;go_wp2_with fail
        go_quiet (fail)
        go_wp2;go_roundw
        case rel=>exact⟨m+1,by go_num,by omega,NP,za (Below.bE fZ.out _)⟩
        case measure=>simp[intOf];omega
       have Y:Hid (((l.take k).any fun x=>decide (x.id=b.id))=false):=za (FQ (fun j u Sf=>E.out j u (by omega)));rw[Y.out,zj (by simp)]at r;clear Y E;obtain⟨Z,o',p,_,f0,f1,f2⟩:=(J.out.below (D.out.mono M)).at_ (j:=k) s;injection p with p;injection p with hA1 hA2;subst hA1 hA2;rw[mn.out]at f0 f1 f2;have ar:=I.out.size;have ag:=za ((HC.out.ag jg.out HC.out.lt).ag fZ.out (by have:=HC.out.lt;have:=jg.out.size;omega));have HG:=za (I4 b.ty w4 (by omega));obtain⟨T,hT⟩:∃T,cI b.ty.data.toList=T:=⟨_,rfl⟩
       rw[hT]at HG r;have ai:=za hT;clear e0 e1 e2 f0 f1 hT;go_wp2_with fail
       refine HG.out.mono ?_;rintro e N dG;cases T with
       |none=>
        obtain⟨L,rfl⟩:=dG;have d:oL c l=3:=by
         have q:gw c (l.take k) b=3:=by rw[r.out,zl rfl]
         rw[K.out,X.out (by rw[q];decide),q]
        have z:=za d;have S:=za (D.out.trans (L.mono D.out.size));clear d L;go_wp2;go_ret;exact⟨by rw[z.out];rfl,S.out.alloc S.out.size _⟩
       |some t=>
        obtain⟨L,d0,d1,d2,d3,rfl,nO⟩:=dG;have wC:b.shape=t:=by unfold bF.shape;rw[ai.out];rfl
        rw[zj (by simp),wC]at r;obtain⟨A5,eB,rfl,rfl,rfl,rfl,_⟩:=nO.open_;have aa:=ag.out.ag L ag.out.lt;have ax:w.heap.size<N.heap.size:=aa.lt;have S:=za (D.out.trans (L.mono D.out.size));have W:Hid (Below w.heap.size w (N.alloc (.cells #[.int .i64 t.kind,.int .i64 t.size,.slice A5 t.sub.length eB,.int .i64 t.tail] 64))):=za (S.out.alloc S.out.size _);have ab:=za (aa.alloc (.cells #[.int .i64 t.kind,.int .i64 t.size,.slice A5 t.sub.length eB,.int .i64 t.tail] 64));have YR:=za (MO t _ (N.alloc (.cells #[.int .i64 t.kind,.int .i64 t.size,.slice A5 t.sub.length eB,.int .i64 t.tail] 64)) _ _ _ _ ((nO.below ((zq _ N).alloc (zi _) _)).Aj) (zi _) (by have:=M9 (I5 ai.out);omega));have c0:N.cell? ⟨w.heap.size,0,none⟩=some (.int .i64 c.fm):=aa.cell 0;clear L nO aa wC f2;by_cases F:c.fm=1
        ·have k1:((c.fm:Int)==1)=true:=xh.2 F;cases lg:t.flat with
         |false=>
          have d:oL c l=12:=by
           have q:gw c (l.take k) b=12:=by rw[r.out,zl ⟨F,lg⟩]
           rw[K.out,X.out (by rw[q];decide),q]
          rw[lg]at YR;have z:=za d;clear d F lg;go_wp2_with fail
          refine YR.out.mono ?_;rintro e w6 ⟨rfl,H⟩;have ad:=za (W.out.trans (H.mono W.out.size));clear H;go_wp2;go_ret;exact⟨by rw[z.out];rfl,ad.out⟩
         |true=>
          have rM:=za (ah.out (by rw[r.out,zj (by simp[lg])]));rw[lg]at YR;clear F lg;go_wp2_with fail
          refine YR.out.mono ?_;rintro e w6 ⟨rfl,H⟩;have ad:=za (W.out.trans (H.mono W.out.size));have aq:=za (ab.out.ag H ab.out.lt);clear H;go_wp2;go_roundw
          case rel=>exact⟨k+1,by go_num,by omega,rM,ad,aq⟩
          case measure=>simp[intOf];omega
        have k1:((c.fm:Int)==1)=false:=zr.2 F;have rM:=za (ah.out (by rw[r.out,zj (by simp[F])]));clear F;go_wp2;go_roundw
        case rel=>exact⟨k+1,by go_num,by omega,rM,W,ab⟩
        case measure=>simp[intOf];omega
   have s:k=l.length:=by have:=hn.out;omega
   have d:oL c l=0:=by
    rw[K.out];have q:=HT.out;rw[s]at q;exact B0 q
   have z:=za d;clear s d;go_wp2;go_ret;exact⟨by rw[z.out];rfl,R.out⟩
theorem FR (a b:ByteArray)(x y:It)(B:Nat)(w:World)(z u o p q s:Value)(hx:bW w B x z u o)(n:bW w B y p q s)(l:B<=w.heap.size):
 Calls Tryz.prog 15 #[.agg #[.string a,z,u,o],.agg #[.string b,p,q,s]] w fun e w'=>(∃r:Bool,e= .returned (.bool r)/\(r=true↔a=b/\x=y))/\Below w.heap.size w w':=by
 obtain⟨F,C,rfl,rfl,rfl,_⟩:=hx.open_;obtain⟨G,D,rfl,rfl,rfl,_⟩:=n.open_;obtain⟨W,j⟩:∃W,(w.alloc (.cells #[.string a,.string x.text,.bool x.list,.slice F x.sub.length C] 30)).alloc (.cells #[.string b,.string y.text,.bool y.list,.slice G y.sub.length D] 30)=W:=⟨_,rfl⟩
 have c:Below w.heap.size w W:=by rw[<-j];exact((zq _ w).alloc (zi _) _).alloc (by simp) _
 have A:=za (Mz x B W _ _ _ (hx.below (c.mono l)) (zP l c.size) y _ _ _ (n.below (c.mono l)));have d:=za c;have k:=za j;clear hx n c j;rcases pt a b with⟨i,J,E⟩|⟨i,J,E⟩
 ·have m:=za i;clear i;go_enter Tryz.func15,Tryz.ntmps15
  go_wp2_with fail
  rw[k.out];refine A.out.mono ?_;rintro e K ⟨⟨r,rfl,I⟩,H⟩;go_wp2;go_ret;exact⟨⟨r,rfl,I.trans ⟨fun h=>⟨m.out,h⟩,fun h=>h.2⟩⟩,d.out.trans (H.mono d.out.size)⟩
 have m:=za i;clear i;go_enter Tryz.func15,Tryz.ntmps15
 go_wp2;first|rw[k.out]|skip
 go_ret;exact⟨⟨false,rfl,⟨(by intro h;cases h),fun h=>absurd h.1 m.out⟩⟩,by first|exact d.out|(rw[<-k.out]at d;exact d.out)|exact bM⟩
