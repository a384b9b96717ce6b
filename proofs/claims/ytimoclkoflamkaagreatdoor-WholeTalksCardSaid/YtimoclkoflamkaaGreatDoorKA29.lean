/- package registry: Encode. -/
import Derived.Test.YtimoclkoflamkaaGreatDoorKA12
import Derived.Test.YtimoclkoflamkaaGreatDoorKA28
import Derived.Test.YtimoclkoflamkaaGreatDoorKA40
import Derived.Test.YtimoclkoflamkaaGreatDoorKA43
set_option linter.all false
set_option maxRecDepth 100000
set_option maxHeartbeats 3200000
open Go.Proofs.Tryz
namespace Go.Proofs.YtimoclkoflamkaaGreatDoor
open Go.RowKit
variable {w w':World}{l:List bY}{g k hi a0 n cap j d i:Nat}{E a3 a4:Int}{A:Option Addr}{e:aV}{t:Ty}
def ye:=@heap_alloc_old
def Z9:=@results47
def aeH (w:World)(S:Nat->Prop)(o:Option aV)(a0:Nat)(a1 a2:ByteArray)(a3 a4:Int)(A:Option Addr)(n cap:Nat)(a6:Int)(b:Bool):Prop:=
 (o=none/\b=false/\a0=0/\a1=⟨#[]⟩/\a2=⟨#[]⟩)\/∃e,o=some e/\b=true/\a0=e.id/\a1=e.name/\a2=e.ty/\gd w S e.shape a3 a4 (.slice A n cap) a6/\mr e/\cO e.ty.data.toList=some e.shape
theorem MH {C D z:Nat}{c:aF}(h:lg w C hi g D z c l){o:Option aV}{q p:ByteArray}{s:Int}{b:Bool}(i:So l o a0 q p a3 a4 A n cap s b):aeH w (fun k=>g<k/\k<hi) o a0 q p a3 a4 A n cap s b:=by
 rcases i with⟨j,m,d⟩|⟨r,i,j,m,d⟩
 ·simp[Ec]at d;exact .inl ⟨j,m,by omega,d.2.1,d.2.2.1⟩
 obtain⟨H,L,K,I,e,E⟩:=h.rows r i;rw[e]at d;simp at d;obtain⟨J,F,G,u,y,x,B⟩:=d;subst u y x B;exact .inr ⟨r.1,j,m,by omega,F,G,E,h.sz r i,h.ok.ty r.1 (xI.2 ⟨r,i,rfl⟩)⟩
theorem V6 (lo hi g k gi:Nat)(c:aF)(l:List bY)(nm:ByteArray)(x:It)(B:Nat)(w:World)(c0 c1 c2:Value)(h:lg w lo hi g k gi c l)(hI:bH w B x c0 c1 c2)(hB:B<=w.heap.size)(hL:Laid w)(gz:aW w)(hl:c.fm≠1->x.fB.length<=1099511627776):
 Calls prog 47 #[(g,0),.agg #[nm,c0,c1,c2]] w fun e w'=>e= .returned (.tuple #[(bB c (aJ l) nm x).1.val,.int .i64 (bB c (aJ l) nm x).2])/\(w,w'):=by
 have Bu:g<w.heap.size:=zJ h.g2 h.his;have aj:k<w.heap.size:=h.nm.lt;obtain⟨z,D,rfl,rfl,rfl,_⟩:=hI.open_;obtain⟨W,J⟩:∃W,(w.alloc (.cells #[nm,x.text,x.list,.slice z x.sub.length D] 30)).alloc (.cells #[.int .u64 0,eS,eS] 103)=W:=⟨_,rfl⟩
 have H:Below w.heap.size w W:=by rw[<-J];exact((zi _ w).alloc (ze _) _).alloc (by simp) _
 have Ch:W.heap.size=w.heap.size+2:=by rw[<-J];simp
 have Dy:af W w.heap.size 30 #[nm,x.text,x.list,.slice z x.sub.length D]:=by rw[<-J];exact(af.new w _ _).alloc _
 have qj:af W (w.heap.size+1) 103 #[.int .u64 0,eS,eS]:=by rw[<-J];exact af.at_ (by simp)
 obtain⟨a0,I,a2,a3,a4,A,n,cap,m,b,rN,qk⟩:=En h nm;have vK:=za (MH h rN);have Qr:=za qk;have Dz:=za (h.below (H.mono h.his));have HS:Hid (∀V:World,V.heap[g]?=W.heap[g]?/\V.heap[k]?=W.heap[k]?/\V.heap[w.heap.size]?=W.heap[w.heap.size]?->(V,g,6,Value.map (some k))/\(V,w.heap.size,0,nm)/\jn V k (BJ l)):=za (fun V d=>⟨af.cell (show af V g _ _ from d.1.trans Dz.out.blk) 6,af.cell (show af V w.heap.size _ _ from d.2.2.trans Dy) 0,Dz.out.nm.ah d.2.1⟩);have ag:=za (hI.below (H.mono hB));have lJ:=za Dy;have cr:=za qj;have ic:=za H;have HW:=za J;have Cg:=za (hL.below H hL.pos);have T7:=za (gz.below H gz.pos);have mC:Hid (bB c (aJ l) nm x=match fE (aJ l) nm with
  |none=>(oR,11)
  |some e=>if(bU c e.shape x).2≠0 then(oR,(bU c e.shape x).2)else if c.fm=1 then(⟨0,e.name,(bU c e.shape x).1⟩,0)else(⟨e.id,ByteArray.empty,(bU c e.shape x).1⟩,0)):=za rfl
 generalize bB c (aJ l) nm x=ae at*;generalize fE (aJ l) nm=ak at*;clear h hI hL gz J H Dy qj rN qk;go_enter func47,ntmps47
 go_wp2_with fail
 rw[HW.out];refine aL 12 (fun V=>(V,g,6,Value.map (some k))/\(V,w.heap.size,0,nm)/\jn V k (BJ l)) (by kernel_rfl) (by kernel_rfl) ?_;have hHeld:=HS.out W.drew ⟨rfl,rfl,rfl⟩;refine GT.iv [0,1,2,3,4,5,6,7,8,9] hHeld (fun _ _ _ _ _ h=>h) (by kernel_rfl) ?_;iterate 6 (refine .c rfl rfl (fun V d=>by go_simp<;>with_reducible rfl) ?_;simp only[Act.put,zb,zc,zd])
 refine .c (v:= .tuple #[.agg #[.int .u64 a0,I,a2,a3,a4,.slice A n cap,m],b]) rfl rfl (fun V d=>by have hl:=Qr.out V d.2.2;go_simp) ?_;try simp only[Act.put,zb,zc,zd];iterate 3 (refine .c rfl rfl (fun V d=>by go_simp<;>with_reducible rfl) ?_;simp only[Act.put,zb,zc,zd])
 refine .nil ?_;refine GT.fx 10 (fun K o=> ?_) rfl (by kernel_rfl);go_simp;have iX:(W.alloc (.cells #[.int .u64 0,eS,eS,(0:Int),(0:Int),nS,(0:Int)] 126)).drew.heap[g]?=W.heap[g]?/\(W.alloc (.cells #[.int .u64 0,eS,eS,(0:Int),(0:Int),nS,(0:Int)] 126)).drew.heap[k]?=W.heap[k]?/\(W.alloc (.cells #[.int .u64 0,eS,eS,(0:Int),(0:Int),nS,(0:Int)] 126)).drew.heap[w.heap.size]?=W.heap[w.heap.size]?:=⟨ye _ _ (by omega),ye _ _ (by omega),ye _ _ (by omega)⟩
 refine o.out _ _ (HS.out _ iX) (fun hHeld=> ?_);clear o K;try simp only[Act.put,zb,zc,zd]
 refine GT.fx 11 (fun K o=> ?_) rfl (by kernel_rfl);go_simp;have dW:(W.alloc (.cells #[.int .u64 a0,I,a2,a3,a4,.slice A n cap,m] 126)).drew.heap[g]?=W.heap[g]?/\(W.alloc (.cells #[.int .u64 a0,I,a2,a3,a4,.slice A n cap,m] 126)).drew.heap[k]?=W.heap[k]?/\(W.alloc (.cells #[.int .u64 a0,I,a2,a3,a4,.slice A n cap,m] 126)).drew.heap[w.heap.size]?=W.heap[w.heap.size]?:=⟨ye _ _ (by omega),ye _ _ (by omega),ye _ _ (by omega)⟩
 refine o.out _ _ (HS.out _ dW) (fun hHeld=> ?_);clear o K;try simp only[Act.put,zb,zc,zd]
 refine GT.oF 12 ?_ rfl (by kernel_rfl);go_simp;obtain⟨i,mS⟩:∃i,(W.alloc (.cells #[.int .u64 a0,I,a2,a3,a4,.slice A n cap,m] 126)).drew=i:=⟨_,rfl⟩
 have y:Below W.heap.size W i:=by rw[<-mS];exact((zi _ W).alloc (ze _) _).drew
 have Iy:af i (w.heap.size+2) 126 #[.int .u64 a0,I,a2,a3,a4,.slice A n cap,m]:=by rw[<-mS];exact af.drew (af.at_ Ch)
 have C:=za (Dz.out.below (y.mono Dz.out.his));have WX:=za (lJ.out.ah y (by omega));have PU:=za (cr.out.ah y (by omega));have X:=za Iy;have Z:=za (ic.out.trans (y.mono (by omega)));have rQ:=za (ag.out.below (y.mono (by omega)));have PT:=za (Cg.out.below y Cg.out.pos);have T6:=za (T7.out.below y T7.out.pos);have cC:w.heap.size+2<i.heap.size:=Iy.lt;rw[mS];clear iX dW mS y Iy Qr HS hHeld;rcases vK.out with⟨rfl,rfl,rfl,rfl,rfl⟩|⟨e,rfl,rfl,rfl,rfl,rfl,mR,ai,Bk⟩
 ·obtain⟨q0,q1,q2,YT,ad,ab⟩:=bq PU.out;go_wp2;obtain⟨r,u,s⟩:=fw PU.out (.int .u64 0) eS eS;refine zj (v:= .tuple #[.agg #[.int .u64 0,eS,eS],(11:Int)]) (by simp[results,Z9,go_sem,r,u,s]) rfl ?_;rw[mC.out];exact⟨rfl,((Z.out.setCell (by simp) _).setCell (by simp) _).setCell (by simp) _⟩
 have I9:=za ((mR.below Z.out).uL);obtain⟨u0,u1,u2,u3,u4,u5,u6⟩:=nI X.out;have q:Hid (ae=if(bU c e.shape x).2≠0 then(oR,(bU c e.shape x).2)else if c.fm=1 then(⟨0,e.name,(bU c e.shape x).1⟩,0)else(⟨e.id,ByteArray.empty,(bU c e.shape x).1⟩,0)):=mC;clear mC;clear mR;by_cases p:c.fm=1
 ·have U:uM c= .func (.func 63) #[.agg #[c.de,c.it]] #[]:=by unfold uM BM;rw[zg p]
  have aa:Hid (∀V,Below i.heap.size i V->Calls prog 63 #[.agg #[c.de,c.it],.agg #[a3,a4,.slice A n cap,m],.agg #[x.text,x.list,.slice z x.sub.length D]] V fun N w'=>N= .returned (.tuple #[.string (bU c e.shape x).1,.int .i64 (bU c e.shape x).2])/\(V,w')):=za (fun V d=>by
   unfold bU;rw[zg p];exact Hi e.shape x c.de c.it i.heap.size V _ _ _ _ _ _ _ (I9.out.below d) ((rQ.out.below (d.mono (by omega))).mono (by omega)) d.size (PT.out.below d PT.out.pos) (T6.out.below d T6.out.pos))
  rw[zg p]at q;have ah:((c.fm:Int)==1)=true:=yN.2 p;have R:Hid (∀V,Below i.heap.size i V->(V,g,8,Value.func (.func 63) #[.agg #[c.de,c.it]] #[])/\(V,w.heap.size+2,3,a3)/\(V,w.heap.size+2,4,a4)/\(V,w.heap.size+2,5,Value.slice A n cap)/\(V,w.heap.size+2,6,m)/\(V,w.heap.size,1,x.text)/\(V,w.heap.size,2,x.list)/\(V,w.heap.size,3,Value.slice z x.sub.length D)):=za (fun V d=>by
   obtain⟨_,_,_,y3,y4,y5,y6⟩:=nI (X.out.ah d (by omega));obtain⟨_,G,z2,z3,_⟩:=aY (WX.out.ah d (by omega));have M:=(C.out.below (d.mono C.out.his)).cells.2.2.2.1;rw[U]at M;exact⟨M,y3,y4,y5,y6,G,z2,z3⟩)
  generalize (bU c e.shape x).1=PS at*;generalize (bU c e.shape x).2=PE at*;clear U p;go_wp2_with fail
  refine aL 14 (fun V=>(V,g,8,Value.func (.func 63) #[.agg #[c.de,c.it]] #[])/\(V,w.heap.size+2,3,a3)/\(V,w.heap.size+2,4,a4)/\(V,w.heap.size+2,5,Value.slice A n cap)/\(V,w.heap.size+2,6,m)/\(V,w.heap.size,1,x.text)/\(V,w.heap.size,2,x.list)/\(V,w.heap.size,3,Value.slice z x.sub.length D)) (by kernel_rfl) (by kernel_rfl) ?_;have hHeld:=R.out i.drew bQ;refine GT.iv [0,1,2,3,4,5,6,7,8] hHeld (fun _ _ _ _ _ h=>h) (by kernel_rfl) ?_;repeat(refine .c rfl rfl (fun V d=>by go_simp<;>with_reducible rfl) ?_;simp only[Act.put,zb,zc,zd])
  refine .nil ?_;refine GT.fx 9 (fun K o=> ?_) rfl (by kernel_rfl);go_simp;refine(aa.out i.drew bQ).mono ?_;rintro N w3 ⟨rfl,O⟩;go_wp2_with fail
  have j:Below i.heap.size i w3:=(show Below i.heap.size i i.drew from bQ).trans O;refine o.out _ _ (R.out w3 j) (fun hHeld=> ?_);clear o K;try simp only[Act.put,zb,zc,zd]
  refine GT.iv [10,11,12,13] hHeld (fun _ _ _ _ _ h=>h) (by kernel_rfl) ?_;repeat(refine .c rfl rfl (fun V d=>by go_simp<;>with_reducible rfl) ?_;simp only[Act.put,zb,zc,zd])
  refine .nil ?_;refine GT.oF 14 ?_ rfl (by kernel_rfl);go_simp;have g0:=(C.out.below (j.mono C.out.his)).cells.1;have F:=PU.out.ah j (by omega);have L:=X.out.ah j (by omega);have S:=za (Z.out.trans (j.mono (by omega)));have Y:=za F;clear O j hHeld u0 u1 u2 u3 u4 u5 u6;obtain⟨q0,q1,q2,YT,ad,ab⟩:=bq F;obtain⟨u0,u1,u2,u3,u4,u5,u6⟩:=nI L;clear F L;rcases eR PE with⟨E,G,z2⟩|⟨E,G,z2⟩
  ·subst E;rw[zf (by simp)]at q;go_wp2;obtain⟨r,u,s⟩:=fw Y.out (.int .u64 0) (.string e.name) PS;refine zj (v:= .tuple #[.agg #[(.int .u64 0),(.string e.name),PS],(0:Int)]) (by simp[results,Z9,go_sem,r,u,s]) rfl ?_;rw[q.out];exact⟨rfl,((S.out.setCell (by simp) _).setCell (by simp) _).setCell (by simp) _⟩
  rw[zg E]at q;go_wp2;obtain⟨r,u,s⟩:=fw Y.out (.int .u64 0) eS eS;refine zj (v:= .tuple #[.agg #[.int .u64 0,eS,eS],PE]) (by simp[results,Z9,go_sem,r,u,s]) rfl ?_;rw[q.out];exact⟨rfl,((S.out.setCell (by simp) _).setCell (by simp) _).setCell (by simp) _⟩
 have U:uM c= .func (.func 61) #[.agg #[c.de,c.it]] #[]:=by unfold uM BM;rw[zf p]
 have aa:Hid (∀V,Below i.heap.size i V->Calls prog 61 #[.agg #[c.de,c.it],.agg #[a3,a4,.slice A n cap,m],.agg #[x.text,x.list,.slice z x.sub.length D]] V fun N w'=>N= .returned (.tuple #[.string (bU c e.shape x).1,.int .i64 (bU c e.shape x).2])/\(V,w')):=za (fun V d=>by
  unfold bU;rw[zf p];exact O5 e.shape x c.de c.it i.heap.size V _ _ _ _ _ _ _ (I9.out.below d) ((rQ.out.below (d.mono (by omega))).mono (by omega)) d.size (PT.out.below d PT.out.pos) (hl p))
 rw[zf p]at q;have ah:((c.fm:Int)==1)=false:=zl.2 p;have R:Hid (∀V,Below i.heap.size i V->(V,g,8,Value.func (.func 61) #[.agg #[c.de,c.it]] #[])/\(V,w.heap.size+2,3,a3)/\(V,w.heap.size+2,4,a4)/\(V,w.heap.size+2,5,Value.slice A n cap)/\(V,w.heap.size+2,6,m)/\(V,w.heap.size,1,x.text)/\(V,w.heap.size,2,x.list)/\(V,w.heap.size,3,Value.slice z x.sub.length D)):=za (fun V d=>by
  obtain⟨_,_,_,y3,y4,y5,y6⟩:=nI (X.out.ah d (by omega));obtain⟨_,G,z2,z3,_⟩:=aY (WX.out.ah d (by omega));have M:=(C.out.below (d.mono C.out.his)).cells.2.2.2.1;rw[U]at M;exact⟨M,y3,y4,y5,y6,G,z2,z3⟩)
 generalize (bU c e.shape x).1=PS at*;generalize (bU c e.shape x).2=PE at*;clear U p;go_wp2_with fail
 refine aL 14 (fun V=>(V,g,8,Value.func (.func 61) #[.agg #[c.de,c.it]] #[])/\(V,w.heap.size+2,3,a3)/\(V,w.heap.size+2,4,a4)/\(V,w.heap.size+2,5,Value.slice A n cap)/\(V,w.heap.size+2,6,m)/\(V,w.heap.size,1,x.text)/\(V,w.heap.size,2,x.list)/\(V,w.heap.size,3,Value.slice z x.sub.length D)) (by kernel_rfl) (by kernel_rfl) ?_;have hHeld:=R.out i.drew bQ;refine GT.iv [0,1,2,3,4,5,6,7,8] hHeld (fun _ _ _ _ _ h=>h) (by kernel_rfl) ?_;repeat(refine .c rfl rfl (fun V d=>by go_simp<;>with_reducible rfl) ?_;simp only[Act.put,zb,zc,zd])
 refine .nil ?_;refine GT.fx 9 (fun K o=> ?_) rfl (by kernel_rfl);go_simp;refine(aa.out i.drew bQ).mono ?_;rintro N w3 ⟨rfl,O⟩;go_wp2_with fail
 have j:Below i.heap.size i w3:=(show Below i.heap.size i i.drew from bQ).trans O;refine o.out _ _ (R.out w3 j) (fun hHeld=> ?_);clear o K;try simp only[Act.put,zb,zc,zd]
 refine GT.iv [10,11,12,13] hHeld (fun _ _ _ _ _ h=>h) (by kernel_rfl) ?_;repeat(refine .c rfl rfl (fun V d=>by go_simp<;>with_reducible rfl) ?_;simp only[Act.put,zb,zc,zd])
 refine .nil ?_;refine GT.oF 14 ?_ rfl (by kernel_rfl);go_simp;have g0:=(C.out.below (j.mono C.out.his)).cells.1;have F:=PU.out.ah j (by omega);have L:=X.out.ah j (by omega);have S:=za (Z.out.trans (j.mono (by omega)));have Y:=za F;clear O j hHeld u0 u1 u2 u3 u4 u5 u6;obtain⟨q0,q1,q2,YT,ad,ab⟩:=bq F;obtain⟨u0,u1,u2,u3,u4,u5,u6⟩:=nI L;clear F L;rcases eR PE with⟨E,G,z2⟩|⟨E,G,z2⟩
 ·subst E;rw[zf (by simp)]at q;go_wp2;obtain⟨r,u,s⟩:=fw Y.out (.int .u64 e.id) eS PS;refine zj (v:= .tuple #[.agg #[(.int .u64 e.id),eS,PS],(0:Int)]) (by simp[results,Z9,go_sem,r,u,s]) rfl ?_;rw[q.out];exact⟨rfl,((S.out.setCell (by simp) _).setCell (by simp) _).setCell (by simp) _⟩
 rw[zg E]at q;go_wp2;obtain⟨r,u,s⟩:=fw Y.out (.int .u64 0) eS eS;refine zj (v:= .tuple #[.agg #[.int .u64 0,eS,eS],PE]) (by simp[results,Z9,go_sem,r,u,s]) rfl ?_;rw[q.out];exact⟨rfl,((S.out.setCell (by simp) _).setCell (by simp) _).setCell (by simp) _⟩
theorem lg.put {c:aF}(h:lg w j hi g d i c l)(m:ae [d,i] w w')(hz:w'.heap.size=w.heap.size){v:Value}(s:jn w' d (BJ (l++ [(e,v)])))(u:jn w' i (BK (l++ [(e,v)])))(o:Xz w (fun k=>g<k/\k<w.heap.size) (e,v))(q:fQ c (aJ l) e=0)(x:mr e):lg w' j w'.heap.size g d i c (l++ [(e,v)]) where
 blk:=h.blk.only m (by have:=h.n2;have:=h.i2;simp;omega)
 nm:=s
 ix:=u
 n1:=h.n1
 n2:=h.n2
 i1:=h.i1
 i2:=h.i2
 ne:=h.ne
 g2:=by have:=h.g2;have:=h.his;omega
 his:=ze _
 rows:=fun r b=>by
  have key:Xz w (fun k=>g<k/\k<w.heap.size) r:=by
   rcases yA.1 b with b|b
   ·exact(h.rows r b).ah (fun k _ hS=>⟨hS.1,by have:=hS.2;have:=h.his;omega⟩) (fun _ _ _=>rfl)
   obtain rfl:=yE.1 b;exact o
  exact key.ah (fun k _ hS=>⟨hS.1,by have:=hS.2;omega⟩) fun p n hS=>m.cell n (by have:=hS.1;have:=h.n2;have:=h.i2;simp;omega)
 ok:=by
  have:aJ (l++ [(e,v)])=aJ l++ [e]:=by simp[aJ]
  rw[this];exact h.ok.snoc q
 sz:=fun r b=>by
  rcases yA.1 b with b|b
  ·exact h.sz r b
  obtain rfl:=yE.1 b;exact x
def XK (w:World)(lo g gn gi:Nat)(c:aF)(l:List bY)(e:aV)(en:Ending)(w':World):Prop:=
 en= .returned (.int .i64 (fQ c (aJ l) e))/\ae [gn,gi] w w'/\(fQ c (aJ l) e=0->∃v,lg w' lo w'.heap.size g gn gi c (l++ [(e,v)]))
theorem lu {b:Nat}{c:aF}(h:fQ c (aJ l) e=E)(j:E≠0)(k:ae [b,d] w w'):XK w i g b d c l e (.returned E) w':=⟨by rw[h],k,fun m=>absurd (h.symm.trans m) j⟩
theorem eO {L:List Nat}(h:Below w.heap.size w w'):ae L w w':=(ae.ai h (ze _)).mono (by simp)
theorem abf {c:aF}(h:ch c (aJ l)){nm:ByteArray}(b:∀x∈aJ l,x.name≠nm):Instr.findNow .string nm (mE (BJ l) 0) 0=some none:=by
 rcases CW h nm with⟨e,_⟩|⟨j,r,_,d,i,_⟩
 ·exact e
 exact absurd i (b r.1 (xI.2 ⟨r,xf d,rfl⟩))
theorem abg {c:aF}(h:ch c (aJ l)){id:Nat}(b:∀x∈aJ l,x.id≠id):Instr.findNow (.int .u64) (.int .u64 id) (mE (BK l) 0) 0=some none:=by
 rcases L5 h id _ (fun _=>rfl)with⟨e,_⟩|⟨j,r,_,d,i,_⟩
 ·exact e
 exact absurd i (b r.1 (xI.2 ⟨r,xf d,rfl⟩))
theorem MK {p:aV->Bool}{e d:ByteArray}{i:Int}{b:Bool}(h:So l ((aJ l).find? p) a0 e d a3 a4 A n cap i b):(aJ l).any p=b:=by
 rcases h with⟨c,rfl,_⟩|⟨r,_,c,rfl,_⟩
 ·exact Gr c
 exact Gs c
theorem V7 (lo hi g j d:Nat)(c:aF)(l:List bY)(e:aV)(w:World)(h:lg w lo hi g j d c l)(hL:Laid w)(hg:1<lo)(hs:mr e):
 Calls prog 65 #[(g,0),.agg #[.int .u64 e.id,e.name,e.ty]] w fun en w'=>XK w lo g j d c l e en w':=by
 obtain⟨g0,g6,g7,_,_⟩:=h.cells;have Bu:g<w.heap.size:=zJ h.g2 h.his;have aQ:j<w.heap.size:=h.nm.lt;have lE:d<w.heap.size:=h.ix.lt;obtain⟨W,hW⟩:∃W,w.alloc (.cells #[.int .u64 e.id,e.name,e.ty] 63)=W:=⟨_,rfl⟩
 have jj:Below w.heap.size w W:=by rw[<-hW];exact(zi _ w).alloc (ze _) _
 have Ch:W.heap.size=w.heap.size+1:=by rw[<-hW];simp
 have Dy:af W w.heap.size 63 #[.int .u64 e.id,e.name,e.ty]:=by rw[<-hW];exact af.new w _ _
 obtain⟨a0,a1,a2,a3,a4,A,n,cap,a6,b,rN,qk⟩:=En h e.name;have aq:=MK rN;have Dz:=za (h.below (jj.mono h.his));have Qr:=za qk;have C:Hid (∀V:World,V.heap[g]?=W.heap[g]?/\V.heap[j]?=W.heap[j]?/\V.heap[w.heap.size]?=W.heap[w.heap.size]?->(V,g,6,Value.map (some j))/\(V,w.heap.size,1,e.name)/\jn V j (BJ l)):=za (fun V i=>⟨af.cell (show af V g _ _ from i.1.trans Dz.out.blk) 6,af.cell (show af V w.heap.size _ _ from i.2.2.trans Dy) 1,Dz.out.nm.ah i.2.1⟩);have lJ:=za Dy;have ic:=za jj;have HW:=za hW;have Cg:=za (hL.below jj hL.pos);have q:Hid (fQ c (aJ l) e=if ca e.name=false then 11 else if((aJ l).any fun x=>decide (x.name=e.name))=true then 11 else if((aJ l).any fun x=>decide (x.id=e.id))=true then 1
  else if cO e.ty.data.toList=none then 3 else if c.fm=1/\e.shape.flat=false then 12 else 0):=za rfl
 rw[show((aJ l).any fun x=>decide (x.name=e.name))=b from aq]at q;have aK:=za hs;have aT:=hs.name;have WY:=hs.ty;have YL:=za (fun V=>qN e.name V (by omega));clear h hL hW jj Dy rN qk aq hs;go_enter func65,ntmps65
 go_wp2_with fail
 rw[HW.out];refine aL 12 (fun V=>(V,g,6,Value.map (some j))/\(V,w.heap.size,1,e.name)/\jn V j (BJ l)) (by kernel_rfl) (by kernel_rfl) ?_;have hHeld:=C.out W.drew ⟨rfl,rfl,rfl⟩;refine GT.iv [0,1,2,3,4,5,6,7,8,9] hHeld (fun _ _ _ _ _ h=>h) (by kernel_rfl) ?_;iterate 6 (refine .c rfl rfl (fun V i=>by go_simp<;>with_reducible rfl) ?_;simp only[Act.put,zb,zc,zd])
 refine .c (v:= .tuple #[.agg #[.int .u64 a0,a1,a2,a3,a4,.slice A n cap,a6],b]) rfl rfl (fun V i=>by have hl:=Qr.out V i.2.2;go_simp) ?_;try simp only[Act.put,zb,zc,zd];iterate 3 (refine .c rfl rfl (fun V i=>by go_simp<;>with_reducible rfl) ?_;simp only[Act.put,zb,zc,zd])
 refine .nil ?_;refine GT.fx 10 (fun K z=> ?_) rfl (by kernel_rfl);go_simp;refine z.out _ _ (C.out _ ⟨ye _ _ (by omega),ye _ _ (by omega),ye _ _ (by omega)⟩) (fun hHeld=> ?_);clear z K;try simp only[Act.put,zb,zc,zd]
 refine GT.fx 11 (fun K z=> ?_) rfl (by kernel_rfl);go_simp;refine z.out _ _ (C.out _ ⟨ye _ _ (by omega),ye _ _ (by omega),ye _ _ (by omega)⟩) (fun hHeld=> ?_);clear z K;try simp only[Act.put,zb,zc,zd]
 refine GT.oF 12 ?_ rfl (by kernel_rfl);go_simp;obtain⟨r,mS⟩:∃r,(W.alloc (.cells #[.int .u64 a0,a1,a2,a3,a4,.slice A n cap,a6] 126)).drew=r:=⟨_,rfl⟩
 have X:Below W.heap.size W r:=by rw[<-mS];exact((zi _ W).alloc (ze _) _).drew
 have S:=za (ic.out.trans (X.mono (by omega)));have dt:=za (lJ.out.ah X (by omega));have PT:=za (Cg.out.below X Cg.out.pos);have O:=za (Dz.out.below (X.mono Dz.out.his));rw[mS];clear mS X Qr C hHeld lJ Cg Dz ic;obtain⟨u0,u1,u2,ag,ah,ai⟩:=bq dt.out;cases b with
 |true=>
  have o:fQ c (aJ l) e=11:=by rw[q.out];split<;>rfl
  go_wp2;go_ret;exact lu o (by decide) (eO S.out)
 |false=>
  rw[zf (show¬(false=true)by simp)]at q;go_wp2_with fail
  refine(YL.out _).mono ?_;rintro en w' ⟨rfl,rfl⟩;cases hmy:ca e.name with
  |false=>
   have o:fQ c (aJ l) e=11:=by rw[q.out,zg hmy]
   go_wp2;go_ret;exact lu o (by decide) (eO S.out)
  |true=>
   rw[zf (by simp[hmy])]at q;obtain⟨a0,a1,a2,a3,a4,A,n,cap,a6,b,rN,qk⟩:=Mo O.out e.id;rw[show((aJ l).any fun x=>decide (x.id=e.id))=b from MK rN]at q;have Qr:=za qk;have C:Hid (∀V:World,V.heap[g]?=r.heap[g]?/\V.heap[d]?=r.heap[d]?/\V.heap[w.heap.size]?=r.heap[w.heap.size]?->(V,g,7,Value.map (some d))/\(V,w.heap.size,0,Value.int .u64 e.id)/\jn V d (BK l)):=za (fun V i=>⟨af.cell (show af V g _ _ from i.1.trans O.out.blk) 7,af.cell (show af V w.heap.size _ _ from i.2.2.trans dt.out) 0,O.out.ix.ah i.2.1⟩);have aR:=S.out.size;clear rN qk u0 u1 u2 ag ah ai hmy;go_wp2_with fail
   refine aL 12 (fun V=>(V,g,7,Value.map (some d))/\(V,w.heap.size,0,Value.int .u64 e.id)/\jn V d (BK l)) (by kernel_rfl) (by kernel_rfl) ?_;have hHeld:=C.out r.drew ⟨rfl,rfl,rfl⟩;have aU:w.heap.size<r.heap.size:=dt.out.lt;refine GT.iv [0,1,2,3,4,5,6,7,8,9] hHeld (fun _ _ _ _ _ h=>h) (by kernel_rfl) ?_;iterate 6 (refine .c rfl rfl (fun V i=>by go_simp<;>with_reducible rfl) ?_;simp only[Act.put,zb,zc,zd])
   refine .c (v:= .tuple #[.agg #[.int .u64 a0,a1,a2,a3,a4,.slice A n cap,a6],b]) rfl rfl (fun V i=>by have hl:=Qr.out V i.2.2;go_simp) ?_;try simp only[Act.put,zb,zc,zd];iterate 3 (refine .c rfl rfl (fun V i=>by go_simp<;>with_reducible rfl) ?_;simp only[Act.put,zb,zc,zd])
   refine .nil ?_;refine GT.fx 10 (fun K z=> ?_) rfl (by kernel_rfl);go_simp;refine z.out _ _ (C.out _ ⟨ye _ _ (by omega),ye _ _ (by omega),ye _ _ (by omega)⟩) (fun hHeld=> ?_);clear z K;try simp only[Act.put,zb,zc,zd]
   refine GT.fx 11 (fun K z=> ?_) rfl (by kernel_rfl);go_simp;refine z.out _ _ (C.out _ ⟨ye _ _ (by omega),ye _ _ (by omega),ye _ _ (by omega)⟩) (fun hHeld=> ?_);clear z K;try simp only[Act.put,zb,zc,zd]
   refine GT.oF 12 ?_ rfl (by kernel_rfl);go_simp;obtain⟨Y,vM⟩:∃Y,(r.alloc (.cells #[.int .u64 a0,a1,a2,a3,a4,.slice A n cap,a6] 126)).drew=Y:=⟨_,rfl⟩
   have cP:Below r.heap.size r Y:=by rw[<-vM];exact((zi _ r).alloc (ze _) _).drew
   have T9:=za (S.out.trans (cP.mono (by omega)));have dK:=za (dt.out.ah cP (by omega));have Nh:=za (PT.out.below cP PT.out.pos);have UW:=za (O.out.below (cP.mono O.out.his));rw[vM];clear vM cP Qr C hHeld dt PT O S;obtain⟨u0,u1,u2,ag,ah,ai⟩:=bq dK.out;cases b with
   |true=>
    have o:fQ c (aJ l) e=1:=by rw[q.out,zg rfl]
    go_wp2;go_ret;exact lu o (by decide) (eO T9.out)
   |false=>
    rw[zf (show¬(false=true)by simp)]at q;have HG:=za (VX e.ty Y (by omega) Nh.out);go_wp2_with fail
    refine HG.out.mono ?_;rintro en m jZ;obtain⟨T,hT⟩:∃T,cO e.ty.data.toList=T:=⟨_,rfl⟩
    rw[hT]at jZ q;cases T with
    |none=>
     obtain⟨D,rfl⟩:=jZ;have o:fQ c (aJ l) e=3:=by rw[q.out,zg rfl]
     have fC:=za (T9.out.trans (D.mono T9.out.size));clear D hT;go_wp2;go_ret;exact lu o (by decide) (eO (fC.out.alloc fC.out.size _))
    |some t=>
     obtain⟨D,d0,d1,d2,d3,rfl,mR⟩:=jZ;have B6:e.shape=t:=by unfold aV.shape;rw[hT];rfl
     rw[zf (by simp),B6]at q;obtain⟨B,y,rfl,rfl,rfl,rfl,_⟩:=mR.open_;have aC:=T9.out.size;have aa:=dK.out.ah D (by have:=dK.out.lt;omega);have I:=UW.out.below (D.mono UW.out.his);have av:=I.cells.1;have aS:g<m.heap.size:=zJ I.g2 I.his;have L:Below m.heap.size m (m.alloc (.cells #[t.kind,t.size,.slice B t.sub.length y,t.tail] 70)):=(zi _ m).alloc (ze _) _;have T8:=za ((T9.out.trans (D.mono aC)).trans (L.mono (by have:=D.size;omega)));have J:=za (aa.ah L aa.lt);have R:=za (I.below (L.mono I.his));have H:=za (af.new m 70 #[t.kind,t.size,.slice B t.sub.length y,t.tail]);have M:=za (mR.below L);have aj:=Nh.out.below D Nh.out.pos;have HF:=za (Kq t _ _ _ _ _ _ M.out.uL (ze _) (aj.below L aj.pos));have aP:w.heap.size<m.heap.size:=aa.lt;clear u0 u1 u2 ag ah ai D hT dK UW mR aa I L aj;by_cases N:c.fm=1;focus
      have aN:((c.fm:Int)==1)=true:=yN.2 N;go_wp2_with fail
      refine HF.out.mono ?_;rintro en w7 ⟨rfl,F⟩;have aM:=F.size;simp only[zp]at aM;have ab:=za (T8.out.trans (F.mono T8.out.size));have Ci:=za (J.out.ah F J.out.lt);have u:=za (R.out.below (F.mono R.out.his));have Jb:=za (H.out.ah F H.out.lt);have ak:=za (M.out.below F);clear F HF R J H M av;cases mP:t.flat
      ·have o:fQ c (aJ l) e=12:=by rw[q.out,zg ⟨N,mP⟩]
       go_wp2;go_ret;exact lu o (by decide) (eO ab.out)
      have o:fQ c (aJ l) e=0:=by rw[q.out,zf (by simp[mP])]
      obtain⟨p,rfl⟩:∃p,p=w7:=⟨w7,rfl⟩
      clear mP N;go_wp2_with fail
     rotate_left
     focus
      have aN:((c.fm:Int)==1)=false:=zl.2 N;have o:fQ c (aJ l) e=0:=by rw[q.out,zf (by simp[N])]
      obtain⟨p,sm⟩:∃p,m.alloc (.cells #[t.kind,t.size,.slice B t.sub.length y,t.tail] 70)=p:=⟨_,rfl⟩
      rw[sm]at T8 J R H M;have ID:=za sm;have ab:=T8;have Ci:=J;have u:=R;have Jb:=H;have ak:=M;clear HF N sm T8 J R H M;go_wp2_with fail
      rw[ID.out];clear av
     all_goals
      obtain⟨z1,z2,z3,z4,z5⟩:=CS o;have aB:=L3 (P:=prog) (T:=116) (w:=p.drew) (u.out.nm.ah rfl) underlying116 zH (by simp[MapKept.IsKey]) (abf u.out.ok z2) (.agg #[.int .u64 e.id,e.name,e.ty,t.kind,t.size,.slice B t.sub.length y,t.tail]);have NB:=fun(V:World) (i:jn V d (BK l))=>L3 (P:=prog) (T:=117) (w:=V) i underlying117 Yd (by simp[MapKept.IsKey]) (abg u.out.ok z3) (.agg #[.int .u64 e.id,e.name,e.ty,t.kind,t.size,.slice B t.sub.length y,t.tail])
      have aG:=za NB;clear z1 z2 z3 z4 z5 NB;obtain⟨U,Z,b2,_⟩:=bq Ci.out.drew;obtain⟨t0,t1,t2,t3,_⟩:=aY Jb.out.drew;have aw:p.drew.cell? (g,6)=some (.map (some j)):=(af.drew u.out.blk).cell 6;refine aL 9 (fun V=>(V,g,6,Value.map (some j))/\(V,w.heap.size,0,Value.int .u64 e.id)/\(V,w.heap.size,1,e.name)/\(V,w.heap.size,2,e.ty)/\(V,m.heap.size,0,t.kind)/\(V,m.heap.size,1,t.size)/\(V,m.heap.size,2,Value.slice B t.sub.length y)/\(V,m.heap.size,3,t.tail)) (by kernel_rfl) (by kernel_rfl) ?_;have hHeld:=And.intro aw (And.intro U (And.intro Z (And.intro b2 (And.intro t0 (And.intro t1 (And.intro t2 t3))))));clear U Z b2 t0 t1 t2 t3 aw;refine GT.iv [0,1,2,3,4,5,6,7,8] hHeld (fun _ _ _ _ _ h=>h) (by kernel_rfl) ?_;repeat(refine .c rfl rfl (fun V i=>by go_simp<;>with_reducible rfl) ?_;simp only[Act.put,zb,zc,zd])
      refine .nil ?_;refine GT.oF 9 ?_ rfl (by kernel_rfl);go_simp;obtain⟨s,BC⟩:∃s,o4 p.drew j (BJ l) e.name (.agg #[.int .u64 e.id,e.name,e.ty,t.kind,t.size,.slice B t.sub.length y,t.tail])=s:=⟨_,rfl⟩
      have az:jn s j (BJ l++ [(.string e.name,(.agg #[.int .u64 e.id,e.name,e.ty,t.kind,t.size,.slice B t.sub.length y,t.tail]))]):=by rw[<-BC];exact tL (u.out.nm.ah rfl) _ _
      have G:ae [j] p s:=by rw[<-BC];exact(ae.refl [j] p).drew.trans (wN _ _ _ _ _)
      have UN:s.heap.size=p.heap.size:=by rw[<-BC];simp[o4]
      rw[BC];have aO:=u.out.n2;have bX:=u.out.ne;have al:=(Ci.out.only G (by simp;omega)).drew;have an:=(Jb.out.only G (by simp;omega)).drew;have ay:=af.drew (u.out.blk.only G (by simp;omega));have ad:jn s.drew d (BK l):=(u.out.ix.only G (by simp;omega)).ah rfl;have NB:=aG.out s.drew ad;obtain⟨U,Z,b2,_⟩:=bq al;obtain⟨t0,t1,t2,t3,_⟩:=aY an;have ax:s.drew.cell? (g,7)=some (.map (some d)):=ay.cell 7;have aD:=za az;have PV:=za G;have aE:=za UN;have aH:=za ad;clear hHeld BC az G UN aB al an ay ad;go_wp2_with fail
      refine aL 9 (fun V=>(V,g,7,Value.map (some d))/\(V,w.heap.size,0,Value.int .u64 e.id)/\(V,w.heap.size,1,e.name)/\(V,w.heap.size,2,e.ty)/\(V,m.heap.size,0,t.kind)/\(V,m.heap.size,1,t.size)/\(V,m.heap.size,2,Value.slice B t.sub.length y)/\(V,m.heap.size,3,t.tail)) (by kernel_rfl) (by kernel_rfl) ?_;have hHeld:=And.intro ax (And.intro U (And.intro Z (And.intro b2 (And.intro t0 (And.intro t1 (And.intro t2 t3))))));clear U Z b2 t0 t1 t2 t3 ax;refine GT.iv [0,1,2,3,4,5,6,7,8] hHeld (fun _ _ _ _ _ h=>h) (by kernel_rfl) ?_;repeat(refine .c rfl rfl (fun V i=>by go_simp<;>with_reducible rfl) ?_;simp only[Act.put,zb,zc,zd])
      refine .nil ?_;refine GT.oF 9 ?_ rfl (by kernel_rfl);go_simp;clear NB;obtain⟨E,UU⟩:∃E,o4 s.drew d (BK l) (.int .u64 e.id) (.agg #[.int .u64 e.id,e.name,e.ty,t.kind,t.size,.slice B t.sub.length y,t.tail])=E:=⟨_,rfl⟩
      have ar:jn E d (BK l++ [(.int .u64 e.id,(.agg #[.int .u64 e.id,e.name,e.ty,t.kind,t.size,.slice B t.sub.length y,t.tail]))]):=by rw[<-UU];exact tL aH.out _ _
      have so:ae [d] s E:=by rw[<-UU];exact(ae.refl [d] s).drew.trans (wN _ _ _ _ _)
      have au:E.heap.size=p.heap.size:=by rw[<-aE.out,<-UU];simp[o4]
      rw[UU];have ao:=aD.out.only so (by simp;omega);have aA:Hid (ae [j,d] p E):=za ((PV.out.mono (by simp)).trans (so.mono (by simp)));have HQ:Hid (∃v,lg E lo E.heap.size g j d c (l++ [(e,v)])):=za ⟨_,u.out.put aA.out au (by simpa[BJ]using ao) (by simpa[BK]using ar) ⟨_,_,_,_,rfl,by
       show gd p _ e.shape _ _ _ _
       rw[B6];exact ak.out.eG (fun k hk hS=>⟨by have hS:Y.heap.size<=k:=hS;omega,hk⟩)⟩ o aK.out⟩
      clear UU ar so au ao hHeld;go_wp2;go_ret;exact⟨by rw[o];rfl,(eO ab.out).trans aA.out,fun _=>HQ.out⟩
def aeI (w:World)(c:aF)(l:List aV)(e:Ending)(w':World):Prop:=
 Below w.heap.size w w'/\((mF c l=0/\∃g gn gi rows,e= .returned (.tuple #[.pointer (some ⟨g,0,none⟩),.int .i64 0])/\lg w' w.heap.size w'.heap.size g gn gi c rows/\aJ rows=l)\/(mF c l≠0/\e= .returned (.tuple #[.pointer none,.int .i64 (mF c l)])))
theorem AL {c:aF}{l:List aV}(h:iO c (l.take k) (l.drop k)=E)(d:k<l.length):(fQ c (l.take k) l[k]≠0->E=fQ c (l.take k) l[k])/\(fQ c (l.take k) l[k]=0->iO c (l.take (k+1)) (l.drop (k+1))=E):=by
 rw[xC d,iO]at h;refine⟨fun b=> ?_,fun b=> ?_⟩
 ·rw[zg b]at h;exact h.symm
 rw[zf (by simp[b])]at h;rw[Yh,zr d];exact h
theorem Df {c:aF}{l:List aV}(h:iO c (l.take l.length) (l.drop l.length)=E):E=0:=by
 rw[Yo]at h;exact h.symm
theorem oK {c:aF}{l:List aV}(h:c.right=true)(b:l.length<=32):mF c l=iO c [] l:=by
 unfold mF;rw[zf (by simp[h]),zf (by omega)]
theorem lg.fresh {h b:Nat}{c:aF}{W:World}(d:((w.alloc (.map #[] 0)).alloc (.map #[] 0)).alloc (.cells (rgC c b (b+1) (uM c) (qS c)) 123)=W)(j:w.heap.size=b)(i:h<=b):lg W h W.heap.size (b+1+1) b (b+1) c []:=by
 subst j;have hz:W.heap.size=w.heap.size+3:=by rw[<-d];simp
 exact{
  blk:=by rw[<-d];exact af.at_ (by simp)
  nm:=by
   have e:jn (w.alloc (.map #[] 0)) w.heap.size []:=jn.new w;rw[<-d];exact(ye _ _ (by simp;omega)).trans ((ye _ _ (by simp)).trans e)
  ix:=by
   have e:jn ((w.alloc (.map #[] 0)).alloc (.map #[] 0)) (w.alloc (.map #[] 0)).heap.size []:=jn.new _;simp only[zp]at e;rw[<-d];exact(ye _ _ (by simp)).trans e
  n1:=i
  n2:=by omega
  i1:=by omega
  i2:=by omega
  ne:=by omega
  g2:=by omega
  his:=ze _
  rows:=by simp
  ok:=ch.nil c
  sz:=by simp}
theorem V8 (c:aF)(l:List aV)(v:Value)(B:Nat)(w:World)(R:oA w B v l)(hB:B<=w.heap.size)(Y:Laid w)(hs:∀e∈l,mr e):
 Calls prog 46 #[c.val,v] w fun e w'=>aeI w c l e w':=by
 obtain⟨A,n,cap,rfl,y,PC,jf⟩:=R.bK;have H:=za (rz c (w.alloc (.cells #[c.fm,.int .u32 c.mg,c.fr,c.un,c.de,c.it] 24)));have jY:=(zi w.heap.size w).alloc (ze _) (.cells #[c.fm,.int .u32 c.mg,c.fr,c.un,c.de,c.it] 24);have Dl:=af.new w 24 #[c.fm,.int .u32 c.mg,c.fr,c.un,c.de,c.it];have HV:=za R;have HS:=za hs;have hp:=Y.pos;have HL:=za Y;unfold aF.val at*;obtain⟨J,X⟩:∃J,c.right=J:=⟨_,rfl⟩
 rw[X]at H;have K:=za X;clear R hs Y X;go_enter func46,ntmps46
 go_wp2_with fail
 refine H.out.mono ?_;rintro e b ⟨rfl,W⟩;have L:=za (jY.trans (W.mono (by simp)));have O:=Dl.ah W (by simp);have kR:w.heap.size<b.heap.size:=O.lt;obtain⟨c0,c1,c2,c3,c4,c5⟩:=fy O;clear jY W Dl H O;cases J with
 |false=>
  go_wp2;go_ret2
  have d:mF c l=1:=by unfold mF;rw[zg K.out]
  exact⟨L.out,.inr ⟨by rw[d];decide,by rw[d];rfl⟩⟩
 |true=>
  by_cases ae:32<n
  ·have hi:(32:Int)<(n:Int):=by omega
   go_wp2;go_ret2
   have d:mF c l=4:=by unfold mF;rw[zf (by simp[K.out]),zg (by rw[<-y.out];exact ae)]
   exact⟨L.out,.inr ⟨by rw[d];decide,by rw[d];rfl⟩⟩
  have hi:¬(32:Int)<(n:Int):=by omega
  have Qn:= @run_makeMap prog;have vJ:w.heap.size<b.heap.size+1:=by omega
  have mK:w.heap.size<b.heap.size+1+1:=by omega
  have WZ:w.heap.size<b.heap.size+1+1+1:=by omega
  have ad:l.length<=32:=by rw[<-y.out];omega
  have Jc:=za (oK K.out ad);by_cases p:c.fm=1;focus
   have k1:((c.fm:Int)==1)=true:=yN.2 p;have S:uM c= .func (.func 63) #[.agg #[c.de,c.it]] #[]:=by unfold uM BM;rw[zg p]
   have E:qS c= .func (.func 64) #[.agg #[c.de,c.it]] #[]:=by unfold qS BM;rw[zg p]
   clear p
  rotate_left
  focus
   have k1:((c.fm:Int)==1)=false:=zl.2 p;have S:uM c= .func (.func 61) #[.agg #[c.de,c.it]] #[]:=by unfold uM BM;rw[zf p]
   have E:qS c= .func (.func 62) #[.agg #[c.de,c.it]] #[]:=by unfold qS BM;rw[zf p]
   clear p
  all_goals
   obtain⟨q,u⟩:∃q,(((b.alloc (.cells #[c.de,c.it] 115)).alloc (.map #[] 0)).alloc (.map #[] 0)).alloc (.cells #[c.fm,.int .u32 c.mg,c.fr,c.un,c.de,c.it,.map (some (b.heap.size+1)),.map (some (b.heap.size+1+1)),uM c,qS c] 123)=q:=⟨_,rfl⟩
   have TD:lg q w.heap.size q.heap.size (b.heap.size+1+1+1) (b.heap.size+1) (b.heap.size+1+1) c []:=lg.fresh (w:=b.alloc (.cells #[c.de,c.it] 115)) (by unfold rgC;exact u) (by simp) (by omega);have cP:Below w.heap.size w q:=by rw[<-u];exact((((L.out.alloc (by omega) _).alloc (by simp;omega) _).alloc (by simp;omega) _).alloc (by simp;omega) _)
   have UW:=za TD;have dK:=za cP;rw[S,E]at u;have Be:=za u;clear u TD cP S E;go_wp2_with fail
   rw[Be.out];clear c0 c1 c2 c3 c4 c5 k1 Qn vJ mK WZ;go_loopw [45] (fun i wr=>∃(k:Nat) (rows:List bY),k<=n/\i= .int .i64 k/\Hid (lg wr w.heap.size wr.heap.size (b.heap.size+1+1+1) (b.heap.size+1) (b.heap.size+1+1) c rows)/\Hid (aJ rows=l.take k)/\Hid (iO c (l.take k) (l.drop k)=iO c [] l)/\Hid (w,wr)) (fun i _=>n-(intOf i).toNat)
   case atStart=>exact⟨0,[],by omega,by go_num,UW,za rfl,za (by simp),dK⟩
   case round=>
    obtain⟨k,rows,hk,rfl,HM,G,HT,r⟩:=hrel;clear UW dK;by_cases ag:k<n
    ·skip
     have m:k<l.length:=by have:=y.out;omega
     obtain⟨ge,o,hA,lK,e0,e1,e2⟩:=(HV.out.below (r.out.mono hB)).at_ (j:=k) m;subst hA;obtain⟨fx,Uv⟩:=AL HT.out m;have U:=HS.out _ (zA m);obtain⟨h,N⟩:∃h,l[k]=h:=⟨_,rfl⟩
     rw[N]at e0 e1 e2 fx Uv U;have uU:l.take (k+1)=l.take k++ [h]:=by rw[Yh,zr m,N];rfl
     have jg:=r.out.size;obtain⟨x,D⟩:∃x,wr.alloc (.cells #[.int .u64 h.id,h.name,h.ty] 63)=x:=⟨_,rfl⟩
     have C:Below wr.heap.size wr x:=by rw[<-D];exact(zi _ wr).alloc (ze _) _
     have HA:=za (V7 w.heap.size wr.heap.size _ _ _ c rows h x (HM.out.below C) (HL.out.below (r.out.trans (C.mono jg)) hp) hp U);have fC:=za (r.out.trans (C.mono jg));have mz:=za D;have PA:=za uU;clear D C N U uU;go_wp2_with fail
     rw[mz.out];refine HA.out.mono ?_;rintro e I ⟨rfl,ho,M⟩;rw[G.out]at M⊢;have HO:=za (fC.out.trans (ho.below fC.out.size (by simp;omega)));have WR:=za M;generalize fQ c (l.take k) h=EE at*;clear ho M HA e0 e1 e2;rcases eR EE with⟨z,z1,z2⟩|⟨z,z1,z2⟩
     ·subst z;obtain⟨vv,ab⟩:=WR.out rfl;have HN:=za ab;have F:=za (Uv rfl);clear ab fx Uv;go_wp2;go_roundw
      case rel=>
       have key:∃(s:Nat) (rows:List bY),s<=n/\Value.int .i64 ((k:Int)+1)= .int .i64 s/\Hid (lg I w.heap.size I.heap.size (b.heap.size+1+1+1) (b.heap.size+1) (b.heap.size+1+1) c rows)/\Hid (aJ rows=l.take s)/\Hid (iO c (l.take s) (l.drop s)=iO c [] l)/\Hid (w,I):=⟨k+1,rows++ [(h,vv)],by omega,by go_num,HN,za (by rw[PA.out,<-G.out];simp[aJ]),F,HO⟩
       first|exact key|((repeat apply Exists.intro);exact⟨key,rfl⟩)
      case measure=>simp[intOf];omega
     have F:=za (fx z);clear fx Uv;go_wp2;go_ret2
     have d:mF c l=EE:=by rw[Jc.out];exact F.out
     exact⟨HO.out,.inr ⟨by rw[d];exact z,by rw[d];rfl⟩⟩
    skip
    have m:k=l.length:=by have:=y.out;omega
    have d:mF c l=0:=by
     rw[Jc.out];have Z:=HT.out;rw[m]at Z;exact Df Z
    have aa:aJ rows=l:=by rw[G.out,m];simp
    have HF:=za d;have HG:=za aa;clear m d aa;go_wp2;go_ret2
    exact⟨r.out,.inl ⟨HF.out,_,_,_,rows,rfl,HM.out,HG.out⟩⟩
def XL (w:World)(D:Int×Ms)(e:Ending)(w':World):Prop:=(w,w')/\∃d0 d1 d2 d3,e= .returned (.tuple #[.agg #[d0,d1,d2,d3],D.1])/\nC w' (w.heap.size<= ·) D.2 d0 d1 d2 d3
theorem Ez (w:World)(S:Nat->Prop):nC w S sI eS eS false nS:=⟨rfl,by simp[sI,ByteArray.size],nH w S⟩
theorem iz {t:TypeId}{o j e z3:Value}(h:af w g t #[o,j,e,z3])(b c d v3:Value):((w.setCell (g,0) b),g,0,b)/\(((w.setCell (g,0) b).setCell (g,1) c),g,1,c)/\((((w.setCell (g,0) b).setCell (g,1) c).setCell (g,2) d),g,2,d)/\(((((w.setCell (g,0) b).setCell (g,1) c).setCell (g,2) d).setCell (g,3) v3),g,3,v3):=by
 have m:af _ g t #[b,j,e,z3]:=h.store (i:=0) (u:=b) rfl;have k:af _ g t #[b,c,e,z3]:=m.store (i:=1) (u:=c) rfl;have l:af _ g t #[b,c,d,z3]:=k.store (i:=2) (u:=d) rfl;have n:af _ g t #[b,c,d,v3]:=l.store (i:=3) (u:=v3) rfl;exact⟨m.cell 0,k.cell 1,l.cell 2,n.cell 3⟩
theorem eP (w:World)(g:Nat)(b c d v3:Value):ae [g] w ((((w.setCell (g,0) b).setCell (g,1) c).setCell (g,2) d).setCell (g,3) v3):=((((ae.refl _ w).setCell (by simp) _).setCell (by simp) _).setCell (by simp) _).setCell (by simp) _
theorem V9 (lo hi g gn gi:Nat)(c:aF)(l:List bY)(f:Fr)(w:World)(h:lg w lo hi g gn gi c l)(hL:Laid w)(gz:aW w)(hs:f.body.size<=1099511627776):
 Calls prog 72 #[(g,0),.agg #[.int .u64 f.id,f.nm,f.body]] w fun e w'=>XL w (eX c (aJ l) f) e w':=by
 obtain⟨W,J⟩:∃W,(w.alloc (.cells #[.int .u64 f.id,f.nm,f.body] 103)).alloc (.cells #[eS,eS,false,nS] 30)=W:=⟨_,rfl⟩
 have S:Below w.heap.size w W:=by rw[<-J];exact((zi _ w).alloc (ze _) _).alloc (by simp) _
 have Ch:W.heap.size=w.heap.size+2:=by rw[<-J];simp
 have Dy:af W w.heap.size 103 #[.int .u64 f.id,f.nm,f.body]:=by rw[<-J];exact(af.new w _ _).alloc _
 have qj:af W (w.heap.size+1) 30 #[eS,eS,false,nS]:=by rw[<-J];exact af.at_ (by simp)
 have X:=za (h.below (S.mono h.his));have ag:=za (aaS lo hi g gn gi c l f W X.out);have lJ:=za Dy;have cr:=za qj;have ic:=za S;have HW:=za J;have Cg:=za (hL.below S hL.pos);have T7:=za (gz.below S gz.pos);have R:Hid (eX c (aJ l) f=match fU c (aJ l) f with
  |none=>(11,sI)
  |some e=>if(dy c e.shape f.body).1=0 then(0,⟨e.name,(dy c e.shape f.body).2⟩)else if(dy c e.shape f.body).1=2 then(3,sI)else((dy c e.shape f.body).1,sI)):=za rfl
 obtain⟨r0,r1,r2,_⟩:=bq Dy;obtain⟨id,nm,body⟩:=f;simp only at r0 r1 r2 hs ag lJ HW;generalize eX c (aJ l) ⟨id,nm,body⟩=aq at*;clear h hL gz J S Dy qj;go_enter func72,ntmps72
 go_wp2_with fail
 rw[HW.out];refine ag.out.mono ?_;rintro e o ⟨I,a0,a1,a2,a3,a4,A,n,cap,G,b,rfl,rN⟩;have vK:=za (MH X.out rN);obtain⟨d,U⟩:∃d,o.alloc (.cells #[.int .u64 a0,a1,a2,a3,a4,.slice A n cap,G] 126)=d:=⟨_,rfl⟩
 have u:Below W.heap.size W d:=by rw[<-U];exact I.alloc I.size _
 have cg:w.heap.size+2<=o.heap.size:=by have:=I.size;omega
 have rZ:Hid (af d o.heap.size 126 #[.int .u64 a0,a1,a2,a3,a4,.slice A n cap,G]):=za (by rw[<-U];exact af.new _ _ _);have sq:=za (X.out.below (u.mono X.out.his));have WX:=za (lJ.out.ah u (by omega));have PU:=za (cr.out.ah u (by omega));have By:=za (ic.out.trans (u.mono (by omega)));have Z:=za (Cg.out.below u Cg.out.pos);have T6:=za (T7.out.below u T7.out.pos);have sj:=za u;have al:=za (cr.out.ah I (by omega));have an:=za (ic.out.trans (I.mono (by omega)));have qb:w.heap.size+1<o.heap.size:=by omega
 have cC:o.heap.size<d.heap.size:=rZ.out.lt;have vc:=za U;clear I u rN U ag r0 r1 r2;rcases vK.out with⟨M,rfl,rfl,rfl,rfl⟩|⟨e,M,rfl,rfl,rfl,rfl,mR,aj,Bk⟩
 ·rw[M]at R;clear vK M;obtain⟨q0,q1,q2,q3,YT,au,ar,ao⟩:=aY al.out;go_wp2;obtain⟨x,D,z,s⟩:=iz al.out eS eS false nS;refine zj (v:= .tuple #[.agg #[eS,eS,false,nS],(11:Int)]) (by simp[results,results72,go_sem,x,D,z,s,zF,qb]) rfl ?_;rw[R.out];exact⟨(an.out.trans ((eP o (w.heap.size+1) _ _ _ _).below an.out.size (by simp))).alloc (by simp[World.setCell];omega) _,_,_,_,_,rfl,Ez _ _⟩
 have I9:=za ((mR.below sj.out).uL);rw[M]at R;have B:Hid (aq=if(dy c e.shape body).1=0 then(0,⟨e.name,(dy c e.shape body).2⟩)else if(dy c e.shape body).1=2 then(3,sI)else((dy c e.shape body).1,sI)):=R;have M3:=aj.name;clear R vK M mR aj Bk;have Ba:(qS c= .func (.func 64) #[.agg #[c.de,c.it]] #[]/\Hid (∀V,Below d.heap.size d V->Calls prog 64 #[.agg #[c.de,c.it],.agg #[a3,a4,.slice A n cap,G],body] V fun N w'=>wV V w' (dy c e.shape body).2 (dy c e.shape body).1 N))\/(qS c= .func (.func 62) #[.agg #[c.de,c.it]] #[]/\Hid (∀V,Below d.heap.size d V->Calls prog 62 #[.agg #[c.de,c.it],.agg #[a3,a4,.slice A n cap,G],body] V fun N w'=>wV V w' (dy c e.shape body).2 (dy c e.shape body).1 N)):=by
  by_cases hc:c.fm=1
  ·refine .inl ⟨by unfold qS BM;rw[zg hc],za (fun V m=> ?_)⟩;unfold dy;rw[zg hc];exact Hj e.shape body c.de c.it d.heap.size V _ _ _ _ (I9.out.below m) m.size (Z.out.below m Z.out.pos) (T6.out.below m T6.out.pos) hs
  refine .inr ⟨by unfold qS BM;rw[zf hc],za (fun V m=> ?_)⟩;unfold dy;rw[zf hc];exact O6 e.shape body c.de c.it d.heap.size V _ _ _ _ (I9.out.below m) m.size (Z.out.below m Z.out.pos) (by omega)
 rcases Ba with⟨Ny,ai⟩|⟨Ny,ai⟩;all_goals
  have y:Hid (∀V,Below d.heap.size d V->V.cell? (g,9)=some (qS c)/\(V,o.heap.size,3,a3)/\(V,o.heap.size,4,a4)/\(V,o.heap.size,5,Value.slice A n cap)/\(V,o.heap.size,6,G)/\(V,w.heap.size,2,body)):=za (fun V m=>by
   obtain⟨_,_,_,s,y4,y5,y6⟩:=nI (rZ.out.ah m (by omega));obtain⟨_,_,z2,_⟩:=bq (WX.out.ah m (by omega));have hp:=(sq.out.below (m.mono sq.out.his)).cells.2.2.2.2;exact⟨hp,s,y4,y5,y6,z2⟩)
  generalize (dy c e.shape body).1=PE at*;generalize (dy c e.shape body).2=PX at*;go_wp2_with fail
  rw[vc.out];refine aL 15 (fun V=>V.cell? (g,9)=some (qS c)/\(V,o.heap.size,3,a3)/\(V,o.heap.size,4,a4)/\(V,o.heap.size,5,Value.slice A n cap)/\(V,o.heap.size,6,G)/\(V,w.heap.size,2,body)) (by kernel_rfl) (by kernel_rfl) ?_;have hHeld:=y.out d.drew bQ;refine GT.iv [0,1,2,3,4,5,6,7,8] hHeld (fun _ _ _ _ _ h=>h) (by kernel_rfl) ?_;repeat(refine .c rfl rfl (fun V m=>by go_simp<;>with_reducible rfl) ?_;simp only[Act.put,zb,zc,zd])
  refine .nil ?_;refine GT.VL 9 13 rfl rfl (by kernel_rfl) (fun K i=> ?_) (fun K i=> ?_);focus
   go_simp;refine(ai.out d.drew bQ).mono ?_;rintro N w3 ⟨E,d0,d1,d2,rfl,C⟩;obtain⟨r,bx,rfl,rfl,rfl,_⟩:=C.open_;have p:Below d.heap.size d w3:=(show Below d.heap.size d d.drew from bQ).trans E;go_wp2_with fail
   refine i.out _ _ (y.out w3 p) (fun hHeld=> ?_);clear i K;try simp only[Act.put,zb,zc,zd]
   refine GT.iv [10,11,12] hHeld (fun _ _ _ _ _ h=>h) (by kernel_rfl) ?_;repeat(refine .c rfl rfl (fun V m=>by go_simp<;>with_reducible rfl) ?_;simp only[Act.put,zb,zc,zd])
   refine .nil ?_;refine GT.fx 13 (fun K i=> ?_) rfl (by kernel_rfl);go_simp;refine i.out _ _ (y.out _ (p.alloc p.size _)) (fun hHeld=> ?_);clear i K;try simp only[Act.put,zb,zc,zd]
   refine GT.fx 14 (fun K i=> ?_) rfl (by kernel_rfl);go_simp;refine i.out _ _ (y.out _ (p.alloc p.size _)) (fun hHeld=> ?_);clear i K;try simp only[Act.put,zb,zc,zd]
   refine GT.oF 15 ?_ rfl (by kernel_rfl);go_simp;obtain⟨j,q⟩:∃j,w3.alloc (.cells #[PX.text,PX.list,.slice r PX.sub.length bx] 28)=j:=⟨_,rfl⟩
   have fC:Hid (d,j):=za (by rw[<-q];exact p.alloc p.size _);have ab:af j w3.heap.size 28 #[PX.text,PX.list,.slice r PX.sub.length bx]:=by rw[<-q];exact af.new _ _ _
   have UJ:Hid (fV j (d.heap.size<= ·) PX PX.text PX.list (.slice r PX.sub.length bx)):=za (by rw[<-q];exact C.below ((zi _ _).alloc (ze _) _));rw[q];clear q E p C hHeld
  rotate_left
  focus
   go_simp;have O:Below d.heap.size d (d.alloc (.cells #[eS,false,nS] 28)).drew:=((zi d.heap.size d).alloc (ze _) _).drew;have ad:af (d.alloc (.cells #[eS,false,nS] 28)).drew d.heap.size 28 #[eS,false,nS]:=(af.new d _ _).drew;refine i.out _ _ (y.out _ O) (fun hHeld=> ?_);clear i K;try simp only[Act.put,zb,zc,zd]
   refine GT.fx 9 (fun K i=> ?_) rfl (by kernel_rfl);go_simp;refine(ai.out _ O).mono ?_;rintro N w3 ⟨E,d0,d1,d2,rfl,C⟩;obtain⟨r,bx,rfl,rfl,rfl,_⟩:=C.open_;have p:Below d.heap.size d w3:=O.trans (E.mono O.size);have IM:=ad.ah E ad.lt;go_wp2_with fail
   refine i.out _ _ (y.out w3 p) (fun hHeld=> ?_);clear i K;try simp only[Act.put,zb,zc,zd]
   refine GT.iv [10,11,12] hHeld (fun _ _ _ _ _ h=>h) (by kernel_rfl) ?_;repeat(refine .c rfl rfl (fun V m=>by go_simp<;>with_reducible rfl) ?_;simp only[Act.put,zb,zc,zd])
   refine .nil ?_;obtain⟨t0,t1,t2,Nt,PO,US⟩:=bq IM;refine GT.fx 14 (fun K i=> ?_) rfl (by kernel_rfl);go_simp;have qm:Below d.heap.size d (((w3.setCell (d.heap.size,0) PX.text).setCell (d.heap.size,1) PX.list).setCell (d.heap.size,2) (.slice r PX.sub.length bx)):=((p.setCell (by simp) _).setCell (by simp) _).setCell (by simp) _;refine i.out _ _ (y.out _ qm) (fun hHeld=> ?_);clear i K;try simp only[Act.put,zb,zc,zd]
   refine GT.oF 15 ?_ rfl (by kernel_rfl);go_simp;obtain⟨j,q⟩:∃j,(((w3.setCell (d.heap.size,0) PX.text).setCell (d.heap.size,1) PX.list).setCell (d.heap.size,2) (.slice r PX.sub.length bx))=j:=⟨_,rfl⟩
   have fC:Hid (d,j):=za (by rw[<-q];exact qm);have ab:af j d.heap.size 28 #[PX.text,PX.list,.slice r PX.sub.length bx]:=by rw[<-q];exact gZ IM _ _ _
   have UJ:Hid (fV j (d.heap.size<= ·) PX PX.text PX.list (.slice r PX.sub.length bx)):=za (by rw[<-q];exact C.only (L:= [d.heap.size]) ((((ae.refl _ w3).setCell (by simp) _).setCell (by simp) _).setCell (by simp) _) (by simp[World.drew]) (fun k _ H=>by have H:(d.alloc (.cells #[eS,false,nS] 28)).heap.size<=k:=H;simp at H;show d.heap.size<=k;omega));rw[q];clear q E p C hHeld O ad qm IM t0 t1 t2 Nt PO US
  all_goals
   have aa:=PU.out.ah fC.out (by omega);have ak:=rZ.out.ah fC.out (by omega);have ah:=za aa;have F:=za (By.out.trans (fC.out.mono (by omega)));obtain⟨q0,q1,q2,q3,YT,au,ar,ao⟩:=aY aa;obtain⟨u0,u1,u2,u3,u4,u5,u6⟩:=nI ak;obtain⟨t0,t1,t2⟩:=kt ab;clear aa ak ab;rcases eR PE with⟨he,z1,z2⟩|⟨he,z1,z2⟩
   ·subst he;rw[zg rfl]at B;go_wp2;obtain⟨x,D,z,s⟩:=iz ah.out e.name PX.text PX.list (.slice r PX.sub.length bx);refine zj (v:= .tuple #[.agg #[e.name,PX.text,PX.list,.slice r PX.sub.length bx],(0:Int)]) (by simp[results,results72,go_sem,x,D,z,s]) rfl ?_;rw[B.out];exact⟨F.out.trans ((eP j (w.heap.size+1) _ _ _ _).below F.out.size (by simp)),_,_,_,_,rfl,rfl,by simp only;omega,UJ.out.only (L:= [w.heap.size+1]) (eP j (w.heap.size+1) _ _ _ _) (by simp;omega) (fun k _ H=>by have H:d.heap.size<=k:=H;show w.heap.size<=k;omega)⟩
   rw[zf he]at B;by_cases Y:PE=2
   ·have z3:(PE==2)=true:=yN.2 Y;rw[zg Y]at B;go_wp2;obtain⟨x,D,z,s⟩:=iz ah.out eS eS false nS;refine zj (v:= .tuple #[.agg #[eS,eS,false,nS],(3:Int)]) (by simp[results,results72,go_sem,x,D,z,s]) rfl ?_;rw[B.out];exact⟨F.out.trans ((eP j (w.heap.size+1) _ _ _ _).below F.out.size (by simp)),_,_,_,_,rfl,Ez _ _⟩
   have z3:(PE==2)=false:=zl.2 Y;rw[zf Y]at B;go_wp2;obtain⟨x,D,z,s⟩:=iz ah.out eS eS false nS;refine zj (v:= .tuple #[.agg #[eS,eS,false,nS],PE]) (by simp[results,results72,go_sem,x,D,z,s]) rfl ?_;rw[B.out];exact⟨F.out.trans ((eP j (w.heap.size+1) _ _ _ _).below F.out.size (by simp)),_,_,_,_,rfl,Ez _ _⟩
theorem KC {l:List UInt8}(h:cO l=some t):t.may=true:=by
 unfold cO at h;split at h
 ·rename_i x hx
  cases hm:x.may with
  |true=>rw[hm,zg rfl]at h;injection h with h;rw[<-h];exact hm
  |false=>rw[hm]at h;cases h
 cases h
theorem Pd (h:t.may=true):t.count<=64:=by
 simp only[Ty.may,zv,zU]at h;omega
theorem Hr {l:List aV}{p:aV->Bool}(h:∀j (b:j<l.length),j<k->p l[j]=false):(l.take k).any p=false:=by
 rw[xW];intro e c;obtain⟨j,b,rfl⟩:=yS c;rw[zQ]at b;rw[List.getElem_take];rw[h j (by omega) (by omega)];simp
theorem SN {l:List aV}{p:aV->Bool}(c:k<=l.length)(b:j<k)(h:p (l[j]'(by omega))=true):(l.take k).any p=true:=
 Zg.2 ⟨l[j]'(by omega),by rw[List.mem_take_iff_getElem];exact⟨j,by omega,rfl⟩,h⟩
theorem AM (c:aF)(l:List aV)(v:Value)(B:Nat)(w:World)(hv:oA w B v l)(J:B<=w.heap.size)(hs:∀e∈l,mr e):
 Calls prog 9 #[c.val,v] w fun e w'=>e= .returned (.int .i64 (mF c l))/\(w,w'):=by
 obtain⟨A,n,cap,rfl,hn,PC,jf⟩:=hv.bK;have HR:=za (Ex c (w.alloc (.cells #[c.fm,.int .u32 c.mg,c.fr,c.un,c.de,c.it] 24)));have jY:=(zi w.heap.size w).alloc (ze _) (.cells #[c.fm,.int .u32 c.mg,c.fr,c.un,c.de,c.it] 24);have Dl:=af.new w 24 #[c.fm,.int .u32 c.mg,c.fr,c.un,c.de,c.it];have M:=za hv;have HS:=za hs;unfold aF.val at*;obtain⟨rt,Bk⟩:∃rt,c.right=rt:=⟨_,rfl⟩
 rw[Bk]at HR;have Li:=za Bk;clear hv hs Bk;go_enter func9,ntmps9
 go_wp2_with fail
 refine HR.out.mono ?_;rintro e w1 ⟨rfl,aK⟩;have cr:=za (jY.trans (aK.mono (by simp)));have ai:=za (Dl.ah aK (by simp));clear jY aK Dl HR;cases rt with
 |false=>
  go_wp2;go_ret;have d:mF c l=1:=by unfold mF;rw[zg Li.out]
  exact⟨by rw[d];rfl,cr.out⟩
 |true=>
  by_cases ao:32<n
  ·have hi:(32:Int)<(n:Int):=by omega
   go_wp2;go_ret;have d:mF c l=4:=by unfold mF;rw[zf (by simp[Li.out]),zg (by rw[<-hn.out];exact ao)]
   exact⟨by rw[d];rfl,cr.out⟩
  have hi:¬(32:Int)<(n:Int):=by omega
  have ag:l.length<=32:=by rw[<-hn.out];omega
  have L:=za (oK Li.out ag);clear ag Li;go_wp2_with fail
  go_loopw [5] (fun i wr=>∃k:Nat,i= .int .i64 k/\k<=n/\Hid (iO c (l.take k) (l.drop k)=iO c [] l)/\Hid (w,wr)/\Hid (af wr w.heap.size 24 #[c.fm,.int .u32 c.mg,c.fr,c.un,c.de,c.it])) (fun i _=>n-(intOf i).toNat)
  case atStart=>exact⟨0,rfl,by omega,za (by simp),cr,ai⟩
  case round=>
   obtain⟨k,rfl,hk,HT,R,HC⟩:=hrel;clear cr ai;by_cases ax:k<n
   ·have s:k<l.length:=by have:=hn.out;omega
    obtain⟨ge,o,hA,lK,e0,e1,e2⟩:=(M.out.below (R.out.mono J)).at_ (j:=k) s;subst hA;obtain⟨fx,Uv⟩:=AL HT.out s;have Y1:=HS.out _ (zA s);obtain⟨b,pr⟩:∃b,l[k]=b:=⟨_,rfl⟩
    rw[pr]at e0 e1 e2 fx Uv Y1;have au:=Y1.name;have WY:=Y1.ty;have mC:=za pr;have N:=za fx;have ah:=za Uv;have r:Hid (fQ c (l.take k) b=if ca b.name=false then 11 else if((l.take k).any fun x=>decide (x.name=b.name))=true then 11 else if((l.take k).any fun x=>decide (x.id=b.id))=true then 1 else if cO b.ty.data.toList=none then 3 else if c.fm=1/\b.shape.flat=false then 12 else 0):=za rfl;have YL:=za (fun V=>On b.name V (by omega));clear pr fx Uv Y1;generalize wr=w2 at*;go_wp2_with fail
    refine(YL.out _).mono ?_;rintro e w' ⟨rfl,rfl⟩;cases hmy:ca b.name with
    |false=>
     have d:mF c l=11:=by
      have q:fQ c (l.take k) b=11:=by rw[r.out,zg hmy]
      rw[L.out,N.out (by rw[q];decide),q]
     go_wp2;go_ret;exact⟨by rw[d];rfl,R.out⟩
    |true=>
     rw[zf (by simp[hmy])]at r;clear YL hmy;go_wp2_with fail
     go_loopw [6] (fun i wr=>∃m:Nat,i= .int .i64 m/\m<=k/\Hid (∀j (u:j<l.length),j<m->decide (l[j].name=b.name)=false)/\Hid (w2,wr)) (fun i _=>k-(intOf i).toNat)
     case atStart=>exact⟨0,rfl,by omega,za (by omega),za (zi _ _)⟩
     case round=>
      obtain⟨m,rfl,hm,F,fT⟩:=hrel;have H:=za (R.out.trans (fT.out.mono R.out.size));generalize wr=w3 at*;by_cases aq:m<k
      ·have aj:m<n:=by omega
       have Wy:m<l.length:=by omega
       obtain⟨g',o',p,Tb,d0,d1,d2⟩:=(M.out.below (H.out.mono J)).at_ (j:=m) Wy;injection p with p;injection p with hA1 hA2;subst hA1 hA2;obtain⟨g',o',p,_,f0,f1,f2⟩:=(M.out.below (H.out.mono J)).at_ (j:=k) s;injection p with p;injection p with hA1 hA2;subst hA1 hA2;rw[mC.out]at f0 f1 f2;obtain⟨z,E⟩:∃z,l[m]=z:=⟨_,rfl⟩
       rw[E]at d0 d1 d2;have U:=za E;clear E;clear d0 d2 e0 e2 f0 f2;rcases qo z.name b.name with⟨y,q1,q2⟩|⟨y,q1,q2⟩
       ·have d:mF c l=11:=by
         have q:fQ c (l.take k) b=11:=by rw[r.out,zg (SN (Yy s) aq (by rw[U.out];exact zD y))]
         rw[L.out,N.out (by rw[q];decide),q]
        have C:=za d;clear d y;go_wp2_with fail
        go_quiet (fail)
        go_wp2;go_ret;exact⟨by rw[C.out];rfl,Below.bI H.out _⟩
       have I5:Hid (∀j (u:j<l.length),j<m+1->decide (l[j].name=b.name)=false):=za (fun j u ak=>by
        by_cases h:j=m
        ·subst h;rw[U.out];exact zt y
        exact F.out j u (by omega))
       clear y;go_wp2_with fail
       go_quiet (fail)
       go_wp2;go_roundw
       case rel=>exact⟨m+1,by go_num,by omega,I5,za (Below.bI fT.out _)⟩
       case measure=>simp[intOf];omega
      skip
      have Y:Hid (((l.take k).any fun x=>decide (x.name=b.name))=false):=za (Hr (fun j u KY=>F.out j u (by omega)));rw[Y.out,zf (by simp)]at r;clear Y F;go_wp2_with fail
      go_loopw [7] (fun i wr=>∃m:Nat,i= .int .i64 m/\m<=k/\Hid (∀j (u:j<l.length),j<m->decide (l[j].id=b.id)=false)/\Hid (w3,wr)) (fun i _=>k-(intOf i).toNat)
      case atStart=>exact⟨0,rfl,by omega,za (by omega),za (zi _ _)⟩
      case round=>
       obtain⟨O,rfl,av,F,fC⟩:=hrel;have D:=za (H.out.trans (fC.out.mono H.out.size));generalize wr=w4 at*;by_cases an:O<k
       ·have aj:O<n:=by omega
        have Wy:O<l.length:=by omega
        obtain⟨m,Qn⟩:∃m,m=O:=⟨O,rfl⟩
        subst Qn;obtain⟨g',o',p,Tb,d0,d1,d2⟩:=(M.out.below (D.out.mono J)).at_ (j:=m) Wy;injection p with p;injection p with hA1 hA2;subst hA1 hA2;obtain⟨g',o',p,_,f0,f1,f2⟩:=(M.out.below (D.out.mono J)).at_ (j:=k) s;injection p with p;injection p with hA1 hA2;subst hA1 hA2;rw[mC.out]at f0 f1 f2;obtain⟨z,E⟩:∃z,l[m]=z:=⟨_,rfl⟩
        rw[E]at d0 d1 d2;have U:=za E;clear E;clear d1 d2 e1 e2 f1 f2;by_cases y:z.id=b.id
        ·have q1:((z.id:Int)==(b.id:Int))=true:=yN.2 (by omega);have d:mF c l=1:=by
          have q:fQ c (l.take k) b=1:=by rw[r.out,zg (SN (Yy s) an (by rw[U.out];exact zD y))]
          rw[L.out,N.out (by rw[q];decide),q]
         have C:=za d;clear d y;go_wp2_with fail
         go_quiet (fail)
         go_wp2;go_ret;exact⟨by rw[C.out];rfl,Below.bI D.out _⟩
        have q1:((z.id:Int)==(b.id:Int))=false:=zl.2 (by omega);have I5:Hid (∀j (u:j<l.length),j<m+1->decide (l[j].id=b.id)=false):=za (fun j u ak=>by
         by_cases h:j=m
         ·subst h;rw[U.out];exact zt y
         exact F.out j u (by omega))
        clear y;go_wp2_with fail
        go_quiet (fail)
        go_wp2;go_roundw
        case rel=>exact⟨m+1,by go_num,by omega,I5,za (Below.bI fC.out _)⟩
        case measure=>simp[intOf];omega
       have Y:Hid (((l.take k).any fun x=>decide (x.id=b.id))=false):=za (Hr (fun j u KY=>F.out j u (by omega)));rw[Y.out,zf (by simp)]at r;clear Y F;obtain⟨g',o',p,_,f0,f1,f2⟩:=(M.out.below (D.out.mono J)).at_ (j:=k) s;injection p with p;injection p with hA1 hA2;subst hA1 hA2;rw[mC.out]at f0 f1 f2;have ar:=H.out.size;have ae:=za ((HC.out.ah fT.out HC.out.lt).ah fC.out (by have:=HC.out.lt;have:=fT.out.size;omega));have HG:=za (Ka b.ty w4 (by omega));obtain⟨T,hT⟩:∃T,cO b.ty.data.toList=T:=⟨_,rfl⟩
       rw[hT]at HG r;have Y2:=za hT;clear e0 e1 e2 f0 f1 hT;go_wp2_with fail
       refine HG.out.mono ?_;rintro e S jZ;cases T with
       |none=>
        obtain⟨K,rfl⟩:=jZ;have d:mF c l=3:=by
         have q:fQ c (l.take k) b=3:=by rw[r.out,zg rfl]
         rw[L.out,N.out (by rw[q];decide),q]
        have C:=za d;have X:=za (D.out.trans (K.mono D.out.size));clear d K;go_wp2;go_ret;exact⟨by rw[C.out];rfl,X.out.alloc X.out.size _⟩
       |some t=>
        obtain⟨K,d0,d1,d2,d3,rfl,mR⟩:=jZ;have B6:b.shape=t:=by unfold aV.shape;rw[Y2.out];rfl
        rw[zf (by simp),B6]at r;obtain⟨A5,fh,rfl,rfl,rfl,rfl,_⟩:=mR.open_;have aa:=ae.out.ah K ae.out.lt;have aw:w.heap.size<S.heap.size:=aa.lt;have X:=za (D.out.trans (K.mono D.out.size));have W:Hid (w,S.alloc (.cells #[t.kind,t.size,.slice A5 t.sub.length fh,t.tail] 70)):=za (X.out.alloc X.out.size _);have ab:=za (aa.alloc (.cells #[t.kind,t.size,.slice A5 t.sub.length fh,t.tail] 70));have Z:=za (OY t _ (S.alloc (.cells #[t.kind,t.size,.slice A5 t.sub.length fh,t.tail] 70)) _ _ _ _ ((mR.below ((zi _ S).alloc (ze _) _)).uL) (ze _) (by have:=Pd (KC Y2.out);omega));have c0:S.cell? (w.heap.size,0)=some (.int .i64 c.fm):=aa.cell 0;clear K mR aa B6 f2;by_cases G:c.fm=1
        ·have k1:((c.fm:Int)==1)=true:=yN.2 G;cases mP:t.flat with
         |false=>
          have d:mF c l=12:=by
           have q:fQ c (l.take k) b=12:=by rw[r.out,zg ⟨G,mP⟩]
           rw[L.out,N.out (by rw[q];decide),q]
          rw[mP]at Z;have C:=za d;clear d G mP;go_wp2_with fail
          refine Z.out.mono ?_;rintro e w6 ⟨rfl,I⟩;have ad:=za (W.out.trans (I.mono W.out.size));clear I;go_wp2;go_ret;exact⟨by rw[C.out];rfl,ad.out⟩
         |true=>
          have vH:=za (ah.out (by rw[r.out,zf (by simp[mP])]));rw[mP]at Z;clear G mP;go_wp2_with fail
          refine Z.out.mono ?_;rintro e w6 ⟨rfl,I⟩;have ad:=za (W.out.trans (I.mono W.out.size));have al:=za (ab.out.ah I ab.out.lt);clear I;go_wp2;go_roundw
          case rel=>exact⟨k+1,by go_num,by omega,vH,ad,al⟩
          case measure=>simp[intOf];omega
        have k1:((c.fm:Int)==1)=false:=zl.2 G;have vH:=za (ah.out (by rw[r.out,zf (by simp[G])]));clear G;go_wp2;go_roundw
        case rel=>exact⟨k+1,by go_num,by omega,vH,W,ab⟩
        case measure=>simp[intOf];omega
   have s:k=l.length:=by have:=hn.out;omega
   have d:mF c l=0:=by
    rw[L.out];have q:=HT.out;rw[s]at q;exact Df q
   have C:=za d;clear s d;go_wp2;go_ret;exact⟨by rw[C.out];rfl,R.out⟩
