/- package registry: Encode. -/
import Derived.Test.YtimoclkoflamkaaGreatDoorKA12
import Derived.Test.YtimoclkoflamkaaGreatDoorKA28
import Derived.Test.YtimoclkoflamkaaGreatDoorKA40
import Derived.Test.YtimoclkoflamkaaGreatDoorKA42
set_option linter.all false
set_option maxRecDepth 100000
set_option maxHeartbeats 3200000
open Go.Proofs.Tryz
namespace Go.Proofs.YtimoclkoflamkaaGreatDoor
open Go.RowKit
variable {w w':World}{l:List bX}{g k hi a0 n cap m d:Nat}{E a3 a4:Int}{A:Option Addr}{e:bj}{t:Ty}
def yh:=@heap_alloc_old
def ZY:=@results47
def acx (w:World)(S:Nat->Prop)(o:Option bj)(a0:Nat)(a1 a2:ByteArray)(a3 a4:Int)(A:Option Addr)(n cap:Nat)(a6:Int)(b:Bool):Prop:=
 (o=none/\b=false/\a0=0/\a1=⟨#[]⟩/\a2=⟨#[]⟩)\/∃e,o=some e/\b=true/\a0=e.id/\a1=e.name/\a2=e.ty/\fX w S e.shape a3 a4 (.slice A n cap) a6/\oC e/\cL e.ty.data.toList=some e.shape
theorem KZ {B u y:Nat}{c:aM}(h:kV w B hi g u y c l){o:Option bj}{p q:ByteArray}{s:Int}{b:Bool}(i:Qi l o a0 p q a3 a4 A n cap s b):acx w (fun k=>g<k/\k<hi) o a0 p q a3 a4 A n cap s b:=by
 rcases i with⟨m,j,d⟩|⟨r,i,m,j,d⟩
 ·simp[C6]at d;exact .inl ⟨m,j,by omega,d.2.1,d.2.2.1⟩
 obtain⟨L,K,J,I,e,x⟩:=h.rows r i;rw[e]at d;simp at d;obtain⟨H,D,z,C,G,F,E⟩:=d;subst C G F E;exact .inr ⟨r.1,m,j,by omega,D,z,x,h.sz r i,h.ok.ty r.1 (xH.2 ⟨r,i,rfl⟩)⟩
theorem T8 (lo hi g m gi:Nat)(c:aM)(l:List bX)(nm:ByteArray)(x:It)(B:Nat)(w:World)(c0 c1 c2:Value)(h:kV w lo hi g m gi c l)(hI:bI w B x c0 c1 c2)(hB:B<=w.heap.size)(hL:Laid w)(iY:ba w)(hl:c.fm≠1->x.fy.length<=1099511627776):
 Calls prog 47 #[(g,0),.agg #[nm,c0,c1,c2]] w fun e w'=>e= .returned (.tuple #[(bB c (aJ l) nm x).1.val,.int .i64 (bB c (aJ l) nm x).2])/\(w,w'):=by
 have Ai:g<w.heap.size:=zQ h.g2 h.his;have ak:m<w.heap.size:=h.nm.lt;obtain⟨z,y,rfl,rfl,rfl,_⟩:=hI.open_;obtain⟨W,I⟩:∃W,(w.alloc (.cells #[nm,x.text,x.list,.slice z x.sub.length y] 30)).alloc (.cells #[.int .u64 0,eS,eS] 103)=W:=⟨_,rfl⟩
 have J:Below w.heap.size w W:=by rw[<-I];exact((zm _ w).alloc (zd _) _).alloc (by simp) _
 have GP:W.heap.size=w.heap.size+2:=by rw[<-I];simp
 have Cs:ag W w.heap.size 30 #[nm,x.text,x.list,.slice z x.sub.length y]:=by rw[<-I];exact(ag.new w _ _).alloc _
 have pK:ag W (w.heap.size+1) 103 #[.int .u64 0,eS,eS]:=by rw[<-I];exact ag.at_ (by simp)
 obtain⟨a0,H,a2,a3,a4,A,n,cap,k,b,qT,pL⟩:=Dh h nm;have uK:=za (KZ h qT);have Ou:=za pL;have Ct:=za (h.below (J.mono h.his));have HS:Hid (∀V:World,V.heap[g]?=W.heap[g]?/\V.heap[m]?=W.heap[m]?/\V.heap[w.heap.size]?=W.heap[w.heap.size]?->(V,g,6,Value.map (some m))/\(V,w.heap.size,0,nm)/\jf V m (Aw l)):=za (fun V d=>⟨ag.cell (show ag V g _ _ from d.1.trans Ct.out.blk) 6,ag.cell (show ag V w.heap.size _ _ from d.2.2.trans Cs) 0,Ct.out.nm.ah d.2.1⟩);have ah:=za (hI.below (J.mono hB));have mq:=za Cs;have cO:=za pK;have iB:=za J;have HW:=za I;have G':=za (hL.below J hL.pos);have R6:=za (iY.below J iY.pos);have mf:Hid (bB c (aJ l) nm x=match fA (aJ l) nm with
  |none=>(om,11)
  |some e=>if(bS c e.shape x).2≠0 then(om,(bS c e.shape x).2)else if c.fm=1 then(⟨0,e.name,(bS c e.shape x).1⟩,0)else(⟨e.id,ByteArray.empty,(bS c e.shape x).1⟩,0)):=za rfl
 generalize bB c (aJ l) nm x=ae at*;generalize fA (aJ l) nm=aj at*;clear h hI hL iY I J Cs pK qT pL;go_enter func47,ntmps47
 go_wp2_with fail
 rw[HW.out];refine aK 12 (fun V=>(V,g,6,Value.map (some m))/\(V,w.heap.size,0,nm)/\jf V m (Aw l)) (by kernel_rfl) (by kernel_rfl) ?_;have hHeld:=HS.out W.drew ⟨rfl,rfl,rfl⟩;refine GT.jM [0,1,2,3,4,5,6,7,8,9] hHeld (fun _ _ _ _ _ h=>h) (by kernel_rfl) ?_;iterate 6 (refine .c rfl rfl (fun V d=>by go_simp<;>with_reducible rfl) ?_;simp only[Act.put,zb,ze,zg])
 refine .c (v:= .tuple #[.agg #[.int .u64 a0,H,a2,a3,a4,.slice A n cap,k],b]) rfl rfl (fun V d=>by have hl:=Ou.out V d.2.2;go_simp) ?_;try simp only[Act.put,zb,ze,zg];iterate 3 (refine .c rfl rfl (fun V d=>by go_simp<;>with_reducible rfl) ?_;simp only[Act.put,zb,ze,zg])
 refine .nil ?_;refine GT.gw 10 (fun K o=> ?_) rfl (by kernel_rfl);go_simp;have iW:(W.alloc (.cells #[.int .u64 0,eS,eS,(0:Int),(0:Int),nS,(0:Int)] 126)).drew.heap[g]?=W.heap[g]?/\(W.alloc (.cells #[.int .u64 0,eS,eS,(0:Int),(0:Int),nS,(0:Int)] 126)).drew.heap[m]?=W.heap[m]?/\(W.alloc (.cells #[.int .u64 0,eS,eS,(0:Int),(0:Int),nS,(0:Int)] 126)).drew.heap[w.heap.size]?=W.heap[w.heap.size]?:=⟨yh _ _ (by omega),yh _ _ (by omega),yh _ _ (by omega)⟩
 refine o.out _ _ (HS.out _ iW) (fun hHeld=> ?_);clear o K;try simp only[Act.put,zb,ze,zg]
 refine GT.gw 11 (fun K o=> ?_) rfl (by kernel_rfl);go_simp;have dT:(W.alloc (.cells #[.int .u64 a0,H,a2,a3,a4,.slice A n cap,k] 126)).drew.heap[g]?=W.heap[g]?/\(W.alloc (.cells #[.int .u64 a0,H,a2,a3,a4,.slice A n cap,k] 126)).drew.heap[m]?=W.heap[m]?/\(W.alloc (.cells #[.int .u64 a0,H,a2,a3,a4,.slice A n cap,k] 126)).drew.heap[w.heap.size]?=W.heap[w.heap.size]?:=⟨yh _ _ (by omega),yh _ _ (by omega),yh _ _ (by omega)⟩
 refine o.out _ _ (HS.out _ dT) (fun hHeld=> ?_);clear o K;try simp only[Act.put,zb,ze,zg]
 refine GT.pF 12 ?_ rfl (by kernel_rfl);go_simp;obtain⟨i,mF⟩:∃i,(W.alloc (.cells #[.int .u64 a0,H,a2,a3,a4,.slice A n cap,k] 126)).drew=i:=⟨_,rfl⟩
 have C:Below W.heap.size W i:=by rw[<-mF];exact((zm _ W).alloc (zd _) _).drew
 have GC:ag i (w.heap.size+2) 126 #[.int .u64 a0,H,a2,a3,a4,.slice A n cap,k]:=by rw[<-mF];exact ag.drew (ag.at_ GP)
 have D:=za (Ct.out.below (C.mono Ct.out.his));have UU:=za (mq.out.ah C (by omega));have N9:=za (cO.out.ah C (by omega));have Y:=za GC;have Ak:=za (iB.out.trans (C.mono (by omega)));have qX:=za (ah.out.below (C.mono (by omega)));have N8:=za (G'.out.below C G'.out.pos);have R8:=za (R6.out.below C R6.out.pos);have cF:w.heap.size+2<i.heap.size:=GC.lt;rw[mF];clear iW dT mF C GC Ou HS hHeld;rcases uK.out with⟨rfl,rfl,rfl,rfl,rfl⟩|⟨e,rfl,rfl,rfl,rfl,rfl,oe,ai,DR⟩
 ·obtain⟨q0,q1,q2,Wj,ab,ad⟩:=bp N9.out;go_wp2;obtain⟨s,r,u⟩:=fp N9.out (.int .u64 0) eS eS;refine zl (v:= .tuple #[.agg #[.int .u64 0,eS,eS],(11:Int)]) (by simp[results,ZY,go_sem,s,r,u]) rfl ?_;rw[mf.out];exact⟨rfl,((Ak.out.setCell (by simp) _).setCell (by simp) _).setCell (by simp) _⟩
 have G9:=za ((oe.below Ak.out).tJ);obtain⟨u0,u1,u2,u3,u4,u5,Z⟩:=ni Y.out;have q:Hid (ae=if(bS c e.shape x).2≠0 then(om,(bS c e.shape x).2)else if c.fm=1 then(⟨0,e.name,(bS c e.shape x).1⟩,0)else(⟨e.id,ByteArray.empty,(bS c e.shape x).1⟩,0)):=mf;clear mf;clear oe;by_cases p:c.fm=1
 ·have S:tL c= .func (.func 63) #[.agg #[c.de,c.it]] #[]:=by unfold tL AE;rw[zj p]
  have aa:Hid (∀V,Below i.heap.size i V->Calls prog 63 #[.agg #[c.de,c.it],.agg #[a3,a4,.slice A n cap,k],.agg #[x.text,x.list,.slice z x.sub.length y]] V fun L w'=>L= .returned (.tuple #[.string (bS c e.shape x).1,.int .i64 (bS c e.shape x).2])/\(V,w')):=za (fun V d=>by
   unfold bS;rw[zj p];exact F' e.shape x c.de c.it i.heap.size V _ _ _ _ _ _ _ (G9.out.below d) ((qX.out.below (d.mono (by omega))).mono (by omega)) d.size (N8.out.below d N8.out.pos) (R8.out.below d R8.out.pos))
  rw[zj p]at q;have af:((c.fm:Int)==1)=true:=yO.2 p;have R:Hid (∀V,Below i.heap.size i V->(V,g,8,Value.func (.func 63) #[.agg #[c.de,c.it]] #[])/\(V,w.heap.size+2,3,a3)/\(V,w.heap.size+2,4,a4)/\(V,w.heap.size+2,5,Value.slice A n cap)/\(V,w.heap.size+2,6,k)/\(V,w.heap.size,1,x.text)/\(V,w.heap.size,2,x.list)/\(V,w.heap.size,3,Value.slice z x.sub.length y)):=za (fun V d=>by
   obtain⟨_,_,_,y3,y4,y5,y6⟩:=ni (Y.out.ah d (by omega));obtain⟨_,E,z2,z3,_⟩:=aU (UU.out.ah d (by omega));have U:=(D.out.below (d.mono D.out.his)).cells.2.2.2.1;rw[S]at U;exact⟨U,y3,y4,y5,y6,E,z2,z3⟩)
  generalize (bS c e.shape x).1=PS at*;generalize (bS c e.shape x).2=PE at*;clear S p;go_wp2_with fail
  refine aK 14 (fun V=>(V,g,8,Value.func (.func 63) #[.agg #[c.de,c.it]] #[])/\(V,w.heap.size+2,3,a3)/\(V,w.heap.size+2,4,a4)/\(V,w.heap.size+2,5,Value.slice A n cap)/\(V,w.heap.size+2,6,k)/\(V,w.heap.size,1,x.text)/\(V,w.heap.size,2,x.list)/\(V,w.heap.size,3,Value.slice z x.sub.length y)) (by kernel_rfl) (by kernel_rfl) ?_;have hHeld:=R.out i.drew bO;refine GT.jM [0,1,2,3,4,5,6,7,8] hHeld (fun _ _ _ _ _ h=>h) (by kernel_rfl) ?_;repeat(refine .c rfl rfl (fun V d=>by go_simp<;>with_reducible rfl) ?_;simp only[Act.put,zb,ze,zg])
  refine .nil ?_;refine GT.gw 9 (fun K o=> ?_) rfl (by kernel_rfl);go_simp;refine(aa.out i.drew bO).mono ?_;rintro L w3 ⟨rfl,N⟩;go_wp2_with fail
  have j:Below i.heap.size i w3:=(show Below i.heap.size i i.drew from bO).trans N;refine o.out _ _ (R.out w3 j) (fun hHeld=> ?_);clear o K;try simp only[Act.put,zb,ze,zg]
  refine GT.jM [10,11,12,13] hHeld (fun _ _ _ _ _ h=>h) (by kernel_rfl) ?_;repeat(refine .c rfl rfl (fun V d=>by go_simp<;>with_reducible rfl) ?_;simp only[Act.put,zb,ze,zg])
  refine .nil ?_;refine GT.pF 14 ?_ rfl (by kernel_rfl);go_simp;have g0:=(D.out.below (j.mono D.out.his)).cells.1;have F:=N9.out.ah j (by omega);have M:=Y.out.ah j (by omega);have X:=za (Ak.out.trans (j.mono (by omega)));have O:=za F;clear N j hHeld u0 u1 u2 u3 u4 u5 Z;obtain⟨q0,q1,q2,Wj,ab,ad⟩:=bp F;obtain⟨u0,u1,u2,u3,u4,u5,Z⟩:=ni M;clear F M;rcases eN PE with⟨G,E,z2⟩|⟨G,E,z2⟩
  ·subst G;rw[zi (by simp)]at q;go_wp2;obtain⟨s,r,u⟩:=fp O.out (.int .u64 0) (.string e.name) PS;refine zl (v:= .tuple #[.agg #[(.int .u64 0),(.string e.name),PS],(0:Int)]) (by simp[results,ZY,go_sem,s,r,u]) rfl ?_;rw[q.out];exact⟨rfl,((X.out.setCell (by simp) _).setCell (by simp) _).setCell (by simp) _⟩
  rw[zj G]at q;go_wp2;obtain⟨s,r,u⟩:=fp O.out (.int .u64 0) eS eS;refine zl (v:= .tuple #[.agg #[.int .u64 0,eS,eS],PE]) (by simp[results,ZY,go_sem,s,r,u]) rfl ?_;rw[q.out];exact⟨rfl,((X.out.setCell (by simp) _).setCell (by simp) _).setCell (by simp) _⟩
 have S:tL c= .func (.func 61) #[.agg #[c.de,c.it]] #[]:=by unfold tL AE;rw[zi p]
 have aa:Hid (∀V,Below i.heap.size i V->Calls prog 61 #[.agg #[c.de,c.it],.agg #[a3,a4,.slice A n cap,k],.agg #[x.text,x.list,.slice z x.sub.length y]] V fun L w'=>L= .returned (.tuple #[.string (bS c e.shape x).1,.int .i64 (bS c e.shape x).2])/\(V,w')):=za (fun V d=>by
  unfold bS;rw[zi p];exact Nk e.shape x c.de c.it i.heap.size V _ _ _ _ _ _ _ (G9.out.below d) ((qX.out.below (d.mono (by omega))).mono (by omega)) d.size (N8.out.below d N8.out.pos) (hl p))
 rw[zi p]at q;have af:((c.fm:Int)==1)=false:=zp.2 p;have R:Hid (∀V,Below i.heap.size i V->(V,g,8,Value.func (.func 61) #[.agg #[c.de,c.it]] #[])/\(V,w.heap.size+2,3,a3)/\(V,w.heap.size+2,4,a4)/\(V,w.heap.size+2,5,Value.slice A n cap)/\(V,w.heap.size+2,6,k)/\(V,w.heap.size,1,x.text)/\(V,w.heap.size,2,x.list)/\(V,w.heap.size,3,Value.slice z x.sub.length y)):=za (fun V d=>by
  obtain⟨_,_,_,y3,y4,y5,y6⟩:=ni (Y.out.ah d (by omega));obtain⟨_,E,z2,z3,_⟩:=aU (UU.out.ah d (by omega));have U:=(D.out.below (d.mono D.out.his)).cells.2.2.2.1;rw[S]at U;exact⟨U,y3,y4,y5,y6,E,z2,z3⟩)
 generalize (bS c e.shape x).1=PS at*;generalize (bS c e.shape x).2=PE at*;clear S p;go_wp2_with fail
 refine aK 14 (fun V=>(V,g,8,Value.func (.func 61) #[.agg #[c.de,c.it]] #[])/\(V,w.heap.size+2,3,a3)/\(V,w.heap.size+2,4,a4)/\(V,w.heap.size+2,5,Value.slice A n cap)/\(V,w.heap.size+2,6,k)/\(V,w.heap.size,1,x.text)/\(V,w.heap.size,2,x.list)/\(V,w.heap.size,3,Value.slice z x.sub.length y)) (by kernel_rfl) (by kernel_rfl) ?_;have hHeld:=R.out i.drew bO;refine GT.jM [0,1,2,3,4,5,6,7,8] hHeld (fun _ _ _ _ _ h=>h) (by kernel_rfl) ?_;repeat(refine .c rfl rfl (fun V d=>by go_simp<;>with_reducible rfl) ?_;simp only[Act.put,zb,ze,zg])
 refine .nil ?_;refine GT.gw 9 (fun K o=> ?_) rfl (by kernel_rfl);go_simp;refine(aa.out i.drew bO).mono ?_;rintro L w3 ⟨rfl,N⟩;go_wp2_with fail
 have j:Below i.heap.size i w3:=(show Below i.heap.size i i.drew from bO).trans N;refine o.out _ _ (R.out w3 j) (fun hHeld=> ?_);clear o K;try simp only[Act.put,zb,ze,zg]
 refine GT.jM [10,11,12,13] hHeld (fun _ _ _ _ _ h=>h) (by kernel_rfl) ?_;repeat(refine .c rfl rfl (fun V d=>by go_simp<;>with_reducible rfl) ?_;simp only[Act.put,zb,ze,zg])
 refine .nil ?_;refine GT.pF 14 ?_ rfl (by kernel_rfl);go_simp;have g0:=(D.out.below (j.mono D.out.his)).cells.1;have F:=N9.out.ah j (by omega);have M:=Y.out.ah j (by omega);have X:=za (Ak.out.trans (j.mono (by omega)));have O:=za F;clear N j hHeld u0 u1 u2 u3 u4 u5 Z;obtain⟨q0,q1,q2,Wj,ab,ad⟩:=bp F;obtain⟨u0,u1,u2,u3,u4,u5,Z⟩:=ni M;clear F M;rcases eN PE with⟨G,E,z2⟩|⟨G,E,z2⟩
 ·subst G;rw[zi (by simp)]at q;go_wp2;obtain⟨s,r,u⟩:=fp O.out (.int .u64 e.id) eS PS;refine zl (v:= .tuple #[.agg #[(.int .u64 e.id),eS,PS],(0:Int)]) (by simp[results,ZY,go_sem,s,r,u]) rfl ?_;rw[q.out];exact⟨rfl,((X.out.setCell (by simp) _).setCell (by simp) _).setCell (by simp) _⟩
 rw[zj G]at q;go_wp2;obtain⟨s,r,u⟩:=fp O.out (.int .u64 0) eS eS;refine zl (v:= .tuple #[.agg #[.int .u64 0,eS,eS],PE]) (by simp[results,ZY,go_sem,s,r,u]) rfl ?_;rw[q.out];exact⟨rfl,((X.out.setCell (by simp) _).setCell (by simp) _).setCell (by simp) _⟩
theorem kV.put {i:Nat}{c:aM}(h:kV w m hi g d i c l)(j:ae [d,i] w w')(hz:w'.heap.size=w.heap.size){v:Value}(q:jf w' d (Aw (l++ [(e,v)])))(n:jf w' i (AB (l++ [(e,v)])))(x:Vn w (fun k=>g<k/\k<w.heap.size) (e,v))(u:gz c (aJ l) e=0)(o:oC e):kV w' m w'.heap.size g d i c (l++ [(e,v)]) where
 blk:=h.blk.only j (by have:=h.n2;have:=h.i2;simp;omega)
 nm:=q
 ix:=n
 n1:=h.n1
 n2:=h.n2
 i1:=h.i1
 i2:=h.i2
 ne:=h.ne
 g2:=by have:=h.g2;have:=h.his;omega
 his:=zd _
 rows:=fun r b=>by
  have key:Vn w (fun k=>g<k/\k<w.heap.size) r:=by
   rcases yy.1 b with b|b
   ·exact(h.rows r b).ah (fun k _ hS=>⟨hS.1,by have:=hS.2;have:=h.his;omega⟩) (fun _ _ _=>rfl)
   obtain rfl:=yL.1 b;exact x
  exact key.ah (fun k _ hS=>⟨hS.1,by have:=hS.2;omega⟩) fun p s hS=>j.cell s (by have:=hS.1;have:=h.n2;have:=h.i2;simp;omega)
 ok:=by
  have:aJ (l++ [(e,v)])=aJ l++ [e]:=by simp[aJ]
  rw[this];exact h.ok.snoc u
 sz:=fun r b=>by
  rcases yy.1 b with b|b
  ·exact h.sz r b
  obtain rfl:=yL.1 b;exact o
def Vy (w:World)(lo g gn gi:Nat)(c:aM)(l:List bX)(e:bj)(en:Ending)(w':World):Prop:=
 en= .returned (.int .i64 (gz c (aJ l) e))/\ae [gn,gi] w w'/\(gz c (aJ l) e=0->∃v,kV w' lo w'.heap.size g gn gi c (l++ [(e,v)]))
theorem k9 {b:Nat}{c:aM}(h:gz c (aJ l) e=E)(k:E≠0)(i:ae [b,d] w w'):Vy w m g b d c l e (.returned E) w':=⟨by rw[h],i,fun j=>absurd (h.symm.trans j) k⟩
theorem eJ {L:List Nat}(h:Below w.heap.size w w'):ae L w w':=(ae.ai h (zd _)).mono (by simp)
theorem XU {c:aM}(h:cn c (aJ l)){nm:ByteArray}(b:∀x∈aJ l,x.name≠nm):Instr.findNow .string nm (mE (Aw l) 0) 0=some none:=by
 rcases BR h nm with⟨i,_⟩|⟨j,r,_,d,e,_⟩
 ·exact i
 exact absurd e (b r.1 (xH.2 ⟨r,xh d,rfl⟩))
theorem XV {c:aM}(h:cn c (aJ l)){id:Nat}(b:∀x∈aJ l,x.id≠id):Instr.findNow (.int .u64) (.int .u64 id) (mE (AB l) 0) 0=some none:=by
 rcases Ku h id _ (fun _=>rfl)with⟨i,_⟩|⟨j,r,_,d,e,_⟩
 ·exact i
 exact absurd e (b r.1 (xH.2 ⟨r,xh d,rfl⟩))
theorem K4 {p:bj->Bool}{d e:ByteArray}{i:Int}{b:Bool}(h:Qi l ((aJ l).find? p) a0 d e a3 a4 A n cap i b):(aJ l).any p=b:=by
 rcases h with⟨c,rfl,_⟩|⟨r,_,c,rfl,_⟩
 ·exact Fj c
 exact Fk c
theorem T9 (lo hi g j d:Nat)(c:aM)(l:List bX)(e:bj)(w:World)(h:kV w lo hi g j d c l)(hL:Laid w)(hg:1<lo)(hs:oC e):
 Calls prog 65 #[(g,0),.agg #[.int .u64 e.id,e.name,e.ty]] w fun en w'=>Vy w lo g j d c l e en w':=by
 obtain⟨g0,g6,g7,_,_⟩:=h.cells;have Ai:g<w.heap.size:=zQ h.g2 h.his;have aX:j<w.heap.size:=h.nm.lt;have lp:d<w.heap.size:=h.ix.lt;obtain⟨W,hW⟩:∃W,w.alloc (.cells #[.int .u64 e.id,e.name,e.ty] 63)=W:=⟨_,rfl⟩
 have kt:Below w.heap.size w W:=by rw[<-hW];exact(zm _ w).alloc (zd _) _
 have GP:W.heap.size=w.heap.size+1:=by rw[<-hW];simp
 have Cs:ag W w.heap.size 63 #[.int .u64 e.id,e.name,e.ty]:=by rw[<-hW];exact ag.new w _ _
 obtain⟨a0,Y,a2,a3,a4,A,n,cap,a6,b,S,pL⟩:=Dh h e.name;have ay:=K4 S;have Ct:=za (h.below (kt.mono h.his));have U:=za pL;have D:Hid (∀V:World,V.heap[g]?=W.heap[g]?/\V.heap[j]?=W.heap[j]?/\V.heap[w.heap.size]?=W.heap[w.heap.size]?->(V,g,6,Value.map (some j))/\(V,w.heap.size,1,e.name)/\jf V j (Aw l)):=za (fun V i=>⟨ag.cell (show ag V g _ _ from i.1.trans Ct.out.blk) 6,ag.cell (show ag V w.heap.size _ _ from i.2.2.trans Cs) 1,Ct.out.nm.ah i.2.1⟩);have mq:=za Cs;have iB:=za kt;have HW:=za hW;have G':=za (hL.below kt hL.pos);have q:Hid (gz c (aJ l) e=if b8 e.name=false then 11 else if((aJ l).any fun x=>decide (x.name=e.name))=true then 11 else if((aJ l).any fun x=>decide (x.id=e.id))=true then 1
  else if cL e.ty.data.toList=none then 3 else if c.fm=1/\e.shape.flat=false then 12 else 0):=za rfl
 rw[show((aJ l).any fun x=>decide (x.name=e.name))=b from ay]at q;have aF:=za hs;have aW:=hs.name;have aZ:=hs.ty;have Wa:=za (fun V=>qm e.name V (by omega));clear h hL hW kt Cs S pL ay hs;go_enter func65,ntmps65
 go_wp2_with fail
 rw[HW.out];refine aK 12 (fun V=>(V,g,6,Value.map (some j))/\(V,w.heap.size,1,e.name)/\jf V j (Aw l)) (by kernel_rfl) (by kernel_rfl) ?_;have hHeld:=D.out W.drew ⟨rfl,rfl,rfl⟩;refine GT.jM [0,1,2,3,4,5,6,7,8,9] hHeld (fun _ _ _ _ _ h=>h) (by kernel_rfl) ?_;iterate 6 (refine .c rfl rfl (fun V i=>by go_simp<;>with_reducible rfl) ?_;simp only[Act.put,zb,ze,zg])
 refine .c (v:= .tuple #[.agg #[.int .u64 a0,Y,a2,a3,a4,.slice A n cap,a6],b]) rfl rfl (fun V i=>by have hl:=U.out V i.2.2;go_simp) ?_;try simp only[Act.put,zb,ze,zg];iterate 3 (refine .c rfl rfl (fun V i=>by go_simp<;>with_reducible rfl) ?_;simp only[Act.put,zb,ze,zg])
 refine .nil ?_;refine GT.gw 10 (fun K B=> ?_) rfl (by kernel_rfl);go_simp;refine B.out _ _ (D.out _ ⟨yh _ _ (by omega),yh _ _ (by omega),yh _ _ (by omega)⟩) (fun hHeld=> ?_);clear B K;try simp only[Act.put,zb,ze,zg]
 refine GT.gw 11 (fun K B=> ?_) rfl (by kernel_rfl);go_simp;refine B.out _ _ (D.out _ ⟨yh _ _ (by omega),yh _ _ (by omega),yh _ _ (by omega)⟩) (fun hHeld=> ?_);clear B K;try simp only[Act.put,zb,ze,zg]
 refine GT.pF 12 ?_ rfl (by kernel_rfl);go_simp;obtain⟨r,mF⟩:∃r,(W.alloc (.cells #[.int .u64 a0,Y,a2,a3,a4,.slice A n cap,a6] 126)).drew=r:=⟨_,rfl⟩
 have aI:Below W.heap.size W r:=by rw[<-mF];exact((zm _ W).alloc (zd _) _).drew
 have Ak:=za (iB.out.trans (aI.mono (by omega)));have Z:=za (mq.out.ah aI (by omega));have N8:=za (G'.out.below aI G'.out.pos);have J:=za (Ct.out.below (aI.mono Ct.out.his));rw[mF];clear mF aI U D hHeld mq G' Ct iB;obtain⟨u0,u1,u2,ak,ai,ab⟩:=bp Z.out;cases b with
 |true=>
  have p:gz c (aJ l) e=11:=by rw[q.out];split<;>rfl
  go_wp2;go_ret;exact k9 p (by decide) (eJ Ak.out)
 |false=>
  rw[zi (show¬(false=true)by simp)]at q;go_wp2_with fail
  refine(Wa.out _).mono ?_;rintro en w' ⟨rfl,rfl⟩;cases hmy:b8 e.name with
  |false=>
   have p:gz c (aJ l) e=11:=by rw[q.out,zj hmy]
   go_wp2;go_ret;exact k9 p (by decide) (eJ Ak.out)
  |true=>
   rw[zi (by simp[hmy])]at q;obtain⟨a0,Y,a2,a3,a4,A,n,cap,a6,b,S,pL⟩:=KH J.out e.id;rw[show((aJ l).any fun x=>decide (x.id=e.id))=b from K4 S]at q;have U:=za pL;have D:Hid (∀V:World,V.heap[g]?=r.heap[g]?/\V.heap[d]?=r.heap[d]?/\V.heap[w.heap.size]?=r.heap[w.heap.size]?->(V,g,7,Value.map (some d))/\(V,w.heap.size,0,Value.int .u64 e.id)/\jf V d (AB l)):=za (fun V i=>⟨ag.cell (show ag V g _ _ from i.1.trans J.out.blk) 7,ag.cell (show ag V w.heap.size _ _ from i.2.2.trans Z.out) 0,J.out.ix.ah i.2.1⟩);have aY:=Ak.out.size;clear S pL u0 u1 u2 ak ai ab hmy;go_wp2_with fail
   refine aK 12 (fun V=>(V,g,7,Value.map (some d))/\(V,w.heap.size,0,Value.int .u64 e.id)/\jf V d (AB l)) (by kernel_rfl) (by kernel_rfl) ?_;have hHeld:=D.out r.drew ⟨rfl,rfl,rfl⟩;have aV:w.heap.size<r.heap.size:=Z.out.lt;refine GT.jM [0,1,2,3,4,5,6,7,8,9] hHeld (fun _ _ _ _ _ h=>h) (by kernel_rfl) ?_;iterate 6 (refine .c rfl rfl (fun V i=>by go_simp<;>with_reducible rfl) ?_;simp only[Act.put,zb,ze,zg])
   refine .c (v:= .tuple #[.agg #[.int .u64 a0,Y,a2,a3,a4,.slice A n cap,a6],b]) rfl rfl (fun V i=>by have hl:=U.out V i.2.2;go_simp) ?_;try simp only[Act.put,zb,ze,zg];iterate 3 (refine .c rfl rfl (fun V i=>by go_simp<;>with_reducible rfl) ?_;simp only[Act.put,zb,ze,zg])
   refine .nil ?_;refine GT.gw 10 (fun K B=> ?_) rfl (by kernel_rfl);go_simp;refine B.out _ _ (D.out _ ⟨yh _ _ (by omega),yh _ _ (by omega),yh _ _ (by omega)⟩) (fun hHeld=> ?_);clear B K;try simp only[Act.put,zb,ze,zg]
   refine GT.gw 11 (fun K B=> ?_) rfl (by kernel_rfl);go_simp;refine B.out _ _ (D.out _ ⟨yh _ _ (by omega),yh _ _ (by omega),yh _ _ (by omega)⟩) (fun hHeld=> ?_);clear B K;try simp only[Act.put,zb,ze,zg]
   refine GT.pF 12 ?_ rfl (by kernel_rfl);go_simp;obtain⟨W4,uM⟩:∃W4,(r.alloc (.cells #[.int .u64 a0,Y,a2,a3,a4,.slice A n cap,a6] 126)).drew=W4:=⟨_,rfl⟩
   have cT:Below r.heap.size r W4:=by rw[<-uM];exact((zm _ r).alloc (zd _) _).drew
   have R9:=za (Ak.out.trans (cT.mono (by omega)));have ey:=za (Z.out.ah cT (by omega));have Lr:=za (N8.out.below cT N8.out.pos);have SU:=za (J.out.below (cT.mono J.out.his));rw[uM];clear uM cT U D hHeld Z N8 J Ak;obtain⟨u0,u1,u2,ak,ai,ab⟩:=bp ey.out;cases b with
   |true=>
    have p:gz c (aJ l) e=1:=by rw[q.out,zj rfl]
    go_wp2;go_ret;exact k9 p (by decide) (eJ R9.out)
   |false=>
    rw[zi (show¬(false=true)by simp)]at q;have HG:=za (T2 e.ty W4 (by omega) Lr.out);go_wp2_with fail
    refine HG.out.mono ?_;rintro en m kC;obtain⟨T,hT⟩:∃T,cL e.ty.data.toList=T:=⟨_,rfl⟩
    rw[hT]at kC q;cases T with
    |none=>
     obtain⟨C,rfl⟩:=kC;have p:gz c (aJ l) e=3:=by rw[q.out,zj rfl]
     have fD:=za (R9.out.trans (C.mono R9.out.size));clear C hT;go_wp2;go_ret;exact k9 p (by decide) (eJ (fD.out.alloc fD.out.size _))
    |some t=>
     obtain⟨C,d0,d1,d2,d3,rfl,oe⟩:=kC;have AW:e.shape=t:=by unfold bj.shape;rw[hT];rfl
     rw[zi (by simp),AW]at q;obtain⟨u,y,rfl,rfl,rfl,rfl,_⟩:=oe.open_;have aO:=R9.out.size;have aa:=ey.out.ah C (by have:=ey.out.lt;omega);have I:=SU.out.below (C.mono SU.out.his);have aA:=I.cells.1;have aR:g<m.heap.size:=zQ I.g2 I.his;have N:Below m.heap.size m (m.alloc (.cells #[t.kind,t.size,.slice u t.sub.length y,t.tail] 70)):=(zm _ m).alloc (zd _) _;have Sb:=za ((R9.out.trans (C.mono aO)).trans (N.mono (by have:=C.size;omega)));have H:=za (aa.ah N aa.lt);have O:=za (I.below (N.mono I.his));have G:=za (ag.new m 70 #[t.kind,t.size,.slice u t.sub.length y,t.tail]);have M:=za (oe.below N);have ad:=Lr.out.below C Lr.out.pos;have HF:=za (Je t _ _ _ _ _ _ M.out.tJ (zd _) (ad.below N ad.pos));have aT:w.heap.size<m.heap.size:=aa.lt;clear u0 u1 u2 ak ai ab C hT ey SU oe aa I N ad;by_cases R:c.fm=1;focus
      have aG:((c.fm:Int)==1)=true:=yO.2 R;go_wp2_with fail
      refine HF.out.mono ?_;rintro en w7 ⟨rfl,F⟩;have aH:=F.size;simp only[zt]at aH;have aj:=za (Sb.out.trans (F.mono Sb.out.size));have al:=za (H.out.ah F H.out.lt);have s:=za (O.out.below (F.mono O.out.his));have ah:=za (G.out.ah F G.out.lt);have ar:=za (M.out.below F);clear F HF O H G M aA;cases mA:t.flat
      ·have p:gz c (aJ l) e=12:=by rw[q.out,zj ⟨R,mA⟩]
       go_wp2;go_ret;exact k9 p (by decide) (eJ aj.out)
      have p:gz c (aJ l) e=0:=by rw[q.out,zi (by simp[mA])]
      obtain⟨o,rfl⟩:∃o,o=w7:=⟨w7,rfl⟩
      clear mA R;go_wp2_with fail
     rotate_left
     focus
      have aG:((c.fm:Int)==1)=false:=zp.2 R;have p:gz c (aJ l) e=0:=by rw[q.out,zi (by simp[R])]
      obtain⟨o,rp⟩:∃o,m.alloc (.cells #[t.kind,t.size,.slice u t.sub.length y,t.tail] 70)=o:=⟨_,rfl⟩
      rw[rp]at Sb H O G M;have GH:=za rp;have aj:=Sb;have al:=H;have s:=O;have ah:=G;have ar:=M;clear HF R rp Sb H O G M;go_wp2_with fail
      rw[GH.out];clear aA
     all_goals
      obtain⟨z1,z2,z3,z4,z5⟩:=BO p;have aE:=Kt (P:=prog) (T:=116) (w:=o.drew) (s.out.nm.ah rfl) underlying116 zM (by simp[MapKept.IsKey]) (XU s.out.ok z2) (.agg #[.int .u64 e.id,e.name,e.ty,t.kind,t.size,.slice u t.sub.length y,t.tail]);have LH:=fun(V:World) (i:jf V d (AB l))=>Kt (P:=prog) (T:=117) (w:=V) i underlying117 Z4 (by simp[MapKept.IsKey]) (XV s.out.ok z3) (.agg #[.int .u64 e.id,e.name,e.ty,t.kind,t.size,.slice u t.sub.length y,t.tail])
      have aD:=za LH;clear z1 z2 z3 z4 z5 LH;obtain⟨X,b1,b2,_⟩:=bp al.out.drew;obtain⟨t0,t1,t2,t3,_⟩:=aU ah.out.drew;have au:o.drew.cell? (g,6)=some (.map (some j)):=(ag.drew s.out.blk).cell 6;refine aK 9 (fun V=>(V,g,6,Value.map (some j))/\(V,w.heap.size,0,Value.int .u64 e.id)/\(V,w.heap.size,1,e.name)/\(V,w.heap.size,2,e.ty)/\(V,m.heap.size,0,t.kind)/\(V,m.heap.size,1,t.size)/\(V,m.heap.size,2,Value.slice u t.sub.length y)/\(V,m.heap.size,3,t.tail)) (by kernel_rfl) (by kernel_rfl) ?_;have hHeld:=And.intro au (And.intro X (And.intro b1 (And.intro b2 (And.intro t0 (And.intro t1 (And.intro t2 t3))))));clear X b1 b2 t0 t1 t2 t3 au;refine GT.jM [0,1,2,3,4,5,6,7,8] hHeld (fun _ _ _ _ _ h=>h) (by kernel_rfl) ?_;repeat(refine .c rfl rfl (fun V i=>by go_simp<;>with_reducible rfl) ?_;simp only[Act.put,zb,ze,zg])
      refine .nil ?_;refine GT.pF 9 ?_ rfl (by kernel_rfl);go_simp;obtain⟨z,Ao⟩:∃z,oz o.drew j (Aw l) e.name (.agg #[.int .u64 e.id,e.name,e.ty,t.kind,t.size,.slice u t.sub.length y,t.tail])=z:=⟨_,rfl⟩
      have aw:jf z j (Aw l++ [(.string e.name,(.agg #[.int .u64 e.id,e.name,e.ty,t.kind,t.size,.slice u t.sub.length y,t.tail]))]):=by rw[<-Ao];exact sO (s.out.nm.ah rfl) _ _
      have L:ae [j] o z:=by rw[<-Ao];exact(ae.refl [j] o).drew.trans (vB _ _ _ _ _)
      have SL:z.heap.size=o.heap.size:=by rw[<-Ao];simp[oz]
      rw[Ao];have aS:=s.out.n2;have bY:=s.out.ne;have aq:=(al.out.only L (by simp;omega)).drew;have an:=(ah.out.only L (by simp;omega)).drew;have av:=ag.drew (s.out.blk.only L (by simp;omega));have af:jf z.drew d (AB l):=(s.out.ix.only L (by simp;omega)).ah rfl;have LH:=aD.out z.drew af;obtain⟨X,b1,b2,_⟩:=bp aq;obtain⟨t0,t1,t2,t3,_⟩:=aU an;have aC:z.drew.cell? (g,7)=some (.map (some d)):=av.cell 7;have aQ:=za aw;have aL:=za L;have aN:=za SL;have aP:=za af;clear hHeld Ao aw L SL aE aq an av af;go_wp2_with fail
      refine aK 9 (fun V=>(V,g,7,Value.map (some d))/\(V,w.heap.size,0,Value.int .u64 e.id)/\(V,w.heap.size,1,e.name)/\(V,w.heap.size,2,e.ty)/\(V,m.heap.size,0,t.kind)/\(V,m.heap.size,1,t.size)/\(V,m.heap.size,2,Value.slice u t.sub.length y)/\(V,m.heap.size,3,t.tail)) (by kernel_rfl) (by kernel_rfl) ?_;have hHeld:=And.intro aC (And.intro X (And.intro b1 (And.intro b2 (And.intro t0 (And.intro t1 (And.intro t2 t3))))));clear X b1 b2 t0 t1 t2 t3 aC;refine GT.jM [0,1,2,3,4,5,6,7,8] hHeld (fun _ _ _ _ _ h=>h) (by kernel_rfl) ?_;repeat(refine .c rfl rfl (fun V i=>by go_simp<;>with_reducible rfl) ?_;simp only[Act.put,zb,ze,zg])
      refine .nil ?_;refine GT.pF 9 ?_ rfl (by kernel_rfl);go_simp;clear LH;obtain⟨E,SV⟩:∃E,oz z.drew d (AB l) (.int .u64 e.id) (.agg #[.int .u64 e.id,e.name,e.ty,t.kind,t.size,.slice u t.sub.length y,t.tail])=E:=⟨_,rfl⟩
      have az:jf E d (AB l++ [(.int .u64 e.id,(.agg #[.int .u64 e.id,e.name,e.ty,t.kind,t.size,.slice u t.sub.length y,t.tail]))]):=by rw[<-SV];exact sO aP.out _ _
      have rq:ae [d] z E:=by rw[<-SV];exact(ae.refl [d] z).drew.trans (vB _ _ _ _ _)
      have aB:E.heap.size=o.heap.size:=by rw[<-aN.out,<-SV];simp[oz]
      rw[SV];have ao:=aQ.out.only rq (by simp;omega);have ax:Hid (ae [j,d] o E):=za ((aL.out.mono (by simp)).trans (rq.mono (by simp)));have HQ:Hid (∃v,kV E lo E.heap.size g j d c (l++ [(e,v)])):=za ⟨_,s.out.put ax.out aB (by simpa[Aw]using ao) (by simpa[AB]using az) ⟨_,_,_,_,rfl,by
       show fX o _ e.shape _ _ _ _
       rw[AW];exact ar.out.ef (fun k hk hS=>⟨by have hS:W4.heap.size<=k:=hS;omega,hk⟩)⟩ p aF.out⟩
      clear SV az rq aB ao hHeld;go_wp2;go_ret;exact⟨by rw[p];rfl,(eJ aj.out).trans ax.out,fun _=>HQ.out⟩
def acy (w:World)(c:aM)(l:List bj)(e:Ending)(w':World):Prop:=
 Below w.heap.size w w'/\((oy c l=0/\∃g gn gi rows,e= .returned (.tuple #[.pointer (some ⟨g,0,none⟩),.int .i64 0])/\kV w' w.heap.size w'.heap.size g gn gi c rows/\aJ rows=l)\/(oy c l≠0/\e= .returned (.tuple #[.pointer none,.int .i64 (oy c l)])))
theorem wE {c:aM}{l:List bj}(h:ja c (l.take k) (l.drop k)=E)(d:k<l.length):(gz c (l.take k) l[k]≠0->E=gz c (l.take k) l[k])/\(gz c (l.take k) l[k]=0->ja c (l.take (k+1)) (l.drop (k+1))=E):=by
 rw[xB d,ja]at h;refine⟨fun b=> ?_,fun b=> ?_⟩
 ·rw[zj b]at h;exact h.symm
 rw[zi (by simp[b])]at h;rw[Z7,zA d];exact h
theorem Ca {c:aM}{l:List bj}(h:ja c (l.take l.length) (l.drop l.length)=E):E=0:=by
 rw[Yd]at h;exact h.symm
theorem sj {c:aM}{l:List bj}(h:c.right=true)(b:l.length<=32):oy c l=ja c [] l:=by
 unfold oy;rw[zi (by simp[h]),zi (by omega)]
theorem kV.fresh {h b:Nat}{c:aM}{W:World}(d:((w.alloc (.map #[] 0)).alloc (.map #[] 0)).alloc (.cells (rgC c b (b+1) (tL c) (qs c)) 123)=W)(j:w.heap.size=b)(i:h<=b):kV W h W.heap.size (b+1+1) b (b+1) c []:=by
 subst j;have hz:W.heap.size=w.heap.size+3:=by rw[<-d];simp
 exact{
  blk:=by rw[<-d];exact ag.at_ (by simp)
  nm:=by
   have e:jf (w.alloc (.map #[] 0)) w.heap.size []:=jf.new w;rw[<-d];exact(yh _ _ (by simp;omega)).trans ((yh _ _ (by simp)).trans e)
  ix:=by
   have e:jf ((w.alloc (.map #[] 0)).alloc (.map #[] 0)) (w.alloc (.map #[] 0)).heap.size []:=jf.new _;simp only[zt]at e;rw[<-d];exact(yh _ _ (by simp)).trans e
  n1:=i
  n2:=by omega
  i1:=by omega
  i2:=by omega
  ne:=by omega
  g2:=by omega
  his:=zd _
  rows:=by simp
  ok:=cn.nil c
  sz:=by simp}
theorem T' (c:aM)(l:List bj)(v:Value)(B:Nat)(w:World)(E:rf w B v l)(hB:B<=w.heap.size)(D:Laid w)(hs:∀e∈l,oC e):
 Calls prog 46 #[c.val,v] w fun e w'=>acy w c l e w':=by
 obtain⟨A,n,cap,rfl,x,SB,kr⟩:=E.cy;have O:=za (qK c (w.alloc (.cells #[c.fm,.int .u32 c.mg,c.fr,c.un,c.de,c.it] 24)));have kG:=(zm w.heap.size w).alloc (zd _) (.cells #[c.fm,.int .u32 c.mg,c.fr,c.un,c.de,c.it] 24);have Z:=ag.new w 24 #[c.fm,.int .u32 c.mg,c.fr,c.un,c.de,c.it];have HV:=za E;have HS:=za hs;have hp:=D.pos;have HL:=za D;unfold aM.val at*;obtain⟨L,N⟩:∃L,c.right=L:=⟨_,rfl⟩
 rw[N]at O;have I:=za N;clear E hs D N;go_enter func46,ntmps46
 go_wp2_with fail
 refine O.out.mono ?_;rintro e b ⟨rfl,R⟩;have G:=za (kG.trans (R.mono (by simp)));have W:=Z.ah R (by simp);have kH:w.heap.size<b.heap.size:=W.lt;obtain⟨c0,c1,c2,c3,c4,c5⟩:=ga W;clear kG R Z O W;cases L with
 |false=>
  go_wp2;go_ret2
  have d:oy c l=1:=by unfold oy;rw[zj I.out]
  exact⟨G.out,.inr ⟨by rw[d];decide,by rw[d];rfl⟩⟩
 |true=>
  by_cases ad:32<n
  ·have hi:(32:Int)<(n:Int):=by omega
   go_wp2;go_ret2
   have d:oy c l=4:=by unfold oy;rw[zi (by simp[I.out]),zj (by rw[<-x.out];exact ad)]
   exact⟨G.out,.inr ⟨by rw[d];decide,by rw[d];rfl⟩⟩
  have hi:¬(32:Int)<(n:Int):=by omega
  have Ri:= @run_makeMap prog;have uJ:w.heap.size<b.heap.size+1:=by omega
  have qW:w.heap.size<b.heap.size+1+1:=by omega
  have UW:w.heap.size<b.heap.size+1+1+1:=by omega
  have ae:l.length<=32:=by rw[<-x.out];omega
  have Hd:=za (sj I.out ae);by_cases p:c.fm=1;focus
   have k1:((c.fm:Int)==1)=true:=yO.2 p;have S:tL c= .func (.func 63) #[.agg #[c.de,c.it]] #[]:=by unfold tL AE;rw[zj p]
   have K:qs c= .func (.func 64) #[.agg #[c.de,c.it]] #[]:=by unfold qs AE;rw[zj p]
   clear p
  rotate_left
  focus
   have k1:((c.fm:Int)==1)=false:=zp.2 p;have S:tL c= .func (.func 61) #[.agg #[c.de,c.it]] #[]:=by unfold tL AE;rw[zi p]
   have K:qs c= .func (.func 62) #[.agg #[c.de,c.it]] #[]:=by unfold qs AE;rw[zi p]
   clear p
  all_goals
   obtain⟨r,q⟩:∃r,(((b.alloc (.cells #[c.de,c.it] 115)).alloc (.map #[] 0)).alloc (.map #[] 0)).alloc (.cells #[c.fm,.int .u32 c.mg,c.fr,c.un,c.de,c.it,.map (some (b.heap.size+1)),.map (some (b.heap.size+1+1)),tL c,qs c] 123)=r:=⟨_,rfl⟩
   have Ov:kV r w.heap.size r.heap.size (b.heap.size+1+1+1) (b.heap.size+1) (b.heap.size+1+1) c []:=kV.fresh (w:=b.alloc (.cells #[c.de,c.it] 115)) (by unfold rgC;exact q) (by simp) (by omega);have cT:Below w.heap.size w r:=by rw[<-q];exact((((G.out.alloc (by omega) _).alloc (by simp;omega) _).alloc (by simp;omega) _).alloc (by simp;omega) _)
   have SU:=za Ov;have ey:=za cT;rw[S,K]at q;have wW:=za q;clear q Ov cT S K;go_wp2_with fail
   rw[wW.out];clear c0 c1 c2 c3 c4 c5 k1 Ri uJ qW UW;go_loopw [45] (fun i wr=>∃(k:Nat) (rows:List bX),k<=n/\i= .int .i64 k/\Hid (kV wr w.heap.size wr.heap.size (b.heap.size+1+1+1) (b.heap.size+1) (b.heap.size+1+1) c rows)/\Hid (aJ rows=l.take k)/\Hid (ja c (l.take k) (l.drop k)=ja c [] l)/\Hid (w,wr)) (fun i _=>n-(intOf i).toNat)
   case atStart=>exact⟨0,[],by omega,by go_num,SU,za rfl,za (by simp),ey⟩
   case round=>
    obtain⟨k,rows,hk,rfl,HM,U,HT,s⟩:=hrel;clear SU ey;by_cases YC:k<n
    ·skip
     have m:k<l.length:=by have:=x.out;omega
     obtain⟨ge,o,hA,ma,e0,e1,e2⟩:=(HV.out.below (s.out.mono hB)).at_ (j:=k) m;subst hA;obtain⟨gw,Sv⟩:=wE HT.out m;have Y:=HS.out _ (zD m);obtain⟨h,H⟩:∃h,l[k]=h:=⟨_,rfl⟩
     rw[H]at e0 e1 e2 gw Sv Y;have tS:l.take (k+1)=l.take k++ [h]:=by rw[Z7,zA m,H];rfl
     have iA:=s.out.size;obtain⟨y,J⟩:∃y,wr.alloc (.cells #[.int .u64 h.id,h.name,h.ty] 63)=y:=⟨_,rfl⟩
     have z:Below wr.heap.size wr y:=by rw[<-J];exact(zm _ wr).alloc (zd _) _
     have HA:=za (T9 w.heap.size wr.heap.size _ _ _ c rows h y (HM.out.below z) (HL.out.below (s.out.trans (z.mono iA)) hp) hp Y);have fD:=za (s.out.trans (z.mono iA));have oS:=za J;have NS:=za tS;clear J z H Y tS;go_wp2_with fail
     rw[oS.out];refine HA.out.mono ?_;rintro e M ⟨rfl,ho,X⟩;rw[U.out]at X⊢;have HO:=za (fD.out.trans (ho.below fD.out.size (by simp;omega)));have UN:=za X;generalize gz c (l.take k) h=EE at*;clear ho X HA e0 e1 e2;rcases eN EE with⟨C,z1,z2⟩|⟨C,z1,z2⟩
     ·subst C;obtain⟨vv,aa⟩:=UN.out rfl;have HN:=za aa;have F:=za (Sv rfl);clear aa gw Sv;go_wp2;go_roundw
      case rel=>
       have key:∃(u:Nat) (rows:List bX),u<=n/\Value.int .i64 ((k:Int)+1)= .int .i64 u/\Hid (kV M w.heap.size M.heap.size (b.heap.size+1+1+1) (b.heap.size+1) (b.heap.size+1+1) c rows)/\Hid (aJ rows=l.take u)/\Hid (ja c (l.take u) (l.drop u)=ja c [] l)/\Hid (w,M):=⟨k+1,rows++ [(h,vv)],by omega,by go_num,HN,za (by rw[NS.out,<-U.out];simp[aJ]),F,HO⟩
       first|exact key|((repeat apply Exists.intro);exact⟨key,rfl⟩)
      case measure=>simp[intOf];omega
     have F:=za (gw C);clear gw Sv;go_wp2;go_ret2
     have d:oy c l=EE:=by rw[Hd.out];exact F.out
     exact⟨HO.out,.inr ⟨by rw[d];exact C,by rw[d];rfl⟩⟩
    skip
    have m:k=l.length:=by have:=x.out;omega
    have d:oy c l=0:=by
     rw[Hd.out];have h1:=HT.out;rw[m]at h1;exact Ca h1
    have ab:aJ rows=l:=by rw[U.out,m];simp
    have HF:=za d;have HG:=za ab;clear m d ab;go_wp2;go_ret2
    exact⟨s.out,.inl ⟨HF.out,_,_,_,rows,rfl,HM.out,HG.out⟩⟩
def Vz (w:World)(D:Int×Ms)(e:Ending)(w':World):Prop:=(w,w')/\∃d0 d1 d2 d3,e= .returned (.tuple #[.agg #[d0,d1,d2,d3],D.1])/\oB w' (w.heap.size<= ·) D.2 d0 d1 d2 d3
theorem Ds (w:World)(S:Nat->Prop):oB w S rL eS eS false nS:=⟨rfl,by simp[rL,ByteArray.size],nh w S⟩
theorem ir {t:TypeId}{n j e z3:Value}(h:ag w g t #[n,j,e,z3])(b c d v3:Value):((w.setCell (g,0) b),g,0,b)/\(((w.setCell (g,0) b).setCell (g,1) c),g,1,c)/\((((w.setCell (g,0) b).setCell (g,1) c).setCell (g,2) d),g,2,d)/\(((((w.setCell (g,0) b).setCell (g,1) c).setCell (g,2) d).setCell (g,3) v3),g,3,v3):=by
 have l:ag _ g t #[b,j,e,z3]:=h.store (i:=0) (u:=b) rfl;have m:ag _ g t #[b,c,e,z3]:=l.store (i:=1) (u:=c) rfl;have k:ag _ g t #[b,c,d,z3]:=m.store (i:=2) (u:=d) rfl;have o:ag _ g t #[b,c,d,v3]:=k.store (i:=3) (u:=v3) rfl;exact⟨l.cell 0,m.cell 1,k.cell 2,o.cell 3⟩
theorem eK (w:World)(g:Nat)(d c b v3:Value):ae [g] w ((((w.setCell (g,0) d).setCell (g,1) c).setCell (g,2) b).setCell (g,3) v3):=((((ae.refl _ w).setCell (by simp) _).setCell (by simp) _).setCell (by simp) _).setCell (by simp) _
theorem Ua (lo hi g gn gi:Nat)(c:aM)(l:List bX)(f:Fr)(w:World)(h:kV w lo hi g gn gi c l)(hL:Laid w)(iY:ba w)(hs:f.body.size<=1099511627776):
 Calls prog 72 #[(g,0),.agg #[.int .u64 f.id,f.nm,f.body]] w fun e w'=>Vz w (eU c (aJ l) f) e w':=by
 obtain⟨W,J⟩:∃W,(w.alloc (.cells #[.int .u64 f.id,f.nm,f.body] 103)).alloc (.cells #[eS,eS,false,nS] 30)=W:=⟨_,rfl⟩
 have R:Below w.heap.size w W:=by rw[<-J];exact((zm _ w).alloc (zd _) _).alloc (by simp) _
 have GP:W.heap.size=w.heap.size+2:=by rw[<-J];simp
 have Cs:ag W w.heap.size 103 #[.int .u64 f.id,f.nm,f.body]:=by rw[<-J];exact(ag.new w _ _).alloc _
 have pK:ag W (w.heap.size+1) 30 #[eS,eS,false,nS]:=by rw[<-J];exact ag.at_ (by simp)
 have Z:=za (h.below (R.mono h.his));have ad:=za (Xw lo hi g gn gi c l f W Z.out);have mq:=za Cs;have cO:=za pK;have iB:=za R;have HW:=za J;have G':=za (hL.below R hL.pos);have R6:=za (iY.below R iY.pos);have O:Hid (eU c (aJ l) f=match fQ c (aJ l) f with
  |none=>(11,rL)
  |some e=>if(dt c e.shape f.body).1=0 then(0,⟨e.name,(dt c e.shape f.body).2⟩)else if(dt c e.shape f.body).1=2 then(3,rL)else((dt c e.shape f.body).1,rL)):=za rfl
 obtain⟨r0,r1,r2,_⟩:=bp Cs;obtain⟨id,nm,body⟩:=f;simp only at r0 r1 r2 hs ad mq HW;generalize eU c (aJ l) ⟨id,nm,body⟩=ao at*;clear h hL iY J R Cs pK;go_enter func72,ntmps72
 go_wp2_with fail
 rw[HW.out];refine ad.out.mono ?_;rintro e o ⟨I,a0,a1,a2,a3,a4,A,n,cap,H,b,rfl,qT⟩;have uK:=za (KZ Z.out qT);obtain⟨d,X⟩:∃d,o.alloc (.cells #[.int .u64 a0,a1,a2,a3,a4,.slice A n cap,H] 126)=d:=⟨_,rfl⟩
 have u:Below W.heap.size W d:=by rw[<-X];exact I.alloc I.size _
 have cw:w.heap.size+2<=o.heap.size:=by have:=I.size;omega
 have ri:Hid (ag d o.heap.size 126 #[.int .u64 a0,a1,a2,a3,a4,.slice A n cap,H]):=za (by rw[<-X];exact ag.new _ _ _);have rr:=za (Z.out.below (u.mono Z.out.his));have UU:=za (mq.out.ah u (by omega));have N9:=za (cO.out.ah u (by omega));have Ak:=za (iB.out.trans (u.mono (by omega)));have N8:=za (G'.out.below u G'.out.pos);have R8:=za (R6.out.below u R6.out.pos);have rk:=za u;have al:=za (cO.out.ah I (by omega));have an:=za (iB.out.trans (I.mono (by omega)));have pA:w.heap.size+1<o.heap.size:=by omega
 have cF:o.heap.size<d.heap.size:=ri.out.lt;have tX:=za X;clear I u qT X ad r0 r1 r2;rcases uK.out with⟨N,rfl,rfl,rfl,rfl⟩|⟨e,N,rfl,rfl,rfl,rfl,oe,aj,DR⟩
 ·rw[N]at O;clear uK N;obtain⟨q0,q1,q2,q3,Wj,aq,au,ar⟩:=aU al.out;go_wp2;obtain⟨z,x,B,s⟩:=ir al.out eS eS false nS;refine zl (v:= .tuple #[.agg #[eS,eS,false,nS],(11:Int)]) (by simp[results,results72,go_sem,z,x,B,s,zI,pA]) rfl ?_;rw[O.out];exact⟨(an.out.trans ((eK o (w.heap.size+1) _ _ _ _).below an.out.size (by simp))).alloc (by simp[World.setCell];omega) _,_,_,_,_,rfl,Ds _ _⟩
 have G9:=za ((oe.below rk.out).tJ);rw[N]at O;have D:Hid (ao=if(dt c e.shape body).1=0 then(0,⟨e.name,(dt c e.shape body).2⟩)else if(dt c e.shape body).1=2 then(3,rL)else((dt c e.shape body).1,rL)):=O;have av:=aj.name;clear O uK N oe aj DR;have wU:(qs c= .func (.func 64) #[.agg #[c.de,c.it]] #[]/\Hid (∀V,Below d.heap.size d V->Calls prog 64 #[.agg #[c.de,c.it],.agg #[a3,a4,.slice A n cap,H],body] V fun M w'=>vI V w' (dt c e.shape body).2 (dt c e.shape body).1 M))\/(qs c= .func (.func 62) #[.agg #[c.de,c.it]] #[]/\Hid (∀V,Below d.heap.size d V->Calls prog 62 #[.agg #[c.de,c.it],.agg #[a3,a4,.slice A n cap,H],body] V fun M w'=>vI V w' (dt c e.shape body).2 (dt c e.shape body).1 M)):=by
  by_cases hc:c.fm=1
  ·refine .inl ⟨by unfold qs AE;rw[zj hc],za (fun V m=> ?_)⟩;unfold dt;rw[zj hc];exact Ga e.shape body c.de c.it d.heap.size V _ _ _ _ (G9.out.below m) m.size (N8.out.below m N8.out.pos) (R8.out.below m R8.out.pos) hs
  refine .inr ⟨by unfold qs AE;rw[zi hc],za (fun V m=> ?_)⟩;unfold dt;rw[zi hc];exact Nl e.shape body c.de c.it d.heap.size V _ _ _ _ (G9.out.below m) m.size (N8.out.below m N8.out.pos) (by omega)
 rcases wU with⟨LF,ai⟩|⟨LF,ai⟩;all_goals
  have C:Hid (∀V,Below d.heap.size d V->V.cell? (g,9)=some (qs c)/\(V,o.heap.size,3,a3)/\(V,o.heap.size,4,a4)/\(V,o.heap.size,5,Value.slice A n cap)/\(V,o.heap.size,6,H)/\(V,w.heap.size,2,body)):=za (fun V m=>by
   obtain⟨_,_,_,s,y4,y5,y6⟩:=ni (ri.out.ah m (by omega));obtain⟨_,_,z2,_⟩:=bp (UU.out.ah m (by omega));have hp:=(rr.out.below (m.mono rr.out.his)).cells.2.2.2.2;exact⟨hp,s,y4,y5,y6,z2⟩)
  generalize (dt c e.shape body).1=PE at*;generalize (dt c e.shape body).2=PX at*;go_wp2_with fail
  rw[tX.out];refine aK 15 (fun V=>V.cell? (g,9)=some (qs c)/\(V,o.heap.size,3,a3)/\(V,o.heap.size,4,a4)/\(V,o.heap.size,5,Value.slice A n cap)/\(V,o.heap.size,6,H)/\(V,w.heap.size,2,body)) (by kernel_rfl) (by kernel_rfl) ?_;have hHeld:=C.out d.drew bO;refine GT.jM [0,1,2,3,4,5,6,7,8] hHeld (fun _ _ _ _ _ h=>h) (by kernel_rfl) ?_;repeat(refine .c rfl rfl (fun V m=>by go_simp<;>with_reducible rfl) ?_;simp only[Act.put,zb,ze,zg])
  refine .nil ?_;refine GT.TQ 9 13 rfl rfl (by kernel_rfl) (fun K i=> ?_) (fun K i=> ?_);focus
   go_simp;refine(ai.out d.drew bO).mono ?_;rintro M w3 ⟨E,d0,d1,d2,rfl,y⟩;obtain⟨r,bx,rfl,rfl,rfl,_⟩:=y.open_;have p:Below d.heap.size d w3:=(show Below d.heap.size d d.drew from bO).trans E;go_wp2_with fail
   refine i.out _ _ (C.out w3 p) (fun hHeld=> ?_);clear i K;try simp only[Act.put,zb,ze,zg]
   refine GT.jM [10,11,12] hHeld (fun _ _ _ _ _ h=>h) (by kernel_rfl) ?_;repeat(refine .c rfl rfl (fun V m=>by go_simp<;>with_reducible rfl) ?_;simp only[Act.put,zb,ze,zg])
   refine .nil ?_;refine GT.gw 13 (fun K i=> ?_) rfl (by kernel_rfl);go_simp;refine i.out _ _ (C.out _ (p.alloc p.size _)) (fun hHeld=> ?_);clear i K;try simp only[Act.put,zb,ze,zg]
   refine GT.gw 14 (fun K i=> ?_) rfl (by kernel_rfl);go_simp;refine i.out _ _ (C.out _ (p.alloc p.size _)) (fun hHeld=> ?_);clear i K;try simp only[Act.put,zb,ze,zg]
   refine GT.pF 15 ?_ rfl (by kernel_rfl);go_simp;obtain⟨j,q⟩:∃j,w3.alloc (.cells #[PX.text,PX.list,.slice r PX.sub.length bx] 28)=j:=⟨_,rfl⟩
   have Y:Hid (d,j):=za (by rw[<-q];exact p.alloc p.size _);have aa:ag j w3.heap.size 28 #[PX.text,PX.list,.slice r PX.sub.length bx]:=by rw[<-q];exact ag.new _ _ _
   have YN:Hid (fR j (d.heap.size<= ·) PX PX.text PX.list (.slice r PX.sub.length bx)):=za (by rw[<-q];exact y.below ((zm _ _).alloc (zd _) _));rw[q];clear q E p y hHeld
  rotate_left
  focus
   go_simp;have S:Below d.heap.size d (d.alloc (.cells #[eS,false,nS] 28)).drew:=((zm d.heap.size d).alloc (zd _) _).drew;have af:ag (d.alloc (.cells #[eS,false,nS] 28)).drew d.heap.size 28 #[eS,false,nS]:=(ag.new d _ _).drew;refine i.out _ _ (C.out _ S) (fun hHeld=> ?_);clear i K;try simp only[Act.put,zb,ze,zg]
   refine GT.gw 9 (fun K i=> ?_) rfl (by kernel_rfl);go_simp;refine(ai.out _ S).mono ?_;rintro M w3 ⟨E,d0,d1,d2,rfl,y⟩;obtain⟨r,bx,rfl,rfl,rfl,_⟩:=y.open_;have p:Below d.heap.size d w3:=S.trans (E.mono S.size);have Cz:=af.ah E af.lt;go_wp2_with fail
   refine i.out _ _ (C.out w3 p) (fun hHeld=> ?_);clear i K;try simp only[Act.put,zb,ze,zg]
   refine GT.jM [10,11,12] hHeld (fun _ _ _ _ _ h=>h) (by kernel_rfl) ?_;repeat(refine .c rfl rfl (fun V m=>by go_simp<;>with_reducible rfl) ?_;simp only[Act.put,zb,ze,zg])
   refine .nil ?_;obtain⟨t0,t1,t2,LA,N4,SR⟩:=bp Cz;refine GT.gw 14 (fun K i=> ?_) rfl (by kernel_rfl);go_simp;have mh:Below d.heap.size d (((w3.setCell (d.heap.size,0) PX.text).setCell (d.heap.size,1) PX.list).setCell (d.heap.size,2) (.slice r PX.sub.length bx)):=((p.setCell (by simp) _).setCell (by simp) _).setCell (by simp) _;refine i.out _ _ (C.out _ mh) (fun hHeld=> ?_);clear i K;try simp only[Act.put,zb,ze,zg]
   refine GT.pF 15 ?_ rfl (by kernel_rfl);go_simp;obtain⟨j,q⟩:∃j,(((w3.setCell (d.heap.size,0) PX.text).setCell (d.heap.size,1) PX.list).setCell (d.heap.size,2) (.slice r PX.sub.length bx))=j:=⟨_,rfl⟩
   have Y:Hid (d,j):=za (by rw[<-q];exact mh);have aa:ag j d.heap.size 28 #[PX.text,PX.list,.slice r PX.sub.length bx]:=by rw[<-q];exact gS Cz _ _ _
   have YN:Hid (fR j (d.heap.size<= ·) PX PX.text PX.list (.slice r PX.sub.length bx)):=za (by rw[<-q];exact y.only (L:= [d.heap.size]) ((((ae.refl _ w3).setCell (by simp) _).setCell (by simp) _).setCell (by simp) _) (by simp[World.drew]) (fun k _ F=>by have F:(d.alloc (.cells #[eS,false,nS] 28)).heap.size<=k:=F;simp at F;show d.heap.size<=k;omega));rw[q];clear q E p y hHeld S af mh Cz t0 t1 t2 LA N4 SR
  all_goals
   have ah:=N9.out.ah Y.out (by omega);have ak:=ri.out.ah Y.out (by omega);have ab:=za ah;have G:=za (Ak.out.trans (Y.out.mono (by omega)));obtain⟨q0,q1,q2,q3,Wj,aq,au,ar⟩:=aU ah;obtain⟨u0,u1,u2,u3,u4,u5,u6⟩:=ni ak;obtain⟨t0,t1,t2⟩:=kf aa;clear ah ak aa;rcases eN PE with⟨he,z1,z2⟩|⟨he,z1,z2⟩
   ·subst he;rw[zj rfl]at D;go_wp2;obtain⟨z,x,B,s⟩:=ir ab.out e.name PX.text PX.list (.slice r PX.sub.length bx);refine zl (v:= .tuple #[.agg #[e.name,PX.text,PX.list,.slice r PX.sub.length bx],(0:Int)]) (by simp[results,results72,go_sem,z,x,B,s]) rfl ?_;rw[D.out];exact⟨G.out.trans ((eK j (w.heap.size+1) _ _ _ _).below G.out.size (by simp)),_,_,_,_,rfl,rfl,by simp only;omega,YN.out.only (L:= [w.heap.size+1]) (eK j (w.heap.size+1) _ _ _ _) (by simp;omega) (fun k _ F=>by have F:d.heap.size<=k:=F;show w.heap.size<=k;omega)⟩
   rw[zi he]at D;by_cases U:PE=2
   ·have z3:(PE==2)=true:=yO.2 U;rw[zj U]at D;go_wp2;obtain⟨z,x,B,s⟩:=ir ab.out eS eS false nS;refine zl (v:= .tuple #[.agg #[eS,eS,false,nS],(3:Int)]) (by simp[results,results72,go_sem,z,x,B,s]) rfl ?_;rw[D.out];exact⟨G.out.trans ((eK j (w.heap.size+1) _ _ _ _).below G.out.size (by simp)),_,_,_,_,rfl,Ds _ _⟩
   have z3:(PE==2)=false:=zp.2 U;rw[zi U]at D;go_wp2;obtain⟨z,x,B,s⟩:=ir ab.out eS eS false nS;refine zl (v:= .tuple #[.agg #[eS,eS,false,nS],PE]) (by simp[results,results72,go_sem,z,x,B,s]) rfl ?_;rw[D.out];exact⟨G.out.trans ((eK j (w.heap.size+1) _ _ _ _).below G.out.size (by simp)),_,_,_,_,rfl,Ds _ _⟩
theorem Jq {l:List UInt8}(h:cL l=some t):t.may=true:=by
 unfold cL at h;split at h
 ·rename_i x hx
  cases hm:x.may with
  |true=>rw[hm,zj rfl]at h;injection h with h;rw[<-h];exact hm
  |false=>rw[hm]at h;cases h
 cases h
theorem Nt (h:t.may=true):t.count<=64:=by
 simp only[Ty.may,zy,zY]at h;omega
theorem Gc {l:List bj}{p:bj->Bool}(h:∀j (b:j<l.length),j<k->p l[j]=false):(l.take k).any p=false:=by
 rw[Z8];intro e c;obtain⟨j,b,rfl⟩:=yY c;rw[zU]at b;rw[List.getElem_take];rw[h j (by omega) (by omega)];simp
theorem QF {l:List bj}{p:bj->Bool}{j:Nat}(b:k<=l.length)(c:j<k)(h:p (l[j]'(by omega))=true):(l.take k).any p=true:=
 ZG.2 ⟨l[j]'(by omega),by rw[List.mem_take_iff_getElem];exact⟨j,by omega,rfl⟩,h⟩
theorem Jr (c:aM)(l:List bj)(v:Value)(B:Nat)(w:World)(hv:rf w B v l)(L:B<=w.heap.size)(hs:∀e∈l,oC e):
 Calls prog 9 #[c.val,v] w fun e w'=>e= .returned (.int .i64 (oy c l))/\(w,w'):=by
 obtain⟨A,n,cap,rfl,hn,SB,kr⟩:=hv.cy;have HR:=za (Dr c (w.alloc (.cells #[c.fm,.int .u32 c.mg,c.fr,c.un,c.de,c.it] 24)));have kG:=(zm w.heap.size w).alloc (zd _) (.cells #[c.fm,.int .u32 c.mg,c.fr,c.un,c.de,c.it] 24);have Ce:=ag.new w 24 #[c.fm,.int .u32 c.mg,c.fr,c.un,c.de,c.it];have J:=za hv;have HS:=za hs;unfold aM.val at*;obtain⟨rt,DR⟩:∃rt,c.right=rt:=⟨_,rfl⟩
 rw[DR]at HR;have N2:=za DR;clear hv hs DR;go_enter func9,ntmps9
 go_wp2_with fail
 refine HR.out.mono ?_;rintro e w1 ⟨rfl,aL⟩;have cO:=za (kG.trans (aL.mono (by simp)));have af:=za (Ce.ah aL (by simp));clear kG aL Ce HR;cases rt with
 |false=>
  go_wp2;go_ret;have d:oy c l=1:=by unfold oy;rw[zj N2.out]
  exact⟨by rw[d];rfl,cO.out⟩
 |true=>
  by_cases an:32<n
  ·have hi:(32:Int)<(n:Int):=by omega
   go_wp2;go_ret;have d:oy c l=4:=by unfold oy;rw[zi (by simp[N2.out]),zj (by rw[<-hn.out];exact an)]
   exact⟨by rw[d];rfl,cO.out⟩
  have hi:¬(32:Int)<(n:Int):=by omega
  have ah:l.length<=32:=by rw[<-hn.out];omega
  have I:=za (sj N2.out ah);clear ah N2;go_wp2_with fail
  go_loopw [5] (fun i wr=>∃k:Nat,i= .int .i64 k/\k<=n/\Hid (ja c (l.take k) (l.drop k)=ja c [] l)/\Hid (w,wr)/\Hid (ag wr w.heap.size 24 #[c.fm,.int .u32 c.mg,c.fr,c.un,c.de,c.it])) (fun i _=>n-(intOf i).toNat)
  case atStart=>exact⟨0,rfl,by omega,za (by simp),cO,af⟩
  case round=>
   obtain⟨k,rfl,hk,HT,Y,HC⟩:=hrel;clear cO af;by_cases YC:k<n
   ·have u:k<l.length:=by have:=hn.out;omega
    obtain⟨ge,o,hA,ma,e0,e1,Z⟩:=(J.out.below (Y.out.mono L)).at_ (j:=k) u;subst hA;obtain⟨gw,Sv⟩:=wE HT.out u;have Wq:=HS.out _ (zD u);obtain⟨b,qN⟩:∃b,l[k]=b:=⟨_,rfl⟩
    rw[qN]at e0 e1 Z gw Sv Wq;have aw:=Wq.name;have ay:=Wq.ty;have mf:=za qN;have S:=za gw;have aj:=za Sv;have r:Hid (gz c (l.take k) b=if b8 b.name=false then 11 else if((l.take k).any fun x=>decide (x.name=b.name))=true then 11 else if((l.take k).any fun x=>decide (x.id=b.id))=true then 1 else if cL b.ty.data.toList=none then 3 else if c.fm=1/\b.shape.flat=false then 12 else 0):=za rfl;have Wa:=za (fun V=>Mz b.name V (by omega));clear qN gw Sv Wq;generalize wr=w2 at*;go_wp2_with fail
    refine(Wa.out _).mono ?_;rintro e w' ⟨rfl,rfl⟩;cases hmy:b8 b.name with
    |false=>
     have d:oy c l=11:=by
      have q:gz c (l.take k) b=11:=by rw[r.out,zj hmy]
      rw[I.out,S.out (by rw[q];decide),q]
     go_wp2;go_ret;exact⟨by rw[d];rfl,Y.out⟩
    |true=>
     rw[zi (by simp[hmy])]at r;clear Wa hmy;go_wp2_with fail
     go_loopw [6] (fun i wr=>∃m:Nat,i= .int .i64 m/\m<=k/\Hid (∀j (s:j<l.length),j<m->decide (l[j].name=b.name)=false)/\Hid (w2,wr)) (fun i _=>k-(intOf i).toNat)
     case atStart=>exact⟨0,rfl,by omega,za (by omega),za (zm _ _)⟩
     case round=>
      obtain⟨m,rfl,hm,F,gy⟩:=hrel;have K:=za (Y.out.trans (gy.out.mono Y.out.size));generalize wr=w3 at*;by_cases al:m<k
      ·have aq:m<n:=by omega
       have Uw:m<l.length:=by omega
       obtain⟨g',o',p,Q5,d0,d1,d2⟩:=(J.out.below (K.out.mono L)).at_ (j:=m) Uw;injection p with p;injection p with hA1 hA2;subst hA1 hA2;obtain⟨g',o',p,_,f0,f1,f2⟩:=(J.out.below (K.out.mono L)).at_ (j:=k) u;injection p with p;injection p with hA1 hA2;subst hA1 hA2;rw[mf.out]at f0 f1 f2;obtain⟨z,E⟩:∃z,l[m]=z:=⟨_,rfl⟩
       rw[E]at d0 d1 d2;have O:=za E;clear E;clear d0 d2 e0 Z f0 f2;rcases pO z.name b.name with⟨y,q1,q2⟩|⟨y,q1,q2⟩
       ·have d:oy c l=11:=by
         have q:gz c (l.take k) b=11:=by rw[r.out,zj (QF (Ym u) al (by rw[O.out];exact zF y))]
         rw[I.out,S.out (by rw[q];decide),q]
        have C:=za d;clear d y;go_wp2_with fail
        go_quiet (fail)
        go_wp2;go_ret;exact⟨by rw[C.out];rfl,Below.bF K.out _⟩
       have N7:Hid (∀j (s:j<l.length),j<m+1->decide (l[j].name=b.name)=false):=za (fun j s ar=>by
        by_cases h:j=m
        ·subst h;rw[O.out];exact zv y
        exact F.out j s (by omega))
       clear y;go_wp2_with fail
       go_quiet (fail)
       go_wp2;go_roundw
       case rel=>exact⟨m+1,by go_num,by omega,N7,za (Below.bF gy.out _)⟩
       case measure=>simp[intOf];omega
      skip
      have X:Hid (((l.take k).any fun x=>decide (x.name=b.name))=false):=za (Gc (fun j s Om=>F.out j s (by omega)));rw[X.out,zi (by simp)]at r;clear X F;go_wp2_with fail
      go_loopw [7] (fun i wr=>∃m:Nat,i= .int .i64 m/\m<=k/\Hid (∀j (s:j<l.length),j<m->decide (l[j].id=b.id)=false)/\Hid (w3,wr)) (fun i _=>k-(intOf i).toNat)
      case atStart=>exact⟨0,rfl,by omega,za (by omega),za (zm _ _)⟩
      case round=>
       obtain⟨W,rfl,ax,F,fD⟩:=hrel;have D:=za (K.out.trans (fD.out.mono K.out.size));generalize wr=w4 at*;by_cases ak:W<k
       ·have aq:W<n:=by omega
        have Uw:W<l.length:=by omega
        obtain⟨m,Ri⟩:∃m,m=W:=⟨W,rfl⟩
        subst Ri;obtain⟨g',o',p,Q5,d0,d1,d2⟩:=(J.out.below (D.out.mono L)).at_ (j:=m) Uw;injection p with p;injection p with hA1 hA2;subst hA1 hA2;obtain⟨g',o',p,_,f0,f1,f2⟩:=(J.out.below (D.out.mono L)).at_ (j:=k) u;injection p with p;injection p with hA1 hA2;subst hA1 hA2;rw[mf.out]at f0 f1 f2;obtain⟨z,E⟩:∃z,l[m]=z:=⟨_,rfl⟩
        rw[E]at d0 d1 d2;have O:=za E;clear E;clear d1 d2 e1 Z f1 f2;by_cases y:z.id=b.id
        ·have q1:((z.id:Int)==(b.id:Int))=true:=yO.2 (by omega);have d:oy c l=1:=by
          have q:gz c (l.take k) b=1:=by rw[r.out,zj (QF (Ym u) ak (by rw[O.out];exact zF y))]
          rw[I.out,S.out (by rw[q];decide),q]
         have C:=za d;clear d y;go_wp2_with fail
         go_quiet (fail)
         go_wp2;go_ret;exact⟨by rw[C.out];rfl,Below.bF D.out _⟩
        have q1:((z.id:Int)==(b.id:Int))=false:=zp.2 (by omega);have N7:Hid (∀j (s:j<l.length),j<m+1->decide (l[j].id=b.id)=false):=za (fun j s ar=>by
         by_cases h:j=m
         ·subst h;rw[O.out];exact zv y
         exact F.out j s (by omega))
        clear y;go_wp2_with fail
        go_quiet (fail)
        go_wp2;go_roundw
        case rel=>exact⟨m+1,by go_num,by omega,N7,za (Below.bF fD.out _)⟩
        case measure=>simp[intOf];omega
       have X:Hid (((l.take k).any fun x=>decide (x.id=b.id))=false):=za (Gc (fun j s Om=>F.out j s (by omega)));rw[X.out,zi (by simp)]at r;clear X F;obtain⟨g',o',p,_,f0,f1,f2⟩:=(J.out.below (D.out.mono L)).at_ (j:=k) u;injection p with p;injection p with hA1 hA2;subst hA1 hA2;rw[mf.out]at f0 f1 f2;have av:=K.out.size;have ai:=za ((HC.out.ah gy.out HC.out.lt).ah fD.out (by have:=HC.out.lt;have:=gy.out.size;omega));have HG:=za (IY b.ty w4 (by omega));obtain⟨T,hT⟩:∃T,cL b.ty.data.toList=T:=⟨_,rfl⟩
       rw[hT]at HG r;have Ws:=za hT;clear e0 e1 Z f0 f1 hT;go_wp2_with fail
       refine HG.out.mono ?_;rintro e N kC;cases T with
       |none=>
        obtain⟨H,rfl⟩:=kC;have d:oy c l=3:=by
         have q:gz c (l.take k) b=3:=by rw[r.out,zj rfl]
         rw[I.out,S.out (by rw[q];decide),q]
        have C:=za d;have U:=za (D.out.trans (H.mono D.out.size));clear d H;go_wp2;go_ret;exact⟨by rw[C.out];rfl,U.out.alloc U.out.size _⟩
       |some t=>
        obtain⟨H,d0,d1,d2,d3,rfl,oe⟩:=kC;have AW:b.shape=t:=by unfold bj.shape;rw[Ws.out];rfl
        rw[zi (by simp),AW]at r;obtain⟨A5,ff,rfl,rfl,rfl,rfl,_⟩:=oe.open_;have ab:=ai.out.ah H ai.out.lt;have au:w.heap.size<N.heap.size:=ab.lt;have U:=za (D.out.trans (H.mono D.out.size));have R:Hid (w,N.alloc (.cells #[t.kind,t.size,.slice A5 t.sub.length ff,t.tail] 70)):=za (U.out.alloc U.out.size _);have ad:=za (ab.alloc (.cells #[t.kind,t.size,.slice A5 t.sub.length ff,t.tail] 70));have aa:=za (Nc t _ (N.alloc (.cells #[t.kind,t.size,.slice A5 t.sub.length ff,t.tail] 70)) _ _ _ _ ((oe.below ((zm _ N).alloc (zd _) _)).tJ) (zd _) (by have:=Nt (Jq Ws.out);omega));have c0:N.cell? (w.heap.size,0)=some (.int .i64 c.fm):=ab.cell 0;clear H oe ab AW f2;by_cases G:c.fm=1
        ·have k1:((c.fm:Int)==1)=true:=yO.2 G;cases mA:t.flat with
         |false=>
          have d:oy c l=12:=by
           have q:gz c (l.take k) b=12:=by rw[r.out,zj ⟨G,mA⟩]
           rw[I.out,S.out (by rw[q];decide),q]
          rw[mA]at aa;have C:=za d;clear d G mA;go_wp2_with fail
          refine aa.out.mono ?_;rintro e w6 ⟨rfl,M⟩;have ae:=za (R.out.trans (M.mono R.out.size));clear M;go_wp2;go_ret;exact⟨by rw[C.out];rfl,ae.out⟩
         |true=>
          have uG:=za (aj.out (by rw[r.out,zi (by simp[mA])]));rw[mA]at aa;clear G mA;go_wp2_with fail
          refine aa.out.mono ?_;rintro e w6 ⟨rfl,M⟩;have ae:=za (R.out.trans (M.mono R.out.size));have ao:=za (ad.out.ah M ad.out.lt);clear M;go_wp2;go_roundw
          case rel=>exact⟨k+1,by go_num,by omega,uG,ae,ao⟩
          case measure=>simp[intOf];omega
        have k1:((c.fm:Int)==1)=false:=zp.2 G;have uG:=za (aj.out (by rw[r.out,zi (by simp[G])]));clear G;go_wp2;go_roundw
        case rel=>exact⟨k+1,by go_num,by omega,uG,R,ad⟩
        case measure=>simp[intOf];omega
   have u:k=l.length:=by have:=hn.out;omega
   have d:oy c l=0:=by
    rw[I.out];have q:=HT.out;rw[u]at q;exact Ca q
   have C:=za d;clear u d;go_wp2;go_ret;exact⟨by rw[C.out];rfl,Y.out⟩
theorem Gd (a b:ByteArray)(x y:It)(B:Nat)(w:World)(z s p q o u:Value)(hx:bI w B x z s p)(n:bI w B y q o u)(m:B<=w.heap.size):
 Calls prog 19 #[.agg #[a,z,s,p],.agg #[b,q,o,u]] w fun e w'=>(∃r:Bool,e= .returned r/\(r=true↔a=b/\x=y))/\(w,w'):=by
 obtain⟨H,J,rfl,rfl,rfl,_⟩:=hx.open_;obtain⟨I,D,rfl,rfl,rfl,_⟩:=n.open_;obtain⟨W,l⟩:∃W,(w.alloc (.cells #[a,x.text,x.list,.slice H x.sub.length J] 30)).alloc (.cells #[b,y.text,y.list,.slice I y.sub.length D] 30)=W:=⟨_,rfl⟩
 have i:Below w.heap.size w W:=by rw[<-l];exact((zm _ w).alloc (zd _) _).alloc (by simp) _
 have F:=za (MO x B W _ _ _ (hx.below (i.mono m)) (zG m i.size) y _ _ _ (n.below (i.mono m)));have c:=za i;have j:=za l;clear hx n i l;rcases pO a b with⟨d,A,E⟩|⟨d,A,E⟩
 ·have k:=za d;clear d;go_enter func19,ntmps19
  go_wp2_with fail
  rw[j.out];refine F.out.mono ?_;rintro e K ⟨⟨r,rfl,G⟩,C⟩;go_wp2;go_ret;exact⟨⟨r,rfl,G.trans ⟨fun h=>⟨k.out,h⟩,fun h=>h.2⟩⟩,c.out.trans (C.mono c.out.size)⟩
 have k:=za d;clear d;go_enter func19,ntmps19
 go_wp2;first|rw[j.out]|skip
 go_ret;exact⟨⟨false,rfl,⟨(by intro h;cases h),fun h=>absurd h.1 k.out⟩⟩,by first|exact c.out|(rw[<-j.out]at c;exact c.out)|exact bO⟩
theorem Ge (l:List Ms)(u v:Value)(S1 S2:Nat->Prop)(aa Yz:Nat)(w:World)(hu:bL w S1 aa l u)(N:bL w S2 Yz l v):
 Calls prog 14 #[u,v] w fun e w'=>e= .returned true/\(w,w'):=by
 obtain⟨A,O,rfl,R,D9,L⟩:=tK.reads (hu.ef (S1:=fun _=>True) (lo':=0) (fun _ _ _=>trivial) (yb _)|>.ef (S1:=(0<= ·)) (fun _ _ _=>yb _) (yb _));obtain⟨C,X,rfl,W,pJ,K⟩:=tK.reads (N.ef (S1:=fun _=>True) (lo':=0) (fun _ _ _=>trivial) (yb _)|>.ef (S1:=(0<= ·)) (fun _ _ _=>yb _) (yb _));have HU:=za L;have HV:=za K;obtain⟨n,q⟩:∃n,l.length=n:=⟨_,rfl⟩
 rw[q]at R W;rw[q];have HN:=za q;clear L K hu N q;go_enter func14,ntmps14
 go_wp2;go_loopw [5] (fun i wr=>∃k:Nat,i= .int .i64 k/\k<=n/\(w,wr)) (fun i _=>n-(intOf i).toNat)
 case atStart=>exact⟨0,rfl,by omega,zm _ _⟩
 case round=>
  obtain⟨k,rfl,hk,d⟩:=hrel;by_cases aD:k<n
  ·have M:k<l.length:=by rw[HN.out];exact aD
   have qO:(k:Int)<n:=by omega
   obtain⟨g,o,c0,c1,c2,c3,hA,_,m,x,p,s,hx⟩:=HU.out.at_ k M;obtain⟨h,j,d0,d1,d2,d3,hC,_,f0,f1,f2,f3,B⟩:=HV.out.at_ k M;subst hA hC;obtain⟨y,S⟩:∃y,l[k]=y:=⟨_,rfl⟩
   rw[S]at hx B;obtain⟨G,I,rfl,rfl,rfl,rfl,_⟩:=hx.open_;obtain⟨H,E,rfl,rfl,rfl,rfl,_⟩:=B.open_;simp only[zJ]at m x p s f0 f1 f2 f3;have D:=lt_of_cell m;have z:=lt_of_cell f0;have F:=d.size;have J:Hid (∀V,Below wr.heap.size wr V->(V,g,o+k*4,y.name)/\(V,g,o+k*4+1,y.x.text)/\(V,g,o+k*4+2,y.x.list)/\(V,g,o+k*4+3,Value.slice G y.x.sub.length I)/\
    (V,h,j+k*4,y.name)/\(V,h,j+k*4+1,y.x.text)/\(V,h,j+k*4+2,y.x.list)/\(V,h,j+k*4+3,Value.slice H y.x.sub.length E)):=za (fun V c=>by
    have b:=d.trans (c.mono F);exact⟨(b.cell D).trans m,(b.cell D).trans x,(b.cell D).trans p,(b.cell D).trans s,(b.cell z).trans f0,(b.cell z).trans f1,(b.cell z).trans f2,(b.cell z).trans f3⟩)
   have U:Hid (∀V,Below wr.heap.size wr V->Calls prog 19 #[.agg #[y.name,y.x.text,y.x.list,.slice G y.x.sub.length I],.agg #[y.name,y.x.text,y.x.list,.slice H y.x.sub.length E]] V fun e w'=>e= .returned true/\(V,w')):=za (fun V c=>by
    have b:=d.trans (c.mono F);refine(Gd y.name y.name y.x y.x w.heap.size V _ _ _ _ _ _ ((hx.2.2.tJ).below b) ((B.2.2.tJ).below b) b.size).mono ?_;rintro e w' ⟨⟨r,rfl,Y⟩,d⟩;obtain rfl:r=true:=Y.2 ⟨rfl,rfl⟩;exact⟨rfl,d⟩)
   have Z:=za d;clear hx B m x p s f0 f1 f2 f3 d;go_wp2_with fail
   refine iV (by kernel_rfl) (by kernel_rfl) ?_;refine aE (.slice (some (g,o)) n O) (by rfl) (fun _ _=>by first|rfl|go_simp) ?_;simp only[Act.put,zb,ze,zg];refine aE (.int .i64 k) (by rfl) (fun _ _=>by first|rfl|go_simp) ?_;simp only[Act.put,zb,ze,zg];refine aE (.pointer (some (g,o+k*4))) (by rfl) (fun _ _=>by first|rfl|go_simp) ?_;simp only[Act.put,zb,ze,zg];refine aE (.agg #[y.name,y.x.text,y.x.list,.slice G y.x.sub.length I]) (by rfl) (fun V c=>by obtain⟨m,x,p,s,_⟩:=J.out V c;go_simp) ?_;simp only[Act.put,zb,ze,zg];refine aE (.slice (some (h,j)) n X) (by rfl) (fun _ _=>by first|rfl|go_simp) ?_;simp only[Act.put,zb,ze,zg];refine aE (.int .i64 k) (by rfl) (fun _ _=>by first|rfl|go_simp) ?_;simp only[Act.put,zb,ze,zg];refine aE (.pointer (some (h,j+k*4))) (by rfl) (fun _ _=>by first|rfl|go_simp) ?_;simp only[Act.put,zb,ze,zg];refine aE (.agg #[y.name,y.x.text,y.x.list,.slice H y.x.sub.length E]) (by rfl) (fun V c=>by obtain⟨_,_,_,_,f0,f1,f2,f3⟩:=J.out V c;go_simp) ?_;simp only[Act.put,zb,ze,zg];refine eI 19 _ (.bool true) (by rfl) (fun _=>by first|rfl|go_simp) (fun V c=>U.out V c) ?_;simp only[Act.put,zb,ze,zg];refine aE (.bool false) (by rfl) (fun _ _=>by first|rfl|go_simp) ?_;simp only[Act.put,zb,ze,zg];refine xO ?_;intro V c;have aI:=Z.out.trans (c.mono F);go_wp2;go_roundw
   case rel=>exact⟨k+1,by go_num,by omega,aI⟩
   case measure=>simp[intOf];omega
  have qO:¬(k:Int)<n:=by omega
  go_wp2;go_ret;exact⟨rfl,d⟩
