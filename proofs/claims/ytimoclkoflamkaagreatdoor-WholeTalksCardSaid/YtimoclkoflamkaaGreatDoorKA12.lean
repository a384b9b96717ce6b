/- package registry: the row of a frame (of); Len, Config. -/
import Derived.Test.YtimoclkoflamkaaGreatDoorKA9
import Derived.Test.YtimoclkoflamkaaGreatDoorKA10
set_option linter.all false
set_option maxRecDepth 100000
set_option maxHeartbeats 3200000
open Go.Proofs.Tryz
namespace Go.Proofs.YtimoclkoflamkaaGreatDoor
open Go.RowKit
variable {w:World}{g hi x:Nat}{t:TypeId}{l:List bY}{k z3 z4 z5 d e:Value}
def YE:=@results102
theorem Xz.open_ {S:Nat->Prop}{r:bY}(h:Xz w S r):∃A cap,r.2= .agg #[.int .u64 r.1.id,r.1.name,r.1.ty,r.1.shape.kind,r.1.shape.size,.slice A r.1.shape.sub.length cap,r.1.shape.tail]/\gd w S r.1.shape r.1.shape.kind r.1.shape.size (.slice A r.1.shape.sub.length cap) r.1.shape.tail:=by
 obtain⟨d,i,b,c,e,h⟩:=h;obtain⟨A,cap,rfl,rfl,rfl,rfl,_⟩:=h.open_;exact⟨A,cap,e,h⟩
def So (l:List bY)(o:Option aV)(a0:Nat)(a1 a2:ByteArray)(a3 a4:Int)(A:Option Addr)(n cap:Nat)(a6:Int)(b:Bool):Prop:=
 (o=none/\b=false/\Value.agg #[.int .u64 a0,a1,a2,a3,a4,.slice A n cap,a6]=Ec)\/∃r∈l,o=some r.1/\b=true/\Value.agg #[.int .u64 a0,a1,a2,a3,a4,.slice A n cap,a6]=r.2
theorem En {u d:Nat}{c:aF}(h:lg w u hi g d x c l)(nm:ByteArray):
 ∃q s k a3 a4 A n cap o b,So l (fE (aJ l) nm) q s k a3 a4 A n cap o b/\∀V,jn V d (BJ l)->(Instr.lookup 116 (.map (some d)) nm true).run prog V= .ok (.tuple #[.agg #[.int .u64 (q:Nat),s,k,a3,a4,.slice A n cap,o],b]) V:=by
 rcases Vw h.nm h.ok nm with⟨p,i⟩|⟨r,m,p,i,j⟩
 ·exact⟨0,⟨#[]⟩,⟨#[]⟩,0,0,none,0,0,0,false,.inl ⟨p,rfl,rfl⟩,i⟩
 obtain⟨A,cap,e,_⟩:=(h.rows r m).open_;rw[e]at j;exact⟨_,_,_,_,_,_,_,_,_,true,.inr ⟨r,m,i,rfl,e.symm⟩,j⟩
theorem Mo {u i:Nat}{c:aF}(h:lg w x hi g u i c l)(id:Nat):
 ∃q s k a3 a4 A n cap o b,So l ((aJ l).find? (fun e=>decide (e.id=id))) q s k a3 a4 A n cap o b/\∀V,jn V i (BK l)->(Instr.lookup 117 (.map (some i)) (.int .u64 id) true).run prog V= .ok (.tuple #[.agg #[.int .u64 (q:Nat),s,k,a3,a4,.slice A n cap,o],b]) V:=by
 rcases Vx h.ix h.ok id with⟨p,d⟩|⟨r,m,p,d,j⟩
 ·exact⟨0,⟨#[]⟩,⟨#[]⟩,0,0,none,0,0,0,false,.inl ⟨p,rfl,rfl⟩,d⟩
 obtain⟨A,cap,e,_⟩:=(h.rows r m).open_;rw[e]at j;exact⟨_,_,_,_,_,_,_,_,_,true,.inr ⟨r,m,d,rfl,e.symm⟩,j⟩
abbrev ON (w:World)(g:Nat)(v0 v1 v2 v3 v4 v5 v6:Value):World:=((((((w.setCell (g,0) v0).setCell (g,1) v1).setCell (g,2) v2).setCell (g,3) v3).setCell (g,4) v4).setCell (g,5) v5).setCell (g,6) v6
theorem GW {s l:Value}(h:af w g t #[s,l,k,z3,z4,z5,d])(b c e v3 v4 v5 j:Value):af (ON w g b c e v3 v4 v5 j) g t #[b,c,e,v3,v4,v5,j]:=by
 have r:af _ g t #[b,l,k,z3,z4,z5,d]:=h.store (i:=0) (u:=b) rfl;have o:af _ g t #[b,c,k,z3,z4,z5,d]:=r.store (i:=1) (u:=c) rfl;have p:af _ g t #[b,c,e,z3,z4,z5,d]:=o.store (i:=2) (u:=e) rfl;have m:af _ g t #[b,c,e,v3,z4,z5,d]:=p.store (i:=3) (u:=v3) rfl;have q:af _ g t #[b,c,e,v3,v4,z5,d]:=m.store (i:=4) (u:=v4) rfl;have n:af _ g t #[b,c,e,v3,v4,v5,d]:=q.store (i:=5) (u:=v5) rfl;exact n.store (i:=6) (u:=j) rfl
theorem oH (w:World)(g:Nat)(b d e v3 v4 v5 c:Value):ae [g] w (ON w g b d e v3 v4 v5 c):=(((((((ae.refl _ w).setCell (by simp) _).setCell (by simp) _).setCell (by simp) _).setCell (by simp) _).setCell (by simp) _).setCell (by simp) _).setCell (by simp) _
theorem Da {x n:Value}(h:af w g t #[x,n,k,z3,z4,z5,e])(b c d v3 v4 v5 j:Value):
 ((w.setCell (g,0) b),g,0,b)/\(((w.setCell (g,0) b).setCell (g,1) c),g,1,c)/\((((w.setCell (g,0) b).setCell (g,1) c).setCell (g,2) d),g,2,d)/\(((((w.setCell (g,0) b).setCell (g,1) c).setCell (g,2) d).setCell (g,3) v3),g,3,v3)/\
 ((((((w.setCell (g,0) b).setCell (g,1) c).setCell (g,2) d).setCell (g,3) v3).setCell (g,4) v4),g,4,v4)/\(((((((w.setCell (g,0) b).setCell (g,1) c).setCell (g,2) d).setCell (g,3) v3).setCell (g,4) v4).setCell (g,5) v5),g,5,v5)/\((((((((w.setCell (g,0) b).setCell (g,1) c).setCell (g,2) d).setCell (g,3) v3).setCell (g,4) v4).setCell (g,5) v5).setCell (g,6) j),g,6,j):=by
 have r:af _ g t #[b,n,k,z3,z4,z5,e]:=h.store (i:=0) (u:=b) rfl;have o:af _ g t #[b,c,k,z3,z4,z5,e]:=r.store (i:=1) (u:=c) rfl;have p:af _ g t #[b,c,d,z3,z4,z5,e]:=o.store (i:=2) (u:=d) rfl;have l:af _ g t #[b,c,d,v3,z4,z5,e]:=p.store (i:=3) (u:=v3) rfl;have q:af _ g t #[b,c,d,v3,v4,z5,e]:=l.store (i:=4) (u:=v4) rfl;have m:af _ g t #[b,c,d,v3,v4,v5,e]:=q.store (i:=5) (u:=v5) rfl;have s:af _ g t #[b,c,d,v3,v4,v5,j]:=m.store (i:=6) (u:=j) rfl;exact⟨r.cell 0,o.cell 1,p.cell 2,l.cell 3,q.cell 4,m.cell 5,s.cell 6⟩
theorem o6 {b c a3 a4 a5:Value}(h:af w g t #[b,c,d,a3,a4,a5,e]):
 w.frozen? (g,0)=false/\w.frozen? (g,1)=false/\w.frozen? (g,2)=false/\w.frozen? (g,3)=false/\w.frozen? (g,4)=false/\w.frozen? (g,5)=false/\w.frozen? (g,6)=false:=⟨h.frozen 0,h.frozen 1,h.frozen 2,h.frozen 3,h.frozen 4,h.frozen 5,h.frozen 6⟩
def aev (w:World)(c:aF)(l:List bY)(f:Fr)(e:Ending)(w':World):Prop:=
 Below w.heap.size w w'/\∃a0 a1 a2 a3 a4 A n cap a6 b,e= .returned (.tuple #[.agg #[.int .u64 (a0:Nat),.string a1,.string a2,.int .i64 a3,.int .i64 a4,.slice A n cap,.int .i64 a6],.bool b])/\So l (fU c (aJ l) f) a0 a1 a2 a3 a4 A n cap a6 b
theorem aaS (lo hi g s q:Nat)(c:aF)(l:List bY)(f:Fr)(w:World)(h:lg w lo hi g s q c l):
 Calls prog 102 #[(g,0),.agg #[.int .u64 f.id,f.nm,f.body]] w fun e w'=>aev w c l f e w':=by
 obtain⟨id,nm,body⟩:=f;obtain⟨g0,g6,g7,_,_⟩:=h.cells;have Bu:g<w.heap.size:=zJ h.g2 h.his;have aT:s<w.heap.size:=h.nm.lt;have lE:q<w.heap.size:=h.ix.lt;have aV:g<w.heap.size+1:=by omega
 have aU:g<w.heap.size+1+1:=by omega
 obtain⟨W,B⟩:∃W,((w.alloc (.cells #[.int .u64 id,nm,body] 103)).alloc (.cells #[.int .u64 0,eS,eS,(0:Int),(0:Int),nS,(0:Int)] 126)).alloc (.cells #[.int .u64 0,eS,eS,(0:Int),(0:Int),nS,(0:Int)] 126)=W:=⟨_,rfl⟩
 have jj:Below w.heap.size w W:=by rw[<-B];exact(((zi _ w).alloc (ze _) _).alloc (by simp) _).alloc (by simp;omega) _
 have Dy:af W w.heap.size 103 #[.int .u64 id,nm,body]:=by rw[<-B];exact((af.new w _ _).alloc _).alloc _
 have qj:af W (w.heap.size+1) 126 #[.int .u64 0,eS,eS,(0:Int),(0:Int),nS,(0:Int)]:=by rw[<-B];exact af.alloc (af.at_ (by simp)) _
 have mN:af W (w.heap.size+1+1) 126 #[.int .u64 0,eS,eS,(0:Int),(0:Int),nS,(0:Int)]:=by rw[<-B];exact af.at_ (by simp)
 have U:=za (h.below (jj.mono h.his));have X:=za Dy;have z:=za qj;have u:=za mN;have r:=za jj;have S:=za B;clear B jj Dy qj mN;by_cases o:c.fm=1
 ·have k1:(c.fm==1)=true:=yN.2 o;have k2:(c.fm !=1)=false:=by simp[o]
  have x:=za (D0 o (aJ l) ⟨id,nm,body⟩);by_cases Y:id=0
  ·have k3:((id:Int)==0)=true:=yN.2 (by omega);rw[zg Y]at x;obtain⟨a0,p,a2,a3,a4,A,n,cap,m,b,M,R⟩:=En h nm;have vK:=za M;have Qr:=za R;clear h M R o Y;have F:Hid (∀V:World,V.heap[g]?=W.heap[g]?/\V.heap[s]?=W.heap[s]?/\V.heap[w.heap.size]?=W.heap[w.heap.size]?->V.cell? ⟨g,6,none⟩=some (.map (some s))/\V.cell? ⟨w.heap.size,1,none⟩=some (.string nm)/\jn V s (BJ l)):=za (fun V i=>⟨af.cell (show af V g _ _ from i.1.trans U.out.blk) 6,af.cell (show af V w.heap.size _ _ from i.2.2.trans X.out) 1,U.out.nm.ah i.2.1⟩);go_enter func102,ntmps102
   go_wp2_with fail
   rw[S.out];refine aL 11 (fun V=>V.cell? ⟨g,6,none⟩=some (.map (some s))/\V.cell? ⟨w.heap.size,1,none⟩=some (.string nm)/\jn V s (BJ l)) (by kernel_rfl) (by kernel_rfl) ?_;have hHeld:=F.out W.drew ⟨rfl,rfl,rfl⟩;refine GT.iv [0,1,2,3,4,5,6,7,8,9] hHeld (fun _ _ _ _ _ h=>h) (by kernel_rfl) ?_;iterate 6 (refine .c rfl rfl (fun V i=>by go_simp<;>with_reducible rfl) ?_;simp only[Act.put,zb,zc,zd])
   refine .c (v:= .tuple #[.agg #[.int .u64 a0,p,a2,a3,a4,.slice A n cap,m],b]) rfl rfl (fun V i=>by have hl:=Qr.out V i.2.2;go_simp) ?_;try simp only[Act.put,zb,zc,zd];iterate 3 (refine .c rfl rfl (fun V i=>by go_simp<;>with_reducible rfl) ?_;simp only[Act.put,zb,zc,zd])
   refine .nil ?_;obtain⟨aR,aB,an,aI,aE,aK,aa⟩:=nI u.out;obtain⟨aA,ab,al,ad,au,ar,av⟩:=o6 u.out;refine GT.fx 10 (fun aS J=> ?_) rfl (by kernel_rfl);go_simp;obtain⟨d,k⟩:∃d,ON W (w.heap.size+1+1) (.int .u64 a0) p a2 a3 a4 (.slice A n cap) m=d:=⟨_,rfl⟩
   have G:af d (w.heap.size+1+1) 126 #[.int .u64 a0,p,a2,a3,a4,.slice A n cap,m]:=by rw[<-k];exact GW u.out _ _ _ _ _ _ _
   have j:ae [w.heap.size+1+1] W d:=by rw[<-k];exact oH W _ _ _ _ _ _ _ _
   have y:=z.out.only j (by simp);have C:Hid (w,d):=za (r.out.trans (j.below (by have:=r.out.size;omega) (by simp;omega)));have I:d.drew.heap[g]?=W.heap[g]?/\d.drew.heap[s]?=W.heap[s]?/\d.drew.heap[w.heap.size]?=W.heap[w.heap.size]?:=⟨j.block _ (by have:=r.out.size;omega) (by simp;omega),j.block _ (by have:=r.out.size;omega) (by simp;omega),j.block _ (by have:=X.out.lt;omega) (by simp;omega)⟩
   unfold ON at k;rw[k];refine J.out _ _ (F.out d.drew I) (fun hHeld=> ?_);clear J aS;try simp only[Act.put,zb,zc,zd]
   refine GT.oF 11 ?_ rfl (by kernel_rfl);go_simp;clear aR aB an aI aE aK aa aA ab al ad au ar av k I j;obtain⟨aq,aj,ax,ah,aC,ay,aO⟩:=nI G;obtain⟨aH,aG,Z,aN,ak,ao,aP⟩:=o6 G;obtain⟨L,K,E,D,N,O,H⟩:=nI y;obtain⟨aM,ag,aQ,aw,ai,az,aD⟩:=o6 y;go_wp2;obtain⟨r0,r1,r2,r3,r4,r5,r6⟩:=Da y (.int .u64 a0) p a2 a3 a4 (.slice A n cap) m;refine zj (v:= .tuple #[.agg #[.int .u64 a0,p,a2,a3,a4,.slice A n cap,m],b]) (by simp[results,YE,go_sem,r0,r1,r2,r3,r4,r5,r6]) rfl ?_;exact⟨(C.out.trans ((oH d (w.heap.size+1) _ _ _ _ _ _ _).below C.out.size (by simp))).drew,_,_,_,_,_,_,_,_,_,_,rfl,(by rw[x.out];exact vK.out)⟩
  have k3:((id:Int)==0)=false:=zl.2 (by omega);rw[zf Y]at x;clear h o Y;go_enter func102,ntmps102
  go_wp2_with fail
  rw[S.out];obtain⟨aq,aj,ax,ah,aC,ay,aO⟩:=nI u.out;obtain⟨aH,aG,Z,aN,ak,ao,aP⟩:=o6 u.out;obtain⟨L,K,E,D,N,O,H⟩:=nI z.out;obtain⟨aM,ag,aQ,aw,ai,az,aD⟩:=o6 z.out;go_wp2;refine zj (v:= .tuple #[Ec,false]) (by simp[Ec,results,YE,go_sem,L,K,E,D,N,O,H]) rfl ?_;exact⟨r.out,0,_,_,_,_,_,_,_,_,_,rfl,by rw[x.out];exact .inl ⟨rfl,rfl,rfl⟩⟩
 have k1:(c.fm==1)=false:=zl.2 o;have k2:(c.fm !=1)=true:=yL.2 o;rcases fZ nm with⟨hz,rfl⟩|⟨hz,k3,k4⟩
 ·have x:Hid (fU c (aJ l) ⟨id,⟨#[]⟩,body⟩=(aJ l).find? (fun e=>decide (e.id=id))):=za (by unfold fU;congr 1;funext e;exact Vn o ⟨id,⟨#[]⟩,body⟩ hz e);obtain⟨a0,p,a2,a3,a4,A,n,cap,m,b,M,R⟩:=Mo h id;have vK:=za M;have Qr:=za R;clear h M R o hz;have F:Hid (∀V:World,V.heap[g]?=W.heap[g]?/\V.heap[q]?=W.heap[q]?/\V.heap[w.heap.size]?=W.heap[w.heap.size]?->V.cell? ⟨g,7,none⟩=some (.map (some q))/\V.cell? ⟨w.heap.size,0,none⟩=some (.int .u64 id)/\jn V q (BK l)):=za (fun V i=>⟨af.cell (show af V g _ _ from i.1.trans U.out.blk) 7,af.cell (show af V w.heap.size _ _ from i.2.2.trans X.out) 0,U.out.ix.ah i.2.1⟩);go_enter func102,ntmps102
  go_wp2_with fail
  rw[S.out];refine aL 11 (fun V=>V.cell? ⟨g,7,none⟩=some (.map (some q))/\V.cell? ⟨w.heap.size,0,none⟩=some (.int .u64 id)/\jn V q (BK l)) (by kernel_rfl) (by kernel_rfl) ?_;have hHeld:=F.out W.drew ⟨rfl,rfl,rfl⟩;refine GT.iv [0,1,2,3,4,5,6,7,8,9] hHeld (fun _ _ _ _ _ h=>h) (by kernel_rfl) ?_;iterate 6 (refine .c rfl rfl (fun V i=>by go_simp<;>with_reducible rfl) ?_;simp only[Act.put,zb,zc,zd])
  refine .c (v:= .tuple #[.agg #[.int .u64 a0,p,a2,a3,a4,.slice A n cap,m],b]) rfl rfl (fun V i=>by have hl:=Qr.out V i.2.2;go_simp) ?_;try simp only[Act.put,zb,zc,zd];iterate 3 (refine .c rfl rfl (fun V i=>by go_simp<;>with_reducible rfl) ?_;simp only[Act.put,zb,zc,zd])
  refine .nil ?_;obtain⟨aR,aB,an,aI,aE,aK,aa⟩:=nI u.out;obtain⟨aA,ab,al,ad,au,ar,av⟩:=o6 u.out;refine GT.fx 10 (fun aS J=> ?_) rfl (by kernel_rfl);go_simp;obtain⟨d,k⟩:∃d,ON W (w.heap.size+1+1) (.int .u64 a0) p a2 a3 a4 (.slice A n cap) m=d:=⟨_,rfl⟩
  have G:af d (w.heap.size+1+1) 126 #[.int .u64 a0,p,a2,a3,a4,.slice A n cap,m]:=by rw[<-k];exact GW u.out _ _ _ _ _ _ _
  have j:ae [w.heap.size+1+1] W d:=by rw[<-k];exact oH W _ _ _ _ _ _ _ _
  have y:=z.out.only j (by simp);have C:Hid (w,d):=za (r.out.trans (j.below (by have:=r.out.size;omega) (by simp;omega)));have I:d.drew.heap[g]?=W.heap[g]?/\d.drew.heap[q]?=W.heap[q]?/\d.drew.heap[w.heap.size]?=W.heap[w.heap.size]?:=⟨j.block _ (by have:=r.out.size;omega) (by simp;omega),j.block _ (by have:=r.out.size;omega) (by simp;omega),j.block _ (by have:=X.out.lt;omega) (by simp;omega)⟩
  unfold ON at k;rw[k];refine J.out _ _ (F.out d.drew I) (fun hHeld=> ?_);clear J aS;try simp only[Act.put,zb,zc,zd]
  refine GT.oF 11 ?_ rfl (by kernel_rfl);go_simp;clear aR aB an aI aE aK aa aA ab al ad au ar av k I j;obtain⟨aq,aj,ax,ah,aC,ay,aO⟩:=nI G;obtain⟨aH,aG,Z,aN,ak,ao,aP⟩:=o6 G;obtain⟨L,K,E,D,N,O,H⟩:=nI y;obtain⟨aM,ag,aQ,aw,ai,az,aD⟩:=o6 y;go_wp2;obtain⟨r0,r1,r2,r3,r4,r5,r6⟩:=Da y (.int .u64 a0) p a2 a3 a4 (.slice A n cap) m;refine zj (v:= .tuple #[.agg #[.int .u64 a0,p,a2,a3,a4,.slice A n cap,m],b]) (by simp[results,YE,go_sem,r0,r1,r2,r3,r4,r5,r6]) rfl ?_;exact⟨(C.out.trans ((oH d (w.heap.size+1) _ _ _ _ _ _ _).below C.out.size (by simp))).drew,_,_,_,_,_,_,_,_,_,_,rfl,(by rw[x.out];exact vK.out)⟩
 have x:=za (JO o (aJ l) ⟨id,nm,body⟩ hz);clear h o hz;go_enter func102,ntmps102
 go_wp2_with fail
 rw[S.out];obtain⟨aq,aj,ax,ah,aC,ay,aO⟩:=nI u.out;obtain⟨aH,aG,Z,aN,ak,ao,aP⟩:=o6 u.out;obtain⟨L,K,E,D,N,O,H⟩:=nI z.out;obtain⟨aM,ag,aQ,aw,ai,az,aD⟩:=o6 z.out;go_wp2;refine zj (v:= .tuple #[Ec,false]) (by simp[Ec,results,YE,go_sem,L,K,E,D,N,O,H]) rfl ?_;exact⟨r.out,0,_,_,_,_,_,_,_,_,_,rfl,by rw[x.out];exact .inl ⟨rfl,rfl,rfl⟩⟩
