/- package registry: the row of a frame (of); Len, Config. -/
import Derived.Test.YtdbmifjankgfpaaGreatDoorKA8
import Derived.Test.YtdbmifjankgfpaaGreatDoorKA22
set_option linter.all false
set_option maxRecDepth 100000
set_option maxHeartbeats 3200000
open Go.Proofs.Tryz
namespace Go.Proofs.YtdbmifjankgfpaaGreatDoor
open Go.RowKit
variable {w:World}{g hi i x:Nat}{t:TypeId}{l:List cg}{z3 z4 z5 d e:Value}
theorem Vv.open_ {S:Nat->Prop}{r:cg}(h:Vv w S r):∃A cap,r.2= .agg #[.int .u64 r.1.id,.string r.1.name,.string r.1.ty,.int .i64 r.1.shape.kind,.int .i64 r.1.shape.size,.slice A r.1.shape.sub.length cap,.int .i64 r.1.shape.tail]/\fE w S r.1.shape (.int .i64 r.1.shape.kind) (.int .i64 r.1.shape.size) (.slice A r.1.shape.sub.length cap) (.int .i64 r.1.shape.tail):=by
 obtain⟨b,c,i,d,e,h⟩:=h;obtain⟨A,cap,rfl,rfl,rfl,rfl,_⟩:=h.open_;exact⟨A,cap,e,h⟩
def QK (l:List cg)(o:Option bz)(a0:Nat)(a1 a2:ByteArray)(a3 a4:Int)(A:Option Addr)(n cap:Nat)(a6:Int)(b:Bool):Prop:=
 (o=none/\b=false/\Value.agg #[.int .u64 a0,.string a1,.string a2,.int .i64 a3,.int .i64 a4,.slice A n cap,.int .i64 a6]=C5)\/∃r∈l,o=some r.1/\b=true/\Value.agg #[.int .u64 a0,.string a1,.string a2,.int .i64 a3,.int .i64 a4,.slice A n cap,.int .i64 a6]=r.2
theorem Dk {u:Nat}{c:aP}(h:mi w u hi g i x c l)(nm:ByteArray):
 ∃k q p a3 a4 A n cap m b,QK l (dw (aK l) nm) k q p a3 a4 A n cap m b/\∀V,jl V i (AJ l)->(Instr.lookup 118 (.map (some i)) (.string nm) true).run prog V= .ok (.tuple #[.agg #[.int .u64 (k:Nat),.string q,.string p,.int .i64 a3,.int .i64 a4,.slice A n cap,.int .i64 m],.bool b]) V:=by
 rcases TR h.nm h.ok nm with⟨j,d⟩|⟨r,o,j,d,s⟩
 ·exact⟨0,⟨#[]⟩,⟨#[]⟩,0,0,none,0,0,0,false,.inl ⟨j,rfl,rfl⟩,d⟩
 obtain⟨A,cap,e,_⟩:=(h.rows r o).open_;rw[e]at s;exact⟨_,_,_,_,_,_,_,_,_,true,.inr ⟨r,o,d,rfl,e.symm⟩,s⟩
theorem La {u:Nat}{c:aP}(h:mi w u hi g x i c l)(id:Nat):
 ∃k q p a3 a4 A n cap m b,QK l ((aK l).find? (fun e=>decide (e.id=id))) k q p a3 a4 A n cap m b/\∀V,jl V i (AK l)->(Instr.lookup 119 (.map (some i)) (.int .u64 id) true).run prog V= .ok (.tuple #[.agg #[.int .u64 (k:Nat),.string q,.string p,.int .i64 a3,.int .i64 a4,.slice A n cap,.int .i64 m],.bool b]) V:=by
 rcases TS h.ix h.ok id with⟨j,d⟩|⟨r,o,j,d,s⟩
 ·exact⟨0,⟨#[]⟩,⟨#[]⟩,0,0,none,0,0,0,false,.inl ⟨j,rfl,rfl⟩,d⟩
 obtain⟨A,cap,e,_⟩:=(h.rows r o).open_;rw[e]at s;exact⟨_,_,_,_,_,_,_,_,_,true,.inr ⟨r,o,d,rfl,e.symm⟩,s⟩
abbrev Nv (w:World)(g:Nat)(v0 v1 v2 v3 v4 v5 v6:Value):World:=((((((w.setCell ⟨g,0,none⟩ v0).setCell ⟨g,1,none⟩ v1).setCell ⟨g,2,none⟩ v2).setCell ⟨g,3,none⟩ v3).setCell ⟨g,4,none⟩ v4).setCell ⟨g,5,none⟩ v5).setCell ⟨g,6,none⟩ v6
theorem FZ {r l j:Value}(h:af w g t #[r,l,j,z3,z4,z5,d])(b c e v3 v4 v5 k:Value):af (Nv w g b c e v3 v4 v5 k) g t #[b,c,e,v3,v4,v5,k]:=by
 have q:af _ g t #[b,l,j,z3,z4,z5,d]:=h.store (i:=0) (u:=b) rfl;have p:af _ g t #[b,c,j,z3,z4,z5,d]:=q.store (i:=1) (u:=c) rfl;have s:af _ g t #[b,c,e,z3,z4,z5,d]:=p.store (i:=2) (u:=e) rfl;have m:af _ g t #[b,c,e,v3,z4,z5,d]:=s.store (i:=3) (u:=v3) rfl;have n:af _ g t #[b,c,e,v3,v4,z5,d]:=m.store (i:=4) (u:=v4) rfl;have o:af _ g t #[b,c,e,v3,v4,v5,d]:=n.store (i:=5) (u:=v5) rfl;exact o.store (i:=6) (u:=k) rfl
theorem oc (w:World)(g:Nat)(d b e v3 v4 v5 c:Value):ae [g] w (Nv w g d b e v3 v4 v5 c):=(((((((ae.refl _ w).setCell (by simp) _).setCell (by simp) _).setCell (by simp) _).setCell (by simp) _).setCell (by simp) _).setCell (by simp) _).setCell (by simp) _
theorem Cf {x q k:Value}(h:af w g t #[x,q,k,z3,z4,z5,e])(b c d v3 v4 v5 j:Value):
 (w.setCell ⟨g,0,none⟩ b).cell? ⟨g,0,none⟩=some b/\((w.setCell ⟨g,0,none⟩ b).setCell ⟨g,1,none⟩ c).cell? ⟨g,1,none⟩=some c/\(((w.setCell ⟨g,0,none⟩ b).setCell ⟨g,1,none⟩ c).setCell ⟨g,2,none⟩ d).cell? ⟨g,2,none⟩=some d/\((((w.setCell ⟨g,0,none⟩ b).setCell ⟨g,1,none⟩ c).setCell ⟨g,2,none⟩ d).setCell ⟨g,3,none⟩ v3).cell? ⟨g,3,none⟩=some v3/\
 (((((w.setCell ⟨g,0,none⟩ b).setCell ⟨g,1,none⟩ c).setCell ⟨g,2,none⟩ d).setCell ⟨g,3,none⟩ v3).setCell ⟨g,4,none⟩ v4).cell? ⟨g,4,none⟩=some v4/\((((((w.setCell ⟨g,0,none⟩ b).setCell ⟨g,1,none⟩ c).setCell ⟨g,2,none⟩ d).setCell ⟨g,3,none⟩ v3).setCell ⟨g,4,none⟩ v4).setCell ⟨g,5,none⟩ v5).cell? ⟨g,5,none⟩=some v5/\(((((((w.setCell ⟨g,0,none⟩ b).setCell ⟨g,1,none⟩ c).setCell ⟨g,2,none⟩ d).setCell ⟨g,3,none⟩ v3).setCell ⟨g,4,none⟩ v4).setCell ⟨g,5,none⟩ v5).setCell ⟨g,6,none⟩ j).cell? ⟨g,6,none⟩=some j:=by
 have p:af _ g t #[b,q,k,z3,z4,z5,e]:=h.store (i:=0) (u:=b) rfl;have o:af _ g t #[b,c,k,z3,z4,z5,e]:=p.store (i:=1) (u:=c) rfl;have r:af _ g t #[b,c,d,z3,z4,z5,e]:=o.store (i:=2) (u:=d) rfl;have l:af _ g t #[b,c,d,v3,z4,z5,e]:=r.store (i:=3) (u:=v3) rfl;have m:af _ g t #[b,c,d,v3,v4,z5,e]:=l.store (i:=4) (u:=v4) rfl;have n:af _ g t #[b,c,d,v3,v4,v5,e]:=m.store (i:=5) (u:=v5) rfl;have s:af _ g t #[b,c,d,v3,v4,v5,j]:=n.store (i:=6) (u:=j) rfl;exact⟨p.cell 0,o.cell 1,r.cell 2,l.cell 3,m.cell 4,n.cell 5,s.cell 6⟩
theorem oM {c a3 a4 a5 b:Value}(h:af w g t #[d,c,e,a3,a4,a5,b]):
 w.frozen? ⟨g,0,none⟩=false/\w.frozen? ⟨g,1,none⟩=false/\w.frozen? ⟨g,2,none⟩=false/\w.frozen? ⟨g,3,none⟩=false/\w.frozen? ⟨g,4,none⟩=false/\w.frozen? ⟨g,5,none⟩=false/\w.frozen? ⟨g,6,none⟩=false:=⟨h.frozen 0,h.frozen 1,h.frozen 2,h.frozen 3,h.frozen 4,h.frozen 5,h.frozen 6⟩
def ack (w:World)(c:aP)(l:List cg)(f:Fr)(e:Ending)(w':World):Prop:=
 Below w.heap.size w w'/\∃a0 a1 a2 a3 a4 A n cap a6 b,e= .returned (.tuple #[.agg #[.int .u64 (a0:Nat),.string a1,.string a2,.int .i64 a3,.int .i64 a4,.slice A n cap,.int .i64 a6],.bool b])/\QK l (fS c (aK l) f) a0 a1 a2 a3 a4 A n cap a6 b
theorem XH (lo hi g s u:Nat)(c:aP)(l:List cg)(f:Fr)(w:World)(h:mi w lo hi g s u c l):
 Calls prog 92 #[.pointer (some ⟨g,0,none⟩),.agg #[.int .u64 f.id,.string f.nm,.string f.body]] w fun e w'=>ack w c l f e w':=by
 obtain⟨id,nm,body⟩:=f;obtain⟨g0,g6,g7,_,_⟩:=h.cells;have Aq:g<w.heap.size:=zU h.g2 h.his;have aG:s<w.heap.size:=h.nm.lt;have iU:u<w.heap.size:=h.ix.lt;have aF:g<w.heap.size+1:=by omega
 have aH:g<w.heap.size+1+1:=by omega
 obtain⟨W,z⟩:∃W,((w.alloc (.cells #[.int .u64 id,.string nm,.string body] 84)).alloc (.cells #[.int .u64 0,.string ⟨#[]⟩,.string ⟨#[]⟩,.int .i64 0,.int .i64 0,.slice none 0 0,.int .i64 0] 116)).alloc (.cells #[.int .u64 0,.string ⟨#[]⟩,.string ⟨#[]⟩,.int .i64 0,.int .i64 0,.slice none 0 0,.int .i64 0] 116)=W:=⟨_,rfl⟩
 have oB:Below w.heap.size w W:=by rw[<-z];exact(((zl _ w).alloc (zg _) _).alloc (by simp) _).alloc (by simp;omega) _
 have Ct:af W w.heap.size 84 #[.int .u64 id,.string nm,.string body]:=by rw[<-z];exact((af.new w _ _).alloc _).alloc _
 have oh:af W (w.heap.size+1) 116 #[.int .u64 0,.string ⟨#[]⟩,.string ⟨#[]⟩,.int .i64 0,.int .i64 0,.slice none 0 0,.int .i64 0]:=by rw[<-z];exact af.alloc (af.at_ (by simp)) _
 have kC:af W (w.heap.size+1+1) 116 #[.int .u64 0,.string ⟨#[]⟩,.string ⟨#[]⟩,.int .i64 0,.int .i64 0,.slice none 0 0,.int .i64 0]:=by rw[<-z];exact af.at_ (by simp)
 have X:=za (h.below (oB.mono h.his));have S:=za Ct;have B:=za oh;have r:=za kC;have q:=za oB;have U:=za z;clear z oB Ct oh kC;by_cases m:c.fm=1
 ·have k1:(c.fm==1)=true:=yQ.2 m;have k2:(c.fm !=1)=false:=by simp[m]
  have x:=za (CW m (aK l) ⟨id,nm,body⟩);by_cases Y:id=0
  ·have k3:((id:Int)==0)=true:=yQ.2 (by omega);rw[zi Y]at x;obtain⟨a0,o,a2,a3,a4,A,n,cap,p,b,H,E⟩:=Dk h nm;have Cu:=za H;have sr:=za E;clear h H E m Y;have M:Hid (∀V:World,V.heap[g]?=W.heap[g]?/\V.heap[s]?=W.heap[s]?/\V.heap[w.heap.size]?=W.heap[w.heap.size]?->V.cell? ⟨g,6,none⟩=some (.map (some s))/\V.cell? ⟨w.heap.size,1,none⟩=some (.string nm)/\jl V s (AJ l)):=za (fun V i=>⟨af.cell (show af V g _ _ from i.1.trans X.out.blk) 6,af.cell (show af V w.heap.size _ _ from i.2.2.trans S.out) 1,X.out.nm.ag i.2.1⟩);go_enter func92,ntmps92
   go_wp2_with fail
   rw[U.out];refine aB 11 (fun V=>V.cell? ⟨g,6,none⟩=some (.map (some s))/\V.cell? ⟨w.heap.size,1,none⟩=some (.string nm)/\jl V s (AJ l)) (by kernel_rfl) (by kernel_rfl) ?_;have hHeld:=M.out W.drew ⟨rfl,rfl,rfl⟩;refine GT.jr [0,1,2,3,4,5,6,7,8,9] hHeld (fun _ _ _ _ _ h=>h) (by kernel_rfl) ?_;iterate 6 (refine .c rfl rfl (fun V i=>by go_simp<;>with_reducible rfl) ?_;simp only[Act.put,zb,zd,ze])
   refine .c (v:= .tuple #[.agg #[.int .u64 a0,.string o,.string a2,.int .i64 a3,.int .i64 a4,.slice A n cap,.int .i64 p],.bool b]) rfl rfl (fun V i=>by have hl:=sr.out V i.2.2;go_simp) ?_;try simp only[Act.put,zb,zd,ze];iterate 3 (refine .c rfl rfl (fun V i=>by go_simp<;>with_reducible rfl) ?_;simp only[Act.put,zb,zd,ze])
   refine .nil ?_;obtain⟨al,ad,aa,aE,aA,av,aC⟩:=nB r.out;obtain⟨Y9,au,Z,aD,aj,Y',Y3⟩:=oM r.out;refine GT.fF 10 (fun az F=> ?_) rfl (by kernel_rfl);go_simp;obtain⟨d,k⟩:∃d,Nv W (w.heap.size+1+1) (.int .u64 a0) (.string o) (.string a2) (.int .i64 a3) (.int .i64 a4) (.slice A n cap) (.int .i64 p)=d:=⟨_,rfl⟩
   have L:af d (w.heap.size+1+1) 116 #[.int .u64 a0,.string o,.string a2,.int .i64 a3,.int .i64 a4,.slice A n cap,.int .i64 p]:=by rw[<-k];exact FZ r.out _ _ _ _ _ _ _
   have j:ae [w.heap.size+1+1] W d:=by rw[<-k];exact oc W _ _ _ _ _ _ _ _
   have y:=B.out.only j (by simp);have R:Hid (Below w.heap.size w d):=za (q.out.trans (j.below (by have:=q.out.size;omega) (by simp;omega)));have K:d.drew.heap[g]?=W.heap[g]?/\d.drew.heap[s]?=W.heap[s]?/\d.drew.heap[w.heap.size]?=W.heap[w.heap.size]?:=⟨j.block _ (by have:=q.out.size;omega) (by simp;omega),j.block _ (by have:=q.out.size;omega) (by simp;omega),j.block _ (by have:=S.out.lt;omega) (by simp;omega)⟩
   unfold Nv at k;rw[k];refine F.out _ _ (M.out d.drew K) (fun hHeld=> ?_);clear F az;try simp only[Act.put,zb,zd,ze]
   refine GT.oL 11 ?_ rfl (by kernel_rfl);go_simp;clear al ad aa aE aA av aC Y9 au Z aD aj Y' Y3 k K j;obtain⟨aw,ai,ag,ay,ah,aq,ak⟩:=nB L;obtain⟨ax,Z',Y6,Y7,an,ar,ab⟩:=oM L;obtain⟨D,C,G,J,N,O,I⟩:=nB y;obtain⟨Y0,Y1,Y4,Y2,YZ,ao,Y8⟩:=oM y;go_wp2;obtain⟨r0,r1,r2,r3,r4,r5,r6⟩:=Cf y (.int .u64 a0) (.string o) (.string a2) (.int .i64 a3) (.int .i64 a4) (.slice A n cap) (.int .i64 p);refine zk (v:= .tuple #[.agg #[.int .u64 a0,.string o,.string a2,.int .i64 a3,.int .i64 a4,.slice A n cap,.int .i64 p],.bool b]) (by simp[results,results92,go_sem,r0,r1,r2,r3,r4,r5,r6]) rfl ?_;exact⟨(R.out.trans ((oc d (w.heap.size+1) _ _ _ _ _ _ _).below R.out.size (by simp))).drew,_,_,_,_,_,_,_,_,_,_,rfl,(by rw[x.out];exact Cu.out)⟩
  have k3:((id:Int)==0)=false:=zm.2 (by omega);rw[zh Y]at x;clear h m Y;go_enter func92,ntmps92
  go_wp2_with fail
  rw[U.out];obtain⟨aw,ai,ag,ay,ah,aq,ak⟩:=nB r.out;obtain⟨ax,Z',Y6,Y7,an,ar,ab⟩:=oM r.out;obtain⟨D,C,G,J,N,O,I⟩:=nB B.out;obtain⟨Y0,Y1,Y4,Y2,YZ,ao,Y8⟩:=oM B.out;go_wp2;refine zk (v:= .tuple #[C5,.bool false]) (by simp[C5,results,results92,go_sem,D,C,G,J,N,O,I]) rfl ?_;exact⟨q.out,0,_,_,_,_,_,_,_,_,_,rfl,by rw[x.out];exact .inl ⟨rfl,rfl,rfl⟩⟩
 have k1:(c.fm==1)=false:=zm.2 m;have k2:(c.fm !=1)=true:=yO.2 m;rcases eu nm with⟨hz,rfl⟩|⟨hz,k3,k4⟩
 ·have x:Hid (fS c (aK l) ⟨id,⟨#[]⟩,body⟩=(aK l).find? (fun e=>decide (e.id=id))):=za (by unfold fS;congr 1;funext e;exact TM m ⟨id,⟨#[]⟩,body⟩ hz e);obtain⟨a0,o,a2,a3,a4,A,n,cap,p,b,H,E⟩:=La h id;have Cu:=za H;have sr:=za E;clear h H E m hz;have M:Hid (∀V:World,V.heap[g]?=W.heap[g]?/\V.heap[u]?=W.heap[u]?/\V.heap[w.heap.size]?=W.heap[w.heap.size]?->V.cell? ⟨g,7,none⟩=some (.map (some u))/\V.cell? ⟨w.heap.size,0,none⟩=some (.int .u64 id)/\jl V u (AK l)):=za (fun V i=>⟨af.cell (show af V g _ _ from i.1.trans X.out.blk) 7,af.cell (show af V w.heap.size _ _ from i.2.2.trans S.out) 0,X.out.ix.ag i.2.1⟩);go_enter func92,ntmps92
  go_wp2_with fail
  rw[U.out];refine aB 11 (fun V=>V.cell? ⟨g,7,none⟩=some (.map (some u))/\V.cell? ⟨w.heap.size,0,none⟩=some (.int .u64 id)/\jl V u (AK l)) (by kernel_rfl) (by kernel_rfl) ?_;have hHeld:=M.out W.drew ⟨rfl,rfl,rfl⟩;refine GT.jr [0,1,2,3,4,5,6,7,8,9] hHeld (fun _ _ _ _ _ h=>h) (by kernel_rfl) ?_;iterate 6 (refine .c rfl rfl (fun V i=>by go_simp<;>with_reducible rfl) ?_;simp only[Act.put,zb,zd,ze])
  refine .c (v:= .tuple #[.agg #[.int .u64 a0,.string o,.string a2,.int .i64 a3,.int .i64 a4,.slice A n cap,.int .i64 p],.bool b]) rfl rfl (fun V i=>by have hl:=sr.out V i.2.2;go_simp) ?_;try simp only[Act.put,zb,zd,ze];iterate 3 (refine .c rfl rfl (fun V i=>by go_simp<;>with_reducible rfl) ?_;simp only[Act.put,zb,zd,ze])
  refine .nil ?_;obtain⟨al,ad,aa,aE,aA,av,aC⟩:=nB r.out;obtain⟨Y9,au,Z,aD,aj,Y',Y3⟩:=oM r.out;refine GT.fF 10 (fun az F=> ?_) rfl (by kernel_rfl);go_simp;obtain⟨d,k⟩:∃d,Nv W (w.heap.size+1+1) (.int .u64 a0) (.string o) (.string a2) (.int .i64 a3) (.int .i64 a4) (.slice A n cap) (.int .i64 p)=d:=⟨_,rfl⟩
  have L:af d (w.heap.size+1+1) 116 #[.int .u64 a0,.string o,.string a2,.int .i64 a3,.int .i64 a4,.slice A n cap,.int .i64 p]:=by rw[<-k];exact FZ r.out _ _ _ _ _ _ _
  have j:ae [w.heap.size+1+1] W d:=by rw[<-k];exact oc W _ _ _ _ _ _ _ _
  have y:=B.out.only j (by simp);have R:Hid (Below w.heap.size w d):=za (q.out.trans (j.below (by have:=q.out.size;omega) (by simp;omega)));have K:d.drew.heap[g]?=W.heap[g]?/\d.drew.heap[u]?=W.heap[u]?/\d.drew.heap[w.heap.size]?=W.heap[w.heap.size]?:=⟨j.block _ (by have:=q.out.size;omega) (by simp;omega),j.block _ (by have:=q.out.size;omega) (by simp;omega),j.block _ (by have:=S.out.lt;omega) (by simp;omega)⟩
  unfold Nv at k;rw[k];refine F.out _ _ (M.out d.drew K) (fun hHeld=> ?_);clear F az;try simp only[Act.put,zb,zd,ze]
  refine GT.oL 11 ?_ rfl (by kernel_rfl);go_simp;clear al ad aa aE aA av aC Y9 au Z aD aj Y' Y3 k K j;obtain⟨aw,ai,ag,ay,ah,aq,ak⟩:=nB L;obtain⟨ax,Z',Y6,Y7,an,ar,ab⟩:=oM L;obtain⟨D,C,G,J,N,O,I⟩:=nB y;obtain⟨Y0,Y1,Y4,Y2,YZ,ao,Y8⟩:=oM y;go_wp2;obtain⟨r0,r1,r2,r3,r4,r5,r6⟩:=Cf y (.int .u64 a0) (.string o) (.string a2) (.int .i64 a3) (.int .i64 a4) (.slice A n cap) (.int .i64 p);refine zk (v:= .tuple #[.agg #[.int .u64 a0,.string o,.string a2,.int .i64 a3,.int .i64 a4,.slice A n cap,.int .i64 p],.bool b]) (by simp[results,results92,go_sem,r0,r1,r2,r3,r4,r5,r6]) rfl ?_;exact⟨(R.out.trans ((oc d (w.heap.size+1) _ _ _ _ _ _ _).below R.out.size (by simp))).drew,_,_,_,_,_,_,_,_,_,_,rfl,(by rw[x.out];exact Cu.out)⟩
 have x:=za (IC m (aK l) ⟨id,nm,body⟩ hz);clear h m hz;go_enter func92,ntmps92
 go_wp2_with fail
 rw[U.out];obtain⟨aw,ai,ag,ay,ah,aq,ak⟩:=nB r.out;obtain⟨ax,Z',Y6,Y7,an,ar,ab⟩:=oM r.out;obtain⟨D,C,G,J,N,O,I⟩:=nB B.out;obtain⟨Y0,Y1,Y4,Y2,YZ,ao,Y8⟩:=oM B.out;go_wp2;refine zk (v:= .tuple #[C5,.bool false]) (by simp[C5,results,results92,go_sem,D,C,G,J,N,O,I]) rfl ?_;exact⟨q.out,0,_,_,_,_,_,_,_,_,_,rfl,by rw[x.out];exact .inl ⟨rfl,rfl,rfl⟩⟩
