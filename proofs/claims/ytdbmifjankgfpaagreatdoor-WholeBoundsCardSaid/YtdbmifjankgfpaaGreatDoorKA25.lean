/- package registry: the row of a frame (of); Len, Config. -/
import Derived.Test.YtdbmifjankgfpaaGreatDoorKA9
import Derived.Test.YtdbmifjankgfpaaGreatDoorKA24
set_option linter.all false
set_option maxRecDepth 100000
set_option maxHeartbeats 3200000
open Go.Proofs.Tryz
namespace Go.Proofs.YtdbmifjankgfpaaGreatDoor
open Go.RowKit
variable {w:World}{g x hi:Nat}{t:TypeId}{l:List bZ}{z3 z4 z5 d e:Value}
theorem Vi.open_ {S:Nat->Prop}{r:bZ}(h:Vi w S r):∃A cap,r.2= .agg #[.int .u64 r.1.id,.string r.1.name,.string r.1.ty,.int .i64 r.1.shape.kind,.int .i64 r.1.shape.size,.slice A r.1.shape.sub.length cap,.int .i64 r.1.shape.tail]/\fK w S r.1.shape (.int .i64 r.1.shape.kind) (.int .i64 r.1.shape.size) (.slice A r.1.shape.sub.length cap) (.int .i64 r.1.shape.tail):=by
 obtain⟨c,d,b,i,e,h⟩:=h;obtain⟨A,cap,rfl,rfl,rfl,rfl,_⟩:=h.open_;exact⟨A,cap,e,h⟩
def Qw (l:List bZ)(o:Option bD)(a0:Nat)(a1 a2:ByteArray)(a3 a4:Int)(A:Option Addr)(n cap:Nat)(a6:Int)(b:Bool):Prop:=
 (o=none/\b=false/\Value.agg #[.int .u64 a0,.string a1,.string a2,.int .i64 a3,.int .i64 a4,.slice A n cap,.int .i64 a6]=C1)\/∃r∈l,o=some r.1/\b=true/\Value.agg #[.int .u64 a0,.string a1,.string a2,.int .i64 a3,.int .i64 a4,.slice A n cap,.int .i64 a6]=r.2
theorem Df {d u:Nat}{c:aI}(h:mr w x hi g d u c l)(nm:ByteArray):
 ∃m q k a3 a4 A n cap p b,Qw l (fN (aK l) nm) m q k a3 a4 A n cap p b/\∀V,jv V d (AH l)->(Instr.lookup 118 (.map (some d)) (.string nm) true).run prog V= .ok (.tuple #[.agg #[.int .u64 (m:Nat),.string q,.string k,.int .i64 a3,.int .i64 a4,.slice A n cap,.int .i64 p],.bool b]) V:=by
 rcases TO h.nm h.ok nm with⟨o,i⟩|⟨r,j,o,i,s⟩
 ·exact⟨0,⟨#[]⟩,⟨#[]⟩,0,0,none,0,0,0,false,.inl ⟨o,rfl,rfl⟩,i⟩
 obtain⟨A,cap,e,_⟩:=(h.rows r j).open_;rw[e]at s;exact⟨_,_,_,_,_,_,_,_,_,true,.inr ⟨r,j,i,rfl,e.symm⟩,s⟩
theorem KN {u i:Nat}{c:aI}(h:mr w x hi g u i c l)(id:Nat):
 ∃m q k a3 a4 A n cap p b,Qw l ((aK l).find? (fun e=>decide (e.id=id))) m q k a3 a4 A n cap p b/\∀V,jv V i (AI l)->(Instr.lookup 119 (.map (some i)) (.int .u64 id) true).run prog V= .ok (.tuple #[.agg #[.int .u64 (m:Nat),.string q,.string k,.int .i64 a3,.int .i64 a4,.slice A n cap,.int .i64 p],.bool b]) V:=by
 rcases TP h.ix h.ok id with⟨o,d⟩|⟨r,j,o,d,s⟩
 ·exact⟨0,⟨#[]⟩,⟨#[]⟩,0,0,none,0,0,0,false,.inl ⟨o,rfl,rfl⟩,d⟩
 obtain⟨A,cap,e,_⟩:=(h.rows r j).open_;rw[e]at s;exact⟨_,_,_,_,_,_,_,_,_,true,.inr ⟨r,j,d,rfl,e.symm⟩,s⟩
abbrev M8 (w:World)(g:Nat)(v0 v1 v2 v3 v4 v5 v6:Value):World:=((((((w.setCell ⟨g,0,none⟩ v0).setCell ⟨g,1,none⟩ v1).setCell ⟨g,2,none⟩ v2).setCell ⟨g,3,none⟩ v3).setCell ⟨g,4,none⟩ v4).setCell ⟨g,5,none⟩ v5).setCell ⟨g,6,none⟩ v6
theorem FE {n l j:Value}(h:af w g t #[n,l,j,z3,z4,z5,d])(b c e v3 v4 v5 k:Value):af (M8 w g b c e v3 v4 v5 k) g t #[b,c,e,v3,v4,v5,k]:=by
 have r:af _ g t #[b,l,j,z3,z4,z5,d]:=h.store (i:=0) (u:=b) rfl;have o:af _ g t #[b,c,j,z3,z4,z5,d]:=r.store (i:=1) (u:=c) rfl;have p:af _ g t #[b,c,e,z3,z4,z5,d]:=o.store (i:=2) (u:=e) rfl;have q:af _ g t #[b,c,e,v3,z4,z5,d]:=p.store (i:=3) (u:=v3) rfl;have s:af _ g t #[b,c,e,v3,v4,z5,d]:=q.store (i:=4) (u:=v4) rfl;have m:af _ g t #[b,c,e,v3,v4,v5,d]:=s.store (i:=5) (u:=v5) rfl;exact m.store (i:=6) (u:=k) rfl
theorem oe (w:World)(g:Nat)(d e b v3 v4 v5 c:Value):ae [g] w (M8 w g d e b v3 v4 v5 c):=(((((((ae.refl _ w).setCell (by simp) _).setCell (by simp) _).setCell (by simp) _).setCell (by simp) _).setCell (by simp) _).setCell (by simp) _).setCell (by simp) _
theorem Ci {x l k:Value}(h:af w g t #[x,l,k,z3,z4,z5,e])(b c d v3 v4 v5 j:Value):
 (w.setCell ⟨g,0,none⟩ b).cell? ⟨g,0,none⟩=some b/\((w.setCell ⟨g,0,none⟩ b).setCell ⟨g,1,none⟩ c).cell? ⟨g,1,none⟩=some c/\(((w.setCell ⟨g,0,none⟩ b).setCell ⟨g,1,none⟩ c).setCell ⟨g,2,none⟩ d).cell? ⟨g,2,none⟩=some d/\((((w.setCell ⟨g,0,none⟩ b).setCell ⟨g,1,none⟩ c).setCell ⟨g,2,none⟩ d).setCell ⟨g,3,none⟩ v3).cell? ⟨g,3,none⟩=some v3/\
 (((((w.setCell ⟨g,0,none⟩ b).setCell ⟨g,1,none⟩ c).setCell ⟨g,2,none⟩ d).setCell ⟨g,3,none⟩ v3).setCell ⟨g,4,none⟩ v4).cell? ⟨g,4,none⟩=some v4/\((((((w.setCell ⟨g,0,none⟩ b).setCell ⟨g,1,none⟩ c).setCell ⟨g,2,none⟩ d).setCell ⟨g,3,none⟩ v3).setCell ⟨g,4,none⟩ v4).setCell ⟨g,5,none⟩ v5).cell? ⟨g,5,none⟩=some v5/\(((((((w.setCell ⟨g,0,none⟩ b).setCell ⟨g,1,none⟩ c).setCell ⟨g,2,none⟩ d).setCell ⟨g,3,none⟩ v3).setCell ⟨g,4,none⟩ v4).setCell ⟨g,5,none⟩ v5).setCell ⟨g,6,none⟩ j).cell? ⟨g,6,none⟩=some j:=by
 have q:af _ g t #[b,l,k,z3,z4,z5,e]:=h.store (i:=0) (u:=b) rfl;have n:af _ g t #[b,c,k,z3,z4,z5,e]:=q.store (i:=1) (u:=c) rfl;have o:af _ g t #[b,c,d,z3,z4,z5,e]:=n.store (i:=2) (u:=d) rfl;have p:af _ g t #[b,c,d,v3,z4,z5,e]:=o.store (i:=3) (u:=v3) rfl;have r:af _ g t #[b,c,d,v3,v4,z5,e]:=p.store (i:=4) (u:=v4) rfl;have m:af _ g t #[b,c,d,v3,v4,v5,e]:=r.store (i:=5) (u:=v5) rfl;have s:af _ g t #[b,c,d,v3,v4,v5,j]:=m.store (i:=6) (u:=j) rfl;exact⟨q.cell 0,n.cell 1,o.cell 2,p.cell 3,r.cell 4,m.cell 5,s.cell 6⟩
theorem oP {b c a3 a4 a5:Value}(h:af w g t #[b,d,c,a3,a4,a5,e]):
 w.frozen? ⟨g,0,none⟩=false/\w.frozen? ⟨g,1,none⟩=false/\w.frozen? ⟨g,2,none⟩=false/\w.frozen? ⟨g,3,none⟩=false/\w.frozen? ⟨g,4,none⟩=false/\w.frozen? ⟨g,5,none⟩=false/\w.frozen? ⟨g,6,none⟩=false:=⟨h.frozen 0,h.frozen 1,h.frozen 2,h.frozen 3,h.frozen 4,h.frozen 5,h.frozen 6⟩
def abU (w:World)(c:aI)(l:List bZ)(f:Fr)(e:Ending)(w':World):Prop:=
 Below w.heap.size w w'/\∃a0 a1 a2 a3 a4 A n cap a6 b,e= .returned (.tuple #[.agg #[.int .u64 (a0:Nat),.string a1,.string a2,.int .i64 a3,.int .i64 a4,.slice A n cap,.int .i64 a6],.bool b])/\Qw l (gh c (aK l) f) a0 a1 a2 a3 a4 A n cap a6 b
theorem Xs (lo hi g s u:Nat)(c:aI)(l:List bZ)(f:Fr)(w:World)(h:mr w lo hi g s u c l):
 Calls prog 92 #[.pointer (some ⟨g,0,none⟩),.agg #[.int .u64 f.id,.string f.nm,.string f.body]] w fun e w'=>abU w c l f e w':=by
 obtain⟨id,nm,body⟩:=f;obtain⟨g0,g6,g7,_,_⟩:=h.cells;have tR:g<w.heap.size:=zU h.g2 h.his;have ay:s<w.heap.size:=h.nm.lt;have nQ:u<w.heap.size:=h.ix.lt;have aw:g<w.heap.size+1:=by omega
 have ax:g<w.heap.size+1+1:=by omega
 obtain⟨W,B⟩:∃W,((w.alloc (.cells #[.int .u64 id,.string nm,.string body] 84)).alloc (.cells #[.int .u64 0,.string ⟨#[]⟩,.string ⟨#[]⟩,.int .i64 0,.int .i64 0,.slice none 0 0,.int .i64 0] 116)).alloc (.cells #[.int .u64 0,.string ⟨#[]⟩,.string ⟨#[]⟩,.int .i64 0,.int .i64 0,.slice none 0 0,.int .i64 0] 116)=W:=⟨_,rfl⟩
 have oE:Below w.heap.size w W:=by rw[<-B];exact(((zm _ w).alloc (zg _) _).alloc (by simp) _).alloc (by simp;omega) _
 have Cw:af W w.heap.size 84 #[.int .u64 id,.string nm,.string body]:=by rw[<-B];exact((af.new w _ _).alloc _).alloc _
 have rk:af W (w.heap.size+1) 116 #[.int .u64 0,.string ⟨#[]⟩,.string ⟨#[]⟩,.int .i64 0,.int .i64 0,.slice none 0 0,.int .i64 0]:=by rw[<-B];exact af.alloc (af.at_ (by simp)) _
 have jY:af W (w.heap.size+1+1) 116 #[.int .u64 0,.string ⟨#[]⟩,.string ⟨#[]⟩,.int .i64 0,.int .i64 0,.slice none 0 0,.int .i64 0]:=by rw[<-B];exact af.at_ (by simp)
 have Y:=za (h.below (oE.mono h.his));have U:=za Cw;have z:=za rk;have q:=za jY;have r:=za oE;have S:=za B;clear B oE Cw rk jY;by_cases m:c.fm=1
 ·have k1:(c.fm==1)=true:=yS.2 m;have k2:(c.fm !=1)=false:=by simp[m]
  have x:=za (CW m (aK l) ⟨id,nm,body⟩);by_cases X:id=0
  ·have k3:((id:Int)==0)=true:=yS.2 (by omega);rw[zi X]at x;obtain⟨a0,p,a2,a3,a4,A,n,cap,o,b,J,I⟩:=Df h nm;have Cv:=za J;have sw:=za I;clear h J I m X;have E:Hid (∀V:World,V.heap[g]?=W.heap[g]?/\V.heap[s]?=W.heap[s]?/\V.heap[w.heap.size]?=W.heap[w.heap.size]?->V.cell? ⟨g,6,none⟩=some (.map (some s))/\V.cell? ⟨w.heap.size,1,none⟩=some (.string nm)/\jv V s (AH l)):=za (fun V i=>⟨af.cell (show af V g _ _ from i.1.trans Y.out.blk) 6,af.cell (show af V w.heap.size _ _ from i.2.2.trans U.out) 1,Y.out.nm.ag i.2.1⟩);go_enter func92,ntmps92
   go_wp2_with fail
   rw[S.out];refine aD 11 (fun V=>V.cell? ⟨g,6,none⟩=some (.map (some s))/\V.cell? ⟨w.heap.size,1,none⟩=some (.string nm)/\jv V s (AH l)) (by kernel_rfl) (by kernel_rfl) ?_;have hHeld:=E.out W.drew ⟨rfl,rfl,rfl⟩;refine GT.jV [0,1,2,3,4,5,6,7,8,9] hHeld (fun _ _ _ _ _ h=>h) (by kernel_rfl) ?_;iterate 6 (refine .c rfl rfl (fun V i=>by go_simp<;>with_reducible rfl) ?_;simp only[Act.put,zb,zd,ze])
   refine .c (v:= .tuple #[.agg #[.int .u64 a0,.string p,.string a2,.int .i64 a3,.int .i64 a4,.slice A n cap,.int .i64 o],.bool b]) rfl rfl (fun V i=>by have hl:=sw.out V i.2.2;go_simp) ?_;try simp only[Act.put,zb,zd,ze];iterate 3 (refine .c rfl rfl (fun V i=>by go_simp<;>with_reducible rfl) ?_;simp only[Act.put,zb,zd,ze])
   refine .nil ?_;obtain⟨ai,aj,ag,al,ab,au,ad⟩:=nz q.out;obtain⟨YO,Yy,YP,YM,YK,YB,YR⟩:=oP q.out;refine GT.fP 10 (fun ak G=> ?_) rfl (by kernel_rfl);go_simp;obtain⟨d,k⟩:∃d,M8 W (w.heap.size+1+1) (.int .u64 a0) (.string p) (.string a2) (.int .i64 a3) (.int .i64 a4) (.slice A n cap) (.int .i64 o)=d:=⟨_,rfl⟩
   have R:af d (w.heap.size+1+1) 116 #[.int .u64 a0,.string p,.string a2,.int .i64 a3,.int .i64 a4,.slice A n cap,.int .i64 o]:=by rw[<-k];exact FE q.out _ _ _ _ _ _ _
   have j:ae [w.heap.size+1+1] W d:=by rw[<-k];exact oe W _ _ _ _ _ _ _ _
   have y:=z.out.only j (by simp);have N:Hid (Below w.heap.size w d):=za (r.out.trans (j.below (by have:=r.out.size;omega) (by simp;omega)));have C:d.drew.heap[g]?=W.heap[g]?/\d.drew.heap[s]?=W.heap[s]?/\d.drew.heap[w.heap.size]?=W.heap[w.heap.size]?:=⟨j.block _ (by have:=r.out.size;omega) (by simp;omega),j.block _ (by have:=r.out.size;omega) (by simp;omega),j.block _ (by have:=U.out.lt;omega) (by simp;omega)⟩
   unfold M8 at k;rw[k];refine G.out _ _ (E.out d.drew C) (fun hHeld=> ?_);clear G ak;try simp only[Act.put,zb,zd,ze]
   refine GT.pt 11 ?_ rfl (by kernel_rfl);go_simp;clear ai aj ag al ab au ad YO Yy YP YM YK YB YR k C j;obtain⟨ar,an,av,ao,aq,ah,aa⟩:=nz R;obtain⟨YF,YI,YQ,YG,YC,YN,YJ⟩:=oP R;obtain⟨M,K,D,H,F,O,L⟩:=nz y;obtain⟨YA,YL,YD,Yx,Yz,YH,YE⟩:=oP y;go_wp2;obtain⟨r0,Z,r2,r3,r4,r5,r6⟩:=Ci y (.int .u64 a0) (.string p) (.string a2) (.int .i64 a3) (.int .i64 a4) (.slice A n cap) (.int .i64 o);refine zj (v:= .tuple #[.agg #[.int .u64 a0,.string p,.string a2,.int .i64 a3,.int .i64 a4,.slice A n cap,.int .i64 o],.bool b]) (by simp[results,results92,go_sem,r0,Z,r2,r3,r4,r5,r6]) rfl ?_;exact⟨(N.out.trans ((oe d (w.heap.size+1) _ _ _ _ _ _ _).below N.out.size (by simp))).drew,_,_,_,_,_,_,_,_,_,_,rfl,(by rw[x.out];exact Cv.out)⟩
  have k3:((id:Int)==0)=false:=zo.2 (by omega);rw[zh X]at x;clear h m X;go_enter func92,ntmps92
  go_wp2_with fail
  rw[S.out];obtain⟨ar,an,av,ao,aq,ah,aa⟩:=nz q.out;obtain⟨YF,YI,YQ,YG,YC,YN,YJ⟩:=oP q.out;obtain⟨M,K,D,H,F,O,L⟩:=nz z.out;obtain⟨YA,YL,YD,Yx,Yz,YH,YE⟩:=oP z.out;go_wp2;refine zj (v:= .tuple #[C1,.bool false]) (by simp[C1,results,results92,go_sem,M,K,D,H,F,O,L]) rfl ?_;exact⟨r.out,0,_,_,_,_,_,_,_,_,_,rfl,by rw[x.out];exact .inl ⟨rfl,rfl,rfl⟩⟩
 have k1:(c.fm==1)=false:=zo.2 m;have k2:(c.fm !=1)=true:=yz.2 m;rcases gq nm with⟨hz,rfl⟩|⟨hz,k3,k4⟩
 ·have x:Hid (gh c (aK l) ⟨id,⟨#[]⟩,body⟩=(aK l).find? (fun e=>decide (e.id=id))):=za (by unfold gh;congr 1;funext e;exact TE m ⟨id,⟨#[]⟩,body⟩ hz e);obtain⟨a0,p,a2,a3,a4,A,n,cap,o,b,J,I⟩:=KN h id;have Cv:=za J;have sw:=za I;clear h J I m hz;have E:Hid (∀V:World,V.heap[g]?=W.heap[g]?/\V.heap[u]?=W.heap[u]?/\V.heap[w.heap.size]?=W.heap[w.heap.size]?->V.cell? ⟨g,7,none⟩=some (.map (some u))/\V.cell? ⟨w.heap.size,0,none⟩=some (.int .u64 id)/\jv V u (AI l)):=za (fun V i=>⟨af.cell (show af V g _ _ from i.1.trans Y.out.blk) 7,af.cell (show af V w.heap.size _ _ from i.2.2.trans U.out) 0,Y.out.ix.ag i.2.1⟩);go_enter func92,ntmps92
  go_wp2_with fail
  rw[S.out];refine aD 11 (fun V=>V.cell? ⟨g,7,none⟩=some (.map (some u))/\V.cell? ⟨w.heap.size,0,none⟩=some (.int .u64 id)/\jv V u (AI l)) (by kernel_rfl) (by kernel_rfl) ?_;have hHeld:=E.out W.drew ⟨rfl,rfl,rfl⟩;refine GT.jV [0,1,2,3,4,5,6,7,8,9] hHeld (fun _ _ _ _ _ h=>h) (by kernel_rfl) ?_;iterate 6 (refine .c rfl rfl (fun V i=>by go_simp<;>with_reducible rfl) ?_;simp only[Act.put,zb,zd,ze])
  refine .c (v:= .tuple #[.agg #[.int .u64 a0,.string p,.string a2,.int .i64 a3,.int .i64 a4,.slice A n cap,.int .i64 o],.bool b]) rfl rfl (fun V i=>by have hl:=sw.out V i.2.2;go_simp) ?_;try simp only[Act.put,zb,zd,ze];iterate 3 (refine .c rfl rfl (fun V i=>by go_simp<;>with_reducible rfl) ?_;simp only[Act.put,zb,zd,ze])
  refine .nil ?_;obtain⟨ai,aj,ag,al,ab,au,ad⟩:=nz q.out;obtain⟨YO,Yy,YP,YM,YK,YB,YR⟩:=oP q.out;refine GT.fP 10 (fun ak G=> ?_) rfl (by kernel_rfl);go_simp;obtain⟨d,k⟩:∃d,M8 W (w.heap.size+1+1) (.int .u64 a0) (.string p) (.string a2) (.int .i64 a3) (.int .i64 a4) (.slice A n cap) (.int .i64 o)=d:=⟨_,rfl⟩
  have R:af d (w.heap.size+1+1) 116 #[.int .u64 a0,.string p,.string a2,.int .i64 a3,.int .i64 a4,.slice A n cap,.int .i64 o]:=by rw[<-k];exact FE q.out _ _ _ _ _ _ _
  have j:ae [w.heap.size+1+1] W d:=by rw[<-k];exact oe W _ _ _ _ _ _ _ _
  have y:=z.out.only j (by simp);have N:Hid (Below w.heap.size w d):=za (r.out.trans (j.below (by have:=r.out.size;omega) (by simp;omega)));have C:d.drew.heap[g]?=W.heap[g]?/\d.drew.heap[u]?=W.heap[u]?/\d.drew.heap[w.heap.size]?=W.heap[w.heap.size]?:=⟨j.block _ (by have:=r.out.size;omega) (by simp;omega),j.block _ (by have:=r.out.size;omega) (by simp;omega),j.block _ (by have:=U.out.lt;omega) (by simp;omega)⟩
  unfold M8 at k;rw[k];refine G.out _ _ (E.out d.drew C) (fun hHeld=> ?_);clear G ak;try simp only[Act.put,zb,zd,ze]
  refine GT.pt 11 ?_ rfl (by kernel_rfl);go_simp;clear ai aj ag al ab au ad YO Yy YP YM YK YB YR k C j;obtain⟨ar,an,av,ao,aq,ah,aa⟩:=nz R;obtain⟨YF,YI,YQ,YG,YC,YN,YJ⟩:=oP R;obtain⟨M,K,D,H,F,O,L⟩:=nz y;obtain⟨YA,YL,YD,Yx,Yz,YH,YE⟩:=oP y;go_wp2;obtain⟨r0,Z,r2,r3,r4,r5,r6⟩:=Ci y (.int .u64 a0) (.string p) (.string a2) (.int .i64 a3) (.int .i64 a4) (.slice A n cap) (.int .i64 o);refine zj (v:= .tuple #[.agg #[.int .u64 a0,.string p,.string a2,.int .i64 a3,.int .i64 a4,.slice A n cap,.int .i64 o],.bool b]) (by simp[results,results92,go_sem,r0,Z,r2,r3,r4,r5,r6]) rfl ?_;exact⟨(N.out.trans ((oe d (w.heap.size+1) _ _ _ _ _ _ _).below N.out.size (by simp))).drew,_,_,_,_,_,_,_,_,_,_,rfl,(by rw[x.out];exact Cv.out)⟩
 have x:=za (Ip m (aK l) ⟨id,nm,body⟩ hz);clear h m hz;go_enter func92,ntmps92
 go_wp2_with fail
 rw[S.out];obtain⟨ar,an,av,ao,aq,ah,aa⟩:=nz q.out;obtain⟨YF,YI,YQ,YG,YC,YN,YJ⟩:=oP q.out;obtain⟨M,K,D,H,F,O,L⟩:=nz z.out;obtain⟨YA,YL,YD,Yx,Yz,YH,YE⟩:=oP z.out;go_wp2;refine zj (v:= .tuple #[C1,.bool false]) (by simp[C1,results,results92,go_sem,M,K,D,H,F,O,L]) rfl ?_;exact⟨r.out,0,_,_,_,_,_,_,_,_,_,rfl,by rw[x.out];exact .inl ⟨rfl,rfl,rfl⟩⟩
