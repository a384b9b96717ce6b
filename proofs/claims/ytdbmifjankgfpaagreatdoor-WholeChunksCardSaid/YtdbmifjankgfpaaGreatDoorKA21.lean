/- package registry: the row of a frame (of); Len, Config. -/
import Derived.Test.YtdbmifjankgfpaaGreatDoorKA7
import Derived.Test.YtdbmifjankgfpaaGreatDoorKA20
set_option linter.all false
set_option maxRecDepth 100000
set_option maxHeartbeats 3200000
open Go.Proofs.Tryz
namespace Go.Proofs.YtdbmifjankgfpaaGreatDoor
open Go.RowKit
theorem Vt.open_ {w:World}{S:Nat->Prop}{r:bZ}(h:Vt w S r):∃A cap,r.2= .agg #[.int .u64 r.1.id,.string r.1.name,.string r.1.ty,.int .i64 r.1.shape.kind,.int .i64 r.1.shape.size,.slice A r.1.shape.sub.length cap,.int .i64 r.1.shape.tail]/\fD w S r.1.shape (.int .i64 r.1.shape.kind) (.int .i64 r.1.shape.size) (.slice A r.1.shape.sub.length cap) (.int .i64 r.1.shape.tail):=by
 obtain⟨c,b,d,i,e,h⟩:=h;obtain⟨A,cap,rfl,rfl,rfl,rfl,_⟩:=h.open_;exact⟨A,cap,e,h⟩
def Qu (l:List bZ)(o:Option bC)(a0:Nat)(a1 a2:ByteArray)(a3 a4:Int)(A:Option Addr)(n cap:Nat)(a6:Int)(b:Bool):Prop:=
 (o=none/\b=false/\Value.agg #[.int .u64 a0,.string a1,.string a2,.int .i64 a3,.int .i64 a4,.slice A n cap,.int .i64 a6]=Dj)\/∃r∈l,o=some r.1/\b=true/\Value.agg #[.int .u64 a0,.string a1,.string a2,.int .i64 a3,.int .i64 a4,.slice A n cap,.int .i64 a6]=r.2
theorem Dy {w:World}{lo hi g d u:Nat}{c:aN}{l:List bZ}(h:mw w lo hi g d u c l)(nm:ByteArray):
 ∃k m o a3 a4 A n cap p b,Qu l (fG (aI l) nm) k m o a3 a4 A n cap p b/\∀V,jw V d (AW l)->(Instr.lookup 118 (.map (some d)) (.string nm) true).run prog V= .ok (.tuple #[.agg #[.int .u64 (k:Nat),.string m,.string o,.int .i64 a3,.int .i64 a4,.slice A n cap,.int .i64 p],.bool b]) V:=by
 rcases TR h.nm h.ok nm with⟨q,i⟩|⟨r,j,q,i,s⟩
 ·exact⟨0,⟨#[]⟩,⟨#[]⟩,0,0,none,0,0,0,false,.inl ⟨q,rfl,rfl⟩,i⟩
 obtain⟨A,cap,e,_⟩:=(h.rows r j).open_;rw[e]at s;exact⟨_,_,_,_,_,_,_,_,_,true,.inr ⟨r,j,i,rfl,e.symm⟩,s⟩
theorem KV {w:World}{lo hi g u i:Nat}{c:aN}{l:List bZ}(h:mw w lo hi g u i c l)(id:Nat):
 ∃k m o a3 a4 A n cap p b,Qu l ((aI l).find? (fun e=>decide (e.id=id))) k m o a3 a4 A n cap p b/\∀V,jw V i (AX l)->(Instr.lookup 119 (.map (some i)) (.int .u64 id) true).run prog V= .ok (.tuple #[.agg #[.int .u64 (k:Nat),.string m,.string o,.int .i64 a3,.int .i64 a4,.slice A n cap,.int .i64 p],.bool b]) V:=by
 rcases TS h.ix h.ok id with⟨q,d⟩|⟨r,j,q,d,s⟩
 ·exact⟨0,⟨#[]⟩,⟨#[]⟩,0,0,none,0,0,0,false,.inl ⟨q,rfl,rfl⟩,d⟩
 obtain⟨A,cap,e,_⟩:=(h.rows r j).open_;rw[e]at s;exact⟨_,_,_,_,_,_,_,_,_,true,.inr ⟨r,j,d,rfl,e.symm⟩,s⟩
abbrev Nf (w:World)(g:Nat)(v0 v1 v2 v3 v4 v5 v6:Value):World:=((((((w.setCell ⟨g,0,none⟩ v0).setCell ⟨g,1,none⟩ v1).setCell ⟨g,2,none⟩ v2).setCell ⟨g,3,none⟩ v3).setCell ⟨g,4,none⟩ v4).setCell ⟨g,5,none⟩ v5).setCell ⟨g,6,none⟩ v6
theorem F2 {w:World}{g:Nat}{t:TypeId}{n l j z3 z4 z5 d:Value}(h:af w g t #[n,l,j,z3,z4,z5,d])(b c e v3 v4 v5 k:Value):af (Nf w g b c e v3 v4 v5 k) g t #[b,c,e,v3,v4,v5,k]:=by
 have o:af _ g t #[b,l,j,z3,z4,z5,d]:=h.store (i:=0) (u:=b) rfl;have q:af _ g t #[b,c,j,z3,z4,z5,d]:=o.store (i:=1) (u:=c) rfl;have p:af _ g t #[b,c,e,z3,z4,z5,d]:=q.store (i:=2) (u:=e) rfl;have s:af _ g t #[b,c,e,v3,z4,z5,d]:=p.store (i:=3) (u:=v3) rfl;have r:af _ g t #[b,c,e,v3,v4,z5,d]:=s.store (i:=4) (u:=v4) rfl;have m:af _ g t #[b,c,e,v3,v4,v5,d]:=r.store (i:=5) (u:=v5) rfl;exact m.store (i:=6) (u:=k) rfl
theorem oz (w:World)(g:Nat)(e d b v3 v4 v5 c:Value):ae [g] w (Nf w g e d b v3 v4 v5 c):=(((((((ae.refl _ w).setCell (by simp) _).setCell (by simp) _).setCell (by simp) _).setCell (by simp) _).setCell (by simp) _).setCell (by simp) _).setCell (by simp) _
theorem Ct {w:World}{g:Nat}{t:TypeId}{x m k z3 z4 z5 e:Value}(h:af w g t #[x,m,k,z3,z4,z5,e])(b c d v3 v4 v5 j:Value):
 (w.setCell ⟨g,0,none⟩ b).cell? ⟨g,0,none⟩=some b/\((w.setCell ⟨g,0,none⟩ b).setCell ⟨g,1,none⟩ c).cell? ⟨g,1,none⟩=some c/\(((w.setCell ⟨g,0,none⟩ b).setCell ⟨g,1,none⟩ c).setCell ⟨g,2,none⟩ d).cell? ⟨g,2,none⟩=some d/\((((w.setCell ⟨g,0,none⟩ b).setCell ⟨g,1,none⟩ c).setCell ⟨g,2,none⟩ d).setCell ⟨g,3,none⟩ v3).cell? ⟨g,3,none⟩=some v3/\
 (((((w.setCell ⟨g,0,none⟩ b).setCell ⟨g,1,none⟩ c).setCell ⟨g,2,none⟩ d).setCell ⟨g,3,none⟩ v3).setCell ⟨g,4,none⟩ v4).cell? ⟨g,4,none⟩=some v4/\((((((w.setCell ⟨g,0,none⟩ b).setCell ⟨g,1,none⟩ c).setCell ⟨g,2,none⟩ d).setCell ⟨g,3,none⟩ v3).setCell ⟨g,4,none⟩ v4).setCell ⟨g,5,none⟩ v5).cell? ⟨g,5,none⟩=some v5/\(((((((w.setCell ⟨g,0,none⟩ b).setCell ⟨g,1,none⟩ c).setCell ⟨g,2,none⟩ d).setCell ⟨g,3,none⟩ v3).setCell ⟨g,4,none⟩ v4).setCell ⟨g,5,none⟩ v5).setCell ⟨g,6,none⟩ j).cell? ⟨g,6,none⟩=some j:=by
 have n:af _ g t #[b,m,k,z3,z4,z5,e]:=h.store (i:=0) (u:=b) rfl;have p:af _ g t #[b,c,k,z3,z4,z5,e]:=n.store (i:=1) (u:=c) rfl;have o:af _ g t #[b,c,d,z3,z4,z5,e]:=p.store (i:=2) (u:=d) rfl;have r:af _ g t #[b,c,d,v3,z4,z5,e]:=o.store (i:=3) (u:=v3) rfl;have q:af _ g t #[b,c,d,v3,v4,z5,e]:=r.store (i:=4) (u:=v4) rfl;have l:af _ g t #[b,c,d,v3,v4,v5,e]:=q.store (i:=5) (u:=v5) rfl;have s:af _ g t #[b,c,d,v3,v4,v5,j]:=l.store (i:=6) (u:=j) rfl;exact⟨n.cell 0,p.cell 1,o.cell 2,r.cell 3,q.cell 4,l.cell 5,s.cell 6⟩
theorem oX {w:World}{g:Nat}{t:TypeId}{e b d a3 a4 a5 c:Value}(h:af w g t #[e,b,d,a3,a4,a5,c]):
 w.frozen? ⟨g,0,none⟩=false/\w.frozen? ⟨g,1,none⟩=false/\w.frozen? ⟨g,2,none⟩=false/\w.frozen? ⟨g,3,none⟩=false/\w.frozen? ⟨g,4,none⟩=false/\w.frozen? ⟨g,5,none⟩=false/\w.frozen? ⟨g,6,none⟩=false:=⟨h.frozen 0,h.frozen 1,h.frozen 2,h.frozen 3,h.frozen 4,h.frozen 5,h.frozen 6⟩
def acr (w:World)(c:aN)(l:List bZ)(f:Fr)(e:Ending)(w':World):Prop:=
 Below w.heap.size w w'/\∃a0 a1 a2 a3 a4 A n cap a6 b,e= .returned (.tuple #[.agg #[.int .u64 (a0:Nat),.string a1,.string a2,.int .i64 a3,.int .i64 a4,.slice A n cap,.int .i64 a6],.bool b])/\Qu l (fU c (aI l) f) a0 a1 a2 a3 a4 A n cap a6 b
theorem XF (lo hi g r u:Nat)(c:aN)(l:List bZ)(f:Fr)(w:World)(h:mw w lo hi g r u c l):
 Calls prog 92 #[.pointer (some ⟨g,0,none⟩),.agg #[.int .u64 f.id,.string f.nm,.string f.body]] w fun e w'=>acr w c l f e w':=by
 obtain⟨id,nm,body⟩:=f;obtain⟨g0,g6,g7,_,_⟩:=h.cells;have AK:g<w.heap.size:=zT h.g2 h.his;have aB:r<w.heap.size:=h.nm.lt;have oa:u<w.heap.size:=h.ix.lt;have aD:g<w.heap.size+1:=by omega
 have aA:g<w.heap.size+1+1:=by omega
 obtain⟨W,z⟩:∃W,((w.alloc (.cells #[.int .u64 id,.string nm,.string body] 84)).alloc (.cells #[.int .u64 0,.string ⟨#[]⟩,.string ⟨#[]⟩,.int .i64 0,.int .i64 0,.slice none 0 0,.int .i64 0] 116)).alloc (.cells #[.int .u64 0,.string ⟨#[]⟩,.string ⟨#[]⟩,.int .i64 0,.int .i64 0,.slice none 0 0,.int .i64 0] 116)=W:=⟨_,rfl⟩
 have k7:Below w.heap.size w W:=by rw[<-z];exact(((zl _ w).alloc (zd _) _).alloc (by simp) _).alloc (by simp;omega) _
 have Am:af W w.heap.size 84 #[.int .u64 id,.string nm,.string body]:=by rw[<-z];exact((af.new w _ _).alloc _).alloc _
 have pN:af W (w.heap.size+1) 116 #[.int .u64 0,.string ⟨#[]⟩,.string ⟨#[]⟩,.int .i64 0,.int .i64 0,.slice none 0 0,.int .i64 0]:=by rw[<-z];exact af.alloc (af.at_ (by simp)) _
 have kX:af W (w.heap.size+1+1) 116 #[.int .u64 0,.string ⟨#[]⟩,.string ⟨#[]⟩,.int .i64 0,.int .i64 0,.slice none 0 0,.int .i64 0]:=by rw[<-z];exact af.at_ (by simp)
 have X:=za (h.below (k7.mono h.his));have S:=za Am;have B:=za pN;have s:=za kX;have q:=za k7;have U:=za z;clear z k7 Am pN kX;by_cases k:c.fm=1
 ·have k1:(c.fm==1)=true:=yN.2 k;have k2:(c.fm !=1)=false:=by simp[k]
  have x:=za (Db k (aI l) ⟨id,nm,body⟩);by_cases Y:id=0
  ·have k3:((id:Int)==0)=true:=yN.2 (by omega);rw[zi Y]at x;obtain⟨a0,m,a2,a3,a4,A,n,cap,o,b,C,M⟩:=Dy h nm;have CK:=za C;have sx:=za M;clear h C M k Y;have K:Hid (∀V:World,V.heap[g]?=W.heap[g]?/\V.heap[r]?=W.heap[r]?/\V.heap[w.heap.size]?=W.heap[w.heap.size]?->V.cell? ⟨g,6,none⟩=some (.map (some r))/\V.cell? ⟨w.heap.size,1,none⟩=some (.string nm)/\jw V r (AW l)):=za (fun V i=>⟨af.cell (show af V g _ _ from i.1.trans X.out.blk) 6,af.cell (show af V w.heap.size _ _ from i.2.2.trans S.out) 1,X.out.nm.ag i.2.1⟩);go_enter func92,ntmps92
   go_wp2_with fail
   rw[U.out];refine aC 11 (fun V=>V.cell? ⟨g,6,none⟩=some (.map (some r))/\V.cell? ⟨w.heap.size,1,none⟩=some (.string nm)/\jw V r (AW l)) (by kernel_rfl) (by kernel_rfl) ?_;have hHeld:=K.out W.drew ⟨rfl,rfl,rfl⟩;refine GT.jV [0,1,2,3,4,5,6,7,8,9] hHeld (fun _ _ _ _ _ h=>h) (by kernel_rfl) ?_;iterate 6 (refine .c rfl rfl (fun V i=>by go_simp<;>with_reducible rfl) ?_;simp only[Act.put,zb,ze,zf])
   refine .c (v:= .tuple #[.agg #[.int .u64 a0,.string m,.string a2,.int .i64 a3,.int .i64 a4,.slice A n cap,.int .i64 o],.bool b]) rfl rfl (fun V i=>by have hl:=sx.out V i.2.2;go_simp) ?_;try simp only[Act.put,zb,ze,zf];iterate 3 (refine .c rfl rfl (fun V i=>by go_simp<;>with_reducible rfl) ?_;simp only[Act.put,zb,ze,zf])
   refine .nil ?_;obtain⟨au,aq,Z,ar,ak,aw,aj⟩:=nK s.out;obtain⟨av,az,Y1,Y3,al,Y9,YY⟩:=oX s.out;refine GT.fJ 10 (fun ay I=> ?_) rfl (by kernel_rfl);go_simp;obtain⟨d,p⟩:∃d,Nf W (w.heap.size+1+1) (.int .u64 a0) (.string m) (.string a2) (.int .i64 a3) (.int .i64 a4) (.slice A n cap) (.int .i64 o)=d:=⟨_,rfl⟩
   have N:af d (w.heap.size+1+1) 116 #[.int .u64 a0,.string m,.string a2,.int .i64 a3,.int .i64 a4,.slice A n cap,.int .i64 o]:=by rw[<-p];exact F2 s.out _ _ _ _ _ _ _
   have j:ae [w.heap.size+1+1] W d:=by rw[<-p];exact oz W _ _ _ _ _ _ _ _
   have y:=B.out.only j (by simp);have D:Hid (Below w.heap.size w d):=za (q.out.trans (j.below (by have:=q.out.size;omega) (by simp;omega)));have J:d.drew.heap[g]?=W.heap[g]?/\d.drew.heap[r]?=W.heap[r]?/\d.drew.heap[w.heap.size]?=W.heap[w.heap.size]?:=⟨j.block _ (by have:=q.out.size;omega) (by simp;omega),j.block _ (by have:=q.out.size;omega) (by simp;omega),j.block _ (by have:=S.out.lt;omega) (by simp;omega)⟩
   unfold Nf at p;rw[p];refine I.out _ _ (K.out d.drew J) (fun hHeld=> ?_);clear I ay;try simp only[Act.put,zb,ze,zf]
   refine GT.pA 11 ?_ rfl (by kernel_rfl);go_simp;clear au aq Z ar ak aw aj av az Y1 Y3 al Y9 YY p J j;obtain⟨ao,ax,ad,ab,aa,ah,an⟩:=nK N;obtain⟨Y6,ai,Y5,Y8,Y4,Y7,Y2⟩:=oX N;obtain⟨O,G,F,E,H,L,R⟩:=nK y;obtain⟨YZ,Y',YW,ag,Y0,YX,Z'⟩:=oX y;go_wp2;obtain⟨r0,r1,r2,r3,r4,r5,r6⟩:=Ct y (.int .u64 a0) (.string m) (.string a2) (.int .i64 a3) (.int .i64 a4) (.slice A n cap) (.int .i64 o);refine zk (v:= .tuple #[.agg #[.int .u64 a0,.string m,.string a2,.int .i64 a3,.int .i64 a4,.slice A n cap,.int .i64 o],.bool b]) (by simp[results,results92,go_sem,r0,r1,r2,r3,r4,r5,r6]) rfl ?_;exact⟨(D.out.trans ((oz d (w.heap.size+1) _ _ _ _ _ _ _).below D.out.size (by simp))).drew,_,_,_,_,_,_,_,_,_,_,rfl,(by rw[x.out];exact CK.out)⟩
  have k3:((id:Int)==0)=false:=zm.2 (by omega);rw[zh Y]at x;clear h k Y;go_enter func92,ntmps92
  go_wp2_with fail
  rw[U.out];obtain⟨ao,ax,ad,ab,aa,ah,an⟩:=nK s.out;obtain⟨Y6,ai,Y5,Y8,Y4,Y7,Y2⟩:=oX s.out;obtain⟨O,G,F,E,H,L,R⟩:=nK B.out;obtain⟨YZ,Y',YW,ag,Y0,YX,Z'⟩:=oX B.out;go_wp2;refine zk (v:= .tuple #[Dj,.bool false]) (by simp[Dj,results,results92,go_sem,O,G,F,E,H,L,R]) rfl ?_;exact⟨q.out,0,_,_,_,_,_,_,_,_,_,rfl,by rw[x.out];exact .inl ⟨rfl,rfl,rfl⟩⟩
 have k1:(c.fm==1)=false:=zm.2 k;have k2:(c.fm !=1)=true:=yL.2 k;rcases fX nm with⟨hz,rfl⟩|⟨hz,k3,k4⟩
 ·have x:Hid (fU c (aI l) ⟨id,⟨#[]⟩,body⟩=(aI l).find? (fun e=>decide (e.id=id))):=za (by unfold fU;congr 1;funext e;exact TM k ⟨id,⟨#[]⟩,body⟩ hz e);obtain⟨a0,m,a2,a3,a4,A,n,cap,o,b,C,M⟩:=KV h id;have CK:=za C;have sx:=za M;clear h C M k hz;have K:Hid (∀V:World,V.heap[g]?=W.heap[g]?/\V.heap[u]?=W.heap[u]?/\V.heap[w.heap.size]?=W.heap[w.heap.size]?->V.cell? ⟨g,7,none⟩=some (.map (some u))/\V.cell? ⟨w.heap.size,0,none⟩=some (.int .u64 id)/\jw V u (AX l)):=za (fun V i=>⟨af.cell (show af V g _ _ from i.1.trans X.out.blk) 7,af.cell (show af V w.heap.size _ _ from i.2.2.trans S.out) 0,X.out.ix.ag i.2.1⟩);go_enter func92,ntmps92
  go_wp2_with fail
  rw[U.out];refine aC 11 (fun V=>V.cell? ⟨g,7,none⟩=some (.map (some u))/\V.cell? ⟨w.heap.size,0,none⟩=some (.int .u64 id)/\jw V u (AX l)) (by kernel_rfl) (by kernel_rfl) ?_;have hHeld:=K.out W.drew ⟨rfl,rfl,rfl⟩;refine GT.jV [0,1,2,3,4,5,6,7,8,9] hHeld (fun _ _ _ _ _ h=>h) (by kernel_rfl) ?_;iterate 6 (refine .c rfl rfl (fun V i=>by go_simp<;>with_reducible rfl) ?_;simp only[Act.put,zb,ze,zf])
  refine .c (v:= .tuple #[.agg #[.int .u64 a0,.string m,.string a2,.int .i64 a3,.int .i64 a4,.slice A n cap,.int .i64 o],.bool b]) rfl rfl (fun V i=>by have hl:=sx.out V i.2.2;go_simp) ?_;try simp only[Act.put,zb,ze,zf];iterate 3 (refine .c rfl rfl (fun V i=>by go_simp<;>with_reducible rfl) ?_;simp only[Act.put,zb,ze,zf])
  refine .nil ?_;obtain⟨au,aq,Z,ar,ak,aw,aj⟩:=nK s.out;obtain⟨av,az,Y1,Y3,al,Y9,YY⟩:=oX s.out;refine GT.fJ 10 (fun ay I=> ?_) rfl (by kernel_rfl);go_simp;obtain⟨d,p⟩:∃d,Nf W (w.heap.size+1+1) (.int .u64 a0) (.string m) (.string a2) (.int .i64 a3) (.int .i64 a4) (.slice A n cap) (.int .i64 o)=d:=⟨_,rfl⟩
  have N:af d (w.heap.size+1+1) 116 #[.int .u64 a0,.string m,.string a2,.int .i64 a3,.int .i64 a4,.slice A n cap,.int .i64 o]:=by rw[<-p];exact F2 s.out _ _ _ _ _ _ _
  have j:ae [w.heap.size+1+1] W d:=by rw[<-p];exact oz W _ _ _ _ _ _ _ _
  have y:=B.out.only j (by simp);have D:Hid (Below w.heap.size w d):=za (q.out.trans (j.below (by have:=q.out.size;omega) (by simp;omega)));have J:d.drew.heap[g]?=W.heap[g]?/\d.drew.heap[u]?=W.heap[u]?/\d.drew.heap[w.heap.size]?=W.heap[w.heap.size]?:=⟨j.block _ (by have:=q.out.size;omega) (by simp;omega),j.block _ (by have:=q.out.size;omega) (by simp;omega),j.block _ (by have:=S.out.lt;omega) (by simp;omega)⟩
  unfold Nf at p;rw[p];refine I.out _ _ (K.out d.drew J) (fun hHeld=> ?_);clear I ay;try simp only[Act.put,zb,ze,zf]
  refine GT.pA 11 ?_ rfl (by kernel_rfl);go_simp;clear au aq Z ar ak aw aj av az Y1 Y3 al Y9 YY p J j;obtain⟨ao,ax,ad,ab,aa,ah,an⟩:=nK N;obtain⟨Y6,ai,Y5,Y8,Y4,Y7,Y2⟩:=oX N;obtain⟨O,G,F,E,H,L,R⟩:=nK y;obtain⟨YZ,Y',YW,ag,Y0,YX,Z'⟩:=oX y;go_wp2;obtain⟨r0,r1,r2,r3,r4,r5,r6⟩:=Ct y (.int .u64 a0) (.string m) (.string a2) (.int .i64 a3) (.int .i64 a4) (.slice A n cap) (.int .i64 o);refine zk (v:= .tuple #[.agg #[.int .u64 a0,.string m,.string a2,.int .i64 a3,.int .i64 a4,.slice A n cap,.int .i64 o],.bool b]) (by simp[results,results92,go_sem,r0,r1,r2,r3,r4,r5,r6]) rfl ?_;exact⟨(D.out.trans ((oz d (w.heap.size+1) _ _ _ _ _ _ _).below D.out.size (by simp))).drew,_,_,_,_,_,_,_,_,_,_,rfl,(by rw[x.out];exact CK.out)⟩
 have x:=za (IA k (aI l) ⟨id,nm,body⟩ hz);clear h k hz;go_enter func92,ntmps92
 go_wp2_with fail
 rw[U.out];obtain⟨ao,ax,ad,ab,aa,ah,an⟩:=nK s.out;obtain⟨Y6,ai,Y5,Y8,Y4,Y7,Y2⟩:=oX s.out;obtain⟨O,G,F,E,H,L,R⟩:=nK B.out;obtain⟨YZ,Y',YW,ag,Y0,YX,Z'⟩:=oX B.out;go_wp2;refine zk (v:= .tuple #[Dj,.bool false]) (by simp[Dj,results,results92,go_sem,O,G,F,E,H,L,R]) rfl ?_;exact⟨q.out,0,_,_,_,_,_,_,_,_,_,rfl,by rw[x.out];exact .inl ⟨rfl,rfl,rfl⟩⟩
