/- package registry: the row of a frame (of); Len, Config. -/
import Derived.Test.YtpjgigllldipiaaGreatDoorKA8
import Derived.Test.YtpjgigllldipiaaGreatDoorKA23
import Derived.Test.YtpjgigllldipiaaGreatDoorKA11
set_option linter.all false
set_option maxRecDepth 100000
set_option maxHeartbeats 3200000
namespace Go.Proofs.YtpjgigllldipiaaGreatDoor
open Go.RowKit
def zb:=@List.setIfInBounds_toArray
def zf:=@List.set_cons_succ
theorem UO.open_ {w:World}{S:Nat->Prop}{r:bV}(h:UO w S r):∃A cap,r.2= .agg #[.int .u64 r.1.id,.string r.1.name,.string r.1.ty,.int .i64 r.1.shape.kind,.int .i64 r.1.shape.size,.slice A r.1.shape.sub.length cap,.int .i64 r.1.shape.tail]/\fy w S r.1.shape (.int .i64 r.1.shape.kind) (.int .i64 r.1.shape.size) (.slice A r.1.shape.sub.length cap) (.int .i64 r.1.shape.tail):=by
 obtain⟨i,c,b,d,e,h⟩:=h;obtain⟨A,cap,rfl,rfl,rfl,rfl,_⟩:=h.open_;exact⟨A,cap,e,h⟩
def Pt (l:List bV)(o:Option bF)(a0:Nat)(a1 a2:ByteArray)(a3 a4:Int)(A:Option Addr)(n cap:Nat)(a6:Int)(b:Bool):Prop:=
 (o=none/\b=false/\Value.agg #[.int .u64 a0,.string a1,.string a2,.int .i64 a3,.int .i64 a4,.slice A n cap,.int .i64 a6]=CO)\/∃r∈l,o=some r.1/\b=true/\Value.agg #[.int .u64 a0,.string a1,.string a2,.int .i64 a3,.int .i64 a4,.slice A n cap,.int .i64 a6]=r.2
theorem CY {w:World}{u hi g d x:Nat}{c:aS}{l:List bV}(h:lS w u hi g d x c l)(nm:ByteArray):
 ∃p j q a3 a4 A n cap m b,Pt l (fB (aJ l) nm) p j q a3 a4 A n cap m b/\∀V,ja V d (Ag l)->(Instr.lookup 88 (.map (some d)) (.string nm) true).run Tryz.prog V= .ok (.tuple #[.agg #[.int .u64 (p:Nat),.string j,.string q,.int .i64 a3,.int .i64 a4,.slice A n cap,.int .i64 m],.bool b]) V:=by
 rcases S8 h.nm h.ok nm with⟨o,i⟩|⟨r,k,o,i,s⟩
 ·exact⟨0,⟨#[]⟩,⟨#[]⟩,0,0,none,0,0,0,false,.inl ⟨o,rfl,rfl⟩,i⟩
 obtain⟨A,cap,e,_⟩:=(h.rows r k).open_;rw[e]at s;exact⟨_,_,_,_,_,_,_,_,_,true,.inr ⟨r,k,i,rfl,e.symm⟩,s⟩
theorem Kq {w:World}{x hi g u i:Nat}{c:aS}{l:List bV}(h:lS w x hi g u i c l)(id:Nat):
 ∃p j q a3 a4 A n cap m b,Pt l ((aJ l).find? (fun e=>decide (e.id=id))) p j q a3 a4 A n cap m b/\∀V,ja V i (Ah l)->(Instr.lookup 89 (.map (some i)) (.int .u64 id) true).run Tryz.prog V= .ok (.tuple #[.agg #[.int .u64 (p:Nat),.string j,.string q,.int .i64 a3,.int .i64 a4,.slice A n cap,.int .i64 m],.bool b]) V:=by
 rcases S9 h.ix h.ok id with⟨o,d⟩|⟨r,k,o,d,s⟩
 ·exact⟨0,⟨#[]⟩,⟨#[]⟩,0,0,none,0,0,0,false,.inl ⟨o,rfl,rfl⟩,d⟩
 obtain⟨A,cap,e,_⟩:=(h.rows r k).open_;rw[e]at s;exact⟨_,_,_,_,_,_,_,_,_,true,.inr ⟨r,k,d,rfl,e.symm⟩,s⟩
abbrev Mv (w:World)(g:Nat)(v0 v1 v2 v3 v4 v5 v6:Value):World:=((((((w.setCell ⟨g,0,none⟩ v0).setCell ⟨g,1,none⟩ v1).setCell ⟨g,2,none⟩ v2).setCell ⟨g,3,none⟩ v3).setCell ⟨g,4,none⟩ v4).setCell ⟨g,5,none⟩ v5).setCell ⟨g,6,none⟩ v6
theorem Fm {w:World}{g:Nat}{t:TypeId}{o l k z3 z4 z5 e:Value}(h:af w g t #[o,l,k,z3,z4,z5,e])(b c d v3 v4 v5 j:Value):af (Mv w g b c d v3 v4 v5 j) g t #[b,c,d,v3,v4,v5,j]:=by
 have p:af _ g t #[b,l,k,z3,z4,z5,e]:=h.store (i:=0) (u:=b) rfl;have q:af _ g t #[b,c,k,z3,z4,z5,e]:=p.store (i:=1) (u:=c) rfl;have n:af _ g t #[b,c,d,z3,z4,z5,e]:=q.store (i:=2) (u:=d) rfl;have s:af _ g t #[b,c,d,v3,z4,z5,e]:=n.store (i:=3) (u:=v3) rfl;have m:af _ g t #[b,c,d,v3,v4,z5,e]:=s.store (i:=4) (u:=v4) rfl;have r:af _ g t #[b,c,d,v3,v4,v5,e]:=m.store (i:=5) (u:=v5) rfl;exact r.store (i:=6) (u:=j) rfl
theorem nK (w:World)(g:Nat)(d c e v3 v4 v5 b:Value):ae [g] w (Mv w g d c e v3 v4 v5 b):=(((((((ae.refl _ w).setCell (by simp) _).setCell (by simp) _).setCell (by simp) _).setCell (by simp) _).setCell (by simp) _).setCell (by simp) _).setCell (by simp) _
theorem BQ {w:World}{g:Nat}{t:TypeId}{s o k z3 z4 z5 e:Value}(h:af w g t #[s,o,k,z3,z4,z5,e])(b c d v3 v4 v5 j:Value):
 (w.setCell ⟨g,0,none⟩ b).cell? ⟨g,0,none⟩=some b/\((w.setCell ⟨g,0,none⟩ b).setCell ⟨g,1,none⟩ c).cell? ⟨g,1,none⟩=some c/\(((w.setCell ⟨g,0,none⟩ b).setCell ⟨g,1,none⟩ c).setCell ⟨g,2,none⟩ d).cell? ⟨g,2,none⟩=some d/\((((w.setCell ⟨g,0,none⟩ b).setCell ⟨g,1,none⟩ c).setCell ⟨g,2,none⟩ d).setCell ⟨g,3,none⟩ v3).cell? ⟨g,3,none⟩=some v3/\
 (((((w.setCell ⟨g,0,none⟩ b).setCell ⟨g,1,none⟩ c).setCell ⟨g,2,none⟩ d).setCell ⟨g,3,none⟩ v3).setCell ⟨g,4,none⟩ v4).cell? ⟨g,4,none⟩=some v4/\((((((w.setCell ⟨g,0,none⟩ b).setCell ⟨g,1,none⟩ c).setCell ⟨g,2,none⟩ d).setCell ⟨g,3,none⟩ v3).setCell ⟨g,4,none⟩ v4).setCell ⟨g,5,none⟩ v5).cell? ⟨g,5,none⟩=some v5/\(((((((w.setCell ⟨g,0,none⟩ b).setCell ⟨g,1,none⟩ c).setCell ⟨g,2,none⟩ d).setCell ⟨g,3,none⟩ v3).setCell ⟨g,4,none⟩ v4).setCell ⟨g,5,none⟩ v5).setCell ⟨g,6,none⟩ j).cell? ⟨g,6,none⟩=some j:=by
 have n:af _ g t #[b,o,k,z3,z4,z5,e]:=h.store (i:=0) (u:=b) rfl;have p:af _ g t #[b,c,k,z3,z4,z5,e]:=n.store (i:=1) (u:=c) rfl;have m:af _ g t #[b,c,d,z3,z4,z5,e]:=p.store (i:=2) (u:=d) rfl;have r:af _ g t #[b,c,d,v3,z4,z5,e]:=m.store (i:=3) (u:=v3) rfl;have l:af _ g t #[b,c,d,v3,v4,z5,e]:=r.store (i:=4) (u:=v4) rfl;have q:af _ g t #[b,c,d,v3,v4,v5,e]:=l.store (i:=5) (u:=v5) rfl;have x:af _ g t #[b,c,d,v3,v4,v5,j]:=q.store (i:=6) (u:=j) rfl;exact⟨n.cell 0,p.cell 1,m.cell 2,r.cell 3,l.cell 4,q.cell 5,x.cell 6⟩
theorem oe {w:World}{g:Nat}{t:TypeId}{e c d a3 a4 a5 b:Value}(h:af w g t #[e,c,d,a3,a4,a5,b]):
 w.frozen? ⟨g,0,none⟩=false/\w.frozen? ⟨g,1,none⟩=false/\w.frozen? ⟨g,2,none⟩=false/\w.frozen? ⟨g,3,none⟩=false/\w.frozen? ⟨g,4,none⟩=false/\w.frozen? ⟨g,5,none⟩=false/\w.frozen? ⟨g,6,none⟩=false:=⟨h.frozen 0,h.frozen 1,h.frozen 2,h.frozen 3,h.frozen 4,h.frozen 5,h.frozen 6⟩
def abB (w:World)(c:aS)(l:List bV)(f:Fr)(e:Ending)(w':World):Prop:=
 Below w.heap.size w w'/\∃a0 a1 a2 a3 a4 A n cap a6 b,e= .returned (.tuple #[.agg #[.int .u64 (a0:Nat),.string a1,.string a2,.int .i64 a3,.int .i64 a4,.slice A n cap,.int .i64 a6],.bool b])/\Pt l (fN c (aJ l) f) a0 a1 a2 a3 a4 A n cap a6 b
theorem Wz (lo hi g u q:Nat)(c:aS)(l:List bV)(f:Fr)(w:World)(h:lS w lo hi g u q c l):
 Calls Tryz.prog 81 #[.pointer (some ⟨g,0,none⟩),.agg #[.int .u64 f.id,.string f.nm,.string f.body]] w fun e w'=>abB w c l f e w':=by
 obtain⟨id,nm,body⟩:=f;obtain⟨g0,g6,g7,_,_⟩:=h.cells;have wV:g<w.heap.size:=yf h.g2 h.his;have ay:u<w.heap.size:=h.nm.lt;have lh:q<w.heap.size:=h.ix.lt;have ax:g<w.heap.size+1:=by omega
 have aw:g<w.heap.size+1+1:=by omega
 obtain⟨W,z⟩:∃W,((w.alloc (.cells #[.int .u64 id,.string nm,.string body] 74)).alloc (.cells #[.int .u64 0,.string ⟨#[]⟩,.string ⟨#[]⟩,.int .i64 0,.int .i64 0,.slice none 0 0,.int .i64 0] 98)).alloc (.cells #[.int .u64 0,.string ⟨#[]⟩,.string ⟨#[]⟩,.int .i64 0,.int .i64 0,.slice none 0 0,.int .i64 0] 98)=W:=⟨_,rfl⟩
 have Z:Below w.heap.size w W:=by rw[<-z];exact(((zq _ w).alloc (zi _) _).alloc (by simp) _).alloc (by simp;omega) _
 have Ce:af W w.heap.size 74 #[.int .u64 id,.string nm,.string body]:=by rw[<-z];exact((af.new w _ _).alloc _).alloc _
 have pn:af W (w.heap.size+1) 98 #[.int .u64 0,.string ⟨#[]⟩,.string ⟨#[]⟩,.int .i64 0,.int .i64 0,.slice none 0 0,.int .i64 0]:=by rw[<-z];exact af.alloc (af.at_ (by simp)) _
 have kF:af W (w.heap.size+1+1) 98 #[.int .u64 0,.string ⟨#[]⟩,.string ⟨#[]⟩,.int .i64 0,.int .i64 0,.slice none 0 0,.int .i64 0]:=by rw[<-z];exact af.at_ (by simp)
 have S:=za (h.below (Z.mono h.his));have X:=za Ce;have B:=za pn;have s:=za kF;have r:=za Z;have U:=za z;clear z Z Ce pn kF;by_cases m:c.fm=1
 ·have k1:(c.fm==1)=true:=xh.2 m;have k2:(c.fm !=1)=false:=by simp[m]
  have x:=za (CH m (aJ l) ⟨id,nm,body⟩);by_cases Y:id=0
  ·have k3:((id:Int)==0)=true:=xh.2 (by omega);rw[zl Y]at x;obtain⟨a0,p,a2,a3,a4,A,n,cap,o,b,K,I⟩:=CY h nm;have Cd:=za K;have rN:=za I;clear h K I m Y;have L:Hid (∀V:World,V.heap[g]?=W.heap[g]?/\V.heap[u]?=W.heap[u]?/\V.heap[w.heap.size]?=W.heap[w.heap.size]?->V.cell? ⟨g,6,none⟩=some (.map (some u))/\V.cell? ⟨w.heap.size,1,none⟩=some (.string nm)/\ja V u (Ag l)):=za (fun V i=>⟨af.cell (show af V g _ _ from i.1.trans S.out.blk) 6,af.cell (show af V w.heap.size _ _ from i.2.2.trans X.out) 1,S.out.nm.ag i.2.1⟩);go_enter Tryz.func81,Tryz.ntmps81
   go_wp2_with fail
   rw[U.out];refine aB 11 (fun V=>V.cell? ⟨g,6,none⟩=some (.map (some u))/\V.cell? ⟨w.heap.size,1,none⟩=some (.string nm)/\ja V u (Ag l)) (by kernel_rfl) (by kernel_rfl) ?_;have hHeld:=L.out W.drew ⟨rfl,rfl,rfl⟩;refine GT.jD [0,1,2,3,4,5,6,7,8,9] hHeld (fun _ _ _ _ _ h=>h) (by kernel_rfl) ?_;iterate 6 (refine .c rfl rfl (fun V i=>by go_simp<;>with_reducible rfl) ?_;simp only[Act.put,zb,ze,zf])
   refine .c (v:= .tuple #[.agg #[.int .u64 a0,.string p,.string a2,.int .i64 a3,.int .i64 a4,.slice A n cap,.int .i64 o],.bool b]) rfl rfl (fun V i=>by have hl:=rN.out V i.2.2;go_simp) ?_;try simp only[Act.put,zb,ze,zf];iterate 3 (refine .c rfl rfl (fun V i=>by go_simp<;>with_reducible rfl) ?_;simp only[Act.put,zb,ze,zf])
   refine .nil ?_;obtain⟨ak,ai,an,ao,ag,aa,au⟩:=mQ s.out;obtain⟨X7,XQ,X5,X1,XT,XX,XO⟩:=oe s.out;refine GT.fF 10 (fun aq J=> ?_) rfl (by kernel_rfl);go_simp;obtain⟨d,k⟩:∃d,Mv W (w.heap.size+1+1) (.int .u64 a0) (.string p) (.string a2) (.int .i64 a3) (.int .i64 a4) (.slice A n cap) (.int .i64 o)=d:=⟨_,rfl⟩
   have H:af d (w.heap.size+1+1) 98 #[.int .u64 a0,.string p,.string a2,.int .i64 a3,.int .i64 a4,.slice A n cap,.int .i64 o]:=by rw[<-k];exact Fm s.out _ _ _ _ _ _ _
   have j:ae [w.heap.size+1+1] W d:=by rw[<-k];exact nK W _ _ _ _ _ _ _ _
   have y:=B.out.only j (by simp);have R:Hid (Below w.heap.size w d):=za (r.out.trans (j.below (by have:=r.out.size;omega) (by simp;omega)));have N:d.drew.heap[g]?=W.heap[g]?/\d.drew.heap[u]?=W.heap[u]?/\d.drew.heap[w.heap.size]?=W.heap[w.heap.size]?:=⟨j.block _ (by have:=r.out.size;omega) (by simp;omega),j.block _ (by have:=r.out.size;omega) (by simp;omega),j.block _ (by have:=X.out.lt;omega) (by simp;omega)⟩
   unfold Mv at k;rw[k];refine J.out _ _ (L.out d.drew N) (fun hHeld=> ?_);clear J aq;try simp only[Act.put,zb,ze,zf]
   refine GT.oP 11 ?_ rfl (by kernel_rfl);go_simp;clear ak ai an ao ag aa au X7 XQ X5 X1 XT XX XO k N j;obtain⟨aj,al,ah,av,ar,ab,ad⟩:=mQ H;obtain⟨X6,XU,XZ,XL,XY,XP,XM⟩:=oe H;obtain⟨O,C,G,E,M,F,D⟩:=mQ y;obtain⟨XR,XV,X4,XW,X3,XS,XN⟩:=oe y;go_wp2;obtain⟨r0,r1,r2,r3,r4,r5,r6⟩:=BQ y (.int .u64 a0) (.string p) (.string a2) (.int .i64 a3) (.int .i64 a4) (.slice A n cap) (.int .i64 o);refine zp (v:= .tuple #[.agg #[.int .u64 a0,.string p,.string a2,.int .i64 a3,.int .i64 a4,.slice A n cap,.int .i64 o],.bool b]) (by simp[results,Tryz.results81,go_sem,r0,r1,r2,r3,r4,r5,r6]) rfl ?_;exact⟨(R.out.trans ((nK d (w.heap.size+1) _ _ _ _ _ _ _).below R.out.size (by simp))).drew,_,_,_,_,_,_,_,_,_,_,rfl,(by rw[x.out];exact Cd.out)⟩
  have k3:((id:Int)==0)=false:=zr.2 (by omega);rw[zj Y]at x;clear h m Y;go_enter Tryz.func81,Tryz.ntmps81
  go_wp2_with fail
  rw[U.out];obtain⟨aj,al,ah,av,ar,ab,ad⟩:=mQ s.out;obtain⟨X6,XU,XZ,XL,XY,XP,XM⟩:=oe s.out;obtain⟨O,C,G,E,M,F,D⟩:=mQ B.out;obtain⟨XR,XV,X4,XW,X3,XS,XN⟩:=oe B.out;go_wp2;refine zp (v:= .tuple #[CO,.bool false]) (by simp[CO,results,Tryz.results81,go_sem,O,C,G,E,M,F,D]) rfl ?_;exact⟨r.out,0,_,_,_,_,_,_,_,_,_,rfl,by rw[x.out];exact .inl ⟨rfl,rfl,rfl⟩⟩
 have k1:(c.fm==1)=false:=zr.2 m;have k2:(c.fm !=1)=true:=yP.2 m;rcases fR nm with⟨hz,rfl⟩|⟨hz,k3,k4⟩
 ·have x:Hid (fN c (aJ l) ⟨id,⟨#[]⟩,body⟩=(aJ l).find? (fun e=>decide (e.id=id))):=za (by unfold fN;congr 1;funext e;exact S4 m ⟨id,⟨#[]⟩,body⟩ hz e);obtain⟨a0,p,a2,a3,a4,A,n,cap,o,b,K,I⟩:=Kq h id;have Cd:=za K;have rN:=za I;clear h K I m hz;have L:Hid (∀V:World,V.heap[g]?=W.heap[g]?/\V.heap[q]?=W.heap[q]?/\V.heap[w.heap.size]?=W.heap[w.heap.size]?->V.cell? ⟨g,7,none⟩=some (.map (some q))/\V.cell? ⟨w.heap.size,0,none⟩=some (.int .u64 id)/\ja V q (Ah l)):=za (fun V i=>⟨af.cell (show af V g _ _ from i.1.trans S.out.blk) 7,af.cell (show af V w.heap.size _ _ from i.2.2.trans X.out) 0,S.out.ix.ag i.2.1⟩);go_enter Tryz.func81,Tryz.ntmps81
  go_wp2_with fail
  rw[U.out];refine aB 11 (fun V=>V.cell? ⟨g,7,none⟩=some (.map (some q))/\V.cell? ⟨w.heap.size,0,none⟩=some (.int .u64 id)/\ja V q (Ah l)) (by kernel_rfl) (by kernel_rfl) ?_;have hHeld:=L.out W.drew ⟨rfl,rfl,rfl⟩;refine GT.jD [0,1,2,3,4,5,6,7,8,9] hHeld (fun _ _ _ _ _ h=>h) (by kernel_rfl) ?_;iterate 6 (refine .c rfl rfl (fun V i=>by go_simp<;>with_reducible rfl) ?_;simp only[Act.put,zb,ze,zf])
  refine .c (v:= .tuple #[.agg #[.int .u64 a0,.string p,.string a2,.int .i64 a3,.int .i64 a4,.slice A n cap,.int .i64 o],.bool b]) rfl rfl (fun V i=>by have hl:=rN.out V i.2.2;go_simp) ?_;try simp only[Act.put,zb,ze,zf];iterate 3 (refine .c rfl rfl (fun V i=>by go_simp<;>with_reducible rfl) ?_;simp only[Act.put,zb,ze,zf])
  refine .nil ?_;obtain⟨ak,ai,an,ao,ag,aa,au⟩:=mQ s.out;obtain⟨X7,XQ,X5,X1,XT,XX,XO⟩:=oe s.out;refine GT.fF 10 (fun aq J=> ?_) rfl (by kernel_rfl);go_simp;obtain⟨d,k⟩:∃d,Mv W (w.heap.size+1+1) (.int .u64 a0) (.string p) (.string a2) (.int .i64 a3) (.int .i64 a4) (.slice A n cap) (.int .i64 o)=d:=⟨_,rfl⟩
  have H:af d (w.heap.size+1+1) 98 #[.int .u64 a0,.string p,.string a2,.int .i64 a3,.int .i64 a4,.slice A n cap,.int .i64 o]:=by rw[<-k];exact Fm s.out _ _ _ _ _ _ _
  have j:ae [w.heap.size+1+1] W d:=by rw[<-k];exact nK W _ _ _ _ _ _ _ _
  have y:=B.out.only j (by simp);have R:Hid (Below w.heap.size w d):=za (r.out.trans (j.below (by have:=r.out.size;omega) (by simp;omega)));have N:d.drew.heap[g]?=W.heap[g]?/\d.drew.heap[q]?=W.heap[q]?/\d.drew.heap[w.heap.size]?=W.heap[w.heap.size]?:=⟨j.block _ (by have:=r.out.size;omega) (by simp;omega),j.block _ (by have:=r.out.size;omega) (by simp;omega),j.block _ (by have:=X.out.lt;omega) (by simp;omega)⟩
  unfold Mv at k;rw[k];refine J.out _ _ (L.out d.drew N) (fun hHeld=> ?_);clear J aq;try simp only[Act.put,zb,ze,zf]
  refine GT.oP 11 ?_ rfl (by kernel_rfl);go_simp;clear ak ai an ao ag aa au X7 XQ X5 X1 XT XX XO k N j;obtain⟨aj,al,ah,av,ar,ab,ad⟩:=mQ H;obtain⟨X6,XU,XZ,XL,XY,XP,XM⟩:=oe H;obtain⟨O,C,G,E,M,F,D⟩:=mQ y;obtain⟨XR,XV,X4,XW,X3,XS,XN⟩:=oe y;go_wp2;obtain⟨r0,r1,r2,r3,r4,r5,r6⟩:=BQ y (.int .u64 a0) (.string p) (.string a2) (.int .i64 a3) (.int .i64 a4) (.slice A n cap) (.int .i64 o);refine zp (v:= .tuple #[.agg #[.int .u64 a0,.string p,.string a2,.int .i64 a3,.int .i64 a4,.slice A n cap,.int .i64 o],.bool b]) (by simp[results,Tryz.results81,go_sem,r0,r1,r2,r3,r4,r5,r6]) rfl ?_;exact⟨(R.out.trans ((nK d (w.heap.size+1) _ _ _ _ _ _ _).below R.out.size (by simp))).drew,_,_,_,_,_,_,_,_,_,_,rfl,(by rw[x.out];exact Cd.out)⟩
 have x:=za (Ic m (aJ l) ⟨id,nm,body⟩ hz);clear h m hz;go_enter Tryz.func81,Tryz.ntmps81
 go_wp2_with fail
 rw[U.out];obtain⟨aj,al,ah,av,ar,ab,ad⟩:=mQ s.out;obtain⟨X6,XU,XZ,XL,XY,XP,XM⟩:=oe s.out;obtain⟨O,C,G,E,M,F,D⟩:=mQ B.out;obtain⟨XR,XV,X4,XW,X3,XS,XN⟩:=oe B.out;go_wp2;refine zp (v:= .tuple #[CO,.bool false]) (by simp[CO,results,Tryz.results81,go_sem,O,C,G,E,M,F,D]) rfl ?_;exact⟨r.out,0,_,_,_,_,_,_,_,_,_,rfl,by rw[x.out];exact .inl ⟨rfl,rfl,rfl⟩⟩
