/- package registry: the row of a frame (of); Len, Config. -/
import Derived.Test.YtpjgigllldipiaaGreatDoorKA8
import Derived.Test.YtpjgigllldipiaaGreatDoorKA23
import Derived.Test.YtpjgigllldipiaaGreatDoorKA11
set_option linter.all false
set_option maxRecDepth 100000
set_option maxHeartbeats 3200000
namespace Go.Proofs.YtpjgigllldipiaaGreatDoor
open Tryz
open Go.RowKit
def zb:=@List.setIfInBounds_toArray
def zg:=@List.set_cons_succ
theorem Us.open_ {w:World}{S:Nat->Prop}{r:bV}(h:Us w S r):∃A cap,r.2= .agg #[.int .u64 r.1.id,.string r.1.name,.string r.1.ty,.int .i64 r.1.shape.kind,.int .i64 r.1.shape.size,.slice A r.1.shape.sub.length cap,.int .i64 r.1.shape.tail]/\fh w S r.1.shape (.int .i64 r.1.shape.kind) (.int .i64 r.1.shape.size) (.slice A r.1.shape.sub.length cap) (.int .i64 r.1.shape.tail):=by
 obtain⟨b,c,d,i,e,h⟩:=h;obtain⟨A,cap,rfl,rfl,rfl,rfl,_⟩:=h.open_;exact⟨A,cap,e,h⟩
def Pc (l:List bV)(o:Option bA)(a0:Nat)(a1 a2:ByteArray)(a3 a4:Int)(A:Option Addr)(n cap:Nat)(a6:Int)(b:Bool):Prop:=
 (o=none/\b=false/\Value.agg #[.int .u64 a0,.string a1,.string a2,.int .i64 a3,.int .i64 a4,.slice A n cap,.int .i64 a6]=CH)\/∃r∈l,o=some r.1/\b=true/\Value.agg #[.int .u64 a0,.string a1,.string a2,.int .i64 a3,.int .i64 a4,.slice A n cap,.int .i64 a6]=r.2
theorem CP {w:World}{u hi g d x:Nat}{c:aR}{l:List bV}(h:lO w u hi g d x c l)(nm:ByteArray):
 ∃o m p a3 a4 A n cap j b,Pc l (fp (aJ l) nm) o m p a3 a4 A n cap j b/\∀V,iV V d (wV l)->(Instr.lookup 88 (.map (some d)) (.string nm) true).run prog V= .ok (.tuple #[.agg #[.int .u64 (o:Nat),.string m,.string p,.int .i64 a3,.int .i64 a4,.slice A n cap,.int .i64 j],.bool b]) V:=by
 rcases SQ h.nm h.ok nm with⟨q,i⟩|⟨r,k,q,i,s⟩
 ·exact⟨0,⟨#[]⟩,⟨#[]⟩,0,0,none,0,0,0,false,.inl ⟨q,rfl,rfl⟩,i⟩
 obtain⟨A,cap,e,_⟩:=(h.rows r k).open_;rw[e]at s;exact⟨_,_,_,_,_,_,_,_,_,true,.inr ⟨r,k,i,rfl,e.symm⟩,s⟩
theorem J5 {w:World}{u hi g x d:Nat}{c:aR}{l:List bV}(h:lO w u hi g x d c l)(id:Nat):
 ∃o m p a3 a4 A n cap j b,Pc l ((aJ l).find? (fun e=>decide (e.id=id))) o m p a3 a4 A n cap j b/\∀V,iV V d (wW l)->(Instr.lookup 89 (.map (some d)) (.int .u64 id) true).run prog V= .ok (.tuple #[.agg #[.int .u64 (o:Nat),.string m,.string p,.int .i64 a3,.int .i64 a4,.slice A n cap,.int .i64 j],.bool b]) V:=by
 rcases SR h.ix h.ok id with⟨q,i⟩|⟨r,k,q,i,s⟩
 ·exact⟨0,⟨#[]⟩,⟨#[]⟩,0,0,none,0,0,0,false,.inl ⟨q,rfl,rfl⟩,i⟩
 obtain⟨A,cap,e,_⟩:=(h.rows r k).open_;rw[e]at s;exact⟨_,_,_,_,_,_,_,_,_,true,.inr ⟨r,k,i,rfl,e.symm⟩,s⟩
abbrev L9 (w:World)(g:Nat)(v0 v1 v2 v3 v4 v5 v6:Value):World:=((((((w.setCell ⟨g,0,none⟩ v0).setCell ⟨g,1,none⟩ v1).setCell ⟨g,2,none⟩ v2).setCell ⟨g,3,none⟩ v3).setCell ⟨g,4,none⟩ v4).setCell ⟨g,5,none⟩ v5).setCell ⟨g,6,none⟩ v6
theorem Fc {w:World}{g:Nat}{t:TypeId}{n l j z3 z4 z5 e:Value}(h:af w g t #[n,l,j,z3,z4,z5,e])(b c d v3 v4 v5 k:Value):af (L9 w g b c d v3 v4 v5 k) g t #[b,c,d,v3,v4,v5,k]:=by
 have m:af _ g t #[b,l,j,z3,z4,z5,e]:=h.store (i:=0) (u:=b) rfl;have q:af _ g t #[b,c,j,z3,z4,z5,e]:=m.store (i:=1) (u:=c) rfl;have s:af _ g t #[b,c,d,z3,z4,z5,e]:=q.store (i:=2) (u:=d) rfl;have r:af _ g t #[b,c,d,v3,z4,z5,e]:=s.store (i:=3) (u:=v3) rfl;have p:af _ g t #[b,c,d,v3,v4,z5,e]:=r.store (i:=4) (u:=v4) rfl;have o:af _ g t #[b,c,d,v3,v4,v5,e]:=p.store (i:=5) (u:=v5) rfl;exact o.store (i:=6) (u:=k) rfl
theorem nG (w:World)(g:Nat)(d e b v3 v4 v5 c:Value):ae [g] w (L9 w g d e b v3 v4 v5 c):=(((((((ae.refl _ w).setCell (by simp) _).setCell (by simp) _).setCell (by simp) _).setCell (by simp) _).setCell (by simp) _).setCell (by simp) _).setCell (by simp) _
theorem BG {w:World}{g:Nat}{t:TypeId}{s m k z3 z4 z5 e:Value}(h:af w g t #[s,m,k,z3,z4,z5,e])(b c d v3 v4 v5 j:Value):
 (w.setCell ⟨g,0,none⟩ b).cell? ⟨g,0,none⟩=some b/\((w.setCell ⟨g,0,none⟩ b).setCell ⟨g,1,none⟩ c).cell? ⟨g,1,none⟩=some c/\(((w.setCell ⟨g,0,none⟩ b).setCell ⟨g,1,none⟩ c).setCell ⟨g,2,none⟩ d).cell? ⟨g,2,none⟩=some d/\((((w.setCell ⟨g,0,none⟩ b).setCell ⟨g,1,none⟩ c).setCell ⟨g,2,none⟩ d).setCell ⟨g,3,none⟩ v3).cell? ⟨g,3,none⟩=some v3/\
 (((((w.setCell ⟨g,0,none⟩ b).setCell ⟨g,1,none⟩ c).setCell ⟨g,2,none⟩ d).setCell ⟨g,3,none⟩ v3).setCell ⟨g,4,none⟩ v4).cell? ⟨g,4,none⟩=some v4/\((((((w.setCell ⟨g,0,none⟩ b).setCell ⟨g,1,none⟩ c).setCell ⟨g,2,none⟩ d).setCell ⟨g,3,none⟩ v3).setCell ⟨g,4,none⟩ v4).setCell ⟨g,5,none⟩ v5).cell? ⟨g,5,none⟩=some v5/\(((((((w.setCell ⟨g,0,none⟩ b).setCell ⟨g,1,none⟩ c).setCell ⟨g,2,none⟩ d).setCell ⟨g,3,none⟩ v3).setCell ⟨g,4,none⟩ v4).setCell ⟨g,5,none⟩ v5).setCell ⟨g,6,none⟩ j).cell? ⟨g,6,none⟩=some j:=by
 have l:af _ g t #[b,m,k,z3,z4,z5,e]:=h.store (i:=0) (u:=b) rfl;have p:af _ g t #[b,c,k,z3,z4,z5,e]:=l.store (i:=1) (u:=c) rfl;have r:af _ g t #[b,c,d,z3,z4,z5,e]:=p.store (i:=2) (u:=d) rfl;have q:af _ g t #[b,c,d,v3,z4,z5,e]:=r.store (i:=3) (u:=v3) rfl;have o:af _ g t #[b,c,d,v3,v4,z5,e]:=q.store (i:=4) (u:=v4) rfl;have n:af _ g t #[b,c,d,v3,v4,v5,e]:=o.store (i:=5) (u:=v5) rfl;have x:af _ g t #[b,c,d,v3,v4,v5,j]:=n.store (i:=6) (u:=j) rfl;exact⟨l.cell 0,p.cell 1,r.cell 2,q.cell 3,o.cell 4,n.cell 5,x.cell 6⟩
theorem nZ {w:World}{g:Nat}{t:TypeId}{d c e a3 a4 a5 b:Value}(h:af w g t #[d,c,e,a3,a4,a5,b]):
 w.frozen? ⟨g,0,none⟩=false/\w.frozen? ⟨g,1,none⟩=false/\w.frozen? ⟨g,2,none⟩=false/\w.frozen? ⟨g,3,none⟩=false/\w.frozen? ⟨g,4,none⟩=false/\w.frozen? ⟨g,5,none⟩=false/\w.frozen? ⟨g,6,none⟩=false:=⟨h.frozen 0,h.frozen 1,h.frozen 2,h.frozen 3,h.frozen 4,h.frozen 5,h.frozen 6⟩
def aa9 (w:World)(c:aR)(l:List bV)(f:Fr)(e:Ending)(w':World):Prop:=
 Below w.heap.size w w'/\∃a0 a1 a2 a3 a4 A n cap a6 b,e= .returned (.tuple #[.agg #[.int .u64 (a0:Nat),.string a1,.string a2,.int .i64 a3,.int .i64 a4,.slice A n cap,.int .i64 a6],.bool b])/\Pc l (fG c (aJ l) f) a0 a1 a2 a3 a4 A n cap a6 b
theorem Wb (lo hi g u q:Nat)(c:aR)(l:List bV)(f:Fr)(w:World)(h:lO w lo hi g u q c l):
 Calls prog 81 #[.pointer (some ⟨g,0,none⟩),.agg #[.int .u64 f.id,.string f.nm,.string f.body]] w fun e w'=>aa9 w c l f e w':=by
 obtain⟨id,nm,body⟩:=f;obtain⟨g0,g6,g7,_,_⟩:=h.cells;have wJ:g<w.heap.size:=yg h.g2 h.his;have aw:u<w.heap.size:=h.nm.lt;have k7:q<w.heap.size:=h.ix.lt;have av:g<w.heap.size+1:=by omega
 have ax:g<w.heap.size+1+1:=by omega
 obtain⟨W,z⟩:∃W,((w.alloc (.cells #[.int .u64 id,.string nm,.string body] 74)).alloc (.cells #[.int .u64 0,.string ⟨#[]⟩,.string ⟨#[]⟩,.int .i64 0,.int .i64 0,.slice none 0 0,.int .i64 0] 98)).alloc (.cells #[.int .u64 0,.string ⟨#[]⟩,.string ⟨#[]⟩,.int .i64 0,.int .i64 0,.slice none 0 0,.int .i64 0] 98)=W:=⟨_,rfl⟩
 have lJ:Below w.heap.size w W:=by rw[<-z];exact(((zq _ w).alloc (zf _) _).alloc (by simp) _).alloc (by simp;omega) _
 have B3:af W w.heap.size 74 #[.int .u64 id,.string nm,.string body]:=by rw[<-z];exact((af.new w _ _).alloc _).alloc _
 have pf:af W (w.heap.size+1) 98 #[.int .u64 0,.string ⟨#[]⟩,.string ⟨#[]⟩,.int .i64 0,.int .i64 0,.slice none 0 0,.int .i64 0]:=by rw[<-z];exact af.alloc (af.at_ (by simp)) _
 have kx:af W (w.heap.size+1+1) 98 #[.int .u64 0,.string ⟨#[]⟩,.string ⟨#[]⟩,.int .i64 0,.int .i64 0,.slice none 0 0,.int .i64 0]:=by rw[<-z];exact af.at_ (by simp)
 have Y:=za (h.below (lJ.mono h.his));have S:=za B3;have B:=za pf;have s:=za kx;have r:=za lJ;have U:=za z;clear z lJ B3 pf kx;by_cases o:c.fm=1
 ·have k1:(c.fm==1)=true:=xd.2 o;have k2:(c.fm !=1)=false:=by simp[o]
  have x:=za (CB o (aJ l) ⟨id,nm,body⟩);by_cases X:id=0
  ·have k3:((id:Int)==0)=true:=xd.2 (by omega);rw[zl X]at x;obtain⟨a0,p,a2,a3,a4,A,n,cap,m,b,K,L⟩:=CP h nm;have B0:=za K;have rG:=za L;clear h K L o X;have O:Hid (∀V:World,V.heap[g]?=W.heap[g]?/\V.heap[u]?=W.heap[u]?/\V.heap[w.heap.size]?=W.heap[w.heap.size]?->V.cell? ⟨g,6,none⟩=some (.map (some u))/\V.cell? ⟨w.heap.size,1,none⟩=some (.string nm)/\iV V u (wV l)):=za (fun V i=>⟨af.cell (show af V g _ _ from i.1.trans Y.out.blk) 6,af.cell (show af V w.heap.size _ _ from i.2.2.trans S.out) 1,Y.out.nm.ah i.2.1⟩);go_enter func81,ntmps81
   go_wp2_with fail
   rw[U.out];refine aA 11 (fun V=>V.cell? ⟨g,6,none⟩=some (.map (some u))/\V.cell? ⟨w.heap.size,1,none⟩=some (.string nm)/\iV V u (wV l)) (by kernel_rfl) (by kernel_rfl) ?_;have hHeld:=O.out W.drew ⟨rfl,rfl,rfl⟩;refine GT.jy [0,1,2,3,4,5,6,7,8,9] hHeld (fun _ _ _ _ _ h=>h) (by kernel_rfl) ?_;iterate 6 (refine .c rfl rfl (fun V i=>by go_simp<;>with_reducible rfl) ?_;simp only[Act.put,zb,ze,zg])
   refine .c (v:= .tuple #[.agg #[.int .u64 a0,.string p,.string a2,.int .i64 a3,.int .i64 a4,.slice A n cap,.int .i64 m],.bool b]) rfl rfl (fun V i=>by have hl:=rG.out V i.2.2;go_simp) ?_;try simp only[Act.put,zb,ze,zg];iterate 3 (refine .c rfl rfl (fun V i=>by go_simp<;>with_reducible rfl) ?_;simp only[Act.put,zb,ze,zg])
   refine .nil ?_;obtain⟨an,aq,ar,aj,Z,ai,al⟩:=mL s.out;obtain⟨XD,Xo,Xp,XG,Xy,XB,XC⟩:=nZ s.out;refine GT.fw 10 (fun ag E=> ?_) rfl (by kernel_rfl);go_simp;obtain⟨d,k⟩:∃d,L9 W (w.heap.size+1+1) (.int .u64 a0) (.string p) (.string a2) (.int .i64 a3) (.int .i64 a4) (.slice A n cap) (.int .i64 m)=d:=⟨_,rfl⟩
   have C:af d (w.heap.size+1+1) 98 #[.int .u64 a0,.string p,.string a2,.int .i64 a3,.int .i64 a4,.slice A n cap,.int .i64 m]:=by rw[<-k];exact Fc s.out _ _ _ _ _ _ _
   have j:ae [w.heap.size+1+1] W d:=by rw[<-k];exact nG W _ _ _ _ _ _ _ _
   have y:=B.out.only j (by simp);have H:Hid (Below w.heap.size w d):=za (r.out.trans (j.below (by have:=r.out.size;omega) (by simp;omega)));have J:d.drew.heap[g]?=W.heap[g]?/\d.drew.heap[u]?=W.heap[u]?/\d.drew.heap[w.heap.size]?=W.heap[w.heap.size]?:=⟨j.block _ (by have:=r.out.size;omega) (by simp;omega),j.block _ (by have:=r.out.size;omega) (by simp;omega),j.block _ (by have:=S.out.lt;omega) (by simp;omega)⟩
   unfold L9 at k;rw[k];refine E.out _ _ (O.out d.drew J) (fun hHeld=> ?_);clear E ag;try simp only[Act.put,zb,ze,zg]
   refine GT.oL 11 ?_ rfl (by kernel_rfl);go_simp;clear an aq ar aj Z ai al XD Xo Xp XG Xy XB XC k J j;obtain⟨aa,ak,ad,ah,ab,au,ao⟩:=mL C;obtain⟨XE,XH,Xr,Xn,Xw,Xu,Xt⟩:=nZ C;obtain⟨G,N,M,R,I,F,D⟩:=mL y;obtain⟨Xs,XA,Xq,XF,Xv,Xx,Xz⟩:=nZ y;go_wp2;obtain⟨r0,r1,r2,r3,r4,r5,r6⟩:=BG y (.int .u64 a0) (.string p) (.string a2) (.int .i64 a3) (.int .i64 a4) (.slice A n cap) (.int .i64 m);refine zo (v:= .tuple #[.agg #[.int .u64 a0,.string p,.string a2,.int .i64 a3,.int .i64 a4,.slice A n cap,.int .i64 m],.bool b]) (by simp[results,results81,go_sem,r0,r1,r2,r3,r4,r5,r6]) rfl ?_;exact⟨(H.out.trans ((nG d (w.heap.size+1) _ _ _ _ _ _ _).below H.out.size (by simp))).drew,_,_,_,_,_,_,_,_,_,_,rfl,(by rw[x.out];exact B0.out)⟩
  have k3:((id:Int)==0)=false:=zr.2 (by omega);rw[zj X]at x;clear h o X;go_enter func81,ntmps81
  go_wp2_with fail
  rw[U.out];obtain⟨aa,ak,ad,ah,ab,au,ao⟩:=mL s.out;obtain⟨XE,XH,Xr,Xn,Xw,Xu,Xt⟩:=nZ s.out;obtain⟨G,N,M,R,I,F,D⟩:=mL B.out;obtain⟨Xs,XA,Xq,XF,Xv,Xx,Xz⟩:=nZ B.out;go_wp2;refine zo (v:= .tuple #[CH,.bool false]) (by simp[CH,results,results81,go_sem,G,N,M,R,I,F,D]) rfl ?_;exact⟨r.out,0,_,_,_,_,_,_,_,_,_,rfl,by rw[x.out];exact .inl ⟨rfl,rfl,rfl⟩⟩
 have k1:(c.fm==1)=false:=zr.2 o;have k2:(c.fm !=1)=true:=yQ.2 o;rcases fJ nm with⟨hz,rfl⟩|⟨hz,k3,k4⟩
 ·have x:Hid (fG c (aJ l) ⟨id,⟨#[]⟩,body⟩=(aJ l).find? (fun e=>decide (e.id=id))):=za (by unfold fG;congr 1;funext e;exact SK o ⟨id,⟨#[]⟩,body⟩ hz e);obtain⟨a0,p,a2,a3,a4,A,n,cap,m,b,K,L⟩:=J5 h id;have B0:=za K;have rG:=za L;clear h K L o hz;have O:Hid (∀V:World,V.heap[g]?=W.heap[g]?/\V.heap[q]?=W.heap[q]?/\V.heap[w.heap.size]?=W.heap[w.heap.size]?->V.cell? ⟨g,7,none⟩=some (.map (some q))/\V.cell? ⟨w.heap.size,0,none⟩=some (.int .u64 id)/\iV V q (wW l)):=za (fun V i=>⟨af.cell (show af V g _ _ from i.1.trans Y.out.blk) 7,af.cell (show af V w.heap.size _ _ from i.2.2.trans S.out) 0,Y.out.ix.ah i.2.1⟩);go_enter func81,ntmps81
  go_wp2_with fail
  rw[U.out];refine aA 11 (fun V=>V.cell? ⟨g,7,none⟩=some (.map (some q))/\V.cell? ⟨w.heap.size,0,none⟩=some (.int .u64 id)/\iV V q (wW l)) (by kernel_rfl) (by kernel_rfl) ?_;have hHeld:=O.out W.drew ⟨rfl,rfl,rfl⟩;refine GT.jy [0,1,2,3,4,5,6,7,8,9] hHeld (fun _ _ _ _ _ h=>h) (by kernel_rfl) ?_;iterate 6 (refine .c rfl rfl (fun V i=>by go_simp<;>with_reducible rfl) ?_;simp only[Act.put,zb,ze,zg])
  refine .c (v:= .tuple #[.agg #[.int .u64 a0,.string p,.string a2,.int .i64 a3,.int .i64 a4,.slice A n cap,.int .i64 m],.bool b]) rfl rfl (fun V i=>by have hl:=rG.out V i.2.2;go_simp) ?_;try simp only[Act.put,zb,ze,zg];iterate 3 (refine .c rfl rfl (fun V i=>by go_simp<;>with_reducible rfl) ?_;simp only[Act.put,zb,ze,zg])
  refine .nil ?_;obtain⟨an,aq,ar,aj,Z,ai,al⟩:=mL s.out;obtain⟨XD,Xo,Xp,XG,Xy,XB,XC⟩:=nZ s.out;refine GT.fw 10 (fun ag E=> ?_) rfl (by kernel_rfl);go_simp;obtain⟨d,k⟩:∃d,L9 W (w.heap.size+1+1) (.int .u64 a0) (.string p) (.string a2) (.int .i64 a3) (.int .i64 a4) (.slice A n cap) (.int .i64 m)=d:=⟨_,rfl⟩
  have C:af d (w.heap.size+1+1) 98 #[.int .u64 a0,.string p,.string a2,.int .i64 a3,.int .i64 a4,.slice A n cap,.int .i64 m]:=by rw[<-k];exact Fc s.out _ _ _ _ _ _ _
  have j:ae [w.heap.size+1+1] W d:=by rw[<-k];exact nG W _ _ _ _ _ _ _ _
  have y:=B.out.only j (by simp);have H:Hid (Below w.heap.size w d):=za (r.out.trans (j.below (by have:=r.out.size;omega) (by simp;omega)));have J:d.drew.heap[g]?=W.heap[g]?/\d.drew.heap[q]?=W.heap[q]?/\d.drew.heap[w.heap.size]?=W.heap[w.heap.size]?:=⟨j.block _ (by have:=r.out.size;omega) (by simp;omega),j.block _ (by have:=r.out.size;omega) (by simp;omega),j.block _ (by have:=S.out.lt;omega) (by simp;omega)⟩
  unfold L9 at k;rw[k];refine E.out _ _ (O.out d.drew J) (fun hHeld=> ?_);clear E ag;try simp only[Act.put,zb,ze,zg]
  refine GT.oL 11 ?_ rfl (by kernel_rfl);go_simp;clear an aq ar aj Z ai al XD Xo Xp XG Xy XB XC k J j;obtain⟨aa,ak,ad,ah,ab,au,ao⟩:=mL C;obtain⟨XE,XH,Xr,Xn,Xw,Xu,Xt⟩:=nZ C;obtain⟨G,N,M,R,I,F,D⟩:=mL y;obtain⟨Xs,XA,Xq,XF,Xv,Xx,Xz⟩:=nZ y;go_wp2;obtain⟨r0,r1,r2,r3,r4,r5,r6⟩:=BG y (.int .u64 a0) (.string p) (.string a2) (.int .i64 a3) (.int .i64 a4) (.slice A n cap) (.int .i64 m);refine zo (v:= .tuple #[.agg #[.int .u64 a0,.string p,.string a2,.int .i64 a3,.int .i64 a4,.slice A n cap,.int .i64 m],.bool b]) (by simp[results,results81,go_sem,r0,r1,r2,r3,r4,r5,r6]) rfl ?_;exact⟨(H.out.trans ((nG d (w.heap.size+1) _ _ _ _ _ _ _).below H.out.size (by simp))).drew,_,_,_,_,_,_,_,_,_,_,rfl,(by rw[x.out];exact B0.out)⟩
 have x:=za (Hi o (aJ l) ⟨id,nm,body⟩ hz);clear h o hz;go_enter func81,ntmps81
 go_wp2_with fail
 rw[U.out];obtain⟨aa,ak,ad,ah,ab,au,ao⟩:=mL s.out;obtain⟨XE,XH,Xr,Xn,Xw,Xu,Xt⟩:=nZ s.out;obtain⟨G,N,M,R,I,F,D⟩:=mL B.out;obtain⟨Xs,XA,Xq,XF,Xv,Xx,Xz⟩:=nZ B.out;go_wp2;refine zo (v:= .tuple #[CH,.bool false]) (by simp[CH,results,results81,go_sem,G,N,M,R,I,F,D]) rfl ?_;exact⟨r.out,0,_,_,_,_,_,_,_,_,_,rfl,by rw[x.out];exact .inl ⟨rfl,rfl,rfl⟩⟩
