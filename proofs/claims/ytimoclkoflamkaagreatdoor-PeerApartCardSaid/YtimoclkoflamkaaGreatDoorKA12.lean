/- package registry: the row of a frame (of); Len, Config. -/
import Derived.Test.YtimoclkoflamkaaGreatDoorKA9
import Derived.Test.YtimoclkoflamkaaGreatDoorKA10
set_option linter.all false
set_option maxRecDepth 100000
set_option maxHeartbeats 3200000
open Go.Proofs.Tryz
namespace Go.Proofs.YtimoclkoflamkaaGreatDoor
open Go.RowKit
variable {w:World}{g hi i x:Nat}{t:TypeId}{e z3 z4 z5:Value}{l:List bX}
def Yq:=@results102
theorem Vn.open_ {S:Nat->Prop}{r:bX}(h:Vn w S r):∃A cap,r.2= .agg #[.int .u64 r.1.id,r.1.name,r.1.ty,r.1.shape.kind,r.1.shape.size,.slice A r.1.shape.sub.length cap,r.1.shape.tail]/\fX w S r.1.shape r.1.shape.kind r.1.shape.size (.slice A r.1.shape.sub.length cap) r.1.shape.tail:=by
 obtain⟨c,i,d,b,e,h⟩:=h;obtain⟨A,cap,rfl,rfl,rfl,rfl,_⟩:=h.open_;exact⟨A,cap,e,h⟩
def Qi (l:List bX)(o:Option bj)(a0:Nat)(a1 a2:ByteArray)(a3 a4:Int)(A:Option Addr)(n cap:Nat)(a6:Int)(b:Bool):Prop:=
 (o=none/\b=false/\Value.agg #[.int .u64 a0,a1,a2,a3,a4,.slice A n cap,a6]=C6)\/∃r∈l,o=some r.1/\b=true/\Value.agg #[.int .u64 a0,a1,a2,a3,a4,.slice A n cap,a6]=r.2
theorem Dh {u:Nat}{c:aM}(h:kV w u hi g i x c l)(nm:ByteArray):
 ∃p j k a3 a4 A n cap m b,Qi l (fA (aJ l) nm) p j k a3 a4 A n cap m b/\∀V,jf V i (Aw l)->(Instr.lookup 116 (.map (some i)) nm true).run prog V= .ok (.tuple #[.agg #[.int .u64 (p:Nat),j,k,a3,a4,.slice A n cap,m],b]) V:=by
 rcases Tw h.nm h.ok nm with⟨q,d⟩|⟨r,o,q,d,s⟩
 ·exact⟨0,⟨#[]⟩,⟨#[]⟩,0,0,none,0,0,0,false,.inl ⟨q,rfl,rfl⟩,d⟩
 obtain⟨A,cap,e,_⟩:=(h.rows r o).open_;rw[e]at s;exact⟨_,_,_,_,_,_,_,_,_,true,.inr ⟨r,o,d,rfl,e.symm⟩,s⟩
theorem KH {u:Nat}{c:aM}(h:kV w x hi g u i c l)(id:Nat):
 ∃p j k a3 a4 A n cap m b,Qi l ((aJ l).find? (fun e=>decide (e.id=id))) p j k a3 a4 A n cap m b/\∀V,jf V i (AB l)->(Instr.lookup 117 (.map (some i)) (.int .u64 id) true).run prog V= .ok (.tuple #[.agg #[.int .u64 (p:Nat),j,k,a3,a4,.slice A n cap,m],b]) V:=by
 rcases Tx h.ix h.ok id with⟨q,d⟩|⟨r,o,q,d,s⟩
 ·exact⟨0,⟨#[]⟩,⟨#[]⟩,0,0,none,0,0,0,false,.inl ⟨q,rfl,rfl⟩,d⟩
 obtain⟨A,cap,e,_⟩:=(h.rows r o).open_;rw[e]at s;exact⟨_,_,_,_,_,_,_,_,_,true,.inr ⟨r,o,d,rfl,e.symm⟩,s⟩
abbrev MZ (w:World)(g:Nat)(v0 v1 v2 v3 v4 v5 v6:Value):World:=((((((w.setCell (g,0) v0).setCell (g,1) v1).setCell (g,2) v2).setCell (g,3) v3).setCell (g,4) v4).setCell (g,5) v5).setCell (g,6) v6
theorem FN {n l j:Value}(h:ag w g t #[n,l,j,z3,z4,z5,e])(b c d v3 v4 v5 k:Value):ag (MZ w g b c d v3 v4 v5 k) g t #[b,c,d,v3,v4,v5,k]:=by
 have o:ag _ g t #[b,l,j,z3,z4,z5,e]:=h.store (i:=0) (u:=b) rfl;have q:ag _ g t #[b,c,j,z3,z4,z5,e]:=o.store (i:=1) (u:=c) rfl;have m:ag _ g t #[b,c,d,z3,z4,z5,e]:=q.store (i:=2) (u:=d) rfl;have r:ag _ g t #[b,c,d,v3,z4,z5,e]:=m.store (i:=3) (u:=v3) rfl;have s:ag _ g t #[b,c,d,v3,v4,z5,e]:=r.store (i:=4) (u:=v4) rfl;have p:ag _ g t #[b,c,d,v3,v4,v5,e]:=s.store (i:=5) (u:=v5) rfl;exact p.store (i:=6) (u:=k) rfl
theorem nY (w:World)(g:Nat)(d c b v3 v4 v5 e:Value):ae [g] w (MZ w g d c b v3 v4 v5 e):=(((((((ae.refl _ w).setCell (by simp) _).setCell (by simp) _).setCell (by simp) _).setCell (by simp) _).setCell (by simp) _).setCell (by simp) _).setCell (by simp) _
theorem B6 {s l k:Value}(h:ag w g t #[s,l,k,z3,z4,z5,e])(b c d v3 v4 v5 j:Value):
 ((w.setCell (g,0) b),g,0,b)/\(((w.setCell (g,0) b).setCell (g,1) c),g,1,c)/\((((w.setCell (g,0) b).setCell (g,1) c).setCell (g,2) d),g,2,d)/\(((((w.setCell (g,0) b).setCell (g,1) c).setCell (g,2) d).setCell (g,3) v3),g,3,v3)/\
 ((((((w.setCell (g,0) b).setCell (g,1) c).setCell (g,2) d).setCell (g,3) v3).setCell (g,4) v4),g,4,v4)/\(((((((w.setCell (g,0) b).setCell (g,1) c).setCell (g,2) d).setCell (g,3) v3).setCell (g,4) v4).setCell (g,5) v5),g,5,v5)/\((((((((w.setCell (g,0) b).setCell (g,1) c).setCell (g,2) d).setCell (g,3) v3).setCell (g,4) v4).setCell (g,5) v5).setCell (g,6) j),g,6,j):=by
 have n:ag _ g t #[b,l,k,z3,z4,z5,e]:=h.store (i:=0) (u:=b) rfl;have p:ag _ g t #[b,c,k,z3,z4,z5,e]:=n.store (i:=1) (u:=c) rfl;have m:ag _ g t #[b,c,d,z3,z4,z5,e]:=p.store (i:=2) (u:=d) rfl;have q:ag _ g t #[b,c,d,v3,z4,z5,e]:=m.store (i:=3) (u:=v3) rfl;have r:ag _ g t #[b,c,d,v3,v4,z5,e]:=q.store (i:=4) (u:=v4) rfl;have o:ag _ g t #[b,c,d,v3,v4,v5,e]:=r.store (i:=5) (u:=v5) rfl;have x:ag _ g t #[b,c,d,v3,v4,v5,j]:=o.store (i:=6) (u:=j) rfl;exact⟨n.cell 0,p.cell 1,m.cell 2,q.cell 3,r.cell 4,o.cell 5,x.cell 6⟩
theorem oE {c b d a3 a4 a5:Value}(h:ag w g t #[c,b,d,a3,a4,a5,e]):
 w.frozen? (g,0)=false/\w.frozen? (g,1)=false/\w.frozen? (g,2)=false/\w.frozen? (g,3)=false/\w.frozen? (g,4)=false/\w.frozen? (g,5)=false/\w.frozen? (g,6)=false:=⟨h.frozen 0,h.frozen 1,h.frozen 2,h.frozen 3,h.frozen 4,h.frozen 5,h.frozen 6⟩
def acj (w:World)(c:aM)(l:List bX)(f:Fr)(e:Ending)(w':World):Prop:=
 Below w.heap.size w w'/\∃a0 a1 a2 a3 a4 A n cap a6 b,e= .returned (.tuple #[.agg #[.int .u64 (a0:Nat),.string a1,.string a2,.int .i64 a3,.int .i64 a4,.slice A n cap,.int .i64 a6],.bool b])/\Qi l (fQ c (aJ l) f) a0 a1 a2 a3 a4 A n cap a6 b
theorem Xw (lo hi g u s:Nat)(c:aM)(l:List bX)(f:Fr)(w:World)(h:kV w lo hi g u s c l):
 Calls prog 102 #[(g,0),.agg #[.int .u64 f.id,f.nm,f.body]] w fun e w'=>acj w c l f e w':=by
 obtain⟨id,nm,body⟩:=f;obtain⟨g0,g6,g7,_,_⟩:=h.cells;have Ai:g<w.heap.size:=zQ h.g2 h.his;have ax:u<w.heap.size:=h.nm.lt;have lp:s<w.heap.size:=h.ix.lt;have aw:g<w.heap.size+1:=by omega
 have av:g<w.heap.size+1+1:=by omega
 obtain⟨W,B⟩:∃W,((w.alloc (.cells #[.int .u64 id,nm,body] 103)).alloc (.cells #[.int .u64 0,eS,eS,(0:Int),(0:Int),nS,(0:Int)] 126)).alloc (.cells #[.int .u64 0,eS,eS,(0:Int),(0:Int),nS,(0:Int)] 126)=W:=⟨_,rfl⟩
 have kt:Below w.heap.size w W:=by rw[<-B];exact(((zm _ w).alloc (zd _) _).alloc (by simp) _).alloc (by simp;omega) _
 have Cs:ag W w.heap.size 103 #[.int .u64 id,nm,body]:=by rw[<-B];exact((ag.new w _ _).alloc _).alloc _
 have pK:ag W (w.heap.size+1) 126 #[.int .u64 0,eS,eS,(0:Int),(0:Int),nS,(0:Int)]:=by rw[<-B];exact ag.alloc (ag.at_ (by simp)) _
 have my:ag W (w.heap.size+1+1) 126 #[.int .u64 0,eS,eS,(0:Int),(0:Int),nS,(0:Int)]:=by rw[<-B];exact ag.at_ (by simp)
 have S:=za (h.below (kt.mono h.his));have Y:=za Cs;have z:=za pK;have r:=za my;have q:=za kt;have X:=za B;clear B kt Cs pK my;by_cases p:c.fm=1
 ·have k1:(c.fm==1)=true:=yO.2 p;have k2:(c.fm !=1)=false:=by simp[p]
  have x:=za (CX p (aJ l) ⟨id,nm,body⟩);by_cases U:id=0
  ·have k3:((id:Int)==0)=true:=yO.2 (by omega);rw[zj U]at x;obtain⟨a0,m,a2,a3,a4,A,n,cap,o,b,C,L⟩:=Dh h nm;have uK:=za C;have Ou:=za L;clear h C L p U;have F:Hid (∀V:World,V.heap[g]?=W.heap[g]?/\V.heap[u]?=W.heap[u]?/\V.heap[w.heap.size]?=W.heap[w.heap.size]?->V.cell? ⟨g,6,none⟩=some (.map (some u))/\V.cell? ⟨w.heap.size,1,none⟩=some (.string nm)/\jf V u (Aw l)):=za (fun V i=>⟨ag.cell (show ag V g _ _ from i.1.trans S.out.blk) 6,ag.cell (show ag V w.heap.size _ _ from i.2.2.trans Y.out) 1,S.out.nm.ah i.2.1⟩);go_enter func102,ntmps102
   go_wp2_with fail
   rw[X.out];refine aK 11 (fun V=>V.cell? ⟨g,6,none⟩=some (.map (some u))/\V.cell? ⟨w.heap.size,1,none⟩=some (.string nm)/\jf V u (Aw l)) (by kernel_rfl) (by kernel_rfl) ?_;have hHeld:=F.out W.drew ⟨rfl,rfl,rfl⟩;refine GT.jM [0,1,2,3,4,5,6,7,8,9] hHeld (fun _ _ _ _ _ h=>h) (by kernel_rfl) ?_;iterate 6 (refine .c rfl rfl (fun V i=>by go_simp<;>with_reducible rfl) ?_;simp only[Act.put,zb,ze,zg])
   refine .c (v:= .tuple #[.agg #[.int .u64 a0,m,a2,a3,a4,.slice A n cap,o],b]) rfl rfl (fun V i=>by have hl:=Ou.out V i.2.2;go_simp) ?_;try simp only[Act.put,zb,ze,zg];iterate 3 (refine .c rfl rfl (fun V i=>by go_simp<;>with_reducible rfl) ?_;simp only[Act.put,zb,ze,zg])
   refine .nil ?_;obtain⟨ad,ah,aj,Z,aa,aq,af⟩:=ni r.out;obtain⟨YS,Y1,Y3,Y4,Y6,Y5,Y'⟩:=oE r.out;refine GT.gw 10 (fun ao N=> ?_) rfl (by kernel_rfl);go_simp;obtain⟨d,k⟩:∃d,MZ W (w.heap.size+1+1) (.int .u64 a0) m a2 a3 a4 (.slice A n cap) o=d:=⟨_,rfl⟩
   have R:ag d (w.heap.size+1+1) 126 #[.int .u64 a0,m,a2,a3,a4,.slice A n cap,o]:=by rw[<-k];exact FN r.out _ _ _ _ _ _ _
   have j:ae [w.heap.size+1+1] W d:=by rw[<-k];exact nY W _ _ _ _ _ _ _ _
   have y:=z.out.only j (by simp);have I:Hid (w,d):=za (q.out.trans (j.below (by have:=q.out.size;omega) (by simp;omega)));have J:d.drew.heap[g]?=W.heap[g]?/\d.drew.heap[u]?=W.heap[u]?/\d.drew.heap[w.heap.size]?=W.heap[w.heap.size]?:=⟨j.block _ (by have:=q.out.size;omega) (by simp;omega),j.block _ (by have:=q.out.size;omega) (by simp;omega),j.block _ (by have:=Y.out.lt;omega) (by simp;omega)⟩
   unfold MZ at k;rw[k];refine N.out _ _ (F.out d.drew J) (fun hHeld=> ?_);clear N ao;try simp only[Act.put,zb,ze,zg]
   refine GT.pF 11 ?_ rfl (by kernel_rfl);go_simp;clear ad ah aj Z aa aq af YS Y1 Y3 Y4 Y6 Y5 Y' k J j;obtain⟨au,ai,an,ab,ak,ar,al⟩:=ni R;obtain⟨YW,YZ,Y7,YV,Y8,YX,YT⟩:=oE R;obtain⟨H,E,G,O,M,D,K⟩:=ni y;obtain⟨Y2,Y0,YU,YR,Z',YY,Y9⟩:=oE y;go_wp2;obtain⟨r0,r1,r2,r3,r4,r5,r6⟩:=B6 y (.int .u64 a0) m a2 a3 a4 (.slice A n cap) o;refine zl (v:= .tuple #[.agg #[.int .u64 a0,m,a2,a3,a4,.slice A n cap,o],b]) (by simp[results,Yq,go_sem,r0,r1,r2,r3,r4,r5,r6]) rfl ?_;exact⟨(I.out.trans ((nY d (w.heap.size+1) _ _ _ _ _ _ _).below I.out.size (by simp))).drew,_,_,_,_,_,_,_,_,_,_,rfl,(by rw[x.out];exact uK.out)⟩
  have k3:((id:Int)==0)=false:=zp.2 (by omega);rw[zi U]at x;clear h p U;go_enter func102,ntmps102
  go_wp2_with fail
  rw[X.out];obtain⟨au,ai,an,ab,ak,ar,al⟩:=ni r.out;obtain⟨YW,YZ,Y7,YV,Y8,YX,YT⟩:=oE r.out;obtain⟨H,E,G,O,M,D,K⟩:=ni z.out;obtain⟨Y2,Y0,YU,YR,Z',YY,Y9⟩:=oE z.out;go_wp2;refine zl (v:= .tuple #[C6,false]) (by simp[C6,results,Yq,go_sem,H,E,G,O,M,D,K]) rfl ?_;exact⟨q.out,0,_,_,_,_,_,_,_,_,_,rfl,by rw[x.out];exact .inl ⟨rfl,rfl,rfl⟩⟩
 have k1:(c.fm==1)=false:=zp.2 p;have k2:(c.fm !=1)=true:=yN.2 p;rcases fU nm with⟨hz,rfl⟩|⟨hz,k3,k4⟩
 ·have x:Hid (fQ c (aJ l) ⟨id,⟨#[]⟩,body⟩=(aJ l).find? (fun e=>decide (e.id=id))):=za (by unfold fQ;congr 1;funext e;exact To p ⟨id,⟨#[]⟩,body⟩ hz e);obtain⟨a0,m,a2,a3,a4,A,n,cap,o,b,C,L⟩:=KH h id;have uK:=za C;have Ou:=za L;clear h C L p hz;have F:Hid (∀V:World,V.heap[g]?=W.heap[g]?/\V.heap[s]?=W.heap[s]?/\V.heap[w.heap.size]?=W.heap[w.heap.size]?->V.cell? ⟨g,7,none⟩=some (.map (some s))/\V.cell? ⟨w.heap.size,0,none⟩=some (.int .u64 id)/\jf V s (AB l)):=za (fun V i=>⟨ag.cell (show ag V g _ _ from i.1.trans S.out.blk) 7,ag.cell (show ag V w.heap.size _ _ from i.2.2.trans Y.out) 0,S.out.ix.ah i.2.1⟩);go_enter func102,ntmps102
  go_wp2_with fail
  rw[X.out];refine aK 11 (fun V=>V.cell? ⟨g,7,none⟩=some (.map (some s))/\V.cell? ⟨w.heap.size,0,none⟩=some (.int .u64 id)/\jf V s (AB l)) (by kernel_rfl) (by kernel_rfl) ?_;have hHeld:=F.out W.drew ⟨rfl,rfl,rfl⟩;refine GT.jM [0,1,2,3,4,5,6,7,8,9] hHeld (fun _ _ _ _ _ h=>h) (by kernel_rfl) ?_;iterate 6 (refine .c rfl rfl (fun V i=>by go_simp<;>with_reducible rfl) ?_;simp only[Act.put,zb,ze,zg])
  refine .c (v:= .tuple #[.agg #[.int .u64 a0,m,a2,a3,a4,.slice A n cap,o],b]) rfl rfl (fun V i=>by have hl:=Ou.out V i.2.2;go_simp) ?_;try simp only[Act.put,zb,ze,zg];iterate 3 (refine .c rfl rfl (fun V i=>by go_simp<;>with_reducible rfl) ?_;simp only[Act.put,zb,ze,zg])
  refine .nil ?_;obtain⟨ad,ah,aj,Z,aa,aq,af⟩:=ni r.out;obtain⟨YS,Y1,Y3,Y4,Y6,Y5,Y'⟩:=oE r.out;refine GT.gw 10 (fun ao N=> ?_) rfl (by kernel_rfl);go_simp;obtain⟨d,k⟩:∃d,MZ W (w.heap.size+1+1) (.int .u64 a0) m a2 a3 a4 (.slice A n cap) o=d:=⟨_,rfl⟩
  have R:ag d (w.heap.size+1+1) 126 #[.int .u64 a0,m,a2,a3,a4,.slice A n cap,o]:=by rw[<-k];exact FN r.out _ _ _ _ _ _ _
  have j:ae [w.heap.size+1+1] W d:=by rw[<-k];exact nY W _ _ _ _ _ _ _ _
  have y:=z.out.only j (by simp);have I:Hid (w,d):=za (q.out.trans (j.below (by have:=q.out.size;omega) (by simp;omega)));have J:d.drew.heap[g]?=W.heap[g]?/\d.drew.heap[s]?=W.heap[s]?/\d.drew.heap[w.heap.size]?=W.heap[w.heap.size]?:=⟨j.block _ (by have:=q.out.size;omega) (by simp;omega),j.block _ (by have:=q.out.size;omega) (by simp;omega),j.block _ (by have:=Y.out.lt;omega) (by simp;omega)⟩
  unfold MZ at k;rw[k];refine N.out _ _ (F.out d.drew J) (fun hHeld=> ?_);clear N ao;try simp only[Act.put,zb,ze,zg]
  refine GT.pF 11 ?_ rfl (by kernel_rfl);go_simp;clear ad ah aj Z aa aq af YS Y1 Y3 Y4 Y6 Y5 Y' k J j;obtain⟨au,ai,an,ab,ak,ar,al⟩:=ni R;obtain⟨YW,YZ,Y7,YV,Y8,YX,YT⟩:=oE R;obtain⟨H,E,G,O,M,D,K⟩:=ni y;obtain⟨Y2,Y0,YU,YR,Z',YY,Y9⟩:=oE y;go_wp2;obtain⟨r0,r1,r2,r3,r4,r5,r6⟩:=B6 y (.int .u64 a0) m a2 a3 a4 (.slice A n cap) o;refine zl (v:= .tuple #[.agg #[.int .u64 a0,m,a2,a3,a4,.slice A n cap,o],b]) (by simp[results,Yq,go_sem,r0,r1,r2,r3,r4,r5,r6]) rfl ?_;exact⟨(I.out.trans ((nY d (w.heap.size+1) _ _ _ _ _ _ _).below I.out.size (by simp))).drew,_,_,_,_,_,_,_,_,_,_,rfl,(by rw[x.out];exact uK.out)⟩
 have x:=za (Iy p (aJ l) ⟨id,nm,body⟩ hz);clear h p hz;go_enter func102,ntmps102
 go_wp2_with fail
 rw[X.out];obtain⟨au,ai,an,ab,ak,ar,al⟩:=ni r.out;obtain⟨YW,YZ,Y7,YV,Y8,YX,YT⟩:=oE r.out;obtain⟨H,E,G,O,M,D,K⟩:=ni z.out;obtain⟨Y2,Y0,YU,YR,Z',YY,Y9⟩:=oE z.out;go_wp2;refine zl (v:= .tuple #[C6,false]) (by simp[C6,results,Yq,go_sem,H,E,G,O,M,D,K]) rfl ?_;exact⟨q.out,0,_,_,_,_,_,_,_,_,_,rfl,by rw[x.out];exact .inl ⟨rfl,rfl,rfl⟩⟩
