/- package registry: the ways a value is laid and got (method values over caps). -/
import Derived.Test.YtdbmifjankgfpaaGreatDoorKA24
import Derived.Test.YtdbmifjankgfpaaGreatDoorKA27
import Derived.Test.YtdbmifjankgfpaaGreatDoorKA31
set_option linter.all false
set_option maxRecDepth 100000
set_option maxHeartbeats 1000000
open Go.Proofs.Tryz
namespace Go.Proofs.YtdbmifjankgfpaaGreatDoor
open Go.RowKit
theorem Uk {w W:World}{d m k b j t3 c e i:Value}(h:((w.alloc (.cells #[d,m] 145)).alloc (.cells #[k,b,j,t3] 43)).alloc (.cells #[c,e,i] 28)=W):
 W.heap.size=w.heap.size+3/\Below w.heap.size w W/\af W w.heap.size 145 #[d,m]/\af W (w.heap.size+1) 43 #[k,b,j,t3]/\af W (w.heap.size+1+1) 28 #[c,e,i]:=by
 subst h;exact⟨by simp,(((zl _ w).alloc (zd _) _).alloc (by simp) _).alloc (by simp;omega) _,((af.new w _ _).alloc _).alloc _,af.alloc (af.at_ (by simp)) _,af.at_ (by simp)⟩
theorem Nw (ty:Ty)(x:It)(D M:Int)(B:Nat)(w:World)(h c d t3 i k j:Value)(n:cD w B ty h c d t3)(m:dg w B x i k j)(q:B<=w.heap.size)(r:Laid w)(s:x.gI.length<=1099511627776):
 Calls prog 86 #[.agg #[.int .i64 D,.int .i64 M],.agg #[h,c,d,t3],.agg #[i,k,j]] w fun e w'=>e= .returned (.tuple #[.string (if gU ty x D M=0 then(⟨x.gI.toArray⟩:ByteArray)else(⟨#[]⟩:ByteArray)),.int .i64 (gU ty x D M)])/\Below w.heap.size w w':=by
 obtain⟨W,l⟩:∃W,((w.alloc (.cells #[.int .i64 D,.int .i64 M] 145)).alloc (.cells #[h,c,d,t3] 43)).alloc (.cells #[i,k,j] 28)=W:=⟨_,rfl⟩
 obtain⟨hz,b,z,o,p⟩:=Uk l;have G:=za (Nu ty x D M B W h c d t3 i k j (n.below (b.mono q)) (m.below (b.mono q)) (by omega) (r.below b r.pos) s);obtain⟨A,cap,rfl,rfl,rfl,rfl,_⟩:=n.open_;obtain⟨H,R,rfl,rfl,rfl,_⟩:=m.open_;obtain⟨K,O,X,I,_⟩:=aU o;obtain⟨U,J,N⟩:=kz p;have y:=za l;have F:=za b;have u:=za hz;generalize (if gU ty x D M=0 then(⟨x.gI.toArray⟩:ByteArray)else(⟨#[]⟩:ByteArray))=S at*;generalize (gU ty x D M)=E at*;clear n m l b hz z p o;go_enter func86,ntmps86
 go_wp2_with fail
 rw[y.out];refine G.out.mono ?_;rintro e L ⟨rfl,C⟩;go_wp2;go_ret2
 exact⟨rfl,F.out.trans (C.mono (by have:=u.out;omega))⟩
theorem Gg (ty:Ty)(x:It)(D M:Int)(B:Nat)(w:World)(h c d t3 i k j:Value)(n:cD w B ty h c d t3)(m:dg w B x i k j)(r:B<=w.heap.size)(s:Laid w)(q:ba w):
 Calls prog 88 #[.agg #[.int .i64 D,.int .i64 M],.agg #[h,c,d,t3],.agg #[i,k,j]] w fun e w'=>e= .returned (.tuple #[.string (oS ty x M).1,.int .i64 (oS ty x M).2])/\Below w.heap.size w w':=by
 obtain⟨W,l⟩:∃W,((w.alloc (.cells #[.int .i64 D,.int .i64 M] 145)).alloc (.cells #[h,c,d,t3] 43)).alloc (.cells #[i,k,j] 28)=W:=⟨_,rfl⟩
 obtain⟨hz,b,z,o,p⟩:=Uk l;have G:=za (Gc ty x M B W h c d t3 i k j (n.below (b.mono r)) (m.below (b.mono r)) (by omega) (s.below b s.pos) (q.below b q.pos));obtain⟨A,cap,rfl,rfl,rfl,rfl,_⟩:=n.open_;obtain⟨H,R,rfl,rfl,rfl,_⟩:=m.open_;obtain⟨K,O,X,I,_⟩:=aU o;obtain⟨U,J,N⟩:=kz p;have y:=za l;have F:=za b;have u:=za hz;generalize (oS ty x M).1=S at*;generalize (oS ty x M).2=E at*;clear n m l b hz z p o;go_enter func88,ntmps88
 go_wp2_with fail
 rw[y.out];refine G.out.mono ?_;rintro e L ⟨rfl,C⟩;go_wp2;go_ret2
 exact⟨rfl,F.out.trans (C.mono (by have:=u.out;omega))⟩
theorem Ny (ty:Ty)(s:ByteArray)(D M:Int)(B:Nat)(w:World)(h c d t3:Value)(o:cD w B ty h c d t3)(R:B<=w.heap.size)(y:Laid w)(G:s.size<=4611686018427387904):
 Calls prog 87 #[.agg #[.int .i64 D,.int .i64 M],.agg #[h,c,d,t3],.string s] w fun e w'=>vM w w' (qu ty s D M) (ky ty s D M) e:=by
 obtain⟨W,n⟩:∃W,((w.alloc (.cells #[.int .i64 D,.int .i64 M] 145)).alloc (.cells #[h,c,d,t3] 43)).alloc (.cells #[.string ⟨#[]⟩,.bool false,.slice none 0 0] 28)=W:=⟨_,rfl⟩
 obtain⟨hz,i,H,p,q⟩:=Uk n;have HC:=za (Nv ty s D M B W h c d t3 (o.below (i.mono R)) (by omega) (y.below i y.pos) G);obtain⟨A,cap,rfl,rfl,rfl,rfl,_⟩:=o.open_;obtain⟨K,U,Z,z,_⟩:=aU p;have Y:=za q;have C:=za n;have S:=za i;have b:=za hz;generalize (qu ty s D M)=X at*;generalize (ky ty s D M)=E at*;clear o n i hz H q p;go_enter func87,ntmps87
 go_wp2_with fail
 rw[C.out];refine HC.out.mono ?_;rintro e m ⟨j,d0,d1,d2,rfl,l⟩;obtain⟨r,bx,rfl,rfl,rfl,_⟩:=l.open_;have J:=za l;have u:=Y.out.ag j (by have:=b.out;omega);have O:Hid (Below w.heap.size w m):=za (S.out.trans (j.mono (by have:=b.out;omega)));have cl:w.heap.size+3<=m.heap.size:=by have:=j.size;have:=b.out;omega
 obtain⟨p0,p1,p2,Ev,Eu,Ew⟩:=bg u;obtain⟨I,F,N⟩:=fz u (.string X.text) (.bool X.list) (.slice r X.sub.length bx);clear l j K U Z z;go_wp2;refine zk (v:= .tuple #[.agg #[.string X.text,.bool X.list,.slice r X.sub.length bx],.int .i64 E]) (by simp[results,results87,go_sem,I,F,N]) rfl ?_;exact⟨((O.out.setCell (by simp;omega) _).setCell (by simp;omega) _).setCell (by simp;omega) _,_,_,_,rfl,J.out.only (L:= [w.heap.size+1+1]) ((((ae.refl _ m).setCell (by simp) _).setCell (by simp) _).setCell (by simp) _) (by simp;have:=b.out;omega) (fun k _ x=>by have x:W.heap.size<=k:=x;show w.heap.size<=k;have:=b.out;omega)⟩
theorem Gh (ty:Ty)(s:ByteArray)(D M:Int)(B:Nat)(w:World)(i d h t3:Value)(o:cD w B ty i d h t3)(S:B<=w.heap.size)(z:Laid w)(u:ba w)(H:s.size<=1099511627776):
 Calls prog 89 #[.agg #[.int .i64 D,.int .i64 M],.agg #[i,d,h,t3],.string s] w fun e w'=>vM w w' (jP ty s M).2 (jP ty s M).1 e:=by
 obtain⟨W,n⟩:∃W,((w.alloc (.cells #[.int .i64 D,.int .i64 M] 145)).alloc (.cells #[i,d,h,t3] 43)).alloc (.cells #[.string ⟨#[]⟩,.bool false,.slice none 0 0] 28)=W:=⟨_,rfl⟩
 obtain⟨hz,c,I,p,q⟩:=Uk n;have HC:=za (Ue ty s M B W i d h t3 (o.below (c.mono S)) (by omega) (z.below c z.pos) (u.below c u.pos) H);obtain⟨A,cap,rfl,rfl,rfl,rfl,_⟩:=o.open_;obtain⟨N,Y,r2,C,_⟩:=aU p;have Z:=za q;have F:=za n;have U:=za c;have b:=za hz;generalize (jP ty s M).2=X at*;generalize (jP ty s M).1=E at*;clear o n c hz I q p;go_enter func89,ntmps89
 go_wp2_with fail
 rw[F.out];refine HC.out.mono ?_;rintro e m ⟨j,d0,d1,d2,rfl,l⟩;obtain⟨r,bx,rfl,rfl,rfl,_⟩:=l.open_;have K:=za l;have x:=Z.out.ag j (by have:=b.out;omega);have R:Hid (Below w.heap.size w m):=za (U.out.trans (j.mono (by have:=b.out;omega)));have cl:w.heap.size+3<=m.heap.size:=by have:=j.size;have:=b.out;omega
 obtain⟨p0,p1,p2,Ev,Eu,Ew⟩:=bg x;obtain⟨J,G,O⟩:=fz x (.string X.text) (.bool X.list) (.slice r X.sub.length bx);clear l j N Y r2 C;go_wp2;refine zk (v:= .tuple #[.agg #[.string X.text,.bool X.list,.slice r X.sub.length bx],.int .i64 E]) (by simp[results,results89,go_sem,J,G,O]) rfl ?_;exact⟨((R.out.setCell (by simp;omega) _).setCell (by simp;omega) _).setCell (by simp;omega) _,_,_,_,rfl,K.out.only (L:= [w.heap.size+1+1]) ((((ae.refl _ m).setCell (by simp) _).setCell (by simp) _).setCell (by simp) _) (by simp;have:=b.out;omega) (fun k _ y=>by have y:W.heap.size<=k:=y;show w.heap.size<=k;have:=b.out;omega)⟩
