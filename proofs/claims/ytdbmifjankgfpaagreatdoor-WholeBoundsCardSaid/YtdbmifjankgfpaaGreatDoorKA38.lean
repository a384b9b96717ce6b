/- package registry: the ways a value is laid and got (method values over caps). -/
import Derived.Test.YtdbmifjankgfpaaGreatDoorKA28
import Derived.Test.YtdbmifjankgfpaaGreatDoorKA31
import Derived.Test.YtdbmifjankgfpaaGreatDoorKA35
set_option linter.all false
set_option maxRecDepth 100000
set_option maxHeartbeats 1000000
open Go.Proofs.Tryz
namespace Go.Proofs.YtdbmifjankgfpaaGreatDoor
open Go.RowKit
theorem Ue {w W:World}{d m k b j t3 e i c:Value}(h:((w.alloc (.cells #[d,m] 145)).alloc (.cells #[k,b,j,t3] 43)).alloc (.cells #[e,i,c] 28)=W):
 W.heap.size=w.heap.size+3/\Below w.heap.size w W/\af W w.heap.size 145 #[d,m]/\af W (w.heap.size+1) 43 #[k,b,j,t3]/\af W (w.heap.size+1+1) 28 #[e,i,c]:=by
 subst h;exact⟨by simp,(((zm _ w).alloc (zg _) _).alloc (by simp) _).alloc (by simp;omega) _,((af.new w _ _).alloc _).alloc _,af.alloc (af.at_ (by simp)) _,af.at_ (by simp)⟩
theorem Nq (ty:Ty)(x:It)(D M:Int)(B:Nat)(w:World)(h j k t3 i d c:Value)(m:cG w B ty h j k t3)(n:dX w B x i d c)(o:B<=w.heap.size)(q:Laid w)(z:x.gN.length<=1099511627776):
 Calls prog 86 #[.agg #[.int .i64 D,.int .i64 M],.agg #[h,j,k,t3],.agg #[i,d,c]] w fun e w'=>e= .returned (.tuple #[.string (if gX ty x D M=0 then(⟨x.gN.toArray⟩:ByteArray)else(⟨#[]⟩:ByteArray)),.int .i64 (gX ty x D M)])/\Below w.heap.size w w':=by
 obtain⟨W,l⟩:∃W,((w.alloc (.cells #[.int .i64 D,.int .i64 M] 145)).alloc (.cells #[h,j,k,t3] 43)).alloc (.cells #[i,d,c] 28)=W:=⟨_,rfl⟩
 obtain⟨hz,b,F,p,r⟩:=Ue l;have s:=za (No ty x D M B W h j k t3 i d c (m.below (b.mono o)) (n.below (b.mono o)) (by omega) (q.below b q.pos) z);obtain⟨A,cap,rfl,rfl,rfl,rfl,_⟩:=m.open_;obtain⟨I,U,rfl,rfl,rfl,_⟩:=n.open_;obtain⟨R,H,N,O,_⟩:=aS p;obtain⟨J,L,X⟩:=ku r;have G:=za l;have y:=za b;have C:=za hz;generalize (if gX ty x D M=0 then(⟨x.gN.toArray⟩:ByteArray)else(⟨#[]⟩:ByteArray))=S at*;generalize (gX ty x D M)=E at*;clear m n l b hz F r p;go_enter func86,ntmps86
 go_wp2_with fail
 rw[G.out];refine s.out.mono ?_;rintro e K ⟨rfl,u⟩;go_wp2;go_ret2
 exact⟨rfl,y.out.trans (u.mono (by have:=C.out;omega))⟩
theorem FU (ty:Ty)(x:It)(D M:Int)(B:Nat)(w:World)(h j k t3 i d c:Value)(m:cG w B ty h j k t3)(n:dX w B x i d c)(o:B<=w.heap.size)(r:Laid w)(q:bq w):
 Calls prog 88 #[.agg #[.int .i64 D,.int .i64 M],.agg #[h,j,k,t3],.agg #[i,d,c]] w fun e w'=>e= .returned (.tuple #[.string (oJ ty x M).1,.int .i64 (oJ ty x M).2])/\Below w.heap.size w w':=by
 obtain⟨W,l⟩:∃W,((w.alloc (.cells #[.int .i64 D,.int .i64 M] 145)).alloc (.cells #[h,j,k,t3] 43)).alloc (.cells #[i,d,c] 28)=W:=⟨_,rfl⟩
 obtain⟨hz,b,F,p,s⟩:=Ue l;have u:=za (FP ty x M B W h j k t3 i d c (m.below (b.mono o)) (n.below (b.mono o)) (by omega) (r.below b r.pos) (q.below b q.pos));obtain⟨A,cap,rfl,rfl,rfl,rfl,_⟩:=m.open_;obtain⟨I,U,rfl,rfl,rfl,_⟩:=n.open_;obtain⟨R,H,N,O,_⟩:=aS p;obtain⟨J,L,X⟩:=ku s;have G:=za l;have z:=za b;have C:=za hz;generalize (oJ ty x M).1=S at*;generalize (oJ ty x M).2=E at*;clear m n l b hz F s p;go_enter func88,ntmps88
 go_wp2_with fail
 rw[G.out];refine u.out.mono ?_;rintro e K ⟨rfl,y⟩;go_wp2;go_ret2
 exact⟨rfl,z.out.trans (y.mono (by have:=C.out;omega))⟩
theorem Nr (ty:Ty)(s:ByteArray)(D M:Int)(B:Nat)(w:World)(c i j t3:Value)(o:cG w B ty c i j t3)(F:B<=w.heap.size)(q:Laid w)(S:s.size<=4611686018427387904):
 Calls prog 87 #[.agg #[.int .i64 D,.int .i64 M],.agg #[c,i,j,t3],.string s] w fun e w'=>vD w w' (qh ty s D M) (kt ty s D M) e:=by
 obtain⟨W,n⟩:∃W,((w.alloc (.cells #[.int .i64 D,.int .i64 M] 145)).alloc (.cells #[c,i,j,t3] 43)).alloc (.cells #[.string ⟨#[]⟩,.bool false,.slice none 0 0] 28)=W:=⟨_,rfl⟩
 obtain⟨hz,d,Z,p,y⟩:=Ue n;have I:=za (Np ty s D M B W c i j t3 (o.below (d.mono F)) (by omega) (q.below d q.pos) S);obtain⟨A,cap,rfl,rfl,rfl,rfl,_⟩:=o.open_;obtain⟨R,z,J,O,_⟩:=aS p;have H:=za y;have HW:=za n;have K:=za d;have b:=za hz;generalize (qh ty s D M)=X at*;generalize (kt ty s D M)=E at*;clear o n d hz Z y p;go_enter func87,ntmps87
 go_wp2_with fail
 rw[HW.out];refine I.out.mono ?_;rintro e l ⟨h,d0,d1,d2,rfl,m⟩;obtain⟨r,bx,rfl,rfl,rfl,_⟩:=m.open_;have U:=za m;have u:=H.out.ag h (by have:=b.out;omega);have G:Hid (Below w.heap.size w l):=za (K.out.trans (h.mono (by have:=b.out;omega)));have cr:w.heap.size+3<=l.heap.size:=by have:=h.size;have:=b.out;omega
 obtain⟨p0,p1,p2,Eb,Ec,Ea⟩:=a8 u;obtain⟨C,Y,N⟩:=fG u (.string X.text) (.bool X.list) (.slice r X.sub.length bx);clear m h R z J O;go_wp2;refine zj (v:= .tuple #[.agg #[.string X.text,.bool X.list,.slice r X.sub.length bx],.int .i64 E]) (by simp[results,results87,go_sem,C,Y,N]) rfl ?_;exact⟨((G.out.setCell (by simp;omega) _).setCell (by simp;omega) _).setCell (by simp;omega) _,_,_,_,rfl,U.out.only (L:= [w.heap.size+1+1]) ((((ae.refl _ l).setCell (by simp) _).setCell (by simp) _).setCell (by simp) _) (by simp;have:=b.out;omega) (fun k _ x=>by have x:W.heap.size<=k:=x;show w.heap.size<=k;have:=b.out;omega)⟩
theorem FW (ty:Ty)(s:ByteArray)(D M:Int)(B:Nat)(w:World)(d i j t3:Value)(o:cG w B ty d i j t3)(G:B<=w.heap.size)(r:Laid w)(q:bq w)(U:s.size<=1099511627776):
 Calls prog 89 #[.agg #[.int .i64 D,.int .i64 M],.agg #[d,i,j,t3],.string s] w fun e w'=>vD w w' (jP ty s M).2 (jP ty s M).1 e:=by
 obtain⟨W,m⟩:∃W,((w.alloc (.cells #[.int .i64 D,.int .i64 M] 145)).alloc (.cells #[d,i,j,t3] 43)).alloc (.cells #[.string ⟨#[]⟩,.bool false,.slice none 0 0] 28)=W:=⟨_,rfl⟩
 obtain⟨hz,b,h2,p,z⟩:=Ue m;have J:=za (T9 ty s M B W d i j t3 (o.below (b.mono G)) (by omega) (r.below b r.pos) (q.below b q.pos) U);obtain⟨A,cap,rfl,rfl,rfl,rfl,_⟩:=o.open_;obtain⟨S,C,K,R,_⟩:=aS p;have I:=za z;have HW:=za m;have N:=za b;have c:=za hz;generalize (jP ty s M).2=X at*;generalize (jP ty s M).1=E at*;clear o m b hz h2 z p;go_enter func89,ntmps89
 go_wp2_with fail
 rw[HW.out];refine J.out.mono ?_;rintro e l ⟨h,d0,d1,d2,rfl,n⟩;obtain⟨u,bx,rfl,rfl,rfl,_⟩:=n.open_;have Y:=za n;have x:=I.out.ag h (by have:=c.out;omega);have H:Hid (Below w.heap.size w l):=za (N.out.trans (h.mono (by have:=c.out;omega)));have cr:w.heap.size+3<=l.heap.size:=by have:=h.size;have:=c.out;omega
 obtain⟨p0,p1,p2,Eb,Ec,Ea⟩:=a8 x;obtain⟨F,Z,O⟩:=fG x (.string X.text) (.bool X.list) (.slice u X.sub.length bx);clear n h S C K R;go_wp2;refine zj (v:= .tuple #[.agg #[.string X.text,.bool X.list,.slice u X.sub.length bx],.int .i64 E]) (by simp[results,results89,go_sem,F,Z,O]) rfl ?_;exact⟨((H.out.setCell (by simp;omega) _).setCell (by simp;omega) _).setCell (by simp;omega) _,_,_,_,rfl,Y.out.only (L:= [w.heap.size+1+1]) ((((ae.refl _ l).setCell (by simp) _).setCell (by simp) _).setCell (by simp) _) (by simp;have:=c.out;omega) (fun k _ y=>by have y:W.heap.size<=k:=y;show w.heap.size<=k;have:=c.out;omega)⟩
