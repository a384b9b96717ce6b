/- package registry: the ways a value is laid and got (method values over caps). -/
import Derived.Test.YtimoclkoflamkaaGreatDoorKA18
import Derived.Test.YtimoclkoflamkaaGreatDoorKA22
import Derived.Test.YtimoclkoflamkaaGreatDoorKA26
set_option linter.all false
set_option maxRecDepth 100000
set_option maxHeartbeats 1000000
open Go.Proofs.Tryz
namespace Go.Proofs.YtimoclkoflamkaaGreatDoor
open Go.RowKit
theorem V0 {w W:World}{d m j i e t3 b k c:Value}(h:((w.alloc (.cells #[d,m] 115)).alloc (.cells #[j,i,e,t3] 70)).alloc (.cells #[b,k,c] 28)=W):
 W.heap.size=w.heap.size+3/\(w,W)/\af W w.heap.size 115 #[d,m]/\af W (w.heap.size+1) 70 #[j,i,e,t3]/\af W (w.heap.size+1+1) 28 #[b,k,c]:=by
 subst h;exact⟨by simp,(((zi _ w).alloc (ze _) _).alloc (by simp) _).alloc (by simp;omega) _,((af.new w _ _).alloc _).alloc _,af.alloc (af.at_ (by simp)) _,af.at_ (by simp)⟩
theorem O5 (ty:Ty)(x:It)(D M:Int)(B:Nat)(w:World)(h i d t3 c k j:Value)(n:cz w B ty h i d t3)(l:bH w B x c k j)(q:B<=w.heap.size)(r:Laid w)(z:x.fB.length<=1099511627776):
 Calls prog 61 #[.agg #[.int .i64 D,.int .i64 M],.agg #[h,i,d,t3],.agg #[c,k,j]] w fun e w'=>e= .returned (.tuple #[.string (if gD ty x D M=0 then(⟨x.fB.toArray⟩:ByteArray)else(⟨#[]⟩:ByteArray)),.int .i64 (gD ty x D M)])/\Below w.heap.size w w':=by
 obtain⟨W,m⟩:∃W,((w.alloc (.cells #[.int .i64 D,.int .i64 M] 115)).alloc (.cells #[h,i,d,t3] 70)).alloc (.cells #[c,k,j] 28)=W:=⟨_,rfl⟩
 obtain⟨hz,b,F,p,o⟩:=V0 m;have u:=za (O3 ty x D M B W h i d t3 c k j (n.below (b.mono q)) (l.below (b.mono q)) (by omega) (r.below b r.pos) z);obtain⟨A,cap,rfl,rfl,rfl,rfl,_⟩:=n.open_;obtain⟨J,L,rfl,rfl,rfl,_⟩:=l.open_;obtain⟨O,X,H,R,_⟩:=aY p;obtain⟨N,K,I⟩:=kt o;have G:=za m;have s:=za b;have y:=za hz;generalize (if gD ty x D M=0 then(⟨x.fB.toArray⟩:ByteArray)else(⟨#[]⟩:ByteArray))=S at*;generalize (gD ty x D M)=E at*;clear n l m b hz F o p;go_enter func61,ntmps61
 go_wp2_with fail
 rw[G.out];refine u.out.mono ?_;rintro e U ⟨rfl,C⟩;go_wp2;go_ret2
 exact⟨rfl,s.out.trans (C.mono (by have:=y.out;omega))⟩
theorem Hi (ty:Ty)(x:It)(D M:Int)(B:Nat)(w:World)(h i d t3 c k j:Value)(n:cz w B ty h i d t3)(l:bH w B x c k j)(r:B<=w.heap.size)(s:Laid w)(o:aW w):
 Calls prog 63 #[.agg #[.int .i64 D,.int .i64 M],.agg #[h,i,d,t3],.agg #[c,k,j]] w fun e w'=>e= .returned (.tuple #[.string (mn ty x M).1,.int .i64 (mn ty x M).2])/\Below w.heap.size w w':=by
 obtain⟨W,m⟩:∃W,((w.alloc (.cells #[.int .i64 D,.int .i64 M] 115)).alloc (.cells #[h,i,d,t3] 70)).alloc (.cells #[c,k,j] 28)=W:=⟨_,rfl⟩
 obtain⟨hz,b,F,q,p⟩:=V0 m;have y:=za (Hd ty x M B W h i d t3 c k j (n.below (b.mono r)) (l.below (b.mono r)) (by omega) (s.below b s.pos) (o.below b o.pos));obtain⟨A,cap,rfl,rfl,rfl,rfl,_⟩:=n.open_;obtain⟨J,L,rfl,rfl,rfl,_⟩:=l.open_;obtain⟨O,X,H,R,_⟩:=aY q;obtain⟨N,K,I⟩:=kt p;have G:=za m;have u:=za b;have z:=za hz;generalize (mn ty x M).1=S at*;generalize (mn ty x M).2=E at*;clear n l m b hz F p q;go_enter func63,ntmps63
 go_wp2_with fail
 rw[G.out];refine y.out.mono ?_;rintro e U ⟨rfl,C⟩;go_wp2;go_ret2
 exact⟨rfl,u.out.trans (C.mono (by have:=z.out;omega))⟩
theorem O6 (ty:Ty)(s:ByteArray)(D M:Int)(B:Nat)(w:World)(h i c t3:Value)(o:cz w B ty h i c t3)(N:B<=w.heap.size)(y:Laid w)(I:s.size<=4611686018427387904):
 Calls prog 62 #[.agg #[D,M],.agg #[h,i,c,t3],s] w fun e w'=>wV w w' (qK ty s D M) (kr ty s D M) e:=by
 obtain⟨W,n⟩:∃W,((w.alloc (.cells #[D,M] 115)).alloc (.cells #[h,i,c,t3] 70)).alloc (.cells #[eS,false,nS] 28)=W:=⟨_,rfl⟩
 obtain⟨hz,d,Y,q,p⟩:=V0 n;have F:=za (O4 ty s D M B W h i c t3 (o.below (d.mono N)) (by omega) (y.below d y.pos) I);obtain⟨A,cap,rfl,rfl,rfl,rfl,_⟩:=o.open_;obtain⟨S,Z,z,U,_⟩:=aY q;have R:=za p;have HW:=za n;have C:=za d;have b:=za hz;generalize (qK ty s D M)=X at*;generalize (kr ty s D M)=E at*;clear o n d hz Y p q;go_enter func62,ntmps62
 go_wp2_with fail
 rw[HW.out];refine F.out.mono ?_;rintro e m ⟨j,d0,d1,d2,rfl,l⟩;obtain⟨r,bx,rfl,rfl,rfl,_⟩:=l.open_;have J:=za l;have x:=R.out.ah j (by have:=b.out;omega);have G:Hid (w,m):=za (C.out.trans (j.mono (by have:=b.out;omega)));have cg:w.heap.size+3<=m.heap.size:=by have:=j.size;have:=b.out;omega
 obtain⟨p0,p1,p2,FA,Fy,Fz⟩:=bq x;obtain⟨H,O,K⟩:=fw x X.text X.list (.slice r X.sub.length bx);clear l j S Z z U;go_wp2;refine zj (v:= .tuple #[.agg #[X.text,X.list,.slice r X.sub.length bx],E]) (by simp[results,results62,go_sem,H,O,K]) rfl ?_;exact⟨((G.out.setCell (by simp;omega) _).setCell (by simp;omega) _).setCell (by simp;omega) _,_,_,_,rfl,J.out.only (L:= [w.heap.size+1+1]) ((((ae.refl _ m).setCell (by simp) _).setCell (by simp) _).setCell (by simp) _) (by simp;have:=b.out;omega) (fun k _ u=>by have u:W.heap.size<=k:=u;show w.heap.size<=k;have:=b.out;omega)⟩
theorem Hj (ty:Ty)(s:ByteArray)(D M:Int)(B:Nat)(w:World)(h i d t3:Value)(o:cz w B ty h i d t3)(O:B<=w.heap.size)(z:Laid w)(p:aW w)(J:s.size<=1099511627776):
 Calls prog 64 #[.agg #[D,M],.agg #[h,i,d,t3],s] w fun e w'=>wV w w' (jL ty s M).2 (jL ty s M).1 e:=by
 obtain⟨W,n⟩:∃W,((w.alloc (.cells #[D,M] 115)).alloc (.cells #[h,i,d,t3] 70)).alloc (.cells #[eS,false,nS] 28)=W:=⟨_,rfl⟩
 obtain⟨hz,b,Z,r,q⟩:=V0 n;have G:=za (VU ty s M B W h i d t3 (o.below (b.mono O)) (by omega) (z.below b z.pos) (p.below b p.pos) J);obtain⟨A,cap,rfl,rfl,rfl,rfl,_⟩:=o.open_;obtain⟨U,r1,C,Y,_⟩:=aY r;have S:=za q;have HW:=za n;have F:=za b;have c:=za hz;generalize (jL ty s M).2=X at*;generalize (jL ty s M).1=E at*;clear o n b hz Z q r;go_enter func64,ntmps64
 go_wp2_with fail
 rw[HW.out];refine G.out.mono ?_;rintro e m ⟨j,d0,d1,d2,rfl,l⟩;obtain⟨u,bx,rfl,rfl,rfl,_⟩:=l.open_;have K:=za l;have y:=S.out.ah j (by have:=c.out;omega);have H:Hid (w,m):=za (F.out.trans (j.mono (by have:=c.out;omega)));have cg:w.heap.size+3<=m.heap.size:=by have:=j.size;have:=c.out;omega
 obtain⟨p0,p1,p2,FA,Fy,Fz⟩:=bq y;obtain⟨I,R,N⟩:=fw y X.text X.list (.slice u X.sub.length bx);clear l j U r1 C Y;go_wp2;refine zj (v:= .tuple #[.agg #[X.text,X.list,.slice u X.sub.length bx],E]) (by simp[results,results64,go_sem,I,R,N]) rfl ?_;exact⟨((H.out.setCell (by simp;omega) _).setCell (by simp;omega) _).setCell (by simp;omega) _,_,_,_,rfl,K.out.only (L:= [w.heap.size+1+1]) ((((ae.refl _ m).setCell (by simp) _).setCell (by simp) _).setCell (by simp) _) (by simp;have:=c.out;omega) (fun k _ x=>by have x:W.heap.size<=k:=x;show w.heap.size<=k;have:=c.out;omega)⟩
