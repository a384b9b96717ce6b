/- package registry: the ways a value is laid and got (method values over caps). -/
import Derived.Test.YtimoclkoflamkaaGreatDoorKA18
import Derived.Test.YtimoclkoflamkaaGreatDoorKA22
import Derived.Test.YtimoclkoflamkaaGreatDoorKA26
set_option linter.all false
set_option maxRecDepth 100000
set_option maxHeartbeats 1000000
open Go.Proofs.Tryz
namespace Go.Proofs.YtimoclkoflamkaaGreatDoor
open Go.RowKit
theorem T6 {w W:World}{d m b c j t3 e k i:Value}(h:((w.alloc (.cells #[d,m] 115)).alloc (.cells #[b,c,j,t3] 70)).alloc (.cells #[e,k,i] 28)=W):
 W.heap.size=w.heap.size+3/\(w,W)/\ag W w.heap.size 115 #[d,m]/\ag W (w.heap.size+1) 70 #[b,c,j,t3]/\ag W (w.heap.size+1+1) 28 #[e,k,i]:=by
 subst h;exact⟨by simp,(((zm _ w).alloc (zd _) _).alloc (by simp) _).alloc (by simp;omega) _,((ag.new w _ _).alloc _).alloc _,ag.alloc (ag.at_ (by simp)) _,ag.at_ (by simp)⟩
theorem Nk (ty:Ty)(x:It)(D M:Int)(B:Nat)(w:World)(c j h t3 k i d:Value)(n:cq w B ty c j h t3)(l:bI w B x k i d)(q:B<=w.heap.size)(o:Laid w)(z:x.fy.length<=1099511627776):
 Calls prog 61 #[.agg #[.int .i64 D,.int .i64 M],.agg #[c,j,h,t3],.agg #[k,i,d]] w fun e w'=>e= .returned (.tuple #[.string (if gq ty x D M=0 then(⟨x.fy.toArray⟩:ByteArray)else(⟨#[]⟩:ByteArray)),.int .i64 (gq ty x D M)])/\Below w.heap.size w w':=by
 obtain⟨W,m⟩:∃W,((w.alloc (.cells #[.int .i64 D,.int .i64 M] 115)).alloc (.cells #[c,j,h,t3] 70)).alloc (.cells #[k,i,d] 28)=W:=⟨_,rfl⟩
 obtain⟨hz,b,s,p,r⟩:=T6 m;have C:=za (Ni ty x D M B W c j h t3 k i d (n.below (b.mono q)) (l.below (b.mono q)) (by omega) (o.below b o.pos) z);obtain⟨A,cap,rfl,rfl,rfl,rfl,_⟩:=n.open_;obtain⟨R,N,rfl,rfl,rfl,_⟩:=l.open_;obtain⟨J,L,K,O,_⟩:=aU p;obtain⟨I,U,H⟩:=kf r;have u:=za m;have F:=za b;have G:=za hz;generalize (if gq ty x D M=0 then(⟨x.fy.toArray⟩:ByteArray)else(⟨#[]⟩:ByteArray))=S at*;generalize (gq ty x D M)=E at*;clear n l m b hz s r p;go_enter func61,ntmps61
 go_wp2_with fail
 rw[u.out];refine C.out.mono ?_;rintro e X ⟨rfl,y⟩;go_wp2;go_ret2
 exact⟨rfl,F.out.trans (y.mono (by have:=G.out;omega))⟩
theorem F' (ty:Ty)(x:It)(D M:Int)(B:Nat)(w:World)(c j h t3 k i d:Value)(n:cq w B ty c j h t3)(l:bI w B x k i d)(r:B<=w.heap.size)(o:Laid w)(p:ba w):
 Calls prog 63 #[.agg #[.int .i64 D,.int .i64 M],.agg #[c,j,h,t3],.agg #[k,i,d]] w fun e w'=>e= .returned (.tuple #[.string (lZ ty x M).1,.int .i64 (lZ ty x M).2])/\Below w.heap.size w w':=by
 obtain⟨W,m⟩:∃W,((w.alloc (.cells #[.int .i64 D,.int .i64 M] 115)).alloc (.cells #[c,j,h,t3] 70)).alloc (.cells #[k,i,d] 28)=W:=⟨_,rfl⟩
 obtain⟨hz,b,u,q,s⟩:=T6 m;have C:=za (F6 ty x M B W c j h t3 k i d (n.below (b.mono r)) (l.below (b.mono r)) (by omega) (o.below b o.pos) (p.below b p.pos));obtain⟨A,cap,rfl,rfl,rfl,rfl,_⟩:=n.open_;obtain⟨R,N,rfl,rfl,rfl,_⟩:=l.open_;obtain⟨J,L,K,O,_⟩:=aU q;obtain⟨I,U,H⟩:=kf s;have y:=za m;have F:=za b;have G:=za hz;generalize (lZ ty x M).1=S at*;generalize (lZ ty x M).2=E at*;clear n l m b hz u s q;go_enter func63,ntmps63
 go_wp2_with fail
 rw[y.out];refine C.out.mono ?_;rintro e X ⟨rfl,z⟩;go_wp2;go_ret2
 exact⟨rfl,F.out.trans (z.mono (by have:=G.out;omega))⟩
theorem Nl (ty:Ty)(s:ByteArray)(D M:Int)(B:Nat)(w:World)(c i h t3:Value)(m:cq w B ty c i h t3)(S:B<=w.heap.size)(p:Laid w)(N:s.size<=4611686018427387904):
 Calls prog 62 #[.agg #[D,M],.agg #[c,i,h,t3],s] w fun e w'=>vI w w' (qj ty s D M) (kb ty s D M) e:=by
 obtain⟨W,l⟩:∃W,((w.alloc (.cells #[D,M] 115)).alloc (.cells #[c,i,h,t3] 70)).alloc (.cells #[eS,false,nS] 28)=W:=⟨_,rfl⟩
 obtain⟨hz,j,z,q,y⟩:=T6 l;have K:=za (Nj ty s D M B W c i h t3 (m.below (j.mono S)) (by omega) (p.below j p.pos) N);obtain⟨A,cap,rfl,rfl,rfl,rfl,_⟩:=m.open_;obtain⟨G,I,H,O,_⟩:=aU q;have J:=za y;have F:=za l;have R:=za j;have b:=za hz;generalize (qj ty s D M)=X at*;generalize (kb ty s D M)=E at*;clear m l j hz z y q;go_enter func62,ntmps62
 go_wp2_with fail
 rw[F.out];refine K.out.mono ?_;rintro e n ⟨d,d0,d1,d2,rfl,o⟩;obtain⟨r,bx,rfl,rfl,rfl,_⟩:=o.open_;have HX:=za o;have u:=J.out.ah d (by have:=b.out;omega);have C:Hid (w,n):=za (R.out.trans (d.mono (by have:=b.out;omega)));have cw:w.heap.size+3<=n.heap.size:=by have:=d.size;have:=b.out;omega
 obtain⟨p0,p1,p2,Ej,Ei,Eh⟩:=bp u;obtain⟨U,Z,Y⟩:=fp u X.text X.list (.slice r X.sub.length bx);clear o d G I H O;go_wp2;refine zl (v:= .tuple #[.agg #[X.text,X.list,.slice r X.sub.length bx],E]) (by simp[results,results62,go_sem,U,Z,Y]) rfl ?_;exact⟨((C.out.setCell (by simp;omega) _).setCell (by simp;omega) _).setCell (by simp;omega) _,_,_,_,rfl,HX.out.only (L:= [w.heap.size+1+1]) ((((ae.refl _ n).setCell (by simp) _).setCell (by simp) _).setCell (by simp) _) (by simp;have:=b.out;omega) (fun k _ x=>by have x:W.heap.size<=k:=x;show w.heap.size<=k;have:=b.out;omega)⟩
theorem Ga (ty:Ty)(s:ByteArray)(D M:Int)(B:Nat)(w:World)(d j i t3:Value)(m:cq w B ty d j i t3)(U:B<=w.heap.size)(p:Laid w)(q:ba w)(O:s.size<=1099511627776):
 Calls prog 64 #[.agg #[D,M],.agg #[d,j,i,t3],s] w fun e w'=>vI w w' (jD ty s M).2 (jD ty s M).1 e:=by
 obtain⟨W,l⟩:∃W,((w.alloc (.cells #[D,M] 115)).alloc (.cells #[d,j,i,t3] 70)).alloc (.cells #[eS,false,nS] 28)=W:=⟨_,rfl⟩
 obtain⟨hz,b,C,r,z⟩:=T6 l;have N:=za (TZ ty s M B W d j i t3 (m.below (b.mono U)) (by omega) (p.below b p.pos) (q.below b q.pos) O);obtain⟨A,cap,rfl,rfl,rfl,rfl,_⟩:=m.open_;obtain⟨H,J,I,R,_⟩:=aU r;have K:=za z;have G:=za l;have S:=za b;have c:=za hz;generalize (jD ty s M).2=X at*;generalize (jD ty s M).1=E at*;clear m l b hz C z r;go_enter func64,ntmps64
 go_wp2_with fail
 rw[G.out];refine N.out.mono ?_;rintro e n ⟨h,d0,d1,d2,rfl,o⟩;obtain⟨u,bx,rfl,rfl,rfl,_⟩:=o.open_;have HX:=za o;have x:=K.out.ah h (by have:=c.out;omega);have F:Hid (w,n):=za (S.out.trans (h.mono (by have:=c.out;omega)));have cw:w.heap.size+3<=n.heap.size:=by have:=h.size;have:=c.out;omega
 obtain⟨p0,p1,p2,Ej,Ei,Eh⟩:=bp x;obtain⟨Y,y1,Z⟩:=fp x X.text X.list (.slice u X.sub.length bx);clear o h H J I R;go_wp2;refine zl (v:= .tuple #[.agg #[X.text,X.list,.slice u X.sub.length bx],E]) (by simp[results,results64,go_sem,Y,y1,Z]) rfl ?_;exact⟨((F.out.setCell (by simp;omega) _).setCell (by simp;omega) _).setCell (by simp;omega) _,_,_,_,rfl,HX.out.only (L:= [w.heap.size+1+1]) ((((ae.refl _ n).setCell (by simp) _).setCell (by simp) _).setCell (by simp) _) (by simp;have:=c.out;omega) (fun k _ y=>by have y:W.heap.size<=k:=y;show w.heap.size<=k;have:=c.out;omega)⟩
