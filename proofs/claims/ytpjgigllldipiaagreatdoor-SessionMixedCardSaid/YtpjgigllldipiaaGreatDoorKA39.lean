/- package registry: the ways a value is laid and got (method values over caps). -/
import Derived.Test.YtpjgigllldipiaaGreatDoorKA29
import Derived.Test.YtpjgigllldipiaaGreatDoorKA32
import Derived.Test.YtpjgigllldipiaaGreatDoorKA36
set_option linter.all false
set_option maxRecDepth 100000
set_option maxHeartbeats 1000000
open Go.Proofs.Tryz
namespace Go.Proofs.YtpjgigllldipiaaGreatDoor
open Go.RowKit
theorem Tp {w W:World}{d m i j k t3 b c e:Value}(h:((w.alloc (.cells #[d,m] 87)).alloc (.cells #[i,j,k,t3] 64)).alloc (.cells #[b,c,e] 28)=W):
 W.heap.size=w.heap.size+3/\Below w.heap.size w W/\af W w.heap.size 87 #[d,m]/\af W (w.heap.size+1) 64 #[i,j,k,t3]/\af W (w.heap.size+1+1) 28 #[b,c,e]:=by
 subst h;exact⟨by simp,(((zq _ w).alloc (zf _) _).alloc (by simp) _).alloc (by simp;omega) _,((af.new w _ _).alloc _).alloc _,af.alloc (af.at_ (by simp)) _,af.at_ (by simp)⟩
theorem MA (ty:Ty)(x:It)(D M:Int)(B:Nat)(w:World)(i c d t3 j h k:Value)(n:cx w B ty i c d t3)(l:bZ w B x j h k)(r:B<=w.heap.size)(q:Laid w)(u:x.fA.length<=1099511627776):
 Calls prog 39 #[.agg #[.int .i64 D,.int .i64 M],.agg #[i,c,d,t3],.agg #[j,h,k]] w fun e w'=>e= .returned (.tuple #[.string (if gE ty x D M=0 then(⟨x.fA.toArray⟩:ByteArray)else(⟨#[]⟩:ByteArray)),.int .i64 (gE ty x D M)])/\Below w.heap.size w w':=by
 obtain⟨W,m⟩:∃W,((w.alloc (.cells #[.int .i64 D,.int .i64 M] 87)).alloc (.cells #[i,c,d,t3] 64)).alloc (.cells #[j,h,k] 28)=W:=⟨_,rfl⟩
 obtain⟨hz,b,y,o,p⟩:=Tp m;have s:=za (My ty x D M B W i c d t3 j h k (n.below (b.mono r)) (l.below (b.mono r)) (by omega) (q.below b q.pos) u);obtain⟨A,cap,rfl,rfl,rfl,rfl,_⟩:=n.open_;obtain⟨L,U,rfl,rfl,rfl,_⟩:=l.open_;obtain⟨X,R,O,H,_⟩:=aO o;obtain⟨K,N,I⟩:=jY p;have G:=za m;have F:=za b;have C:=za hz;generalize (if gE ty x D M=0 then(⟨x.fA.toArray⟩:ByteArray)else(⟨#[]⟩:ByteArray))=S at*;generalize (gE ty x D M)=E at*;clear n l m b hz y p o;go_enter func39,ntmps39
 go_wp2_with fail
 rw[G.out];refine s.out.mono ?_;rintro e J ⟨rfl,z⟩;go_wp2;go_ret2
 exact⟨rfl,F.out.trans (z.mono (by have:=C.out;omega))⟩
theorem FF (ty:Ty)(x:It)(D M:Int)(B:Nat)(w:World)(i c d t3 j h k:Value)(n:cx w B ty i c d t3)(l:bZ w B x j h k)(s:B<=w.heap.size)(r:Laid w)(p:bj w):
 Calls prog 41 #[.agg #[.int .i64 D,.int .i64 M],.agg #[i,c,d,t3],.agg #[j,h,k]] w fun e w'=>e= .returned (.tuple #[.string (mH ty x M).1,.int .i64 (mH ty x M).2])/\Below w.heap.size w w':=by
 obtain⟨W,m⟩:∃W,((w.alloc (.cells #[.int .i64 D,.int .i64 M] 87)).alloc (.cells #[i,c,d,t3] 64)).alloc (.cells #[j,h,k] 28)=W:=⟨_,rfl⟩
 obtain⟨hz,b,y,o,q⟩:=Tp m;have u:=za (FB ty x M B W i c d t3 j h k (n.below (b.mono s)) (l.below (b.mono s)) (by omega) (r.below b r.pos) (p.below b p.pos));obtain⟨A,cap,rfl,rfl,rfl,rfl,_⟩:=n.open_;obtain⟨L,U,rfl,rfl,rfl,_⟩:=l.open_;obtain⟨X,R,O,H,_⟩:=aO o;obtain⟨K,N,I⟩:=jY q;have G:=za m;have F:=za b;have C:=za hz;generalize (mH ty x M).1=S at*;generalize (mH ty x M).2=E at*;clear n l m b hz y q o;go_enter func41,ntmps41
 go_wp2_with fail
 rw[G.out];refine u.out.mono ?_;rintro e J ⟨rfl,z⟩;go_wp2;go_ret2
 exact⟨rfl,F.out.trans (z.mono (by have:=C.out;omega))⟩
theorem MB (ty:Ty)(s:ByteArray)(D M:Int)(B:Nat)(w:World)(i c d t3:Value)(o:cx w B ty i c d t3)(R:B<=w.heap.size)(x:Laid w)(G:s.size<=4611686018427387904):
 Calls prog 40 #[.agg #[.int .i64 D,.int .i64 M],.agg #[i,c,d,t3],.string s] w fun e w'=>uV w w' (pJ ty s D M) (jW ty s D M) e:=by
 obtain⟨W,n⟩:∃W,((w.alloc (.cells #[.int .i64 D,.int .i64 M] 87)).alloc (.cells #[i,c,d,t3] 64)).alloc (.cells #[.string ⟨#[]⟩,.bool false,.slice none 0 0] 28)=W:=⟨_,rfl⟩
 obtain⟨hz,h,J,p,u⟩:=Tp n;have C:=za (Mz ty s D M B W i c d t3 (o.below (h.mono R)) (by omega) (x.below h x.pos) G);obtain⟨A,cap,rfl,rfl,rfl,rfl,_⟩:=o.open_;obtain⟨Y,S,O,z,_⟩:=aO p;have K:=za u;have Z:=za n;have U:=za h;have b:=za hz;generalize (pJ ty s D M)=X at*;generalize (jW ty s D M)=E at*;clear o n h hz J u p;go_enter func40,ntmps40
 go_wp2_with fail
 rw[Z.out];refine C.out.mono ?_;rintro e l ⟨j,d0,d1,d2,rfl,m⟩;obtain⟨y,bx,rfl,rfl,rfl,_⟩:=m.open_;have HX:=za m;have q:=K.out.ah j (by have:=b.out;omega);have I:Hid (Below w.heap.size w l):=za (U.out.trans (j.mono (by have:=b.out;omega)));have cg:w.heap.size+3<=l.heap.size:=by have:=j.size;have:=b.out;omega
 obtain⟨p0,p1,p2,DO,DP,DQ⟩:=a8 q;obtain⟨N,F,H⟩:=fe q (.string X.text) (.bool X.list) (.slice y X.sub.length bx);clear m j Y S O z;go_wp2;refine zo (v:= .tuple #[.agg #[.string X.text,.bool X.list,.slice y X.sub.length bx],.int .i64 E]) (by simp[results,results40,go_sem,N,F,H]) rfl ?_;exact⟨((I.out.setCell (by simp;omega) _).setCell (by simp;omega) _).setCell (by simp;omega) _,_,_,_,rfl,HX.out.only (L:= [w.heap.size+1+1]) ((((ae.refl _ l).setCell (by simp) _).setCell (by simp) _).setCell (by simp) _) (by simp;have:=b.out;omega) (fun k _ r=>by have r:W.heap.size<=k:=r;show w.heap.size<=k;have:=b.out;omega)⟩
theorem FG (ty:Ty)(s:ByteArray)(D M:Int)(B:Nat)(w:World)(i d h t3:Value)(o:cx w B ty i d h t3)(S:B<=w.heap.size)(y:Laid w)(u:bj w)(H:s.size<=1099511627776):
 Calls prog 42 #[.agg #[.int .i64 D,.int .i64 M],.agg #[i,d,h,t3],.string s] w fun e w'=>uV w w' (ju ty s M).2 (ju ty s M).1 e:=by
 obtain⟨W,n⟩:∃W,((w.alloc (.cells #[.int .i64 D,.int .i64 M] 87)).alloc (.cells #[i,d,h,t3] 64)).alloc (.cells #[.string ⟨#[]⟩,.bool false,.slice none 0 0] 28)=W:=⟨_,rfl⟩
 obtain⟨hz,b,K,p,x⟩:=Tp n;have F:=za (Tj ty s M B W i d h t3 (o.below (b.mono S)) (by omega) (y.below b y.pos) (u.below b u.pos) H);obtain⟨A,cap,rfl,rfl,rfl,rfl,_⟩:=o.open_;obtain⟨Z,U,R,C,_⟩:=aO p;have N:=za x;have HW:=za n;have Y:=za b;have c:=za hz;generalize (ju ty s M).2=X at*;generalize (ju ty s M).1=E at*;clear o n b hz K x p;go_enter func42,ntmps42
 go_wp2_with fail
 rw[HW.out];refine F.out.mono ?_;rintro e l ⟨j,d0,d1,d2,rfl,m⟩;obtain⟨z,bx,rfl,rfl,rfl,_⟩:=m.open_;have HX:=za m;have q:=N.out.ah j (by have:=c.out;omega);have J:Hid (Below w.heap.size w l):=za (Y.out.trans (j.mono (by have:=c.out;omega)));have cg:w.heap.size+3<=l.heap.size:=by have:=j.size;have:=c.out;omega
 obtain⟨p0,p1,p2,DO,DP,DQ⟩:=a8 q;obtain⟨O,G,I⟩:=fe q (.string X.text) (.bool X.list) (.slice z X.sub.length bx);clear m j Z U R C;go_wp2;refine zo (v:= .tuple #[.agg #[.string X.text,.bool X.list,.slice z X.sub.length bx],.int .i64 E]) (by simp[results,results42,go_sem,O,G,I]) rfl ?_;exact⟨((J.out.setCell (by simp;omega) _).setCell (by simp;omega) _).setCell (by simp;omega) _,_,_,_,rfl,HX.out.only (L:= [w.heap.size+1+1]) ((((ae.refl _ l).setCell (by simp) _).setCell (by simp) _).setCell (by simp) _) (by simp;have:=c.out;omega) (fun k _ r=>by have r:W.heap.size<=k:=r;show w.heap.size<=k;have:=c.out;omega)⟩
