/- package registry: the ways a value is laid and got (method values over caps). -/
import Derived.Test.YtpjgigllldipiaaGreatDoorKA29
import Derived.Test.YtpjgigllldipiaaGreatDoorKA32
import Derived.Test.YtpjgigllldipiaaGreatDoorKA36
set_option linter.all false
set_option maxRecDepth 100000
set_option maxHeartbeats 1000000
namespace Go.Proofs.YtpjgigllldipiaaGreatDoor
open Go.RowKit
theorem TE {w W:World}{d m k j b t3 e c i:Value}(h:((w.alloc (.cells #[d,m] 87)).alloc (.cells #[k,j,b,t3] 64)).alloc (.cells #[e,c,i] 28)=W):
 W.heap.size=w.heap.size+3/\Below w.heap.size w W/\af W w.heap.size 87 #[d,m]/\af W (w.heap.size+1) 64 #[k,j,b,t3]/\af W (w.heap.size+1+1) 28 #[e,c,i]:=by
 subst h;exact⟨by simp,(((zq _ w).alloc (zi _) _).alloc (by simp) _).alloc (by simp;omega) _,((af.new w _ _).alloc _).alloc _,af.alloc (af.at_ (by simp)) _,af.at_ (by simp)⟩
theorem MW (ty:Ty)(x:It)(D M:Int)(B:Nat)(w:World)(d c i t3 k j h:Value)(n:cw w B ty d c i t3)(m:bW w B x k j h)(r:B<=w.heap.size)(p:Laid w)(C:x.fJ.length<=1099511627776):
 Calls Tryz.prog 39 #[.agg #[.int .i64 D,.int .i64 M],.agg #[d,c,i,t3],.agg #[k,j,h]] w fun e w'=>e= .returned (.tuple #[.string (if gI ty x D M=0 then(⟨x.fJ.toArray⟩:ByteArray)else(⟨#[]⟩:ByteArray)),.int .i64 (gI ty x D M)])/\Below w.heap.size w w':=by
 obtain⟨W,l⟩:∃W,((w.alloc (.cells #[.int .i64 D,.int .i64 M] 87)).alloc (.cells #[d,c,i,t3] 64)).alloc (.cells #[k,j,h] 28)=W:=⟨_,rfl⟩
 obtain⟨hz,b,F,o,q⟩:=TE l;have y:=za (MU ty x D M B W d c i t3 k j h (n.below (b.mono r)) (m.below (b.mono r)) (by omega) (p.below b p.pos) C);obtain⟨A,cap,rfl,rfl,rfl,rfl,_⟩:=n.open_;obtain⟨R,L,rfl,rfl,rfl,_⟩:=m.open_;obtain⟨J,O,U,N,_⟩:=aL o;obtain⟨I,H,K⟩:=j7 q;have z:=za l;have s:=za b;have u:=za hz;generalize (if gI ty x D M=0 then(⟨x.fJ.toArray⟩:ByteArray)else(⟨#[]⟩:ByteArray))=S at*;generalize (gI ty x D M)=E at*;clear n m l b hz F q o;go_enter Tryz.func39,Tryz.ntmps39
 go_wp2_with fail
 rw[z.out];refine y.out.mono ?_;rintro e X ⟨rfl,G⟩;go_wp2;go_ret2
 exact⟨rfl,s.out.trans (G.mono (by have:=u.out;omega))⟩
theorem FM (ty:Ty)(x:It)(D M:Int)(B:Nat)(w:World)(d c i t3 k j h:Value)(n:cw w B ty d c i t3)(m:bW w B x k j h)(s:B<=w.heap.size)(q:Laid w)(o:bn w):
 Calls Tryz.prog 41 #[.agg #[.int .i64 D,.int .i64 M],.agg #[d,c,i,t3],.agg #[k,j,h]] w fun e w'=>e= .returned (.tuple #[.string (mL ty x M).1,.int .i64 (mL ty x M).2])/\Below w.heap.size w w':=by
 obtain⟨W,l⟩:∃W,((w.alloc (.cells #[.int .i64 D,.int .i64 M] 87)).alloc (.cells #[d,c,i,t3] 64)).alloc (.cells #[k,j,h] 28)=W:=⟨_,rfl⟩
 obtain⟨hz,b,F,p,r⟩:=TE l;have z:=za (FI ty x M B W d c i t3 k j h (n.below (b.mono s)) (m.below (b.mono s)) (by omega) (q.below b q.pos) (o.below b o.pos));obtain⟨A,cap,rfl,rfl,rfl,rfl,_⟩:=n.open_;obtain⟨R,L,rfl,rfl,rfl,_⟩:=m.open_;obtain⟨J,O,U,N,_⟩:=aL p;obtain⟨I,H,K⟩:=j7 r;have C:=za l;have u:=za b;have y:=za hz;generalize (mL ty x M).1=S at*;generalize (mL ty x M).2=E at*;clear n m l b hz F r p;go_enter Tryz.func41,Tryz.ntmps41
 go_wp2_with fail
 rw[C.out];refine z.out.mono ?_;rintro e X ⟨rfl,G⟩;go_wp2;go_ret2
 exact⟨rfl,u.out.trans (G.mono (by have:=y.out;omega))⟩
theorem MX (ty:Ty)(s:ByteArray)(D M:Int)(B:Nat)(w:World)(h d i t3:Value)(o:cw w B ty h d i t3)(N:B<=w.heap.size)(r:Laid w)(z:s.size<=4611686018427387904):
 Calls Tryz.prog 40 #[.agg #[.int .i64 D,.int .i64 M],.agg #[h,d,i,t3],.string s] w fun e w'=>ve w w' (pQ ty s D M) (j5 ty s D M) e:=by
 obtain⟨W,m⟩:∃W,((w.alloc (.cells #[.int .i64 D,.int .i64 M] 87)).alloc (.cells #[h,d,i,t3] 64)).alloc (.cells #[.string ⟨#[]⟩,.bool false,.slice none 0 0] 28)=W:=⟨_,rfl⟩
 obtain⟨hz,c,S,q,x⟩:=TE m;have I:=za (MV ty s D M B W h d i t3 (o.below (c.mono N)) (by omega) (r.below c r.pos) z);obtain⟨A,cap,rfl,rfl,rfl,rfl,_⟩:=o.open_;obtain⟨H,R,r2,O,_⟩:=aL q;have Z:=za x;have J:=za m;have C:=za c;have b:=za hz;generalize (pQ ty s D M)=X at*;generalize (j5 ty s D M)=E at*;clear o m c hz S x q;go_enter Tryz.func40,Tryz.ntmps40
 go_wp2_with fail
 rw[J.out];refine I.out.mono ?_;rintro e n ⟨j,d0,d1,d2,rfl,l⟩;obtain⟨y,bx,rfl,rfl,rfl,_⟩:=l.open_;have Y:=za l;have p:=Z.out.ag j (by have:=b.out;omega);have G:Hid (Below w.heap.size w n):=za (C.out.trans (j.mono (by have:=b.out;omega)));have cc:w.heap.size+3<=n.heap.size:=by have:=j.size;have:=b.out;omega
 obtain⟨p0,p1,p2,DY,DZ,D0⟩:=a8 p;obtain⟨K,U,F⟩:=fq p (.string X.text) (.bool X.list) (.slice y X.sub.length bx);clear l j H R r2 O;go_wp2;refine zp (v:= .tuple #[.agg #[.string X.text,.bool X.list,.slice y X.sub.length bx],.int .i64 E]) (by simp[results,Tryz.results40,go_sem,K,U,F]) rfl ?_;exact⟨((G.out.setCell (by simp;omega) _).setCell (by simp;omega) _).setCell (by simp;omega) _,_,_,_,rfl,Y.out.only (L:= [w.heap.size+1+1]) ((((ae.refl _ n).setCell (by simp) _).setCell (by simp) _).setCell (by simp) _) (by simp;have:=b.out;omega) (fun k _ u=>by have u:W.heap.size<=k:=u;show w.heap.size<=k;have:=b.out;omega)⟩
theorem FN (ty:Ty)(s:ByteArray)(D M:Int)(B:Nat)(w:World)(h d i t3:Value)(o:cw w B ty h d i t3)(O:B<=w.heap.size)(u:Laid w)(p:bn w)(C:s.size<=1099511627776):
 Calls Tryz.prog 42 #[.agg #[.int .i64 D,.int .i64 M],.agg #[h,d,i,t3],.string s] w fun e w'=>ve w w' (jw ty s M).2 (jw ty s M).1 e:=by
 obtain⟨W,m⟩:∃W,((w.alloc (.cells #[.int .i64 D,.int .i64 M] 87)).alloc (.cells #[h,d,i,t3] 64)).alloc (.cells #[.string ⟨#[]⟩,.bool false,.slice none 0 0] 28)=W:=⟨_,rfl⟩
 obtain⟨hz,b,U,r,y⟩:=TE m;have J:=za (Tx ty s M B W h d i t3 (o.below (b.mono O)) (by omega) (u.below b u.pos) (p.below b p.pos) C);obtain⟨A,cap,rfl,rfl,rfl,rfl,_⟩:=o.open_;obtain⟨I,S,r2,R,_⟩:=aL r;have H3:=za y;have K:=za m;have F:=za b;have c:=za hz;generalize (jw ty s M).2=X at*;generalize (jw ty s M).1=E at*;clear o m b hz U y r;go_enter Tryz.func42,Tryz.ntmps42
 go_wp2_with fail
 rw[K.out];refine J.out.mono ?_;rintro e n ⟨j,d0,d1,d2,rfl,l⟩;obtain⟨z,bx,rfl,rfl,rfl,_⟩:=l.open_;have Z:=za l;have q:=H3.out.ag j (by have:=c.out;omega);have H:Hid (Below w.heap.size w n):=za (F.out.trans (j.mono (by have:=c.out;omega)));have cc:w.heap.size+3<=n.heap.size:=by have:=j.size;have:=c.out;omega
 obtain⟨p0,p1,p2,DY,DZ,D0⟩:=a8 q;obtain⟨N,Y,G⟩:=fq q (.string X.text) (.bool X.list) (.slice z X.sub.length bx);clear l j I S r2 R;go_wp2;refine zp (v:= .tuple #[.agg #[.string X.text,.bool X.list,.slice z X.sub.length bx],.int .i64 E]) (by simp[results,Tryz.results42,go_sem,N,Y,G]) rfl ?_;exact⟨((H.out.setCell (by simp;omega) _).setCell (by simp;omega) _).setCell (by simp;omega) _,_,_,_,rfl,Z.out.only (L:= [w.heap.size+1+1]) ((((ae.refl _ n).setCell (by simp) _).setCell (by simp) _).setCell (by simp) _) (by simp;have:=c.out;omega) (fun k _ x=>by have x:W.heap.size<=k:=x;show w.heap.size<=k;have:=c.out;omega)⟩
