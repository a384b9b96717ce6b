/- package registry: the ways a value is laid and got (method values over caps). -/
import Derived.Test.YtdbmifjankgfpaaGreatDoorKA26
import Derived.Test.YtdbmifjankgfpaaGreatDoorKA29
import Derived.Test.YtdbmifjankgfpaaGreatDoorKA33
set_option linter.all false
set_option maxRecDepth 100000
set_option maxHeartbeats 1000000
open Go.Proofs.Tryz
namespace Go.Proofs.YtdbmifjankgfpaaGreatDoor
open Go.RowKit
theorem Uk {w W:World}{d m k j c t3 b i e:Value}(h:((w.alloc (.cells #[d,m] 145)).alloc (.cells #[k,j,c,t3] 43)).alloc (.cells #[b,i,e] 28)=W):
 W.heap.size=w.heap.size+3/\Below w.heap.size w W/\af W w.heap.size 145 #[d,m]/\af W (w.heap.size+1) 43 #[k,j,c,t3]/\af W (w.heap.size+1+1) 28 #[b,i,e]:=by
 subst h;exact⟨by simp,(((zl _ w).alloc (zg _) _).alloc (by simp) _).alloc (by simp;omega) _,((af.new w _ _).alloc _).alloc _,af.alloc (af.at_ (by simp)) _,af.at_ (by simp)⟩
theorem NP (ty:Ty)(x:It)(D M:Int)(B:Nat)(w:World)(d h k t3 j c i:Value)(l:cC w B ty d h k t3)(m:bT w B x j c i)(r:B<=w.heap.size)(o:Laid w)(s:x.fO.length<=1099511627776):
 Calls prog 86 #[.agg #[.int .i64 D,.int .i64 M],.agg #[d,h,k,t3],.agg #[j,c,i]] w fun e w'=>e= .returned (.tuple #[.string (if eJ ty x D M=0 then(⟨x.fO.toArray⟩:ByteArray)else(⟨#[]⟩:ByteArray)),.int .i64 (eJ ty x D M)])/\Below w.heap.size w w':=by
 obtain⟨W,n⟩:∃W,((w.alloc (.cells #[.int .i64 D,.int .i64 M] 145)).alloc (.cells #[d,h,k,t3] 43)).alloc (.cells #[j,c,i] 28)=W:=⟨_,rfl⟩
 obtain⟨hz,b,y,q,p⟩:=Uk n;have z:=za (NN ty x D M B W d h k t3 j c i (l.below (b.mono r)) (m.below (b.mono r)) (by omega) (o.below b o.pos) s);obtain⟨A,cap,rfl,rfl,rfl,rfl,_⟩:=l.open_;obtain⟨X,R,rfl,rfl,rfl,_⟩:=m.open_;obtain⟨K,O,I,N,_⟩:=aN q;obtain⟨J,H,L⟩:=kr p;have C:=za n;have G:=za b;have u:=za hz;generalize (if eJ ty x D M=0 then(⟨x.fO.toArray⟩:ByteArray)else(⟨#[]⟩:ByteArray))=S at*;generalize (eJ ty x D M)=E at*;clear l m n b hz y p q;go_enter func86,ntmps86
 go_wp2_with fail
 rw[C.out];refine z.out.mono ?_;rintro e U ⟨rfl,F⟩;go_wp2;go_ret2
 exact⟨rfl,G.out.trans (F.mono (by have:=u.out;omega))⟩
theorem Gd (ty:Ty)(x:It)(D M:Int)(B:Nat)(w:World)(d h k t3 j c i:Value)(l:cC w B ty d h k t3)(m:bT w B x j c i)(s:B<=w.heap.size)(o:Laid w)(q:bj w):
 Calls prog 88 #[.agg #[.int .i64 D,.int .i64 M],.agg #[d,h,k,t3],.agg #[j,c,i]] w fun e w'=>e= .returned (.tuple #[.string (lh ty x M).1,.int .i64 (lh ty x M).2])/\Below w.heap.size w w':=by
 obtain⟨W,n⟩:∃W,((w.alloc (.cells #[.int .i64 D,.int .i64 M] 145)).alloc (.cells #[d,h,k,t3] 43)).alloc (.cells #[j,c,i] 28)=W:=⟨_,rfl⟩
 obtain⟨hz,b,y,r,p⟩:=Uk n;have z:=za (F' ty x M B W d h k t3 j c i (l.below (b.mono s)) (m.below (b.mono s)) (by omega) (o.below b o.pos) (q.below b q.pos));obtain⟨A,cap,rfl,rfl,rfl,rfl,_⟩:=l.open_;obtain⟨X,R,rfl,rfl,rfl,_⟩:=m.open_;obtain⟨K,O,I,N,_⟩:=aN r;obtain⟨J,H,L⟩:=kr p;have C:=za n;have G:=za b;have u:=za hz;generalize (lh ty x M).1=S at*;generalize (lh ty x M).2=E at*;clear l m n b hz y p r;go_enter func88,ntmps88
 go_wp2_with fail
 rw[C.out];refine z.out.mono ?_;rintro e U ⟨rfl,F⟩;go_wp2;go_ret2
 exact⟨rfl,G.out.trans (F.mono (by have:=u.out;omega))⟩
theorem NQ (ty:Ty)(s:ByteArray)(D M:Int)(B:Nat)(w:World)(c h i t3:Value)(m:cC w B ty c h i t3)(S:B<=w.heap.size)(p:Laid w)(hs:s.size<=4611686018427387904):
 Calls prog 87 #[.agg #[.int .i64 D,.int .i64 M],.agg #[c,h,i,t3],.string s] w fun e w'=>vG w w' (qw ty s D M) (kn ty s D M) e:=by
 obtain⟨W,n⟩:∃W,((w.alloc (.cells #[.int .i64 D,.int .i64 M] 145)).alloc (.cells #[c,h,i,t3] 43)).alloc (.cells #[.string ⟨#[]⟩,.bool false,.slice none 0 0] 28)=W:=⟨_,rfl⟩
 obtain⟨hz,j,C,x,u⟩:=Uk n;have F:=za (NO ty s D M B W c h i t3 (m.below (j.mono S)) (by omega) (p.below j p.pos) hs);obtain⟨A,cap,rfl,rfl,rfl,rfl,_⟩:=m.open_;obtain⟨G,R,z,K,_⟩:=aN x;have I:=za u;have H:=za n;have N:=za j;have b:=za hz;generalize (qw ty s D M)=X at*;generalize (kn ty s D M)=E at*;clear m n j hz C u x;go_enter func87,ntmps87
 go_wp2_with fail
 rw[H.out];refine F.out.mono ?_;rintro e o ⟨d,d0,d1,d2,rfl,l⟩;obtain⟨y,bx,rfl,rfl,rfl,_⟩:=l.open_;have Y:=za l;have q:=I.out.ag d (by have:=b.out;omega);have J:Hid (Below w.heap.size w o):=za (N.out.trans (d.mono (by have:=b.out;omega)));have cc:w.heap.size+3<=o.heap.size:=by have:=d.size;have:=b.out;omega
 obtain⟨p0,p1,p2,Ei,Ek,Eh⟩:=aZ q;obtain⟨Z,O,U⟩:=fz q (.string X.text) (.bool X.list) (.slice y X.sub.length bx);clear l d G R z K;go_wp2;refine zk (v:= .tuple #[.agg #[.string X.text,.bool X.list,.slice y X.sub.length bx],.int .i64 E]) (by simp[results,results87,go_sem,Z,O,U]) rfl ?_;exact⟨((J.out.setCell (by simp;omega) _).setCell (by simp;omega) _).setCell (by simp;omega) _,_,_,_,rfl,Y.out.only (L:= [w.heap.size+1+1]) ((((ae.refl _ o).setCell (by simp) _).setCell (by simp) _).setCell (by simp) _) (by simp;have:=b.out;omega) (fun k _ r=>by have r:W.heap.size<=k:=r;show w.heap.size<=k;have:=b.out;omega)⟩
theorem Ge (ty:Ty)(s:ByteArray)(D M:Int)(B:Nat)(w:World)(d i j t3:Value)(m:cC w B ty d i j t3)(U:B<=w.heap.size)(p:Laid w)(x:bj w)(hs:s.size<=1099511627776):
 Calls prog 89 #[.agg #[.int .i64 D,.int .i64 M],.agg #[d,i,j,t3],.string s] w fun e w'=>vG w w' (jH ty s M).2 (jH ty s M).1 e:=by
 obtain⟨W,n⟩:∃W,((w.alloc (.cells #[.int .i64 D,.int .i64 M] 145)).alloc (.cells #[d,i,j,t3] 43)).alloc (.cells #[.string ⟨#[]⟩,.bool false,.slice none 0 0] 28)=W:=⟨_,rfl⟩
 obtain⟨hz,c,F,y,u⟩:=Uk n;have G:=za (Uf ty s M B W d i j t3 (m.below (c.mono U)) (by omega) (p.below c p.pos) (x.below c x.pos) hs);obtain⟨A,cap,rfl,rfl,rfl,rfl,_⟩:=m.open_;obtain⟨H,S,C,N,_⟩:=aN y;have J:=za u;have I:=za n;have O:=za c;have b:=za hz;generalize (jH ty s M).2=X at*;generalize (jH ty s M).1=E at*;clear m n c hz F u y;go_enter func89,ntmps89
 go_wp2_with fail
 rw[I.out];refine G.out.mono ?_;rintro e o ⟨h,d0,d1,d2,rfl,l⟩;obtain⟨z,bx,rfl,rfl,rfl,_⟩:=l.open_;have Z:=za l;have q:=J.out.ag h (by have:=b.out;omega);have K:Hid (Below w.heap.size w o):=za (O.out.trans (h.mono (by have:=b.out;omega)));have cc:w.heap.size+3<=o.heap.size:=by have:=h.size;have:=b.out;omega
 obtain⟨p0,p1,p2,Ei,Ek,Eh⟩:=aZ q;obtain⟨y0,R,Y⟩:=fz q (.string X.text) (.bool X.list) (.slice z X.sub.length bx);clear l h H S C N;go_wp2;refine zk (v:= .tuple #[.agg #[.string X.text,.bool X.list,.slice z X.sub.length bx],.int .i64 E]) (by simp[results,results89,go_sem,y0,R,Y]) rfl ?_;exact⟨((K.out.setCell (by simp;omega) _).setCell (by simp;omega) _).setCell (by simp;omega) _,_,_,_,rfl,Z.out.only (L:= [w.heap.size+1+1]) ((((ae.refl _ o).setCell (by simp) _).setCell (by simp) _).setCell (by simp) _) (by simp;have:=b.out;omega) (fun k _ r=>by have r:W.heap.size<=k:=r;show w.heap.size<=k;have:=b.out;omega)⟩
