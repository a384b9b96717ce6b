/- What the formats tell of bytes: their closures, by any meter or none. -/
import Derived.Test.YtdbmifjankgfpaaGreatDoorKA8
import Derived.Test.YtdbmifjankgfpaaGreatDoorKCoinN
import Derived.Test.YtdbmifjankgfpaaGreatDoorKA18
set_option linter.all false
set_option maxRecDepth 100000
set_option maxHeartbeats 4000000
open Go.Proofs.Tryz
namespace Go.Proofs.YtdbmifjankgfpaaGreatDoor
open Go.RowKit
def xU:=@results63
def Met (w:World):Option Nat->Nat->Nat->Prop
 |none,_,_=>True
 |some g,t,R=>∃a u p,tI w g a u t p/\a<=9223372036854775807/\u+R<=a/\t+R<=9223372036854775807
def nV :Option Nat->Value
 |none=> .pointer none
 |some g=> .pointer (some ⟨g,0,none⟩)
theorem Met.only {L:List Nat}{w w':World}{b:Option Nat}{t R:Nat}(h:Met w b t R)(i:ae L w w')(d:∀g,b=some g->g∉L):Met w' b t R:=by
 cases b with
 |none=>trivial
 |some g=>
  obtain⟨a,u,p,e,c⟩:=h;exact⟨a,u,p,e.only i (d g rfl),c⟩
theorem Met.lt {w:World}{b:Option Nat}{t R:Nat}(h:Met w b t R):∀g,b=some g->g<w.heap.size:=by
 rintro g rfl;obtain⟨a,u,p,c,_⟩:=h;exact c.lt
theorem Met.less {w:World}{b:Option Nat}{t R R':Nat}(h:Met w b t R)(e:R'<=R):Met w b t R':=by
 cases b with
 |none=>trivial
 |some g=>
  obtain⟨a,u,p,d,c,j,i⟩:=h;exact⟨a,u,p,d,c,by omega,by omega⟩
structure MS (mo:Option Nat)(t R:Nat)(W0 V:World):Prop where
 only:ae mo.toList W0 V
 met:Met V mo t R
theorem MS.refl {b:Option Nat}{t R:Nat}{w:World}(h:Met w b t R):MS b t R w w:=⟨ae.refl _ _,h⟩
theorem MS.below {d:Option Nat}{t R:Nat}{c V V':World}(h:MS d t R c V)(b:Below V.heap.size V V'):MS d t R c V':=
 ⟨h.only.trans' (ae.ah b (zd _)) (by simp),h.met.only (ae.ah b (zd _)) (by simp)⟩
theorem MS.alloc {b:Option Nat}{t R:Nat}{c V:World}(h:MS b t R c V)(o:Obj):MS b t R c (V.alloc o):=h.below ((zl _ _).alloc (zd _) _)
theorem MS.drew {b:Option Nat}{t R:Nat}{c V:World}(h:MS b t R c V):MS b t R c V.drew:=h.below (zl _ _).drew
theorem MS.blk {b:Option Nat}{t R:Nat}{e V:World}(h:MS b t R e V){g:Nat}{ty:TypeId}{c:Array Value}(j:af e g ty c)(i:∀k,b=some k->k<g):af V g ty c:=
 j.only h.only (by
  intro d;cases b with
  |none=>simp at d
  |some k=>have:=i k rfl;simp at d;omega)
theorem MS.from {b:Option Nat}{t R:Nat}{w c V:World}(h:MS b t R c V)(d:ae b.toList w c):MS b t R w V:=⟨d.trans h.only,h.met⟩
theorem MS.size {mo:Option Nat}{t R:Nat}{W0 V:World}(h:MS mo t R W0 V):W0.heap.size<=V.heap.size:=h.only.size
theorem MS.put {c:Option Nat}{t R:Nat}{w V:World}(h:MS c t R w V){b o:Nat}(d:w.heap.size<=b)(i:∀k,c=some k->k<b)(v:Value):MS c t R w (V.setCell ⟨b,o,none⟩ v):=by
 refine⟨h.only.setCell (.inr (by simpa using d)) _, ?_⟩;have:=h.met;cases c with
 |none=>trivial
 |some g=>
  obtain⟨a,u,p,j,e⟩:=this;exact⟨a,u,p,j.dK (by have:=i g rfl;simp;omega) _,e⟩
theorem MS.ec {e:Option Nat}{t R:Nat}{w V:World}(h:MS e t R w V){b:Nat}(c:w.heap.size<=b)(d:∀k,e=some k->k<b)(i l j:Value):MS e t R w (((V.setCell ⟨b,0,none⟩ i).setCell ⟨b,1,none⟩ l).setCell ⟨b,2,none⟩ j):=((h.put c d _).put c d _).put c d _
theorem MS.wP {t R:Nat}{w V:World}(h:MS none t R w V):Below w.heap.size w V:=h.only.below (zd _) (by simp)
theorem iH {w c:World}{d e:TypeId}{a b:Array Value}(h:(w.alloc (.cells a d)).alloc (.cells b e)=c):c.heap.size=w.heap.size+2/\Below w.heap.size w c/\af c w.heap.size d a/\af c (w.heap.size+1) e b:=by
 subst h;refine⟨by simp,bQ,(af.new w _ _).alloc _, ?_⟩;have:=af.new (w.alloc (.cells a d)) e b;rwa [zp]at this
def pG (x:Int×Fr×Nat×Nat):Value:= .tuple #[x.2.1.val,.int .i64 x.2.2.1,.int .i64 x.1]
theorem Gn (c:aN)(d:Option Nat)(t R:Nat)(s:ByteArray)(q:c.ok)(j:c.fm=1)(U:c.fr<=65536)(D:s.size<=1099511627776)(W w:World)(h:MS d t R W w):
 Calls prog 72 #[c.val,nV d,.string s] w fun e w'=>e= .returned (pG (bd c s))/\MS d (t+(bd c s).2.2.2) (R-(bd c s).2.2.2) W w':=by
 have o:bd c s=((aV c.mg c.fr s).1,⟨0,(aV c.mg c.fr s).2.1,(aV c.mg c.fr s).2.2.1⟩,(aV c.mg c.fr s).2.2.2,0):=by unfold bd;rw[zi j]
 have p:Hid (∀b V,MS d t R b V->Calls prog 73 #[.int .u32 c.mg,.int .i64 c.fr,.string s] V fun e w'=>e= .returned (.tuple #[.agg #[.int .u64 (bd c s).2.1.id,.string (bd c s).2.1.nm,.string (bd c s).2.1.body],.int .i64 (bd c s).2.2.1,.int .i64 (bd c s).1])/\MS d (t+(bd c s).2.2.2) (R-(bd c s).2.2.2) b w'):=za (fun b V N=>
  (JB c.mg c.fr s V q.mg D q.fr (.inr (by omega))).mono fun e w' ⟨j,F⟩=>by rw[o];exact⟨j,N.below F⟩)
 obtain⟨b,l⟩:∃b,(w.alloc (.cells #[.int .i64 c.fm,.int .u32 c.mg,.int .i64 c.fr,.int .i64 c.un,.int .i64 c.de,.int .i64 c.it] 24)).alloc (.cells #[.int .u64 0,.string ⟨#[]⟩,.string ⟨#[]⟩] 84)=b:=⟨_,rfl⟩
 have i:=iH l;have B:Hid (ae d.toList W b):=za (h.only.trans ((ae.ah i.2.1 (zd _)).mono (by simp)));have I:Hid (af b (w.heap.size+1) 84 #[.int .u64 0,.string ⟨#[]⟩,.string ⟨#[]⟩]):=za i.2.2.2;have E:Hid (MS d t R b b):=za (MS.refl (h.met.only (ae.ah i.2.1 (zd _)) (by simp)));have u:Hid (∀k,d=some k->k<w.heap.size+1):=za (fun k K=>by have:=h.met.lt k K;omega);have M:Hid (W.heap.size<=w.heap.size+1):=za (by have:=h.size;omega);have H:=za l;have x:=za o;clear l i h o j;unfold aN.val;generalize nV d=O at*;obtain⟨X,r⟩:∃X,bd c s=X:=⟨_,rfl⟩
 rw[r]at x p⊢;clear r;obtain⟨L,⟨C,G,J⟩,z,m⟩:=X;simp only at p x;go_enter func72,ntmps72
 go_wp2_with fail
 rw[H.out];refine(p.out _ _ E.out).mono ?_;rintro e S ⟨rfl,n⟩;have y:=za (n.blk I.out u.out);have A:=za (n.from B.out);clear n;obtain⟨g0,g1,g2,f0,f1,f2⟩:=bg y.out;go_wp2;refine zk (v:= .tuple #[.agg #[.int .u64 C,.string G,.string J],.int .i64 z,.int .i64 L]) (by simp[results,results72,go_sem,dM y.out]) rfl ?_;exact⟨rfl,A.out.ec M.out u.out _ _ _⟩
theorem Gp (c:aN)(d:Option Nat)(t R:Nat)(s:ByteArray)(q:c.ok)(j:c.fm=2)(U:c.fr<=65536)(O:s.size<=1099511627776)(W w:World)(h:MS d t R W w):
 Calls prog 77 #[c.val,nV d,.string s] w fun e w'=>e= .returned (pG (bd c s))/\MS d (t+(bd c s).2.2.2) (R-(bd c s).2.2.2) W w':=by
 have o:bd c s=((ai c.fr s).1,⟨(ai c.fr s).2.1,ByteArray.empty,(ai c.fr s).2.2.1⟩,(ai c.fr s).2.2.2,0):=by unfold bd;rw[zh (by omega),zi j]
 have p:Hid (∀b V,MS d t R b V->Calls prog 78 #[.int .i64 c.fr,.string s] V fun e w'=>e= .returned (.tuple #[.agg #[.int .u64 (bd c s).2.1.id,.string (bd c s).2.1.nm,.string (bd c s).2.1.body],.int .i64 (bd c s).2.2.1,.int .i64 (bd c s).1])/\MS d (t+(bd c s).2.2.2) (R-(bd c s).2.2.2) b w'):=za (fun b V M=>
  (kB c.fr s V (by omega) q.fr.1 q.fr.2).mono fun e w' ⟨j,E⟩=>by rw[o];exact⟨j,M.below E⟩)
 obtain⟨b,l⟩:∃b,(w.alloc (.cells #[.int .i64 c.fm,.int .u32 c.mg,.int .i64 c.fr,.int .i64 c.un,.int .i64 c.de,.int .i64 c.it] 24)).alloc (.cells #[.int .u64 0,.string ⟨#[]⟩,.string ⟨#[]⟩] 84)=b:=⟨_,rfl⟩
 have i:=iH l;have B:Hid (ae d.toList W b):=za (h.only.trans ((ae.ah i.2.1 (zd _)).mono (by simp)));have H:Hid (af b (w.heap.size+1) 84 #[.int .u64 0,.string ⟨#[]⟩,.string ⟨#[]⟩]):=za i.2.2.2;have D:Hid (MS d t R b b):=za (MS.refl (h.met.only (ae.ah i.2.1 (zd _)) (by simp)));have u:Hid (∀k,d=some k->k<w.heap.size+1):=za (fun k J=>by have:=h.met.lt k J;omega);have L:Hid (W.heap.size<=w.heap.size+1):=za (by have:=h.size;omega);have G:=za l;have x:=za o;clear l i h o j;unfold aN.val;generalize nV d=N at*;obtain⟨X,r⟩:∃X,bd c s=X:=⟨_,rfl⟩
 rw[r]at x p⊢;clear r;obtain⟨K,⟨C,F,I⟩,z,m⟩:=X;simp only at p x;go_enter func77,ntmps77
 go_wp2_with fail
 rw[G.out];refine(p.out _ _ D.out).mono ?_;rintro e S ⟨rfl,n⟩;have y:=za (n.blk H.out u.out);have A:=za (n.from B.out);clear n;obtain⟨g0,g1,g2,f0,f1,f2⟩:=bg y.out;go_wp2;refine zk (v:= .tuple #[.agg #[.int .u64 C,.string F,.string I],.int .i64 z,.int .i64 K]) (by simp[results,results77,go_sem,dM y.out]) rfl ?_;exact⟨rfl,A.out.ec L.out u.out _ _ _⟩
theorem Gq (c:aN)(b:Option Nat)(t R:Nat)(s:ByteArray)(j:c.ok)(i:c.fm=3)(hf:c.fr<=65536)(hu:c.un<=65536)(Z:70000<=R)(hs:s.size<=1099511627776)(W w:World)(h:MS b t R W w):
 Calls prog 82 #[c.val,nV b,.string s] w fun e w'=>e= .returned (pG (bd c s))/\MS b (t+(bd c s).2.2.2) (R-(bd c s).2.2.2) W w':=by
 have r:bd c s=((aR c.fr c.un s).1,⟨(aR c.fr c.un s).2.1,ByteArray.empty,(aR c.fr c.un s).2.2.1⟩,(aR c.fr c.un s).2.2.2.1,(aR c.fr c.un s).2.2.2.2):=by unfold bd;rw[zh (by omega),zh (by omega)]
 have z:Hid (∀d V,MS b t R d V->Calls prog 83 #[.int .i64 c.fr,.int .i64 c.un,nV b,.string s] V fun e w'=>e= .returned (.tuple #[.agg #[.int .u64 (bd c s).2.1.id,.string (bd c s).2.1.nm,.string (bd c s).2.1.body],.int .i64 (bd c s).2.2.1,.int .i64 (bd c s).1])/\MS b (t+(bd c s).2.2.2) (R-(bd c s).2.2.2) d w'):=za (fun d V y=>by
  rw[r];cases b with
  |none=>exact(wh c.fr c.un s V (by omega) j.fr.1 j.fr.2).mono fun e w' ⟨i,x⟩=>⟨i,⟨y.only.trans' (ae.ah x (zd _)) (by simp),trivial⟩⟩
  |some g=>
   obtain⟨a,u,p,k1,k2,Y,k4⟩:=y.met;have hm:=I' c.fr c.un s;exact(wu c.fr c.un g a u t p s V (by omega) j.fr.1 j.fr.2 k1 k2 (by omega) (by omega) (by omega)).mono fun e w' ⟨i,⟨q,x⟩,I⟩=>⟨i,⟨y.only.trans I,⟨a,_,q,x,k2,by simp only;omega,by simp only;omega⟩⟩⟩)
 obtain⟨d,n⟩:∃d,(w.alloc (.cells #[.int .i64 c.fm,.int .u32 c.mg,.int .i64 c.fr,.int .i64 c.un,.int .i64 c.de,.int .i64 c.it] 24)).alloc (.cells #[.int .u64 0,.string ⟨#[]⟩,.string ⟨#[]⟩] 84)=d:=⟨_,rfl⟩
 have l:=iH n;have G:Hid (ae b.toList W d):=za (h.only.trans ((ae.ah l.2.1 (zd _)).mono (by simp)));have M:Hid (af d (w.heap.size+1) 84 #[.int .u64 0,.string ⟨#[]⟩,.string ⟨#[]⟩]):=za l.2.2.2;have J:Hid (MS b t R d d):=za (MS.refl (h.met.only (ae.ah l.2.1 (zd _)) (by simp)));have B:Hid (∀k,b=some k->k<w.heap.size+1):=za (fun k O=>by have:=h.met.lt k O;omega);have U:Hid (W.heap.size<=w.heap.size+1):=za (by have:=h.size;omega);have L:=za n;have C:=za r;clear n l h r i;unfold aN.val;generalize nV b=mv at*;obtain⟨X,A⟩:∃X,bd c s=X:=⟨_,rfl⟩
 rw[A]at C z⊢;clear A;obtain⟨S,⟨H,K,N⟩,E,m⟩:=X;simp only at z C;go_enter func82,ntmps82
 go_wp2_with fail
 rw[L.out];refine(z.out _ _ J.out).mono ?_;rintro e w1 ⟨rfl,o⟩;have D:=za (o.blk M.out B.out);have F:=za (o.from G.out);clear o;obtain⟨g0,g1,g2,f0,f1,f2⟩:=bg D.out;go_wp2;refine zk (v:= .tuple #[.agg #[.int .u64 H,.string K,.string N],.int .i64 E,.int .i64 S]) (by simp[results,results82,go_sem,dM D.out]) rfl ?_;exact⟨rfl,F.out.ec U.out B.out _ _ _⟩
theorem af.ms {c:Option Nat}{t R:Nat}{V V':World}{g:Nat}{ty:TypeId}{b:Array Value}(h:af V g ty b)(e:MS c t R V V')(d:∀k,c=some k->k<g):af V' g ty b:=e.blk h d
theorem Met.below {w w':World}{b:Option Nat}{t R:Nat}(h:Met w b t R)(c:Below w.heap.size w w'):Met w' b t R:=h.only (ae.ah c (zd _)) (by simp)
theorem X1 (c:aN)(d:Option Nat)(t R:Nat)(s:ByteArray)(hc:c.ok)(i:c.fm=1)(hr:c.right=true)(hR:70000<=R)(hs:s.size<=1099511627776)(W w:World)(J:MS d t R W w):
 Calls prog 63 #[c.val,nV d,.string s] w fun e w'=>e= .returned (pG (aK c s))/\MS d (t+(aK c s).2.2.2) (R-(aK c s).2.2.2) W w':=by
 have Og:=(c.bW).1 hr;have I:=za (Gn c d t R s hc i (by omega) hs);clear Og hc hR;have hI:=QK;have WD:=NB;unfold pV fm1 j9 at hI;unfold fm1 j9 at WD;have O:=za (fun w=>jB c w);rw[hr]at O;have Th:=za (bz hr s);rw[Th.out];clear Th;have M:=za (vy c s);unfold aN.val at*;obtain⟨X,BA⟩:∃X,bd c s=X:=⟨_,rfl⟩
 rw[BA]at I M⊢;clear BA;obtain⟨G,⟨y,C,D⟩,L,m⟩:=X;simp only at I M;obtain⟨fm,E,B,H,A,it⟩:=c;simp only at i;subst i;simp only at*;generalize nV d=mv at*;obtain⟨h,cm⟩:∃h,(w.alloc (.cells #[.int .i64 1,.int .u32 E,.int .i64 B,.int .i64 H,.int .i64 A,.int .i64 it] 24)).alloc (.cells #[.int .u64 0,.string ⟨#[]⟩,.string ⟨#[]⟩] 84)=h:=⟨_,rfl⟩
 have F:=iH cm;have HO:Hid (ae d.toList W h):=za (J.only.trans ((ae.ah F.2.1 (zd _)).mono (by simp)));have HB:Hid (af h (w.heap.size+1) 84 #[.int .u64 0,.string ⟨#[]⟩,.string ⟨#[]⟩]):=za F.2.2.2;have HM:Hid (Met h d t R):=za (J.met.only (ae.ah F.2.1 (zd _)) (by simp));have HG:Hid (∀k,d=some k->k<w.heap.size):=za (J.met.lt);have HL:Hid (W.heap.size<=w.heap.size/\h.heap.size=w.heap.size+2):=za ⟨J.size,F.1⟩;have o:Hid (∀V t R,MS d t R h V->V.cell? ⟨w.heap.size,0,none⟩=some (.int .i64 1)/\V.cell? ⟨w.heap.size,1,none⟩=some (.int .u32 E)/\V.cell? ⟨w.heap.size,2,none⟩=some (.int .i64 B)/\V.cell? ⟨w.heap.size,3,none⟩=some (.int .i64 H)/\V.cell? ⟨w.heap.size,4,none⟩=some (.int .i64 A)/\V.cell? ⟨w.heap.size,5,none⟩=some (.int .i64 it)):=za (fun V t R l=>by
  have x:=l.blk F.2.2.1 HG.out;exact⟨x.cell 0,x.cell 1,x.cell 2,x.cell 3,x.cell 4,x.cell 5⟩)
 have cG:=za cm;clear cm F J;go_enter func63,ntmps63
 go_wp2_with fail
 rw[cG.out];refine(O.out _).mono ?_;rintro e u ⟨rfl,aH⟩;have r:Hid (MS d t R h u):=za ((MS.refl HM.out).below aH);clear aH;obtain⟨q0,q1,q2,q3,q4,q5⟩:=o.out u _ _ r.out;have S:=za r.out.size;have z:Hid (∀V,MS d t R h V->∀k,d=some k->k<V.heap.size):=za (fun V l=>l.met.lt);have Z:Hid (Calls prog 46 #[] (u.alloc (.cells #[.int .u64 0,.string ⟨#[]⟩,.string ⟨#[]⟩] 84)).drew fun e w'=>e= .returned pV/\MS d t R h w'/\af w' u.heap.size 84 #[.int .u64 0,.string ⟨#[]⟩,.string ⟨#[]⟩]):=za ((dt _).mono fun e w' ⟨i,j⟩=>⟨i,((r.out.alloc _).drew).below j,(af.new u _ _).drew.ag j (by simp)⟩);have U:Hid (Calls prog 46 #[] u.drew fun e w'=>e= .returned pV/\MS d t R h w'):=za ((dt _).mono fun e w' ⟨i,j⟩=>⟨i,r.out.drew.below j⟩);have WA:Hid (∀V,MS d t R h V->Calls prog 72 #[.agg #[.int .i64 1,.int .u32 E,.int .i64 B,.int .i64 H,.int .i64 A,.int .i64 it],mv,.string s] (V.alloc (.cells #[.int .u64 0,.string ⟨#[]⟩,.string ⟨#[]⟩] 84)) fun e w'=>e= .returned (.tuple #[.agg #[.int .u64 y,.string C,.string D],.int .i64 L,.int .i64 G])/\MS d (t+m) (R-m) h w'/\af w' V.heap.size 84 #[.int .u64 0,.string ⟨#[]⟩,.string ⟨#[]⟩]):=za (fun V l=>
  (I.out _ _ (MS.refl (l.alloc _).met)).mono fun e w' ⟨i,j⟩=>⟨i,j.from (l.alloc _).only,(af.new V _ _).ms j (z.out V l)⟩)
 have WB:Hid (∀V,MS d t R h V->af V u.heap.size 84 #[.int .u64 0,.string ⟨#[]⟩,.string ⟨#[]⟩]->Calls prog 72 #[.agg #[.int .i64 1,.int .u32 E,.int .i64 B,.int .i64 H,.int .i64 A,.int .i64 it],mv,.string s] V fun e w'=>e= .returned (.tuple #[.agg #[.int .u64 y,.string C,.string D],.int .i64 L,.int .i64 G])/\MS d (t+m) (R-m) h w'/\af w' u.heap.size 84 #[.int .u64 0,.string ⟨#[]⟩,.string ⟨#[]⟩]):=za (fun V l x=>
  (I.out _ _ (MS.refl l.met)).mono fun e w' ⟨i,j⟩=>⟨i,j.from l.only,x.ms j (z.out u r.out)⟩)
 have uK:Hid (∀V,MS d t R h V->Calls prog 72 #[.agg #[.int .i64 1,.int .u32 E,.int .i64 B,.int .i64 H,.int .i64 A,.int .i64 it],mv,.string s] V fun e w'=>e= .returned (.tuple #[.agg #[.int .u64 y,.string C,.string D],.int .i64 L,.int .i64 G])/\MS d (t+m) (R-m) h w'):=za (fun V l=>
  (I.out _ _ (MS.refl l.met)).mono fun e w' ⟨i,j⟩=>⟨i,j.from l.only⟩)
 unfold pV j9 at Z U;clear I O;go_upto_region 3 with fail
 go_cut [9,10,11] (fun v n er wx=>∃N:Nat,v= .pointer (some ⟨N,0,none⟩)/\n= .int .i64 L/\er= .int .i64 G/\Hid (h.heap.size<=N)/\Hid (af wx N 84 #[.int .u64 y,.string C,.string D])/\Hid (MS d (t+m) (R-m) h wx))
 case first=>
  go_wp2_with fail
  go_region_held3 (fun V=>V.cell? ⟨w.heap.size,0,none⟩=some (.int .i64 1)/\V.cell? ⟨w.heap.size,1,none⟩=some (.int .u32 E)/\V.cell? ⟨w.heap.size,2,none⟩=some (.int .i64 B)/\V.cell? ⟨w.heap.size,3,none⟩=some (.int .i64 H)/\V.cell? ⟨w.heap.size,4,none⟩=some (.int .i64 A)/\V.cell? ⟨w.heap.size,5,none⟩=some (.int .i64 it))
   (first|exact o.out _ _ _ r.out|exact o.out _ _ _ r.out.drew|exact o.out _ _ _ ((r.out.alloc _).drew)|exact o.out _ _ _ q|exact o.out _ _ _ p|exact o.out _ _ _ (p.alloc _)|exact o.out _ _ _ (q.alloc _)|exact o.out _ _ _ (q.ec S.out (z.out _ r.out) _ _ _)|exact o.out _ _ _ (q.ec p.size (z.out _ p) _ _ _))
   (first
    |(go_at_call 72;((with_reducible refine(WB.out _ p hz).mono ?_);rintro e w2 ⟨rfl,q,K⟩;obtain⟨z0,z1,z2,Ss,St,Sr⟩:=bg K))
    |(go_at_call 72;((with_reducible refine(WA.out _ p).mono ?_);rintro e w2 ⟨rfl,q,K⟩;obtain⟨z0,z1,z2,Ss,St,Sr⟩:=bg K))
    |(go_at_call 72;((with_reducible refine(uK.out _ p).mono ?_);rintro e w2 ⟨rfl,q⟩))
    |(go_at_call 46;((with_reducible refine Z.out.mono ?_);rintro e w' ⟨rfl,p,hz⟩;obtain⟨z0,z1,z2,Ss,St,Sr⟩:=bg hz))
    |(go_at_call 46;((with_reducible refine U.out.mono ?_);rintro e w' ⟨rfl,p⟩)))
  all_goals
   go_wp2_with fail
   go_meet;case rel=>
    first
     |exact⟨_,rfl,rfl,rfl,za q.size,za (af.new _ _ _),za (q.alloc _)⟩
     |exact⟨_,rfl,rfl,rfl,S,za (lB K _ _ _),za (q.ec S.out (z.out _ r.out) _ _ _)⟩
     |exact⟨_,rfl,rfl,rfl,za p.size,za (lB K _ _ _),za (q.ec p.size (z.out _ p) _ _ _)⟩
 case rest=>
  obtain⟨N,rfl,rfl,rfl,ab,Ee,Aw⟩:=hcut;have CQ:Hid (af wc (w.heap.size+1) 84 #[.int .u64 0,.string ⟨#[]⟩,.string ⟨#[]⟩]):=za (Aw.out.blk HB.out (fun k hk=>by have:=HG.out k hk;omega));have WC:Hid (MS d (t+m) (R-m) W wc):=za (Aw.out.from HO.out);have Wz:Hid (W.heap.size<=w.heap.size+1):=za (by have:=HL.out;omega);have G0:Hid (∀k,d=some k->k<w.heap.size+1):=za (fun k hk=>by have:=HG.out k hk;omega);obtain⟨g0,g1,g2,f0,f1,f2⟩:=bg CQ.out;obtain⟨k0,k1,k2,_,_,_⟩:=bg Ee.out;clear Z U WA WB uK o q0 q1 q2 q3 q4 q5 hI WD;rcases eT G with⟨Y,i,j⟩|⟨Y,i,j⟩
  ·subst Y;go_wp2;refine zk (v:= .tuple #[.agg #[.int .u64 y,.string C,.string D],.int .i64 L,.int .i64 0]) (by simp[results,xU,go_sem,dM CQ.out]) rfl ?_;exact⟨rfl,WC.out.ec Wz.out G0.out _ _ _⟩
  obtain⟨aa,rfl⟩:=M.out Y;obtain⟨rfl,rfl,rfl⟩:y=0/\C=ByteArray.empty/\D=ByteArray.empty:=by injection aa with a b c;exact⟨a,b,c⟩
  clear M;go_wp2;refine zk (v:= .tuple #[.agg #[.int .u64 0,.string ByteArray.empty,.string ByteArray.empty],.int .i64 0,.int .i64 G]) (by simp[results,xU,go_sem,dM CQ.out,oM]) rfl ?_;exact⟨rfl,WC.out.ec Wz.out G0.out _ _ _⟩
theorem X3 (c:aN)(d:Option Nat)(t R:Nat)(s:ByteArray)(hc:c.ok)(i:c.fm=2)(hr:c.right=true)(hR:70000<=R)(hs:s.size<=1099511627776)(W w:World)(J:MS d t R W w):
 Calls prog 63 #[c.val,nV d,.string s] w fun e w'=>e= .returned (pG (aK c s))/\MS d (t+(aK c s).2.2.2) (R-(aK c s).2.2.2) W w':=by
 have Og:=(c.bW).1 hr;have I:=za (Gp c d t R s hc i (by omega) hs);clear Og hc hR;have hI:=QL;have WD:=NC;unfold pV fm2 j9 at hI;unfold fm2 j9 at WD;have O:=za (fun w=>jB c w);rw[hr]at O;have Th:=za (bz hr s);rw[Th.out];clear Th;have M:=za (vy c s);unfold aN.val at*;obtain⟨X,BA⟩:∃X,bd c s=X:=⟨_,rfl⟩
 rw[BA]at I M⊢;clear BA;obtain⟨G,⟨y,C,D⟩,L,m⟩:=X;simp only at I M;obtain⟨fm,E,B,H,A,it⟩:=c;simp only at i;subst i;simp only at*;generalize nV d=mv at*;obtain⟨h,cm⟩:∃h,(w.alloc (.cells #[.int .i64 2,.int .u32 E,.int .i64 B,.int .i64 H,.int .i64 A,.int .i64 it] 24)).alloc (.cells #[.int .u64 0,.string ⟨#[]⟩,.string ⟨#[]⟩] 84)=h:=⟨_,rfl⟩
 have F:=iH cm;have HO:Hid (ae d.toList W h):=za (J.only.trans ((ae.ah F.2.1 (zd _)).mono (by simp)));have HB:Hid (af h (w.heap.size+1) 84 #[.int .u64 0,.string ⟨#[]⟩,.string ⟨#[]⟩]):=za F.2.2.2;have HM:Hid (Met h d t R):=za (J.met.only (ae.ah F.2.1 (zd _)) (by simp));have HG:Hid (∀k,d=some k->k<w.heap.size):=za (J.met.lt);have HL:Hid (W.heap.size<=w.heap.size/\h.heap.size=w.heap.size+2):=za ⟨J.size,F.1⟩;have o:Hid (∀V t R,MS d t R h V->V.cell? ⟨w.heap.size,0,none⟩=some (.int .i64 2)/\V.cell? ⟨w.heap.size,1,none⟩=some (.int .u32 E)/\V.cell? ⟨w.heap.size,2,none⟩=some (.int .i64 B)/\V.cell? ⟨w.heap.size,3,none⟩=some (.int .i64 H)/\V.cell? ⟨w.heap.size,4,none⟩=some (.int .i64 A)/\V.cell? ⟨w.heap.size,5,none⟩=some (.int .i64 it)):=za (fun V t R l=>by
  have x:=l.blk F.2.2.1 HG.out;exact⟨x.cell 0,x.cell 1,x.cell 2,x.cell 3,x.cell 4,x.cell 5⟩)
 have cG:=za cm;clear cm F J;go_enter func63,ntmps63
 go_wp2_with fail
 rw[cG.out];refine(O.out _).mono ?_;rintro e u ⟨rfl,aH⟩;have r:Hid (MS d t R h u):=za ((MS.refl HM.out).below aH);clear aH;obtain⟨q0,q1,q2,q3,q4,q5⟩:=o.out u _ _ r.out;have S:=za r.out.size;have z:Hid (∀V,MS d t R h V->∀k,d=some k->k<V.heap.size):=za (fun V l=>l.met.lt);have Z:Hid (Calls prog 46 #[] (u.alloc (.cells #[.int .u64 0,.string ⟨#[]⟩,.string ⟨#[]⟩] 84)).drew fun e w'=>e= .returned pV/\MS d t R h w'/\af w' u.heap.size 84 #[.int .u64 0,.string ⟨#[]⟩,.string ⟨#[]⟩]):=za ((dt _).mono fun e w' ⟨i,j⟩=>⟨i,((r.out.alloc _).drew).below j,(af.new u _ _).drew.ag j (by simp)⟩);have U:Hid (Calls prog 46 #[] u.drew fun e w'=>e= .returned pV/\MS d t R h w'):=za ((dt _).mono fun e w' ⟨i,j⟩=>⟨i,r.out.drew.below j⟩);have WA:Hid (∀V,MS d t R h V->Calls prog 77 #[.agg #[.int .i64 2,.int .u32 E,.int .i64 B,.int .i64 H,.int .i64 A,.int .i64 it],mv,.string s] (V.alloc (.cells #[.int .u64 0,.string ⟨#[]⟩,.string ⟨#[]⟩] 84)) fun e w'=>e= .returned (.tuple #[.agg #[.int .u64 y,.string C,.string D],.int .i64 L,.int .i64 G])/\MS d (t+m) (R-m) h w'/\af w' V.heap.size 84 #[.int .u64 0,.string ⟨#[]⟩,.string ⟨#[]⟩]):=za (fun V l=>
  (I.out _ _ (MS.refl (l.alloc _).met)).mono fun e w' ⟨i,j⟩=>⟨i,j.from (l.alloc _).only,(af.new V _ _).ms j (z.out V l)⟩)
 have WB:Hid (∀V,MS d t R h V->af V u.heap.size 84 #[.int .u64 0,.string ⟨#[]⟩,.string ⟨#[]⟩]->Calls prog 77 #[.agg #[.int .i64 2,.int .u32 E,.int .i64 B,.int .i64 H,.int .i64 A,.int .i64 it],mv,.string s] V fun e w'=>e= .returned (.tuple #[.agg #[.int .u64 y,.string C,.string D],.int .i64 L,.int .i64 G])/\MS d (t+m) (R-m) h w'/\af w' u.heap.size 84 #[.int .u64 0,.string ⟨#[]⟩,.string ⟨#[]⟩]):=za (fun V l x=>
  (I.out _ _ (MS.refl l.met)).mono fun e w' ⟨i,j⟩=>⟨i,j.from l.only,x.ms j (z.out u r.out)⟩)
 have uK:Hid (∀V,MS d t R h V->Calls prog 77 #[.agg #[.int .i64 2,.int .u32 E,.int .i64 B,.int .i64 H,.int .i64 A,.int .i64 it],mv,.string s] V fun e w'=>e= .returned (.tuple #[.agg #[.int .u64 y,.string C,.string D],.int .i64 L,.int .i64 G])/\MS d (t+m) (R-m) h w'):=za (fun V l=>
  (I.out _ _ (MS.refl l.met)).mono fun e w' ⟨i,j⟩=>⟨i,j.from l.only⟩)
 unfold pV j9 at Z U;clear I O;go_upto_region 3 with fail
 go_cut [9,10,11] (fun v n er wx=>∃N:Nat,v= .pointer (some ⟨N,0,none⟩)/\n= .int .i64 L/\er= .int .i64 G/\Hid (h.heap.size<=N)/\Hid (af wx N 84 #[.int .u64 y,.string C,.string D])/\Hid (MS d (t+m) (R-m) h wx))
 case first=>
  go_wp2_with fail
  go_region_held3 (fun V=>V.cell? ⟨w.heap.size,0,none⟩=some (.int .i64 2)/\V.cell? ⟨w.heap.size,1,none⟩=some (.int .u32 E)/\V.cell? ⟨w.heap.size,2,none⟩=some (.int .i64 B)/\V.cell? ⟨w.heap.size,3,none⟩=some (.int .i64 H)/\V.cell? ⟨w.heap.size,4,none⟩=some (.int .i64 A)/\V.cell? ⟨w.heap.size,5,none⟩=some (.int .i64 it))
   (first|exact o.out _ _ _ r.out|exact o.out _ _ _ r.out.drew|exact o.out _ _ _ ((r.out.alloc _).drew)|exact o.out _ _ _ q|exact o.out _ _ _ p|exact o.out _ _ _ (p.alloc _)|exact o.out _ _ _ (q.alloc _)|exact o.out _ _ _ (q.ec S.out (z.out _ r.out) _ _ _)|exact o.out _ _ _ (q.ec p.size (z.out _ p) _ _ _))
   (first
    |(go_at_call 77;((with_reducible refine(WB.out _ p hz).mono ?_);rintro e w2 ⟨rfl,q,K⟩;obtain⟨z0,z1,z2,Ss,St,Sr⟩:=bg K))
    |(go_at_call 77;((with_reducible refine(WA.out _ p).mono ?_);rintro e w2 ⟨rfl,q,K⟩;obtain⟨z0,z1,z2,Ss,St,Sr⟩:=bg K))
    |(go_at_call 77;((with_reducible refine(uK.out _ p).mono ?_);rintro e w2 ⟨rfl,q⟩))
    |(go_at_call 46;((with_reducible refine Z.out.mono ?_);rintro e w' ⟨rfl,p,hz⟩;obtain⟨z0,z1,z2,Ss,St,Sr⟩:=bg hz))
    |(go_at_call 46;((with_reducible refine U.out.mono ?_);rintro e w' ⟨rfl,p⟩)))
  all_goals
   go_wp2_with fail
   go_meet;case rel=>
    first
     |exact⟨_,rfl,rfl,rfl,za q.size,za (af.new _ _ _),za (q.alloc _)⟩
     |exact⟨_,rfl,rfl,rfl,S,za (lB K _ _ _),za (q.ec S.out (z.out _ r.out) _ _ _)⟩
     |exact⟨_,rfl,rfl,rfl,za p.size,za (lB K _ _ _),za (q.ec p.size (z.out _ p) _ _ _)⟩
 case rest=>
  obtain⟨N,rfl,rfl,rfl,ab,Ee,Aw⟩:=hcut;have CQ:Hid (af wc (w.heap.size+1) 84 #[.int .u64 0,.string ⟨#[]⟩,.string ⟨#[]⟩]):=za (Aw.out.blk HB.out (fun k hk=>by have:=HG.out k hk;omega));have WC:Hid (MS d (t+m) (R-m) W wc):=za (Aw.out.from HO.out);have Wz:Hid (W.heap.size<=w.heap.size+1):=za (by have:=HL.out;omega);have G0:Hid (∀k,d=some k->k<w.heap.size+1):=za (fun k hk=>by have:=HG.out k hk;omega);obtain⟨g0,g1,g2,f0,f1,f2⟩:=bg CQ.out;obtain⟨k0,k1,k2,_,_,_⟩:=bg Ee.out;clear Z U WA WB uK o q0 q1 q2 q3 q4 q5 hI WD;rcases eT G with⟨Y,i,j⟩|⟨Y,i,j⟩
  ·subst Y;go_wp2;refine zk (v:= .tuple #[.agg #[.int .u64 y,.string C,.string D],.int .i64 L,.int .i64 0]) (by simp[results,xU,go_sem,dM CQ.out]) rfl ?_;exact⟨rfl,WC.out.ec Wz.out G0.out _ _ _⟩
  obtain⟨aa,rfl⟩:=M.out Y;obtain⟨rfl,rfl,rfl⟩:y=0/\C=ByteArray.empty/\D=ByteArray.empty:=by injection aa with a b c;exact⟨a,b,c⟩
  clear M;go_wp2;refine zk (v:= .tuple #[.agg #[.int .u64 0,.string ByteArray.empty,.string ByteArray.empty],.int .i64 0,.int .i64 G]) (by simp[results,xU,go_sem,dM CQ.out,oM]) rfl ?_;exact⟨rfl,WC.out.ec Wz.out G0.out _ _ _⟩
theorem X4 (c:aN)(d:Option Nat)(t R:Nat)(s:ByteArray)(hc:c.ok)(i:c.fm=3)(hr:c.right=true)(hR:70000<=R)(hs:s.size<=1099511627776)(W w:World)(J:MS d t R W w):
 Calls prog 63 #[c.val,nV d,.string s] w fun e w'=>e= .returned (pG (aK c s))/\MS d (t+(aK c s).2.2.2) (R-(aK c s).2.2.2) W w':=by
 have Og:=(c.bW).1 hr;have I:=za (Gq c d t R s hc i (by omega) (by omega) hR hs);clear Og hc hR;have hI:=QM;have WD:=ND;unfold pV fm3 j9 at hI;unfold fm3 j9 at WD;have O:=za (fun w=>jB c w);rw[hr]at O;have Th:=za (bz hr s);rw[Th.out];clear Th;have M:=za (vy c s);unfold aN.val at*;obtain⟨X,BA⟩:∃X,bd c s=X:=⟨_,rfl⟩
 rw[BA]at I M⊢;clear BA;obtain⟨G,⟨y,C,D⟩,L,m⟩:=X;simp only at I M;obtain⟨fm,E,B,H,A,it⟩:=c;simp only at i;subst i;simp only at*;generalize nV d=mv at*;obtain⟨h,cm⟩:∃h,(w.alloc (.cells #[.int .i64 3,.int .u32 E,.int .i64 B,.int .i64 H,.int .i64 A,.int .i64 it] 24)).alloc (.cells #[.int .u64 0,.string ⟨#[]⟩,.string ⟨#[]⟩] 84)=h:=⟨_,rfl⟩
 have F:=iH cm;have HO:Hid (ae d.toList W h):=za (J.only.trans ((ae.ah F.2.1 (zd _)).mono (by simp)));have HB:Hid (af h (w.heap.size+1) 84 #[.int .u64 0,.string ⟨#[]⟩,.string ⟨#[]⟩]):=za F.2.2.2;have HM:Hid (Met h d t R):=za (J.met.only (ae.ah F.2.1 (zd _)) (by simp));have HG:Hid (∀k,d=some k->k<w.heap.size):=za (J.met.lt);have HL:Hid (W.heap.size<=w.heap.size/\h.heap.size=w.heap.size+2):=za ⟨J.size,F.1⟩;have o:Hid (∀V t R,MS d t R h V->V.cell? ⟨w.heap.size,0,none⟩=some (.int .i64 3)/\V.cell? ⟨w.heap.size,1,none⟩=some (.int .u32 E)/\V.cell? ⟨w.heap.size,2,none⟩=some (.int .i64 B)/\V.cell? ⟨w.heap.size,3,none⟩=some (.int .i64 H)/\V.cell? ⟨w.heap.size,4,none⟩=some (.int .i64 A)/\V.cell? ⟨w.heap.size,5,none⟩=some (.int .i64 it)):=za (fun V t R l=>by
  have x:=l.blk F.2.2.1 HG.out;exact⟨x.cell 0,x.cell 1,x.cell 2,x.cell 3,x.cell 4,x.cell 5⟩)
 have cG:=za cm;clear cm F J;go_enter func63,ntmps63
 go_wp2_with fail
 rw[cG.out];refine(O.out _).mono ?_;rintro e u ⟨rfl,aH⟩;have r:Hid (MS d t R h u):=za ((MS.refl HM.out).below aH);clear aH;obtain⟨q0,q1,q2,q3,q4,q5⟩:=o.out u _ _ r.out;have S:=za r.out.size;have z:Hid (∀V,MS d t R h V->∀k,d=some k->k<V.heap.size):=za (fun V l=>l.met.lt);have Z:Hid (Calls prog 46 #[] (u.alloc (.cells #[.int .u64 0,.string ⟨#[]⟩,.string ⟨#[]⟩] 84)).drew fun e w'=>e= .returned pV/\MS d t R h w'/\af w' u.heap.size 84 #[.int .u64 0,.string ⟨#[]⟩,.string ⟨#[]⟩]):=za ((dt _).mono fun e w' ⟨i,j⟩=>⟨i,((r.out.alloc _).drew).below j,(af.new u _ _).drew.ag j (by simp)⟩);have U:Hid (Calls prog 46 #[] u.drew fun e w'=>e= .returned pV/\MS d t R h w'):=za ((dt _).mono fun e w' ⟨i,j⟩=>⟨i,r.out.drew.below j⟩);have WA:Hid (∀V,MS d t R h V->Calls prog 82 #[.agg #[.int .i64 3,.int .u32 E,.int .i64 B,.int .i64 H,.int .i64 A,.int .i64 it],mv,.string s] (V.alloc (.cells #[.int .u64 0,.string ⟨#[]⟩,.string ⟨#[]⟩] 84)) fun e w'=>e= .returned (.tuple #[.agg #[.int .u64 y,.string C,.string D],.int .i64 L,.int .i64 G])/\MS d (t+m) (R-m) h w'/\af w' V.heap.size 84 #[.int .u64 0,.string ⟨#[]⟩,.string ⟨#[]⟩]):=za (fun V l=>
  (I.out _ _ (MS.refl (l.alloc _).met)).mono fun e w' ⟨i,j⟩=>⟨i,j.from (l.alloc _).only,(af.new V _ _).ms j (z.out V l)⟩)
 have WB:Hid (∀V,MS d t R h V->af V u.heap.size 84 #[.int .u64 0,.string ⟨#[]⟩,.string ⟨#[]⟩]->Calls prog 82 #[.agg #[.int .i64 3,.int .u32 E,.int .i64 B,.int .i64 H,.int .i64 A,.int .i64 it],mv,.string s] V fun e w'=>e= .returned (.tuple #[.agg #[.int .u64 y,.string C,.string D],.int .i64 L,.int .i64 G])/\MS d (t+m) (R-m) h w'/\af w' u.heap.size 84 #[.int .u64 0,.string ⟨#[]⟩,.string ⟨#[]⟩]):=za (fun V l x=>
  (I.out _ _ (MS.refl l.met)).mono fun e w' ⟨i,j⟩=>⟨i,j.from l.only,x.ms j (z.out u r.out)⟩)
 have uK:Hid (∀V,MS d t R h V->Calls prog 82 #[.agg #[.int .i64 3,.int .u32 E,.int .i64 B,.int .i64 H,.int .i64 A,.int .i64 it],mv,.string s] V fun e w'=>e= .returned (.tuple #[.agg #[.int .u64 y,.string C,.string D],.int .i64 L,.int .i64 G])/\MS d (t+m) (R-m) h w'):=za (fun V l=>
  (I.out _ _ (MS.refl l.met)).mono fun e w' ⟨i,j⟩=>⟨i,j.from l.only⟩)
 unfold pV j9 at Z U;clear I O;go_upto_region 3 with fail
 go_cut [9,10,11] (fun v n er wx=>∃N:Nat,v= .pointer (some ⟨N,0,none⟩)/\n= .int .i64 L/\er= .int .i64 G/\Hid (h.heap.size<=N)/\Hid (af wx N 84 #[.int .u64 y,.string C,.string D])/\Hid (MS d (t+m) (R-m) h wx))
 case first=>
  go_wp2_with fail
  go_region_held3 (fun V=>V.cell? ⟨w.heap.size,0,none⟩=some (.int .i64 3)/\V.cell? ⟨w.heap.size,1,none⟩=some (.int .u32 E)/\V.cell? ⟨w.heap.size,2,none⟩=some (.int .i64 B)/\V.cell? ⟨w.heap.size,3,none⟩=some (.int .i64 H)/\V.cell? ⟨w.heap.size,4,none⟩=some (.int .i64 A)/\V.cell? ⟨w.heap.size,5,none⟩=some (.int .i64 it))
   (first|exact o.out _ _ _ r.out|exact o.out _ _ _ r.out.drew|exact o.out _ _ _ ((r.out.alloc _).drew)|exact o.out _ _ _ q|exact o.out _ _ _ p|exact o.out _ _ _ (p.alloc _)|exact o.out _ _ _ (q.alloc _)|exact o.out _ _ _ (q.ec S.out (z.out _ r.out) _ _ _)|exact o.out _ _ _ (q.ec p.size (z.out _ p) _ _ _))
   (first
    |(go_at_call 82;((with_reducible refine(WB.out _ p hz).mono ?_);rintro e w2 ⟨rfl,q,K⟩;obtain⟨z0,z1,z2,Ss,St,Sr⟩:=bg K))
    |(go_at_call 82;((with_reducible refine(WA.out _ p).mono ?_);rintro e w2 ⟨rfl,q,K⟩;obtain⟨z0,z1,z2,Ss,St,Sr⟩:=bg K))
    |(go_at_call 82;((with_reducible refine(uK.out _ p).mono ?_);rintro e w2 ⟨rfl,q⟩))
    |(go_at_call 46;((with_reducible refine Z.out.mono ?_);rintro e w' ⟨rfl,p,hz⟩;obtain⟨z0,z1,z2,Ss,St,Sr⟩:=bg hz))
    |(go_at_call 46;((with_reducible refine U.out.mono ?_);rintro e w' ⟨rfl,p⟩)))
  all_goals
   go_wp2_with fail
   go_meet;case rel=>
    first
     |exact⟨_,rfl,rfl,rfl,za q.size,za (af.new _ _ _),za (q.alloc _)⟩
     |exact⟨_,rfl,rfl,rfl,S,za (lB K _ _ _),za (q.ec S.out (z.out _ r.out) _ _ _)⟩
     |exact⟨_,rfl,rfl,rfl,za p.size,za (lB K _ _ _),za (q.ec p.size (z.out _ p) _ _ _)⟩
 case rest=>
  obtain⟨N,rfl,rfl,rfl,ab,Ee,Aw⟩:=hcut;have CQ:Hid (af wc (w.heap.size+1) 84 #[.int .u64 0,.string ⟨#[]⟩,.string ⟨#[]⟩]):=za (Aw.out.blk HB.out (fun k hk=>by have:=HG.out k hk;omega));have WC:Hid (MS d (t+m) (R-m) W wc):=za (Aw.out.from HO.out);have Wz:Hid (W.heap.size<=w.heap.size+1):=za (by have:=HL.out;omega);have G0:Hid (∀k,d=some k->k<w.heap.size+1):=za (fun k hk=>by have:=HG.out k hk;omega);obtain⟨g0,g1,g2,f0,f1,f2⟩:=bg CQ.out;obtain⟨k0,k1,k2,_,_,_⟩:=bg Ee.out;clear Z U WA WB uK o q0 q1 q2 q3 q4 q5 hI WD;rcases eT G with⟨Y,i,j⟩|⟨Y,i,j⟩
  ·subst Y;go_wp2;refine zk (v:= .tuple #[.agg #[.int .u64 y,.string C,.string D],.int .i64 L,.int .i64 0]) (by simp[results,xU,go_sem,dM CQ.out]) rfl ?_;exact⟨rfl,WC.out.ec Wz.out G0.out _ _ _⟩
  obtain⟨aa,rfl⟩:=M.out Y;obtain⟨rfl,rfl,rfl⟩:y=0/\C=ByteArray.empty/\D=ByteArray.empty:=by injection aa with a b c;exact⟨a,b,c⟩
  clear M;go_wp2;refine zk (v:= .tuple #[.agg #[.int .u64 0,.string ByteArray.empty,.string ByteArray.empty],.int .i64 0,.int .i64 G]) (by simp[results,xU,go_sem,dM CQ.out,oM]) rfl ?_;exact⟨rfl,WC.out.ec Wz.out G0.out _ _ _⟩
theorem X5 (c:aN)(b:Option Nat)(t R:Nat)(s:ByteArray)(n:c.right=false)(W w:World)(h:MS b t R W w):
 Calls prog 63 #[c.val,nV b,.string s] w fun e w'=>e= .returned (pG (aK c s))/\MS b (t+(aK c s).2.2.2) (R-(aK c s).2.2.2) W w':=by
 have o:aK c s=(1,rG,0,0):=by unfold aK;rw[n];rfl
 have m:=za (fun w=>jB c w);rw[n]at m;rw[o];unfold aN.val at*;generalize nV b=B at*;obtain⟨d,j⟩:∃d,(w.alloc (.cells #[.int .i64 c.fm,.int .u32 c.mg,.int .i64 c.fr,.int .i64 c.un,.int .i64 c.de,.int .i64 c.it] 24)).alloc (.cells #[.int .u64 0,.string ⟨#[]⟩,.string ⟨#[]⟩] 84)=d:=⟨_,rfl⟩
 have i:=iH j;have r:Hid (MS b t R W d):=za (h.below i.2.1);have y:Hid (af d (w.heap.size+1) 84 #[.int .u64 0,.string ⟨#[]⟩,.string ⟨#[]⟩]):=za i.2.2.2;have u:Hid (∀k,b=some k->k<w.heap.size+1):=za (fun k z=>by have:=h.met.lt k z;omega);have q:Hid (W.heap.size<=w.heap.size+1/\d.heap.size=w.heap.size+2):=za ⟨by have:=h.size;omega,i.1⟩;have x:=za j;clear j i h o;go_enter func63,ntmps63
 go_wp2_with fail
 rw[x.out];refine(m.out _).mono ?_;rintro e C ⟨rfl,l⟩;have p:=za (y.out.ag l (by have:=q.out.2;omega));have A:=za (r.out.below l);clear l;obtain⟨g0,g1,g2,f0,f1,f2⟩:=bg p.out;go_wp2;refine zk (v:= .tuple #[.agg #[.int .u64 0,.string ByteArray.empty,.string ByteArray.empty],.int .i64 0,.int .i64 1]) (by simp[results,xU,go_sem,dM p.out,oM]) rfl ?_;exact⟨rfl,A.out.ec q.out.1 u.out _ _ _⟩
theorem QS (c:aN)(b:Option Nat)(t R:Nat)(s:ByteArray)(i:c.ok)(k:70000<=R)(j:s.size<=1099511627776)(W w:World)(d:MS b t R W w):
 Calls prog 63 #[c.val,nV b,.string s] w fun e w'=>e= .returned (pG (aK c s))/\MS b (t+(aK c s).2.2.2) (R-(aK c s).2.2.2) W w':=by
 cases hr:c.right with
 |false=>exact X5 c b t R s hr W w d
 |true=>
  have l:=(c.bW).1 hr;rcases(by omega:c.fm=1\/c.fm=2\/c.fm=3)with h|h|h
  ·exact X1 c b t R s i h hr k j W w d
  ·exact X3 c b t R s i h hr k j W w d
  exact X4 c b t R s i h hr k j W w d
theorem Uw (f:Fr)(w:World):Calls prog 69 #[f.val] w fun e w'=>e= .returned (.bool (decide (f.id=0)))/\Below w.heap.size w w':=by
 unfold Fr.val;by_cases h:f.id=0
 ·have hd:decide ((f.id:Int)=0)=true:=by simp[h]
  obtain⟨id,nm,body⟩:=f;simp only at*;subst h;go_enter func69,ntmps69
  go_wp2;go_ret;exact⟨aY (by simp),bQ⟩
 have hd:((f.id:Int)==0)=false:=by simpa using h
 obtain⟨id,nm,body⟩:=f;simp only at*;go_enter func69,ntmps69
 go_wp2;go_ret;exact⟨aY (by simp[h]),bQ⟩
theorem Lk (f:Fr)(w:World):Calls prog 68 #[f.val] w fun e w'=>e= .returned (.bool (decide (f.nm.size=0)))/\Below w.heap.size w w':=by
 unfold Fr.val;obtain⟨id,nm,body⟩:=f;simp only;rcases fX nm with⟨_,rfl⟩|⟨c,b,d⟩
 ·go_enter func68,ntmps68
  go_wp2;go_ret;exact⟨aY (by rfl),bQ⟩
 go_enter func68,ntmps68
 go_wp2;go_ret;exact⟨aY (by simp_all),bQ⟩
theorem qU (c:aN)(f:Fr)(i:f.ok)(b:c.fm=1\/f.body.size<=1000000):(aX c f).1.size<=2000000:=by
 unfold aX;split
 ·split
  ·rename_i d
   split
   ·simp
   simp only;rw[lW c.mg f.nm f.body (dC d).2];omega
  simp
 rename_i h
 have b:=b.resolve_left h;split
 ·split
  ·simp
  simp only;rw[bB];have e:=bo 10 ((aQ f.id).length+f.body.data.toList.length) (by rw[aa];omega) (by omega);unfold eD;rw[zj,zj];rw[aa]at*;omega
 split
 ·simp
 split
 ·simp
 simp only;rw[bB];have e:=bo 10 ((aQ f.id).length+(pack f.body.data.toList).length) (by omega) (by omega);unfold eD;rw[zj,zj];omega
theorem tw (c:aN)(f:Fr)(d:f.ok)(b:f.body.size<=1000000):(aX c f).1.size<=2000000:=qU c f d (.inr b)
theorem X6 (c:aN)(f:Fr)(d:c.ok)(i:f.ok)(h:c.fm=1)(w:World):
 Calls prog 70 #[c.val,f.val] w fun e w'=>e= .returned (.tuple #[.string (aX c f).1,.int .i64 (aX c f).2])/\Below w.heap.size w w':=by
 have j:Hid (∀V,Calls prog 71 #[.int .u32 c.mg,.string f.nm,.string f.body] V fun e w'=>e= .returned (.tuple #[.string (aX c f).1,.int .i64 (aX c f).2])/\Below V.heap.size V w'):=za (fun V=>by
  unfold aX;rw[zi h];cases hm:b8 f.nm with
  |false=>exact(JA c.mg f.nm f.body V d.mg i.nm hm).mono fun e w' ⟨h,k⟩=>⟨h,by rw[<-k];exact zl _ _⟩
  |true=>
   rw[zi rfl];by_cases b:65536<f.body.size
   ·rw[zi b];exact DH c.mg f.nm f.body V d.mg hm b i.body
   rw[zh b];exact NP c.mg f.nm f.body V d.mg hm (by omega))
 clear d i h;unfold aN.val Fr.val;generalize aX c f=X at*;obtain⟨B,E⟩:=X;simp only at j;go_enter func70,ntmps70
 go_wp2_with fail
 refine(j.out _).mono ?_;rintro e m ⟨rfl,b⟩;have l:=za ((((zl w.heap.size w).alloc (zd _) _).alloc (by simp) _).trans (b.mono (by simp;omega)));clear b;go_wp2;go_ret2
 exact⟨rfl,l.out⟩
theorem X7 (c:aN)(f:Fr)(d:f.ok)(b:f.body.size<=1000000)(i:c.fm=2)(w:World):
 Calls prog 75 #[c.val,f.val] w fun e w'=>e= .returned (.tuple #[.string (aX c f).1,.int .i64 (aX c f).2])/\Below w.heap.size w w':=by
 have j:Hid (∀V,Calls prog 76 #[.int .u64 f.id,.string f.body] V fun e w'=>e= .returned (.tuple #[.string (aX c f).1,.int .i64 (aX c f).2])/\Below V.heap.size V w'):=za (fun V=>by
  unfold aX;rw[zh (by omega),zi i];by_cases h:65536<(aQ f.id).length+f.body.size
  ·rw[zi h];exact oY f.id f.body V d.id h b
  rw[zh h];exact we f.id f.body V d.id (by omega))
 clear d i b;unfold aN.val Fr.val;generalize aX c f=X at*;obtain⟨B,E⟩:=X;simp only at j;go_enter func75,ntmps75
 go_wp2_with fail
 refine(j.out _).mono ?_;rintro e l ⟨rfl,b⟩;have k:=za ((((zl w.heap.size w).alloc (zd _) _).alloc (by simp) _).trans (b.mono (by simp;omega)));clear b;go_wp2;go_ret2
 exact⟨rfl,k.out⟩
theorem X8 (c:aN)(f:Fr)(d:f.ok)(hu:c.un<=65536)(h:c.fm=3)(w:World):
 Calls prog 80 #[c.val,f.val] w fun e w'=>e= .returned (.tuple #[.string (aX c f).1,.int .i64 (aX c f).2])/\Below w.heap.size w w':=by
 by_cases j:c.un<f.body.size
 ·have l:Hid (aX c f=(ByteArray.empty,5)):=za (by unfold aX;rw[zh (by omega),zh (by omega),zi j]);rw[l.out];unfold aN.val Fr.val;clear l hu;have m:=d.body;clear d;obtain⟨p,o,u,s,q,it⟩:=c;obtain⟨id,nm,body⟩:=f;simp only at*;subst h;go_enter func80,ntmps80
  go_wp2;go_ret2
  exact⟨rfl,bQ⟩
 have k:Hid (∀V,Calls prog 81 #[.int .u64 f.id,.string f.body] V fun e w'=>e= .returned (.tuple #[.string (aX c f).1,.int .i64 (aX c f).2])/\Below V.heap.size V w'):=za (fun V=>by
  unfold aX;rw[zh (by omega),zh (by omega),zh j];refine(Bg f.id f.body V d.id (by omega)).mono fun e w' ⟨h,n⟩=>⟨?_,n⟩
  rw[h];unfold wj wm;by_cases b:65536<(aQ f.id).length+(pack f.body.data.toList).length
  ·rw[zi b,zi b,zi b]
  rw[zh b,zh b,zh b])
 have m:=d.body;clear d hu;unfold aN.val Fr.val;generalize aX c f=X at*;obtain⟨B,E⟩:=X;simp only at k;obtain⟨p,o,u,s,q,it⟩:=c;obtain⟨id,nm,body⟩:=f;simp only at*;subst h;go_enter func80,ntmps80
 go_wp2_with fail
 refine(k.out _).mono ?_;rintro e x ⟨rfl,i⟩;have r:=za ((((zl w.heap.size w).alloc (zd _) _).alloc (by simp) _).trans (i.mono (by simp;omega)));clear i;go_wp2;go_ret2
 exact⟨rfl,r.out⟩
theorem mC {w:World}{g:Nat}{t:TypeId}{a b c d:Value}(h:af w g t #[a,b,c,d]):w.cell? ⟨g,0,none⟩=some a/\w.cell? ⟨g,1,none⟩=some b/\w.cell? ⟨g,2,none⟩=some c/\w.cell? ⟨g,3,none⟩=some d/\w.frozen? ⟨g,0,none⟩=false/\w.frozen? ⟨g,1,none⟩=false/\w.frozen? ⟨g,2,none⟩=false/\w.frozen? ⟨g,3,none⟩=false:=
 ⟨h.cell 0,h.cell 1,h.cell 2,h.cell 3,h.frozen 0,h.frozen 1,h.frozen 2,h.frozen 3⟩
theorem sk (c:aN)(f:Fr)(d:c.right=true):(jo c f=false->fx c f=(ByteArray.empty,1))/\(jo c f=true->(aX c f).2≠0->fx c f=(ByteArray.empty,(aX c f).2))/\(jo c f=true->(aX c f).2=0->(bd c (aX c f).1).1=5->fx c f=(ByteArray.empty,5))/\(jo c f=true->(aX c f).2=0->(bd c (aX c f).1).1≠5->fx c f=((aX c f).1,0)):=by
 refine⟨fun h=> ?_,fun h b=> ?_,fun h b e=> ?_,fun h b e=> ?_⟩<;>unfold fx
 ·rw[zh (by simp[h])]
 ·rw[zi ⟨d,h⟩,zi b]
 ·rw[zi ⟨d,h⟩,zh (by simp[b]),zi e]
 rw[zi ⟨d,h⟩,zh (by simp[b]),zh e]
theorem Ux (c:aN)(f:Fr)(Y:c.ok)(hf:f.ok)(i:c.fm=1)(hr:c.right=true)(w:World):
 Calls prog 34 #[c.val,f.val] w fun e w'=>e= .returned (.tuple #[.string (fx c f).1,.int .i64 (fx c f).2])/\Below w.heap.size w w':=by
 have Og:=(c.bW).1 hr;have hz:=qU c f hf (.inl i);have uK:=za (Gn c none 0 140000 (aX c f).1 Y i (by omega) (by omega));have HF:Hid (∀V,Calls prog 69 #[f.val] V fun e w'=>e= .returned (.bool (jo c f))/\Below V.heap.size V w'):=za (fun V=>by have:=Uw f V;unfold jo;rw[zi i];exact this);have HY:=za (fun V=>X6 c f Y hf i V);clear Og Y hf hz;have hI:=QK;unfold pV fm1 j9 at hI;have Z:=za (fun w=>jB c w);rw[hr]at Z;have h:=za (sk c f hr);have W:Hid (∀V,Calls prog 72 #[c.val,.pointer none,.string (aX c f).1] V fun e w'=>e= .returned (pG (bd c (aX c f).1))/\Below V.heap.size V w'):=za (fun V=>(uK.out V V (MS.refl trivial)).mono fun e w' ⟨i,D⟩=>⟨i,D.wP⟩);clear uK;unfold pG Fr.val at*;obtain⟨X,o⟩:∃X,bd c (aX c f).1=X:=⟨_,rfl⟩
 rw[o]at W h;clear o;obtain⟨y5,⟨y1,y2,y3⟩,y4,m⟩:=X;obtain⟨X,o⟩:∃X,aX c f=X:=⟨_,rfl⟩
 rw[o]at W h HY;clear o;obtain⟨S,E⟩:=X;obtain⟨X,o⟩:∃X,fx c f=X:=⟨_,rfl⟩
 rw[o]at h⊢;clear o;obtain⟨P1,P2⟩:=X;obtain⟨ft,sE⟩:∃ft,jo c f=ft:=⟨_,rfl⟩
 rw[sE]at h HF;clear sE;simp only at W h HY;unfold aN.val at*;obtain⟨fm,mg,fr,un,de,it⟩:=c;obtain⟨id,nm,body⟩:=f;simp only at*;subst i;obtain⟨b,cm⟩:∃b,(w.alloc (.cells #[.int .i64 1,.int .u32 mg,.int .i64 fr,.int .i64 un,.int .i64 de,.int .i64 it] 24)).alloc (.cells #[.int .u64 id,.string nm,.string body] 84)=b:=⟨_,rfl⟩
 have H:=iH cm;have HO:Hid (Below w.heap.size w b):=za H.2.1;have HL:Hid (b.heap.size=w.heap.size+2):=za H.1;have j:Hid (∀V,Below b.heap.size b V->(V.cell? ⟨w.heap.size,0,none⟩=some (.int .i64 1)/\V.cell? ⟨w.heap.size,1,none⟩=some (.int .u32 mg)/\V.cell? ⟨w.heap.size,2,none⟩=some (.int .i64 fr)/\V.cell? ⟨w.heap.size,3,none⟩=some (.int .i64 un)/\V.cell? ⟨w.heap.size,4,none⟩=some (.int .i64 de)/\V.cell? ⟨w.heap.size,5,none⟩=some (.int .i64 it))):=za (fun V p=>by
  have k:=H.2.2.1.ag p (by omega);exact⟨k.cell 0,k.cell 1,k.cell 2,k.cell 3,k.cell 4,k.cell 5⟩)
 have Su:Hid (∀V,Below b.heap.size b V->(V.cell? ⟨w.heap.size+1,0,none⟩=some (.int .u64 id)/\V.cell? ⟨w.heap.size+1,1,none⟩=some (.string nm)/\V.cell? ⟨w.heap.size+1,2,none⟩=some (.string body))):=za (fun V p=>by
  have k:=H.2.2.2.ag p (by omega);exact⟨k.cell 0,k.cell 1,k.cell 2⟩)
 have cG:=za cm;clear cm H;go_enter func34,ntmps34
 go_wp2_with fail
 rw[cG.out];refine(Z.out _).mono ?_;rintro e C ⟨rfl,aH⟩;have x:Hid (Below b.heap.size b C):=za aH;clear aH;obtain⟨r,A,y,z,q,s⟩:=j.out C x.out;have d:=za x.out.size;have Au:Hid (Calls prog 46 #[] (C.alloc (.cells #[.nilFunc,.nilFunc,.nilFunc,.nilFunc] 108)).drew fun e w'=>e= .returned pV/\Below b.heap.size b w'/\af w' C.heap.size 108 #[.nilFunc,.nilFunc,.nilFunc,.nilFunc]):=za ((dt _).mono fun e w' ⟨i,D⟩=>⟨i,((x.out.alloc d.out _).drew).trans (D.mono (by have:=d.out;simp;omega)),(af.new C _ _).drew.ag D (by simp)⟩);have tZ:Hid (Calls prog 46 #[] C.drew fun e w'=>e= .returned pV/\Below b.heap.size b w'):=za ((dt _).mono fun e w' ⟨i,D⟩=>⟨i,x.out.drew.trans (D.mono d.out)⟩);unfold pV j9 at Au tZ;clear Z;go_upto_region 3 with fail
 go_cut [6] (fun v wx=>∃J:Nat,v= .pointer (some ⟨J,0,none⟩)/\Hid (b.heap.size<=J)/\Hid (af wx J 108 #[.func (.func 69) #[] #[],.func (.func 70) #[] #[],.func (.func 72) #[] #[],.func (.func 74) #[] #[]])/\Hid (Below b.heap.size b wx))
 case first=>
  go_wp2_with fail
  go_region_held3 (fun V=>V.cell? ⟨w.heap.size,0,none⟩=some (.int .i64 1)/\V.cell? ⟨w.heap.size,1,none⟩=some (.int .u32 mg)/\V.cell? ⟨w.heap.size,2,none⟩=some (.int .i64 fr)/\V.cell? ⟨w.heap.size,3,none⟩=some (.int .i64 un)/\V.cell? ⟨w.heap.size,4,none⟩=some (.int .i64 de)/\V.cell? ⟨w.heap.size,5,none⟩=some (.int .i64 it))
   (first|exact j.out _ x.out|exact j.out _ x.out.drew|exact j.out _ ((x.out.alloc d.out _).drew)|exact j.out _ l|exact j.out _ (l.alloc l.size _)|exact j.out _ ((((l.setCell d.out _).setCell d.out _).setCell d.out _).setCell d.out _))
   (first
    |(go_at_call 46;((with_reducible refine Au.out.mono ?_);rintro e w' ⟨rfl,l,hz⟩;obtain⟨z0,B,z2,z3,Ss,St,Sr,aa⟩:=mC hz))
    |(go_at_call 46;((with_reducible refine tZ.out.mono ?_);rintro e w' ⟨rfl,l⟩)))
  all_goals
   go_wp2_with fail
   go_meet;case rel=>
    first
     |exact⟨_,rfl,za l.size,za (af.new _ _ _),za (l.alloc l.size _)⟩
     |exact⟨_,rfl,d,za ((((hz.set 0 _).set 1 _).set 2 _).set 3 _),za ((((l.setCell d.out _).setCell d.out _).setCell d.out _).setCell d.out _)⟩
 case rest=>
  obtain⟨J,rfl,ab,Ee,O⟩:=hcut;have Ti:Hid (∀V,Below wc.heap.size wc V->Below b.heap.size b V/\af V J 108 #[.func (.func 69) #[] #[],.func (.func 70) #[] #[],.func (.func 72) #[] #[],.func (.func 74) #[] #[]]):=za (fun V p=>⟨O.out.trans (p.mono O.out.size),Ee.out.ag p Ee.out.lt⟩);have K:Hid (∀V,Below b.heap.size b V->Below w.heap.size w V):=za (fun V p=>HO.out.trans (p.mono (by have:=HL.out;omega)));clear Au tZ r A y z q s hI;obtain⟨r,A,y,z,q,s⟩:=j.out wc O.out;obtain⟨F,G,I⟩:=Su.out wc O.out;obtain⟨z0,B,z2,z3,_⟩:=mC Ee.out;go_wp2_with fail
  refine(HF.out _).mono ?_;rintro e w2 ⟨rfl,n⟩;obtain⟨M,kX⟩:=Ti.out w2 n;have du:=za n;have Eo:=za M;clear r A y z q s F G I z0 B z2 z3 n;obtain⟨r,A,y,z,q,s⟩:=j.out w2 M;obtain⟨F,G,I⟩:=Su.out w2 M;obtain⟨z0,B,z2,z3,_⟩:=mC kX;clear M kX;cases ft with
  |false=>
   have u:=h.out.1 (by simp);injection u with gG iB;subst gG;subst iB;clear h;go_wp2;go_ret2
   exact⟨rfl,K.out _ Eo.out⟩
  |true=>
   go_wp2_with fail
   refine(HY.out _).mono ?_;rintro e w3 ⟨rfl,n⟩;have jJ:Hid (Below wc.heap.size wc w3):=za (du.out.trans (n.mono du.out.size));obtain⟨U,tB⟩:=Ti.out w3 jJ.out;have Sv:=za U;clear r A y z q s F G I z0 B z2 z3 n;obtain⟨r,A,y,z,q,s⟩:=j.out w3 U;obtain⟨F,G,I⟩:=Su.out w3 U;obtain⟨z0,B,z2,z3,_⟩:=mC tB;clear U tB;rcases eT E with⟨e0,e1,e2⟩|⟨e0,e1,e2⟩
   ·subst e0;have R:=za (And.intro (h.out.2.2.1 (by simp) (by simp)) (h.out.2.2.2 (by simp) (by simp)));clear h;go_wp2_with fail
    refine(W.out _).mono ?_;rintro e w4 ⟨rfl,n⟩;have L:Hid (Below b.heap.size b w4):=za (Sv.out.trans (n.mono Sv.out.size));clear r A y z q s F G I z0 B z2 z3 n;by_cases N:y5=5
    ·have u:=R.out.1 N;injection u with gG iB;subst gG;subst iB;subst N;clear R;go_wp2;go_ret2
     exact⟨rfl,K.out _ (L.out.alloc L.out.size _)⟩
    have u:=R.out.2 N;injection u with gG iB;subst gG;subst iB;clear R;have h6:(y5==5)=false:=by simpa using N
    go_wp2;go_ret2
    exact⟨rfl,K.out _ (L.out.alloc L.out.size _)⟩
   have u:=h.out.2.1 (by simp) e0;injection u with gG iB;subst gG;subst iB;clear h;go_wp2;go_ret2
   exact⟨rfl,K.out _ Sv.out⟩
theorem Uy (c:aN)(f:Fr)(hc:c.ok)(hf:f.ok)(h:f.body.size<=1000000)(n:c.fm=2)(hr:c.right=true)(w:World):
 Calls prog 34 #[c.val,f.val] w fun e w'=>e= .returned (.tuple #[.string (fx c f).1,.int .i64 (fx c f).2])/\Below w.heap.size w w':=by
 have Og:=(c.bW).1 hr;have hz:=tw c f hf h;have uK:=za (Gp c none 0 140000 (aX c f).1 hc n (by omega) (by omega));have HF:Hid (∀V,Calls prog 68 #[f.val] V fun e w'=>e= .returned (.bool (jo c f))/\Below V.heap.size V w'):=za (fun V=>by have:=Lk f V;unfold jo;rw[zh (by omega)];exact this);have HY:=za (fun V=>X7 c f hf h n V);clear Og hc hf h hz;have hI:=QL;unfold pV fm2 j9 at hI;have Y:=za (fun w=>jB c w);rw[hr]at Y;have i:=za (sk c f hr);have W:Hid (∀V,Calls prog 77 #[c.val,.pointer none,.string (aX c f).1] V fun e w'=>e= .returned (pG (bd c (aX c f).1))/\Below V.heap.size V w'):=za (fun V=>(uK.out V V (MS.refl trivial)).mono fun e w' ⟨n,D⟩=>⟨n,D.wP⟩);clear uK;unfold pG Fr.val at*;obtain⟨X,o⟩:∃X,bd c (aX c f).1=X:=⟨_,rfl⟩
 rw[o]at W i;clear o;obtain⟨y5,⟨y1,y2,y3⟩,y4,m⟩:=X;obtain⟨X,o⟩:∃X,aX c f=X:=⟨_,rfl⟩
 rw[o]at W i HY;clear o;obtain⟨S,E⟩:=X;obtain⟨X,o⟩:∃X,fx c f=X:=⟨_,rfl⟩
 rw[o]at i⊢;clear o;obtain⟨P1,P2⟩:=X;obtain⟨ft,sE⟩:∃ft,jo c f=ft:=⟨_,rfl⟩
 rw[sE]at i HF;clear sE;simp only at W i HY;unfold aN.val at*;obtain⟨fm,mg,fr,un,de,it⟩:=c;obtain⟨id,nm,body⟩:=f;simp only at*;subst n;obtain⟨b,cm⟩:∃b,(w.alloc (.cells #[.int .i64 2,.int .u32 mg,.int .i64 fr,.int .i64 un,.int .i64 de,.int .i64 it] 24)).alloc (.cells #[.int .u64 id,.string nm,.string body] 84)=b:=⟨_,rfl⟩
 have H:=iH cm;have HO:Hid (Below w.heap.size w b):=za H.2.1;have HL:Hid (b.heap.size=w.heap.size+2):=za H.1;have j:Hid (∀V,Below b.heap.size b V->(V.cell? ⟨w.heap.size,0,none⟩=some (.int .i64 2)/\V.cell? ⟨w.heap.size,1,none⟩=some (.int .u32 mg)/\V.cell? ⟨w.heap.size,2,none⟩=some (.int .i64 fr)/\V.cell? ⟨w.heap.size,3,none⟩=some (.int .i64 un)/\V.cell? ⟨w.heap.size,4,none⟩=some (.int .i64 de)/\V.cell? ⟨w.heap.size,5,none⟩=some (.int .i64 it))):=za (fun V p=>by
  have k:=H.2.2.1.ag p (by omega);exact⟨k.cell 0,k.cell 1,k.cell 2,k.cell 3,k.cell 4,k.cell 5⟩)
 have Su:Hid (∀V,Below b.heap.size b V->(V.cell? ⟨w.heap.size+1,0,none⟩=some (.int .u64 id)/\V.cell? ⟨w.heap.size+1,1,none⟩=some (.string nm)/\V.cell? ⟨w.heap.size+1,2,none⟩=some (.string body))):=za (fun V p=>by
  have k:=H.2.2.2.ag p (by omega);exact⟨k.cell 0,k.cell 1,k.cell 2⟩)
 have cG:=za cm;clear cm H;go_enter func34,ntmps34
 go_wp2_with fail
 rw[cG.out];refine(Y.out _).mono ?_;rintro e C ⟨rfl,aH⟩;have x:Hid (Below b.heap.size b C):=za aH;clear aH;obtain⟨r,A,y,z,q,s⟩:=j.out C x.out;have d:=za x.out.size;have Au:Hid (Calls prog 46 #[] (C.alloc (.cells #[.nilFunc,.nilFunc,.nilFunc,.nilFunc] 108)).drew fun e w'=>e= .returned pV/\Below b.heap.size b w'/\af w' C.heap.size 108 #[.nilFunc,.nilFunc,.nilFunc,.nilFunc]):=za ((dt _).mono fun e w' ⟨n,D⟩=>⟨n,((x.out.alloc d.out _).drew).trans (D.mono (by have:=d.out;simp;omega)),(af.new C _ _).drew.ag D (by simp)⟩);have Z:Hid (Calls prog 46 #[] C.drew fun e w'=>e= .returned pV/\Below b.heap.size b w'):=za ((dt _).mono fun e w' ⟨n,D⟩=>⟨n,x.out.drew.trans (D.mono d.out)⟩);unfold pV j9 at Au Z;clear Y;go_upto_region 3 with fail
 go_cut [6] (fun v wx=>∃J:Nat,v= .pointer (some ⟨J,0,none⟩)/\Hid (b.heap.size<=J)/\Hid (af wx J 108 #[.func (.func 68) #[] #[],.func (.func 75) #[] #[],.func (.func 77) #[] #[],.func (.func 79) #[] #[]])/\Hid (Below b.heap.size b wx))
 case first=>
  go_wp2_with fail
  go_region_held3 (fun V=>V.cell? ⟨w.heap.size,0,none⟩=some (.int .i64 2)/\V.cell? ⟨w.heap.size,1,none⟩=some (.int .u32 mg)/\V.cell? ⟨w.heap.size,2,none⟩=some (.int .i64 fr)/\V.cell? ⟨w.heap.size,3,none⟩=some (.int .i64 un)/\V.cell? ⟨w.heap.size,4,none⟩=some (.int .i64 de)/\V.cell? ⟨w.heap.size,5,none⟩=some (.int .i64 it))
   (first|exact j.out _ x.out|exact j.out _ x.out.drew|exact j.out _ ((x.out.alloc d.out _).drew)|exact j.out _ l|exact j.out _ (l.alloc l.size _)|exact j.out _ ((((l.setCell d.out _).setCell d.out _).setCell d.out _).setCell d.out _))
   (first
    |(go_at_call 46;((with_reducible refine Au.out.mono ?_);rintro e w' ⟨rfl,l,hz⟩;obtain⟨z0,B,z2,z3,Ss,St,Sr,aa⟩:=mC hz))
    |(go_at_call 46;((with_reducible refine Z.out.mono ?_);rintro e w' ⟨rfl,l⟩)))
  all_goals
   go_wp2_with fail
   go_meet;case rel=>
    first
     |exact⟨_,rfl,za l.size,za (af.new _ _ _),za (l.alloc l.size _)⟩
     |exact⟨_,rfl,d,za ((((hz.set 0 _).set 1 _).set 2 _).set 3 _),za ((((l.setCell d.out _).setCell d.out _).setCell d.out _).setCell d.out _)⟩
 case rest=>
  obtain⟨J,rfl,ab,Ee,O⟩:=hcut;have Ti:Hid (∀V,Below wc.heap.size wc V->Below b.heap.size b V/\af V J 108 #[.func (.func 68) #[] #[],.func (.func 75) #[] #[],.func (.func 77) #[] #[],.func (.func 79) #[] #[]]):=za (fun V p=>⟨O.out.trans (p.mono O.out.size),Ee.out.ag p Ee.out.lt⟩);have K:Hid (∀V,Below b.heap.size b V->Below w.heap.size w V):=za (fun V p=>HO.out.trans (p.mono (by have:=HL.out;omega)));clear Au Z r A y z q s hI;obtain⟨r,A,y,z,q,s⟩:=j.out wc O.out;obtain⟨F,G,I⟩:=Su.out wc O.out;obtain⟨z0,B,z2,z3,_⟩:=mC Ee.out;go_wp2_with fail
  refine(HF.out _).mono ?_;rintro e w2 ⟨rfl,h⟩;obtain⟨M,kX⟩:=Ti.out w2 h;have du:=za h;have Eo:=za M;clear r A y z q s F G I z0 B z2 z3 h;obtain⟨r,A,y,z,q,s⟩:=j.out w2 M;obtain⟨F,G,I⟩:=Su.out w2 M;obtain⟨z0,B,z2,z3,_⟩:=mC kX;clear M kX;cases ft with
  |false=>
   have u:=i.out.1 (by simp);injection u with gG iB;subst gG;subst iB;clear i;go_wp2;go_ret2
   exact⟨rfl,K.out _ Eo.out⟩
  |true=>
   go_wp2_with fail
   refine(HY.out _).mono ?_;rintro e w3 ⟨rfl,h⟩;have jJ:Hid (Below wc.heap.size wc w3):=za (du.out.trans (h.mono du.out.size));obtain⟨U,tB⟩:=Ti.out w3 jJ.out;have Sv:=za U;clear r A y z q s F G I z0 B z2 z3 h;obtain⟨r,A,y,z,q,s⟩:=j.out w3 U;obtain⟨F,G,I⟩:=Su.out w3 U;obtain⟨z0,B,z2,z3,_⟩:=mC tB;clear U tB;rcases eT E with⟨e0,e1,e2⟩|⟨e0,e1,e2⟩
   ·subst e0;have R:=za (And.intro (i.out.2.2.1 (by simp) (by simp)) (i.out.2.2.2 (by simp) (by simp)));clear i;go_wp2_with fail
    refine(W.out _).mono ?_;rintro e w4 ⟨rfl,h⟩;have L:Hid (Below b.heap.size b w4):=za (Sv.out.trans (h.mono Sv.out.size));clear r A y z q s F G I z0 B z2 z3 h;by_cases N:y5=5
    ·have u:=R.out.1 N;injection u with gG iB;subst gG;subst iB;subst N;clear R;go_wp2;go_ret2
     exact⟨rfl,K.out _ (L.out.alloc L.out.size _)⟩
    have u:=R.out.2 N;injection u with gG iB;subst gG;subst iB;clear R;have h6:(y5==5)=false:=by simpa using N
    go_wp2;go_ret2
    exact⟨rfl,K.out _ (L.out.alloc L.out.size _)⟩
   have u:=i.out.2.1 (by simp) e0;injection u with gG iB;subst gG;subst iB;clear i;go_wp2;go_ret2
   exact⟨rfl,K.out _ Sv.out⟩
theorem Uz (c:aN)(f:Fr)(hc:c.ok)(hf:f.ok)(i:f.body.size<=1000000)(n:c.fm=3)(hr:c.right=true)(w:World):
 Calls prog 34 #[c.val,f.val] w fun e w'=>e= .returned (.tuple #[.string (fx c f).1,.int .i64 (fx c f).2])/\Below w.heap.size w w':=by
 have Og:=(c.bW).1 hr;have hz:=tw c f hf i;have uK:=za (Gq c none 0 140000 (aX c f).1 hc n (by omega) (by omega) (by omega) (by omega));have HF:Hid (∀V,Calls prog 68 #[f.val] V fun e w'=>e= .returned (.bool (jo c f))/\Below V.heap.size V w'):=za (fun V=>by have:=Lk f V;unfold jo;rw[zh (by omega)];exact this);have HY:=za (fun V=>X8 c f hf (by omega) n V);clear Og hc hf i hz;have hI:=QM;unfold pV fm3 j9 at hI;have Y:=za (fun w=>jB c w);rw[hr]at Y;have h:=za (sk c f hr);have W:Hid (∀V,Calls prog 82 #[c.val,.pointer none,.string (aX c f).1] V fun e w'=>e= .returned (pG (bd c (aX c f).1))/\Below V.heap.size V w'):=za (fun V=>(uK.out V V (MS.refl trivial)).mono fun e w' ⟨n,D⟩=>⟨n,D.wP⟩);clear uK;unfold pG Fr.val at*;obtain⟨X,o⟩:∃X,bd c (aX c f).1=X:=⟨_,rfl⟩
 rw[o]at W h;clear o;obtain⟨y5,⟨y1,y2,y3⟩,y4,m⟩:=X;obtain⟨X,o⟩:∃X,aX c f=X:=⟨_,rfl⟩
 rw[o]at W h HY;clear o;obtain⟨S,E⟩:=X;obtain⟨X,o⟩:∃X,fx c f=X:=⟨_,rfl⟩
 rw[o]at h⊢;clear o;obtain⟨P1,P2⟩:=X;obtain⟨ft,sE⟩:∃ft,jo c f=ft:=⟨_,rfl⟩
 rw[sE]at h HF;clear sE;simp only at W h HY;unfold aN.val at*;obtain⟨fm,mg,fr,un,de,it⟩:=c;obtain⟨id,nm,body⟩:=f;simp only at*;subst n;obtain⟨b,cm⟩:∃b,(w.alloc (.cells #[.int .i64 3,.int .u32 mg,.int .i64 fr,.int .i64 un,.int .i64 de,.int .i64 it] 24)).alloc (.cells #[.int .u64 id,.string nm,.string body] 84)=b:=⟨_,rfl⟩
 have H:=iH cm;have HO:Hid (Below w.heap.size w b):=za H.2.1;have HL:Hid (b.heap.size=w.heap.size+2):=za H.1;have j:Hid (∀V,Below b.heap.size b V->(V.cell? ⟨w.heap.size,0,none⟩=some (.int .i64 3)/\V.cell? ⟨w.heap.size,1,none⟩=some (.int .u32 mg)/\V.cell? ⟨w.heap.size,2,none⟩=some (.int .i64 fr)/\V.cell? ⟨w.heap.size,3,none⟩=some (.int .i64 un)/\V.cell? ⟨w.heap.size,4,none⟩=some (.int .i64 de)/\V.cell? ⟨w.heap.size,5,none⟩=some (.int .i64 it))):=za (fun V p=>by
  have k:=H.2.2.1.ag p (by omega);exact⟨k.cell 0,k.cell 1,k.cell 2,k.cell 3,k.cell 4,k.cell 5⟩)
 have Su:Hid (∀V,Below b.heap.size b V->(V.cell? ⟨w.heap.size+1,0,none⟩=some (.int .u64 id)/\V.cell? ⟨w.heap.size+1,1,none⟩=some (.string nm)/\V.cell? ⟨w.heap.size+1,2,none⟩=some (.string body))):=za (fun V p=>by
  have k:=H.2.2.2.ag p (by omega);exact⟨k.cell 0,k.cell 1,k.cell 2⟩)
 have cG:=za cm;clear cm H;go_enter func34,ntmps34
 go_wp2_with fail
 rw[cG.out];refine(Y.out _).mono ?_;rintro e C ⟨rfl,aH⟩;have x:Hid (Below b.heap.size b C):=za aH;clear aH;obtain⟨r,A,y,z,q,s⟩:=j.out C x.out;have d:=za x.out.size;have Au:Hid (Calls prog 46 #[] (C.alloc (.cells #[.nilFunc,.nilFunc,.nilFunc,.nilFunc] 108)).drew fun e w'=>e= .returned pV/\Below b.heap.size b w'/\af w' C.heap.size 108 #[.nilFunc,.nilFunc,.nilFunc,.nilFunc]):=za ((dt _).mono fun e w' ⟨n,D⟩=>⟨n,((x.out.alloc d.out _).drew).trans (D.mono (by have:=d.out;simp;omega)),(af.new C _ _).drew.ag D (by simp)⟩);have Z:Hid (Calls prog 46 #[] C.drew fun e w'=>e= .returned pV/\Below b.heap.size b w'):=za ((dt _).mono fun e w' ⟨n,D⟩=>⟨n,x.out.drew.trans (D.mono d.out)⟩);unfold pV j9 at Au Z;clear Y;go_upto_region 3 with fail
 go_cut [6] (fun v wx=>∃J:Nat,v= .pointer (some ⟨J,0,none⟩)/\Hid (b.heap.size<=J)/\Hid (af wx J 108 #[.func (.func 68) #[] #[],.func (.func 80) #[] #[],.func (.func 82) #[] #[],.func (.func 79) #[] #[]])/\Hid (Below b.heap.size b wx))
 case first=>
  go_wp2_with fail
  go_region_held3 (fun V=>V.cell? ⟨w.heap.size,0,none⟩=some (.int .i64 3)/\V.cell? ⟨w.heap.size,1,none⟩=some (.int .u32 mg)/\V.cell? ⟨w.heap.size,2,none⟩=some (.int .i64 fr)/\V.cell? ⟨w.heap.size,3,none⟩=some (.int .i64 un)/\V.cell? ⟨w.heap.size,4,none⟩=some (.int .i64 de)/\V.cell? ⟨w.heap.size,5,none⟩=some (.int .i64 it))
   (first|exact j.out _ x.out|exact j.out _ x.out.drew|exact j.out _ ((x.out.alloc d.out _).drew)|exact j.out _ l|exact j.out _ (l.alloc l.size _)|exact j.out _ ((((l.setCell d.out _).setCell d.out _).setCell d.out _).setCell d.out _))
   (first
    |(go_at_call 46;((with_reducible refine Au.out.mono ?_);rintro e w' ⟨rfl,l,hz⟩;obtain⟨z0,B,z2,z3,Ss,St,Sr,aa⟩:=mC hz))
    |(go_at_call 46;((with_reducible refine Z.out.mono ?_);rintro e w' ⟨rfl,l⟩)))
  all_goals
   go_wp2_with fail
   go_meet;case rel=>
    first
     |exact⟨_,rfl,za l.size,za (af.new _ _ _),za (l.alloc l.size _)⟩
     |exact⟨_,rfl,d,za ((((hz.set 0 _).set 1 _).set 2 _).set 3 _),za ((((l.setCell d.out _).setCell d.out _).setCell d.out _).setCell d.out _)⟩
 case rest=>
  obtain⟨J,rfl,ab,Ee,O⟩:=hcut;have Ti:Hid (∀V,Below wc.heap.size wc V->Below b.heap.size b V/\af V J 108 #[.func (.func 68) #[] #[],.func (.func 80) #[] #[],.func (.func 82) #[] #[],.func (.func 79) #[] #[]]):=za (fun V p=>⟨O.out.trans (p.mono O.out.size),Ee.out.ag p Ee.out.lt⟩);have K:Hid (∀V,Below b.heap.size b V->Below w.heap.size w V):=za (fun V p=>HO.out.trans (p.mono (by have:=HL.out;omega)));clear Au Z r A y z q s hI;obtain⟨r,A,y,z,q,s⟩:=j.out wc O.out;obtain⟨F,G,I⟩:=Su.out wc O.out;obtain⟨z0,B,z2,z3,_⟩:=mC Ee.out;go_wp2_with fail
  refine(HF.out _).mono ?_;rintro e w2 ⟨rfl,i⟩;obtain⟨M,kX⟩:=Ti.out w2 i;have du:=za i;have Eo:=za M;clear r A y z q s F G I z0 B z2 z3 i;obtain⟨r,A,y,z,q,s⟩:=j.out w2 M;obtain⟨F,G,I⟩:=Su.out w2 M;obtain⟨z0,B,z2,z3,_⟩:=mC kX;clear M kX;cases ft with
  |false=>
   have u:=h.out.1 (by simp);injection u with gG iB;subst gG;subst iB;clear h;go_wp2;go_ret2
   exact⟨rfl,K.out _ Eo.out⟩
  |true=>
   go_wp2_with fail
   refine(HY.out _).mono ?_;rintro e w3 ⟨rfl,i⟩;have jJ:Hid (Below wc.heap.size wc w3):=za (du.out.trans (i.mono du.out.size));obtain⟨U,tB⟩:=Ti.out w3 jJ.out;have Sv:=za U;clear r A y z q s F G I z0 B z2 z3 i;obtain⟨r,A,y,z,q,s⟩:=j.out w3 U;obtain⟨F,G,I⟩:=Su.out w3 U;obtain⟨z0,B,z2,z3,_⟩:=mC tB;clear U tB;rcases eT E with⟨e0,e1,e2⟩|⟨e0,e1,e2⟩
   ·subst e0;have R:=za (And.intro (h.out.2.2.1 (by simp) (by simp)) (h.out.2.2.2 (by simp) (by simp)));clear h;go_wp2_with fail
    refine(W.out _).mono ?_;rintro e w4 ⟨rfl,i⟩;have L:Hid (Below b.heap.size b w4):=za (Sv.out.trans (i.mono Sv.out.size));clear r A y z q s F G I z0 B z2 z3 i;by_cases N:y5=5
    ·have u:=R.out.1 N;injection u with gG iB;subst gG;subst iB;subst N;clear R;go_wp2;go_ret2
     exact⟨rfl,K.out _ (L.out.alloc L.out.size _)⟩
    have u:=R.out.2 N;injection u with gG iB;subst gG;subst iB;clear R;have h6:(y5==5)=false:=by simpa using N
    go_wp2;go_ret2
    exact⟨rfl,K.out _ (L.out.alloc L.out.size _)⟩
   have u:=h.out.2.1 (by simp) e0;injection u with gG iB;subst gG;subst iB;clear h;go_wp2;go_ret2
   exact⟨rfl,K.out _ Sv.out⟩
theorem UA (c:aN)(f:Fr)(b:c.ok)(d:f.ok)(i:c.fm=1\/f.body.size<=1000000)(w:World):
 Calls prog 34 #[c.val,f.val] w fun e w'=>e= .returned (.tuple #[.string (fx c f).1,.int .i64 (fx c f).2])/\Below w.heap.size w w':=by
 cases hr:c.right with
 |true=>
  have o:=(c.bW).1 hr;rcases(by omega:c.fm=1\/c.fm=2\/c.fm=3)with h|h|h
  ·exact Ux c f b d h hr w
  ·exact Uy c f b d (i.resolve_left (by omega)) h hr w
  exact Uz c f b d (i.resolve_left (by omega)) h hr w
 |false=>
  have l:fx c f=(ByteArray.empty,1):=by unfold fx;rw[zh (by simp[hr])]
  have j:=za (fun w=>jB c w);rw[hr]at j;rw[l];clear l hr b d i;unfold aN.val Fr.val at*;go_enter func34,ntmps34
  go_wp2_with fail
  refine(j.out _).mono ?_;rintro e m ⟨rfl,k⟩;have n:Below w.heap.size w m:=(((zl w.heap.size w).alloc (zd _) _).alloc (by simp) _).trans (k.mono (by simp;omega));clear k;go_wp2;go_ret2
  exact⟨rfl,n⟩
