/- What the formats tell of bytes: their closures, by any meter or none. -/
import Derived.Test.YtpjgigllldipiaaGreatDoorKA9
import Derived.Test.YtpjgigllldipiaaGreatDoorKCoinN
import Derived.Test.YtpjgigllldipiaaGreatDoorKA21
set_option linter.all false
set_option maxRecDepth 100000
set_option maxHeartbeats 4000000
namespace Go.Proofs.YtpjgigllldipiaaGreatDoor
open Go.RowKit
def Zf:=@Tryz.results49
def Met (w:World):Option Nat->Nat->Nat->Prop
 |none,_,_=>True
 |some g,t,R=>∃a u p,tj w g a u t p/\a<=9223372036854775807/\u+R<=a/\t+R<=9223372036854775807
def np :Option Nat->Value
 |none=> .pointer none
 |some g=> .pointer (some ⟨g,0,none⟩)
theorem Met.only {L:List Nat}{w w':World}{b:Option Nat}{t R:Nat}(h:Met w b t R)(i:ae L w w')(d:∀g,b=some g->g∉L):Met w' b t R:=by
 cases b with
 |none=>trivial
 |some g=>
  obtain⟨a,u,p,e,c⟩:=h;exact⟨a,u,p,e.only i (d g rfl),c⟩
theorem Met.lt {w:World}{b:Option Nat}{t R:Nat}(h:Met w b t R):∀g,b=some g->g<w.heap.size:=by
 rintro g rfl;obtain⟨a,u,p,c,_⟩:=h;exact c.lt
theorem Met.less {w:World}{b:Option Nat}{t R R':Nat}(h:Met w b t R)(i:R'<=R):Met w b t R':=by
 cases b with
 |none=>trivial
 |some g=>
  obtain⟨a,u,p,d,c,j,e⟩:=h;exact⟨a,u,p,d,c,by omega,by omega⟩
structure MS (mo:Option Nat)(t R:Nat)(W0 V:World):Prop where
 only:ae mo.toList W0 V
 met:Met V mo t R
theorem MS.refl {b:Option Nat}{t R:Nat}{w:World}(h:Met w b t R):MS b t R w w:=⟨ae.refl _ _,h⟩
theorem MS.below {d:Option Nat}{t R:Nat}{c V V':World}(h:MS d t R c V)(b:Below V.heap.size V V'):MS d t R c V':=
 ⟨h.only.trans' (ae.ah b (zi _)) (by simp),h.met.only (ae.ah b (zi _)) (by simp)⟩
theorem MS.alloc {c:Option Nat}{t R:Nat}{b V:World}(h:MS c t R b V)(o:Obj):MS c t R b (V.alloc o):=h.below ((zq _ _).alloc (zi _) _)
theorem MS.drew {c:Option Nat}{t R:Nat}{b V:World}(h:MS c t R b V):MS c t R b V.drew:=h.below (zq _ _).drew
theorem MS.blk {b:Option Nat}{t R:Nat}{e V:World}(h:MS b t R e V){g:Nat}{ty:TypeId}{c:Array Value}(j:af e g ty c)(i:∀k,b=some k->k<g):af V g ty c:=
 j.only h.only (by
  intro d;cases b with
  |none=>simp at d
  |some k=>have:=i k rfl;simp at d;omega)
theorem MS.from {b:Option Nat}{t R:Nat}{w c V:World}(h:MS b t R c V)(d:ae b.toList w c):MS b t R w V:=⟨d.trans h.only,h.met⟩
theorem MS.size {mo:Option Nat}{t R:Nat}{W0 V:World}(h:MS mo t R W0 V):W0.heap.size<=V.heap.size:=h.only.size
theorem MS.put {c:Option Nat}{t R:Nat}{w V:World}(h:MS c t R w V){b o:Nat}(e:w.heap.size<=b)(i:∀k,c=some k->k<b)(v:Value):MS c t R w (V.setCell ⟨b,o,none⟩ v):=by
 refine⟨h.only.setCell (.inr (by simpa using e)) _, ?_⟩;have:=h.met;cases c with
 |none=>trivial
 |some g=>
  obtain⟨a,u,p,j,d⟩:=this;exact⟨a,u,p,j.dz (by have:=i g rfl;simp;omega) _,d⟩
theorem MS.dV {c:Option Nat}{t R:Nat}{w V:World}(h:MS c t R w V){b:Nat}(d:w.heap.size<=b)(e:∀k,c=some k->k<b)(l j i:Value):MS c t R w (((V.setCell ⟨b,0,none⟩ l).setCell ⟨b,1,none⟩ j).setCell ⟨b,2,none⟩ i):=((h.put d e _).put d e _).put d e _
theorem MS.vT {t R:Nat}{w V:World}(h:MS none t R w V):Below w.heap.size w V:=h.only.below (zi _) (by simp)
theorem ij {w c:World}{e d:TypeId}{a b:Array Value}(h:(w.alloc (.cells a e)).alloc (.cells b d)=c):c.heap.size=w.heap.size+2/\Below w.heap.size w c/\af c w.heap.size e a/\af c (w.heap.size+1) d b:=by
 subst h;refine⟨by simp,bM,(af.new w _ _).alloc _, ?_⟩;have:=af.new (w.alloc (.cells a e)) d b;rwa [zu]at this
def oX (x:Int×Fr×Nat×Nat):Value:= .tuple #[x.2.1.val,.int .i64 x.2.2.1,.int .i64 x.1]
theorem FX (c:aS)(d:Option Nat)(t R:Nat)(s:ByteArray)(x:c.ok)(j:c.fm=1)(S:c.fr<=65536)(z:s.size<=1099511627776)(W w:World)(h:MS d t R W w):
 Calls Tryz.prog 69 #[c.val,np d,.string s] w fun e w'=>e= .returned (oX (bo c s))/\MS d (t+(bo c s).2.2.2) (R-(bo c s).2.2.2) W w':=by
 have l:bo c s=((aX c.mg c.fr s).1,⟨0,(aX c.mg c.fr s).2.1,(aX c.mg c.fr s).2.2.1⟩,(aX c.mg c.fr s).2.2.2,0):=by unfold bo;rw[zl j]
 have p:Hid (∀b V,MS d t R b V->Calls Tryz.prog 70 #[.int .u32 c.mg,.int .i64 c.fr,.string s] V fun e w'=>e= .returned (.tuple #[.agg #[.int .u64 (bo c s).2.1.id,.string (bo c s).2.1.nm,.string (bo c s).2.1.body],.int .i64 (bo c s).2.2.1,.int .i64 (bo c s).1])/\MS d (t+(bo c s).2.2.2) (R-(bo c s).2.2.2) b w'):=za (fun b V A=>
  (Jg c.mg c.fr s V x.mg z x.fr (.inr (by omega))).mono fun e w' ⟨j,K⟩=>by rw[l];exact⟨j,A.below K⟩)
 obtain⟨b,n⟩:∃b,(w.alloc (.cells #[.int .i64 c.fm,.int .u32 c.mg,.int .i64 c.fr,.int .i64 c.un,.int .i64 c.de,.int .i64 c.it] 24)).alloc (.cells #[.int .u64 0,.string ⟨#[]⟩,.string ⟨#[]⟩] 74)=b:=⟨_,rfl⟩
 have i:=ij n;have G:Hid (ae d.toList W b):=za (h.only.trans ((ae.ah i.2.1 (zi _)).mono (by simp)));have B:Hid (af b (w.heap.size+1) 74 #[.int .u64 0,.string ⟨#[]⟩,.string ⟨#[]⟩]):=za i.2.2.2;have J:Hid (MS d t R b b):=za (MS.refl (h.met.only (ae.ah i.2.1 (zi _)) (by simp)));have u:Hid (∀k,d=some k->k<w.heap.size+1):=za (fun k H=>by have:=h.met.lt k H;omega);have M:Hid (W.heap.size<=w.heap.size+1):=za (by have:=h.size;omega);have F:=za n;have y:=za l;clear n i h l j;unfold aS.val;generalize np d=O at*;obtain⟨X,q⟩:∃X,bo c s=X:=⟨_,rfl⟩
 rw[q]at y p⊢;clear q;obtain⟨I,⟨L,C,N⟩,D,m⟩:=X;simp only at p y;go_enter Tryz.func69,Tryz.ntmps69
 go_wp2_with fail
 rw[F.out];refine(p.out _ _ J.out).mono ?_;rintro e U ⟨rfl,o⟩;have r:=za (o.blk B.out u.out);have E:=za (o.from G.out);clear o;obtain⟨g0,g1,g2,f0,f1,f2⟩:=a8 r.out;go_wp2;refine zp (v:= .tuple #[.agg #[.int .u64 L,.string C,.string N],.int .i64 D,.int .i64 I]) (by simp[results,Tryz.results69,go_sem,dK r.out]) rfl ?_;exact⟨rfl,E.out.dV M.out u.out _ _ _⟩
theorem FY (c:aS)(d:Option Nat)(t R:Nat)(s:ByteArray)(x:c.ok)(j:c.fm=2)(S:c.fr<=65536)(N:s.size<=1099511627776)(W w:World)(h:MS d t R W w):
 Calls Tryz.prog 74 #[c.val,np d,.string s] w fun e w'=>e= .returned (oX (bo c s))/\MS d (t+(bo c s).2.2.2) (R-(bo c s).2.2.2) W w':=by
 have l:bo c s=((ai c.fr s).1,⟨(ai c.fr s).2.1,ByteArray.empty,(ai c.fr s).2.2.1⟩,(ai c.fr s).2.2.2,0):=by unfold bo;rw[zj (by omega),zl j]
 have p:Hid (∀b V,MS d t R b V->Calls Tryz.prog 75 #[.int .i64 c.fr,.string s] V fun e w'=>e= .returned (.tuple #[.agg #[.int .u64 (bo c s).2.1.id,.string (bo c s).2.1.nm,.string (bo c s).2.1.body],.int .i64 (bo c s).2.2.1,.int .i64 (bo c s).1])/\MS d (t+(bo c s).2.2.2) (R-(bo c s).2.2.2) b w'):=za (fun b V z=>
  (j8 c.fr s V (by omega) x.fr.1 x.fr.2).mono fun e w' ⟨j,J⟩=>by rw[l];exact⟨j,z.below J⟩)
 obtain⟨b,n⟩:∃b,(w.alloc (.cells #[.int .i64 c.fm,.int .u32 c.mg,.int .i64 c.fr,.int .i64 c.un,.int .i64 c.de,.int .i64 c.it] 24)).alloc (.cells #[.int .u64 0,.string ⟨#[]⟩,.string ⟨#[]⟩] 74)=b:=⟨_,rfl⟩
 have i:=ij n;have F:Hid (ae d.toList W b):=za (h.only.trans ((ae.ah i.2.1 (zi _)).mono (by simp)));have A:Hid (af b (w.heap.size+1) 74 #[.int .u64 0,.string ⟨#[]⟩,.string ⟨#[]⟩]):=za i.2.2.2;have I:Hid (MS d t R b b):=za (MS.refl (h.met.only (ae.ah i.2.1 (zi _)) (by simp)));have u:Hid (∀k,d=some k->k<w.heap.size+1):=za (fun k G=>by have:=h.met.lt k G;omega);have L:Hid (W.heap.size<=w.heap.size+1):=za (by have:=h.size;omega);have E:=za n;have y:=za l;clear n i h l j;unfold aS.val;generalize np d=O at*;obtain⟨X,q⟩:∃X,bo c s=X:=⟨_,rfl⟩
 rw[q]at y p⊢;clear q;obtain⟨H,⟨K,B,M⟩,C,m⟩:=X;simp only at p y;go_enter Tryz.func74,Tryz.ntmps74
 go_wp2_with fail
 rw[E.out];refine(p.out _ _ I.out).mono ?_;rintro e U ⟨rfl,o⟩;have r:=za (o.blk A.out u.out);have D:=za (o.from F.out);clear o;obtain⟨g0,g1,g2,f0,f1,f2⟩:=a8 r.out;go_wp2;refine zp (v:= .tuple #[.agg #[.int .u64 K,.string B,.string M],.int .i64 C,.int .i64 H]) (by simp[results,Tryz.results74,go_sem,dK r.out]) rfl ?_;exact⟨rfl,D.out.dV L.out u.out _ _ _⟩
theorem FZ (c:aS)(b:Option Nat)(t R:Nat)(s:ByteArray)(l:c.ok)(i:c.fm=3)(hf:c.fr<=65536)(hu:c.un<=65536)(hR:70000<=R)(Y:s.size<=1099511627776)(W w:World)(h:MS b t R W w):
 Calls Tryz.prog 79 #[c.val,np b,.string s] w fun e w'=>e= .returned (oX (bo c s))/\MS b (t+(bo c s).2.2.2) (R-(bo c s).2.2.2) W w':=by
 have n:bo c s=((aT c.fr c.un s).1,⟨(aT c.fr c.un s).2.1,ByteArray.empty,(aT c.fr c.un s).2.2.1⟩,(aT c.fr c.un s).2.2.2.1,(aT c.fr c.un s).2.2.2.2):=by unfold bo;rw[zj (by omega),zj (by omega)]
 have y:Hid (∀d V,MS b t R d V->Calls Tryz.prog 80 #[.int .i64 c.fr,.int .i64 c.un,np b,.string s] V fun e w'=>e= .returned (.tuple #[.agg #[.int .u64 (bo c s).2.1.id,.string (bo c s).2.1.nm,.string (bo c s).2.1.body],.int .i64 (bo c s).2.2.1,.int .i64 (bo c s).1])/\MS b (t+(bo c s).2.2.2) (R-(bo c s).2.2.2) d w'):=za (fun d V r=>by
  rw[n];cases b with
  |none=>exact(vy c.fr c.un s V (by omega) l.fr.1 l.fr.2).mono fun e w' ⟨i,z⟩=>⟨i,⟨r.only.trans' (ae.ah z (zi _)) (by simp),trivial⟩⟩
  |some g=>
   obtain⟨a,u,p,k1,k2,k3,k4⟩:=r.met;have hm:=IJ c.fr c.un s;exact(vB c.fr c.un g a u t p s V (by omega) l.fr.1 l.fr.2 k1 k2 (by omega) (by omega) (by omega)).mono fun e w' ⟨i,⟨q,z⟩,N⟩=>⟨i,⟨r.only.trans N,⟨a,_,q,z,k2,by simp only;omega,by simp only;omega⟩⟩⟩)
 obtain⟨d,o⟩:∃d,(w.alloc (.cells #[.int .i64 c.fm,.int .u32 c.mg,.int .i64 c.fr,.int .i64 c.un,.int .i64 c.de,.int .i64 c.it] 24)).alloc (.cells #[.int .u64 0,.string ⟨#[]⟩,.string ⟨#[]⟩] 74)=d:=⟨_,rfl⟩
 have j:=ij o;have J:Hid (ae b.toList W d):=za (h.only.trans ((ae.ah j.2.1 (zi _)).mono (by simp)));have E:Hid (af d (w.heap.size+1) 74 #[.int .u64 0,.string ⟨#[]⟩,.string ⟨#[]⟩]):=za j.2.2.2;have M:Hid (MS b t R d d):=za (MS.refl (h.met.only (ae.ah j.2.1 (zi _)) (by simp)));have C:Hid (∀k,b=some k->k<w.heap.size+1):=za (fun k K=>by have:=h.met.lt k K;omega);have S:Hid (W.heap.size<=w.heap.size+1):=za (by have:=h.size;omega);have I:=za o;have D:=za n;clear o j h n i;unfold aS.val;generalize np b=Z at*;obtain⟨X,A⟩:∃X,bo c s=X:=⟨_,rfl⟩
 rw[A]at D y⊢;clear A;obtain⟨L,⟨O,F,U⟩,G,m⟩:=X;simp only at y D;go_enter Tryz.func79,Tryz.ntmps79
 go_wp2_with fail
 rw[I.out];refine(y.out _ _ M.out).mono ?_;rintro e w1 ⟨rfl,x⟩;have B:=za (x.blk E.out C.out);have H:=za (x.from J.out);clear x;obtain⟨g0,g1,g2,f0,f1,f2⟩:=a8 B.out;go_wp2;refine zp (v:= .tuple #[.agg #[.int .u64 O,.string F,.string U],.int .i64 G,.int .i64 L]) (by simp[results,Tryz.results79,go_sem,dK B.out]) rfl ?_;exact⟨rfl,H.out.dV S.out C.out _ _ _⟩
theorem af.ms {b:Option Nat}{t R:Nat}{V V':World}{g:Nat}{ty:TypeId}{c:Array Value}(h:af V g ty c)(e:MS b t R V V')(d:∀k,b=some k->k<g):af V' g ty c:=e.blk h d
theorem Met.below {w w':World}{b:Option Nat}{t R:Nat}(h:Met w b t R)(c:Below w.heap.size w w'):Met w' b t R:=h.only (ae.ah c (zi _)) (by simp)
theorem Xk (c:aS)(d:Option Nat)(t R:Nat)(s:ByteArray)(hc:c.ok)(i:c.fm=1)(U:c.right=true)(hR:70000<=R)(hs:s.size<=1099511627776)(W w:World)(J:MS d t R W w):
 Calls Tryz.prog 49 #[c.val,np d,.string s] w fun e w'=>e= .returned (oX (aW c s))/\MS d (t+(aW c s).2.2.2) (R-(aW c s).2.2.2) W w':=by
 have NU:=(c.cT).1 U;have D:=za (FX c d t R s hc i (by omega) hs);clear NU hc hR;have hI:=Qc;have VV:=M0;unfold pf fm1 kt at hI;unfold fm1 kt at VV;have S:=za (fun w=>jf c w);rw[U]at S;have JM:=za (bN U s);rw[JM.out];clear JM;have M:=za (uH c s);unfold aS.val at*;obtain⟨X,AT⟩:∃X,bo c s=X:=⟨_,rfl⟩
 rw[AT]at D M⊢;clear AT;obtain⟨y,⟨F,C,B⟩,K,m⟩:=X;simp only at D M;obtain⟨fm,z,H,E,A,it⟩:=c;simp only at i;subst i;simp only at*;generalize np d=mv at*;obtain⟨h,O⟩:∃h,(w.alloc (.cells #[.int .i64 1,.int .u32 z,.int .i64 H,.int .i64 E,.int .i64 A,.int .i64 it] 24)).alloc (.cells #[.int .u64 0,.string ⟨#[]⟩,.string ⟨#[]⟩] 74)=h:=⟨_,rfl⟩
 have G:=ij O;have HO:Hid (ae d.toList W h):=za (J.only.trans ((ae.ah G.2.1 (zi _)).mono (by simp)));have HB:Hid (af h (w.heap.size+1) 74 #[.int .u64 0,.string ⟨#[]⟩,.string ⟨#[]⟩]):=za G.2.2.2;have HM:Hid (Met h d t R):=za (J.met.only (ae.ah G.2.1 (zi _)) (by simp));have HG:Hid (∀k,d=some k->k<w.heap.size):=za (J.met.lt);have HL:Hid (W.heap.size<=w.heap.size/\h.heap.size=w.heap.size+2):=za ⟨J.size,G.1⟩;have o:Hid (∀V t R,MS d t R h V->V.cell? ⟨w.heap.size,0,none⟩=some (.int .i64 1)/\V.cell? ⟨w.heap.size,1,none⟩=some (.int .u32 z)/\V.cell? ⟨w.heap.size,2,none⟩=some (.int .i64 H)/\V.cell? ⟨w.heap.size,3,none⟩=some (.int .i64 E)/\V.cell? ⟨w.heap.size,4,none⟩=some (.int .i64 A)/\V.cell? ⟨w.heap.size,5,none⟩=some (.int .i64 it)):=za (fun V t R l=>by
  have x:=l.blk G.2.2.1 HG.out;exact⟨x.cell 0,x.cell 1,x.cell 2,x.cell 3,x.cell 4,x.cell 5⟩)
 have cL:=za O;clear O G J;go_enter Tryz.func49,Tryz.ntmps49
 go_wp2_with fail
 rw[cL.out];refine(S.out _).mono ?_;rintro e u ⟨rfl,aI⟩;have r:Hid (MS d t R h u):=za ((MS.refl HM.out).below aI);clear aI;obtain⟨q0,q1,q2,q3,q4,q5⟩:=o.out u _ _ r.out;have gy:=za r.out.size;have I:Hid (∀V,MS d t R h V->∀k,d=some k->k<V.heap.size):=za (fun V l=>l.met.lt);have wQ:Hid (Calls Tryz.prog 44 #[] (u.alloc (.cells #[.int .u64 0,.string ⟨#[]⟩,.string ⟨#[]⟩] 74)).drew fun e w'=>e= .returned pf/\MS d t R h w'/\af w' u.heap.size 74 #[.int .u64 0,.string ⟨#[]⟩,.string ⟨#[]⟩]):=za ((dr _).mono fun e w' ⟨i,j⟩=>⟨i,((r.out.alloc _).drew).below j,(af.new u _ _).drew.ag j (by simp)⟩);have Z:Hid (Calls Tryz.prog 44 #[] u.drew fun e w'=>e= .returned pf/\MS d t R h w'):=za ((dr _).mono fun e w' ⟨i,j⟩=>⟨i,r.out.drew.below j⟩);have VY:Hid (∀V,MS d t R h V->Calls Tryz.prog 69 #[.agg #[.int .i64 1,.int .u32 z,.int .i64 H,.int .i64 E,.int .i64 A,.int .i64 it],mv,.string s] (V.alloc (.cells #[.int .u64 0,.string ⟨#[]⟩,.string ⟨#[]⟩] 74)) fun e w'=>e= .returned (.tuple #[.agg #[.int .u64 F,.string C,.string B],.int .i64 K,.int .i64 y])/\MS d (t+m) (R-m) h w'/\af w' V.heap.size 74 #[.int .u64 0,.string ⟨#[]⟩,.string ⟨#[]⟩]):=za (fun V l=>
  (D.out _ _ (MS.refl (l.alloc _).met)).mono fun e w' ⟨i,j⟩=>⟨i,j.from (l.alloc _).only,(af.new V _ _).ms j (I.out V l)⟩)
 have VZ:Hid (∀V,MS d t R h V->af V u.heap.size 74 #[.int .u64 0,.string ⟨#[]⟩,.string ⟨#[]⟩]->Calls Tryz.prog 69 #[.agg #[.int .i64 1,.int .u32 z,.int .i64 H,.int .i64 E,.int .i64 A,.int .i64 it],mv,.string s] V fun e w'=>e= .returned (.tuple #[.agg #[.int .u64 F,.string C,.string B],.int .i64 K,.int .i64 y])/\MS d (t+m) (R-m) h w'/\af w' u.heap.size 74 #[.int .u64 0,.string ⟨#[]⟩,.string ⟨#[]⟩]):=za (fun V l x=>
  (D.out _ _ (MS.refl l.met)).mono fun e w' ⟨i,j⟩=>⟨i,j.from l.only,x.ms j (I.out u r.out)⟩)
 have sY:Hid (∀V,MS d t R h V->Calls Tryz.prog 69 #[.agg #[.int .i64 1,.int .u32 z,.int .i64 H,.int .i64 E,.int .i64 A,.int .i64 it],mv,.string s] V fun e w'=>e= .returned (.tuple #[.agg #[.int .u64 F,.string C,.string B],.int .i64 K,.int .i64 y])/\MS d (t+m) (R-m) h w'):=za (fun V l=>
  (D.out _ _ (MS.refl l.met)).mono fun e w' ⟨i,j⟩=>⟨i,j.from l.only⟩)
 unfold pf kt at wQ Z;clear D S;go_upto_region 3 with fail
 go_cut [9,10,11] (fun v n er wx=>∃N:Nat,v= .pointer (some ⟨N,0,none⟩)/\n= .int .i64 K/\er= .int .i64 y/\Hid (h.heap.size<=N)/\Hid (af wx N 74 #[.int .u64 F,.string C,.string B])/\Hid (MS d (t+m) (R-m) h wx))
 case first=>
  go_wp2_with fail
  go_region_held3 (fun V=>V.cell? ⟨w.heap.size,0,none⟩=some (.int .i64 1)/\V.cell? ⟨w.heap.size,1,none⟩=some (.int .u32 z)/\V.cell? ⟨w.heap.size,2,none⟩=some (.int .i64 H)/\V.cell? ⟨w.heap.size,3,none⟩=some (.int .i64 E)/\V.cell? ⟨w.heap.size,4,none⟩=some (.int .i64 A)/\V.cell? ⟨w.heap.size,5,none⟩=some (.int .i64 it))
   (first|exact o.out _ _ _ r.out|exact o.out _ _ _ r.out.drew|exact o.out _ _ _ ((r.out.alloc _).drew)|exact o.out _ _ _ q|exact o.out _ _ _ p|exact o.out _ _ _ (p.alloc _)|exact o.out _ _ _ (q.alloc _)|exact o.out _ _ _ (q.dV gy.out (I.out _ r.out) _ _ _)|exact o.out _ _ _ (q.dV p.size (I.out _ p) _ _ _))
   (first
    |(go_at_call 69;((with_reducible refine(VZ.out _ p hz).mono ?_);rintro e w2 ⟨rfl,q,L⟩;obtain⟨z0,z1,z2,RM,RL,RN⟩:=a8 L))
    |(go_at_call 69;((with_reducible refine(VY.out _ p).mono ?_);rintro e w2 ⟨rfl,q,L⟩;obtain⟨z0,z1,z2,RM,RL,RN⟩:=a8 L))
    |(go_at_call 69;((with_reducible refine(sY.out _ p).mono ?_);rintro e w2 ⟨rfl,q⟩))
    |(go_at_call 44;((with_reducible refine wQ.out.mono ?_);rintro e w' ⟨rfl,p,hz⟩;obtain⟨z0,z1,z2,RM,RL,RN⟩:=a8 hz))
    |(go_at_call 44;((with_reducible refine Z.out.mono ?_);rintro e w' ⟨rfl,p⟩)))
  all_goals
   go_wp2_with fail
   go_meet;case rel=>
    first
     |exact⟨_,rfl,rfl,rfl,za q.size,za (af.new _ _ _),za (q.alloc _)⟩
     |exact⟨_,rfl,rfl,rfl,gy,za (kX L _ _ _),za (q.dV gy.out (I.out _ r.out) _ _ _)⟩
     |exact⟨_,rfl,rfl,rfl,za p.size,za (kX L _ _ _),za (q.dV p.size (I.out _ p) _ _ _)⟩
 case rest=>
  obtain⟨N,rfl,rfl,rfl,ab,DH,wP⟩:=hcut;have Y:Hid (af wc (w.heap.size+1) 74 #[.int .u64 0,.string ⟨#[]⟩,.string ⟨#[]⟩]):=za (wP.out.blk HB.out (fun k hk=>by have:=HG.out k hk;omega));have VW:Hid (MS d (t+m) (R-m) W wc):=za (wP.out.from HO.out);have VX:Hid (W.heap.size<=w.heap.size+1):=za (by have:=HL.out;omega);have Gu:Hid (∀k,d=some k->k<w.heap.size+1):=za (fun k hk=>by have:=HG.out k hk;omega);obtain⟨g0,g1,g2,f0,f1,f2⟩:=a8 Y.out;obtain⟨k0,k1,k2,_,_,_⟩:=a8 DH.out;clear wQ Z VY VZ sY o q0 q1 q2 q3 q4 q5 hI VV;rcases eH y with⟨h0,i,j⟩|⟨h0,i,j⟩
  ·subst h0;go_wp2;refine zp (v:= .tuple #[.agg #[.int .u64 F,.string C,.string B],.int .i64 K,.int .i64 0]) (by simp[results,Zf,go_sem,dK Y.out]) rfl ?_;exact⟨rfl,VW.out.dV VX.out Gu.out _ _ _⟩
  obtain⟨aa,rfl⟩:=M.out h0;obtain⟨rfl,rfl,rfl⟩:F=0/\C=ByteArray.empty/\B=ByteArray.empty:=by injection aa with a b c;exact⟨a,b,c⟩
  clear M;go_wp2;refine zp (v:= .tuple #[.agg #[.int .u64 0,.string ByteArray.empty,.string ByteArray.empty],.int .i64 0,.int .i64 y]) (by simp[results,Zf,go_sem,dK Y.out,nU]) rfl ?_;exact⟨rfl,VW.out.dV VX.out Gu.out _ _ _⟩
theorem Xl (c:aS)(d:Option Nat)(t R:Nat)(s:ByteArray)(hc:c.ok)(i:c.fm=2)(U:c.right=true)(hR:70000<=R)(hs:s.size<=1099511627776)(W w:World)(J:MS d t R W w):
 Calls Tryz.prog 49 #[c.val,np d,.string s] w fun e w'=>e= .returned (oX (aW c s))/\MS d (t+(aW c s).2.2.2) (R-(aW c s).2.2.2) W w':=by
 have NU:=(c.cT).1 U;have D:=za (FY c d t R s hc i (by omega) hs);clear NU hc hR;have hI:=Qd;have VV:=M3;unfold pf fm2 kt at hI;unfold fm2 kt at VV;have S:=za (fun w=>jf c w);rw[U]at S;have JM:=za (bN U s);rw[JM.out];clear JM;have M:=za (uH c s);unfold aS.val at*;obtain⟨X,AT⟩:∃X,bo c s=X:=⟨_,rfl⟩
 rw[AT]at D M⊢;clear AT;obtain⟨y,⟨F,C,B⟩,K,m⟩:=X;simp only at D M;obtain⟨fm,z,H,E,A,it⟩:=c;simp only at i;subst i;simp only at*;generalize np d=mv at*;obtain⟨h,O⟩:∃h,(w.alloc (.cells #[.int .i64 2,.int .u32 z,.int .i64 H,.int .i64 E,.int .i64 A,.int .i64 it] 24)).alloc (.cells #[.int .u64 0,.string ⟨#[]⟩,.string ⟨#[]⟩] 74)=h:=⟨_,rfl⟩
 have G:=ij O;have HO:Hid (ae d.toList W h):=za (J.only.trans ((ae.ah G.2.1 (zi _)).mono (by simp)));have HB:Hid (af h (w.heap.size+1) 74 #[.int .u64 0,.string ⟨#[]⟩,.string ⟨#[]⟩]):=za G.2.2.2;have HM:Hid (Met h d t R):=za (J.met.only (ae.ah G.2.1 (zi _)) (by simp));have HG:Hid (∀k,d=some k->k<w.heap.size):=za (J.met.lt);have HL:Hid (W.heap.size<=w.heap.size/\h.heap.size=w.heap.size+2):=za ⟨J.size,G.1⟩;have o:Hid (∀V t R,MS d t R h V->V.cell? ⟨w.heap.size,0,none⟩=some (.int .i64 2)/\V.cell? ⟨w.heap.size,1,none⟩=some (.int .u32 z)/\V.cell? ⟨w.heap.size,2,none⟩=some (.int .i64 H)/\V.cell? ⟨w.heap.size,3,none⟩=some (.int .i64 E)/\V.cell? ⟨w.heap.size,4,none⟩=some (.int .i64 A)/\V.cell? ⟨w.heap.size,5,none⟩=some (.int .i64 it)):=za (fun V t R l=>by
  have x:=l.blk G.2.2.1 HG.out;exact⟨x.cell 0,x.cell 1,x.cell 2,x.cell 3,x.cell 4,x.cell 5⟩)
 have cL:=za O;clear O G J;go_enter Tryz.func49,Tryz.ntmps49
 go_wp2_with fail
 rw[cL.out];refine(S.out _).mono ?_;rintro e u ⟨rfl,aI⟩;have r:Hid (MS d t R h u):=za ((MS.refl HM.out).below aI);clear aI;obtain⟨q0,q1,q2,q3,q4,q5⟩:=o.out u _ _ r.out;have gy:=za r.out.size;have I:Hid (∀V,MS d t R h V->∀k,d=some k->k<V.heap.size):=za (fun V l=>l.met.lt);have wQ:Hid (Calls Tryz.prog 44 #[] (u.alloc (.cells #[.int .u64 0,.string ⟨#[]⟩,.string ⟨#[]⟩] 74)).drew fun e w'=>e= .returned pf/\MS d t R h w'/\af w' u.heap.size 74 #[.int .u64 0,.string ⟨#[]⟩,.string ⟨#[]⟩]):=za ((dr _).mono fun e w' ⟨i,j⟩=>⟨i,((r.out.alloc _).drew).below j,(af.new u _ _).drew.ag j (by simp)⟩);have Z:Hid (Calls Tryz.prog 44 #[] u.drew fun e w'=>e= .returned pf/\MS d t R h w'):=za ((dr _).mono fun e w' ⟨i,j⟩=>⟨i,r.out.drew.below j⟩);have VY:Hid (∀V,MS d t R h V->Calls Tryz.prog 74 #[.agg #[.int .i64 2,.int .u32 z,.int .i64 H,.int .i64 E,.int .i64 A,.int .i64 it],mv,.string s] (V.alloc (.cells #[.int .u64 0,.string ⟨#[]⟩,.string ⟨#[]⟩] 74)) fun e w'=>e= .returned (.tuple #[.agg #[.int .u64 F,.string C,.string B],.int .i64 K,.int .i64 y])/\MS d (t+m) (R-m) h w'/\af w' V.heap.size 74 #[.int .u64 0,.string ⟨#[]⟩,.string ⟨#[]⟩]):=za (fun V l=>
  (D.out _ _ (MS.refl (l.alloc _).met)).mono fun e w' ⟨i,j⟩=>⟨i,j.from (l.alloc _).only,(af.new V _ _).ms j (I.out V l)⟩)
 have VZ:Hid (∀V,MS d t R h V->af V u.heap.size 74 #[.int .u64 0,.string ⟨#[]⟩,.string ⟨#[]⟩]->Calls Tryz.prog 74 #[.agg #[.int .i64 2,.int .u32 z,.int .i64 H,.int .i64 E,.int .i64 A,.int .i64 it],mv,.string s] V fun e w'=>e= .returned (.tuple #[.agg #[.int .u64 F,.string C,.string B],.int .i64 K,.int .i64 y])/\MS d (t+m) (R-m) h w'/\af w' u.heap.size 74 #[.int .u64 0,.string ⟨#[]⟩,.string ⟨#[]⟩]):=za (fun V l x=>
  (D.out _ _ (MS.refl l.met)).mono fun e w' ⟨i,j⟩=>⟨i,j.from l.only,x.ms j (I.out u r.out)⟩)
 have sY:Hid (∀V,MS d t R h V->Calls Tryz.prog 74 #[.agg #[.int .i64 2,.int .u32 z,.int .i64 H,.int .i64 E,.int .i64 A,.int .i64 it],mv,.string s] V fun e w'=>e= .returned (.tuple #[.agg #[.int .u64 F,.string C,.string B],.int .i64 K,.int .i64 y])/\MS d (t+m) (R-m) h w'):=za (fun V l=>
  (D.out _ _ (MS.refl l.met)).mono fun e w' ⟨i,j⟩=>⟨i,j.from l.only⟩)
 unfold pf kt at wQ Z;clear D S;go_upto_region 3 with fail
 go_cut [9,10,11] (fun v n er wx=>∃N:Nat,v= .pointer (some ⟨N,0,none⟩)/\n= .int .i64 K/\er= .int .i64 y/\Hid (h.heap.size<=N)/\Hid (af wx N 74 #[.int .u64 F,.string C,.string B])/\Hid (MS d (t+m) (R-m) h wx))
 case first=>
  go_wp2_with fail
  go_region_held3 (fun V=>V.cell? ⟨w.heap.size,0,none⟩=some (.int .i64 2)/\V.cell? ⟨w.heap.size,1,none⟩=some (.int .u32 z)/\V.cell? ⟨w.heap.size,2,none⟩=some (.int .i64 H)/\V.cell? ⟨w.heap.size,3,none⟩=some (.int .i64 E)/\V.cell? ⟨w.heap.size,4,none⟩=some (.int .i64 A)/\V.cell? ⟨w.heap.size,5,none⟩=some (.int .i64 it))
   (first|exact o.out _ _ _ r.out|exact o.out _ _ _ r.out.drew|exact o.out _ _ _ ((r.out.alloc _).drew)|exact o.out _ _ _ q|exact o.out _ _ _ p|exact o.out _ _ _ (p.alloc _)|exact o.out _ _ _ (q.alloc _)|exact o.out _ _ _ (q.dV gy.out (I.out _ r.out) _ _ _)|exact o.out _ _ _ (q.dV p.size (I.out _ p) _ _ _))
   (first
    |(go_at_call 74;((with_reducible refine(VZ.out _ p hz).mono ?_);rintro e w2 ⟨rfl,q,L⟩;obtain⟨z0,z1,z2,RM,RL,RN⟩:=a8 L))
    |(go_at_call 74;((with_reducible refine(VY.out _ p).mono ?_);rintro e w2 ⟨rfl,q,L⟩;obtain⟨z0,z1,z2,RM,RL,RN⟩:=a8 L))
    |(go_at_call 74;((with_reducible refine(sY.out _ p).mono ?_);rintro e w2 ⟨rfl,q⟩))
    |(go_at_call 44;((with_reducible refine wQ.out.mono ?_);rintro e w' ⟨rfl,p,hz⟩;obtain⟨z0,z1,z2,RM,RL,RN⟩:=a8 hz))
    |(go_at_call 44;((with_reducible refine Z.out.mono ?_);rintro e w' ⟨rfl,p⟩)))
  all_goals
   go_wp2_with fail
   go_meet;case rel=>
    first
     |exact⟨_,rfl,rfl,rfl,za q.size,za (af.new _ _ _),za (q.alloc _)⟩
     |exact⟨_,rfl,rfl,rfl,gy,za (kX L _ _ _),za (q.dV gy.out (I.out _ r.out) _ _ _)⟩
     |exact⟨_,rfl,rfl,rfl,za p.size,za (kX L _ _ _),za (q.dV p.size (I.out _ p) _ _ _)⟩
 case rest=>
  obtain⟨N,rfl,rfl,rfl,ab,DH,wP⟩:=hcut;have Y:Hid (af wc (w.heap.size+1) 74 #[.int .u64 0,.string ⟨#[]⟩,.string ⟨#[]⟩]):=za (wP.out.blk HB.out (fun k hk=>by have:=HG.out k hk;omega));have VW:Hid (MS d (t+m) (R-m) W wc):=za (wP.out.from HO.out);have VX:Hid (W.heap.size<=w.heap.size+1):=za (by have:=HL.out;omega);have Gu:Hid (∀k,d=some k->k<w.heap.size+1):=za (fun k hk=>by have:=HG.out k hk;omega);obtain⟨g0,g1,g2,f0,f1,f2⟩:=a8 Y.out;obtain⟨k0,k1,k2,_,_,_⟩:=a8 DH.out;clear wQ Z VY VZ sY o q0 q1 q2 q3 q4 q5 hI VV;rcases eH y with⟨h0,i,j⟩|⟨h0,i,j⟩
  ·subst h0;go_wp2;refine zp (v:= .tuple #[.agg #[.int .u64 F,.string C,.string B],.int .i64 K,.int .i64 0]) (by simp[results,Zf,go_sem,dK Y.out]) rfl ?_;exact⟨rfl,VW.out.dV VX.out Gu.out _ _ _⟩
  obtain⟨aa,rfl⟩:=M.out h0;obtain⟨rfl,rfl,rfl⟩:F=0/\C=ByteArray.empty/\B=ByteArray.empty:=by injection aa with a b c;exact⟨a,b,c⟩
  clear M;go_wp2;refine zp (v:= .tuple #[.agg #[.int .u64 0,.string ByteArray.empty,.string ByteArray.empty],.int .i64 0,.int .i64 y]) (by simp[results,Zf,go_sem,dK Y.out,nU]) rfl ?_;exact⟨rfl,VW.out.dV VX.out Gu.out _ _ _⟩
theorem Xm (c:aS)(d:Option Nat)(t R:Nat)(s:ByteArray)(hc:c.ok)(i:c.fm=3)(U:c.right=true)(hR:70000<=R)(hs:s.size<=1099511627776)(W w:World)(J:MS d t R W w):
 Calls Tryz.prog 49 #[c.val,np d,.string s] w fun e w'=>e= .returned (oX (aW c s))/\MS d (t+(aW c s).2.2.2) (R-(aW c s).2.2.2) W w':=by
 have NU:=(c.cT).1 U;have D:=za (FZ c d t R s hc i (by omega) (by omega) hR hs);clear NU hc hR;have hI:=Qe;have VV:=M4;unfold pf fm3 kt at hI;unfold fm3 kt at VV;have S:=za (fun w=>jf c w);rw[U]at S;have JM:=za (bN U s);rw[JM.out];clear JM;have M:=za (uH c s);unfold aS.val at*;obtain⟨X,AT⟩:∃X,bo c s=X:=⟨_,rfl⟩
 rw[AT]at D M⊢;clear AT;obtain⟨y,⟨F,C,B⟩,K,m⟩:=X;simp only at D M;obtain⟨fm,z,H,E,A,it⟩:=c;simp only at i;subst i;simp only at*;generalize np d=mv at*;obtain⟨h,O⟩:∃h,(w.alloc (.cells #[.int .i64 3,.int .u32 z,.int .i64 H,.int .i64 E,.int .i64 A,.int .i64 it] 24)).alloc (.cells #[.int .u64 0,.string ⟨#[]⟩,.string ⟨#[]⟩] 74)=h:=⟨_,rfl⟩
 have G:=ij O;have HO:Hid (ae d.toList W h):=za (J.only.trans ((ae.ah G.2.1 (zi _)).mono (by simp)));have HB:Hid (af h (w.heap.size+1) 74 #[.int .u64 0,.string ⟨#[]⟩,.string ⟨#[]⟩]):=za G.2.2.2;have HM:Hid (Met h d t R):=za (J.met.only (ae.ah G.2.1 (zi _)) (by simp));have HG:Hid (∀k,d=some k->k<w.heap.size):=za (J.met.lt);have HL:Hid (W.heap.size<=w.heap.size/\h.heap.size=w.heap.size+2):=za ⟨J.size,G.1⟩;have o:Hid (∀V t R,MS d t R h V->V.cell? ⟨w.heap.size,0,none⟩=some (.int .i64 3)/\V.cell? ⟨w.heap.size,1,none⟩=some (.int .u32 z)/\V.cell? ⟨w.heap.size,2,none⟩=some (.int .i64 H)/\V.cell? ⟨w.heap.size,3,none⟩=some (.int .i64 E)/\V.cell? ⟨w.heap.size,4,none⟩=some (.int .i64 A)/\V.cell? ⟨w.heap.size,5,none⟩=some (.int .i64 it)):=za (fun V t R l=>by
  have x:=l.blk G.2.2.1 HG.out;exact⟨x.cell 0,x.cell 1,x.cell 2,x.cell 3,x.cell 4,x.cell 5⟩)
 have cL:=za O;clear O G J;go_enter Tryz.func49,Tryz.ntmps49
 go_wp2_with fail
 rw[cL.out];refine(S.out _).mono ?_;rintro e u ⟨rfl,aI⟩;have r:Hid (MS d t R h u):=za ((MS.refl HM.out).below aI);clear aI;obtain⟨q0,q1,q2,q3,q4,q5⟩:=o.out u _ _ r.out;have gy:=za r.out.size;have I:Hid (∀V,MS d t R h V->∀k,d=some k->k<V.heap.size):=za (fun V l=>l.met.lt);have wQ:Hid (Calls Tryz.prog 44 #[] (u.alloc (.cells #[.int .u64 0,.string ⟨#[]⟩,.string ⟨#[]⟩] 74)).drew fun e w'=>e= .returned pf/\MS d t R h w'/\af w' u.heap.size 74 #[.int .u64 0,.string ⟨#[]⟩,.string ⟨#[]⟩]):=za ((dr _).mono fun e w' ⟨i,j⟩=>⟨i,((r.out.alloc _).drew).below j,(af.new u _ _).drew.ag j (by simp)⟩);have Z:Hid (Calls Tryz.prog 44 #[] u.drew fun e w'=>e= .returned pf/\MS d t R h w'):=za ((dr _).mono fun e w' ⟨i,j⟩=>⟨i,r.out.drew.below j⟩);have VY:Hid (∀V,MS d t R h V->Calls Tryz.prog 79 #[.agg #[.int .i64 3,.int .u32 z,.int .i64 H,.int .i64 E,.int .i64 A,.int .i64 it],mv,.string s] (V.alloc (.cells #[.int .u64 0,.string ⟨#[]⟩,.string ⟨#[]⟩] 74)) fun e w'=>e= .returned (.tuple #[.agg #[.int .u64 F,.string C,.string B],.int .i64 K,.int .i64 y])/\MS d (t+m) (R-m) h w'/\af w' V.heap.size 74 #[.int .u64 0,.string ⟨#[]⟩,.string ⟨#[]⟩]):=za (fun V l=>
  (D.out _ _ (MS.refl (l.alloc _).met)).mono fun e w' ⟨i,j⟩=>⟨i,j.from (l.alloc _).only,(af.new V _ _).ms j (I.out V l)⟩)
 have VZ:Hid (∀V,MS d t R h V->af V u.heap.size 74 #[.int .u64 0,.string ⟨#[]⟩,.string ⟨#[]⟩]->Calls Tryz.prog 79 #[.agg #[.int .i64 3,.int .u32 z,.int .i64 H,.int .i64 E,.int .i64 A,.int .i64 it],mv,.string s] V fun e w'=>e= .returned (.tuple #[.agg #[.int .u64 F,.string C,.string B],.int .i64 K,.int .i64 y])/\MS d (t+m) (R-m) h w'/\af w' u.heap.size 74 #[.int .u64 0,.string ⟨#[]⟩,.string ⟨#[]⟩]):=za (fun V l x=>
  (D.out _ _ (MS.refl l.met)).mono fun e w' ⟨i,j⟩=>⟨i,j.from l.only,x.ms j (I.out u r.out)⟩)
 have sY:Hid (∀V,MS d t R h V->Calls Tryz.prog 79 #[.agg #[.int .i64 3,.int .u32 z,.int .i64 H,.int .i64 E,.int .i64 A,.int .i64 it],mv,.string s] V fun e w'=>e= .returned (.tuple #[.agg #[.int .u64 F,.string C,.string B],.int .i64 K,.int .i64 y])/\MS d (t+m) (R-m) h w'):=za (fun V l=>
  (D.out _ _ (MS.refl l.met)).mono fun e w' ⟨i,j⟩=>⟨i,j.from l.only⟩)
 unfold pf kt at wQ Z;clear D S;go_upto_region 3 with fail
 go_cut [9,10,11] (fun v n er wx=>∃N:Nat,v= .pointer (some ⟨N,0,none⟩)/\n= .int .i64 K/\er= .int .i64 y/\Hid (h.heap.size<=N)/\Hid (af wx N 74 #[.int .u64 F,.string C,.string B])/\Hid (MS d (t+m) (R-m) h wx))
 case first=>
  go_wp2_with fail
  go_region_held3 (fun V=>V.cell? ⟨w.heap.size,0,none⟩=some (.int .i64 3)/\V.cell? ⟨w.heap.size,1,none⟩=some (.int .u32 z)/\V.cell? ⟨w.heap.size,2,none⟩=some (.int .i64 H)/\V.cell? ⟨w.heap.size,3,none⟩=some (.int .i64 E)/\V.cell? ⟨w.heap.size,4,none⟩=some (.int .i64 A)/\V.cell? ⟨w.heap.size,5,none⟩=some (.int .i64 it))
   (first|exact o.out _ _ _ r.out|exact o.out _ _ _ r.out.drew|exact o.out _ _ _ ((r.out.alloc _).drew)|exact o.out _ _ _ q|exact o.out _ _ _ p|exact o.out _ _ _ (p.alloc _)|exact o.out _ _ _ (q.alloc _)|exact o.out _ _ _ (q.dV gy.out (I.out _ r.out) _ _ _)|exact o.out _ _ _ (q.dV p.size (I.out _ p) _ _ _))
   (first
    |(go_at_call 79;((with_reducible refine(VZ.out _ p hz).mono ?_);rintro e w2 ⟨rfl,q,L⟩;obtain⟨z0,z1,z2,RM,RL,RN⟩:=a8 L))
    |(go_at_call 79;((with_reducible refine(VY.out _ p).mono ?_);rintro e w2 ⟨rfl,q,L⟩;obtain⟨z0,z1,z2,RM,RL,RN⟩:=a8 L))
    |(go_at_call 79;((with_reducible refine(sY.out _ p).mono ?_);rintro e w2 ⟨rfl,q⟩))
    |(go_at_call 44;((with_reducible refine wQ.out.mono ?_);rintro e w' ⟨rfl,p,hz⟩;obtain⟨z0,z1,z2,RM,RL,RN⟩:=a8 hz))
    |(go_at_call 44;((with_reducible refine Z.out.mono ?_);rintro e w' ⟨rfl,p⟩)))
  all_goals
   go_wp2_with fail
   go_meet;case rel=>
    first
     |exact⟨_,rfl,rfl,rfl,za q.size,za (af.new _ _ _),za (q.alloc _)⟩
     |exact⟨_,rfl,rfl,rfl,gy,za (kX L _ _ _),za (q.dV gy.out (I.out _ r.out) _ _ _)⟩
     |exact⟨_,rfl,rfl,rfl,za p.size,za (kX L _ _ _),za (q.dV p.size (I.out _ p) _ _ _)⟩
 case rest=>
  obtain⟨N,rfl,rfl,rfl,ab,DH,wP⟩:=hcut;have Y:Hid (af wc (w.heap.size+1) 74 #[.int .u64 0,.string ⟨#[]⟩,.string ⟨#[]⟩]):=za (wP.out.blk HB.out (fun k hk=>by have:=HG.out k hk;omega));have VW:Hid (MS d (t+m) (R-m) W wc):=za (wP.out.from HO.out);have VX:Hid (W.heap.size<=w.heap.size+1):=za (by have:=HL.out;omega);have Gu:Hid (∀k,d=some k->k<w.heap.size+1):=za (fun k hk=>by have:=HG.out k hk;omega);obtain⟨g0,g1,g2,f0,f1,f2⟩:=a8 Y.out;obtain⟨k0,k1,k2,_,_,_⟩:=a8 DH.out;clear wQ Z VY VZ sY o q0 q1 q2 q3 q4 q5 hI VV;rcases eH y with⟨h0,i,j⟩|⟨h0,i,j⟩
  ·subst h0;go_wp2;refine zp (v:= .tuple #[.agg #[.int .u64 F,.string C,.string B],.int .i64 K,.int .i64 0]) (by simp[results,Zf,go_sem,dK Y.out]) rfl ?_;exact⟨rfl,VW.out.dV VX.out Gu.out _ _ _⟩
  obtain⟨aa,rfl⟩:=M.out h0;obtain⟨rfl,rfl,rfl⟩:F=0/\C=ByteArray.empty/\B=ByteArray.empty:=by injection aa with a b c;exact⟨a,b,c⟩
  clear M;go_wp2;refine zp (v:= .tuple #[.agg #[.int .u64 0,.string ByteArray.empty,.string ByteArray.empty],.int .i64 0,.int .i64 y]) (by simp[results,Zf,go_sem,dK Y.out,nU]) rfl ?_;exact⟨rfl,VW.out.dV VX.out Gu.out _ _ _⟩
theorem Xn (c:aS)(b:Option Nat)(t R:Nat)(s:ByteArray)(q:c.right=false)(W w:World)(h:MS b t R W w):
 Calls Tryz.prog 49 #[c.val,np b,.string s] w fun e w'=>e= .returned (oX (aW c s))/\MS b (t+(aW c s).2.2.2) (R-(aW c s).2.2.2) W w':=by
 have m:aW c s=(1,mw,0,0):=by unfold aW;rw[q];rfl
 have n:=za (fun w=>jf c w);rw[q]at n;rw[m];unfold aS.val at*;generalize np b=B at*;obtain⟨d,j⟩:∃d,(w.alloc (.cells #[.int .i64 c.fm,.int .u32 c.mg,.int .i64 c.fr,.int .i64 c.un,.int .i64 c.de,.int .i64 c.it] 24)).alloc (.cells #[.int .u64 0,.string ⟨#[]⟩,.string ⟨#[]⟩] 74)=d:=⟨_,rfl⟩
 have i:=ij j;have y:Hid (MS b t R W d):=za (h.below i.2.1);have u:Hid (af d (w.heap.size+1) 74 #[.int .u64 0,.string ⟨#[]⟩,.string ⟨#[]⟩]):=za i.2.2.2;have A:Hid (∀k,b=some k->k<w.heap.size+1):=za (fun k z=>by have:=h.met.lt k z;omega);have p:Hid (W.heap.size<=w.heap.size+1/\d.heap.size=w.heap.size+2):=za ⟨by have:=h.size;omega,i.1⟩;have x:=za j;clear j i h m;go_enter Tryz.func49,Tryz.ntmps49
 go_wp2_with fail
 rw[x.out];refine(n.out _).mono ?_;rintro e C ⟨rfl,l⟩;have o:=za (u.out.ag l (by have:=p.out.2;omega));have r:=za (y.out.below l);clear l;obtain⟨g0,g1,g2,f0,f1,f2⟩:=a8 o.out;go_wp2;refine zp (v:= .tuple #[.agg #[.int .u64 0,.string ByteArray.empty,.string ByteArray.empty],.int .i64 0,.int .i64 1]) (by simp[results,Zf,go_sem,dK o.out,nU]) rfl ?_;exact⟨rfl,r.out.dV p.out.1 A.out _ _ _⟩
theorem Qk (c:aS)(b:Option Nat)(t R:Nat)(s:ByteArray)(k:c.ok)(j:70000<=R)(i:s.size<=1099511627776)(W w:World)(d:MS b t R W w):
 Calls Tryz.prog 49 #[c.val,np b,.string s] w fun e w'=>e= .returned (oX (aW c s))/\MS b (t+(aW c s).2.2.2) (R-(aW c s).2.2.2) W w':=by
 cases hr:c.right with
 |false=>exact Xn c b t R s hr W w d
 |true=>
  have l:=(c.cT).1 hr;rcases(by omega:c.fm=1\/c.fm=2\/c.fm=3)with h|h|h
  ·exact Xk c b t R s k h hr j i W w d
  ·exact Xl c b t R s k h hr j i W w d
  exact Xm c b t R s k h hr j i W w d
theorem TS (f:Fr)(w:World):Calls Tryz.prog 66 #[f.val] w fun e w'=>e= .returned (.bool (decide (f.id=0)))/\Below w.heap.size w w':=by
 unfold Fr.val;by_cases h:f.id=0
 ·have hd:decide ((f.id:Int)=0)=true:=by simp[h]
  obtain⟨id,nm,body⟩:=f;simp only at*;subst h;go_enter Tryz.func66,Tryz.ntmps66
  go_wp2;go_ret;exact⟨aV (by simp),bM⟩
 have hd:((f.id:Int)==0)=false:=by simpa using h
 obtain⟨id,nm,body⟩:=f;simp only at*;go_enter Tryz.func66,Tryz.ntmps66
 go_wp2;go_ret;exact⟨aV (by simp[h]),bM⟩
theorem KR (f:Fr)(w:World):Calls Tryz.prog 65 #[f.val] w fun e w'=>e= .returned (.bool (decide (f.nm.size=0)))/\Below w.heap.size w w':=by
 unfold Fr.val;obtain⟨id,nm,body⟩:=f;simp only;rcases fR nm with⟨_,rfl⟩|⟨d,c,b⟩
 ·go_enter Tryz.func65,Tryz.ntmps65
  go_wp2;go_ret;exact⟨aV (by rfl),bM⟩
 go_enter Tryz.func65,Tryz.ntmps65
 go_wp2;go_ret;exact⟨aV (by simp_all),bM⟩
theorem qs (c:aS)(f:Fr)(i:f.ok)(b:c.fm=1\/f.body.size<=1000000):(aQ c f).1.size<=2000000:=by
 unfold aQ;split
 ·split
  ·rename_i e
   split
   ·simp
   simp only;rw[lr c.mg f.nm f.body (dy e).2];omega
  simp
 rename_i h
 have b:=b.resolve_left h;split
 ·split
  ·simp
  simp only;rw[bD];have d:=bw 10 ((aO f.id).length+f.body.data.toList.length) (by rw[aa];omega) (by omega);unfold ey;rw[zo,zo];rw[aa]at*;omega
 split
 ·simp
 split
 ·simp
 simp only;rw[bD];have d:=bw 10 ((aO f.id).length+(pack f.body.data.toList).length) (by omega) (by omega);unfold ey;rw[zo,zo];omega
theorem sS (c:aS)(f:Fr)(d:f.ok)(b:f.body.size<=1000000):(aQ c f).1.size<=2000000:=qs c f d (.inr b)
theorem Xo (c:aS)(f:Fr)(h:c.ok)(i:f.ok)(d:c.fm=1)(w:World):
 Calls Tryz.prog 67 #[c.val,f.val] w fun e w'=>e= .returned (.tuple #[.string (aQ c f).1,.int .i64 (aQ c f).2])/\Below w.heap.size w w':=by
 have j:Hid (∀V,Calls Tryz.prog 68 #[.int .u32 c.mg,.string f.nm,.string f.body] V fun e w'=>e= .returned (.tuple #[.string (aQ c f).1,.int .i64 (aQ c f).2])/\Below V.heap.size V w'):=za (fun V=>by
  unfold aQ;rw[zl d];cases hm:bY f.nm with
  |false=>exact(Jf c.mg f.nm f.body V h.mg i.nm hm).mono fun e w' ⟨d,k⟩=>⟨d,by rw[<-k];exact zq _ _⟩
  |true=>
   rw[zl rfl];by_cases b:65536<f.body.size
   ·rw[zl b];exact Dd c.mg f.nm f.body V h.mg hm b i.body
   rw[zj b];exact Nh c.mg f.nm f.body V h.mg hm (by omega))
 clear h i d;unfold aS.val Fr.val;generalize aQ c f=X at*;obtain⟨B,E⟩:=X;simp only at j;go_enter Tryz.func67,Tryz.ntmps67
 go_wp2_with fail
 refine(j.out _).mono ?_;rintro e m ⟨rfl,b⟩;have l:=za ((((zq w.heap.size w).alloc (zi _) _).alloc (by simp) _).trans (b.mono (by simp;omega)));clear b;go_wp2;go_ret2
 exact⟨rfl,l.out⟩
theorem Xp (c:aS)(f:Fr)(d:f.ok)(b:f.body.size<=1000000)(i:c.fm=2)(w:World):
 Calls Tryz.prog 72 #[c.val,f.val] w fun e w'=>e= .returned (.tuple #[.string (aQ c f).1,.int .i64 (aQ c f).2])/\Below w.heap.size w w':=by
 have j:Hid (∀V,Calls Tryz.prog 73 #[.int .u64 f.id,.string f.body] V fun e w'=>e= .returned (.tuple #[.string (aQ c f).1,.int .i64 (aQ c f).2])/\Below V.heap.size V w'):=za (fun V=>by
  unfold aQ;rw[zj (by omega),zl i];by_cases h:65536<(aO f.id).length+f.body.size
  ·rw[zl h];exact og f.id f.body V d.id h b
  rw[zj h];exact vw f.id f.body V d.id (by omega))
 clear d i b;unfold aS.val Fr.val;generalize aQ c f=X at*;obtain⟨B,E⟩:=X;simp only at j;go_enter Tryz.func72,Tryz.ntmps72
 go_wp2_with fail
 refine(j.out _).mono ?_;rintro e l ⟨rfl,b⟩;have k:=za ((((zq w.heap.size w).alloc (zi _) _).alloc (by simp) _).trans (b.mono (by simp;omega)));clear b;go_wp2;go_ret2
 exact⟨rfl,k.out⟩
theorem Xq (c:aS)(f:Fr)(d:f.ok)(hu:c.un<=65536)(h:c.fm=3)(w:World):
 Calls Tryz.prog 77 #[c.val,f.val] w fun e w'=>e= .returned (.tuple #[.string (aQ c f).1,.int .i64 (aQ c f).2])/\Below w.heap.size w w':=by
 by_cases k:c.un<f.body.size
 ·have i:Hid (aQ c f=(ByteArray.empty,5)):=za (by unfold aQ;rw[zj (by omega),zj (by omega),zl k]);rw[i.out];unfold aS.val Fr.val;clear i hu;have p:=d.body;clear d;obtain⟨m,u,r,s,o,it⟩:=c;obtain⟨id,nm,body⟩:=f;simp only at*;subst h;go_enter Tryz.func77,Tryz.ntmps77
  go_wp2;go_ret2
  exact⟨rfl,bM⟩
 have l:Hid (∀V,Calls Tryz.prog 78 #[.int .u64 f.id,.string f.body] V fun e w'=>e= .returned (.tuple #[.string (aQ c f).1,.int .i64 (aQ c f).2])/\Below V.heap.size V w'):=za (fun V=>by
  unfold aQ;rw[zj (by omega),zj (by omega),zj k];refine(Au f.id f.body V d.id (by omega)).mono fun e w' ⟨h,n⟩=>⟨?_,n⟩
  rw[h];unfold vz vA;by_cases b:65536<(aO f.id).length+(pack f.body.data.toList).length
  ·rw[zl b,zl b,zl b]
  rw[zj b,zj b,zj b])
 have p:=d.body;clear d hu;unfold aS.val Fr.val;generalize aQ c f=X at*;obtain⟨B,E⟩:=X;simp only at l;obtain⟨m,u,r,s,o,it⟩:=c;obtain⟨id,nm,body⟩:=f;simp only at*;subst h;go_enter Tryz.func77,Tryz.ntmps77
 go_wp2_with fail
 refine(l.out _).mono ?_;rintro e x ⟨rfl,j⟩;have q:=za ((((zq w.heap.size w).alloc (zi _) _).alloc (by simp) _).trans (j.mono (by simp;omega)));clear j;go_wp2;go_ret2
 exact⟨rfl,q.out⟩
theorem lW {w:World}{g:Nat}{t:TypeId}{a b c d:Value}(h:af w g t #[a,b,c,d]):w.cell? ⟨g,0,none⟩=some a/\w.cell? ⟨g,1,none⟩=some b/\w.cell? ⟨g,2,none⟩=some c/\w.cell? ⟨g,3,none⟩=some d/\w.frozen? ⟨g,0,none⟩=false/\w.frozen? ⟨g,1,none⟩=false/\w.frozen? ⟨g,2,none⟩=false/\w.frozen? ⟨g,3,none⟩=false:=
 ⟨h.cell 0,h.cell 1,h.cell 2,h.cell 3,h.frozen 0,h.frozen 1,h.frozen 2,h.frozen 3⟩
theorem rI (c:aS)(f:Fr)(e:c.right=true):(iT c f=false->fk c f=(ByteArray.empty,1))/\(iT c f=true->(aQ c f).2≠0->fk c f=(ByteArray.empty,(aQ c f).2))/\(iT c f=true->(aQ c f).2=0->(bo c (aQ c f).1).1=5->fk c f=(ByteArray.empty,5))/\(iT c f=true->(aQ c f).2=0->(bo c (aQ c f).1).1≠5->fk c f=((aQ c f).1,0)):=by
 refine⟨fun h=> ?_,fun h b=> ?_,fun h b d=> ?_,fun h b d=> ?_⟩<;>unfold fk
 ·rw[zj (by simp[h])]
 ·rw[zl ⟨e,h⟩,zl b]
 ·rw[zl ⟨e,h⟩,zj (by simp[b]),zl d]
 rw[zl ⟨e,h⟩,zj (by simp[b]),zj d]
theorem TT (c:aS)(f:Fr)(hc:c.ok)(hf:f.ok)(i:c.fm=1)(hr:c.right=true)(w:World):
 Calls Tryz.prog 28 #[c.val,f.val] w fun e w'=>e= .returned (.tuple #[.string (fk c f).1,.int .i64 (fk c f).2])/\Below w.heap.size w w':=by
 have NU:=(c.cT).1 hr;have hz:=qs c f hf (.inl i);have sY:=za (FX c none 0 140000 (aQ c f).1 hc i (by omega) (by omega));have HF:Hid (∀V,Calls Tryz.prog 66 #[f.val] V fun e w'=>e= .returned (.bool (iT c f))/\Below V.heap.size V w'):=za (fun V=>by have:=TS f V;unfold iT;rw[zl i];exact this);have HY:=za (fun V=>Xo c f hc hf i V);clear NU hc hf hz;have hI:=Qc;unfold pf fm1 kt at hI;have HR:=za (fun w=>jf c w);rw[hr]at HR;have h:=za (rI c f hr);have L:Hid (∀V,Calls Tryz.prog 69 #[c.val,.pointer none,.string (aQ c f).1] V fun e w'=>e= .returned (oX (bo c (aQ c f).1))/\Below V.heap.size V w'):=za (fun V=>(sY.out V V (MS.refl trivial)).mono fun e w' ⟨i,C⟩=>⟨i,C.vT⟩);clear sY;unfold oX Fr.val at*;obtain⟨X,o⟩:∃X,bo c (aQ c f).1=X:=⟨_,rfl⟩
 rw[o]at L h;clear o;obtain⟨y5,⟨y1,y2,y3⟩,y4,m⟩:=X;obtain⟨X,o⟩:∃X,aQ c f=X:=⟨_,rfl⟩
 rw[o]at L h HY;clear o;obtain⟨S,E⟩:=X;obtain⟨X,o⟩:∃X,fk c f=X:=⟨_,rfl⟩
 rw[o]at h⊢;clear o;obtain⟨P1,P2⟩:=X;obtain⟨ft,mm⟩:∃ft,iT c f=ft:=⟨_,rfl⟩
 rw[mm]at h HF;clear mm;simp only at L h HY;unfold aS.val at*;obtain⟨fm,mg,fr,un,de,it⟩:=c;obtain⟨id,nm,body⟩:=f;simp only at*;subst i;obtain⟨b,Z⟩:∃b,(w.alloc (.cells #[.int .i64 1,.int .u32 mg,.int .i64 fr,.int .i64 un,.int .i64 de,.int .i64 it] 24)).alloc (.cells #[.int .u64 id,.string nm,.string body] 74)=b:=⟨_,rfl⟩
 have G:=ij Z;have HO:Hid (Below w.heap.size w b):=za G.2.1;have HL:Hid (b.heap.size=w.heap.size+2):=za G.1;have j:Hid (∀V,Below b.heap.size b V->(V.cell? ⟨w.heap.size,0,none⟩=some (.int .i64 1)/\V.cell? ⟨w.heap.size,1,none⟩=some (.int .u32 mg)/\V.cell? ⟨w.heap.size,2,none⟩=some (.int .i64 fr)/\V.cell? ⟨w.heap.size,3,none⟩=some (.int .i64 un)/\V.cell? ⟨w.heap.size,4,none⟩=some (.int .i64 de)/\V.cell? ⟨w.heap.size,5,none⟩=some (.int .i64 it))):=za (fun V p=>by
  have k:=G.2.2.1.ag p (by omega);exact⟨k.cell 0,k.cell 1,k.cell 2,k.cell 3,k.cell 4,k.cell 5⟩)
 have Y:Hid (∀V,Below b.heap.size b V->(V.cell? ⟨w.heap.size+1,0,none⟩=some (.int .u64 id)/\V.cell? ⟨w.heap.size+1,1,none⟩=some (.string nm)/\V.cell? ⟨w.heap.size+1,2,none⟩=some (.string body))):=za (fun V p=>by
  have k:=G.2.2.2.ag p (by omega);exact⟨k.cell 0,k.cell 1,k.cell 2⟩)
 have cL:=za Z;clear Z G;go_enter Tryz.func28,Tryz.ntmps28
 go_wp2_with fail
 rw[cL.out];refine(HR.out _).mono ?_;rintro e D ⟨rfl,aI⟩;have q:Hid (Below b.heap.size b D):=za aI;clear aI;obtain⟨u,A,x,s,z,r⟩:=j.out D q.out;have d:=za q.out.size;have wQ:Hid (Calls Tryz.prog 44 #[] (D.alloc (.cells #[.nilFunc,.nilFunc,.nilFunc,.nilFunc] 104)).drew fun e w'=>e= .returned pf/\Below b.heap.size b w'/\af w' D.heap.size 104 #[.nilFunc,.nilFunc,.nilFunc,.nilFunc]):=za ((dr _).mono fun e w' ⟨i,C⟩=>⟨i,((q.out.alloc d.out _).drew).trans (C.mono (by have:=d.out;simp;omega)),(af.new D _ _).drew.ag C (by simp)⟩);have tz:Hid (Calls Tryz.prog 44 #[] D.drew fun e w'=>e= .returned pf/\Below b.heap.size b w'):=za ((dr _).mono fun e w' ⟨i,C⟩=>⟨i,q.out.drew.trans (C.mono d.out)⟩);unfold pf kt at wQ tz;clear HR;go_upto_region 3 with fail
 go_cut [6] (fun v wx=>∃H:Nat,v= .pointer (some ⟨H,0,none⟩)/\Hid (b.heap.size<=H)/\Hid (af wx H 104 #[.func (.func 66) #[] #[],.func (.func 67) #[] #[],.func (.func 69) #[] #[],.func (.func 71) #[] #[]])/\Hid (Below b.heap.size b wx))
 case first=>
  go_wp2_with fail
  go_region_held3 (fun V=>V.cell? ⟨w.heap.size,0,none⟩=some (.int .i64 1)/\V.cell? ⟨w.heap.size,1,none⟩=some (.int .u32 mg)/\V.cell? ⟨w.heap.size,2,none⟩=some (.int .i64 fr)/\V.cell? ⟨w.heap.size,3,none⟩=some (.int .i64 un)/\V.cell? ⟨w.heap.size,4,none⟩=some (.int .i64 de)/\V.cell? ⟨w.heap.size,5,none⟩=some (.int .i64 it))
   (first|exact j.out _ q.out|exact j.out _ q.out.drew|exact j.out _ ((q.out.alloc d.out _).drew)|exact j.out _ n|exact j.out _ (n.alloc n.size _)|exact j.out _ ((((n.setCell d.out _).setCell d.out _).setCell d.out _).setCell d.out _))
   (first
    |(go_at_call 44;((with_reducible refine wQ.out.mono ?_);rintro e w' ⟨rfl,n,hz⟩;obtain⟨z0,B,z2,z3,RM,RL,RN,aa⟩:=lW hz))
    |(go_at_call 44;((with_reducible refine tz.out.mono ?_);rintro e w' ⟨rfl,n⟩)))
  all_goals
   go_wp2_with fail
   go_meet;case rel=>
    first
     |exact⟨_,rfl,za n.size,za (af.new _ _ _),za (n.alloc n.size _)⟩
     |exact⟨_,rfl,d,za ((((hz.set 0 _).set 1 _).set 2 _).set 3 _),za ((((n.setCell d.out _).setCell d.out _).setCell d.out _).setCell d.out _)⟩
 case rest=>
  obtain⟨H,rfl,ab,DH,R⟩:=hcut;have Sx:Hid (∀V,Below wc.heap.size wc V->Below b.heap.size b V/\af V H 104 #[.func (.func 66) #[] #[],.func (.func 67) #[] #[],.func (.func 69) #[] #[],.func (.func 71) #[] #[]]):=za (fun V p=>⟨R.out.trans (p.mono R.out.size),DH.out.ag p DH.out.lt⟩);have U:Hid (∀V,Below b.heap.size b V->Below w.heap.size w V):=za (fun V p=>HO.out.trans (p.mono (by have:=HL.out;omega)));clear wQ tz u A x s z r hI;obtain⟨u,A,x,s,z,r⟩:=j.out wc R.out;obtain⟨J,F,I⟩:=Y.out wc R.out;obtain⟨z0,B,z2,z3,_⟩:=lW DH.out;go_wp2_with fail
  refine(HF.out _).mono ?_;rintro e w2 ⟨rfl,l⟩;obtain⟨K,kF⟩:=Sx.out w2 l;have dU:=za l;have Sk:=za K;clear u A x s z r J F I z0 B z2 z3 l;obtain⟨u,A,x,s,z,r⟩:=j.out w2 K;obtain⟨J,F,I⟩:=Y.out w2 K;obtain⟨z0,B,z2,z3,_⟩:=lW kF;clear K kF;cases ft with
  |false=>
   have y:=h.out.1 (by simp);injection y with gu ia;subst gu;subst ia;clear h;go_wp2;go_ret2
   exact⟨rfl,U.out _ Sk.out⟩
  |true=>
   go_wp2_with fail
   refine(HY.out _).mono ?_;rintro e w3 ⟨rfl,l⟩;have jg:Hid (Below wc.heap.size wc w3):=za (dU.out.trans (l.mono dU.out.size));obtain⟨W,sV⟩:=Sx.out w3 jg.out;have RP:=za W;clear u A x s z r J F I z0 B z2 z3 l;obtain⟨u,A,x,s,z,r⟩:=j.out w3 W;obtain⟨J,F,I⟩:=Y.out w3 W;obtain⟨z0,B,z2,z3,_⟩:=lW sV;clear W sV;rcases eH E with⟨e0,e1,e2⟩|⟨e0,e1,e2⟩
   ·subst e0;have O:=za (And.intro (h.out.2.2.1 (by simp) (by simp)) (h.out.2.2.2 (by simp) (by simp)));clear h;go_wp2_with fail
    refine(L.out _).mono ?_;rintro e w4 ⟨rfl,l⟩;have M:Hid (Below b.heap.size b w4):=za (RP.out.trans (l.mono RP.out.size));clear u A x s z r J F I z0 B z2 z3 l;by_cases N:y5=5
    ·have y:=O.out.1 N;injection y with gu ia;subst gu;subst ia;subst N;clear O;go_wp2;go_ret2
     exact⟨rfl,U.out _ (M.out.alloc M.out.size _)⟩
    have y:=O.out.2 N;injection y with gu ia;subst gu;subst ia;clear O;have h6:(y5==5)=false:=by simpa using N
    go_wp2;go_ret2
    exact⟨rfl,U.out _ (M.out.alloc M.out.size _)⟩
   have y:=h.out.2.1 (by simp) e0;injection y with gu ia;subst gu;subst ia;clear h;go_wp2;go_ret2
   exact⟨rfl,U.out _ RP.out⟩
theorem TU (c:aS)(f:Fr)(hc:c.ok)(hf:f.ok)(d:f.body.size<=1000000)(l:c.fm=2)(hr:c.right=true)(w:World):
 Calls Tryz.prog 28 #[c.val,f.val] w fun e w'=>e= .returned (.tuple #[.string (fk c f).1,.int .i64 (fk c f).2])/\Below w.heap.size w w':=by
 have NU:=(c.cT).1 hr;have hz:=sS c f hf d;have sY:=za (FY c none 0 140000 (aQ c f).1 hc l (by omega) (by omega));have HF:Hid (∀V,Calls Tryz.prog 65 #[f.val] V fun e w'=>e= .returned (.bool (iT c f))/\Below V.heap.size V w'):=za (fun V=>by have:=KR f V;unfold iT;rw[zj (by omega)];exact this);have HY:=za (fun V=>Xp c f hf d l V);clear NU hc hf d hz;have hI:=Qd;unfold pf fm2 kt at hI;have HR:=za (fun w=>jf c w);rw[hr]at HR;have i:=za (rI c f hr);have L:Hid (∀V,Calls Tryz.prog 74 #[c.val,.pointer none,.string (aQ c f).1] V fun e w'=>e= .returned (oX (bo c (aQ c f).1))/\Below V.heap.size V w'):=za (fun V=>(sY.out V V (MS.refl trivial)).mono fun e w' ⟨l,C⟩=>⟨l,C.vT⟩);clear sY;unfold oX Fr.val at*;obtain⟨X,o⟩:∃X,bo c (aQ c f).1=X:=⟨_,rfl⟩
 rw[o]at L i;clear o;obtain⟨y5,⟨y1,y2,y3⟩,y4,m⟩:=X;obtain⟨X,o⟩:∃X,aQ c f=X:=⟨_,rfl⟩
 rw[o]at L i HY;clear o;obtain⟨S,E⟩:=X;obtain⟨X,o⟩:∃X,fk c f=X:=⟨_,rfl⟩
 rw[o]at i⊢;clear o;obtain⟨P1,P2⟩:=X;obtain⟨ft,mm⟩:∃ft,iT c f=ft:=⟨_,rfl⟩
 rw[mm]at i HF;clear mm;simp only at L i HY;unfold aS.val at*;obtain⟨fm,mg,fr,un,de,it⟩:=c;obtain⟨id,nm,body⟩:=f;simp only at*;subst l;obtain⟨b,Z⟩:∃b,(w.alloc (.cells #[.int .i64 2,.int .u32 mg,.int .i64 fr,.int .i64 un,.int .i64 de,.int .i64 it] 24)).alloc (.cells #[.int .u64 id,.string nm,.string body] 74)=b:=⟨_,rfl⟩
 have G:=ij Z;have HO:Hid (Below w.heap.size w b):=za G.2.1;have HL:Hid (b.heap.size=w.heap.size+2):=za G.1;have j:Hid (∀V,Below b.heap.size b V->(V.cell? ⟨w.heap.size,0,none⟩=some (.int .i64 2)/\V.cell? ⟨w.heap.size,1,none⟩=some (.int .u32 mg)/\V.cell? ⟨w.heap.size,2,none⟩=some (.int .i64 fr)/\V.cell? ⟨w.heap.size,3,none⟩=some (.int .i64 un)/\V.cell? ⟨w.heap.size,4,none⟩=some (.int .i64 de)/\V.cell? ⟨w.heap.size,5,none⟩=some (.int .i64 it))):=za (fun V p=>by
  have k:=G.2.2.1.ag p (by omega);exact⟨k.cell 0,k.cell 1,k.cell 2,k.cell 3,k.cell 4,k.cell 5⟩)
 have Y:Hid (∀V,Below b.heap.size b V->(V.cell? ⟨w.heap.size+1,0,none⟩=some (.int .u64 id)/\V.cell? ⟨w.heap.size+1,1,none⟩=some (.string nm)/\V.cell? ⟨w.heap.size+1,2,none⟩=some (.string body))):=za (fun V p=>by
  have k:=G.2.2.2.ag p (by omega);exact⟨k.cell 0,k.cell 1,k.cell 2⟩)
 have cL:=za Z;clear Z G;go_enter Tryz.func28,Tryz.ntmps28
 go_wp2_with fail
 rw[cL.out];refine(HR.out _).mono ?_;rintro e D ⟨rfl,aI⟩;have q:Hid (Below b.heap.size b D):=za aI;clear aI;obtain⟨u,A,x,s,z,r⟩:=j.out D q.out;have h:=za q.out.size;have wQ:Hid (Calls Tryz.prog 44 #[] (D.alloc (.cells #[.nilFunc,.nilFunc,.nilFunc,.nilFunc] 104)).drew fun e w'=>e= .returned pf/\Below b.heap.size b w'/\af w' D.heap.size 104 #[.nilFunc,.nilFunc,.nilFunc,.nilFunc]):=za ((dr _).mono fun e w' ⟨l,C⟩=>⟨l,((q.out.alloc h.out _).drew).trans (C.mono (by have:=h.out;simp;omega)),(af.new D _ _).drew.ag C (by simp)⟩);have tz:Hid (Calls Tryz.prog 44 #[] D.drew fun e w'=>e= .returned pf/\Below b.heap.size b w'):=za ((dr _).mono fun e w' ⟨l,C⟩=>⟨l,q.out.drew.trans (C.mono h.out)⟩);unfold pf kt at wQ tz;clear HR;go_upto_region 3 with fail
 go_cut [6] (fun v wx=>∃H:Nat,v= .pointer (some ⟨H,0,none⟩)/\Hid (b.heap.size<=H)/\Hid (af wx H 104 #[.func (.func 65) #[] #[],.func (.func 72) #[] #[],.func (.func 74) #[] #[],.func (.func 76) #[] #[]])/\Hid (Below b.heap.size b wx))
 case first=>
  go_wp2_with fail
  go_region_held3 (fun V=>V.cell? ⟨w.heap.size,0,none⟩=some (.int .i64 2)/\V.cell? ⟨w.heap.size,1,none⟩=some (.int .u32 mg)/\V.cell? ⟨w.heap.size,2,none⟩=some (.int .i64 fr)/\V.cell? ⟨w.heap.size,3,none⟩=some (.int .i64 un)/\V.cell? ⟨w.heap.size,4,none⟩=some (.int .i64 de)/\V.cell? ⟨w.heap.size,5,none⟩=some (.int .i64 it))
   (first|exact j.out _ q.out|exact j.out _ q.out.drew|exact j.out _ ((q.out.alloc h.out _).drew)|exact j.out _ n|exact j.out _ (n.alloc n.size _)|exact j.out _ ((((n.setCell h.out _).setCell h.out _).setCell h.out _).setCell h.out _))
   (first
    |(go_at_call 44;((with_reducible refine wQ.out.mono ?_);rintro e w' ⟨rfl,n,hz⟩;obtain⟨z0,B,z2,z3,RM,RL,RN,aa⟩:=lW hz))
    |(go_at_call 44;((with_reducible refine tz.out.mono ?_);rintro e w' ⟨rfl,n⟩)))
  all_goals
   go_wp2_with fail
   go_meet;case rel=>
    first
     |exact⟨_,rfl,za n.size,za (af.new _ _ _),za (n.alloc n.size _)⟩
     |exact⟨_,rfl,h,za ((((hz.set 0 _).set 1 _).set 2 _).set 3 _),za ((((n.setCell h.out _).setCell h.out _).setCell h.out _).setCell h.out _)⟩
 case rest=>
  obtain⟨H,rfl,ab,DH,R⟩:=hcut;have Sx:Hid (∀V,Below wc.heap.size wc V->Below b.heap.size b V/\af V H 104 #[.func (.func 65) #[] #[],.func (.func 72) #[] #[],.func (.func 74) #[] #[],.func (.func 76) #[] #[]]):=za (fun V p=>⟨R.out.trans (p.mono R.out.size),DH.out.ag p DH.out.lt⟩);have U:Hid (∀V,Below b.heap.size b V->Below w.heap.size w V):=za (fun V p=>HO.out.trans (p.mono (by have:=HL.out;omega)));clear wQ tz u A x s z r hI;obtain⟨u,A,x,s,z,r⟩:=j.out wc R.out;obtain⟨J,F,I⟩:=Y.out wc R.out;obtain⟨z0,B,z2,z3,_⟩:=lW DH.out;go_wp2_with fail
  refine(HF.out _).mono ?_;rintro e w2 ⟨rfl,d⟩;obtain⟨K,kF⟩:=Sx.out w2 d;have dU:=za d;have Sk:=za K;clear u A x s z r J F I z0 B z2 z3 d;obtain⟨u,A,x,s,z,r⟩:=j.out w2 K;obtain⟨J,F,I⟩:=Y.out w2 K;obtain⟨z0,B,z2,z3,_⟩:=lW kF;clear K kF;cases ft with
  |false=>
   have y:=i.out.1 (by simp);injection y with gu ia;subst gu;subst ia;clear i;go_wp2;go_ret2
   exact⟨rfl,U.out _ Sk.out⟩
  |true=>
   go_wp2_with fail
   refine(HY.out _).mono ?_;rintro e w3 ⟨rfl,d⟩;have jg:Hid (Below wc.heap.size wc w3):=za (dU.out.trans (d.mono dU.out.size));obtain⟨W,sV⟩:=Sx.out w3 jg.out;have RP:=za W;clear u A x s z r J F I z0 B z2 z3 d;obtain⟨u,A,x,s,z,r⟩:=j.out w3 W;obtain⟨J,F,I⟩:=Y.out w3 W;obtain⟨z0,B,z2,z3,_⟩:=lW sV;clear W sV;rcases eH E with⟨e0,e1,e2⟩|⟨e0,e1,e2⟩
   ·subst e0;have O:=za (And.intro (i.out.2.2.1 (by simp) (by simp)) (i.out.2.2.2 (by simp) (by simp)));clear i;go_wp2_with fail
    refine(L.out _).mono ?_;rintro e w4 ⟨rfl,d⟩;have M:Hid (Below b.heap.size b w4):=za (RP.out.trans (d.mono RP.out.size));clear u A x s z r J F I z0 B z2 z3 d;by_cases N:y5=5
    ·have y:=O.out.1 N;injection y with gu ia;subst gu;subst ia;subst N;clear O;go_wp2;go_ret2
     exact⟨rfl,U.out _ (M.out.alloc M.out.size _)⟩
    have y:=O.out.2 N;injection y with gu ia;subst gu;subst ia;clear O;have h6:(y5==5)=false:=by simpa using N
    go_wp2;go_ret2
    exact⟨rfl,U.out _ (M.out.alloc M.out.size _)⟩
   have y:=i.out.2.1 (by simp) e0;injection y with gu ia;subst gu;subst ia;clear i;go_wp2;go_ret2
   exact⟨rfl,U.out _ RP.out⟩
theorem TV (c:aS)(f:Fr)(hc:c.ok)(hf:f.ok)(h:f.body.size<=1000000)(l:c.fm=3)(hr:c.right=true)(w:World):
 Calls Tryz.prog 28 #[c.val,f.val] w fun e w'=>e= .returned (.tuple #[.string (fk c f).1,.int .i64 (fk c f).2])/\Below w.heap.size w w':=by
 have NU:=(c.cT).1 hr;have hz:=sS c f hf h;have sY:=za (FZ c none 0 140000 (aQ c f).1 hc l (by omega) (by omega) (by omega) (by omega));have HF:Hid (∀V,Calls Tryz.prog 65 #[f.val] V fun e w'=>e= .returned (.bool (iT c f))/\Below V.heap.size V w'):=za (fun V=>by have:=KR f V;unfold iT;rw[zj (by omega)];exact this);have HY:=za (fun V=>Xq c f hf (by omega) l V);clear NU hc hf h hz;have hI:=Qe;unfold pf fm3 kt at hI;have HR:=za (fun w=>jf c w);rw[hr]at HR;have i:=za (rI c f hr);have L:Hid (∀V,Calls Tryz.prog 79 #[c.val,.pointer none,.string (aQ c f).1] V fun e w'=>e= .returned (oX (bo c (aQ c f).1))/\Below V.heap.size V w'):=za (fun V=>(sY.out V V (MS.refl trivial)).mono fun e w' ⟨l,C⟩=>⟨l,C.vT⟩);clear sY;unfold oX Fr.val at*;obtain⟨X,o⟩:∃X,bo c (aQ c f).1=X:=⟨_,rfl⟩
 rw[o]at L i;clear o;obtain⟨y5,⟨y1,y2,y3⟩,y4,m⟩:=X;obtain⟨X,o⟩:∃X,aQ c f=X:=⟨_,rfl⟩
 rw[o]at L i HY;clear o;obtain⟨S,E⟩:=X;obtain⟨X,o⟩:∃X,fk c f=X:=⟨_,rfl⟩
 rw[o]at i⊢;clear o;obtain⟨P1,P2⟩:=X;obtain⟨ft,mm⟩:∃ft,iT c f=ft:=⟨_,rfl⟩
 rw[mm]at i HF;clear mm;simp only at L i HY;unfold aS.val at*;obtain⟨fm,mg,fr,un,de,it⟩:=c;obtain⟨id,nm,body⟩:=f;simp only at*;subst l;obtain⟨b,Z⟩:∃b,(w.alloc (.cells #[.int .i64 3,.int .u32 mg,.int .i64 fr,.int .i64 un,.int .i64 de,.int .i64 it] 24)).alloc (.cells #[.int .u64 id,.string nm,.string body] 74)=b:=⟨_,rfl⟩
 have G:=ij Z;have HO:Hid (Below w.heap.size w b):=za G.2.1;have HL:Hid (b.heap.size=w.heap.size+2):=za G.1;have j:Hid (∀V,Below b.heap.size b V->(V.cell? ⟨w.heap.size,0,none⟩=some (.int .i64 3)/\V.cell? ⟨w.heap.size,1,none⟩=some (.int .u32 mg)/\V.cell? ⟨w.heap.size,2,none⟩=some (.int .i64 fr)/\V.cell? ⟨w.heap.size,3,none⟩=some (.int .i64 un)/\V.cell? ⟨w.heap.size,4,none⟩=some (.int .i64 de)/\V.cell? ⟨w.heap.size,5,none⟩=some (.int .i64 it))):=za (fun V p=>by
  have k:=G.2.2.1.ag p (by omega);exact⟨k.cell 0,k.cell 1,k.cell 2,k.cell 3,k.cell 4,k.cell 5⟩)
 have Y:Hid (∀V,Below b.heap.size b V->(V.cell? ⟨w.heap.size+1,0,none⟩=some (.int .u64 id)/\V.cell? ⟨w.heap.size+1,1,none⟩=some (.string nm)/\V.cell? ⟨w.heap.size+1,2,none⟩=some (.string body))):=za (fun V p=>by
  have k:=G.2.2.2.ag p (by omega);exact⟨k.cell 0,k.cell 1,k.cell 2⟩)
 have cL:=za Z;clear Z G;go_enter Tryz.func28,Tryz.ntmps28
 go_wp2_with fail
 rw[cL.out];refine(HR.out _).mono ?_;rintro e D ⟨rfl,aI⟩;have q:Hid (Below b.heap.size b D):=za aI;clear aI;obtain⟨u,A,x,s,z,r⟩:=j.out D q.out;have d:=za q.out.size;have wQ:Hid (Calls Tryz.prog 44 #[] (D.alloc (.cells #[.nilFunc,.nilFunc,.nilFunc,.nilFunc] 104)).drew fun e w'=>e= .returned pf/\Below b.heap.size b w'/\af w' D.heap.size 104 #[.nilFunc,.nilFunc,.nilFunc,.nilFunc]):=za ((dr _).mono fun e w' ⟨l,C⟩=>⟨l,((q.out.alloc d.out _).drew).trans (C.mono (by have:=d.out;simp;omega)),(af.new D _ _).drew.ag C (by simp)⟩);have tz:Hid (Calls Tryz.prog 44 #[] D.drew fun e w'=>e= .returned pf/\Below b.heap.size b w'):=za ((dr _).mono fun e w' ⟨l,C⟩=>⟨l,q.out.drew.trans (C.mono d.out)⟩);unfold pf kt at wQ tz;clear HR;go_upto_region 3 with fail
 go_cut [6] (fun v wx=>∃H:Nat,v= .pointer (some ⟨H,0,none⟩)/\Hid (b.heap.size<=H)/\Hid (af wx H 104 #[.func (.func 65) #[] #[],.func (.func 77) #[] #[],.func (.func 79) #[] #[],.func (.func 76) #[] #[]])/\Hid (Below b.heap.size b wx))
 case first=>
  go_wp2_with fail
  go_region_held3 (fun V=>V.cell? ⟨w.heap.size,0,none⟩=some (.int .i64 3)/\V.cell? ⟨w.heap.size,1,none⟩=some (.int .u32 mg)/\V.cell? ⟨w.heap.size,2,none⟩=some (.int .i64 fr)/\V.cell? ⟨w.heap.size,3,none⟩=some (.int .i64 un)/\V.cell? ⟨w.heap.size,4,none⟩=some (.int .i64 de)/\V.cell? ⟨w.heap.size,5,none⟩=some (.int .i64 it))
   (first|exact j.out _ q.out|exact j.out _ q.out.drew|exact j.out _ ((q.out.alloc d.out _).drew)|exact j.out _ n|exact j.out _ (n.alloc n.size _)|exact j.out _ ((((n.setCell d.out _).setCell d.out _).setCell d.out _).setCell d.out _))
   (first
    |(go_at_call 44;((with_reducible refine wQ.out.mono ?_);rintro e w' ⟨rfl,n,hz⟩;obtain⟨z0,B,z2,z3,RM,RL,RN,aa⟩:=lW hz))
    |(go_at_call 44;((with_reducible refine tz.out.mono ?_);rintro e w' ⟨rfl,n⟩)))
  all_goals
   go_wp2_with fail
   go_meet;case rel=>
    first
     |exact⟨_,rfl,za n.size,za (af.new _ _ _),za (n.alloc n.size _)⟩
     |exact⟨_,rfl,d,za ((((hz.set 0 _).set 1 _).set 2 _).set 3 _),za ((((n.setCell d.out _).setCell d.out _).setCell d.out _).setCell d.out _)⟩
 case rest=>
  obtain⟨H,rfl,ab,DH,R⟩:=hcut;have Sx:Hid (∀V,Below wc.heap.size wc V->Below b.heap.size b V/\af V H 104 #[.func (.func 65) #[] #[],.func (.func 77) #[] #[],.func (.func 79) #[] #[],.func (.func 76) #[] #[]]):=za (fun V p=>⟨R.out.trans (p.mono R.out.size),DH.out.ag p DH.out.lt⟩);have U:Hid (∀V,Below b.heap.size b V->Below w.heap.size w V):=za (fun V p=>HO.out.trans (p.mono (by have:=HL.out;omega)));clear wQ tz u A x s z r hI;obtain⟨u,A,x,s,z,r⟩:=j.out wc R.out;obtain⟨J,F,I⟩:=Y.out wc R.out;obtain⟨z0,B,z2,z3,_⟩:=lW DH.out;go_wp2_with fail
  refine(HF.out _).mono ?_;rintro e w2 ⟨rfl,h⟩;obtain⟨K,kF⟩:=Sx.out w2 h;have dU:=za h;have Sk:=za K;clear u A x s z r J F I z0 B z2 z3 h;obtain⟨u,A,x,s,z,r⟩:=j.out w2 K;obtain⟨J,F,I⟩:=Y.out w2 K;obtain⟨z0,B,z2,z3,_⟩:=lW kF;clear K kF;cases ft with
  |false=>
   have y:=i.out.1 (by simp);injection y with gu ia;subst gu;subst ia;clear i;go_wp2;go_ret2
   exact⟨rfl,U.out _ Sk.out⟩
  |true=>
   go_wp2_with fail
   refine(HY.out _).mono ?_;rintro e w3 ⟨rfl,h⟩;have jg:Hid (Below wc.heap.size wc w3):=za (dU.out.trans (h.mono dU.out.size));obtain⟨W,sV⟩:=Sx.out w3 jg.out;have RP:=za W;clear u A x s z r J F I z0 B z2 z3 h;obtain⟨u,A,x,s,z,r⟩:=j.out w3 W;obtain⟨J,F,I⟩:=Y.out w3 W;obtain⟨z0,B,z2,z3,_⟩:=lW sV;clear W sV;rcases eH E with⟨e0,e1,e2⟩|⟨e0,e1,e2⟩
   ·subst e0;have O:=za (And.intro (i.out.2.2.1 (by simp) (by simp)) (i.out.2.2.2 (by simp) (by simp)));clear i;go_wp2_with fail
    refine(L.out _).mono ?_;rintro e w4 ⟨rfl,h⟩;have M:Hid (Below b.heap.size b w4):=za (RP.out.trans (h.mono RP.out.size));clear u A x s z r J F I z0 B z2 z3 h;by_cases N:y5=5
    ·have y:=O.out.1 N;injection y with gu ia;subst gu;subst ia;subst N;clear O;go_wp2;go_ret2
     exact⟨rfl,U.out _ (M.out.alloc M.out.size _)⟩
    have y:=O.out.2 N;injection y with gu ia;subst gu;subst ia;clear O;have h6:(y5==5)=false:=by simpa using N
    go_wp2;go_ret2
    exact⟨rfl,U.out _ (M.out.alloc M.out.size _)⟩
   have y:=i.out.2.1 (by simp) e0;injection y with gu ia;subst gu;subst ia;clear i;go_wp2;go_ret2
   exact⟨rfl,U.out _ RP.out⟩
theorem TW (c:aS)(f:Fr)(d:c.ok)(b:f.ok)(i:c.fm=1\/f.body.size<=1000000)(w:World):
 Calls Tryz.prog 28 #[c.val,f.val] w fun e w'=>e= .returned (.tuple #[.string (fk c f).1,.int .i64 (fk c f).2])/\Below w.heap.size w w':=by
 cases hr:c.right with
 |true=>
  have o:=(c.cT).1 hr;rcases(by omega:c.fm=1\/c.fm=2\/c.fm=3)with h|h|h
  ·exact TT c f d b h hr w
  ·exact TU c f d b (i.resolve_left (by omega)) h hr w
  exact TV c f d b (i.resolve_left (by omega)) h hr w
 |false=>
  have l:fk c f=(ByteArray.empty,1):=by unfold fk;rw[zj (by simp[hr])]
  have k:=za (fun w=>jf c w);rw[hr]at k;rw[l];clear l hr d b i;unfold aS.val Fr.val at*;go_enter Tryz.func28,Tryz.ntmps28
  go_wp2_with fail
  refine(k.out _).mono ?_;rintro e m ⟨rfl,j⟩;have n:Below w.heap.size w m:=(((zq w.heap.size w).alloc (zi _) _).alloc (by simp) _).trans (j.mono (by simp;omega));clear j;go_wp2;go_ret2
  exact⟨rfl,n⟩
