/- What the formats tell of bytes: their closures, by any meter or none. -/
import Derived.Test.YtpjgigllldipiaaGreatDoorKA9
import Derived.Test.YtpjgigllldipiaaGreatDoorKCoinN
import Derived.Test.YtpjgigllldipiaaGreatDoorKA21
set_option linter.all false
set_option maxRecDepth 100000
set_option maxHeartbeats 4000000
namespace Go.Proofs.YtpjgigllldipiaaGreatDoor
open Tryz
open Go.RowKit
def Zc:=@results49
def Met (w:World):Option Nat->Nat->Nat->Prop
 |none,_,_=>True
 |some g,t,R=>∃a u p,s0 w g a u t p/\a<=9223372036854775807/\u+R<=a/\t+R<=9223372036854775807
def ng :Option Nat->Value
 |none=> .pointer none
 |some g=> .pointer (some ⟨g,0,none⟩)
theorem Met.only {L:List Nat}{w w':World}{b:Option Nat}{t R:Nat}(h:Met w b t R)(d:ae L w w')(c:∀g,b=some g->g∉L):Met w' b t R:=by
 cases b with
 |none=>trivial
 |some g=>
  obtain⟨a,u,p,e,i⟩:=h;exact⟨a,u,p,e.only d (c g rfl),i⟩
theorem Met.lt {w:World}{b:Option Nat}{t R:Nat}(h:Met w b t R):∀g,b=some g->g<w.heap.size:=by
 rintro g rfl;obtain⟨a,u,p,c,_⟩:=h;exact c.lt
theorem Met.less {w:World}{b:Option Nat}{t R R':Nat}(h:Met w b t R)(e:R'<=R):Met w b t R':=by
 cases b with
 |none=>trivial
 |some g=>
  obtain⟨a,u,p,c,d,j,i⟩:=h;exact⟨a,u,p,c,d,by omega,by omega⟩
structure MS (mo:Option Nat)(t R:Nat)(W0 V:World):Prop where
 only:ae mo.toList W0 V
 met:Met V mo t R
theorem MS.refl {b:Option Nat}{t R:Nat}{w:World}(h:Met w b t R):MS b t R w w:=⟨ae.refl _ _,h⟩
theorem MS.below {c:Option Nat}{t R:Nat}{d V V':World}(h:MS c t R d V)(b:Below V.heap.size V V'):MS c t R d V':=
 ⟨h.only.trans' (ae.ag b (zf _)) (by simp),h.met.only (ae.ag b (zf _)) (by simp)⟩
theorem MS.alloc {b:Option Nat}{t R:Nat}{c V:World}(h:MS b t R c V)(o:Obj):MS b t R c (V.alloc o):=h.below ((zq _ _).alloc (zf _) _)
theorem MS.drew {b:Option Nat}{t R:Nat}{c V:World}(h:MS b t R c V):MS b t R c V.drew:=h.below (zq _ _).drew
theorem MS.blk {b:Option Nat}{t R:Nat}{e V:World}(h:MS b t R e V){g:Nat}{ty:TypeId}{c:Array Value}(j:af e g ty c)(i:∀k,b=some k->k<g):af V g ty c:=
 j.only h.only (by
  intro d;cases b with
  |none=>simp at d
  |some k=>have:=i k rfl;simp at d;omega)
theorem MS.from {b:Option Nat}{t R:Nat}{w c V:World}(h:MS b t R c V)(d:ae b.toList w c):MS b t R w V:=⟨d.trans h.only,h.met⟩
theorem MS.size {mo:Option Nat}{t R:Nat}{W0 V:World}(h:MS mo t R W0 V):W0.heap.size<=V.heap.size:=h.only.size
theorem MS.put {c:Option Nat}{t R:Nat}{w V:World}(h:MS c t R w V){b o:Nat}(d:w.heap.size<=b)(e:∀k,c=some k->k<b)(v:Value):MS c t R w (V.setCell ⟨b,o,none⟩ v):=by
 refine⟨h.only.setCell (.inr (by simpa using d)) _, ?_⟩;have:=h.met;cases c with
 |none=>trivial
 |some g=>
  obtain⟨a,u,p,i,j⟩:=this;exact⟨a,u,p,i.dE (by have:=e g rfl;simp;omega) _,j⟩
theorem MS.dP {e:Option Nat}{t R:Nat}{w V:World}(h:MS e t R w V){b:Nat}(c:w.heap.size<=b)(d:∀k,e=some k->k<b)(i j l:Value):MS e t R w (((V.setCell ⟨b,0,none⟩ i).setCell ⟨b,1,none⟩ j).setCell ⟨b,2,none⟩ l):=((h.put c d _).put c d _).put c d _
theorem MS.vJ {t R:Nat}{w V:World}(h:MS none t R w V):Below w.heap.size w V:=h.only.below (zf _) (by simp)
theorem ie {w c:World}{e d:TypeId}{a b:Array Value}(h:(w.alloc (.cells a e)).alloc (.cells b d)=c):c.heap.size=w.heap.size+2/\Below w.heap.size w c/\af c w.heap.size e a/\af c (w.heap.size+1) d b:=by
 subst h;refine⟨by simp,bN,(af.new w _ _).alloc _, ?_⟩;have:=af.new (w.alloc (.cells a e)) d b;rwa [zt]at this
def oT (x:Int×Fr×Nat×Nat):Value:= .tuple #[x.2.1.val,.int .i64 x.2.2.1,.int .i64 x.1]
theorem FO (c:aR)(d:Option Nat)(t R:Nat)(s:ByteArray)(x:c.ok)(j:c.fm=1)(U:c.fr<=65536)(D:s.size<=1099511627776)(W w:World)(h:MS d t R W w):
 Calls prog 69 #[c.val,ng d,.string s] w fun e w'=>e= .returned (oT (bo c s))/\MS d (t+(bo c s).2.2.2) (R-(bo c s).2.2.2) W w':=by
 have p:bo c s=((aV c.mg c.fr s).1,⟨0,(aV c.mg c.fr s).2.1,(aV c.mg c.fr s).2.2.1⟩,(aV c.mg c.fr s).2.2.2,0):=by unfold bo;rw[zl j]
 have l:Hid (∀b V,MS d t R b V->Calls prog 70 #[.int .u32 c.mg,.int .i64 c.fr,.string s] V fun e w'=>e= .returned (.tuple #[.agg #[.int .u64 (bo c s).2.1.id,.string (bo c s).2.1.nm,.string (bo c s).2.1.body],.int .i64 (bo c s).2.2.1,.int .i64 (bo c s).1])/\MS d (t+(bo c s).2.2.2) (R-(bo c s).2.2.2) b w'):=za (fun b V A=>
  (I0 c.mg c.fr s V x.mg D x.fr (.inr (by omega))).mono fun e w' ⟨j,I⟩=>by rw[p];exact⟨j,A.below I⟩)
 obtain⟨b,n⟩:∃b,(w.alloc (.cells #[.int .i64 c.fm,.int .u32 c.mg,.int .i64 c.fr,.int .i64 c.un,.int .i64 c.de,.int .i64 c.it] 24)).alloc (.cells #[.int .u64 0,.string ⟨#[]⟩,.string ⟨#[]⟩] 74)=b:=⟨_,rfl⟩
 have i:=ie n;have M:Hid (ae d.toList W b):=za (h.only.trans ((ae.ag i.2.1 (zf _)).mono (by simp)));have N:Hid (af b (w.heap.size+1) 74 #[.int .u64 0,.string ⟨#[]⟩,.string ⟨#[]⟩]):=za i.2.2.2;have K:Hid (MS d t R b b):=za (MS.refl (h.met.only (ae.ag i.2.1 (zf _)) (by simp)));have r:Hid (∀k,d=some k->k<w.heap.size+1):=za (fun k H=>by have:=h.met.lt k H;omega);have C:Hid (W.heap.size<=w.heap.size+1):=za (by have:=h.size;omega);have F:=za n;have y:=za p;clear n i h p j;unfold aR.val;generalize ng d=S at*;obtain⟨X,q⟩:∃X,bo c s=X:=⟨_,rfl⟩
 rw[q]at y l⊢;clear q;obtain⟨B,⟨z,E,G⟩,J,m⟩:=X;simp only at l y;go_enter func69,ntmps69
 go_wp2_with fail
 rw[F.out];refine(l.out _ _ K.out).mono ?_;rintro e O ⟨rfl,o⟩;have u:=za (o.blk N.out r.out);have L:=za (o.from M.out);clear o;obtain⟨g0,g1,g2,f0,f1,f2⟩:=a8 u.out;go_wp2;refine zo (v:= .tuple #[.agg #[.int .u64 z,.string E,.string G],.int .i64 J,.int .i64 B]) (by simp[results,results69,go_sem,dF u.out]) rfl ?_;exact⟨rfl,L.out.dP C.out r.out _ _ _⟩
theorem FP (c:aR)(d:Option Nat)(t R:Nat)(s:ByteArray)(x:c.ok)(j:c.fm=2)(U:c.fr<=65536)(O:s.size<=1099511627776)(W w:World)(h:MS d t R W w):
 Calls prog 74 #[c.val,ng d,.string s] w fun e w'=>e= .returned (oT (bo c s))/\MS d (t+(bo c s).2.2.2) (R-(bo c s).2.2.2) W w':=by
 have p:bo c s=((ai c.fr s).1,⟨(ai c.fr s).2.1,ByteArray.empty,(ai c.fr s).2.2.1⟩,(ai c.fr s).2.2.2,0):=by unfold bo;rw[zj (by omega),zl j]
 have l:Hid (∀b V,MS d t R b V->Calls prog 75 #[.int .i64 c.fr,.string s] V fun e w'=>e= .returned (.tuple #[.agg #[.int .u64 (bo c s).2.1.id,.string (bo c s).2.1.nm,.string (bo c s).2.1.body],.int .i64 (bo c s).2.2.1,.int .i64 (bo c s).1])/\MS d (t+(bo c s).2.2.2) (R-(bo c s).2.2.2) b w'):=za (fun b V A=>
  (jZ c.fr s V (by omega) x.fr.1 x.fr.2).mono fun e w' ⟨j,H⟩=>by rw[p];exact⟨j,A.below H⟩)
 obtain⟨b,n⟩:∃b,(w.alloc (.cells #[.int .i64 c.fm,.int .u32 c.mg,.int .i64 c.fr,.int .i64 c.un,.int .i64 c.de,.int .i64 c.it] 24)).alloc (.cells #[.int .u64 0,.string ⟨#[]⟩,.string ⟨#[]⟩] 74)=b:=⟨_,rfl⟩
 have i:=ie n;have L:Hid (ae d.toList W b):=za (h.only.trans ((ae.ag i.2.1 (zf _)).mono (by simp)));have M:Hid (af b (w.heap.size+1) 74 #[.int .u64 0,.string ⟨#[]⟩,.string ⟨#[]⟩]):=za i.2.2.2;have J:Hid (MS d t R b b):=za (MS.refl (h.met.only (ae.ag i.2.1 (zf _)) (by simp)));have r:Hid (∀k,d=some k->k<w.heap.size+1):=za (fun k G=>by have:=h.met.lt k G;omega);have C:Hid (W.heap.size<=w.heap.size+1):=za (by have:=h.size;omega);have E:=za n;have y:=za p;clear n i h p j;unfold aR.val;generalize ng d=S at*;obtain⟨X,q⟩:∃X,bo c s=X:=⟨_,rfl⟩
 rw[q]at y l⊢;clear q;obtain⟨B,⟨z,D,F⟩,I,m⟩:=X;simp only at l y;go_enter func74,ntmps74
 go_wp2_with fail
 rw[E.out];refine(l.out _ _ J.out).mono ?_;rintro e N ⟨rfl,o⟩;have u:=za (o.blk M.out r.out);have K:=za (o.from L.out);clear o;obtain⟨g0,g1,g2,f0,f1,f2⟩:=a8 u.out;go_wp2;refine zo (v:= .tuple #[.agg #[.int .u64 z,.string D,.string F],.int .i64 I,.int .i64 B]) (by simp[results,results74,go_sem,dF u.out]) rfl ?_;exact⟨rfl,K.out.dP C.out r.out _ _ _⟩
theorem FQ (c:aR)(b:Option Nat)(t R:Nat)(s:ByteArray)(l:c.ok)(i:c.fm=3)(hf:c.fr<=65536)(hu:c.un<=65536)(hR:70000<=R)(hs:s.size<=1099511627776)(W w:World)(h:MS b t R W w):
 Calls prog 79 #[c.val,ng b,.string s] w fun e w'=>e= .returned (oT (bo c s))/\MS b (t+(bo c s).2.2.2) (R-(bo c s).2.2.2) W w':=by
 have y:bo c s=((aS c.fr c.un s).1,⟨(aS c.fr c.un s).2.1,ByteArray.empty,(aS c.fr c.un s).2.2.1⟩,(aS c.fr c.un s).2.2.2.1,(aS c.fr c.un s).2.2.2.2):=by unfold bo;rw[zj (by omega),zj (by omega)]
 have n:Hid (∀d V,MS b t R d V->Calls prog 80 #[.int .i64 c.fr,.int .i64 c.un,ng b,.string s] V fun e w'=>e= .returned (.tuple #[.agg #[.int .u64 (bo c s).2.1.id,.string (bo c s).2.1.nm,.string (bo c s).2.1.body],.int .i64 (bo c s).2.2.1,.int .i64 (bo c s).1])/\MS b (t+(bo c s).2.2.2) (R-(bo c s).2.2.2) d w'):=za (fun d V o=>by
  rw[y];cases b with
  |none=>exact(vj c.fr c.un s V (by omega) l.fr.1 l.fr.2).mono fun e w' ⟨i,z⟩=>⟨i,⟨o.only.trans' (ae.ag z (zf _)) (by simp),trivial⟩⟩
  |some g=>
   obtain⟨a,u,p,k1,k2,Z,k4⟩:=o.met;have hm:=Iu c.fr c.un s;exact(vn c.fr c.un g a u t p s V (by omega) l.fr.1 l.fr.2 k1 k2 (by omega) (by omega) (by omega)).mono fun e w' ⟨i,⟨q,z⟩,O⟩=>⟨i,⟨o.only.trans O,⟨a,_,q,z,k2,by simp only;omega,by simp only;omega⟩⟩⟩)
 obtain⟨d,r⟩:∃d,(w.alloc (.cells #[.int .i64 c.fm,.int .u32 c.mg,.int .i64 c.fr,.int .i64 c.un,.int .i64 c.de,.int .i64 c.it] 24)).alloc (.cells #[.int .u64 0,.string ⟨#[]⟩,.string ⟨#[]⟩] 74)=d:=⟨_,rfl⟩
 have j:=ie r;have S:Hid (ae b.toList W d):=za (h.only.trans ((ae.ag j.2.1 (zf _)).mono (by simp)));have U:Hid (af d (w.heap.size+1) 74 #[.int .u64 0,.string ⟨#[]⟩,.string ⟨#[]⟩]):=za j.2.2.2;have M:Hid (MS b t R d d):=za (MS.refl (h.met.only (ae.ag j.2.1 (zf _)) (by simp)));have B:Hid (∀k,b=some k->k<w.heap.size+1):=za (fun k K=>by have:=h.met.lt k K;omega);have G:Hid (W.heap.size<=w.heap.size+1):=za (by have:=h.size;omega);have I:=za r;have D:=za y;clear r j h y i;unfold aR.val;generalize ng b=mv at*;obtain⟨X,A⟩:∃X,bo c s=X:=⟨_,rfl⟩
 rw[A]at D n⊢;clear A;obtain⟨F,⟨E,H,J⟩,L,m⟩:=X;simp only at n D;go_enter func79,ntmps79
 go_wp2_with fail
 rw[I.out];refine(n.out _ _ M.out).mono ?_;rintro e Y ⟨rfl,x⟩;have C:=za (x.blk U.out B.out);have N:=za (x.from S.out);clear x;obtain⟨g0,g1,g2,f0,f1,f2⟩:=a8 C.out;go_wp2;refine zo (v:= .tuple #[.agg #[.int .u64 E,.string H,.string J],.int .i64 L,.int .i64 F]) (by simp[results,results79,go_sem,dF C.out]) rfl ?_;exact⟨rfl,N.out.dP G.out B.out _ _ _⟩
theorem af.ms {c:Option Nat}{t R:Nat}{V V':World}{g:Nat}{ty:TypeId}{b:Array Value}(h:af V g ty b)(e:MS c t R V V')(d:∀k,c=some k->k<g):af V' g ty b:=e.blk h d
theorem Met.below {w w':World}{b:Option Nat}{t R:Nat}(h:Met w b t R)(c:Below w.heap.size w w'):Met w' b t R:=h.only (ae.ag c (zf _)) (by simp)
theorem WL (c:aR)(d:Option Nat)(t R:Nat)(s:ByteArray)(hc:c.ok)(i:c.fm=1)(hr:c.right=true)(hR:70000<=R)(hs:s.size<=1099511627776)(W w:World)(K:MS d t R W w):
 Calls prog 49 #[c.val,ng d,.string s] w fun e w'=>e= .returned (oT (aW c s))/\MS d (t+(aW c s).2.2.2) (R-(aW c s).2.2.2) W w':=by
 have Nv:=(c.cQ).1 hr;have A:=za (FO c d t R s hc i (by omega) hs);clear Nv hc hR;have hI:=PT;have Vx:=MD;unfold pa fm1 kh at hI;unfold fm1 kh at Vx;have HR:=za (fun w=>i' c w);rw[hr]at HR;have Js:=za (bR hr s);rw[Js.out];clear Js;have M:=za (uw c s);unfold aR.val at*;obtain⟨X,AO⟩:∃X,bo c s=X:=⟨_,rfl⟩
 rw[AO]at A M⊢;clear AO;obtain⟨F,⟨y,G,z⟩,L,m⟩:=X;simp only at A M;obtain⟨fm,C,E,I,D,it⟩:=c;simp only at i;subst i;simp only at*;generalize ng d=Y at*;obtain⟨h,cB⟩:∃h,(w.alloc (.cells #[.int .i64 1,.int .u32 C,.int .i64 E,.int .i64 I,.int .i64 D,.int .i64 it] 24)).alloc (.cells #[.int .u64 0,.string ⟨#[]⟩,.string ⟨#[]⟩] 74)=h:=⟨_,rfl⟩
 have H:=ie cB;have HO:Hid (ae d.toList W h):=za (K.only.trans ((ae.ag H.2.1 (zf _)).mono (by simp)));have HB:Hid (af h (w.heap.size+1) 74 #[.int .u64 0,.string ⟨#[]⟩,.string ⟨#[]⟩]):=za H.2.2.2;have HM:Hid (Met h d t R):=za (K.met.only (ae.ag H.2.1 (zf _)) (by simp));have HG:Hid (∀k,d=some k->k<w.heap.size):=za (K.met.lt);have HL:Hid (W.heap.size<=w.heap.size/\h.heap.size=w.heap.size+2):=za ⟨K.size,H.1⟩;have p:Hid (∀V t R,MS d t R h V->V.cell? ⟨w.heap.size,0,none⟩=some (.int .i64 1)/\V.cell? ⟨w.heap.size,1,none⟩=some (.int .u32 C)/\V.cell? ⟨w.heap.size,2,none⟩=some (.int .i64 E)/\V.cell? ⟨w.heap.size,3,none⟩=some (.int .i64 I)/\V.cell? ⟨w.heap.size,4,none⟩=some (.int .i64 D)/\V.cell? ⟨w.heap.size,5,none⟩=some (.int .i64 it)):=za (fun V t R l=>by
  have x:=l.blk H.2.2.1 HG.out;exact⟨x.cell 0,x.cell 1,x.cell 2,x.cell 3,x.cell 4,x.cell 5⟩)
 have cJ:=za cB;clear cB H K;go_enter func49,ntmps49
 go_wp2_with fail
 rw[cJ.out];refine(HR.out _).mono ?_;rintro e u ⟨rfl,aI⟩;have q:Hid (MS d t R h u):=za ((MS.refl HM.out).below aI);clear aI;obtain⟨q0,q1,q2,q3,q4,q5⟩:=p.out u _ _ q.out;have U:=za q.out.size;have B:Hid (∀V,MS d t R h V->∀k,d=some k->k<V.heap.size):=za (fun V l=>l.met.lt);have Z:Hid (Calls prog 44 #[] (u.alloc (.cells #[.int .u64 0,.string ⟨#[]⟩,.string ⟨#[]⟩] 74)).drew fun e w'=>e= .returned pa/\MS d t R h w'/\af w' u.heap.size 74 #[.int .u64 0,.string ⟨#[]⟩,.string ⟨#[]⟩]):=za ((dg _).mono fun e w' ⟨i,j⟩=>⟨i,((q.out.alloc _).drew).below j,(af.new u _ _).drew.ah j (by simp)⟩);have tr:Hid (Calls prog 44 #[] u.drew fun e w'=>e= .returned pa/\MS d t R h w'):=za ((dg _).mono fun e w' ⟨i,j⟩=>⟨i,q.out.drew.below j⟩);have Vz:Hid (∀V,MS d t R h V->Calls prog 69 #[.agg #[.int .i64 1,.int .u32 C,.int .i64 E,.int .i64 I,.int .i64 D,.int .i64 it],Y,.string s] (V.alloc (.cells #[.int .u64 0,.string ⟨#[]⟩,.string ⟨#[]⟩] 74)) fun e w'=>e= .returned (.tuple #[.agg #[.int .u64 y,.string G,.string z],.int .i64 L,.int .i64 F])/\MS d (t+m) (R-m) h w'/\af w' V.heap.size 74 #[.int .u64 0,.string ⟨#[]⟩,.string ⟨#[]⟩]):=za (fun V l=>
  (A.out _ _ (MS.refl (l.alloc _).met)).mono fun e w' ⟨i,j⟩=>⟨i,j.from (l.alloc _).only,(af.new V _ _).ms j (B.out V l)⟩)
 have Vw:Hid (∀V,MS d t R h V->af V u.heap.size 74 #[.int .u64 0,.string ⟨#[]⟩,.string ⟨#[]⟩]->Calls prog 69 #[.agg #[.int .i64 1,.int .u32 C,.int .i64 E,.int .i64 I,.int .i64 D,.int .i64 it],Y,.string s] V fun e w'=>e= .returned (.tuple #[.agg #[.int .u64 y,.string G,.string z],.int .i64 L,.int .i64 F])/\MS d (t+m) (R-m) h w'/\af w' u.heap.size 74 #[.int .u64 0,.string ⟨#[]⟩,.string ⟨#[]⟩]):=za (fun V l x=>
  (A.out _ _ (MS.refl l.met)).mono fun e w' ⟨i,j⟩=>⟨i,j.from l.only,x.ms j (B.out u q.out)⟩)
 have sR:Hid (∀V,MS d t R h V->Calls prog 69 #[.agg #[.int .i64 1,.int .u32 C,.int .i64 E,.int .i64 I,.int .i64 D,.int .i64 it],Y,.string s] V fun e w'=>e= .returned (.tuple #[.agg #[.int .u64 y,.string G,.string z],.int .i64 L,.int .i64 F])/\MS d (t+m) (R-m) h w'):=za (fun V l=>
  (A.out _ _ (MS.refl l.met)).mono fun e w' ⟨i,j⟩=>⟨i,j.from l.only⟩)
 unfold pa kh at Z tr;clear A HR;go_upto_region 3 with fail
 go_cut [9,10,11] (fun v n er wx=>∃N:Nat,v= .pointer (some ⟨N,0,none⟩)/\n= .int .i64 L/\er= .int .i64 F/\Hid (h.heap.size<=N)/\Hid (af wx N 74 #[.int .u64 y,.string G,.string z])/\Hid (MS d (t+m) (R-m) h wx))
 case first=>
  go_wp2_with fail
  go_region_held3 (fun V=>V.cell? ⟨w.heap.size,0,none⟩=some (.int .i64 1)/\V.cell? ⟨w.heap.size,1,none⟩=some (.int .u32 C)/\V.cell? ⟨w.heap.size,2,none⟩=some (.int .i64 E)/\V.cell? ⟨w.heap.size,3,none⟩=some (.int .i64 I)/\V.cell? ⟨w.heap.size,4,none⟩=some (.int .i64 D)/\V.cell? ⟨w.heap.size,5,none⟩=some (.int .i64 it))
   (first|exact p.out _ _ _ q.out|exact p.out _ _ _ q.out.drew|exact p.out _ _ _ ((q.out.alloc _).drew)|exact p.out _ _ _ r|exact p.out _ _ _ o|exact p.out _ _ _ (o.alloc _)|exact p.out _ _ _ (r.alloc _)|exact p.out _ _ _ (r.dP U.out (B.out _ q.out) _ _ _)|exact p.out _ _ _ (r.dP o.size (B.out _ o) _ _ _))
   (first
    |(go_at_call 69;((with_reducible refine(Vw.out _ o hz).mono ?_);rintro e w2 ⟨rfl,r,J⟩;obtain⟨z0,z1,z2,Rv,Rx,Rw⟩:=a8 J))
    |(go_at_call 69;((with_reducible refine(Vz.out _ o).mono ?_);rintro e w2 ⟨rfl,r,J⟩;obtain⟨z0,z1,z2,Rv,Rx,Rw⟩:=a8 J))
    |(go_at_call 69;((with_reducible refine(sR.out _ o).mono ?_);rintro e w2 ⟨rfl,r⟩))
    |(go_at_call 44;((with_reducible refine Z.out.mono ?_);rintro e w' ⟨rfl,o,hz⟩;obtain⟨z0,z1,z2,Rv,Rx,Rw⟩:=a8 hz))
    |(go_at_call 44;((with_reducible refine tr.out.mono ?_);rintro e w' ⟨rfl,o⟩)))
  all_goals
   go_wp2_with fail
   go_meet;case rel=>
    first
     |exact⟨_,rfl,rfl,rfl,za r.size,za (af.new _ _ _),za (r.alloc _)⟩
     |exact⟨_,rfl,rfl,rfl,U,za (kR J _ _ _),za (r.dP U.out (B.out _ q.out) _ _ _)⟩
     |exact⟨_,rfl,rfl,rfl,za o.size,za (kR J _ _ _),za (r.dP o.size (B.out _ o) _ _ _)⟩
 case rest=>
  obtain⟨N,rfl,rfl,rfl,ab,Dz,wC⟩:=hcut;have S:Hid (af wc (w.heap.size+1) 74 #[.int .u64 0,.string ⟨#[]⟩,.string ⟨#[]⟩]):=za (wC.out.blk HB.out (fun k hk=>by have:=HG.out k hk;omega));have Vy:Hid (MS d (t+m) (R-m) W wc):=za (wC.out.from HO.out);have VA:Hid (W.heap.size<=w.heap.size+1):=za (by have:=HL.out;omega);have Gj:Hid (∀k,d=some k->k<w.heap.size+1):=za (fun k hk=>by have:=HG.out k hk;omega);obtain⟨g0,g1,g2,f0,f1,f2⟩:=a8 S.out;obtain⟨k0,k1,k2,_,_,_⟩:=a8 Dz.out;clear Z tr Vz Vw sR p q0 q1 q2 q3 q4 q5 hI Vx;rcases eF F with⟨O,i,j⟩|⟨O,i,j⟩
  ·subst O;go_wp2;refine zo (v:= .tuple #[.agg #[.int .u64 y,.string G,.string z],.int .i64 L,.int .i64 0]) (by simp[results,Zc,go_sem,dF S.out]) rfl ?_;exact⟨rfl,Vy.out.dP VA.out Gj.out _ _ _⟩
  obtain⟨aa,rfl⟩:=M.out O;obtain⟨rfl,rfl,rfl⟩:y=0/\G=ByteArray.empty/\z=ByteArray.empty:=by injection aa with a b c;exact⟨a,b,c⟩
  clear M;go_wp2;refine zo (v:= .tuple #[.agg #[.int .u64 0,.string ByteArray.empty,.string ByteArray.empty],.int .i64 0,.int .i64 F]) (by simp[results,Zc,go_sem,dF S.out,nQ]) rfl ?_;exact⟨rfl,Vy.out.dP VA.out Gj.out _ _ _⟩
theorem WM (c:aR)(d:Option Nat)(t R:Nat)(s:ByteArray)(hc:c.ok)(i:c.fm=2)(hr:c.right=true)(hR:70000<=R)(hs:s.size<=1099511627776)(W w:World)(K:MS d t R W w):
 Calls prog 49 #[c.val,ng d,.string s] w fun e w'=>e= .returned (oT (aW c s))/\MS d (t+(aW c s).2.2.2) (R-(aW c s).2.2.2) W w':=by
 have Nv:=(c.cQ).1 hr;have A:=za (FP c d t R s hc i (by omega) hs);clear Nv hc hR;have hI:=PU;have Vx:=ME;unfold pa fm2 kh at hI;unfold fm2 kh at Vx;have HR:=za (fun w=>i' c w);rw[hr]at HR;have Js:=za (bR hr s);rw[Js.out];clear Js;have M:=za (uw c s);unfold aR.val at*;obtain⟨X,AO⟩:∃X,bo c s=X:=⟨_,rfl⟩
 rw[AO]at A M⊢;clear AO;obtain⟨F,⟨y,G,z⟩,L,m⟩:=X;simp only at A M;obtain⟨fm,C,E,I,D,it⟩:=c;simp only at i;subst i;simp only at*;generalize ng d=Y at*;obtain⟨h,cB⟩:∃h,(w.alloc (.cells #[.int .i64 2,.int .u32 C,.int .i64 E,.int .i64 I,.int .i64 D,.int .i64 it] 24)).alloc (.cells #[.int .u64 0,.string ⟨#[]⟩,.string ⟨#[]⟩] 74)=h:=⟨_,rfl⟩
 have H:=ie cB;have HO:Hid (ae d.toList W h):=za (K.only.trans ((ae.ag H.2.1 (zf _)).mono (by simp)));have HB:Hid (af h (w.heap.size+1) 74 #[.int .u64 0,.string ⟨#[]⟩,.string ⟨#[]⟩]):=za H.2.2.2;have HM:Hid (Met h d t R):=za (K.met.only (ae.ag H.2.1 (zf _)) (by simp));have HG:Hid (∀k,d=some k->k<w.heap.size):=za (K.met.lt);have HL:Hid (W.heap.size<=w.heap.size/\h.heap.size=w.heap.size+2):=za ⟨K.size,H.1⟩;have p:Hid (∀V t R,MS d t R h V->V.cell? ⟨w.heap.size,0,none⟩=some (.int .i64 2)/\V.cell? ⟨w.heap.size,1,none⟩=some (.int .u32 C)/\V.cell? ⟨w.heap.size,2,none⟩=some (.int .i64 E)/\V.cell? ⟨w.heap.size,3,none⟩=some (.int .i64 I)/\V.cell? ⟨w.heap.size,4,none⟩=some (.int .i64 D)/\V.cell? ⟨w.heap.size,5,none⟩=some (.int .i64 it)):=za (fun V t R l=>by
  have x:=l.blk H.2.2.1 HG.out;exact⟨x.cell 0,x.cell 1,x.cell 2,x.cell 3,x.cell 4,x.cell 5⟩)
 have cJ:=za cB;clear cB H K;go_enter func49,ntmps49
 go_wp2_with fail
 rw[cJ.out];refine(HR.out _).mono ?_;rintro e u ⟨rfl,aI⟩;have q:Hid (MS d t R h u):=za ((MS.refl HM.out).below aI);clear aI;obtain⟨q0,q1,q2,q3,q4,q5⟩:=p.out u _ _ q.out;have U:=za q.out.size;have B:Hid (∀V,MS d t R h V->∀k,d=some k->k<V.heap.size):=za (fun V l=>l.met.lt);have Z:Hid (Calls prog 44 #[] (u.alloc (.cells #[.int .u64 0,.string ⟨#[]⟩,.string ⟨#[]⟩] 74)).drew fun e w'=>e= .returned pa/\MS d t R h w'/\af w' u.heap.size 74 #[.int .u64 0,.string ⟨#[]⟩,.string ⟨#[]⟩]):=za ((dg _).mono fun e w' ⟨i,j⟩=>⟨i,((q.out.alloc _).drew).below j,(af.new u _ _).drew.ah j (by simp)⟩);have tr:Hid (Calls prog 44 #[] u.drew fun e w'=>e= .returned pa/\MS d t R h w'):=za ((dg _).mono fun e w' ⟨i,j⟩=>⟨i,q.out.drew.below j⟩);have Vz:Hid (∀V,MS d t R h V->Calls prog 74 #[.agg #[.int .i64 2,.int .u32 C,.int .i64 E,.int .i64 I,.int .i64 D,.int .i64 it],Y,.string s] (V.alloc (.cells #[.int .u64 0,.string ⟨#[]⟩,.string ⟨#[]⟩] 74)) fun e w'=>e= .returned (.tuple #[.agg #[.int .u64 y,.string G,.string z],.int .i64 L,.int .i64 F])/\MS d (t+m) (R-m) h w'/\af w' V.heap.size 74 #[.int .u64 0,.string ⟨#[]⟩,.string ⟨#[]⟩]):=za (fun V l=>
  (A.out _ _ (MS.refl (l.alloc _).met)).mono fun e w' ⟨i,j⟩=>⟨i,j.from (l.alloc _).only,(af.new V _ _).ms j (B.out V l)⟩)
 have Vw:Hid (∀V,MS d t R h V->af V u.heap.size 74 #[.int .u64 0,.string ⟨#[]⟩,.string ⟨#[]⟩]->Calls prog 74 #[.agg #[.int .i64 2,.int .u32 C,.int .i64 E,.int .i64 I,.int .i64 D,.int .i64 it],Y,.string s] V fun e w'=>e= .returned (.tuple #[.agg #[.int .u64 y,.string G,.string z],.int .i64 L,.int .i64 F])/\MS d (t+m) (R-m) h w'/\af w' u.heap.size 74 #[.int .u64 0,.string ⟨#[]⟩,.string ⟨#[]⟩]):=za (fun V l x=>
  (A.out _ _ (MS.refl l.met)).mono fun e w' ⟨i,j⟩=>⟨i,j.from l.only,x.ms j (B.out u q.out)⟩)
 have sR:Hid (∀V,MS d t R h V->Calls prog 74 #[.agg #[.int .i64 2,.int .u32 C,.int .i64 E,.int .i64 I,.int .i64 D,.int .i64 it],Y,.string s] V fun e w'=>e= .returned (.tuple #[.agg #[.int .u64 y,.string G,.string z],.int .i64 L,.int .i64 F])/\MS d (t+m) (R-m) h w'):=za (fun V l=>
  (A.out _ _ (MS.refl l.met)).mono fun e w' ⟨i,j⟩=>⟨i,j.from l.only⟩)
 unfold pa kh at Z tr;clear A HR;go_upto_region 3 with fail
 go_cut [9,10,11] (fun v n er wx=>∃N:Nat,v= .pointer (some ⟨N,0,none⟩)/\n= .int .i64 L/\er= .int .i64 F/\Hid (h.heap.size<=N)/\Hid (af wx N 74 #[.int .u64 y,.string G,.string z])/\Hid (MS d (t+m) (R-m) h wx))
 case first=>
  go_wp2_with fail
  go_region_held3 (fun V=>V.cell? ⟨w.heap.size,0,none⟩=some (.int .i64 2)/\V.cell? ⟨w.heap.size,1,none⟩=some (.int .u32 C)/\V.cell? ⟨w.heap.size,2,none⟩=some (.int .i64 E)/\V.cell? ⟨w.heap.size,3,none⟩=some (.int .i64 I)/\V.cell? ⟨w.heap.size,4,none⟩=some (.int .i64 D)/\V.cell? ⟨w.heap.size,5,none⟩=some (.int .i64 it))
   (first|exact p.out _ _ _ q.out|exact p.out _ _ _ q.out.drew|exact p.out _ _ _ ((q.out.alloc _).drew)|exact p.out _ _ _ r|exact p.out _ _ _ o|exact p.out _ _ _ (o.alloc _)|exact p.out _ _ _ (r.alloc _)|exact p.out _ _ _ (r.dP U.out (B.out _ q.out) _ _ _)|exact p.out _ _ _ (r.dP o.size (B.out _ o) _ _ _))
   (first
    |(go_at_call 74;((with_reducible refine(Vw.out _ o hz).mono ?_);rintro e w2 ⟨rfl,r,J⟩;obtain⟨z0,z1,z2,Rv,Rx,Rw⟩:=a8 J))
    |(go_at_call 74;((with_reducible refine(Vz.out _ o).mono ?_);rintro e w2 ⟨rfl,r,J⟩;obtain⟨z0,z1,z2,Rv,Rx,Rw⟩:=a8 J))
    |(go_at_call 74;((with_reducible refine(sR.out _ o).mono ?_);rintro e w2 ⟨rfl,r⟩))
    |(go_at_call 44;((with_reducible refine Z.out.mono ?_);rintro e w' ⟨rfl,o,hz⟩;obtain⟨z0,z1,z2,Rv,Rx,Rw⟩:=a8 hz))
    |(go_at_call 44;((with_reducible refine tr.out.mono ?_);rintro e w' ⟨rfl,o⟩)))
  all_goals
   go_wp2_with fail
   go_meet;case rel=>
    first
     |exact⟨_,rfl,rfl,rfl,za r.size,za (af.new _ _ _),za (r.alloc _)⟩
     |exact⟨_,rfl,rfl,rfl,U,za (kR J _ _ _),za (r.dP U.out (B.out _ q.out) _ _ _)⟩
     |exact⟨_,rfl,rfl,rfl,za o.size,za (kR J _ _ _),za (r.dP o.size (B.out _ o) _ _ _)⟩
 case rest=>
  obtain⟨N,rfl,rfl,rfl,ab,Dz,wC⟩:=hcut;have S:Hid (af wc (w.heap.size+1) 74 #[.int .u64 0,.string ⟨#[]⟩,.string ⟨#[]⟩]):=za (wC.out.blk HB.out (fun k hk=>by have:=HG.out k hk;omega));have Vy:Hid (MS d (t+m) (R-m) W wc):=za (wC.out.from HO.out);have VA:Hid (W.heap.size<=w.heap.size+1):=za (by have:=HL.out;omega);have Gj:Hid (∀k,d=some k->k<w.heap.size+1):=za (fun k hk=>by have:=HG.out k hk;omega);obtain⟨g0,g1,g2,f0,f1,f2⟩:=a8 S.out;obtain⟨k0,k1,k2,_,_,_⟩:=a8 Dz.out;clear Z tr Vz Vw sR p q0 q1 q2 q3 q4 q5 hI Vx;rcases eF F with⟨O,i,j⟩|⟨O,i,j⟩
  ·subst O;go_wp2;refine zo (v:= .tuple #[.agg #[.int .u64 y,.string G,.string z],.int .i64 L,.int .i64 0]) (by simp[results,Zc,go_sem,dF S.out]) rfl ?_;exact⟨rfl,Vy.out.dP VA.out Gj.out _ _ _⟩
  obtain⟨aa,rfl⟩:=M.out O;obtain⟨rfl,rfl,rfl⟩:y=0/\G=ByteArray.empty/\z=ByteArray.empty:=by injection aa with a b c;exact⟨a,b,c⟩
  clear M;go_wp2;refine zo (v:= .tuple #[.agg #[.int .u64 0,.string ByteArray.empty,.string ByteArray.empty],.int .i64 0,.int .i64 F]) (by simp[results,Zc,go_sem,dF S.out,nQ]) rfl ?_;exact⟨rfl,Vy.out.dP VA.out Gj.out _ _ _⟩
theorem WN (c:aR)(d:Option Nat)(t R:Nat)(s:ByteArray)(hc:c.ok)(i:c.fm=3)(hr:c.right=true)(hR:70000<=R)(hs:s.size<=1099511627776)(W w:World)(K:MS d t R W w):
 Calls prog 49 #[c.val,ng d,.string s] w fun e w'=>e= .returned (oT (aW c s))/\MS d (t+(aW c s).2.2.2) (R-(aW c s).2.2.2) W w':=by
 have Nv:=(c.cQ).1 hr;have A:=za (FQ c d t R s hc i (by omega) (by omega) hR hs);clear Nv hc hR;have hI:=PV;have Vx:=MF;unfold pa fm3 kh at hI;unfold fm3 kh at Vx;have HR:=za (fun w=>i' c w);rw[hr]at HR;have Js:=za (bR hr s);rw[Js.out];clear Js;have M:=za (uw c s);unfold aR.val at*;obtain⟨X,AO⟩:∃X,bo c s=X:=⟨_,rfl⟩
 rw[AO]at A M⊢;clear AO;obtain⟨F,⟨y,G,z⟩,L,m⟩:=X;simp only at A M;obtain⟨fm,C,E,I,D,it⟩:=c;simp only at i;subst i;simp only at*;generalize ng d=Y at*;obtain⟨h,cB⟩:∃h,(w.alloc (.cells #[.int .i64 3,.int .u32 C,.int .i64 E,.int .i64 I,.int .i64 D,.int .i64 it] 24)).alloc (.cells #[.int .u64 0,.string ⟨#[]⟩,.string ⟨#[]⟩] 74)=h:=⟨_,rfl⟩
 have H:=ie cB;have HO:Hid (ae d.toList W h):=za (K.only.trans ((ae.ag H.2.1 (zf _)).mono (by simp)));have HB:Hid (af h (w.heap.size+1) 74 #[.int .u64 0,.string ⟨#[]⟩,.string ⟨#[]⟩]):=za H.2.2.2;have HM:Hid (Met h d t R):=za (K.met.only (ae.ag H.2.1 (zf _)) (by simp));have HG:Hid (∀k,d=some k->k<w.heap.size):=za (K.met.lt);have HL:Hid (W.heap.size<=w.heap.size/\h.heap.size=w.heap.size+2):=za ⟨K.size,H.1⟩;have p:Hid (∀V t R,MS d t R h V->V.cell? ⟨w.heap.size,0,none⟩=some (.int .i64 3)/\V.cell? ⟨w.heap.size,1,none⟩=some (.int .u32 C)/\V.cell? ⟨w.heap.size,2,none⟩=some (.int .i64 E)/\V.cell? ⟨w.heap.size,3,none⟩=some (.int .i64 I)/\V.cell? ⟨w.heap.size,4,none⟩=some (.int .i64 D)/\V.cell? ⟨w.heap.size,5,none⟩=some (.int .i64 it)):=za (fun V t R l=>by
  have x:=l.blk H.2.2.1 HG.out;exact⟨x.cell 0,x.cell 1,x.cell 2,x.cell 3,x.cell 4,x.cell 5⟩)
 have cJ:=za cB;clear cB H K;go_enter func49,ntmps49
 go_wp2_with fail
 rw[cJ.out];refine(HR.out _).mono ?_;rintro e u ⟨rfl,aI⟩;have q:Hid (MS d t R h u):=za ((MS.refl HM.out).below aI);clear aI;obtain⟨q0,q1,q2,q3,q4,q5⟩:=p.out u _ _ q.out;have U:=za q.out.size;have B:Hid (∀V,MS d t R h V->∀k,d=some k->k<V.heap.size):=za (fun V l=>l.met.lt);have Z:Hid (Calls prog 44 #[] (u.alloc (.cells #[.int .u64 0,.string ⟨#[]⟩,.string ⟨#[]⟩] 74)).drew fun e w'=>e= .returned pa/\MS d t R h w'/\af w' u.heap.size 74 #[.int .u64 0,.string ⟨#[]⟩,.string ⟨#[]⟩]):=za ((dg _).mono fun e w' ⟨i,j⟩=>⟨i,((q.out.alloc _).drew).below j,(af.new u _ _).drew.ah j (by simp)⟩);have tr:Hid (Calls prog 44 #[] u.drew fun e w'=>e= .returned pa/\MS d t R h w'):=za ((dg _).mono fun e w' ⟨i,j⟩=>⟨i,q.out.drew.below j⟩);have Vz:Hid (∀V,MS d t R h V->Calls prog 79 #[.agg #[.int .i64 3,.int .u32 C,.int .i64 E,.int .i64 I,.int .i64 D,.int .i64 it],Y,.string s] (V.alloc (.cells #[.int .u64 0,.string ⟨#[]⟩,.string ⟨#[]⟩] 74)) fun e w'=>e= .returned (.tuple #[.agg #[.int .u64 y,.string G,.string z],.int .i64 L,.int .i64 F])/\MS d (t+m) (R-m) h w'/\af w' V.heap.size 74 #[.int .u64 0,.string ⟨#[]⟩,.string ⟨#[]⟩]):=za (fun V l=>
  (A.out _ _ (MS.refl (l.alloc _).met)).mono fun e w' ⟨i,j⟩=>⟨i,j.from (l.alloc _).only,(af.new V _ _).ms j (B.out V l)⟩)
 have Vw:Hid (∀V,MS d t R h V->af V u.heap.size 74 #[.int .u64 0,.string ⟨#[]⟩,.string ⟨#[]⟩]->Calls prog 79 #[.agg #[.int .i64 3,.int .u32 C,.int .i64 E,.int .i64 I,.int .i64 D,.int .i64 it],Y,.string s] V fun e w'=>e= .returned (.tuple #[.agg #[.int .u64 y,.string G,.string z],.int .i64 L,.int .i64 F])/\MS d (t+m) (R-m) h w'/\af w' u.heap.size 74 #[.int .u64 0,.string ⟨#[]⟩,.string ⟨#[]⟩]):=za (fun V l x=>
  (A.out _ _ (MS.refl l.met)).mono fun e w' ⟨i,j⟩=>⟨i,j.from l.only,x.ms j (B.out u q.out)⟩)
 have sR:Hid (∀V,MS d t R h V->Calls prog 79 #[.agg #[.int .i64 3,.int .u32 C,.int .i64 E,.int .i64 I,.int .i64 D,.int .i64 it],Y,.string s] V fun e w'=>e= .returned (.tuple #[.agg #[.int .u64 y,.string G,.string z],.int .i64 L,.int .i64 F])/\MS d (t+m) (R-m) h w'):=za (fun V l=>
  (A.out _ _ (MS.refl l.met)).mono fun e w' ⟨i,j⟩=>⟨i,j.from l.only⟩)
 unfold pa kh at Z tr;clear A HR;go_upto_region 3 with fail
 go_cut [9,10,11] (fun v n er wx=>∃N:Nat,v= .pointer (some ⟨N,0,none⟩)/\n= .int .i64 L/\er= .int .i64 F/\Hid (h.heap.size<=N)/\Hid (af wx N 74 #[.int .u64 y,.string G,.string z])/\Hid (MS d (t+m) (R-m) h wx))
 case first=>
  go_wp2_with fail
  go_region_held3 (fun V=>V.cell? ⟨w.heap.size,0,none⟩=some (.int .i64 3)/\V.cell? ⟨w.heap.size,1,none⟩=some (.int .u32 C)/\V.cell? ⟨w.heap.size,2,none⟩=some (.int .i64 E)/\V.cell? ⟨w.heap.size,3,none⟩=some (.int .i64 I)/\V.cell? ⟨w.heap.size,4,none⟩=some (.int .i64 D)/\V.cell? ⟨w.heap.size,5,none⟩=some (.int .i64 it))
   (first|exact p.out _ _ _ q.out|exact p.out _ _ _ q.out.drew|exact p.out _ _ _ ((q.out.alloc _).drew)|exact p.out _ _ _ r|exact p.out _ _ _ o|exact p.out _ _ _ (o.alloc _)|exact p.out _ _ _ (r.alloc _)|exact p.out _ _ _ (r.dP U.out (B.out _ q.out) _ _ _)|exact p.out _ _ _ (r.dP o.size (B.out _ o) _ _ _))
   (first
    |(go_at_call 79;((with_reducible refine(Vw.out _ o hz).mono ?_);rintro e w2 ⟨rfl,r,J⟩;obtain⟨z0,z1,z2,Rv,Rx,Rw⟩:=a8 J))
    |(go_at_call 79;((with_reducible refine(Vz.out _ o).mono ?_);rintro e w2 ⟨rfl,r,J⟩;obtain⟨z0,z1,z2,Rv,Rx,Rw⟩:=a8 J))
    |(go_at_call 79;((with_reducible refine(sR.out _ o).mono ?_);rintro e w2 ⟨rfl,r⟩))
    |(go_at_call 44;((with_reducible refine Z.out.mono ?_);rintro e w' ⟨rfl,o,hz⟩;obtain⟨z0,z1,z2,Rv,Rx,Rw⟩:=a8 hz))
    |(go_at_call 44;((with_reducible refine tr.out.mono ?_);rintro e w' ⟨rfl,o⟩)))
  all_goals
   go_wp2_with fail
   go_meet;case rel=>
    first
     |exact⟨_,rfl,rfl,rfl,za r.size,za (af.new _ _ _),za (r.alloc _)⟩
     |exact⟨_,rfl,rfl,rfl,U,za (kR J _ _ _),za (r.dP U.out (B.out _ q.out) _ _ _)⟩
     |exact⟨_,rfl,rfl,rfl,za o.size,za (kR J _ _ _),za (r.dP o.size (B.out _ o) _ _ _)⟩
 case rest=>
  obtain⟨N,rfl,rfl,rfl,ab,Dz,wC⟩:=hcut;have S:Hid (af wc (w.heap.size+1) 74 #[.int .u64 0,.string ⟨#[]⟩,.string ⟨#[]⟩]):=za (wC.out.blk HB.out (fun k hk=>by have:=HG.out k hk;omega));have Vy:Hid (MS d (t+m) (R-m) W wc):=za (wC.out.from HO.out);have VA:Hid (W.heap.size<=w.heap.size+1):=za (by have:=HL.out;omega);have Gj:Hid (∀k,d=some k->k<w.heap.size+1):=za (fun k hk=>by have:=HG.out k hk;omega);obtain⟨g0,g1,g2,f0,f1,f2⟩:=a8 S.out;obtain⟨k0,k1,k2,_,_,_⟩:=a8 Dz.out;clear Z tr Vz Vw sR p q0 q1 q2 q3 q4 q5 hI Vx;rcases eF F with⟨O,i,j⟩|⟨O,i,j⟩
  ·subst O;go_wp2;refine zo (v:= .tuple #[.agg #[.int .u64 y,.string G,.string z],.int .i64 L,.int .i64 0]) (by simp[results,Zc,go_sem,dF S.out]) rfl ?_;exact⟨rfl,Vy.out.dP VA.out Gj.out _ _ _⟩
  obtain⟨aa,rfl⟩:=M.out O;obtain⟨rfl,rfl,rfl⟩:y=0/\G=ByteArray.empty/\z=ByteArray.empty:=by injection aa with a b c;exact⟨a,b,c⟩
  clear M;go_wp2;refine zo (v:= .tuple #[.agg #[.int .u64 0,.string ByteArray.empty,.string ByteArray.empty],.int .i64 0,.int .i64 F]) (by simp[results,Zc,go_sem,dF S.out,nQ]) rfl ?_;exact⟨rfl,Vy.out.dP VA.out Gj.out _ _ _⟩
theorem WO (c:aR)(b:Option Nat)(t R:Nat)(s:ByteArray)(p:c.right=false)(W w:World)(i:MS b t R W w):
 Calls prog 49 #[c.val,ng b,.string s] w fun e w'=>e= .returned (oT (aW c s))/\MS b (t+(aW c s).2.2.2) (R-(aW c s).2.2.2) W w':=by
 have o:aW c s=(1,nM,0,0):=by unfold aW;rw[p];rfl
 have q:=za (fun w=>i' c w);rw[p]at q;rw[o];unfold aR.val at*;generalize ng b=C at*;obtain⟨d,j⟩:∃d,(w.alloc (.cells #[.int .i64 c.fm,.int .u32 c.mg,.int .i64 c.fr,.int .i64 c.un,.int .i64 c.de,.int .i64 c.it] 24)).alloc (.cells #[.int .u64 0,.string ⟨#[]⟩,.string ⟨#[]⟩] 74)=d:=⟨_,rfl⟩
 have h:=ie j;have z:Hid (MS b t R W d):=za (i.below h.2.1);have A:Hid (af d (w.heap.size+1) 74 #[.int .u64 0,.string ⟨#[]⟩,.string ⟨#[]⟩]):=za h.2.2.2;have u:Hid (∀k,b=some k->k<w.heap.size+1):=za (fun k x=>by have:=i.met.lt k x;omega);have m:Hid (W.heap.size<=w.heap.size+1/\d.heap.size=w.heap.size+2):=za ⟨by have:=i.size;omega,h.1⟩;have r:=za j;clear j h i o;go_enter func49,ntmps49
 go_wp2_with fail
 rw[r.out];refine(q.out _).mono ?_;rintro e B ⟨rfl,l⟩;have n:=za (A.out.ah l (by have:=m.out.2;omega));have y:=za (z.out.below l);clear l;obtain⟨g0,g1,g2,f0,f1,f2⟩:=a8 n.out;go_wp2;refine zo (v:= .tuple #[.agg #[.int .u64 0,.string ByteArray.empty,.string ByteArray.empty],.int .i64 0,.int .i64 1]) (by simp[results,Zc,go_sem,dF n.out,nQ]) rfl ?_;exact⟨rfl,y.out.dP m.out.1 u.out _ _ _⟩
theorem P9 (c:aR)(b:Option Nat)(t R:Nat)(s:ByteArray)(i:c.ok)(j:70000<=R)(k:s.size<=1099511627776)(W w:World)(d:MS b t R W w):
 Calls prog 49 #[c.val,ng b,.string s] w fun e w'=>e= .returned (oT (aW c s))/\MS b (t+(aW c s).2.2.2) (R-(aW c s).2.2.2) W w':=by
 cases hr:c.right with
 |false=>exact WO c b t R s hr W w d
 |true=>
  have l:=(c.cQ).1 hr;rcases(by omega:c.fm=1\/c.fm=2\/c.fm=3)with h|h|h
  ·exact WL c b t R s i h hr j k W w d
  ·exact WM c b t R s i h hr j k W w d
  exact WN c b t R s i h hr j k W w d
theorem TC (f:Fr)(w:World):Calls prog 66 #[f.val] w fun e w'=>e= .returned (.bool (decide (f.id=0)))/\Below w.heap.size w w':=by
 unfold Fr.val;by_cases h:f.id=0
 ·have hd:decide ((f.id:Int)=0)=true:=by simp[h]
  obtain⟨id,nm,body⟩:=f;simp only at*;subst h;go_enter func66,ntmps66
  go_wp2;go_ret;exact⟨aT (by simp),bN⟩
 have hd:((f.id:Int)==0)=false:=by simpa using h
 obtain⟨id,nm,body⟩:=f;simp only at*;go_enter func66,ntmps66
 go_wp2;go_ret;exact⟨aT (by simp[h]),bN⟩
theorem Kv (f:Fr)(w:World):Calls prog 65 #[f.val] w fun e w'=>e= .returned (.bool (decide (f.nm.size=0)))/\Below w.heap.size w w':=by
 unfold Fr.val;obtain⟨id,nm,body⟩:=f;simp only;rcases fJ nm with⟨_,rfl⟩|⟨b,d,c⟩
 ·go_enter func65,ntmps65
  go_wp2;go_ret;exact⟨aT (by rfl),bN⟩
 go_enter func65,ntmps65
 go_wp2;go_ret;exact⟨aT (by simp_all),bN⟩
theorem qi (c:aR)(f:Fr)(i:f.ok)(b:c.fm=1\/f.body.size<=1000000):(aU c f).1.size<=2000000:=by
 unfold aU;split
 ·split
  ·rename_i d
   split
   ·simp
   simp only;rw[oz c.mg f.nm f.body (dW d).2];omega
  simp
 rename_i e
 have b:=b.resolve_left e;split
 ·split
  ·simp
  simp only;rw[bH];have h:=bF 10 ((aQ f.id).length+f.body.data.toList.length) (by rw[aa];omega) (by omega);unfold eM;rw[zp,zp];rw[aa]at*;omega
 split
 ·simp
 split
 ·simp
 simp only;rw[bH];have h:=bF 10 ((aQ f.id).length+(pack f.body.data.toList).length) (by omega) (by omega);unfold eM;rw[zp,zp];omega
theorem sP (c:aR)(f:Fr)(b:f.ok)(d:f.body.size<=1000000):(aU c f).1.size<=2000000:=qi c f b (.inr d)
theorem WQ (c:aR)(f:Fr)(d:c.ok)(i:f.ok)(h:c.fm=1)(w:World):
 Calls prog 67 #[c.val,f.val] w fun e w'=>e= .returned (.tuple #[.string (aU c f).1,.int .i64 (aU c f).2])/\Below w.heap.size w w':=by
 have j:Hid (∀V,Calls prog 68 #[.int .u32 c.mg,.string f.nm,.string f.body] V fun e w'=>e= .returned (.tuple #[.string (aU c f).1,.int .i64 (aU c f).2])/\Below V.heap.size V w'):=za (fun V=>by
  unfold aU;rw[zl h];cases hm:b8 f.nm with
  |false=>exact(IZ c.mg f.nm f.body V d.mg i.nm hm).mono fun e w' ⟨h,l⟩=>⟨h,by rw[<-l];exact zq _ _⟩
  |true=>
   rw[zl rfl];by_cases b:65536<f.body.size
   ·rw[zl b];exact C6 c.mg f.nm f.body V d.mg hm b i.body
   rw[zj b];exact MX c.mg f.nm f.body V d.mg hm (by omega))
 clear d i h;unfold aR.val Fr.val;generalize aU c f=X at*;obtain⟨B,E⟩:=X;simp only at j;go_enter func67,ntmps67
 go_wp2_with fail
 refine(j.out _).mono ?_;rintro e m ⟨rfl,b⟩;have k:=za ((((zq w.heap.size w).alloc (zf _) _).alloc (by simp) _).trans (b.mono (by simp;omega)));clear b;go_wp2;go_ret2
 exact⟨rfl,k.out⟩
theorem WR (c:aR)(f:Fr)(d:f.ok)(b:f.body.size<=1000000)(j:c.fm=2)(w:World):
 Calls prog 72 #[c.val,f.val] w fun e w'=>e= .returned (.tuple #[.string (aU c f).1,.int .i64 (aU c f).2])/\Below w.heap.size w w':=by
 have i:Hid (∀V,Calls prog 73 #[.int .u64 f.id,.string f.body] V fun e w'=>e= .returned (.tuple #[.string (aU c f).1,.int .i64 (aU c f).2])/\Below V.heap.size V w'):=za (fun V=>by
  unfold aU;rw[zj (by omega),zl j];by_cases h:65536<(aQ f.id).length+f.body.size
  ·rw[zl h];exact n7 f.id f.body V d.id h b
  rw[zj h];exact vh f.id f.body V d.id (by omega))
 clear d j b;unfold aR.val Fr.val;generalize aU c f=X at*;obtain⟨B,E⟩:=X;simp only at i;go_enter func72,ntmps72
 go_wp2_with fail
 refine(i.out _).mono ?_;rintro e l ⟨rfl,b⟩;have k:=za ((((zq w.heap.size w).alloc (zf _) _).alloc (by simp) _).trans (b.mono (by simp;omega)));clear b;go_wp2;go_ret2
 exact⟨rfl,k.out⟩
theorem WS (c:aR)(f:Fr)(d:f.ok)(hu:c.un<=65536)(h:c.fm=3)(w:World):
 Calls prog 77 #[c.val,f.val] w fun e w'=>e= .returned (.tuple #[.string (aU c f).1,.int .i64 (aU c f).2])/\Below w.heap.size w w':=by
 by_cases l:c.un<f.body.size
 ·have k:Hid (aU c f=(ByteArray.empty,5)):=za (by unfold aU;rw[zj (by omega),zj (by omega),zl l]);rw[k.out];unfold aR.val Fr.val;clear k hu;have n:=d.body;clear d;obtain⟨r,o,q,s,m,it⟩:=c;obtain⟨id,nm,body⟩:=f;simp only at*;subst h;go_enter func77,ntmps77
  go_wp2;go_ret2
  exact⟨rfl,bN⟩
 have i:Hid (∀V,Calls prog 78 #[.int .u64 f.id,.string f.body] V fun e w'=>e= .returned (.tuple #[.string (aU c f).1,.int .i64 (aU c f).2])/\Below V.heap.size V w'):=za (fun V=>by
  unfold aU;rw[zj (by omega),zj (by omega),zj l];refine(Aj f.id f.body V d.id (by omega)).mono fun e w' ⟨h,u⟩=>⟨?_,u⟩
  rw[h];unfold vl vm;by_cases b:65536<(aQ f.id).length+(pack f.body.data.toList).length
  ·rw[zl b,zl b,zl b]
  rw[zj b,zj b,zj b])
 have n:=d.body;clear d hu;unfold aR.val Fr.val;generalize aU c f=X at*;obtain⟨B,E⟩:=X;simp only at i;obtain⟨r,o,q,s,m,it⟩:=c;obtain⟨id,nm,body⟩:=f;simp only at*;subst h;go_enter func77,ntmps77
 go_wp2_with fail
 refine(i.out _).mono ?_;rintro e x ⟨rfl,j⟩;have p:=za ((((zq w.heap.size w).alloc (zf _) _).alloc (by simp) _).trans (j.mono (by simp;omega)));clear j;go_wp2;go_ret2
 exact⟨rfl,p.out⟩
theorem lS {w:World}{g:Nat}{t:TypeId}{a b c d:Value}(h:af w g t #[a,b,c,d]):w.cell? ⟨g,0,none⟩=some a/\w.cell? ⟨g,1,none⟩=some b/\w.cell? ⟨g,2,none⟩=some c/\w.cell? ⟨g,3,none⟩=some d/\w.frozen? ⟨g,0,none⟩=false/\w.frozen? ⟨g,1,none⟩=false/\w.frozen? ⟨g,2,none⟩=false/\w.frozen? ⟨g,3,none⟩=false:=
 ⟨h.cell 0,h.cell 1,h.cell 2,h.cell 3,h.frozen 0,h.frozen 1,h.frozen 2,h.frozen 3⟩
theorem rC (c:aR)(f:Fr)(e:c.right=true):(iN c f=false->fM c f=(ByteArray.empty,1))/\(iN c f=true->(aU c f).2≠0->fM c f=(ByteArray.empty,(aU c f).2))/\(iN c f=true->(aU c f).2=0->(bo c (aU c f).1).1=5->fM c f=(ByteArray.empty,5))/\(iN c f=true->(aU c f).2=0->(bo c (aU c f).1).1≠5->fM c f=((aU c f).1,0)):=by
 refine⟨fun h=> ?_,fun h b=> ?_,fun h b d=> ?_,fun h b d=> ?_⟩<;>unfold fM
 ·rw[zj (by simp[h])]
 ·rw[zl ⟨e,h⟩,zl b]
 ·rw[zl ⟨e,h⟩,zj (by simp[b]),zl d]
 rw[zl ⟨e,h⟩,zj (by simp[b]),zj d]
theorem TD (c:aR)(f:Fr)(hc:c.ok)(hf:f.ok)(i:c.fm=1)(hr:c.right=true)(w:World):
 Calls prog 28 #[c.val,f.val] w fun e w'=>e= .returned (.tuple #[.string (fM c f).1,.int .i64 (fM c f).2])/\Below w.heap.size w w':=by
 have Nv:=(c.cQ).1 hr;have hz:=qi c f hf (.inl i);have sR:=za (FO c none 0 140000 (aU c f).1 hc i (by omega) (by omega));have HF:Hid (∀V,Calls prog 66 #[f.val] V fun e w'=>e= .returned (.bool (iN c f))/\Below V.heap.size V w'):=za (fun V=>by have:=TC f V;unfold iN;rw[zl i];exact this);have HY:=za (fun V=>WQ c f hc hf i V);clear Nv hc hf hz;have hI:=PT;unfold pa fm1 kh at hI;have HR:=za (fun w=>i' c w);rw[hr]at HR;have h:=za (rC c f hr);have L:Hid (∀V,Calls prog 69 #[c.val,.pointer none,.string (aU c f).1] V fun e w'=>e= .returned (oT (bo c (aU c f).1))/\Below V.heap.size V w'):=za (fun V=>(sR.out V V (MS.refl trivial)).mono fun e w' ⟨i,D⟩=>⟨i,D.vJ⟩);clear sR;unfold oT Fr.val at*;obtain⟨X,o⟩:∃X,bo c (aU c f).1=X:=⟨_,rfl⟩
 rw[o]at L h;clear o;obtain⟨y5,⟨y1,y2,y3⟩,y4,m⟩:=X;obtain⟨X,o⟩:∃X,aU c f=X:=⟨_,rfl⟩
 rw[o]at L h HY;clear o;obtain⟨S,E⟩:=X;obtain⟨X,o⟩:∃X,fM c f=X:=⟨_,rfl⟩
 rw[o]at h⊢;clear o;obtain⟨P1,P2⟩:=X;obtain⟨Z,Dt⟩:∃Z,iN c f=Z:=⟨_,rfl⟩
 rw[Dt]at h HF;clear Dt;simp only at L h HY;unfold aR.val at*;obtain⟨fm,mg,fr,un,de,it⟩:=c;obtain⟨id,nm,body⟩:=f;simp only at*;subst i;obtain⟨b,cB⟩:∃b,(w.alloc (.cells #[.int .i64 1,.int .u32 mg,.int .i64 fr,.int .i64 un,.int .i64 de,.int .i64 it] 24)).alloc (.cells #[.int .u64 id,.string nm,.string body] 74)=b:=⟨_,rfl⟩
 have J:=ie cB;have HO:Hid (Below w.heap.size w b):=za J.2.1;have HL:Hid (b.heap.size=w.heap.size+2):=za J.1;have j:Hid (∀V,Below b.heap.size b V->(V.cell? ⟨w.heap.size,0,none⟩=some (.int .i64 1)/\V.cell? ⟨w.heap.size,1,none⟩=some (.int .u32 mg)/\V.cell? ⟨w.heap.size,2,none⟩=some (.int .i64 fr)/\V.cell? ⟨w.heap.size,3,none⟩=some (.int .i64 un)/\V.cell? ⟨w.heap.size,4,none⟩=some (.int .i64 de)/\V.cell? ⟨w.heap.size,5,none⟩=some (.int .i64 it))):=za (fun V p=>by
  have k:=J.2.2.1.ah p (by omega);exact⟨k.cell 0,k.cell 1,k.cell 2,k.cell 3,k.cell 4,k.cell 5⟩)
 have Ry:Hid (∀V,Below b.heap.size b V->(V.cell? ⟨w.heap.size+1,0,none⟩=some (.int .u64 id)/\V.cell? ⟨w.heap.size+1,1,none⟩=some (.string nm)/\V.cell? ⟨w.heap.size+1,2,none⟩=some (.string body))):=za (fun V p=>by
  have k:=J.2.2.2.ah p (by omega);exact⟨k.cell 0,k.cell 1,k.cell 2⟩)
 have cJ:=za cB;clear cB J;go_enter func28,ntmps28
 go_wp2_with fail
 rw[cJ.out];refine(HR.out _).mono ?_;rintro e C ⟨rfl,aI⟩;have r:Hid (Below b.heap.size b C):=za aI;clear aI;obtain⟨s,u,z,x,q,A⟩:=j.out C r.out;have d:=za r.out.size;have wA:Hid (Calls prog 44 #[] (C.alloc (.cells #[.nilFunc,.nilFunc,.nilFunc,.nilFunc] 104)).drew fun e w'=>e= .returned pa/\Below b.heap.size b w'/\af w' C.heap.size 104 #[.nilFunc,.nilFunc,.nilFunc,.nilFunc]):=za ((dg _).mono fun e w' ⟨i,D⟩=>⟨i,((r.out.alloc d.out _).drew).trans (D.mono (by have:=d.out;simp;omega)),(af.new C _ _).drew.ah D (by simp)⟩);have tr:Hid (Calls prog 44 #[] C.drew fun e w'=>e= .returned pa/\Below b.heap.size b w'):=za ((dg _).mono fun e w' ⟨i,D⟩=>⟨i,r.out.drew.trans (D.mono d.out)⟩);unfold pa kh at wA tr;clear HR;go_upto_region 3 with fail
 go_cut [6] (fun v wx=>∃I:Nat,v= .pointer (some ⟨I,0,none⟩)/\Hid (b.heap.size<=I)/\Hid (af wx I 104 #[.func (.func 66) #[] #[],.func (.func 67) #[] #[],.func (.func 69) #[] #[],.func (.func 71) #[] #[]])/\Hid (Below b.heap.size b wx))
 case first=>
  go_wp2_with fail
  go_region_held3 (fun V=>V.cell? ⟨w.heap.size,0,none⟩=some (.int .i64 1)/\V.cell? ⟨w.heap.size,1,none⟩=some (.int .u32 mg)/\V.cell? ⟨w.heap.size,2,none⟩=some (.int .i64 fr)/\V.cell? ⟨w.heap.size,3,none⟩=some (.int .i64 un)/\V.cell? ⟨w.heap.size,4,none⟩=some (.int .i64 de)/\V.cell? ⟨w.heap.size,5,none⟩=some (.int .i64 it))
   (first|exact j.out _ r.out|exact j.out _ r.out.drew|exact j.out _ ((r.out.alloc d.out _).drew)|exact j.out _ l|exact j.out _ (l.alloc l.size _)|exact j.out _ ((((l.setCell d.out _).setCell d.out _).setCell d.out _).setCell d.out _))
   (first
    |(go_at_call 44;((with_reducible refine wA.out.mono ?_);rintro e w' ⟨rfl,l,hz⟩;obtain⟨z0,B,z2,z3,Rv,Rx,Rw,aa⟩:=lS hz))
    |(go_at_call 44;((with_reducible refine tr.out.mono ?_);rintro e w' ⟨rfl,l⟩)))
  all_goals
   go_wp2_with fail
   go_meet;case rel=>
    first
     |exact⟨_,rfl,za l.size,za (af.new _ _ _),za (l.alloc l.size _)⟩
     |exact⟨_,rfl,d,za ((((hz.set 0 _).set 1 _).set 2 _).set 3 _),za ((((l.setCell d.out _).setCell d.out _).setCell d.out _).setCell d.out _)⟩
 case rest=>
  obtain⟨I,rfl,ab,Y,M⟩:=hcut;have Sg:Hid (∀V,Below wc.heap.size wc V->Below b.heap.size b V/\af V I 104 #[.func (.func 66) #[] #[],.func (.func 67) #[] #[],.func (.func 69) #[] #[],.func (.func 71) #[] #[]]):=za (fun V p=>⟨M.out.trans (p.mono M.out.size),Y.out.ah p Y.out.lt⟩);have U:Hid (∀V,Below b.heap.size b V->Below w.heap.size w V):=za (fun V p=>HO.out.trans (p.mono (by have:=HL.out;omega)));clear wA tr s u z x q A hI;obtain⟨s,u,z,x,q,A⟩:=j.out wc M.out;obtain⟨G,H,F⟩:=Ry.out wc M.out;obtain⟨z0,B,z2,z3,_⟩:=lS Y.out;go_wp2_with fail
  refine(HF.out _).mono ?_;rintro e w2 ⟨rfl,n⟩;obtain⟨W,kx⟩:=Sg.out w2 n;have dS:=za n;have RX:=za W;clear s u z x q A G H F z0 B z2 z3 n;obtain⟨s,u,z,x,q,A⟩:=j.out w2 W;obtain⟨G,H,F⟩:=Ry.out w2 W;obtain⟨z0,B,z2,z3,_⟩:=lS kx;clear W kx;cases Z with
  |false=>
   have y:=h.out.1 (by simp);injection y with gb hU;subst gb;subst hU;clear h;go_wp2;go_ret2
   exact⟨rfl,U.out _ RX.out⟩
  |true=>
   go_wp2_with fail
   refine(HY.out _).mono ?_;rintro e w3 ⟨rfl,n⟩;have ji:Hid (Below wc.heap.size wc w3):=za (dS.out.trans (n.mono dS.out.size));obtain⟨R,sQ⟩:=Sg.out w3 ji.out;have Rz:=za R;clear s u z x q A G H F z0 B z2 z3 n;obtain⟨s,u,z,x,q,A⟩:=j.out w3 R;obtain⟨G,H,F⟩:=Ry.out w3 R;obtain⟨z0,B,z2,z3,_⟩:=lS sQ;clear R sQ;rcases eF E with⟨e0,e1,e2⟩|⟨e0,e1,e2⟩
   ·subst e0;have O:=za (And.intro (h.out.2.2.1 (by simp) (by simp)) (h.out.2.2.2 (by simp) (by simp)));clear h;go_wp2_with fail
    refine(L.out _).mono ?_;rintro e w4 ⟨rfl,n⟩;have N:Hid (Below b.heap.size b w4):=za (Rz.out.trans (n.mono Rz.out.size));clear s u z x q A G H F z0 B z2 z3 n;by_cases K:y5=5
    ·have y:=O.out.1 K;injection y with gb hU;subst gb;subst hU;subst K;clear O;go_wp2;go_ret2
     exact⟨rfl,U.out _ (N.out.alloc N.out.size _)⟩
    have y:=O.out.2 K;injection y with gb hU;subst gb;subst hU;clear O;have h6:(y5==5)=false:=by simpa using K
    go_wp2;go_ret2
    exact⟨rfl,U.out _ (N.out.alloc N.out.size _)⟩
   have y:=h.out.2.1 (by simp) e0;injection y with gb hU;subst gb;subst hU;clear h;go_wp2;go_ret2
   exact⟨rfl,U.out _ Rz.out⟩
theorem TE (c:aR)(f:Fr)(hc:c.ok)(hf:f.ok)(h:f.body.size<=1000000)(n:c.fm=2)(hr:c.right=true)(w:World):
 Calls prog 28 #[c.val,f.val] w fun e w'=>e= .returned (.tuple #[.string (fM c f).1,.int .i64 (fM c f).2])/\Below w.heap.size w w':=by
 have Nv:=(c.cQ).1 hr;have hz:=sP c f hf h;have sR:=za (FP c none 0 140000 (aU c f).1 hc n (by omega) (by omega));have HF:Hid (∀V,Calls prog 65 #[f.val] V fun e w'=>e= .returned (.bool (iN c f))/\Below V.heap.size V w'):=za (fun V=>by have:=Kv f V;unfold iN;rw[zj (by omega)];exact this);have HY:=za (fun V=>WR c f hf h n V);clear Nv hc hf h hz;have hI:=PU;unfold pa fm2 kh at hI;have HR:=za (fun w=>i' c w);rw[hr]at HR;have i:=za (rC c f hr);have L:Hid (∀V,Calls prog 74 #[c.val,.pointer none,.string (aU c f).1] V fun e w'=>e= .returned (oT (bo c (aU c f).1))/\Below V.heap.size V w'):=za (fun V=>(sR.out V V (MS.refl trivial)).mono fun e w' ⟨n,D⟩=>⟨n,D.vJ⟩);clear sR;unfold oT Fr.val at*;obtain⟨X,o⟩:∃X,bo c (aU c f).1=X:=⟨_,rfl⟩
 rw[o]at L i;clear o;obtain⟨y5,⟨y1,y2,y3⟩,y4,m⟩:=X;obtain⟨X,o⟩:∃X,aU c f=X:=⟨_,rfl⟩
 rw[o]at L i HY;clear o;obtain⟨S,E⟩:=X;obtain⟨X,o⟩:∃X,fM c f=X:=⟨_,rfl⟩
 rw[o]at i⊢;clear o;obtain⟨P1,P2⟩:=X;obtain⟨Z,Dt⟩:∃Z,iN c f=Z:=⟨_,rfl⟩
 rw[Dt]at i HF;clear Dt;simp only at L i HY;unfold aR.val at*;obtain⟨fm,mg,fr,un,de,it⟩:=c;obtain⟨id,nm,body⟩:=f;simp only at*;subst n;obtain⟨b,cB⟩:∃b,(w.alloc (.cells #[.int .i64 2,.int .u32 mg,.int .i64 fr,.int .i64 un,.int .i64 de,.int .i64 it] 24)).alloc (.cells #[.int .u64 id,.string nm,.string body] 74)=b:=⟨_,rfl⟩
 have J:=ie cB;have HO:Hid (Below w.heap.size w b):=za J.2.1;have HL:Hid (b.heap.size=w.heap.size+2):=za J.1;have j:Hid (∀V,Below b.heap.size b V->(V.cell? ⟨w.heap.size,0,none⟩=some (.int .i64 2)/\V.cell? ⟨w.heap.size,1,none⟩=some (.int .u32 mg)/\V.cell? ⟨w.heap.size,2,none⟩=some (.int .i64 fr)/\V.cell? ⟨w.heap.size,3,none⟩=some (.int .i64 un)/\V.cell? ⟨w.heap.size,4,none⟩=some (.int .i64 de)/\V.cell? ⟨w.heap.size,5,none⟩=some (.int .i64 it))):=za (fun V p=>by
  have k:=J.2.2.1.ah p (by omega);exact⟨k.cell 0,k.cell 1,k.cell 2,k.cell 3,k.cell 4,k.cell 5⟩)
 have Ry:Hid (∀V,Below b.heap.size b V->(V.cell? ⟨w.heap.size+1,0,none⟩=some (.int .u64 id)/\V.cell? ⟨w.heap.size+1,1,none⟩=some (.string nm)/\V.cell? ⟨w.heap.size+1,2,none⟩=some (.string body))):=za (fun V p=>by
  have k:=J.2.2.2.ah p (by omega);exact⟨k.cell 0,k.cell 1,k.cell 2⟩)
 have cJ:=za cB;clear cB J;go_enter func28,ntmps28
 go_wp2_with fail
 rw[cJ.out];refine(HR.out _).mono ?_;rintro e C ⟨rfl,aI⟩;have r:Hid (Below b.heap.size b C):=za aI;clear aI;obtain⟨s,u,z,x,q,A⟩:=j.out C r.out;have d:=za r.out.size;have wA:Hid (Calls prog 44 #[] (C.alloc (.cells #[.nilFunc,.nilFunc,.nilFunc,.nilFunc] 104)).drew fun e w'=>e= .returned pa/\Below b.heap.size b w'/\af w' C.heap.size 104 #[.nilFunc,.nilFunc,.nilFunc,.nilFunc]):=za ((dg _).mono fun e w' ⟨n,D⟩=>⟨n,((r.out.alloc d.out _).drew).trans (D.mono (by have:=d.out;simp;omega)),(af.new C _ _).drew.ah D (by simp)⟩);have tr:Hid (Calls prog 44 #[] C.drew fun e w'=>e= .returned pa/\Below b.heap.size b w'):=za ((dg _).mono fun e w' ⟨n,D⟩=>⟨n,r.out.drew.trans (D.mono d.out)⟩);unfold pa kh at wA tr;clear HR;go_upto_region 3 with fail
 go_cut [6] (fun v wx=>∃I:Nat,v= .pointer (some ⟨I,0,none⟩)/\Hid (b.heap.size<=I)/\Hid (af wx I 104 #[.func (.func 65) #[] #[],.func (.func 72) #[] #[],.func (.func 74) #[] #[],.func (.func 76) #[] #[]])/\Hid (Below b.heap.size b wx))
 case first=>
  go_wp2_with fail
  go_region_held3 (fun V=>V.cell? ⟨w.heap.size,0,none⟩=some (.int .i64 2)/\V.cell? ⟨w.heap.size,1,none⟩=some (.int .u32 mg)/\V.cell? ⟨w.heap.size,2,none⟩=some (.int .i64 fr)/\V.cell? ⟨w.heap.size,3,none⟩=some (.int .i64 un)/\V.cell? ⟨w.heap.size,4,none⟩=some (.int .i64 de)/\V.cell? ⟨w.heap.size,5,none⟩=some (.int .i64 it))
   (first|exact j.out _ r.out|exact j.out _ r.out.drew|exact j.out _ ((r.out.alloc d.out _).drew)|exact j.out _ l|exact j.out _ (l.alloc l.size _)|exact j.out _ ((((l.setCell d.out _).setCell d.out _).setCell d.out _).setCell d.out _))
   (first
    |(go_at_call 44;((with_reducible refine wA.out.mono ?_);rintro e w' ⟨rfl,l,hz⟩;obtain⟨z0,B,z2,z3,Rv,Rx,Rw,aa⟩:=lS hz))
    |(go_at_call 44;((with_reducible refine tr.out.mono ?_);rintro e w' ⟨rfl,l⟩)))
  all_goals
   go_wp2_with fail
   go_meet;case rel=>
    first
     |exact⟨_,rfl,za l.size,za (af.new _ _ _),za (l.alloc l.size _)⟩
     |exact⟨_,rfl,d,za ((((hz.set 0 _).set 1 _).set 2 _).set 3 _),za ((((l.setCell d.out _).setCell d.out _).setCell d.out _).setCell d.out _)⟩
 case rest=>
  obtain⟨I,rfl,ab,Y,M⟩:=hcut;have Sg:Hid (∀V,Below wc.heap.size wc V->Below b.heap.size b V/\af V I 104 #[.func (.func 65) #[] #[],.func (.func 72) #[] #[],.func (.func 74) #[] #[],.func (.func 76) #[] #[]]):=za (fun V p=>⟨M.out.trans (p.mono M.out.size),Y.out.ah p Y.out.lt⟩);have U:Hid (∀V,Below b.heap.size b V->Below w.heap.size w V):=za (fun V p=>HO.out.trans (p.mono (by have:=HL.out;omega)));clear wA tr s u z x q A hI;obtain⟨s,u,z,x,q,A⟩:=j.out wc M.out;obtain⟨G,H,F⟩:=Ry.out wc M.out;obtain⟨z0,B,z2,z3,_⟩:=lS Y.out;go_wp2_with fail
  refine(HF.out _).mono ?_;rintro e w2 ⟨rfl,h⟩;obtain⟨W,kx⟩:=Sg.out w2 h;have dS:=za h;have RX:=za W;clear s u z x q A G H F z0 B z2 z3 h;obtain⟨s,u,z,x,q,A⟩:=j.out w2 W;obtain⟨G,H,F⟩:=Ry.out w2 W;obtain⟨z0,B,z2,z3,_⟩:=lS kx;clear W kx;cases Z with
  |false=>
   have y:=i.out.1 (by simp);injection y with gb hU;subst gb;subst hU;clear i;go_wp2;go_ret2
   exact⟨rfl,U.out _ RX.out⟩
  |true=>
   go_wp2_with fail
   refine(HY.out _).mono ?_;rintro e w3 ⟨rfl,h⟩;have ji:Hid (Below wc.heap.size wc w3):=za (dS.out.trans (h.mono dS.out.size));obtain⟨R,sQ⟩:=Sg.out w3 ji.out;have Rz:=za R;clear s u z x q A G H F z0 B z2 z3 h;obtain⟨s,u,z,x,q,A⟩:=j.out w3 R;obtain⟨G,H,F⟩:=Ry.out w3 R;obtain⟨z0,B,z2,z3,_⟩:=lS sQ;clear R sQ;rcases eF E with⟨e0,e1,e2⟩|⟨e0,e1,e2⟩
   ·subst e0;have O:=za (And.intro (i.out.2.2.1 (by simp) (by simp)) (i.out.2.2.2 (by simp) (by simp)));clear i;go_wp2_with fail
    refine(L.out _).mono ?_;rintro e w4 ⟨rfl,h⟩;have N:Hid (Below b.heap.size b w4):=za (Rz.out.trans (h.mono Rz.out.size));clear s u z x q A G H F z0 B z2 z3 h;by_cases K:y5=5
    ·have y:=O.out.1 K;injection y with gb hU;subst gb;subst hU;subst K;clear O;go_wp2;go_ret2
     exact⟨rfl,U.out _ (N.out.alloc N.out.size _)⟩
    have y:=O.out.2 K;injection y with gb hU;subst gb;subst hU;clear O;have h6:(y5==5)=false:=by simpa using K
    go_wp2;go_ret2
    exact⟨rfl,U.out _ (N.out.alloc N.out.size _)⟩
   have y:=i.out.2.1 (by simp) e0;injection y with gb hU;subst gb;subst hU;clear i;go_wp2;go_ret2
   exact⟨rfl,U.out _ Rz.out⟩
theorem TF (c:aR)(f:Fr)(hc:c.ok)(hf:f.ok)(h:f.body.size<=1000000)(n:c.fm=3)(hr:c.right=true)(w:World):
 Calls prog 28 #[c.val,f.val] w fun e w'=>e= .returned (.tuple #[.string (fM c f).1,.int .i64 (fM c f).2])/\Below w.heap.size w w':=by
 have Nv:=(c.cQ).1 hr;have hz:=sP c f hf h;have sR:=za (FQ c none 0 140000 (aU c f).1 hc n (by omega) (by omega) (by omega) (by omega));have HF:Hid (∀V,Calls prog 65 #[f.val] V fun e w'=>e= .returned (.bool (iN c f))/\Below V.heap.size V w'):=za (fun V=>by have:=Kv f V;unfold iN;rw[zj (by omega)];exact this);have HY:=za (fun V=>WS c f hf (by omega) n V);clear Nv hc hf h hz;have hI:=PV;unfold pa fm3 kh at hI;have HR:=za (fun w=>i' c w);rw[hr]at HR;have i:=za (rC c f hr);have L:Hid (∀V,Calls prog 79 #[c.val,.pointer none,.string (aU c f).1] V fun e w'=>e= .returned (oT (bo c (aU c f).1))/\Below V.heap.size V w'):=za (fun V=>(sR.out V V (MS.refl trivial)).mono fun e w' ⟨n,D⟩=>⟨n,D.vJ⟩);clear sR;unfold oT Fr.val at*;obtain⟨X,o⟩:∃X,bo c (aU c f).1=X:=⟨_,rfl⟩
 rw[o]at L i;clear o;obtain⟨y5,⟨y1,y2,y3⟩,y4,m⟩:=X;obtain⟨X,o⟩:∃X,aU c f=X:=⟨_,rfl⟩
 rw[o]at L i HY;clear o;obtain⟨S,E⟩:=X;obtain⟨X,o⟩:∃X,fM c f=X:=⟨_,rfl⟩
 rw[o]at i⊢;clear o;obtain⟨P1,P2⟩:=X;obtain⟨Z,Dt⟩:∃Z,iN c f=Z:=⟨_,rfl⟩
 rw[Dt]at i HF;clear Dt;simp only at L i HY;unfold aR.val at*;obtain⟨fm,mg,fr,un,de,it⟩:=c;obtain⟨id,nm,body⟩:=f;simp only at*;subst n;obtain⟨b,cB⟩:∃b,(w.alloc (.cells #[.int .i64 3,.int .u32 mg,.int .i64 fr,.int .i64 un,.int .i64 de,.int .i64 it] 24)).alloc (.cells #[.int .u64 id,.string nm,.string body] 74)=b:=⟨_,rfl⟩
 have J:=ie cB;have HO:Hid (Below w.heap.size w b):=za J.2.1;have HL:Hid (b.heap.size=w.heap.size+2):=za J.1;have j:Hid (∀V,Below b.heap.size b V->(V.cell? ⟨w.heap.size,0,none⟩=some (.int .i64 3)/\V.cell? ⟨w.heap.size,1,none⟩=some (.int .u32 mg)/\V.cell? ⟨w.heap.size,2,none⟩=some (.int .i64 fr)/\V.cell? ⟨w.heap.size,3,none⟩=some (.int .i64 un)/\V.cell? ⟨w.heap.size,4,none⟩=some (.int .i64 de)/\V.cell? ⟨w.heap.size,5,none⟩=some (.int .i64 it))):=za (fun V p=>by
  have k:=J.2.2.1.ah p (by omega);exact⟨k.cell 0,k.cell 1,k.cell 2,k.cell 3,k.cell 4,k.cell 5⟩)
 have Ry:Hid (∀V,Below b.heap.size b V->(V.cell? ⟨w.heap.size+1,0,none⟩=some (.int .u64 id)/\V.cell? ⟨w.heap.size+1,1,none⟩=some (.string nm)/\V.cell? ⟨w.heap.size+1,2,none⟩=some (.string body))):=za (fun V p=>by
  have k:=J.2.2.2.ah p (by omega);exact⟨k.cell 0,k.cell 1,k.cell 2⟩)
 have cJ:=za cB;clear cB J;go_enter func28,ntmps28
 go_wp2_with fail
 rw[cJ.out];refine(HR.out _).mono ?_;rintro e C ⟨rfl,aI⟩;have r:Hid (Below b.heap.size b C):=za aI;clear aI;obtain⟨s,u,z,x,q,A⟩:=j.out C r.out;have d:=za r.out.size;have wA:Hid (Calls prog 44 #[] (C.alloc (.cells #[.nilFunc,.nilFunc,.nilFunc,.nilFunc] 104)).drew fun e w'=>e= .returned pa/\Below b.heap.size b w'/\af w' C.heap.size 104 #[.nilFunc,.nilFunc,.nilFunc,.nilFunc]):=za ((dg _).mono fun e w' ⟨n,D⟩=>⟨n,((r.out.alloc d.out _).drew).trans (D.mono (by have:=d.out;simp;omega)),(af.new C _ _).drew.ah D (by simp)⟩);have tr:Hid (Calls prog 44 #[] C.drew fun e w'=>e= .returned pa/\Below b.heap.size b w'):=za ((dg _).mono fun e w' ⟨n,D⟩=>⟨n,r.out.drew.trans (D.mono d.out)⟩);unfold pa kh at wA tr;clear HR;go_upto_region 3 with fail
 go_cut [6] (fun v wx=>∃I:Nat,v= .pointer (some ⟨I,0,none⟩)/\Hid (b.heap.size<=I)/\Hid (af wx I 104 #[.func (.func 65) #[] #[],.func (.func 77) #[] #[],.func (.func 79) #[] #[],.func (.func 76) #[] #[]])/\Hid (Below b.heap.size b wx))
 case first=>
  go_wp2_with fail
  go_region_held3 (fun V=>V.cell? ⟨w.heap.size,0,none⟩=some (.int .i64 3)/\V.cell? ⟨w.heap.size,1,none⟩=some (.int .u32 mg)/\V.cell? ⟨w.heap.size,2,none⟩=some (.int .i64 fr)/\V.cell? ⟨w.heap.size,3,none⟩=some (.int .i64 un)/\V.cell? ⟨w.heap.size,4,none⟩=some (.int .i64 de)/\V.cell? ⟨w.heap.size,5,none⟩=some (.int .i64 it))
   (first|exact j.out _ r.out|exact j.out _ r.out.drew|exact j.out _ ((r.out.alloc d.out _).drew)|exact j.out _ l|exact j.out _ (l.alloc l.size _)|exact j.out _ ((((l.setCell d.out _).setCell d.out _).setCell d.out _).setCell d.out _))
   (first
    |(go_at_call 44;((with_reducible refine wA.out.mono ?_);rintro e w' ⟨rfl,l,hz⟩;obtain⟨z0,B,z2,z3,Rv,Rx,Rw,aa⟩:=lS hz))
    |(go_at_call 44;((with_reducible refine tr.out.mono ?_);rintro e w' ⟨rfl,l⟩)))
  all_goals
   go_wp2_with fail
   go_meet;case rel=>
    first
     |exact⟨_,rfl,za l.size,za (af.new _ _ _),za (l.alloc l.size _)⟩
     |exact⟨_,rfl,d,za ((((hz.set 0 _).set 1 _).set 2 _).set 3 _),za ((((l.setCell d.out _).setCell d.out _).setCell d.out _).setCell d.out _)⟩
 case rest=>
  obtain⟨I,rfl,ab,Y,M⟩:=hcut;have Sg:Hid (∀V,Below wc.heap.size wc V->Below b.heap.size b V/\af V I 104 #[.func (.func 65) #[] #[],.func (.func 77) #[] #[],.func (.func 79) #[] #[],.func (.func 76) #[] #[]]):=za (fun V p=>⟨M.out.trans (p.mono M.out.size),Y.out.ah p Y.out.lt⟩);have U:Hid (∀V,Below b.heap.size b V->Below w.heap.size w V):=za (fun V p=>HO.out.trans (p.mono (by have:=HL.out;omega)));clear wA tr s u z x q A hI;obtain⟨s,u,z,x,q,A⟩:=j.out wc M.out;obtain⟨G,H,F⟩:=Ry.out wc M.out;obtain⟨z0,B,z2,z3,_⟩:=lS Y.out;go_wp2_with fail
  refine(HF.out _).mono ?_;rintro e w2 ⟨rfl,h⟩;obtain⟨W,kx⟩:=Sg.out w2 h;have dS:=za h;have RX:=za W;clear s u z x q A G H F z0 B z2 z3 h;obtain⟨s,u,z,x,q,A⟩:=j.out w2 W;obtain⟨G,H,F⟩:=Ry.out w2 W;obtain⟨z0,B,z2,z3,_⟩:=lS kx;clear W kx;cases Z with
  |false=>
   have y:=i.out.1 (by simp);injection y with gb hU;subst gb;subst hU;clear i;go_wp2;go_ret2
   exact⟨rfl,U.out _ RX.out⟩
  |true=>
   go_wp2_with fail
   refine(HY.out _).mono ?_;rintro e w3 ⟨rfl,h⟩;have ji:Hid (Below wc.heap.size wc w3):=za (dS.out.trans (h.mono dS.out.size));obtain⟨R,sQ⟩:=Sg.out w3 ji.out;have Rz:=za R;clear s u z x q A G H F z0 B z2 z3 h;obtain⟨s,u,z,x,q,A⟩:=j.out w3 R;obtain⟨G,H,F⟩:=Ry.out w3 R;obtain⟨z0,B,z2,z3,_⟩:=lS sQ;clear R sQ;rcases eF E with⟨e0,e1,e2⟩|⟨e0,e1,e2⟩
   ·subst e0;have O:=za (And.intro (i.out.2.2.1 (by simp) (by simp)) (i.out.2.2.2 (by simp) (by simp)));clear i;go_wp2_with fail
    refine(L.out _).mono ?_;rintro e w4 ⟨rfl,h⟩;have N:Hid (Below b.heap.size b w4):=za (Rz.out.trans (h.mono Rz.out.size));clear s u z x q A G H F z0 B z2 z3 h;by_cases K:y5=5
    ·have y:=O.out.1 K;injection y with gb hU;subst gb;subst hU;subst K;clear O;go_wp2;go_ret2
     exact⟨rfl,U.out _ (N.out.alloc N.out.size _)⟩
    have y:=O.out.2 K;injection y with gb hU;subst gb;subst hU;clear O;have h6:(y5==5)=false:=by simpa using K
    go_wp2;go_ret2
    exact⟨rfl,U.out _ (N.out.alloc N.out.size _)⟩
   have y:=i.out.2.1 (by simp) e0;injection y with gb hU;subst gb;subst hU;clear i;go_wp2;go_ret2
   exact⟨rfl,U.out _ Rz.out⟩
theorem TG (c:aR)(f:Fr)(d:c.ok)(b:f.ok)(i:c.fm=1\/f.body.size<=1000000)(w:World):
 Calls prog 28 #[c.val,f.val] w fun e w'=>e= .returned (.tuple #[.string (fM c f).1,.int .i64 (fM c f).2])/\Below w.heap.size w w':=by
 cases hr:c.right with
 |true=>
  have o:=(c.cQ).1 hr;rcases(by omega:c.fm=1\/c.fm=2\/c.fm=3)with h|h|h
  ·exact TD c f d b h hr w
  ·exact TE c f d b (i.resolve_left (by omega)) h hr w
  exact TF c f d b (i.resolve_left (by omega)) h hr w
 |false=>
  have k:fM c f=(ByteArray.empty,1):=by unfold fM;rw[zj (by simp[hr])]
  have l:=za (fun w=>i' c w);rw[hr]at l;rw[k];clear k hr d b i;unfold aR.val Fr.val at*;go_enter func28,ntmps28
  go_wp2_with fail
  refine(l.out _).mono ?_;rintro e m ⟨rfl,j⟩;have n:Below w.heap.size w m:=(((zq w.heap.size w).alloc (zf _) _).alloc (by simp) _).trans (j.mono (by simp;omega));clear j;go_wp2;go_ret2
  exact⟨rfl,n⟩
