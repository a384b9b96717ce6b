/- What the formats tell of bytes: their closures, by any meter or none. -/
import Derived.Test.YtdbmifjankgfpaaGreatDoorKA10
import Derived.Test.YtdbmifjankgfpaaGreatDoorKCoinN
import Derived.Test.YtdbmifjankgfpaaGreatDoorKA22
set_option linter.all false
set_option maxRecDepth 100000
set_option maxHeartbeats 4000000
open Go.Proofs.Tryz
namespace Go.Proofs.YtdbmifjankgfpaaGreatDoor
open Go.RowKit
variable {t R g:Nat}{w V w' V':World}
def xU:=@results63
def Met (w:World):Option Nat->Nat->Nat->Prop
 |none,_,_=>True
 |some g,t,R=>∃a u p,ra w g a u t p/\a<=9223372036854775807/\u+R<=a/\t+R<=9223372036854775807
def mJ :Option Nat->Value
 |none=> .pointer none
 |some g=> .pointer (some ⟨g,0,none⟩)
theorem Met.only {L:List Nat}{b:Option Nat}(h:Met w b t R)(d:ae L w w')(i:∀g,b=some g->g∉L):Met w' b t R:=by
 cases b with
 |none=>trivial
 |some g=>
  obtain⟨a,u,p,c,e⟩:=h;exact⟨a,u,p,c.only d (i g rfl),e⟩
theorem Met.lt {b:Option Nat}(h:Met w b t R):∀g,b=some g->g<w.heap.size:=by
 rintro g rfl;obtain⟨a,u,p,c,_⟩:=h;exact c.lt
theorem Met.less {b:Option Nat}{R':Nat}(h:Met w b t R)(e:R'<=R):Met w b t R':=by
 cases b with
 |none=>trivial
 |some g=>
  obtain⟨a,u,p,c,d,j,i⟩:=h;exact⟨a,u,p,c,d,by omega,by omega⟩
structure MS (mo:Option Nat)(t R:Nat)(W0 V:World):Prop where
 only:ae mo.toList W0 V
 met:Met V mo t R
theorem MS.refl {b:Option Nat}{t R:Nat}{w:World}(h:Met w b t R):MS b t R w w:=⟨ae.refl _ _,h⟩
theorem MS.below {c:Option Nat}{d:World}(h:MS c t R d V)(b:Below V.heap.size V V'):MS c t R d V':=
 ⟨h.only.trans' (ae.ah b (zg _)) (by simp),h.met.only (ae.ah b (zg _)) (by simp)⟩
theorem MS.alloc {b:Option Nat}{t R:Nat}{c V:World}(h:MS b t R c V)(o:Obj):MS b t R c (V.alloc o):=h.below ((zm _ _).alloc (zg _) _)
theorem MS.drew {b:Option Nat}{c:World}(h:MS b t R c V):MS b t R c V.drew:=h.below (zm _ _).drew
theorem MS.blk {b:Option Nat}{e:World}(h:MS b t R e V){ty:TypeId}{d:Array Value}(i:af e g ty d)(j:∀k,b=some k->k<g):af V g ty d:=
 i.only h.only (by
  intro c;cases b with
  |none=>simp at c
  |some k=>have:=j k rfl;simp at c;omega)
theorem MS.from {b:Option Nat}{c:World}(h:MS b t R c V)(d:ae b.toList w c):MS b t R w V:=⟨d.trans h.only,h.met⟩
theorem MS.size {mo:Option Nat}{W0:World}(h:MS mo t R W0 V):W0.heap.size<=V.heap.size:=h.only.size
theorem MS.put {c:Option Nat}(h:MS c t R w V){b o:Nat}(j:w.heap.size<=b)(i:∀k,c=some k->k<b)(v:Value):MS c t R w (V.setCell ⟨b,o,none⟩ v):=by
 refine⟨h.only.setCell (.inr (by simpa using j)) _, ?_⟩;have:=h.met;cases c with
 |none=>trivial
 |some g=>
  obtain⟨a,u,p,d,e⟩:=this;exact⟨a,u,p,d.dN (by have:=i g rfl;simp;omega) _,e⟩
theorem MS.dK {c:Option Nat}(h:MS c t R w V){b:Nat}(e:w.heap.size<=b)(d:∀k,c=some k->k<b)(j i l:Value):MS c t R w (((V.setCell ⟨b,0,none⟩ j).setCell ⟨b,1,none⟩ i).setCell ⟨b,2,none⟩ l):=((h.put e d _).put e d _).put e d _
theorem MS.wJ (h:MS none t R w V):Below w.heap.size w V:=h.only.below (zg _) (by simp)
theorem iO {c:World}{e d:TypeId}{a b:Array Value}(h:(w.alloc (.cells a e)).alloc (.cells b d)=c):c.heap.size=w.heap.size+2/\Below w.heap.size w c/\af c w.heap.size e a/\af c (w.heap.size+1) d b:=by
 subst h;refine⟨by simp,bT,(af.new w _ _).alloc _, ?_⟩;have:=af.new (w.alloc (.cells a e)) d b;rwa [zq]at this
def oB (x:Int×Fr×Nat×Nat):Value:= .tuple #[x.2.1.val,.int .i64 x.2.2.1,.int .i64 x.1]
theorem F3 (c:aI)(d:Option Nat)(t R:Nat)(s:ByteArray)(y:c.ok)(j:c.fm=1)(U:c.fr<=65536)(H:s.size<=1099511627776)(W w:World)(h:MS d t R W w):
 Calls prog 72 #[c.val,mJ d,.string s] w fun e w'=>e= .returned (oB (bg c s))/\MS d (t+(bg c s).2.2.2) (R-(bg c s).2.2.2) W w':=by
 have o:bg c s=((aW c.mg c.fr s).1,⟨0,(aW c.mg c.fr s).2.1,(aW c.mg c.fr s).2.2.1⟩,(aW c.mg c.fr s).2.2.2,0):=by unfold bg;rw[zi j]
 have p:Hid (∀b V,MS d t R b V->Calls prog 73 #[.int .u32 c.mg,.int .i64 c.fr,.string s] V fun e w'=>e= .returned (.tuple #[.agg #[.int .u64 (bg c s).2.1.id,.string (bg c s).2.1.nm,.string (bg c s).2.1.body],.int .i64 (bg c s).2.2.1,.int .i64 (bg c s).1])/\MS d (t+(bg c s).2.2.2) (R-(bg c s).2.2.2) b w'):=za (fun b V z=>
  (Jt c.mg c.fr s V y.mg H y.fr (.inr (by omega))).mono fun e w' ⟨j,N⟩=>by rw[o];exact⟨j,z.below N⟩)
 obtain⟨b,n⟩:∃b,(w.alloc (.cells #[.int .i64 c.fm,.int .u32 c.mg,.int .i64 c.fr,.int .i64 c.un,.int .i64 c.de,.int .i64 c.it] 24)).alloc (.cells #[.int .u64 0,.string ⟨#[]⟩,.string ⟨#[]⟩] 84)=b:=⟨_,rfl⟩
 have i:=iO n;have L:Hid (ae d.toList W b):=za (h.only.trans ((ae.ah i.2.1 (zg _)).mono (by simp)));have E:Hid (af b (w.heap.size+1) 84 #[.int .u64 0,.string ⟨#[]⟩,.string ⟨#[]⟩]):=za i.2.2.2;have B:Hid (MS d t R b b):=za (MS.refl (h.met.only (ae.ah i.2.1 (zg _)) (by simp)));have x:Hid (∀k,d=some k->k<w.heap.size+1):=za (fun k C=>by have:=h.met.lt k C;omega);have D:Hid (W.heap.size<=w.heap.size+1):=za (by have:=h.size;omega);have K:=za n;have u:=za o;clear n i h o j;unfold aI.val;generalize mJ d=O at*;obtain⟨X,r⟩:∃X,bg c s=X:=⟨_,rfl⟩
 rw[r]at u p⊢;clear r;obtain⟨F,⟨M,G,J⟩,A,m⟩:=X;simp only at p u;go_enter func72,ntmps72
 go_wp2_with fail
 rw[K.out];refine(p.out _ _ B.out).mono ?_;rintro e S ⟨rfl,l⟩;have q:=za (l.blk E.out x.out);have I:=za (l.from L.out);clear l;obtain⟨g0,g1,g2,f0,f1,f2⟩:=a8 q.out;go_wp2;refine zj (v:= .tuple #[.agg #[.int .u64 M,.string G,.string J],.int .i64 A,.int .i64 F]) (by simp[results,results72,go_sem,dO q.out]) rfl ?_;exact⟨rfl,I.out.dK D.out x.out _ _ _⟩
theorem F4 (c:aI)(d:Option Nat)(t R:Nat)(s:ByteArray)(y:c.ok)(j:c.fm=2)(S:c.fr<=65536)(U:s.size<=1099511627776)(W w:World)(h:MS d t R W w):
 Calls prog 77 #[c.val,mJ d,.string s] w fun e w'=>e= .returned (oB (bg c s))/\MS d (t+(bg c s).2.2.2) (R-(bg c s).2.2.2) W w':=by
 have o:bg c s=((aj c.fr s).1,⟨(aj c.fr s).2.1,ByteArray.empty,(aj c.fr s).2.2.1⟩,(aj c.fr s).2.2.2,0):=by unfold bg;rw[zh (by omega),zi j]
 have p:Hid (∀b V,MS d t R b V->Calls prog 78 #[.int .i64 c.fr,.string s] V fun e w'=>e= .returned (.tuple #[.agg #[.int .u64 (bg c s).2.1.id,.string (bg c s).2.1.nm,.string (bg c s).2.1.body],.int .i64 (bg c s).2.2.1,.int .i64 (bg c s).1])/\MS d (t+(bg c s).2.2.2) (R-(bg c s).2.2.2) b w'):=za (fun b V z=>
  (kv c.fr s V (by omega) y.fr.1 y.fr.2).mono fun e w' ⟨j,M⟩=>by rw[o];exact⟨j,z.below M⟩)
 obtain⟨b,n⟩:∃b,(w.alloc (.cells #[.int .i64 c.fm,.int .u32 c.mg,.int .i64 c.fr,.int .i64 c.un,.int .i64 c.de,.int .i64 c.it] 24)).alloc (.cells #[.int .u64 0,.string ⟨#[]⟩,.string ⟨#[]⟩] 84)=b:=⟨_,rfl⟩
 have i:=iO n;have K:Hid (ae d.toList W b):=za (h.only.trans ((ae.ah i.2.1 (zg _)).mono (by simp)));have E:Hid (af b (w.heap.size+1) 84 #[.int .u64 0,.string ⟨#[]⟩,.string ⟨#[]⟩]):=za i.2.2.2;have B:Hid (MS d t R b b):=za (MS.refl (h.met.only (ae.ah i.2.1 (zg _)) (by simp)));have x:Hid (∀k,d=some k->k<w.heap.size+1):=za (fun k C=>by have:=h.met.lt k C;omega);have D:Hid (W.heap.size<=w.heap.size+1):=za (by have:=h.size;omega);have J:=za n;have u:=za o;clear n i h o j;unfold aI.val;generalize mJ d=N at*;obtain⟨X,r⟩:∃X,bg c s=X:=⟨_,rfl⟩
 rw[r]at u p⊢;clear r;obtain⟨F,⟨L,G,I⟩,A,m⟩:=X;simp only at p u;go_enter func77,ntmps77
 go_wp2_with fail
 rw[J.out];refine(p.out _ _ B.out).mono ?_;rintro e O ⟨rfl,l⟩;have q:=za (l.blk E.out x.out);have H:=za (l.from K.out);clear l;obtain⟨g0,g1,g2,f0,f1,f2⟩:=a8 q.out;go_wp2;refine zj (v:= .tuple #[.agg #[.int .u64 L,.string G,.string I],.int .i64 A,.int .i64 F]) (by simp[results,results77,go_sem,dO q.out]) rfl ?_;exact⟨rfl,H.out.dK D.out x.out _ _ _⟩
theorem F5 (c:aI)(b:Option Nat)(t R:Nat)(s:ByteArray)(j:c.ok)(i:c.fm=3)(hf:c.fr<=65536)(hu:c.un<=65536)(Y:70000<=R)(hs:s.size<=1099511627776)(W w:World)(h:MS b t R W w):
 Calls prog 82 #[c.val,mJ b,.string s] w fun e w'=>e= .returned (oB (bg c s))/\MS b (t+(bg c s).2.2.2) (R-(bg c s).2.2.2) W w':=by
 have x:bg c s=((aQ c.fr c.un s).1,⟨(aQ c.fr c.un s).2.1,ByteArray.empty,(aQ c.fr c.un s).2.2.1⟩,(aQ c.fr c.un s).2.2.2.1,(aQ c.fr c.un s).2.2.2.2):=by unfold bg;rw[zh (by omega),zh (by omega)]
 have z:Hid (∀d V,MS b t R d V->Calls prog 83 #[.int .i64 c.fr,.int .i64 c.un,mJ b,.string s] V fun e w'=>e= .returned (.tuple #[.agg #[.int .u64 (bg c s).2.1.id,.string (bg c s).2.1.nm,.string (bg c s).2.1.body],.int .i64 (bg c s).2.2.1,.int .i64 (bg c s).1])/\MS b (t+(bg c s).2.2.2) (R-(bg c s).2.2.2) d w'):=za (fun d V n=>by
  rw[x];cases b with
  |none=>exact(vU c.fr c.un s V (by omega) j.fr.1 j.fr.2).mono fun e w' ⟨i,y⟩=>⟨i,⟨n.only.trans' (ae.ah y (zg _)) (by simp),trivial⟩⟩
  |some g=>
   obtain⟨a,u,p,k1,k2,k3,k4⟩:=n.met;have Z:=IW c.fr c.un s;exact(vX c.fr c.un g a u t p s V (by omega) j.fr.1 j.fr.2 k1 k2 (by omega) (by omega) (by omega)).mono fun e w' ⟨i,⟨q,y⟩,U⟩=>⟨i,⟨n.only.trans U,⟨a,_,q,y,k2,by simp only;omega,by simp only;omega⟩⟩⟩)
 obtain⟨d,r⟩:∃d,(w.alloc (.cells #[.int .i64 c.fm,.int .u32 c.mg,.int .i64 c.fr,.int .i64 c.un,.int .i64 c.de,.int .i64 c.it] 24)).alloc (.cells #[.int .u64 0,.string ⟨#[]⟩,.string ⟨#[]⟩] 84)=d:=⟨_,rfl⟩
 have l:=iO r;have N:Hid (ae b.toList W d):=za (h.only.trans ((ae.ah l.2.1 (zg _)).mono (by simp)));have H:Hid (af d (w.heap.size+1) 84 #[.int .u64 0,.string ⟨#[]⟩,.string ⟨#[]⟩]):=za l.2.2.2;have F:Hid (MS b t R d d):=za (MS.refl (h.met.only (ae.ah l.2.1 (zg _)) (by simp)));have D:Hid (∀k,b=some k->k<w.heap.size+1):=za (fun k G=>by have:=h.met.lt k G;omega);have S:Hid (W.heap.size<=w.heap.size+1):=za (by have:=h.size;omega);have M:=za r;have C:=za x;clear r l h x i;unfold aI.val;generalize mJ b=mv at*;obtain⟨X,B⟩:∃X,bg c s=X:=⟨_,rfl⟩
 rw[B]at C z⊢;clear B;obtain⟨I,⟨O,J,L⟩,E,m⟩:=X;simp only at z C;go_enter func82,ntmps82
 go_wp2_with fail
 rw[M.out];refine(z.out _ _ F.out).mono ?_;rintro e w1 ⟨rfl,o⟩;have A:=za (o.blk H.out D.out);have K:=za (o.from N.out);clear o;obtain⟨g0,g1,g2,f0,f1,f2⟩:=a8 A.out;go_wp2;refine zj (v:= .tuple #[.agg #[.int .u64 O,.string J,.string L],.int .i64 E,.int .i64 I]) (by simp[results,results82,go_sem,dO A.out]) rfl ?_;exact⟨rfl,K.out.dK S.out D.out _ _ _⟩
theorem af.ms {c:Option Nat}{ty:TypeId}{b:Array Value}(h:af V g ty b)(d:MS c t R V V')(e:∀k,c=some k->k<g):af V' g ty b:=d.blk h e
theorem Met.below {b:Option Nat}(h:Met w b t R)(c:Below w.heap.size w w'):Met w' b t R:=h.only (ae.ah c (zg _)) (by simp)
theorem XN (c:aI)(d:Option Nat)(t R:Nat)(s:ByteArray)(hc:c.ok)(i:c.fm=1)(hr:c.right=true)(hR:70000<=R)(hs:s.size<=1099511627776)(W w:World)(J:MS d t R W w):
 Calls prog 63 #[c.val,mJ d,.string s] w fun e w'=>e= .returned (oB (aw c s))/\MS d (t+(aw c s).2.2.2) (R-(aw c s).2.2.2) W w':=by
 have Oe:=(c.bB).1 hr;have C:=za (F3 c d t R s hc i (by omega) hs);clear Oe hc hR;have hI:=Jc;have LF:=Nt;unfold l7 Vt iD at hI;unfold Vt iD at LF;have HR:=za (fun w=>eW c w);rw[hr]at HR;have S9:=za (bL hr s);rw[S9.out];clear S9;have N:=za (vh c s);unfold aI.val at*;obtain⟨X,Bq⟩:∃X,bg c s=X:=⟨_,rfl⟩
 rw[Bq]at C N⊢;clear Bq;obtain⟨y,⟨F,A,D⟩,L,m⟩:=X;simp only at C N;obtain⟨fm,G,H,z,B,it⟩:=c;simp only at i;subst i;simp only at*;generalize mJ d=Z at*;obtain⟨h,S⟩:∃h,(w.alloc (.cells #[.int .i64 1,.int .u32 G,.int .i64 H,.int .i64 z,.int .i64 B,.int .i64 it] 24)).alloc (.cells #[.int .u64 0,.string ⟨#[]⟩,.string ⟨#[]⟩] 84)=h:=⟨_,rfl⟩
 have I:=iO S;have HO:Hid (ae d.toList W h):=za (J.only.trans ((ae.ah I.2.1 (zg _)).mono (by simp)));have HB:Hid (af h (w.heap.size+1) 84 #[.int .u64 0,.string ⟨#[]⟩,.string ⟨#[]⟩]):=za I.2.2.2;have HM:Hid (Met h d t R):=za (J.met.only (ae.ah I.2.1 (zg _)) (by simp));have HG:Hid (∀k,d=some k->k<w.heap.size):=za (J.met.lt);have HL:Hid (W.heap.size<=w.heap.size/\h.heap.size=w.heap.size+2):=za ⟨J.size,I.1⟩;have o:Hid (∀V t R,MS d t R h V->V.cell? ⟨w.heap.size,0,none⟩=some (.int .i64 1)/\V.cell? ⟨w.heap.size,1,none⟩=some (.int .u32 G)/\V.cell? ⟨w.heap.size,2,none⟩=some (.int .i64 H)/\V.cell? ⟨w.heap.size,3,none⟩=some (.int .i64 z)/\V.cell? ⟨w.heap.size,4,none⟩=some (.int .i64 B)/\V.cell? ⟨w.heap.size,5,none⟩=some (.int .i64 it)):=za (fun V t R l=>by
  have x:=l.blk I.2.2.1 HG.out;exact⟨x.cell 0,x.cell 1,x.cell 2,x.cell 3,x.cell 4,x.cell 5⟩)
 have cw:=za S;clear S I J;go_enter func63,ntmps63
 go_wp2_with fail
 rw[cw.out];refine(HR.out _).mono ?_;rintro e u ⟨rfl,aF⟩;have q:Hid (MS d t R h u):=za ((MS.refl HM.out).below aF);clear aF;obtain⟨q0,q1,q2,q3,q4,q5⟩:=o.out u _ _ q.out;have hZ:=za q.out.size;have E:Hid (∀V,MS d t R h V->∀k,d=some k->k<V.heap.size):=za (fun V l=>l.met.lt);have O:Hid (Calls prog 46 #[] (u.alloc (.cells #[.int .u64 0,.string ⟨#[]⟩,.string ⟨#[]⟩] 84)).drew fun e w'=>e= .returned l7/\MS d t R h w'/\af w' u.heap.size 84 #[.int .u64 0,.string ⟨#[]⟩,.string ⟨#[]⟩]):=za ((cB _).mono fun e w' ⟨i,j⟩=>⟨i,((q.out.alloc _).drew).below j,(af.new u _ _).drew.ag j (by simp)⟩);have Y:Hid (Calls prog 46 #[] u.drew fun e w'=>e= .returned l7/\MS d t R h w'):=za ((cB _).mono fun e w' ⟨i,j⟩=>⟨i,q.out.drew.below j⟩);have Wo:Hid (∀V,MS d t R h V->Calls prog 72 #[.agg #[.int .i64 1,.int .u32 G,.int .i64 H,.int .i64 z,.int .i64 B,.int .i64 it],Z,.string s] (V.alloc (.cells #[.int .u64 0,.string ⟨#[]⟩,.string ⟨#[]⟩] 84)) fun e w'=>e= .returned (.tuple #[.agg #[.int .u64 F,.string A,.string D],.int .i64 L,.int .i64 y])/\MS d (t+m) (R-m) h w'/\af w' V.heap.size 84 #[.int .u64 0,.string ⟨#[]⟩,.string ⟨#[]⟩]):=za (fun V l=>
  (C.out _ _ (MS.refl (l.alloc _).met)).mono fun e w' ⟨i,j⟩=>⟨i,j.from (l.alloc _).only,(af.new V _ _).ms j (E.out V l)⟩)
 have Sl:Hid (∀V,MS d t R h V->af V u.heap.size 84 #[.int .u64 0,.string ⟨#[]⟩,.string ⟨#[]⟩]->Calls prog 72 #[.agg #[.int .i64 1,.int .u32 G,.int .i64 H,.int .i64 z,.int .i64 B,.int .i64 it],Z,.string s] V fun e w'=>e= .returned (.tuple #[.agg #[.int .u64 F,.string A,.string D],.int .i64 L,.int .i64 y])/\MS d (t+m) (R-m) h w'/\af w' u.heap.size 84 #[.int .u64 0,.string ⟨#[]⟩,.string ⟨#[]⟩]):=za (fun V l x=>
  (C.out _ _ (MS.refl l.met)).mono fun e w' ⟨i,j⟩=>⟨i,j.from l.only,x.ms j (E.out u q.out)⟩)
 have rB:Hid (∀V,MS d t R h V->Calls prog 72 #[.agg #[.int .i64 1,.int .u32 G,.int .i64 H,.int .i64 z,.int .i64 B,.int .i64 it],Z,.string s] V fun e w'=>e= .returned (.tuple #[.agg #[.int .u64 F,.string A,.string D],.int .i64 L,.int .i64 y])/\MS d (t+m) (R-m) h w'):=za (fun V l=>
  (C.out _ _ (MS.refl l.met)).mono fun e w' ⟨i,j⟩=>⟨i,j.from l.only⟩)
 unfold l7 iD at O Y;clear C HR;go_upto_region 3 with fail
 go_cut [9,10,11] (fun v n er wx=>∃M:Nat,v= .pointer (some ⟨M,0,none⟩)/\n= .int .i64 L/\er= .int .i64 y/\Hid (h.heap.size<=M)/\Hid (af wx M 84 #[.int .u64 F,.string A,.string D])/\Hid (MS d (t+m) (R-m) h wx))
 case first=>
  go_wp2_with fail
  go_region_held3 (fun V=>V.cell? ⟨w.heap.size,0,none⟩=some (.int .i64 1)/\V.cell? ⟨w.heap.size,1,none⟩=some (.int .u32 G)/\V.cell? ⟨w.heap.size,2,none⟩=some (.int .i64 H)/\V.cell? ⟨w.heap.size,3,none⟩=some (.int .i64 z)/\V.cell? ⟨w.heap.size,4,none⟩=some (.int .i64 B)/\V.cell? ⟨w.heap.size,5,none⟩=some (.int .i64 it))
   (first|exact o.out _ _ _ q.out|exact o.out _ _ _ q.out.drew|exact o.out _ _ _ ((q.out.alloc _).drew)|exact o.out _ _ _ r|exact o.out _ _ _ p|exact o.out _ _ _ (p.alloc _)|exact o.out _ _ _ (r.alloc _)|exact o.out _ _ _ (r.dK hZ.out (E.out _ q.out) _ _ _)|exact o.out _ _ _ (r.dK p.size (E.out _ p) _ _ _))
   (first
    |(go_at_call 72;((with_reducible refine(Sl.out _ p hz).mono ?_);rintro e w2 ⟨rfl,r,K⟩;obtain⟨z0,z1,z2,OI,OJ,OH⟩:=a8 K))
    |(go_at_call 72;((with_reducible refine(Wo.out _ p).mono ?_);rintro e w2 ⟨rfl,r,K⟩;obtain⟨z0,z1,z2,OI,OJ,OH⟩:=a8 K))
    |(go_at_call 72;((with_reducible refine(rB.out _ p).mono ?_);rintro e w2 ⟨rfl,r⟩))
    |(go_at_call 46;((with_reducible refine O.out.mono ?_);rintro e w' ⟨rfl,p,hz⟩;obtain⟨z0,z1,z2,OI,OJ,OH⟩:=a8 hz))
    |(go_at_call 46;((with_reducible refine Y.out.mono ?_);rintro e w' ⟨rfl,p⟩)))
  all_goals
   go_wp2_with fail
   go_meet;case rel=>
    first
     |exact⟨_,rfl,rfl,rfl,za r.size,za (af.new _ _ _),za (r.alloc _)⟩
     |exact⟨_,rfl,rfl,rfl,hZ,za (kK K _ _ _),za (r.dK hZ.out (E.out _ q.out) _ _ _)⟩
     |exact⟨_,rfl,rfl,rfl,za p.size,za (kK K _ _ _),za (r.dK p.size (E.out _ p) _ _ _)⟩
 case rest=>
  obtain⟨M,rfl,rfl,rfl,ab,DT,ov⟩:=hcut;have nS:Hid (af wc (w.heap.size+1) 84 #[.int .u64 0,.string ⟨#[]⟩,.string ⟨#[]⟩]):=za (ov.out.blk HB.out (fun k hk=>by have:=HG.out k hk;omega));have Wn:Hid (MS d (t+m) (R-m) W wc):=za (ov.out.from HO.out);have Wm:Hid (W.heap.size<=w.heap.size+1):=za (by have:=HL.out;omega);have GA:Hid (∀k,d=some k->k<w.heap.size+1):=za (fun k hk=>by have:=HG.out k hk;omega);obtain⟨g0,g1,g2,f0,f1,f2⟩:=a8 nS.out;obtain⟨k0,k1,k2,_,_,_⟩:=a8 DT.out;clear O Y Wo Sl rB o q0 q1 q2 q3 q4 q5 hI LF;rcases eY y with⟨U,i,j⟩|⟨U,i,j⟩
  ·subst U;go_wp2;refine zj (v:= .tuple #[.agg #[.int .u64 F,.string A,.string D],.int .i64 L,.int .i64 0]) (by simp[results,xU,go_sem,dO nS.out]) rfl ?_;exact⟨rfl,Wn.out.dK Wm.out GA.out _ _ _⟩
  obtain⟨aa,rfl⟩:=N.out U;obtain⟨rfl,rfl,rfl⟩:F=0/\A=ByteArray.empty/\D=ByteArray.empty:=by injection aa with a b c;exact⟨a,b,c⟩
  clear N;go_wp2;refine zj (v:= .tuple #[.agg #[.int .u64 0,.string ByteArray.empty,.string ByteArray.empty],.int .i64 0,.int .i64 y]) (by simp[results,xU,go_sem,dO nS.out,oA]) rfl ?_;exact⟨rfl,Wn.out.dK Wm.out GA.out _ _ _⟩
theorem XO (c:aI)(d:Option Nat)(t R:Nat)(s:ByteArray)(hc:c.ok)(i:c.fm=2)(hr:c.right=true)(hR:70000<=R)(hs:s.size<=1099511627776)(W w:World)(J:MS d t R W w):
 Calls prog 63 #[c.val,mJ d,.string s] w fun e w'=>e= .returned (oB (aw c s))/\MS d (t+(aw c s).2.2.2) (R-(aw c s).2.2.2) W w':=by
 have Oe:=(c.bB).1 hr;have C:=za (F4 c d t R s hc i (by omega) hs);clear Oe hc hR;have hI:=Jd;have LF:=Nv;unfold l7 Vu iD at hI;unfold Vu iD at LF;have HR:=za (fun w=>eW c w);rw[hr]at HR;have S9:=za (bL hr s);rw[S9.out];clear S9;have N:=za (vh c s);unfold aI.val at*;obtain⟨X,Bq⟩:∃X,bg c s=X:=⟨_,rfl⟩
 rw[Bq]at C N⊢;clear Bq;obtain⟨y,⟨F,A,D⟩,L,m⟩:=X;simp only at C N;obtain⟨fm,G,H,z,B,it⟩:=c;simp only at i;subst i;simp only at*;generalize mJ d=Z at*;obtain⟨h,S⟩:∃h,(w.alloc (.cells #[.int .i64 2,.int .u32 G,.int .i64 H,.int .i64 z,.int .i64 B,.int .i64 it] 24)).alloc (.cells #[.int .u64 0,.string ⟨#[]⟩,.string ⟨#[]⟩] 84)=h:=⟨_,rfl⟩
 have I:=iO S;have HO:Hid (ae d.toList W h):=za (J.only.trans ((ae.ah I.2.1 (zg _)).mono (by simp)));have HB:Hid (af h (w.heap.size+1) 84 #[.int .u64 0,.string ⟨#[]⟩,.string ⟨#[]⟩]):=za I.2.2.2;have HM:Hid (Met h d t R):=za (J.met.only (ae.ah I.2.1 (zg _)) (by simp));have HG:Hid (∀k,d=some k->k<w.heap.size):=za (J.met.lt);have HL:Hid (W.heap.size<=w.heap.size/\h.heap.size=w.heap.size+2):=za ⟨J.size,I.1⟩;have o:Hid (∀V t R,MS d t R h V->V.cell? ⟨w.heap.size,0,none⟩=some (.int .i64 2)/\V.cell? ⟨w.heap.size,1,none⟩=some (.int .u32 G)/\V.cell? ⟨w.heap.size,2,none⟩=some (.int .i64 H)/\V.cell? ⟨w.heap.size,3,none⟩=some (.int .i64 z)/\V.cell? ⟨w.heap.size,4,none⟩=some (.int .i64 B)/\V.cell? ⟨w.heap.size,5,none⟩=some (.int .i64 it)):=za (fun V t R l=>by
  have x:=l.blk I.2.2.1 HG.out;exact⟨x.cell 0,x.cell 1,x.cell 2,x.cell 3,x.cell 4,x.cell 5⟩)
 have cw:=za S;clear S I J;go_enter func63,ntmps63
 go_wp2_with fail
 rw[cw.out];refine(HR.out _).mono ?_;rintro e u ⟨rfl,aF⟩;have q:Hid (MS d t R h u):=za ((MS.refl HM.out).below aF);clear aF;obtain⟨q0,q1,q2,q3,q4,q5⟩:=o.out u _ _ q.out;have hZ:=za q.out.size;have E:Hid (∀V,MS d t R h V->∀k,d=some k->k<V.heap.size):=za (fun V l=>l.met.lt);have O:Hid (Calls prog 46 #[] (u.alloc (.cells #[.int .u64 0,.string ⟨#[]⟩,.string ⟨#[]⟩] 84)).drew fun e w'=>e= .returned l7/\MS d t R h w'/\af w' u.heap.size 84 #[.int .u64 0,.string ⟨#[]⟩,.string ⟨#[]⟩]):=za ((cB _).mono fun e w' ⟨i,j⟩=>⟨i,((q.out.alloc _).drew).below j,(af.new u _ _).drew.ag j (by simp)⟩);have Y:Hid (Calls prog 46 #[] u.drew fun e w'=>e= .returned l7/\MS d t R h w'):=za ((cB _).mono fun e w' ⟨i,j⟩=>⟨i,q.out.drew.below j⟩);have Wo:Hid (∀V,MS d t R h V->Calls prog 77 #[.agg #[.int .i64 2,.int .u32 G,.int .i64 H,.int .i64 z,.int .i64 B,.int .i64 it],Z,.string s] (V.alloc (.cells #[.int .u64 0,.string ⟨#[]⟩,.string ⟨#[]⟩] 84)) fun e w'=>e= .returned (.tuple #[.agg #[.int .u64 F,.string A,.string D],.int .i64 L,.int .i64 y])/\MS d (t+m) (R-m) h w'/\af w' V.heap.size 84 #[.int .u64 0,.string ⟨#[]⟩,.string ⟨#[]⟩]):=za (fun V l=>
  (C.out _ _ (MS.refl (l.alloc _).met)).mono fun e w' ⟨i,j⟩=>⟨i,j.from (l.alloc _).only,(af.new V _ _).ms j (E.out V l)⟩)
 have Sl:Hid (∀V,MS d t R h V->af V u.heap.size 84 #[.int .u64 0,.string ⟨#[]⟩,.string ⟨#[]⟩]->Calls prog 77 #[.agg #[.int .i64 2,.int .u32 G,.int .i64 H,.int .i64 z,.int .i64 B,.int .i64 it],Z,.string s] V fun e w'=>e= .returned (.tuple #[.agg #[.int .u64 F,.string A,.string D],.int .i64 L,.int .i64 y])/\MS d (t+m) (R-m) h w'/\af w' u.heap.size 84 #[.int .u64 0,.string ⟨#[]⟩,.string ⟨#[]⟩]):=za (fun V l x=>
  (C.out _ _ (MS.refl l.met)).mono fun e w' ⟨i,j⟩=>⟨i,j.from l.only,x.ms j (E.out u q.out)⟩)
 have rB:Hid (∀V,MS d t R h V->Calls prog 77 #[.agg #[.int .i64 2,.int .u32 G,.int .i64 H,.int .i64 z,.int .i64 B,.int .i64 it],Z,.string s] V fun e w'=>e= .returned (.tuple #[.agg #[.int .u64 F,.string A,.string D],.int .i64 L,.int .i64 y])/\MS d (t+m) (R-m) h w'):=za (fun V l=>
  (C.out _ _ (MS.refl l.met)).mono fun e w' ⟨i,j⟩=>⟨i,j.from l.only⟩)
 unfold l7 iD at O Y;clear C HR;go_upto_region 3 with fail
 go_cut [9,10,11] (fun v n er wx=>∃M:Nat,v= .pointer (some ⟨M,0,none⟩)/\n= .int .i64 L/\er= .int .i64 y/\Hid (h.heap.size<=M)/\Hid (af wx M 84 #[.int .u64 F,.string A,.string D])/\Hid (MS d (t+m) (R-m) h wx))
 case first=>
  go_wp2_with fail
  go_region_held3 (fun V=>V.cell? ⟨w.heap.size,0,none⟩=some (.int .i64 2)/\V.cell? ⟨w.heap.size,1,none⟩=some (.int .u32 G)/\V.cell? ⟨w.heap.size,2,none⟩=some (.int .i64 H)/\V.cell? ⟨w.heap.size,3,none⟩=some (.int .i64 z)/\V.cell? ⟨w.heap.size,4,none⟩=some (.int .i64 B)/\V.cell? ⟨w.heap.size,5,none⟩=some (.int .i64 it))
   (first|exact o.out _ _ _ q.out|exact o.out _ _ _ q.out.drew|exact o.out _ _ _ ((q.out.alloc _).drew)|exact o.out _ _ _ r|exact o.out _ _ _ p|exact o.out _ _ _ (p.alloc _)|exact o.out _ _ _ (r.alloc _)|exact o.out _ _ _ (r.dK hZ.out (E.out _ q.out) _ _ _)|exact o.out _ _ _ (r.dK p.size (E.out _ p) _ _ _))
   (first
    |(go_at_call 77;((with_reducible refine(Sl.out _ p hz).mono ?_);rintro e w2 ⟨rfl,r,K⟩;obtain⟨z0,z1,z2,OI,OJ,OH⟩:=a8 K))
    |(go_at_call 77;((with_reducible refine(Wo.out _ p).mono ?_);rintro e w2 ⟨rfl,r,K⟩;obtain⟨z0,z1,z2,OI,OJ,OH⟩:=a8 K))
    |(go_at_call 77;((with_reducible refine(rB.out _ p).mono ?_);rintro e w2 ⟨rfl,r⟩))
    |(go_at_call 46;((with_reducible refine O.out.mono ?_);rintro e w' ⟨rfl,p,hz⟩;obtain⟨z0,z1,z2,OI,OJ,OH⟩:=a8 hz))
    |(go_at_call 46;((with_reducible refine Y.out.mono ?_);rintro e w' ⟨rfl,p⟩)))
  all_goals
   go_wp2_with fail
   go_meet;case rel=>
    first
     |exact⟨_,rfl,rfl,rfl,za r.size,za (af.new _ _ _),za (r.alloc _)⟩
     |exact⟨_,rfl,rfl,rfl,hZ,za (kK K _ _ _),za (r.dK hZ.out (E.out _ q.out) _ _ _)⟩
     |exact⟨_,rfl,rfl,rfl,za p.size,za (kK K _ _ _),za (r.dK p.size (E.out _ p) _ _ _)⟩
 case rest=>
  obtain⟨M,rfl,rfl,rfl,ab,DT,ov⟩:=hcut;have nS:Hid (af wc (w.heap.size+1) 84 #[.int .u64 0,.string ⟨#[]⟩,.string ⟨#[]⟩]):=za (ov.out.blk HB.out (fun k hk=>by have:=HG.out k hk;omega));have Wn:Hid (MS d (t+m) (R-m) W wc):=za (ov.out.from HO.out);have Wm:Hid (W.heap.size<=w.heap.size+1):=za (by have:=HL.out;omega);have GA:Hid (∀k,d=some k->k<w.heap.size+1):=za (fun k hk=>by have:=HG.out k hk;omega);obtain⟨g0,g1,g2,f0,f1,f2⟩:=a8 nS.out;obtain⟨k0,k1,k2,_,_,_⟩:=a8 DT.out;clear O Y Wo Sl rB o q0 q1 q2 q3 q4 q5 hI LF;rcases eY y with⟨U,i,j⟩|⟨U,i,j⟩
  ·subst U;go_wp2;refine zj (v:= .tuple #[.agg #[.int .u64 F,.string A,.string D],.int .i64 L,.int .i64 0]) (by simp[results,xU,go_sem,dO nS.out]) rfl ?_;exact⟨rfl,Wn.out.dK Wm.out GA.out _ _ _⟩
  obtain⟨aa,rfl⟩:=N.out U;obtain⟨rfl,rfl,rfl⟩:F=0/\A=ByteArray.empty/\D=ByteArray.empty:=by injection aa with a b c;exact⟨a,b,c⟩
  clear N;go_wp2;refine zj (v:= .tuple #[.agg #[.int .u64 0,.string ByteArray.empty,.string ByteArray.empty],.int .i64 0,.int .i64 y]) (by simp[results,xU,go_sem,dO nS.out,oA]) rfl ?_;exact⟨rfl,Wn.out.dK Wm.out GA.out _ _ _⟩
theorem XP (c:aI)(d:Option Nat)(t R:Nat)(s:ByteArray)(hc:c.ok)(i:c.fm=3)(hr:c.right=true)(hR:70000<=R)(hs:s.size<=1099511627776)(W w:World)(J:MS d t R W w):
 Calls prog 63 #[c.val,mJ d,.string s] w fun e w'=>e= .returned (oB (aw c s))/\MS d (t+(aw c s).2.2.2) (R-(aw c s).2.2.2) W w':=by
 have Oe:=(c.bB).1 hr;have C:=za (F5 c d t R s hc i (by omega) (by omega) hR hs);clear Oe hc hR;have hI:=Je;have LF:=Ny;unfold l7 Vv iD at hI;unfold Vv iD at LF;have HR:=za (fun w=>eW c w);rw[hr]at HR;have S9:=za (bL hr s);rw[S9.out];clear S9;have N:=za (vh c s);unfold aI.val at*;obtain⟨X,Bq⟩:∃X,bg c s=X:=⟨_,rfl⟩
 rw[Bq]at C N⊢;clear Bq;obtain⟨y,⟨F,A,D⟩,L,m⟩:=X;simp only at C N;obtain⟨fm,G,H,z,B,it⟩:=c;simp only at i;subst i;simp only at*;generalize mJ d=Z at*;obtain⟨h,S⟩:∃h,(w.alloc (.cells #[.int .i64 3,.int .u32 G,.int .i64 H,.int .i64 z,.int .i64 B,.int .i64 it] 24)).alloc (.cells #[.int .u64 0,.string ⟨#[]⟩,.string ⟨#[]⟩] 84)=h:=⟨_,rfl⟩
 have I:=iO S;have HO:Hid (ae d.toList W h):=za (J.only.trans ((ae.ah I.2.1 (zg _)).mono (by simp)));have HB:Hid (af h (w.heap.size+1) 84 #[.int .u64 0,.string ⟨#[]⟩,.string ⟨#[]⟩]):=za I.2.2.2;have HM:Hid (Met h d t R):=za (J.met.only (ae.ah I.2.1 (zg _)) (by simp));have HG:Hid (∀k,d=some k->k<w.heap.size):=za (J.met.lt);have HL:Hid (W.heap.size<=w.heap.size/\h.heap.size=w.heap.size+2):=za ⟨J.size,I.1⟩;have o:Hid (∀V t R,MS d t R h V->V.cell? ⟨w.heap.size,0,none⟩=some (.int .i64 3)/\V.cell? ⟨w.heap.size,1,none⟩=some (.int .u32 G)/\V.cell? ⟨w.heap.size,2,none⟩=some (.int .i64 H)/\V.cell? ⟨w.heap.size,3,none⟩=some (.int .i64 z)/\V.cell? ⟨w.heap.size,4,none⟩=some (.int .i64 B)/\V.cell? ⟨w.heap.size,5,none⟩=some (.int .i64 it)):=za (fun V t R l=>by
  have x:=l.blk I.2.2.1 HG.out;exact⟨x.cell 0,x.cell 1,x.cell 2,x.cell 3,x.cell 4,x.cell 5⟩)
 have cw:=za S;clear S I J;go_enter func63,ntmps63
 go_wp2_with fail
 rw[cw.out];refine(HR.out _).mono ?_;rintro e u ⟨rfl,aF⟩;have q:Hid (MS d t R h u):=za ((MS.refl HM.out).below aF);clear aF;obtain⟨q0,q1,q2,q3,q4,q5⟩:=o.out u _ _ q.out;have hZ:=za q.out.size;have E:Hid (∀V,MS d t R h V->∀k,d=some k->k<V.heap.size):=za (fun V l=>l.met.lt);have O:Hid (Calls prog 46 #[] (u.alloc (.cells #[.int .u64 0,.string ⟨#[]⟩,.string ⟨#[]⟩] 84)).drew fun e w'=>e= .returned l7/\MS d t R h w'/\af w' u.heap.size 84 #[.int .u64 0,.string ⟨#[]⟩,.string ⟨#[]⟩]):=za ((cB _).mono fun e w' ⟨i,j⟩=>⟨i,((q.out.alloc _).drew).below j,(af.new u _ _).drew.ag j (by simp)⟩);have Y:Hid (Calls prog 46 #[] u.drew fun e w'=>e= .returned l7/\MS d t R h w'):=za ((cB _).mono fun e w' ⟨i,j⟩=>⟨i,q.out.drew.below j⟩);have Wo:Hid (∀V,MS d t R h V->Calls prog 82 #[.agg #[.int .i64 3,.int .u32 G,.int .i64 H,.int .i64 z,.int .i64 B,.int .i64 it],Z,.string s] (V.alloc (.cells #[.int .u64 0,.string ⟨#[]⟩,.string ⟨#[]⟩] 84)) fun e w'=>e= .returned (.tuple #[.agg #[.int .u64 F,.string A,.string D],.int .i64 L,.int .i64 y])/\MS d (t+m) (R-m) h w'/\af w' V.heap.size 84 #[.int .u64 0,.string ⟨#[]⟩,.string ⟨#[]⟩]):=za (fun V l=>
  (C.out _ _ (MS.refl (l.alloc _).met)).mono fun e w' ⟨i,j⟩=>⟨i,j.from (l.alloc _).only,(af.new V _ _).ms j (E.out V l)⟩)
 have Sl:Hid (∀V,MS d t R h V->af V u.heap.size 84 #[.int .u64 0,.string ⟨#[]⟩,.string ⟨#[]⟩]->Calls prog 82 #[.agg #[.int .i64 3,.int .u32 G,.int .i64 H,.int .i64 z,.int .i64 B,.int .i64 it],Z,.string s] V fun e w'=>e= .returned (.tuple #[.agg #[.int .u64 F,.string A,.string D],.int .i64 L,.int .i64 y])/\MS d (t+m) (R-m) h w'/\af w' u.heap.size 84 #[.int .u64 0,.string ⟨#[]⟩,.string ⟨#[]⟩]):=za (fun V l x=>
  (C.out _ _ (MS.refl l.met)).mono fun e w' ⟨i,j⟩=>⟨i,j.from l.only,x.ms j (E.out u q.out)⟩)
 have rB:Hid (∀V,MS d t R h V->Calls prog 82 #[.agg #[.int .i64 3,.int .u32 G,.int .i64 H,.int .i64 z,.int .i64 B,.int .i64 it],Z,.string s] V fun e w'=>e= .returned (.tuple #[.agg #[.int .u64 F,.string A,.string D],.int .i64 L,.int .i64 y])/\MS d (t+m) (R-m) h w'):=za (fun V l=>
  (C.out _ _ (MS.refl l.met)).mono fun e w' ⟨i,j⟩=>⟨i,j.from l.only⟩)
 unfold l7 iD at O Y;clear C HR;go_upto_region 3 with fail
 go_cut [9,10,11] (fun v n er wx=>∃M:Nat,v= .pointer (some ⟨M,0,none⟩)/\n= .int .i64 L/\er= .int .i64 y/\Hid (h.heap.size<=M)/\Hid (af wx M 84 #[.int .u64 F,.string A,.string D])/\Hid (MS d (t+m) (R-m) h wx))
 case first=>
  go_wp2_with fail
  go_region_held3 (fun V=>V.cell? ⟨w.heap.size,0,none⟩=some (.int .i64 3)/\V.cell? ⟨w.heap.size,1,none⟩=some (.int .u32 G)/\V.cell? ⟨w.heap.size,2,none⟩=some (.int .i64 H)/\V.cell? ⟨w.heap.size,3,none⟩=some (.int .i64 z)/\V.cell? ⟨w.heap.size,4,none⟩=some (.int .i64 B)/\V.cell? ⟨w.heap.size,5,none⟩=some (.int .i64 it))
   (first|exact o.out _ _ _ q.out|exact o.out _ _ _ q.out.drew|exact o.out _ _ _ ((q.out.alloc _).drew)|exact o.out _ _ _ r|exact o.out _ _ _ p|exact o.out _ _ _ (p.alloc _)|exact o.out _ _ _ (r.alloc _)|exact o.out _ _ _ (r.dK hZ.out (E.out _ q.out) _ _ _)|exact o.out _ _ _ (r.dK p.size (E.out _ p) _ _ _))
   (first
    |(go_at_call 82;((with_reducible refine(Sl.out _ p hz).mono ?_);rintro e w2 ⟨rfl,r,K⟩;obtain⟨z0,z1,z2,OI,OJ,OH⟩:=a8 K))
    |(go_at_call 82;((with_reducible refine(Wo.out _ p).mono ?_);rintro e w2 ⟨rfl,r,K⟩;obtain⟨z0,z1,z2,OI,OJ,OH⟩:=a8 K))
    |(go_at_call 82;((with_reducible refine(rB.out _ p).mono ?_);rintro e w2 ⟨rfl,r⟩))
    |(go_at_call 46;((with_reducible refine O.out.mono ?_);rintro e w' ⟨rfl,p,hz⟩;obtain⟨z0,z1,z2,OI,OJ,OH⟩:=a8 hz))
    |(go_at_call 46;((with_reducible refine Y.out.mono ?_);rintro e w' ⟨rfl,p⟩)))
  all_goals
   go_wp2_with fail
   go_meet;case rel=>
    first
     |exact⟨_,rfl,rfl,rfl,za r.size,za (af.new _ _ _),za (r.alloc _)⟩
     |exact⟨_,rfl,rfl,rfl,hZ,za (kK K _ _ _),za (r.dK hZ.out (E.out _ q.out) _ _ _)⟩
     |exact⟨_,rfl,rfl,rfl,za p.size,za (kK K _ _ _),za (r.dK p.size (E.out _ p) _ _ _)⟩
 case rest=>
  obtain⟨M,rfl,rfl,rfl,ab,DT,ov⟩:=hcut;have nS:Hid (af wc (w.heap.size+1) 84 #[.int .u64 0,.string ⟨#[]⟩,.string ⟨#[]⟩]):=za (ov.out.blk HB.out (fun k hk=>by have:=HG.out k hk;omega));have Wn:Hid (MS d (t+m) (R-m) W wc):=za (ov.out.from HO.out);have Wm:Hid (W.heap.size<=w.heap.size+1):=za (by have:=HL.out;omega);have GA:Hid (∀k,d=some k->k<w.heap.size+1):=za (fun k hk=>by have:=HG.out k hk;omega);obtain⟨g0,g1,g2,f0,f1,f2⟩:=a8 nS.out;obtain⟨k0,k1,k2,_,_,_⟩:=a8 DT.out;clear O Y Wo Sl rB o q0 q1 q2 q3 q4 q5 hI LF;rcases eY y with⟨U,i,j⟩|⟨U,i,j⟩
  ·subst U;go_wp2;refine zj (v:= .tuple #[.agg #[.int .u64 F,.string A,.string D],.int .i64 L,.int .i64 0]) (by simp[results,xU,go_sem,dO nS.out]) rfl ?_;exact⟨rfl,Wn.out.dK Wm.out GA.out _ _ _⟩
  obtain⟨aa,rfl⟩:=N.out U;obtain⟨rfl,rfl,rfl⟩:F=0/\A=ByteArray.empty/\D=ByteArray.empty:=by injection aa with a b c;exact⟨a,b,c⟩
  clear N;go_wp2;refine zj (v:= .tuple #[.agg #[.int .u64 0,.string ByteArray.empty,.string ByteArray.empty],.int .i64 0,.int .i64 y]) (by simp[results,xU,go_sem,dO nS.out,oA]) rfl ?_;exact⟨rfl,Wn.out.dK Wm.out GA.out _ _ _⟩
theorem XQ (c:aI)(b:Option Nat)(t R:Nat)(s:ByteArray)(m:c.right=false)(W w:World)(h:MS b t R W w):
 Calls prog 63 #[c.val,mJ b,.string s] w fun e w'=>e= .returned (oB (aw c s))/\MS b (t+(aw c s).2.2.2) (R-(aw c s).2.2.2) W w':=by
 have o:aw c s=(1,rD,0,0):=by unfold aw;rw[m];rfl
 have q:=za (fun w=>eW c w);rw[m]at q;rw[o];unfold aI.val at*;generalize mJ b=B at*;obtain⟨d,j⟩:∃d,(w.alloc (.cells #[.int .i64 c.fm,.int .u32 c.mg,.int .i64 c.fr,.int .i64 c.un,.int .i64 c.de,.int .i64 c.it] 24)).alloc (.cells #[.int .u64 0,.string ⟨#[]⟩,.string ⟨#[]⟩] 84)=d:=⟨_,rfl⟩
 have i:=iO j;have z:Hid (MS b t R W d):=za (h.below i.2.1);have u:Hid (af d (w.heap.size+1) 84 #[.int .u64 0,.string ⟨#[]⟩,.string ⟨#[]⟩]):=za i.2.2.2;have x:Hid (∀k,b=some k->k<w.heap.size+1):=za (fun k A=>by have:=h.met.lt k A;omega);have p:Hid (W.heap.size<=w.heap.size+1/\d.heap.size=w.heap.size+2):=za ⟨by have:=h.size;omega,i.1⟩;have y:=za j;clear j i h o;go_enter func63,ntmps63
 go_wp2_with fail
 rw[y.out];refine(q.out _).mono ?_;rintro e C ⟨rfl,l⟩;have n:=za (u.out.ag l (by have:=p.out.2;omega));have r:=za (z.out.below l);clear l;obtain⟨g0,g1,g2,f0,f1,f2⟩:=a8 n.out;go_wp2;refine zj (v:= .tuple #[.agg #[.int .u64 0,.string ByteArray.empty,.string ByteArray.empty],.int .i64 0,.int .i64 1]) (by simp[results,xU,go_sem,dO n.out,oA]) rfl ?_;exact⟨rfl,r.out.dK p.out.1 x.out _ _ _⟩
theorem F6 (c:aI)(b:Option Nat)(t R:Nat)(s:ByteArray)(k:c.ok)(i:70000<=R)(j:s.size<=1099511627776)(W w:World)(d:MS b t R W w):
 Calls prog 63 #[c.val,mJ b,.string s] w fun e w'=>e= .returned (oB (aw c s))/\MS b (t+(aw c s).2.2.2) (R-(aw c s).2.2.2) W w':=by
 cases hr:c.right with
 |false=>exact XQ c b t R s hr W w d
 |true=>
  have l:=(c.bB).1 hr;rcases(by omega:c.fm=1\/c.fm=2\/c.fm=3)with h|h|h
  ·exact XN c b t R s k h hr i j W w d
  ·exact XO c b t R s k h hr i j W w d
  exact XP c b t R s k h hr i j W w d
theorem Ur (f:Fr)(w:World):Calls prog 69 #[f.val] w fun e w'=>e= .returned (.bool (decide (f.id=0)))/\Below w.heap.size w w':=by
 unfold Fr.val;by_cases h:f.id=0
 ·have hd:decide ((f.id:Int)=0)=true:=by simp[h]
  obtain⟨id,nm,body⟩:=f;simp only at*;subst h;go_enter func69,ntmps69
  go_wp2;go_ret;exact⟨aV (by simp),bT⟩
 have hd:((f.id:Int)==0)=false:=by simpa using h
 obtain⟨id,nm,body⟩:=f;simp only at*;go_enter func69,ntmps69
 go_wp2;go_ret;exact⟨aV (by simp[h]),bT⟩
theorem La (f:Fr)(w:World):Calls prog 68 #[f.val] w fun e w'=>e= .returned (.bool (decide (f.nm.size=0)))/\Below w.heap.size w w':=by
 unfold Fr.val;obtain⟨id,nm,body⟩:=f;simp only;rcases gq nm with⟨_,rfl⟩|⟨b,c,d⟩
 ·go_enter func68,ntmps68
  go_wp2;go_ret;exact⟨aV (by rfl),bT⟩
 go_enter func68,ntmps68
 go_wp2;go_ret;exact⟨aV (by simp_all),bT⟩
theorem qK (c:aI)(f:Fr)(i:f.ok)(b:c.fm=1\/f.body.size<=1000000):(aU c f).1.size<=2000000:=by
 unfold aU;split
 ·split
  ·rename_i d
   split
   ·simp
   simp only;rw[lO c.mg f.nm f.body (dE d).2];omega
  simp
 rename_i e
 have b:=b.resolve_left e;split
 ·split
  ·simp
  simp only;rw[bP];have h:=bA 10 ((aR f.id).length+f.body.data.toList.length) (by rw[aa];omega) (by omega);unfold eF;rw[zl,zl];rw[aa]at*;omega
 split
 ·simp
 split
 ·simp
 simp only;rw[bP];have h:=bA 10 ((aR f.id).length+(pack f.body.data.toList).length) (by omega) (by omega);unfold eF;rw[zl,zl];omega
theorem tz (c:aI)(f:Fr)(d:f.ok)(b:f.body.size<=1000000):(aU c f).1.size<=2000000:=qK c f d (.inr b)
theorem XR (c:aI)(f:Fr)(h:c.ok)(i:f.ok)(d:c.fm=1)(w:World):
 Calls prog 70 #[c.val,f.val] w fun e w'=>e= .returned (.tuple #[.string (aU c f).1,.int .i64 (aU c f).2])/\Below w.heap.size w w':=by
 have j:Hid (∀V,Calls prog 71 #[.int .u32 c.mg,.string f.nm,.string f.body] V fun e w'=>e= .returned (.tuple #[.string (aU c f).1,.int .i64 (aU c f).2])/\Below V.heap.size V w'):=za (fun V=>by
  unfold aU;rw[zi d];cases hm:cd f.nm with
  |false=>exact(Js c.mg f.nm f.body V h.mg i.nm hm).mono fun e w' ⟨d,k⟩=>⟨d,by rw[<-k];exact zm _ _⟩
  |true=>
   rw[zi rfl];by_cases b:65536<f.body.size
   ·rw[zi b];exact Dp c.mg f.nm f.body V h.mg hm b i.body
   rw[zh b];exact NM c.mg f.nm f.body V h.mg hm (by omega))
 clear h i d;unfold aI.val Fr.val;generalize aU c f=X at*;obtain⟨B,E⟩:=X;simp only at j;go_enter func70,ntmps70
 go_wp2_with fail
 refine(j.out _).mono ?_;rintro e m ⟨rfl,b⟩;have l:=za ((((zm w.heap.size w).alloc (zg _) _).alloc (by simp) _).trans (b.mono (by simp;omega)));clear b;go_wp2;go_ret2
 exact⟨rfl,l.out⟩
theorem XS (c:aI)(f:Fr)(d:f.ok)(b:f.body.size<=1000000)(i:c.fm=2)(w:World):
 Calls prog 75 #[c.val,f.val] w fun e w'=>e= .returned (.tuple #[.string (aU c f).1,.int .i64 (aU c f).2])/\Below w.heap.size w w':=by
 have j:Hid (∀V,Calls prog 76 #[.int .u64 f.id,.string f.body] V fun e w'=>e= .returned (.tuple #[.string (aU c f).1,.int .i64 (aU c f).2])/\Below V.heap.size V w'):=za (fun V=>by
  unfold aU;rw[zh (by omega),zi i];by_cases h:65536<(aR f.id).length+f.body.size
  ·rw[zi h];exact oQ f.id f.body V d.id h b
  rw[zh h];exact vS f.id f.body V d.id (by omega))
 clear d i b;unfold aI.val Fr.val;generalize aU c f=X at*;obtain⟨B,E⟩:=X;simp only at j;go_enter func75,ntmps75
 go_wp2_with fail
 refine(j.out _).mono ?_;rintro e l ⟨rfl,b⟩;have k:=za ((((zm w.heap.size w).alloc (zg _) _).alloc (by simp) _).trans (b.mono (by simp;omega)));clear b;go_wp2;go_ret2
 exact⟨rfl,k.out⟩
theorem XT (c:aI)(f:Fr)(d:f.ok)(hu:c.un<=65536)(h:c.fm=3)(w:World):
 Calls prog 80 #[c.val,f.val] w fun e w'=>e= .returned (.tuple #[.string (aU c f).1,.int .i64 (aU c f).2])/\Below w.heap.size w w':=by
 by_cases j:c.un<f.body.size
 ·have i:Hid (aU c f=(ByteArray.empty,5)):=za (by unfold aU;rw[zh (by omega),zh (by omega),zi j]);rw[i.out];unfold aI.val Fr.val;clear i hu;have m:=d.body;clear d;obtain⟨p,s,o,n,q,it⟩:=c;obtain⟨id,nm,body⟩:=f;simp only at*;subst h;go_enter func80,ntmps80
  go_wp2;go_ret2
  exact⟨rfl,bT⟩
 have k:Hid (∀V,Calls prog 81 #[.int .u64 f.id,.string f.body] V fun e w'=>e= .returned (.tuple #[.string (aU c f).1,.int .i64 (aU c f).2])/\Below V.heap.size V w'):=za (fun V=>by
  unfold aU;rw[zh (by omega),zh (by omega),zh j];refine(AR f.id f.body V d.id (by omega)).mono fun e w' ⟨h,r⟩=>⟨?_,r⟩
  rw[h];unfold vV vW;by_cases b:65536<(aR f.id).length+(pack f.body.data.toList).length
  ·rw[zi b,zi b,zi b]
  rw[zh b,zh b,zh b])
 have m:=d.body;clear d hu;unfold aI.val Fr.val;generalize aU c f=X at*;obtain⟨B,E⟩:=X;simp only at k;obtain⟨p,s,o,n,q,it⟩:=c;obtain⟨id,nm,body⟩:=f;simp only at*;subst h;go_enter func80,ntmps80
 go_wp2_with fail
 refine(k.out _).mono ?_;rintro e x ⟨rfl,l⟩;have u:=za ((((zm w.heap.size w).alloc (zg _) _).alloc (by simp) _).trans (l.mono (by simp;omega)));clear l;go_wp2;go_ret2
 exact⟨rfl,u.out⟩
theorem mz {t:TypeId}{a b c d:Value}(h:af w g t #[a,b,c,d]):w.cell? ⟨g,0,none⟩=some a/\w.cell? ⟨g,1,none⟩=some b/\w.cell? ⟨g,2,none⟩=some c/\w.cell? ⟨g,3,none⟩=some d/\w.frozen? ⟨g,0,none⟩=false/\w.frozen? ⟨g,1,none⟩=false/\w.frozen? ⟨g,2,none⟩=false/\w.frozen? ⟨g,3,none⟩=false:=
 ⟨h.cell 0,h.cell 1,h.cell 2,h.cell 3,h.frozen 0,h.frozen 1,h.frozen 2,h.frozen 3⟩
theorem sk (c:aI)(f:Fr)(d:c.right=true):(jn c f=false->fE c f=(ByteArray.empty,1))/\(jn c f=true->(aU c f).2≠0->fE c f=(ByteArray.empty,(aU c f).2))/\(jn c f=true->(aU c f).2=0->(bg c (aU c f).1).1=5->fE c f=(ByteArray.empty,5))/\(jn c f=true->(aU c f).2=0->(bg c (aU c f).1).1≠5->fE c f=((aU c f).1,0)):=by
 refine⟨fun h=> ?_,fun h b=> ?_,fun h b e=> ?_,fun h b e=> ?_⟩<;>unfold fE
 ·rw[zh (by simp[h])]
 ·rw[zi ⟨d,h⟩,zi b]
 ·rw[zi ⟨d,h⟩,zh (by simp[b]),zi e]
 rw[zi ⟨d,h⟩,zh (by simp[b]),zh e]
theorem Us (c:aI)(f:Fr)(hc:c.ok)(hf:f.ok)(i:c.fm=1)(hr:c.right=true)(w:World):
 Calls prog 34 #[c.val,f.val] w fun e w'=>e= .returned (.tuple #[.string (fE c f).1,.int .i64 (fE c f).2])/\Below w.heap.size w w':=by
 have Oe:=(c.bB).1 hr;have hz:=qK c f hf (.inl i);have rB:=za (F3 c none 0 140000 (aU c f).1 hc i (by omega) (by omega));have HF:Hid (∀V,Calls prog 69 #[f.val] V fun e w'=>e= .returned (.bool (jn c f))/\Below V.heap.size V w'):=za (fun V=>by have:=Ur f V;unfold jn;rw[zi i];exact this);have HY:=za (fun V=>XR c f hc hf i V);clear Oe hc hf hz;have hI:=Jc;unfold l7 Vt iD at hI;have HR:=za (fun w=>eW c w);rw[hr]at HR;have h:=za (sk c f hr);have O:Hid (∀V,Calls prog 72 #[c.val,.pointer none,.string (aU c f).1] V fun e w'=>e= .returned (oB (bg c (aU c f).1))/\Below V.heap.size V w'):=za (fun V=>(rB.out V V (MS.refl trivial)).mono fun e w' ⟨i,C⟩=>⟨i,C.wJ⟩);clear rB;unfold oB Fr.val at*;obtain⟨X,o⟩:∃X,bg c (aU c f).1=X:=⟨_,rfl⟩
 rw[o]at O h;clear o;obtain⟨y5,⟨y1,y2,y3⟩,y4,m⟩:=X;obtain⟨X,o⟩:∃X,aU c f=X:=⟨_,rfl⟩
 rw[o]at O h HY;clear o;obtain⟨S,E⟩:=X;obtain⟨X,o⟩:∃X,fE c f=X:=⟨_,rfl⟩
 rw[o]at h⊢;clear o;obtain⟨P1,P2⟩:=X;obtain⟨ft,G2⟩:∃ft,jn c f=ft:=⟨_,rfl⟩
 rw[G2]at h HF;clear G2;simp only at O h HY;unfold aI.val at*;obtain⟨fm,mg,fr,un,de,it⟩:=c;obtain⟨id,nm,body⟩:=f;simp only at*;subst i;obtain⟨b,Z⟩:∃b,(w.alloc (.cells #[.int .i64 1,.int .u32 mg,.int .i64 fr,.int .i64 un,.int .i64 de,.int .i64 it] 24)).alloc (.cells #[.int .u64 id,.string nm,.string body] 84)=b:=⟨_,rfl⟩
 have J:=iO Z;have HO:Hid (Below w.heap.size w b):=za J.2.1;have HL:Hid (b.heap.size=w.heap.size+2):=za J.1;have j:Hid (∀V,Below b.heap.size b V->(V.cell? ⟨w.heap.size,0,none⟩=some (.int .i64 1)/\V.cell? ⟨w.heap.size,1,none⟩=some (.int .u32 mg)/\V.cell? ⟨w.heap.size,2,none⟩=some (.int .i64 fr)/\V.cell? ⟨w.heap.size,3,none⟩=some (.int .i64 un)/\V.cell? ⟨w.heap.size,4,none⟩=some (.int .i64 de)/\V.cell? ⟨w.heap.size,5,none⟩=some (.int .i64 it))):=za (fun V p=>by
  have k:=J.2.2.1.ag p (by omega);exact⟨k.cell 0,k.cell 1,k.cell 2,k.cell 3,k.cell 4,k.cell 5⟩)
 have Sn:Hid (∀V,Below b.heap.size b V->(V.cell? ⟨w.heap.size+1,0,none⟩=some (.int .u64 id)/\V.cell? ⟨w.heap.size+1,1,none⟩=some (.string nm)/\V.cell? ⟨w.heap.size+1,2,none⟩=some (.string body))):=za (fun V p=>by
  have k:=J.2.2.2.ag p (by omega);exact⟨k.cell 0,k.cell 1,k.cell 2⟩)
 have cw:=za Z;clear Z J;go_enter func34,ntmps34
 go_wp2_with fail
 rw[cw.out];refine(HR.out _).mono ?_;rintro e B ⟨rfl,aF⟩;have u:Hid (Below b.heap.size b B):=za aF;clear aF;obtain⟨q,s,z,y,r,x⟩:=j.out B u.out;have d:=za u.out.size;have Y:Hid (Calls prog 46 #[] (B.alloc (.cells #[.nilFunc,.nilFunc,.nilFunc,.nilFunc] 108)).drew fun e w'=>e= .returned l7/\Below b.heap.size b w'/\af w' B.heap.size 108 #[.nilFunc,.nilFunc,.nilFunc,.nilFunc]):=za ((cB _).mono fun e w' ⟨i,C⟩=>⟨i,((u.out.alloc d.out _).drew).trans (C.mono (by have:=d.out;simp;omega)),(af.new B _ _).drew.ag C (by simp)⟩);have tV:Hid (Calls prog 46 #[] B.drew fun e w'=>e= .returned l7/\Below b.heap.size b w'):=za ((cB _).mono fun e w' ⟨i,C⟩=>⟨i,u.out.drew.trans (C.mono d.out)⟩);unfold l7 iD at Y tV;clear HR;go_upto_region 3 with fail
 go_cut [6] (fun v wx=>∃F:Nat,v= .pointer (some ⟨F,0,none⟩)/\Hid (b.heap.size<=F)/\Hid (af wx F 108 #[.func (.func 69) #[] #[],.func (.func 70) #[] #[],.func (.func 72) #[] #[],.func (.func 74) #[] #[]])/\Hid (Below b.heap.size b wx))
 case first=>
  go_wp2_with fail
  go_region_held3 (fun V=>V.cell? ⟨w.heap.size,0,none⟩=some (.int .i64 1)/\V.cell? ⟨w.heap.size,1,none⟩=some (.int .u32 mg)/\V.cell? ⟨w.heap.size,2,none⟩=some (.int .i64 fr)/\V.cell? ⟨w.heap.size,3,none⟩=some (.int .i64 un)/\V.cell? ⟨w.heap.size,4,none⟩=some (.int .i64 de)/\V.cell? ⟨w.heap.size,5,none⟩=some (.int .i64 it))
   (first|exact j.out _ u.out|exact j.out _ u.out.drew|exact j.out _ ((u.out.alloc d.out _).drew)|exact j.out _ l|exact j.out _ (l.alloc l.size _)|exact j.out _ ((((l.setCell d.out _).setCell d.out _).setCell d.out _).setCell d.out _))
   (first
    |(go_at_call 46;((with_reducible refine Y.out.mono ?_);rintro e w' ⟨rfl,l,hz⟩;obtain⟨z0,D,z2,z3,OI,OJ,OH,ab⟩:=mz hz))
    |(go_at_call 46;((with_reducible refine tV.out.mono ?_);rintro e w' ⟨rfl,l⟩)))
  all_goals
   go_wp2_with fail
   go_meet;case rel=>
    first
     |exact⟨_,rfl,za l.size,za (af.new _ _ _),za (l.alloc l.size _)⟩
     |exact⟨_,rfl,d,za ((((hz.set 0 _).set 1 _).set 2 _).set 3 _),za ((((l.setCell d.out _).setCell d.out _).setCell d.out _).setCell d.out _)⟩
 case rest=>
  obtain⟨F,rfl,aa,DT,M⟩:=hcut;have Ta:Hid (∀V,Below wc.heap.size wc V->Below b.heap.size b V/\af V F 108 #[.func (.func 69) #[] #[],.func (.func 70) #[] #[],.func (.func 72) #[] #[],.func (.func 74) #[] #[]]):=za (fun V p=>⟨M.out.trans (p.mono M.out.size),DT.out.ag p DT.out.lt⟩);have L:Hid (∀V,Below b.heap.size b V->Below w.heap.size w V):=za (fun V p=>HO.out.trans (p.mono (by have:=HL.out;omega)));clear Y tV q s z y r x hI;obtain⟨q,s,z,y,r,x⟩:=j.out wc M.out;obtain⟨H,I,G⟩:=Sn.out wc M.out;obtain⟨z0,D,z2,z3,_⟩:=mz DT.out;go_wp2_with fail
  refine(HF.out _).mono ?_;rintro e w2 ⟨rfl,n⟩;obtain⟨U,jY⟩:=Ta.out w2 n;have ee:=za n;have SU:=za U;clear q s z y r x H I G z0 D z2 z3 n;obtain⟨q,s,z,y,r,x⟩:=j.out w2 U;obtain⟨H,I,G⟩:=Sn.out w2 U;obtain⟨z0,D,z2,z3,_⟩:=mz jY;clear U jY;cases ft with
  |false=>
   have A:=h.out.1 (by simp);injection A with gJ iH;subst gJ;subst iH;clear h;go_wp2;go_ret2
   exact⟨rfl,L.out _ SU.out⟩
  |true=>
   go_wp2_with fail
   refine(HY.out _).mono ?_;rintro e w3 ⟨rfl,n⟩;have hG:Hid (Below wc.heap.size wc w3):=za (ee.out.trans (n.mono ee.out.size));obtain⟨R,tB⟩:=Ta.out w3 hG.out;have Sm:=za R;clear q s z y r x H I G z0 D z2 z3 n;obtain⟨q,s,z,y,r,x⟩:=j.out w3 R;obtain⟨H,I,G⟩:=Sn.out w3 R;obtain⟨z0,D,z2,z3,_⟩:=mz tB;clear R tB;rcases eY E with⟨e0,e1,e2⟩|⟨e0,e1,e2⟩
   ·subst e0;have K:=za (And.intro (h.out.2.2.1 (by simp) (by simp)) (h.out.2.2.2 (by simp) (by simp)));clear h;go_wp2_with fail
    refine(O.out _).mono ?_;rintro e w4 ⟨rfl,n⟩;have N:Hid (Below b.heap.size b w4):=za (Sm.out.trans (n.mono Sm.out.size));clear q s z y r x H I G z0 D z2 z3 n;by_cases W:y5=5
    ·have A:=K.out.1 W;injection A with gJ iH;subst gJ;subst iH;subst W;clear K;go_wp2;go_ret2
     exact⟨rfl,L.out _ (N.out.alloc N.out.size _)⟩
    have A:=K.out.2 W;injection A with gJ iH;subst gJ;subst iH;clear K;have h6:(y5==5)=false:=by simpa using W
    go_wp2;go_ret2
    exact⟨rfl,L.out _ (N.out.alloc N.out.size _)⟩
   have A:=h.out.2.1 (by simp) e0;injection A with gJ iH;subst gJ;subst iH;clear h;go_wp2;go_ret2
   exact⟨rfl,L.out _ Sm.out⟩
theorem Ut (c:aI)(f:Fr)(hc:c.ok)(hf:f.ok)(h:f.body.size<=1000000)(n:c.fm=2)(hr:c.right=true)(w:World):
 Calls prog 34 #[c.val,f.val] w fun e w'=>e= .returned (.tuple #[.string (fE c f).1,.int .i64 (fE c f).2])/\Below w.heap.size w w':=by
 have Oe:=(c.bB).1 hr;have hz:=tz c f hf h;have rB:=za (F4 c none 0 140000 (aU c f).1 hc n (by omega) (by omega));have HF:Hid (∀V,Calls prog 68 #[f.val] V fun e w'=>e= .returned (.bool (jn c f))/\Below V.heap.size V w'):=za (fun V=>by have:=La f V;unfold jn;rw[zh (by omega)];exact this);have HY:=za (fun V=>XS c f hf h n V);clear Oe hc hf h hz;have hI:=Jd;unfold l7 Vu iD at hI;have HR:=za (fun w=>eW c w);rw[hr]at HR;have i:=za (sk c f hr);have O:Hid (∀V,Calls prog 77 #[c.val,.pointer none,.string (aU c f).1] V fun e w'=>e= .returned (oB (bg c (aU c f).1))/\Below V.heap.size V w'):=za (fun V=>(rB.out V V (MS.refl trivial)).mono fun e w' ⟨n,C⟩=>⟨n,C.wJ⟩);clear rB;unfold oB Fr.val at*;obtain⟨X,o⟩:∃X,bg c (aU c f).1=X:=⟨_,rfl⟩
 rw[o]at O i;clear o;obtain⟨y5,⟨y1,y2,y3⟩,y4,m⟩:=X;obtain⟨X,o⟩:∃X,aU c f=X:=⟨_,rfl⟩
 rw[o]at O i HY;clear o;obtain⟨S,E⟩:=X;obtain⟨X,o⟩:∃X,fE c f=X:=⟨_,rfl⟩
 rw[o]at i⊢;clear o;obtain⟨P1,P2⟩:=X;obtain⟨ft,G2⟩:∃ft,jn c f=ft:=⟨_,rfl⟩
 rw[G2]at i HF;clear G2;simp only at O i HY;unfold aI.val at*;obtain⟨fm,mg,fr,un,de,it⟩:=c;obtain⟨id,nm,body⟩:=f;simp only at*;subst n;obtain⟨b,Z⟩:∃b,(w.alloc (.cells #[.int .i64 2,.int .u32 mg,.int .i64 fr,.int .i64 un,.int .i64 de,.int .i64 it] 24)).alloc (.cells #[.int .u64 id,.string nm,.string body] 84)=b:=⟨_,rfl⟩
 have J:=iO Z;have HO:Hid (Below w.heap.size w b):=za J.2.1;have HL:Hid (b.heap.size=w.heap.size+2):=za J.1;have j:Hid (∀V,Below b.heap.size b V->(V.cell? ⟨w.heap.size,0,none⟩=some (.int .i64 2)/\V.cell? ⟨w.heap.size,1,none⟩=some (.int .u32 mg)/\V.cell? ⟨w.heap.size,2,none⟩=some (.int .i64 fr)/\V.cell? ⟨w.heap.size,3,none⟩=some (.int .i64 un)/\V.cell? ⟨w.heap.size,4,none⟩=some (.int .i64 de)/\V.cell? ⟨w.heap.size,5,none⟩=some (.int .i64 it))):=za (fun V p=>by
  have k:=J.2.2.1.ag p (by omega);exact⟨k.cell 0,k.cell 1,k.cell 2,k.cell 3,k.cell 4,k.cell 5⟩)
 have Sn:Hid (∀V,Below b.heap.size b V->(V.cell? ⟨w.heap.size+1,0,none⟩=some (.int .u64 id)/\V.cell? ⟨w.heap.size+1,1,none⟩=some (.string nm)/\V.cell? ⟨w.heap.size+1,2,none⟩=some (.string body))):=za (fun V p=>by
  have k:=J.2.2.2.ag p (by omega);exact⟨k.cell 0,k.cell 1,k.cell 2⟩)
 have cw:=za Z;clear Z J;go_enter func34,ntmps34
 go_wp2_with fail
 rw[cw.out];refine(HR.out _).mono ?_;rintro e B ⟨rfl,aF⟩;have u:Hid (Below b.heap.size b B):=za aF;clear aF;obtain⟨q,s,z,y,r,x⟩:=j.out B u.out;have d:=za u.out.size;have Y:Hid (Calls prog 46 #[] (B.alloc (.cells #[.nilFunc,.nilFunc,.nilFunc,.nilFunc] 108)).drew fun e w'=>e= .returned l7/\Below b.heap.size b w'/\af w' B.heap.size 108 #[.nilFunc,.nilFunc,.nilFunc,.nilFunc]):=za ((cB _).mono fun e w' ⟨n,C⟩=>⟨n,((u.out.alloc d.out _).drew).trans (C.mono (by have:=d.out;simp;omega)),(af.new B _ _).drew.ag C (by simp)⟩);have tV:Hid (Calls prog 46 #[] B.drew fun e w'=>e= .returned l7/\Below b.heap.size b w'):=za ((cB _).mono fun e w' ⟨n,C⟩=>⟨n,u.out.drew.trans (C.mono d.out)⟩);unfold l7 iD at Y tV;clear HR;go_upto_region 3 with fail
 go_cut [6] (fun v wx=>∃F:Nat,v= .pointer (some ⟨F,0,none⟩)/\Hid (b.heap.size<=F)/\Hid (af wx F 108 #[.func (.func 68) #[] #[],.func (.func 75) #[] #[],.func (.func 77) #[] #[],.func (.func 79) #[] #[]])/\Hid (Below b.heap.size b wx))
 case first=>
  go_wp2_with fail
  go_region_held3 (fun V=>V.cell? ⟨w.heap.size,0,none⟩=some (.int .i64 2)/\V.cell? ⟨w.heap.size,1,none⟩=some (.int .u32 mg)/\V.cell? ⟨w.heap.size,2,none⟩=some (.int .i64 fr)/\V.cell? ⟨w.heap.size,3,none⟩=some (.int .i64 un)/\V.cell? ⟨w.heap.size,4,none⟩=some (.int .i64 de)/\V.cell? ⟨w.heap.size,5,none⟩=some (.int .i64 it))
   (first|exact j.out _ u.out|exact j.out _ u.out.drew|exact j.out _ ((u.out.alloc d.out _).drew)|exact j.out _ l|exact j.out _ (l.alloc l.size _)|exact j.out _ ((((l.setCell d.out _).setCell d.out _).setCell d.out _).setCell d.out _))
   (first
    |(go_at_call 46;((with_reducible refine Y.out.mono ?_);rintro e w' ⟨rfl,l,hz⟩;obtain⟨z0,D,z2,z3,OI,OJ,OH,ab⟩:=mz hz))
    |(go_at_call 46;((with_reducible refine tV.out.mono ?_);rintro e w' ⟨rfl,l⟩)))
  all_goals
   go_wp2_with fail
   go_meet;case rel=>
    first
     |exact⟨_,rfl,za l.size,za (af.new _ _ _),za (l.alloc l.size _)⟩
     |exact⟨_,rfl,d,za ((((hz.set 0 _).set 1 _).set 2 _).set 3 _),za ((((l.setCell d.out _).setCell d.out _).setCell d.out _).setCell d.out _)⟩
 case rest=>
  obtain⟨F,rfl,aa,DT,M⟩:=hcut;have Ta:Hid (∀V,Below wc.heap.size wc V->Below b.heap.size b V/\af V F 108 #[.func (.func 68) #[] #[],.func (.func 75) #[] #[],.func (.func 77) #[] #[],.func (.func 79) #[] #[]]):=za (fun V p=>⟨M.out.trans (p.mono M.out.size),DT.out.ag p DT.out.lt⟩);have L:Hid (∀V,Below b.heap.size b V->Below w.heap.size w V):=za (fun V p=>HO.out.trans (p.mono (by have:=HL.out;omega)));clear Y tV q s z y r x hI;obtain⟨q,s,z,y,r,x⟩:=j.out wc M.out;obtain⟨H,I,G⟩:=Sn.out wc M.out;obtain⟨z0,D,z2,z3,_⟩:=mz DT.out;go_wp2_with fail
  refine(HF.out _).mono ?_;rintro e w2 ⟨rfl,h⟩;obtain⟨U,jY⟩:=Ta.out w2 h;have ee:=za h;have SU:=za U;clear q s z y r x H I G z0 D z2 z3 h;obtain⟨q,s,z,y,r,x⟩:=j.out w2 U;obtain⟨H,I,G⟩:=Sn.out w2 U;obtain⟨z0,D,z2,z3,_⟩:=mz jY;clear U jY;cases ft with
  |false=>
   have A:=i.out.1 (by simp);injection A with gJ iH;subst gJ;subst iH;clear i;go_wp2;go_ret2
   exact⟨rfl,L.out _ SU.out⟩
  |true=>
   go_wp2_with fail
   refine(HY.out _).mono ?_;rintro e w3 ⟨rfl,h⟩;have hG:Hid (Below wc.heap.size wc w3):=za (ee.out.trans (h.mono ee.out.size));obtain⟨R,tB⟩:=Ta.out w3 hG.out;have Sm:=za R;clear q s z y r x H I G z0 D z2 z3 h;obtain⟨q,s,z,y,r,x⟩:=j.out w3 R;obtain⟨H,I,G⟩:=Sn.out w3 R;obtain⟨z0,D,z2,z3,_⟩:=mz tB;clear R tB;rcases eY E with⟨e0,e1,e2⟩|⟨e0,e1,e2⟩
   ·subst e0;have K:=za (And.intro (i.out.2.2.1 (by simp) (by simp)) (i.out.2.2.2 (by simp) (by simp)));clear i;go_wp2_with fail
    refine(O.out _).mono ?_;rintro e w4 ⟨rfl,h⟩;have N:Hid (Below b.heap.size b w4):=za (Sm.out.trans (h.mono Sm.out.size));clear q s z y r x H I G z0 D z2 z3 h;by_cases W:y5=5
    ·have A:=K.out.1 W;injection A with gJ iH;subst gJ;subst iH;subst W;clear K;go_wp2;go_ret2
     exact⟨rfl,L.out _ (N.out.alloc N.out.size _)⟩
    have A:=K.out.2 W;injection A with gJ iH;subst gJ;subst iH;clear K;have h6:(y5==5)=false:=by simpa using W
    go_wp2;go_ret2
    exact⟨rfl,L.out _ (N.out.alloc N.out.size _)⟩
   have A:=i.out.2.1 (by simp) e0;injection A with gJ iH;subst gJ;subst iH;clear i;go_wp2;go_ret2
   exact⟨rfl,L.out _ Sm.out⟩
theorem Uu (c:aI)(f:Fr)(hc:c.ok)(hf:f.ok)(i:f.body.size<=1000000)(n:c.fm=3)(hr:c.right=true)(w:World):
 Calls prog 34 #[c.val,f.val] w fun e w'=>e= .returned (.tuple #[.string (fE c f).1,.int .i64 (fE c f).2])/\Below w.heap.size w w':=by
 have Oe:=(c.bB).1 hr;have hz:=tz c f hf i;have rB:=za (F5 c none 0 140000 (aU c f).1 hc n (by omega) (by omega) (by omega) (by omega));have HF:Hid (∀V,Calls prog 68 #[f.val] V fun e w'=>e= .returned (.bool (jn c f))/\Below V.heap.size V w'):=za (fun V=>by have:=La f V;unfold jn;rw[zh (by omega)];exact this);have HY:=za (fun V=>XT c f hf (by omega) n V);clear Oe hc hf i hz;have hI:=Je;unfold l7 Vv iD at hI;have HR:=za (fun w=>eW c w);rw[hr]at HR;have h:=za (sk c f hr);have O:Hid (∀V,Calls prog 82 #[c.val,.pointer none,.string (aU c f).1] V fun e w'=>e= .returned (oB (bg c (aU c f).1))/\Below V.heap.size V w'):=za (fun V=>(rB.out V V (MS.refl trivial)).mono fun e w' ⟨n,C⟩=>⟨n,C.wJ⟩);clear rB;unfold oB Fr.val at*;obtain⟨X,o⟩:∃X,bg c (aU c f).1=X:=⟨_,rfl⟩
 rw[o]at O h;clear o;obtain⟨y5,⟨y1,y2,y3⟩,y4,m⟩:=X;obtain⟨X,o⟩:∃X,aU c f=X:=⟨_,rfl⟩
 rw[o]at O h HY;clear o;obtain⟨S,E⟩:=X;obtain⟨X,o⟩:∃X,fE c f=X:=⟨_,rfl⟩
 rw[o]at h⊢;clear o;obtain⟨P1,P2⟩:=X;obtain⟨ft,G2⟩:∃ft,jn c f=ft:=⟨_,rfl⟩
 rw[G2]at h HF;clear G2;simp only at O h HY;unfold aI.val at*;obtain⟨fm,mg,fr,un,de,it⟩:=c;obtain⟨id,nm,body⟩:=f;simp only at*;subst n;obtain⟨b,Z⟩:∃b,(w.alloc (.cells #[.int .i64 3,.int .u32 mg,.int .i64 fr,.int .i64 un,.int .i64 de,.int .i64 it] 24)).alloc (.cells #[.int .u64 id,.string nm,.string body] 84)=b:=⟨_,rfl⟩
 have J:=iO Z;have HO:Hid (Below w.heap.size w b):=za J.2.1;have HL:Hid (b.heap.size=w.heap.size+2):=za J.1;have j:Hid (∀V,Below b.heap.size b V->(V.cell? ⟨w.heap.size,0,none⟩=some (.int .i64 3)/\V.cell? ⟨w.heap.size,1,none⟩=some (.int .u32 mg)/\V.cell? ⟨w.heap.size,2,none⟩=some (.int .i64 fr)/\V.cell? ⟨w.heap.size,3,none⟩=some (.int .i64 un)/\V.cell? ⟨w.heap.size,4,none⟩=some (.int .i64 de)/\V.cell? ⟨w.heap.size,5,none⟩=some (.int .i64 it))):=za (fun V p=>by
  have k:=J.2.2.1.ag p (by omega);exact⟨k.cell 0,k.cell 1,k.cell 2,k.cell 3,k.cell 4,k.cell 5⟩)
 have Sn:Hid (∀V,Below b.heap.size b V->(V.cell? ⟨w.heap.size+1,0,none⟩=some (.int .u64 id)/\V.cell? ⟨w.heap.size+1,1,none⟩=some (.string nm)/\V.cell? ⟨w.heap.size+1,2,none⟩=some (.string body))):=za (fun V p=>by
  have k:=J.2.2.2.ag p (by omega);exact⟨k.cell 0,k.cell 1,k.cell 2⟩)
 have cw:=za Z;clear Z J;go_enter func34,ntmps34
 go_wp2_with fail
 rw[cw.out];refine(HR.out _).mono ?_;rintro e B ⟨rfl,aF⟩;have u:Hid (Below b.heap.size b B):=za aF;clear aF;obtain⟨q,s,z,y,r,x⟩:=j.out B u.out;have d:=za u.out.size;have Y:Hid (Calls prog 46 #[] (B.alloc (.cells #[.nilFunc,.nilFunc,.nilFunc,.nilFunc] 108)).drew fun e w'=>e= .returned l7/\Below b.heap.size b w'/\af w' B.heap.size 108 #[.nilFunc,.nilFunc,.nilFunc,.nilFunc]):=za ((cB _).mono fun e w' ⟨n,C⟩=>⟨n,((u.out.alloc d.out _).drew).trans (C.mono (by have:=d.out;simp;omega)),(af.new B _ _).drew.ag C (by simp)⟩);have tV:Hid (Calls prog 46 #[] B.drew fun e w'=>e= .returned l7/\Below b.heap.size b w'):=za ((cB _).mono fun e w' ⟨n,C⟩=>⟨n,u.out.drew.trans (C.mono d.out)⟩);unfold l7 iD at Y tV;clear HR;go_upto_region 3 with fail
 go_cut [6] (fun v wx=>∃F:Nat,v= .pointer (some ⟨F,0,none⟩)/\Hid (b.heap.size<=F)/\Hid (af wx F 108 #[.func (.func 68) #[] #[],.func (.func 80) #[] #[],.func (.func 82) #[] #[],.func (.func 79) #[] #[]])/\Hid (Below b.heap.size b wx))
 case first=>
  go_wp2_with fail
  go_region_held3 (fun V=>V.cell? ⟨w.heap.size,0,none⟩=some (.int .i64 3)/\V.cell? ⟨w.heap.size,1,none⟩=some (.int .u32 mg)/\V.cell? ⟨w.heap.size,2,none⟩=some (.int .i64 fr)/\V.cell? ⟨w.heap.size,3,none⟩=some (.int .i64 un)/\V.cell? ⟨w.heap.size,4,none⟩=some (.int .i64 de)/\V.cell? ⟨w.heap.size,5,none⟩=some (.int .i64 it))
   (first|exact j.out _ u.out|exact j.out _ u.out.drew|exact j.out _ ((u.out.alloc d.out _).drew)|exact j.out _ l|exact j.out _ (l.alloc l.size _)|exact j.out _ ((((l.setCell d.out _).setCell d.out _).setCell d.out _).setCell d.out _))
   (first
    |(go_at_call 46;((with_reducible refine Y.out.mono ?_);rintro e w' ⟨rfl,l,hz⟩;obtain⟨z0,D,z2,z3,OI,OJ,OH,ab⟩:=mz hz))
    |(go_at_call 46;((with_reducible refine tV.out.mono ?_);rintro e w' ⟨rfl,l⟩)))
  all_goals
   go_wp2_with fail
   go_meet;case rel=>
    first
     |exact⟨_,rfl,za l.size,za (af.new _ _ _),za (l.alloc l.size _)⟩
     |exact⟨_,rfl,d,za ((((hz.set 0 _).set 1 _).set 2 _).set 3 _),za ((((l.setCell d.out _).setCell d.out _).setCell d.out _).setCell d.out _)⟩
 case rest=>
  obtain⟨F,rfl,aa,DT,M⟩:=hcut;have Ta:Hid (∀V,Below wc.heap.size wc V->Below b.heap.size b V/\af V F 108 #[.func (.func 68) #[] #[],.func (.func 80) #[] #[],.func (.func 82) #[] #[],.func (.func 79) #[] #[]]):=za (fun V p=>⟨M.out.trans (p.mono M.out.size),DT.out.ag p DT.out.lt⟩);have L:Hid (∀V,Below b.heap.size b V->Below w.heap.size w V):=za (fun V p=>HO.out.trans (p.mono (by have:=HL.out;omega)));clear Y tV q s z y r x hI;obtain⟨q,s,z,y,r,x⟩:=j.out wc M.out;obtain⟨H,I,G⟩:=Sn.out wc M.out;obtain⟨z0,D,z2,z3,_⟩:=mz DT.out;go_wp2_with fail
  refine(HF.out _).mono ?_;rintro e w2 ⟨rfl,i⟩;obtain⟨U,jY⟩:=Ta.out w2 i;have ee:=za i;have SU:=za U;clear q s z y r x H I G z0 D z2 z3 i;obtain⟨q,s,z,y,r,x⟩:=j.out w2 U;obtain⟨H,I,G⟩:=Sn.out w2 U;obtain⟨z0,D,z2,z3,_⟩:=mz jY;clear U jY;cases ft with
  |false=>
   have A:=h.out.1 (by simp);injection A with gJ iH;subst gJ;subst iH;clear h;go_wp2;go_ret2
   exact⟨rfl,L.out _ SU.out⟩
  |true=>
   go_wp2_with fail
   refine(HY.out _).mono ?_;rintro e w3 ⟨rfl,i⟩;have hG:Hid (Below wc.heap.size wc w3):=za (ee.out.trans (i.mono ee.out.size));obtain⟨R,tB⟩:=Ta.out w3 hG.out;have Sm:=za R;clear q s z y r x H I G z0 D z2 z3 i;obtain⟨q,s,z,y,r,x⟩:=j.out w3 R;obtain⟨H,I,G⟩:=Sn.out w3 R;obtain⟨z0,D,z2,z3,_⟩:=mz tB;clear R tB;rcases eY E with⟨e0,e1,e2⟩|⟨e0,e1,e2⟩
   ·subst e0;have K:=za (And.intro (h.out.2.2.1 (by simp) (by simp)) (h.out.2.2.2 (by simp) (by simp)));clear h;go_wp2_with fail
    refine(O.out _).mono ?_;rintro e w4 ⟨rfl,i⟩;have N:Hid (Below b.heap.size b w4):=za (Sm.out.trans (i.mono Sm.out.size));clear q s z y r x H I G z0 D z2 z3 i;by_cases W:y5=5
    ·have A:=K.out.1 W;injection A with gJ iH;subst gJ;subst iH;subst W;clear K;go_wp2;go_ret2
     exact⟨rfl,L.out _ (N.out.alloc N.out.size _)⟩
    have A:=K.out.2 W;injection A with gJ iH;subst gJ;subst iH;clear K;have h6:(y5==5)=false:=by simpa using W
    go_wp2;go_ret2
    exact⟨rfl,L.out _ (N.out.alloc N.out.size _)⟩
   have A:=h.out.2.1 (by simp) e0;injection A with gJ iH;subst gJ;subst iH;clear h;go_wp2;go_ret2
   exact⟨rfl,L.out _ Sm.out⟩
theorem Uv (c:aI)(f:Fr)(d:c.ok)(b:f.ok)(i:c.fm=1\/f.body.size<=1000000)(w:World):
 Calls prog 34 #[c.val,f.val] w fun e w'=>e= .returned (.tuple #[.string (fE c f).1,.int .i64 (fE c f).2])/\Below w.heap.size w w':=by
 cases hr:c.right with
 |true=>
  have o:=(c.bB).1 hr;rcases(by omega:c.fm=1\/c.fm=2\/c.fm=3)with h|h|h
  ·exact Us c f d b h hr w
  ·exact Ut c f d b (i.resolve_left (by omega)) h hr w
  exact Uu c f d b (i.resolve_left (by omega)) h hr w
 |false=>
  have k:fE c f=(ByteArray.empty,1):=by unfold fE;rw[zh (by simp[hr])]
  have l:=za (fun w=>eW c w);rw[hr]at l;rw[k];clear k hr d b i;unfold aI.val Fr.val at*;go_enter func34,ntmps34
  go_wp2_with fail
  refine(l.out _).mono ?_;rintro e m ⟨rfl,j⟩;have n:Below w.heap.size w m:=(((zm w.heap.size w).alloc (zg _) _).alloc (by simp) _).trans (j.mono (by simp;omega));clear j;go_wp2;go_ret2
  exact⟨rfl,n⟩
