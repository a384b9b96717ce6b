/- What the formats tell of bytes: their closures, by any meter or none. -/
import Derived.Test.YtdbmifjankgfpaaGreatDoorKA9
import Derived.Test.YtdbmifjankgfpaaGreatDoorKCoinN
import Derived.Test.YtdbmifjankgfpaaGreatDoorKA20
set_option linter.all false
set_option maxRecDepth 100000
set_option maxHeartbeats 4000000
open Go.Proofs.Tryz
namespace Go.Proofs.YtdbmifjankgfpaaGreatDoor
open Go.RowKit
variable {t R g:Nat}{w V w' V':World}
def xX:=@results63
def Met (w:World):Option Nat->Nat->Nat->Prop
 |none,_,_=>True
 |some g,t,R=>∃a u p,tH w g a u t p/\a<=9223372036854775807/\u+R<=a/\t+R<=9223372036854775807
def nM :Option Nat->Value
 |none=> .pointer none
 |some g=> .pointer (some ⟨g,0,none⟩)
theorem Met.only {L:List Nat}{b:Option Nat}(h:Met w b t R)(c:ae L w w')(e:∀g,b=some g->g∉L):Met w' b t R:=by
 cases b with
 |none=>trivial
 |some g=>
  obtain⟨a,u,p,d,i⟩:=h;exact⟨a,u,p,d.only c (e g rfl),i⟩
theorem Met.lt {b:Option Nat}(h:Met w b t R):∀g,b=some g->g<w.heap.size:=by
 rintro g rfl;obtain⟨a,u,p,c,_⟩:=h;exact c.lt
theorem Met.less {b:Option Nat}{R':Nat}(h:Met w b t R)(i:R'<=R):Met w b t R':=by
 cases b with
 |none=>trivial
 |some g=>
  obtain⟨a,u,p,c,d,j,e⟩:=h;exact⟨a,u,p,c,d,by omega,by omega⟩
structure MS (mo:Option Nat)(t R:Nat)(W0 V:World):Prop where
 only:ae mo.toList W0 V
 met:Met V mo t R
theorem MS.refl {b:Option Nat}{t R:Nat}{w:World}(h:Met w b t R):MS b t R w w:=⟨ae.refl _ _,h⟩
theorem MS.below {c:Option Nat}{b:World}(h:MS c t R b V)(d:Below V.heap.size V V'):MS c t R b V':=
 ⟨h.only.trans' (ae.ah d (zg _)) (by simp),h.met.only (ae.ah d (zg _)) (by simp)⟩
theorem MS.alloc {c:Option Nat}{t R:Nat}{b V:World}(h:MS c t R b V)(o:Obj):MS c t R b (V.alloc o):=h.below ((zl _ _).alloc (zg _) _)
theorem MS.drew {c:Option Nat}{b:World}(h:MS c t R b V):MS c t R b V.drew:=h.below (zl _ _).drew
theorem MS.blk {b:Option Nat}{d:World}(h:MS b t R d V){ty:TypeId}{c:Array Value}(i:af d g ty c)(j:∀k,b=some k->k<g):af V g ty c:=
 i.only h.only (by
  intro e;cases b with
  |none=>simp at e
  |some k=>have:=j k rfl;simp at e;omega)
theorem MS.from {b:Option Nat}{c:World}(h:MS b t R c V)(d:ae b.toList w c):MS b t R w V:=⟨d.trans h.only,h.met⟩
theorem MS.size {mo:Option Nat}{W0:World}(h:MS mo t R W0 V):W0.heap.size<=V.heap.size:=h.only.size
theorem MS.put {c:Option Nat}(h:MS c t R w V){b o:Nat}(e:w.heap.size<=b)(i:∀k,c=some k->k<b)(v:Value):MS c t R w (V.setCell ⟨b,o,none⟩ v):=by
 refine⟨h.only.setCell (.inr (by simpa using e)) _, ?_⟩;have:=h.met;cases c with
 |none=>trivial
 |some g=>
  obtain⟨a,u,p,d,j⟩:=this;exact⟨a,u,p,d.dS (by have:=i g rfl;simp;omega) _,j⟩
theorem MS.ef {e:Option Nat}(h:MS e t R w V){b:Nat}(c:w.heap.size<=b)(d:∀k,e=some k->k<b)(j i l:Value):MS e t R w (((V.setCell ⟨b,0,none⟩ j).setCell ⟨b,1,none⟩ i).setCell ⟨b,2,none⟩ l):=((h.put c d _).put c d _).put c d _
theorem MS.wL (h:MS none t R w V):Below w.heap.size w V:=h.only.below (zg _) (by simp)
theorem iB {c:World}{d e:TypeId}{a b:Array Value}(h:(w.alloc (.cells a d)).alloc (.cells b e)=c):c.heap.size=w.heap.size+2/\Below w.heap.size w c/\af c w.heap.size d a/\af c (w.heap.size+1) e b:=by
 subst h;refine⟨by simp,bD,(af.new w _ _).alloc _, ?_⟩;have:=af.new (w.alloc (.cells a d)) e b;rwa [zp]at this
def pz (x:Int×Fr×Nat×Nat):Value:= .tuple #[x.2.1.val,.int .i64 x.2.2.1,.int .i64 x.1]
theorem Gm (c:aP)(d:Option Nat)(t R:Nat)(s:ByteArray)(x:c.ok)(j:c.fm=1)(S:c.fr<=65536)(N:s.size<=1099511627776)(W w:World)(h:MS d t R W w):
 Calls prog 72 #[c.val,nM d,.string s] w fun e w'=>e= .returned (pz (bp c s))/\MS d (t+(bp c s).2.2.2) (R-(bp c s).2.2.2) W w':=by
 have n:bp c s=((aW c.mg c.fr s).1,⟨0,(aW c.mg c.fr s).2.1,(aW c.mg c.fr s).2.2.1⟩,(aW c.mg c.fr s).2.2.2,0):=by unfold bp;rw[zi j]
 have l:Hid (∀b V,MS d t R b V->Calls prog 73 #[.int .u32 c.mg,.int .i64 c.fr,.string s] V fun e w'=>e= .returned (.tuple #[.agg #[.int .u64 (bp c s).2.1.id,.string (bp c s).2.1.nm,.string (bp c s).2.1.body],.int .i64 (bp c s).2.2.1,.int .i64 (bp c s).1])/\MS d (t+(bp c s).2.2.2) (R-(bp c s).2.2.2) b w'):=za (fun b V C=>
  (JL c.mg c.fr s V x.mg N x.fr (.inr (by omega))).mono fun e w' ⟨j,B⟩=>by rw[n];exact⟨j,C.below B⟩)
 obtain⟨b,o⟩:∃b,(w.alloc (.cells #[.int .i64 c.fm,.int .u32 c.mg,.int .i64 c.fr,.int .i64 c.un,.int .i64 c.de,.int .i64 c.it] 24)).alloc (.cells #[.int .u64 0,.string ⟨#[]⟩,.string ⟨#[]⟩] 84)=b:=⟨_,rfl⟩
 have i:=iB o;have L:Hid (ae d.toList W b):=za (h.only.trans ((ae.ah i.2.1 (zg _)).mono (by simp)));have G:Hid (af b (w.heap.size+1) 84 #[.int .u64 0,.string ⟨#[]⟩,.string ⟨#[]⟩]):=za i.2.2.2;have z:Hid (MS d t R b b):=za (MS.refl (h.met.only (ae.ah i.2.1 (zg _)) (by simp)));have u:Hid (∀k,d=some k->k<w.heap.size+1):=za (fun k E=>by have:=h.met.lt k E;omega);have J:Hid (W.heap.size<=w.heap.size+1):=za (by have:=h.size;omega);have D:=za o;have y:=za n;clear o i h n j;unfold aP.val;generalize nM d=O at*;obtain⟨X,q⟩:∃X,bp c s=X:=⟨_,rfl⟩
 rw[q]at y l⊢;clear q;obtain⟨M,⟨I,K,F⟩,H,m⟩:=X;simp only at l y;go_enter func72,ntmps72
 go_wp2_with fail
 rw[D.out];refine(l.out _ _ z.out).mono ?_;rintro e U ⟨rfl,p⟩;have r:=za (p.blk G.out u.out);have A:=za (p.from L.out);clear p;obtain⟨g0,g1,g2,f0,f1,f2⟩:=aZ r.out;go_wp2;refine zk (v:= .tuple #[.agg #[.int .u64 I,.string K,.string F],.int .i64 H,.int .i64 M]) (by simp[results,results72,go_sem,dT r.out]) rfl ?_;exact⟨rfl,A.out.ef J.out u.out _ _ _⟩
theorem Gn (c:aP)(d:Option Nat)(t R:Nat)(s:ByteArray)(x:c.ok)(j:c.fm=2)(O:c.fr<=65536)(U:s.size<=1099511627776)(W w:World)(h:MS d t R W w):
 Calls prog 77 #[c.val,nM d,.string s] w fun e w'=>e= .returned (pz (bp c s))/\MS d (t+(bp c s).2.2.2) (R-(bp c s).2.2.2) W w':=by
 have n:bp c s=((an c.fr s).1,⟨(an c.fr s).2.1,ByteArray.empty,(an c.fr s).2.2.1⟩,(an c.fr s).2.2.2,0):=by unfold bp;rw[zh (by omega),zi j]
 have l:Hid (∀b V,MS d t R b V->Calls prog 78 #[.int .i64 c.fr,.string s] V fun e w'=>e= .returned (.tuple #[.agg #[.int .u64 (bp c s).2.1.id,.string (bp c s).2.1.nm,.string (bp c s).2.1.body],.int .i64 (bp c s).2.2.1,.int .i64 (bp c s).1])/\MS d (t+(bp c s).2.2.2) (R-(bp c s).2.2.2) b w'):=za (fun b V C=>
  (kt c.fr s V (by omega) x.fr.1 x.fr.2).mono fun e w' ⟨j,B⟩=>by rw[n];exact⟨j,C.below B⟩)
 obtain⟨b,o⟩:∃b,(w.alloc (.cells #[.int .i64 c.fm,.int .u32 c.mg,.int .i64 c.fr,.int .i64 c.un,.int .i64 c.de,.int .i64 c.it] 24)).alloc (.cells #[.int .u64 0,.string ⟨#[]⟩,.string ⟨#[]⟩] 84)=b:=⟨_,rfl⟩
 have i:=iB o;have L:Hid (ae d.toList W b):=za (h.only.trans ((ae.ah i.2.1 (zg _)).mono (by simp)));have G:Hid (af b (w.heap.size+1) 84 #[.int .u64 0,.string ⟨#[]⟩,.string ⟨#[]⟩]):=za i.2.2.2;have z:Hid (MS d t R b b):=za (MS.refl (h.met.only (ae.ah i.2.1 (zg _)) (by simp)));have u:Hid (∀k,d=some k->k<w.heap.size+1):=za (fun k E=>by have:=h.met.lt k E;omega);have J:Hid (W.heap.size<=w.heap.size+1):=za (by have:=h.size;omega);have D:=za o;have y:=za n;clear o i h n j;unfold aP.val;generalize nM d=N at*;obtain⟨X,q⟩:∃X,bp c s=X:=⟨_,rfl⟩
 rw[q]at y l⊢;clear q;obtain⟨M,⟨I,K,F⟩,H,m⟩:=X;simp only at l y;go_enter func77,ntmps77
 go_wp2_with fail
 rw[D.out];refine(l.out _ _ z.out).mono ?_;rintro e S ⟨rfl,p⟩;have r:=za (p.blk G.out u.out);have A:=za (p.from L.out);clear p;obtain⟨g0,g1,g2,f0,f1,f2⟩:=aZ r.out;go_wp2;refine zk (v:= .tuple #[.agg #[.int .u64 I,.string K,.string F],.int .i64 H,.int .i64 M]) (by simp[results,results77,go_sem,dT r.out]) rfl ?_;exact⟨rfl,A.out.ef J.out u.out _ _ _⟩
theorem Gp (c:aP)(b:Option Nat)(t R:Nat)(s:ByteArray)(l:c.ok)(i:c.fm=3)(hf:c.fr<=65536)(hu:c.un<=65536)(hR:70000<=R)(hs:s.size<=1099511627776)(W w:World)(h:MS b t R W w):
 Calls prog 82 #[c.val,nM b,.string s] w fun e w'=>e= .returned (pz (bp c s))/\MS b (t+(bp c s).2.2.2) (R-(bp c s).2.2.2) W w':=by
 have r:bp c s=((aV c.fr c.un s).1,⟨(aV c.fr c.un s).2.1,ByteArray.empty,(aV c.fr c.un s).2.2.1⟩,(aV c.fr c.un s).2.2.2.1,(aV c.fr c.un s).2.2.2.2):=by unfold bp;rw[zh (by omega),zh (by omega)]
 have o:Hid (∀d V,MS b t R d V->Calls prog 83 #[.int .i64 c.fr,.int .i64 c.un,nM b,.string s] V fun e w'=>e= .returned (.tuple #[.agg #[.int .u64 (bp c s).2.1.id,.string (bp c s).2.1.nm,.string (bp c s).2.1.body],.int .i64 (bp c s).2.2.1,.int .i64 (bp c s).1])/\MS b (t+(bp c s).2.2.2) (R-(bp c s).2.2.2) d w'):=za (fun d V x=>by
  rw[r];cases b with
  |none=>exact(vX c.fr c.un s V (by omega) l.fr.1 l.fr.2).mono fun e w' ⟨i,n⟩=>⟨i,⟨x.only.trans' (ae.ah n (zg _)) (by simp),trivial⟩⟩
  |some g=>
   obtain⟨a,u,p,k1,k2,k3,Y⟩:=x.met;have hm:=Jj c.fr c.un s;exact(we c.fr c.un g a u t p s V (by omega) l.fr.1 l.fr.2 k1 k2 (by omega) (by omega) (by omega)).mono fun e w' ⟨i,⟨q,n⟩,K⟩=>⟨i,⟨x.only.trans K,⟨a,_,q,n,k2,by simp only;omega,by simp only;omega⟩⟩⟩)
 obtain⟨d,y⟩:∃d,(w.alloc (.cells #[.int .i64 c.fm,.int .u32 c.mg,.int .i64 c.fr,.int .i64 c.un,.int .i64 c.de,.int .i64 c.it] 24)).alloc (.cells #[.int .u64 0,.string ⟨#[]⟩,.string ⟨#[]⟩] 84)=d:=⟨_,rfl⟩
 have j:=iB y;have S:Hid (ae b.toList W d):=za (h.only.trans ((ae.ah j.2.1 (zg _)).mono (by simp)));have J:Hid (af d (w.heap.size+1) 84 #[.int .u64 0,.string ⟨#[]⟩,.string ⟨#[]⟩]):=za j.2.2.2;have E:Hid (MS b t R d d):=za (MS.refl (h.met.only (ae.ah j.2.1 (zg _)) (by simp)));have C:Hid (∀k,b=some k->k<w.heap.size+1):=za (fun k H=>by have:=h.met.lt k H;omega);have N:Hid (W.heap.size<=w.heap.size+1):=za (by have:=h.size;omega);have G:=za y;have D:=za r;clear y j h r i;unfold aP.val;generalize nM b=Z at*;obtain⟨X,A⟩:∃X,bp c s=X:=⟨_,rfl⟩
 rw[A]at D o⊢;clear A;obtain⟨U,⟨M,O,I⟩,L,m⟩:=X;simp only at o D;go_enter func82,ntmps82
 go_wp2_with fail
 rw[G.out];refine(o.out _ _ E.out).mono ?_;rintro e w1 ⟨rfl,z⟩;have B:=za (z.blk J.out C.out);have F:=za (z.from S.out);clear z;obtain⟨g0,g1,g2,f0,f1,f2⟩:=aZ B.out;go_wp2;refine zk (v:= .tuple #[.agg #[.int .u64 M,.string O,.string I],.int .i64 L,.int .i64 U]) (by simp[results,results82,go_sem,dT B.out]) rfl ?_;exact⟨rfl,F.out.ef N.out C.out _ _ _⟩
theorem af.ms {c:Option Nat}{ty:TypeId}{b:Array Value}(h:af V g ty b)(e:MS c t R V V')(d:∀k,c=some k->k<g):af V' g ty b:=e.blk h d
theorem Met.below {b:Option Nat}(h:Met w b t R)(c:Below w.heap.size w w'):Met w' b t R:=h.only (ae.ah c (zg _)) (by simp)
theorem X5 (c:aP)(d:Option Nat)(t R:Nat)(s:ByteArray)(hc:c.ok)(i:c.fm=1)(hr:c.right=true)(hR:70000<=R)(hs:s.size<=1099511627776)(W w:World)(L:MS d t R W w):
 Calls prog 63 #[c.val,nM d,.string s] w fun e w'=>e= .returned (pz (a8 c s))/\MS d (t+(a8 c s).2.2.2) (R-(a8 c s).2.2.2) W w':=by
 have OE:=(c.dj).1 hr;have D:=za (Gm c d t R s hc i (by omega) hs);clear OE hc hR;have hI:=Q4;have WB:=NS;unfold pO fm1 kJ at hI;unfold fm1 kJ at WB;have HR:=za (fun w=>js c w);rw[hr]at HR;have Tf:=za (b8 hr s);rw[Tf.out];clear Tf;have N:=za (vn c s);unfold aP.val at*;obtain⟨X,Bm⟩:∃X,bp c s=X:=⟨_,rfl⟩
 rw[Bm]at D N⊢;clear Bm;obtain⟨H,⟨A,F,B⟩,K,m⟩:=X;simp only at D N;obtain⟨fm,G,C,y,z,it⟩:=c;simp only at i;subst i;simp only at*;generalize nM d=O at*;obtain⟨h,ca⟩:∃h,(w.alloc (.cells #[.int .i64 1,.int .u32 G,.int .i64 C,.int .i64 y,.int .i64 z,.int .i64 it] 24)).alloc (.cells #[.int .u64 0,.string ⟨#[]⟩,.string ⟨#[]⟩] 84)=h:=⟨_,rfl⟩
 have E:=iB ca;have HO:Hid (ae d.toList W h):=za (L.only.trans ((ae.ah E.2.1 (zg _)).mono (by simp)));have HB:Hid (af h (w.heap.size+1) 84 #[.int .u64 0,.string ⟨#[]⟩,.string ⟨#[]⟩]):=za E.2.2.2;have HM:Hid (Met h d t R):=za (L.met.only (ae.ah E.2.1 (zg _)) (by simp));have U:Hid (∀k,d=some k->k<w.heap.size):=za (L.met.lt);have HL:Hid (W.heap.size<=w.heap.size/\h.heap.size=w.heap.size+2):=za ⟨L.size,E.1⟩;have o:Hid (∀V t R,MS d t R h V->V.cell? ⟨w.heap.size,0,none⟩=some (.int .i64 1)/\V.cell? ⟨w.heap.size,1,none⟩=some (.int .u32 G)/\V.cell? ⟨w.heap.size,2,none⟩=some (.int .i64 C)/\V.cell? ⟨w.heap.size,3,none⟩=some (.int .i64 y)/\V.cell? ⟨w.heap.size,4,none⟩=some (.int .i64 z)/\V.cell? ⟨w.heap.size,5,none⟩=some (.int .i64 it)):=za (fun V t R l=>by
  have x:=l.blk E.2.2.1 U.out;exact⟨x.cell 0,x.cell 1,x.cell 2,x.cell 3,x.cell 4,x.cell 5⟩)
 have cG:=za ca;clear ca E L;go_enter func63,ntmps63
 go_wp2_with fail
 rw[cG.out];refine(HR.out _).mono ?_;rintro e u ⟨rfl,aG⟩;have r:Hid (MS d t R h u):=za ((MS.refl HM.out).below aG);clear aG;obtain⟨q0,q1,q2,q3,q4,q5⟩:=o.out u _ _ r.out;have gC:=za r.out.size;have I:Hid (∀V,MS d t R h V->∀k,d=some k->k<V.heap.size):=za (fun V l=>l.met.lt);have Ag:Hid (Calls prog 46 #[] (u.alloc (.cells #[.int .u64 0,.string ⟨#[]⟩,.string ⟨#[]⟩] 84)).drew fun e w'=>e= .returned pO/\MS d t R h w'/\af w' u.heap.size 84 #[.int .u64 0,.string ⟨#[]⟩,.string ⟨#[]⟩]):=za ((dz _).mono fun e w' ⟨i,j⟩=>⟨i,((r.out.alloc _).drew).below j,(af.new u _ _).drew.ag j (by simp)⟩);have Y:Hid (Calls prog 46 #[] u.drew fun e w'=>e= .returned pO/\MS d t R h w'):=za ((dz _).mono fun e w' ⟨i,j⟩=>⟨i,r.out.drew.below j⟩);have WD:Hid (∀V,MS d t R h V->Calls prog 72 #[.agg #[.int .i64 1,.int .u32 G,.int .i64 C,.int .i64 y,.int .i64 z,.int .i64 it],O,.string s] (V.alloc (.cells #[.int .u64 0,.string ⟨#[]⟩,.string ⟨#[]⟩] 84)) fun e w'=>e= .returned (.tuple #[.agg #[.int .u64 A,.string F,.string B],.int .i64 K,.int .i64 H])/\MS d (t+m) (R-m) h w'/\af w' V.heap.size 84 #[.int .u64 0,.string ⟨#[]⟩,.string ⟨#[]⟩]):=za (fun V l=>
  (D.out _ _ (MS.refl (l.alloc _).met)).mono fun e w' ⟨i,j⟩=>⟨i,j.from (l.alloc _).only,(af.new V _ _).ms j (I.out V l)⟩)
 have WC:Hid (∀V,MS d t R h V->af V u.heap.size 84 #[.int .u64 0,.string ⟨#[]⟩,.string ⟨#[]⟩]->Calls prog 72 #[.agg #[.int .i64 1,.int .u32 G,.int .i64 C,.int .i64 y,.int .i64 z,.int .i64 it],O,.string s] V fun e w'=>e= .returned (.tuple #[.agg #[.int .u64 A,.string F,.string B],.int .i64 K,.int .i64 H])/\MS d (t+m) (R-m) h w'/\af w' u.heap.size 84 #[.int .u64 0,.string ⟨#[]⟩,.string ⟨#[]⟩]):=za (fun V l x=>
  (D.out _ _ (MS.refl l.met)).mono fun e w' ⟨i,j⟩=>⟨i,j.from l.only,x.ms j (I.out u r.out)⟩)
 have tw:Hid (∀V,MS d t R h V->Calls prog 72 #[.agg #[.int .i64 1,.int .u32 G,.int .i64 C,.int .i64 y,.int .i64 z,.int .i64 it],O,.string s] V fun e w'=>e= .returned (.tuple #[.agg #[.int .u64 A,.string F,.string B],.int .i64 K,.int .i64 H])/\MS d (t+m) (R-m) h w'):=za (fun V l=>
  (D.out _ _ (MS.refl l.met)).mono fun e w' ⟨i,j⟩=>⟨i,j.from l.only⟩)
 unfold pO kJ at Ag Y;clear D HR;go_upto_region 3 with fail
 go_cut [9,10,11] (fun v n er wx=>∃M:Nat,v= .pointer (some ⟨M,0,none⟩)/\n= .int .i64 K/\er= .int .i64 H/\Hid (h.heap.size<=M)/\Hid (af wx M 84 #[.int .u64 A,.string F,.string B])/\Hid (MS d (t+m) (R-m) h wx))
 case first=>
  go_wp2_with fail
  go_region_held3 (fun V=>V.cell? ⟨w.heap.size,0,none⟩=some (.int .i64 1)/\V.cell? ⟨w.heap.size,1,none⟩=some (.int .u32 G)/\V.cell? ⟨w.heap.size,2,none⟩=some (.int .i64 C)/\V.cell? ⟨w.heap.size,3,none⟩=some (.int .i64 y)/\V.cell? ⟨w.heap.size,4,none⟩=some (.int .i64 z)/\V.cell? ⟨w.heap.size,5,none⟩=some (.int .i64 it))
   (first|exact o.out _ _ _ r.out|exact o.out _ _ _ r.out.drew|exact o.out _ _ _ ((r.out.alloc _).drew)|exact o.out _ _ _ q|exact o.out _ _ _ p|exact o.out _ _ _ (p.alloc _)|exact o.out _ _ _ (q.alloc _)|exact o.out _ _ _ (q.ef gC.out (I.out _ r.out) _ _ _)|exact o.out _ _ _ (q.ef p.size (I.out _ p) _ _ _))
   (first
    |(go_at_call 72;((with_reducible refine(WC.out _ p hz).mono ?_);rintro e w2 ⟨rfl,q,J⟩;obtain⟨z0,z1,z2,SA,SB,SC⟩:=aZ J))
    |(go_at_call 72;((with_reducible refine(WD.out _ p).mono ?_);rintro e w2 ⟨rfl,q,J⟩;obtain⟨z0,z1,z2,SA,SB,SC⟩:=aZ J))
    |(go_at_call 72;((with_reducible refine(tw.out _ p).mono ?_);rintro e w2 ⟨rfl,q⟩))
    |(go_at_call 46;((with_reducible refine Ag.out.mono ?_);rintro e w' ⟨rfl,p,hz⟩;obtain⟨z0,z1,z2,SA,SB,SC⟩:=aZ hz))
    |(go_at_call 46;((with_reducible refine Y.out.mono ?_);rintro e w' ⟨rfl,p⟩)))
  all_goals
   go_wp2_with fail
   go_meet;case rel=>
    first
     |exact⟨_,rfl,rfl,rfl,za q.size,za (af.new _ _ _),za (q.alloc _)⟩
     |exact⟨_,rfl,rfl,rfl,gC,za (lz J _ _ _),za (q.ef gC.out (I.out _ r.out) _ _ _)⟩
     |exact⟨_,rfl,rfl,rfl,za p.size,za (lz J _ _ _),za (q.ef p.size (I.out _ p) _ _ _)⟩
 case rest=>
  obtain⟨M,rfl,rfl,rfl,Va,DZ,Ah⟩:=hcut;have Z:Hid (af wc (w.heap.size+1) 84 #[.int .u64 0,.string ⟨#[]⟩,.string ⟨#[]⟩]):=za (Ah.out.blk HB.out (fun k S=>by have:=U.out k S;omega));have WE:Hid (MS d (t+m) (R-m) W wc):=za (Ah.out.from HO.out);have WA:Hid (W.heap.size<=w.heap.size+1):=za (by have:=HL.out;omega);have GZ:Hid (∀k,d=some k->k<w.heap.size+1):=za (fun k S=>by have:=U.out k S;omega);obtain⟨g0,g1,g2,f0,f1,f2⟩:=aZ Z.out;obtain⟨k0,k1,k2,_,_,_⟩:=aZ DZ.out;clear Ag Y WD WC tw o q0 q1 q2 q3 q4 q5 hI WB;rcases eP H with⟨h0,i,j⟩|⟨h0,i,j⟩
  ·subst h0;go_wp2;refine zk (v:= .tuple #[.agg #[.int .u64 A,.string F,.string B],.int .i64 K,.int .i64 0]) (by simp[results,xX,go_sem,dT Z.out]) rfl ?_;exact⟨rfl,WE.out.ef WA.out GZ.out _ _ _⟩
  obtain⟨aa,rfl⟩:=N.out h0;obtain⟨rfl,rfl,rfl⟩:A=0/\F=ByteArray.empty/\B=ByteArray.empty:=by injection aa with a b c;exact⟨a,b,c⟩
  clear N;go_wp2;refine zk (v:= .tuple #[.agg #[.int .u64 0,.string ByteArray.empty,.string ByteArray.empty],.int .i64 0,.int .i64 H]) (by simp[results,xX,go_sem,dT Z.out,ot]) rfl ?_;exact⟨rfl,WE.out.ef WA.out GZ.out _ _ _⟩
theorem X6 (c:aP)(d:Option Nat)(t R:Nat)(s:ByteArray)(hc:c.ok)(i:c.fm=2)(hr:c.right=true)(hR:70000<=R)(hs:s.size<=1099511627776)(W w:World)(L:MS d t R W w):
 Calls prog 63 #[c.val,nM d,.string s] w fun e w'=>e= .returned (pz (a8 c s))/\MS d (t+(a8 c s).2.2.2) (R-(a8 c s).2.2.2) W w':=by
 have OE:=(c.dj).1 hr;have D:=za (Gn c d t R s hc i (by omega) hs);clear OE hc hR;have hI:=Q5;have WB:=NT;unfold pO fm2 kJ at hI;unfold fm2 kJ at WB;have HR:=za (fun w=>js c w);rw[hr]at HR;have Tf:=za (b8 hr s);rw[Tf.out];clear Tf;have N:=za (vn c s);unfold aP.val at*;obtain⟨X,Bm⟩:∃X,bp c s=X:=⟨_,rfl⟩
 rw[Bm]at D N⊢;clear Bm;obtain⟨H,⟨A,F,B⟩,K,m⟩:=X;simp only at D N;obtain⟨fm,G,C,y,z,it⟩:=c;simp only at i;subst i;simp only at*;generalize nM d=O at*;obtain⟨h,ca⟩:∃h,(w.alloc (.cells #[.int .i64 2,.int .u32 G,.int .i64 C,.int .i64 y,.int .i64 z,.int .i64 it] 24)).alloc (.cells #[.int .u64 0,.string ⟨#[]⟩,.string ⟨#[]⟩] 84)=h:=⟨_,rfl⟩
 have E:=iB ca;have HO:Hid (ae d.toList W h):=za (L.only.trans ((ae.ah E.2.1 (zg _)).mono (by simp)));have HB:Hid (af h (w.heap.size+1) 84 #[.int .u64 0,.string ⟨#[]⟩,.string ⟨#[]⟩]):=za E.2.2.2;have HM:Hid (Met h d t R):=za (L.met.only (ae.ah E.2.1 (zg _)) (by simp));have U:Hid (∀k,d=some k->k<w.heap.size):=za (L.met.lt);have HL:Hid (W.heap.size<=w.heap.size/\h.heap.size=w.heap.size+2):=za ⟨L.size,E.1⟩;have o:Hid (∀V t R,MS d t R h V->V.cell? ⟨w.heap.size,0,none⟩=some (.int .i64 2)/\V.cell? ⟨w.heap.size,1,none⟩=some (.int .u32 G)/\V.cell? ⟨w.heap.size,2,none⟩=some (.int .i64 C)/\V.cell? ⟨w.heap.size,3,none⟩=some (.int .i64 y)/\V.cell? ⟨w.heap.size,4,none⟩=some (.int .i64 z)/\V.cell? ⟨w.heap.size,5,none⟩=some (.int .i64 it)):=za (fun V t R l=>by
  have x:=l.blk E.2.2.1 U.out;exact⟨x.cell 0,x.cell 1,x.cell 2,x.cell 3,x.cell 4,x.cell 5⟩)
 have cG:=za ca;clear ca E L;go_enter func63,ntmps63
 go_wp2_with fail
 rw[cG.out];refine(HR.out _).mono ?_;rintro e u ⟨rfl,aG⟩;have r:Hid (MS d t R h u):=za ((MS.refl HM.out).below aG);clear aG;obtain⟨q0,q1,q2,q3,q4,q5⟩:=o.out u _ _ r.out;have gC:=za r.out.size;have I:Hid (∀V,MS d t R h V->∀k,d=some k->k<V.heap.size):=za (fun V l=>l.met.lt);have Ag:Hid (Calls prog 46 #[] (u.alloc (.cells #[.int .u64 0,.string ⟨#[]⟩,.string ⟨#[]⟩] 84)).drew fun e w'=>e= .returned pO/\MS d t R h w'/\af w' u.heap.size 84 #[.int .u64 0,.string ⟨#[]⟩,.string ⟨#[]⟩]):=za ((dz _).mono fun e w' ⟨i,j⟩=>⟨i,((r.out.alloc _).drew).below j,(af.new u _ _).drew.ag j (by simp)⟩);have Y:Hid (Calls prog 46 #[] u.drew fun e w'=>e= .returned pO/\MS d t R h w'):=za ((dz _).mono fun e w' ⟨i,j⟩=>⟨i,r.out.drew.below j⟩);have WD:Hid (∀V,MS d t R h V->Calls prog 77 #[.agg #[.int .i64 2,.int .u32 G,.int .i64 C,.int .i64 y,.int .i64 z,.int .i64 it],O,.string s] (V.alloc (.cells #[.int .u64 0,.string ⟨#[]⟩,.string ⟨#[]⟩] 84)) fun e w'=>e= .returned (.tuple #[.agg #[.int .u64 A,.string F,.string B],.int .i64 K,.int .i64 H])/\MS d (t+m) (R-m) h w'/\af w' V.heap.size 84 #[.int .u64 0,.string ⟨#[]⟩,.string ⟨#[]⟩]):=za (fun V l=>
  (D.out _ _ (MS.refl (l.alloc _).met)).mono fun e w' ⟨i,j⟩=>⟨i,j.from (l.alloc _).only,(af.new V _ _).ms j (I.out V l)⟩)
 have WC:Hid (∀V,MS d t R h V->af V u.heap.size 84 #[.int .u64 0,.string ⟨#[]⟩,.string ⟨#[]⟩]->Calls prog 77 #[.agg #[.int .i64 2,.int .u32 G,.int .i64 C,.int .i64 y,.int .i64 z,.int .i64 it],O,.string s] V fun e w'=>e= .returned (.tuple #[.agg #[.int .u64 A,.string F,.string B],.int .i64 K,.int .i64 H])/\MS d (t+m) (R-m) h w'/\af w' u.heap.size 84 #[.int .u64 0,.string ⟨#[]⟩,.string ⟨#[]⟩]):=za (fun V l x=>
  (D.out _ _ (MS.refl l.met)).mono fun e w' ⟨i,j⟩=>⟨i,j.from l.only,x.ms j (I.out u r.out)⟩)
 have tw:Hid (∀V,MS d t R h V->Calls prog 77 #[.agg #[.int .i64 2,.int .u32 G,.int .i64 C,.int .i64 y,.int .i64 z,.int .i64 it],O,.string s] V fun e w'=>e= .returned (.tuple #[.agg #[.int .u64 A,.string F,.string B],.int .i64 K,.int .i64 H])/\MS d (t+m) (R-m) h w'):=za (fun V l=>
  (D.out _ _ (MS.refl l.met)).mono fun e w' ⟨i,j⟩=>⟨i,j.from l.only⟩)
 unfold pO kJ at Ag Y;clear D HR;go_upto_region 3 with fail
 go_cut [9,10,11] (fun v n er wx=>∃M:Nat,v= .pointer (some ⟨M,0,none⟩)/\n= .int .i64 K/\er= .int .i64 H/\Hid (h.heap.size<=M)/\Hid (af wx M 84 #[.int .u64 A,.string F,.string B])/\Hid (MS d (t+m) (R-m) h wx))
 case first=>
  go_wp2_with fail
  go_region_held3 (fun V=>V.cell? ⟨w.heap.size,0,none⟩=some (.int .i64 2)/\V.cell? ⟨w.heap.size,1,none⟩=some (.int .u32 G)/\V.cell? ⟨w.heap.size,2,none⟩=some (.int .i64 C)/\V.cell? ⟨w.heap.size,3,none⟩=some (.int .i64 y)/\V.cell? ⟨w.heap.size,4,none⟩=some (.int .i64 z)/\V.cell? ⟨w.heap.size,5,none⟩=some (.int .i64 it))
   (first|exact o.out _ _ _ r.out|exact o.out _ _ _ r.out.drew|exact o.out _ _ _ ((r.out.alloc _).drew)|exact o.out _ _ _ q|exact o.out _ _ _ p|exact o.out _ _ _ (p.alloc _)|exact o.out _ _ _ (q.alloc _)|exact o.out _ _ _ (q.ef gC.out (I.out _ r.out) _ _ _)|exact o.out _ _ _ (q.ef p.size (I.out _ p) _ _ _))
   (first
    |(go_at_call 77;((with_reducible refine(WC.out _ p hz).mono ?_);rintro e w2 ⟨rfl,q,J⟩;obtain⟨z0,z1,z2,SA,SB,SC⟩:=aZ J))
    |(go_at_call 77;((with_reducible refine(WD.out _ p).mono ?_);rintro e w2 ⟨rfl,q,J⟩;obtain⟨z0,z1,z2,SA,SB,SC⟩:=aZ J))
    |(go_at_call 77;((with_reducible refine(tw.out _ p).mono ?_);rintro e w2 ⟨rfl,q⟩))
    |(go_at_call 46;((with_reducible refine Ag.out.mono ?_);rintro e w' ⟨rfl,p,hz⟩;obtain⟨z0,z1,z2,SA,SB,SC⟩:=aZ hz))
    |(go_at_call 46;((with_reducible refine Y.out.mono ?_);rintro e w' ⟨rfl,p⟩)))
  all_goals
   go_wp2_with fail
   go_meet;case rel=>
    first
     |exact⟨_,rfl,rfl,rfl,za q.size,za (af.new _ _ _),za (q.alloc _)⟩
     |exact⟨_,rfl,rfl,rfl,gC,za (lz J _ _ _),za (q.ef gC.out (I.out _ r.out) _ _ _)⟩
     |exact⟨_,rfl,rfl,rfl,za p.size,za (lz J _ _ _),za (q.ef p.size (I.out _ p) _ _ _)⟩
 case rest=>
  obtain⟨M,rfl,rfl,rfl,Va,DZ,Ah⟩:=hcut;have Z:Hid (af wc (w.heap.size+1) 84 #[.int .u64 0,.string ⟨#[]⟩,.string ⟨#[]⟩]):=za (Ah.out.blk HB.out (fun k S=>by have:=U.out k S;omega));have WE:Hid (MS d (t+m) (R-m) W wc):=za (Ah.out.from HO.out);have WA:Hid (W.heap.size<=w.heap.size+1):=za (by have:=HL.out;omega);have GZ:Hid (∀k,d=some k->k<w.heap.size+1):=za (fun k S=>by have:=U.out k S;omega);obtain⟨g0,g1,g2,f0,f1,f2⟩:=aZ Z.out;obtain⟨k0,k1,k2,_,_,_⟩:=aZ DZ.out;clear Ag Y WD WC tw o q0 q1 q2 q3 q4 q5 hI WB;rcases eP H with⟨h0,i,j⟩|⟨h0,i,j⟩
  ·subst h0;go_wp2;refine zk (v:= .tuple #[.agg #[.int .u64 A,.string F,.string B],.int .i64 K,.int .i64 0]) (by simp[results,xX,go_sem,dT Z.out]) rfl ?_;exact⟨rfl,WE.out.ef WA.out GZ.out _ _ _⟩
  obtain⟨aa,rfl⟩:=N.out h0;obtain⟨rfl,rfl,rfl⟩:A=0/\F=ByteArray.empty/\B=ByteArray.empty:=by injection aa with a b c;exact⟨a,b,c⟩
  clear N;go_wp2;refine zk (v:= .tuple #[.agg #[.int .u64 0,.string ByteArray.empty,.string ByteArray.empty],.int .i64 0,.int .i64 H]) (by simp[results,xX,go_sem,dT Z.out,ot]) rfl ?_;exact⟨rfl,WE.out.ef WA.out GZ.out _ _ _⟩
theorem X7 (c:aP)(d:Option Nat)(t R:Nat)(s:ByteArray)(hc:c.ok)(i:c.fm=3)(hr:c.right=true)(hR:70000<=R)(hs:s.size<=1099511627776)(W w:World)(L:MS d t R W w):
 Calls prog 63 #[c.val,nM d,.string s] w fun e w'=>e= .returned (pz (a8 c s))/\MS d (t+(a8 c s).2.2.2) (R-(a8 c s).2.2.2) W w':=by
 have OE:=(c.dj).1 hr;have D:=za (Gp c d t R s hc i (by omega) (by omega) hR hs);clear OE hc hR;have hI:=Q6;have WB:=NU;unfold pO fm3 kJ at hI;unfold fm3 kJ at WB;have HR:=za (fun w=>js c w);rw[hr]at HR;have Tf:=za (b8 hr s);rw[Tf.out];clear Tf;have N:=za (vn c s);unfold aP.val at*;obtain⟨X,Bm⟩:∃X,bp c s=X:=⟨_,rfl⟩
 rw[Bm]at D N⊢;clear Bm;obtain⟨H,⟨A,F,B⟩,K,m⟩:=X;simp only at D N;obtain⟨fm,G,C,y,z,it⟩:=c;simp only at i;subst i;simp only at*;generalize nM d=O at*;obtain⟨h,ca⟩:∃h,(w.alloc (.cells #[.int .i64 3,.int .u32 G,.int .i64 C,.int .i64 y,.int .i64 z,.int .i64 it] 24)).alloc (.cells #[.int .u64 0,.string ⟨#[]⟩,.string ⟨#[]⟩] 84)=h:=⟨_,rfl⟩
 have E:=iB ca;have HO:Hid (ae d.toList W h):=za (L.only.trans ((ae.ah E.2.1 (zg _)).mono (by simp)));have HB:Hid (af h (w.heap.size+1) 84 #[.int .u64 0,.string ⟨#[]⟩,.string ⟨#[]⟩]):=za E.2.2.2;have HM:Hid (Met h d t R):=za (L.met.only (ae.ah E.2.1 (zg _)) (by simp));have U:Hid (∀k,d=some k->k<w.heap.size):=za (L.met.lt);have HL:Hid (W.heap.size<=w.heap.size/\h.heap.size=w.heap.size+2):=za ⟨L.size,E.1⟩;have o:Hid (∀V t R,MS d t R h V->V.cell? ⟨w.heap.size,0,none⟩=some (.int .i64 3)/\V.cell? ⟨w.heap.size,1,none⟩=some (.int .u32 G)/\V.cell? ⟨w.heap.size,2,none⟩=some (.int .i64 C)/\V.cell? ⟨w.heap.size,3,none⟩=some (.int .i64 y)/\V.cell? ⟨w.heap.size,4,none⟩=some (.int .i64 z)/\V.cell? ⟨w.heap.size,5,none⟩=some (.int .i64 it)):=za (fun V t R l=>by
  have x:=l.blk E.2.2.1 U.out;exact⟨x.cell 0,x.cell 1,x.cell 2,x.cell 3,x.cell 4,x.cell 5⟩)
 have cG:=za ca;clear ca E L;go_enter func63,ntmps63
 go_wp2_with fail
 rw[cG.out];refine(HR.out _).mono ?_;rintro e u ⟨rfl,aG⟩;have r:Hid (MS d t R h u):=za ((MS.refl HM.out).below aG);clear aG;obtain⟨q0,q1,q2,q3,q4,q5⟩:=o.out u _ _ r.out;have gC:=za r.out.size;have I:Hid (∀V,MS d t R h V->∀k,d=some k->k<V.heap.size):=za (fun V l=>l.met.lt);have Ag:Hid (Calls prog 46 #[] (u.alloc (.cells #[.int .u64 0,.string ⟨#[]⟩,.string ⟨#[]⟩] 84)).drew fun e w'=>e= .returned pO/\MS d t R h w'/\af w' u.heap.size 84 #[.int .u64 0,.string ⟨#[]⟩,.string ⟨#[]⟩]):=za ((dz _).mono fun e w' ⟨i,j⟩=>⟨i,((r.out.alloc _).drew).below j,(af.new u _ _).drew.ag j (by simp)⟩);have Y:Hid (Calls prog 46 #[] u.drew fun e w'=>e= .returned pO/\MS d t R h w'):=za ((dz _).mono fun e w' ⟨i,j⟩=>⟨i,r.out.drew.below j⟩);have WD:Hid (∀V,MS d t R h V->Calls prog 82 #[.agg #[.int .i64 3,.int .u32 G,.int .i64 C,.int .i64 y,.int .i64 z,.int .i64 it],O,.string s] (V.alloc (.cells #[.int .u64 0,.string ⟨#[]⟩,.string ⟨#[]⟩] 84)) fun e w'=>e= .returned (.tuple #[.agg #[.int .u64 A,.string F,.string B],.int .i64 K,.int .i64 H])/\MS d (t+m) (R-m) h w'/\af w' V.heap.size 84 #[.int .u64 0,.string ⟨#[]⟩,.string ⟨#[]⟩]):=za (fun V l=>
  (D.out _ _ (MS.refl (l.alloc _).met)).mono fun e w' ⟨i,j⟩=>⟨i,j.from (l.alloc _).only,(af.new V _ _).ms j (I.out V l)⟩)
 have WC:Hid (∀V,MS d t R h V->af V u.heap.size 84 #[.int .u64 0,.string ⟨#[]⟩,.string ⟨#[]⟩]->Calls prog 82 #[.agg #[.int .i64 3,.int .u32 G,.int .i64 C,.int .i64 y,.int .i64 z,.int .i64 it],O,.string s] V fun e w'=>e= .returned (.tuple #[.agg #[.int .u64 A,.string F,.string B],.int .i64 K,.int .i64 H])/\MS d (t+m) (R-m) h w'/\af w' u.heap.size 84 #[.int .u64 0,.string ⟨#[]⟩,.string ⟨#[]⟩]):=za (fun V l x=>
  (D.out _ _ (MS.refl l.met)).mono fun e w' ⟨i,j⟩=>⟨i,j.from l.only,x.ms j (I.out u r.out)⟩)
 have tw:Hid (∀V,MS d t R h V->Calls prog 82 #[.agg #[.int .i64 3,.int .u32 G,.int .i64 C,.int .i64 y,.int .i64 z,.int .i64 it],O,.string s] V fun e w'=>e= .returned (.tuple #[.agg #[.int .u64 A,.string F,.string B],.int .i64 K,.int .i64 H])/\MS d (t+m) (R-m) h w'):=za (fun V l=>
  (D.out _ _ (MS.refl l.met)).mono fun e w' ⟨i,j⟩=>⟨i,j.from l.only⟩)
 unfold pO kJ at Ag Y;clear D HR;go_upto_region 3 with fail
 go_cut [9,10,11] (fun v n er wx=>∃M:Nat,v= .pointer (some ⟨M,0,none⟩)/\n= .int .i64 K/\er= .int .i64 H/\Hid (h.heap.size<=M)/\Hid (af wx M 84 #[.int .u64 A,.string F,.string B])/\Hid (MS d (t+m) (R-m) h wx))
 case first=>
  go_wp2_with fail
  go_region_held3 (fun V=>V.cell? ⟨w.heap.size,0,none⟩=some (.int .i64 3)/\V.cell? ⟨w.heap.size,1,none⟩=some (.int .u32 G)/\V.cell? ⟨w.heap.size,2,none⟩=some (.int .i64 C)/\V.cell? ⟨w.heap.size,3,none⟩=some (.int .i64 y)/\V.cell? ⟨w.heap.size,4,none⟩=some (.int .i64 z)/\V.cell? ⟨w.heap.size,5,none⟩=some (.int .i64 it))
   (first|exact o.out _ _ _ r.out|exact o.out _ _ _ r.out.drew|exact o.out _ _ _ ((r.out.alloc _).drew)|exact o.out _ _ _ q|exact o.out _ _ _ p|exact o.out _ _ _ (p.alloc _)|exact o.out _ _ _ (q.alloc _)|exact o.out _ _ _ (q.ef gC.out (I.out _ r.out) _ _ _)|exact o.out _ _ _ (q.ef p.size (I.out _ p) _ _ _))
   (first
    |(go_at_call 82;((with_reducible refine(WC.out _ p hz).mono ?_);rintro e w2 ⟨rfl,q,J⟩;obtain⟨z0,z1,z2,SA,SB,SC⟩:=aZ J))
    |(go_at_call 82;((with_reducible refine(WD.out _ p).mono ?_);rintro e w2 ⟨rfl,q,J⟩;obtain⟨z0,z1,z2,SA,SB,SC⟩:=aZ J))
    |(go_at_call 82;((with_reducible refine(tw.out _ p).mono ?_);rintro e w2 ⟨rfl,q⟩))
    |(go_at_call 46;((with_reducible refine Ag.out.mono ?_);rintro e w' ⟨rfl,p,hz⟩;obtain⟨z0,z1,z2,SA,SB,SC⟩:=aZ hz))
    |(go_at_call 46;((with_reducible refine Y.out.mono ?_);rintro e w' ⟨rfl,p⟩)))
  all_goals
   go_wp2_with fail
   go_meet;case rel=>
    first
     |exact⟨_,rfl,rfl,rfl,za q.size,za (af.new _ _ _),za (q.alloc _)⟩
     |exact⟨_,rfl,rfl,rfl,gC,za (lz J _ _ _),za (q.ef gC.out (I.out _ r.out) _ _ _)⟩
     |exact⟨_,rfl,rfl,rfl,za p.size,za (lz J _ _ _),za (q.ef p.size (I.out _ p) _ _ _)⟩
 case rest=>
  obtain⟨M,rfl,rfl,rfl,Va,DZ,Ah⟩:=hcut;have Z:Hid (af wc (w.heap.size+1) 84 #[.int .u64 0,.string ⟨#[]⟩,.string ⟨#[]⟩]):=za (Ah.out.blk HB.out (fun k S=>by have:=U.out k S;omega));have WE:Hid (MS d (t+m) (R-m) W wc):=za (Ah.out.from HO.out);have WA:Hid (W.heap.size<=w.heap.size+1):=za (by have:=HL.out;omega);have GZ:Hid (∀k,d=some k->k<w.heap.size+1):=za (fun k S=>by have:=U.out k S;omega);obtain⟨g0,g1,g2,f0,f1,f2⟩:=aZ Z.out;obtain⟨k0,k1,k2,_,_,_⟩:=aZ DZ.out;clear Ag Y WD WC tw o q0 q1 q2 q3 q4 q5 hI WB;rcases eP H with⟨h0,i,j⟩|⟨h0,i,j⟩
  ·subst h0;go_wp2;refine zk (v:= .tuple #[.agg #[.int .u64 A,.string F,.string B],.int .i64 K,.int .i64 0]) (by simp[results,xX,go_sem,dT Z.out]) rfl ?_;exact⟨rfl,WE.out.ef WA.out GZ.out _ _ _⟩
  obtain⟨aa,rfl⟩:=N.out h0;obtain⟨rfl,rfl,rfl⟩:A=0/\F=ByteArray.empty/\B=ByteArray.empty:=by injection aa with a b c;exact⟨a,b,c⟩
  clear N;go_wp2;refine zk (v:= .tuple #[.agg #[.int .u64 0,.string ByteArray.empty,.string ByteArray.empty],.int .i64 0,.int .i64 H]) (by simp[results,xX,go_sem,dT Z.out,ot]) rfl ?_;exact⟨rfl,WE.out.ef WA.out GZ.out _ _ _⟩
theorem X8 (c:aP)(b:Option Nat)(t R:Nat)(s:ByteArray)(q:c.right=false)(W w:World)(h:MS b t R W w):
 Calls prog 63 #[c.val,nM b,.string s] w fun e w'=>e= .returned (pz (a8 c s))/\MS b (t+(a8 c s).2.2.2) (R-(a8 c s).2.2.2) W w':=by
 have m:a8 c s=(1,mQ,0,0):=by unfold a8;rw[q];rfl
 have p:=za (fun w=>js c w);rw[q]at p;rw[m];unfold aP.val at*;generalize nM b=B at*;obtain⟨d,l⟩:∃d,(w.alloc (.cells #[.int .i64 c.fm,.int .u32 c.mg,.int .i64 c.fr,.int .i64 c.un,.int .i64 c.de,.int .i64 c.it] 24)).alloc (.cells #[.int .u64 0,.string ⟨#[]⟩,.string ⟨#[]⟩] 84)=d:=⟨_,rfl⟩
 have i:=iB l;have A:Hid (MS b t R W d):=za (h.below i.2.1);have x:Hid (af d (w.heap.size+1) 84 #[.int .u64 0,.string ⟨#[]⟩,.string ⟨#[]⟩]):=za i.2.2.2;have y:Hid (∀k,b=some k->k<w.heap.size+1):=za (fun k u=>by have:=h.met.lt k u;omega);have o:Hid (W.heap.size<=w.heap.size+1/\d.heap.size=w.heap.size+2):=za ⟨by have:=h.size;omega,i.1⟩;have r:=za l;clear l i h m;go_enter func63,ntmps63
 go_wp2_with fail
 rw[r.out];refine(p.out _).mono ?_;rintro e C ⟨rfl,j⟩;have n:=za (x.out.ag j (by have:=o.out.2;omega));have z:=za (A.out.below j);clear j;obtain⟨g0,g1,g2,f0,f1,f2⟩:=aZ n.out;go_wp2;refine zk (v:= .tuple #[.agg #[.int .u64 0,.string ByteArray.empty,.string ByteArray.empty],.int .i64 0,.int .i64 1]) (by simp[results,xX,go_sem,dT n.out,ot]) rfl ?_;exact⟨rfl,z.out.ef o.out.1 y.out _ _ _⟩
theorem Rc (c:aP)(b:Option Nat)(t R:Nat)(s:ByteArray)(j:c.ok)(i:70000<=R)(k:s.size<=1099511627776)(W w:World)(d:MS b t R W w):
 Calls prog 63 #[c.val,nM b,.string s] w fun e w'=>e= .returned (pz (a8 c s))/\MS b (t+(a8 c s).2.2.2) (R-(a8 c s).2.2.2) W w':=by
 cases hr:c.right with
 |false=>exact X8 c b t R s hr W w d
 |true=>
  have l:=(c.dj).1 hr;rcases(by omega:c.fm=1\/c.fm=2\/c.fm=3)with h|h|h
  ·exact X5 c b t R s j h hr i k W w d
  ·exact X6 c b t R s j h hr i k W w d
  exact X7 c b t R s j h hr i k W w d
theorem Uw (f:Fr)(w:World):Calls prog 69 #[f.val] w fun e w'=>e= .returned (.bool (decide (f.id=0)))/\Below w.heap.size w w':=by
 unfold Fr.val;by_cases h:f.id=0
 ·have hd:decide ((f.id:Int)=0)=true:=by simp[h]
  obtain⟨id,nm,body⟩:=f;simp only at*;subst h;go_enter func69,ntmps69
  go_wp2;go_ret;exact⟨aT (by simp),bD⟩
 have hd:((f.id:Int)==0)=false:=by simpa using h
 obtain⟨id,nm,body⟩:=f;simp only at*;go_enter func69,ntmps69
 go_wp2;go_ret;exact⟨aT (by simp[h]),bD⟩
theorem Lx (f:Fr)(w:World):Calls prog 68 #[f.val] w fun e w'=>e= .returned (.bool (decide (f.nm.size=0)))/\Below w.heap.size w w':=by
 unfold Fr.val;obtain⟨id,nm,body⟩:=f;simp only;rcases eu nm with⟨_,rfl⟩|⟨c,b,d⟩
 ·go_enter func68,ntmps68
  go_wp2;go_ret;exact⟨aT (by rfl),bD⟩
 go_enter func68,ntmps68
 go_wp2;go_ret;exact⟨aT (by simp_all),bD⟩
theorem qU (c:aP)(f:Fr)(i:f.ok)(b:c.fm=1\/f.body.size<=1000000):(aM c f).1.size<=2000000:=by
 unfold aM;split
 ·split
  ·rename_i h
   split
   ·simp
   simp only;rw[lP c.mg f.nm f.body (dH h).2];omega
  simp
 rename_i d
 have b:=b.resolve_left d;split
 ·split
  ·simp
  simp only;rw[bI];have e:=bB 10 ((aR f.id).length+f.body.data.toList.length) (by rw[aa];omega) (by omega);unfold eI;rw[zj,zj];rw[aa]at*;omega
 split
 ·simp
 split
 ·simp
 simp only;rw[bI];have e:=bB 10 ((aR f.id).length+(pack f.body.data.toList).length) (by omega) (by omega);unfold eI;rw[zj,zj];omega
theorem tq (c:aP)(f:Fr)(b:f.ok)(d:f.body.size<=1000000):(aM c f).1.size<=2000000:=qU c f b (.inr d)
theorem X9 (c:aP)(f:Fr)(d:c.ok)(i:f.ok)(h:c.fm=1)(w:World):
 Calls prog 70 #[c.val,f.val] w fun e w'=>e= .returned (.tuple #[.string (aM c f).1,.int .i64 (aM c f).2])/\Below w.heap.size w w':=by
 have j:Hid (∀V,Calls prog 71 #[.int .u32 c.mg,.string f.nm,.string f.body] V fun e w'=>e= .returned (.tuple #[.string (aM c f).1,.int .i64 (aM c f).2])/\Below V.heap.size V w'):=za (fun V=>by
  unfold aM;rw[zi h];cases hm:bZ f.nm with
  |false=>exact(JJ c.mg f.nm f.body V d.mg i.nm hm).mono fun e w' ⟨h,k⟩=>⟨h,by rw[<-k];exact zl _ _⟩
  |true=>
   rw[zi rfl];by_cases b:65536<f.body.size
   ·rw[zi b];exact Du c.mg f.nm f.body V d.mg hm b i.body
   rw[zh b];exact N5 c.mg f.nm f.body V d.mg hm (by omega))
 clear d i h;unfold aP.val Fr.val;generalize aM c f=X at*;obtain⟨B,E⟩:=X;simp only at j;go_enter func70,ntmps70
 go_wp2_with fail
 refine(j.out _).mono ?_;rintro e m ⟨rfl,b⟩;have l:=za ((((zl w.heap.size w).alloc (zg _) _).alloc (by simp) _).trans (b.mono (by simp;omega)));clear b;go_wp2;go_ret2
 exact⟨rfl,l.out⟩
theorem X' (c:aP)(f:Fr)(h:f.ok)(b:f.body.size<=1000000)(i:c.fm=2)(w:World):
 Calls prog 75 #[c.val,f.val] w fun e w'=>e= .returned (.tuple #[.string (aM c f).1,.int .i64 (aM c f).2])/\Below w.heap.size w w':=by
 have j:Hid (∀V,Calls prog 76 #[.int .u64 f.id,.string f.body] V fun e w'=>e= .returned (.tuple #[.string (aM c f).1,.int .i64 (aM c f).2])/\Below V.heap.size V w'):=za (fun V=>by
  unfold aM;rw[zh (by omega),zi i];by_cases d:65536<(aR f.id).length+f.body.size
  ·rw[zi d];exact oN f.id f.body V h.id d b
  rw[zh d];exact vV f.id f.body V h.id (by omega))
 clear h i b;unfold aP.val Fr.val;generalize aM c f=X at*;obtain⟨B,E⟩:=X;simp only at j;go_enter func75,ntmps75
 go_wp2_with fail
 refine(j.out _).mono ?_;rintro e l ⟨rfl,b⟩;have k:=za ((((zl w.heap.size w).alloc (zg _) _).alloc (by simp) _).trans (b.mono (by simp;omega)));clear b;go_wp2;go_ret2
 exact⟨rfl,k.out⟩
theorem Yq (c:aP)(f:Fr)(d:f.ok)(hu:c.un<=65536)(h:c.fm=3)(w:World):
 Calls prog 80 #[c.val,f.val] w fun e w'=>e= .returned (.tuple #[.string (aM c f).1,.int .i64 (aM c f).2])/\Below w.heap.size w w':=by
 by_cases i:c.un<f.body.size
 ·have j:Hid (aM c f=(ByteArray.empty,5)):=za (by unfold aM;rw[zh (by omega),zh (by omega),zi i]);rw[j.out];unfold aP.val Fr.val;clear j hu;have n:=d.body;clear d;obtain⟨o,p,u,q,r,it⟩:=c;obtain⟨id,nm,body⟩:=f;simp only at*;subst h;go_enter func80,ntmps80
  go_wp2;go_ret2
  exact⟨rfl,bD⟩
 have l:Hid (∀V,Calls prog 81 #[.int .u64 f.id,.string f.body] V fun e w'=>e= .returned (.tuple #[.string (aM c f).1,.int .i64 (aM c f).2])/\Below V.heap.size V w'):=za (fun V=>by
  unfold aM;rw[zh (by omega),zh (by omega),zh i];refine(AV f.id f.body V d.id (by omega)).mono fun e w' ⟨h,m⟩=>⟨?_,m⟩
  rw[h];unfold vY vZ;by_cases b:65536<(aR f.id).length+(pack f.body.data.toList).length
  ·rw[zi b,zi b,zi b]
  rw[zh b,zh b,zh b])
 have n:=d.body;clear d hu;unfold aP.val Fr.val;generalize aM c f=X at*;obtain⟨B,E⟩:=X;simp only at l;obtain⟨o,p,u,q,r,it⟩:=c;obtain⟨id,nm,body⟩:=f;simp only at*;subst h;go_enter func80,ntmps80
 go_wp2_with fail
 refine(l.out _).mono ?_;rintro e x ⟨rfl,k⟩;have s:=za ((((zl w.heap.size w).alloc (zg _) _).alloc (by simp) _).trans (k.mono (by simp;omega)));clear k;go_wp2;go_ret2
 exact⟨rfl,s.out⟩
theorem mr {t:TypeId}{a b c d:Value}(h:af w g t #[a,b,c,d]):w.cell? ⟨g,0,none⟩=some a/\w.cell? ⟨g,1,none⟩=some b/\w.cell? ⟨g,2,none⟩=some c/\w.cell? ⟨g,3,none⟩=some d/\w.frozen? ⟨g,0,none⟩=false/\w.frozen? ⟨g,1,none⟩=false/\w.frozen? ⟨g,2,none⟩=false/\w.frozen? ⟨g,3,none⟩=false:=
 ⟨h.cell 0,h.cell 1,h.cell 2,h.cell 3,h.frozen 0,h.frozen 1,h.frozen 2,h.frozen 3⟩
theorem r8 (c:aP)(f:Fr)(d:c.right=true):(hG c f=false->eU c f=(ByteArray.empty,1))/\(hG c f=true->(aM c f).2≠0->eU c f=(ByteArray.empty,(aM c f).2))/\(hG c f=true->(aM c f).2=0->(bp c (aM c f).1).1=5->eU c f=(ByteArray.empty,5))/\(hG c f=true->(aM c f).2=0->(bp c (aM c f).1).1≠5->eU c f=((aM c f).1,0)):=by
 refine⟨fun h=> ?_,fun h b=> ?_,fun h b e=> ?_,fun h b e=> ?_⟩<;>unfold eU
 ·rw[zh (by simp[h])]
 ·rw[zi ⟨d,h⟩,zi b]
 ·rw[zi ⟨d,h⟩,zh (by simp[b]),zi e]
 rw[zi ⟨d,h⟩,zh (by simp[b]),zh e]
theorem Ux (c:aP)(f:Fr)(hc:c.ok)(hf:f.ok)(i:c.fm=1)(hr:c.right=true)(w:World):
 Calls prog 34 #[c.val,f.val] w fun e w'=>e= .returned (.tuple #[.string (eU c f).1,.int .i64 (eU c f).2])/\Below w.heap.size w w':=by
 have OE:=(c.dj).1 hr;have hz:=qU c f hf (.inl i);have tw:=za (Gm c none 0 140000 (aM c f).1 hc i (by omega) (by omega));have HF:Hid (∀V,Calls prog 69 #[f.val] V fun e w'=>e= .returned (.bool (hG c f))/\Below V.heap.size V w'):=za (fun V=>by have:=Uw f V;unfold hG;rw[zi i];exact this);have HY:=za (fun V=>X9 c f hc hf i V);clear OE hc hf hz;have hI:=Q4;unfold pO fm1 kJ at hI;have HR:=za (fun w=>js c w);rw[hr]at HR;have h:=za (r8 c f hr);have M:Hid (∀V,Calls prog 72 #[c.val,.pointer none,.string (aM c f).1] V fun e w'=>e= .returned (pz (bp c (aM c f).1))/\Below V.heap.size V w'):=za (fun V=>(tw.out V V (MS.refl trivial)).mono fun e w' ⟨i,C⟩=>⟨i,C.wL⟩);clear tw;unfold pz Fr.val at*;obtain⟨X,o⟩:∃X,bp c (aM c f).1=X:=⟨_,rfl⟩
 rw[o]at M h;clear o;obtain⟨y5,⟨y1,y2,y3⟩,y4,m⟩:=X;obtain⟨X,o⟩:∃X,aM c f=X:=⟨_,rfl⟩
 rw[o]at M h HY;clear o;obtain⟨S,E⟩:=X;obtain⟨X,o⟩:∃X,eU c f=X:=⟨_,rfl⟩
 rw[o]at h⊢;clear o;obtain⟨P1,P2⟩:=X;obtain⟨ft,pV⟩:∃ft,hG c f=ft:=⟨_,rfl⟩
 rw[pV]at h HF;clear pV;simp only at M h HY;unfold aP.val at*;obtain⟨fm,mg,fr,Y,Z,it⟩:=c;obtain⟨id,nm,body⟩:=f;simp only at*;subst i;obtain⟨b,ca⟩:∃b,(w.alloc (.cells #[.int .i64 1,.int .u32 mg,.int .i64 fr,.int .i64 Y,.int .i64 Z,.int .i64 it] 24)).alloc (.cells #[.int .u64 id,.string nm,.string body] 84)=b:=⟨_,rfl⟩
 have H:=iB ca;have HO:Hid (Below w.heap.size w b):=za H.2.1;have HL:Hid (b.heap.size=w.heap.size+2):=za H.1;have k:Hid (∀V,Below b.heap.size b V->(V.cell? ⟨w.heap.size,0,none⟩=some (.int .i64 1)/\V.cell? ⟨w.heap.size,1,none⟩=some (.int .u32 mg)/\V.cell? ⟨w.heap.size,2,none⟩=some (.int .i64 fr)/\V.cell? ⟨w.heap.size,3,none⟩=some (.int .i64 Y)/\V.cell? ⟨w.heap.size,4,none⟩=some (.int .i64 Z)/\V.cell? ⟨w.heap.size,5,none⟩=some (.int .i64 it))):=za (fun V p=>by
  have j:=H.2.2.1.ag p (by omega);exact⟨j.cell 0,j.cell 1,j.cell 2,j.cell 3,j.cell 4,j.cell 5⟩)
 have SD:Hid (∀V,Below b.heap.size b V->(V.cell? ⟨w.heap.size+1,0,none⟩=some (.int .u64 id)/\V.cell? ⟨w.heap.size+1,1,none⟩=some (.string nm)/\V.cell? ⟨w.heap.size+1,2,none⟩=some (.string body))):=za (fun V p=>by
  have j:=H.2.2.2.ag p (by omega);exact⟨j.cell 0,j.cell 1,j.cell 2⟩)
 have cG:=za ca;clear ca H;go_enter func34,ntmps34
 go_wp2_with fail
 rw[cG.out];refine(HR.out _).mono ?_;rintro e D ⟨rfl,aG⟩;have y:Hid (Below b.heap.size b D):=za aG;clear aG;obtain⟨z,x,r,s,A,u⟩:=k.out D y.out;have d:=za y.out.size;have Ag:Hid (Calls prog 46 #[] (D.alloc (.cells #[.nilFunc,.nilFunc,.nilFunc,.nilFunc] 108)).drew fun e w'=>e= .returned pO/\Below b.heap.size b w'/\af w' D.heap.size 108 #[.nilFunc,.nilFunc,.nilFunc,.nilFunc]):=za ((dz _).mono fun e w' ⟨i,C⟩=>⟨i,((y.out.alloc d.out _).drew).trans (C.mono (by have:=d.out;simp;omega)),(af.new D _ _).drew.ag C (by simp)⟩);have tY:Hid (Calls prog 46 #[] D.drew fun e w'=>e= .returned pO/\Below b.heap.size b w'):=za ((dz _).mono fun e w' ⟨i,C⟩=>⟨i,y.out.drew.trans (C.mono d.out)⟩);unfold pO kJ at Ag tY;clear HR;go_upto_region 3 with fail
 go_cut [6] (fun v wx=>∃F:Nat,v= .pointer (some ⟨F,0,none⟩)/\Hid (b.heap.size<=F)/\Hid (af wx F 108 #[.func (.func 69) #[] #[],.func (.func 70) #[] #[],.func (.func 72) #[] #[],.func (.func 74) #[] #[]])/\Hid (Below b.heap.size b wx))
 case first=>
  go_wp2_with fail
  go_region_held3 (fun V=>V.cell? ⟨w.heap.size,0,none⟩=some (.int .i64 1)/\V.cell? ⟨w.heap.size,1,none⟩=some (.int .u32 mg)/\V.cell? ⟨w.heap.size,2,none⟩=some (.int .i64 fr)/\V.cell? ⟨w.heap.size,3,none⟩=some (.int .i64 Y)/\V.cell? ⟨w.heap.size,4,none⟩=some (.int .i64 Z)/\V.cell? ⟨w.heap.size,5,none⟩=some (.int .i64 it))
   (first|exact k.out _ y.out|exact k.out _ y.out.drew|exact k.out _ ((y.out.alloc d.out _).drew)|exact k.out _ n|exact k.out _ (n.alloc n.size _)|exact k.out _ ((((n.setCell d.out _).setCell d.out _).setCell d.out _).setCell d.out _))
   (first
    |(go_at_call 46;((with_reducible refine Ag.out.mono ?_);rintro e w' ⟨rfl,n,hz⟩;obtain⟨z0,B,z2,z3,SA,SB,SC,aa⟩:=mr hz))
    |(go_at_call 46;((with_reducible refine tY.out.mono ?_);rintro e w' ⟨rfl,n⟩)))
  all_goals
   go_wp2_with fail
   go_meet;case rel=>
    first
     |exact⟨_,rfl,za n.size,za (af.new _ _ _),za (n.alloc n.size _)⟩
     |exact⟨_,rfl,d,za ((((hz.set 0 _).set 1 _).set 2 _).set 3 _),za ((((n.setCell d.out _).setCell d.out _).setCell d.out _).setCell d.out _)⟩
 case rest=>
  obtain⟨F,rfl,Va,DZ,W⟩:=hcut;have Tg:Hid (∀V,Below wc.heap.size wc V->Below b.heap.size b V/\af V F 108 #[.func (.func 69) #[] #[],.func (.func 70) #[] #[],.func (.func 72) #[] #[],.func (.func 74) #[] #[]]):=za (fun V p=>⟨W.out.trans (p.mono W.out.size),DZ.out.ag p DZ.out.lt⟩);have L:Hid (∀V,Below b.heap.size b V->Below w.heap.size w V):=za (fun V p=>HO.out.trans (p.mono (by have:=HL.out;omega)));clear Ag tY z x r s A u hI;obtain⟨z,x,r,s,A,u⟩:=k.out wc W.out;obtain⟨I,G,J⟩:=SD.out wc W.out;obtain⟨z0,B,z2,z3,_⟩:=mr DZ.out;go_wp2_with fail
  refine(HF.out _).mono ?_;rintro e w2 ⟨rfl,l⟩;obtain⟨R,kC⟩:=Tg.out w2 l;have dm:=za l;have S5:=za R;clear z x r s A u I G J z0 B z2 z3 l;obtain⟨z,x,r,s,A,u⟩:=k.out w2 R;obtain⟨I,G,J⟩:=SD.out w2 R;obtain⟨z0,B,z2,z3,_⟩:=mr kC;clear R kC;cases ft with
  |false=>
   have q:=h.out.1 (by simp);injection q with gB ir;subst gB;subst ir;clear h;go_wp2;go_ret2
   exact⟨rfl,L.out _ S5.out⟩
  |true=>
   go_wp2_with fail
   refine(HY.out _).mono ?_;rintro e w3 ⟨rfl,l⟩;have j6:Hid (Below wc.heap.size wc w3):=za (dm.out.trans (l.mono dm.out.size));obtain⟨N,tu⟩:=Tg.out w3 j6.out;have SE:=za N;clear z x r s A u I G J z0 B z2 z3 l;obtain⟨z,x,r,s,A,u⟩:=k.out w3 N;obtain⟨I,G,J⟩:=SD.out w3 N;obtain⟨z0,B,z2,z3,_⟩:=mr tu;clear N tu;rcases eP E with⟨e0,e1,e2⟩|⟨e0,e1,e2⟩
   ·subst e0;have K:=za (And.intro (h.out.2.2.1 (by simp) (by simp)) (h.out.2.2.2 (by simp) (by simp)));clear h;go_wp2_with fail
    refine(M.out _).mono ?_;rintro e w4 ⟨rfl,l⟩;have U:Hid (Below b.heap.size b w4):=za (SE.out.trans (l.mono SE.out.size));clear z x r s A u I G J z0 B z2 z3 l;by_cases O:y5=5
    ·have q:=K.out.1 O;injection q with gB ir;subst gB;subst ir;subst O;clear K;go_wp2;go_ret2
     exact⟨rfl,L.out _ (U.out.alloc U.out.size _)⟩
    have q:=K.out.2 O;injection q with gB ir;subst gB;subst ir;clear K;have h6:(y5==5)=false:=by simpa using O
    go_wp2;go_ret2
    exact⟨rfl,L.out _ (U.out.alloc U.out.size _)⟩
   have q:=h.out.2.1 (by simp) e0;injection q with gB ir;subst gB;subst ir;clear h;go_wp2;go_ret2
   exact⟨rfl,L.out _ SE.out⟩
theorem Uy (c:aP)(f:Fr)(hc:c.ok)(hf:f.ok)(d:f.body.size<=1000000)(l:c.fm=2)(hr:c.right=true)(w:World):
 Calls prog 34 #[c.val,f.val] w fun e w'=>e= .returned (.tuple #[.string (eU c f).1,.int .i64 (eU c f).2])/\Below w.heap.size w w':=by
 have OE:=(c.dj).1 hr;have hz:=tq c f hf d;have tw:=za (Gn c none 0 140000 (aM c f).1 hc l (by omega) (by omega));have HF:Hid (∀V,Calls prog 68 #[f.val] V fun e w'=>e= .returned (.bool (hG c f))/\Below V.heap.size V w'):=za (fun V=>by have:=Lx f V;unfold hG;rw[zh (by omega)];exact this);have HY:=za (fun V=>X' c f hf d l V);clear OE hc hf d hz;have hI:=Q5;unfold pO fm2 kJ at hI;have HR:=za (fun w=>js c w);rw[hr]at HR;have i:=za (r8 c f hr);have M:Hid (∀V,Calls prog 77 #[c.val,.pointer none,.string (aM c f).1] V fun e w'=>e= .returned (pz (bp c (aM c f).1))/\Below V.heap.size V w'):=za (fun V=>(tw.out V V (MS.refl trivial)).mono fun e w' ⟨l,C⟩=>⟨l,C.wL⟩);clear tw;unfold pz Fr.val at*;obtain⟨X,o⟩:∃X,bp c (aM c f).1=X:=⟨_,rfl⟩
 rw[o]at M i;clear o;obtain⟨y5,⟨y1,y2,y3⟩,y4,m⟩:=X;obtain⟨X,o⟩:∃X,aM c f=X:=⟨_,rfl⟩
 rw[o]at M i HY;clear o;obtain⟨S,E⟩:=X;obtain⟨X,o⟩:∃X,eU c f=X:=⟨_,rfl⟩
 rw[o]at i⊢;clear o;obtain⟨P1,P2⟩:=X;obtain⟨ft,pV⟩:∃ft,hG c f=ft:=⟨_,rfl⟩
 rw[pV]at i HF;clear pV;simp only at M i HY;unfold aP.val at*;obtain⟨fm,mg,fr,Y,Z,it⟩:=c;obtain⟨id,nm,body⟩:=f;simp only at*;subst l;obtain⟨b,ca⟩:∃b,(w.alloc (.cells #[.int .i64 2,.int .u32 mg,.int .i64 fr,.int .i64 Y,.int .i64 Z,.int .i64 it] 24)).alloc (.cells #[.int .u64 id,.string nm,.string body] 84)=b:=⟨_,rfl⟩
 have H:=iB ca;have HO:Hid (Below w.heap.size w b):=za H.2.1;have HL:Hid (b.heap.size=w.heap.size+2):=za H.1;have k:Hid (∀V,Below b.heap.size b V->(V.cell? ⟨w.heap.size,0,none⟩=some (.int .i64 2)/\V.cell? ⟨w.heap.size,1,none⟩=some (.int .u32 mg)/\V.cell? ⟨w.heap.size,2,none⟩=some (.int .i64 fr)/\V.cell? ⟨w.heap.size,3,none⟩=some (.int .i64 Y)/\V.cell? ⟨w.heap.size,4,none⟩=some (.int .i64 Z)/\V.cell? ⟨w.heap.size,5,none⟩=some (.int .i64 it))):=za (fun V p=>by
  have j:=H.2.2.1.ag p (by omega);exact⟨j.cell 0,j.cell 1,j.cell 2,j.cell 3,j.cell 4,j.cell 5⟩)
 have SD:Hid (∀V,Below b.heap.size b V->(V.cell? ⟨w.heap.size+1,0,none⟩=some (.int .u64 id)/\V.cell? ⟨w.heap.size+1,1,none⟩=some (.string nm)/\V.cell? ⟨w.heap.size+1,2,none⟩=some (.string body))):=za (fun V p=>by
  have j:=H.2.2.2.ag p (by omega);exact⟨j.cell 0,j.cell 1,j.cell 2⟩)
 have cG:=za ca;clear ca H;go_enter func34,ntmps34
 go_wp2_with fail
 rw[cG.out];refine(HR.out _).mono ?_;rintro e D ⟨rfl,aG⟩;have y:Hid (Below b.heap.size b D):=za aG;clear aG;obtain⟨z,x,r,s,A,u⟩:=k.out D y.out;have h:=za y.out.size;have Ag:Hid (Calls prog 46 #[] (D.alloc (.cells #[.nilFunc,.nilFunc,.nilFunc,.nilFunc] 108)).drew fun e w'=>e= .returned pO/\Below b.heap.size b w'/\af w' D.heap.size 108 #[.nilFunc,.nilFunc,.nilFunc,.nilFunc]):=za ((dz _).mono fun e w' ⟨l,C⟩=>⟨l,((y.out.alloc h.out _).drew).trans (C.mono (by have:=h.out;simp;omega)),(af.new D _ _).drew.ag C (by simp)⟩);have tY:Hid (Calls prog 46 #[] D.drew fun e w'=>e= .returned pO/\Below b.heap.size b w'):=za ((dz _).mono fun e w' ⟨l,C⟩=>⟨l,y.out.drew.trans (C.mono h.out)⟩);unfold pO kJ at Ag tY;clear HR;go_upto_region 3 with fail
 go_cut [6] (fun v wx=>∃F:Nat,v= .pointer (some ⟨F,0,none⟩)/\Hid (b.heap.size<=F)/\Hid (af wx F 108 #[.func (.func 68) #[] #[],.func (.func 75) #[] #[],.func (.func 77) #[] #[],.func (.func 79) #[] #[]])/\Hid (Below b.heap.size b wx))
 case first=>
  go_wp2_with fail
  go_region_held3 (fun V=>V.cell? ⟨w.heap.size,0,none⟩=some (.int .i64 2)/\V.cell? ⟨w.heap.size,1,none⟩=some (.int .u32 mg)/\V.cell? ⟨w.heap.size,2,none⟩=some (.int .i64 fr)/\V.cell? ⟨w.heap.size,3,none⟩=some (.int .i64 Y)/\V.cell? ⟨w.heap.size,4,none⟩=some (.int .i64 Z)/\V.cell? ⟨w.heap.size,5,none⟩=some (.int .i64 it))
   (first|exact k.out _ y.out|exact k.out _ y.out.drew|exact k.out _ ((y.out.alloc h.out _).drew)|exact k.out _ n|exact k.out _ (n.alloc n.size _)|exact k.out _ ((((n.setCell h.out _).setCell h.out _).setCell h.out _).setCell h.out _))
   (first
    |(go_at_call 46;((with_reducible refine Ag.out.mono ?_);rintro e w' ⟨rfl,n,hz⟩;obtain⟨z0,B,z2,z3,SA,SB,SC,aa⟩:=mr hz))
    |(go_at_call 46;((with_reducible refine tY.out.mono ?_);rintro e w' ⟨rfl,n⟩)))
  all_goals
   go_wp2_with fail
   go_meet;case rel=>
    first
     |exact⟨_,rfl,za n.size,za (af.new _ _ _),za (n.alloc n.size _)⟩
     |exact⟨_,rfl,h,za ((((hz.set 0 _).set 1 _).set 2 _).set 3 _),za ((((n.setCell h.out _).setCell h.out _).setCell h.out _).setCell h.out _)⟩
 case rest=>
  obtain⟨F,rfl,Va,DZ,W⟩:=hcut;have Tg:Hid (∀V,Below wc.heap.size wc V->Below b.heap.size b V/\af V F 108 #[.func (.func 68) #[] #[],.func (.func 75) #[] #[],.func (.func 77) #[] #[],.func (.func 79) #[] #[]]):=za (fun V p=>⟨W.out.trans (p.mono W.out.size),DZ.out.ag p DZ.out.lt⟩);have L:Hid (∀V,Below b.heap.size b V->Below w.heap.size w V):=za (fun V p=>HO.out.trans (p.mono (by have:=HL.out;omega)));clear Ag tY z x r s A u hI;obtain⟨z,x,r,s,A,u⟩:=k.out wc W.out;obtain⟨I,G,J⟩:=SD.out wc W.out;obtain⟨z0,B,z2,z3,_⟩:=mr DZ.out;go_wp2_with fail
  refine(HF.out _).mono ?_;rintro e w2 ⟨rfl,d⟩;obtain⟨R,kC⟩:=Tg.out w2 d;have dm:=za d;have S5:=za R;clear z x r s A u I G J z0 B z2 z3 d;obtain⟨z,x,r,s,A,u⟩:=k.out w2 R;obtain⟨I,G,J⟩:=SD.out w2 R;obtain⟨z0,B,z2,z3,_⟩:=mr kC;clear R kC;cases ft with
  |false=>
   have q:=i.out.1 (by simp);injection q with gB ir;subst gB;subst ir;clear i;go_wp2;go_ret2
   exact⟨rfl,L.out _ S5.out⟩
  |true=>
   go_wp2_with fail
   refine(HY.out _).mono ?_;rintro e w3 ⟨rfl,d⟩;have j6:Hid (Below wc.heap.size wc w3):=za (dm.out.trans (d.mono dm.out.size));obtain⟨N,tu⟩:=Tg.out w3 j6.out;have SE:=za N;clear z x r s A u I G J z0 B z2 z3 d;obtain⟨z,x,r,s,A,u⟩:=k.out w3 N;obtain⟨I,G,J⟩:=SD.out w3 N;obtain⟨z0,B,z2,z3,_⟩:=mr tu;clear N tu;rcases eP E with⟨e0,e1,e2⟩|⟨e0,e1,e2⟩
   ·subst e0;have K:=za (And.intro (i.out.2.2.1 (by simp) (by simp)) (i.out.2.2.2 (by simp) (by simp)));clear i;go_wp2_with fail
    refine(M.out _).mono ?_;rintro e w4 ⟨rfl,d⟩;have U:Hid (Below b.heap.size b w4):=za (SE.out.trans (d.mono SE.out.size));clear z x r s A u I G J z0 B z2 z3 d;by_cases O:y5=5
    ·have q:=K.out.1 O;injection q with gB ir;subst gB;subst ir;subst O;clear K;go_wp2;go_ret2
     exact⟨rfl,L.out _ (U.out.alloc U.out.size _)⟩
    have q:=K.out.2 O;injection q with gB ir;subst gB;subst ir;clear K;have h6:(y5==5)=false:=by simpa using O
    go_wp2;go_ret2
    exact⟨rfl,L.out _ (U.out.alloc U.out.size _)⟩
   have q:=i.out.2.1 (by simp) e0;injection q with gB ir;subst gB;subst ir;clear i;go_wp2;go_ret2
   exact⟨rfl,L.out _ SE.out⟩
theorem Uz (c:aP)(f:Fr)(hc:c.ok)(hf:f.ok)(h:f.body.size<=1000000)(l:c.fm=3)(hr:c.right=true)(w:World):
 Calls prog 34 #[c.val,f.val] w fun e w'=>e= .returned (.tuple #[.string (eU c f).1,.int .i64 (eU c f).2])/\Below w.heap.size w w':=by
 have OE:=(c.dj).1 hr;have hz:=tq c f hf h;have tw:=za (Gp c none 0 140000 (aM c f).1 hc l (by omega) (by omega) (by omega) (by omega));have HF:Hid (∀V,Calls prog 68 #[f.val] V fun e w'=>e= .returned (.bool (hG c f))/\Below V.heap.size V w'):=za (fun V=>by have:=Lx f V;unfold hG;rw[zh (by omega)];exact this);have HY:=za (fun V=>Yq c f hf (by omega) l V);clear OE hc hf h hz;have hI:=Q6;unfold pO fm3 kJ at hI;have HR:=za (fun w=>js c w);rw[hr]at HR;have i:=za (r8 c f hr);have M:Hid (∀V,Calls prog 82 #[c.val,.pointer none,.string (aM c f).1] V fun e w'=>e= .returned (pz (bp c (aM c f).1))/\Below V.heap.size V w'):=za (fun V=>(tw.out V V (MS.refl trivial)).mono fun e w' ⟨l,C⟩=>⟨l,C.wL⟩);clear tw;unfold pz Fr.val at*;obtain⟨X,o⟩:∃X,bp c (aM c f).1=X:=⟨_,rfl⟩
 rw[o]at M i;clear o;obtain⟨y5,⟨y1,y2,y3⟩,y4,m⟩:=X;obtain⟨X,o⟩:∃X,aM c f=X:=⟨_,rfl⟩
 rw[o]at M i HY;clear o;obtain⟨S,E⟩:=X;obtain⟨X,o⟩:∃X,eU c f=X:=⟨_,rfl⟩
 rw[o]at i⊢;clear o;obtain⟨P1,P2⟩:=X;obtain⟨ft,pV⟩:∃ft,hG c f=ft:=⟨_,rfl⟩
 rw[pV]at i HF;clear pV;simp only at M i HY;unfold aP.val at*;obtain⟨fm,mg,fr,Y,Z,it⟩:=c;obtain⟨id,nm,body⟩:=f;simp only at*;subst l;obtain⟨b,ca⟩:∃b,(w.alloc (.cells #[.int .i64 3,.int .u32 mg,.int .i64 fr,.int .i64 Y,.int .i64 Z,.int .i64 it] 24)).alloc (.cells #[.int .u64 id,.string nm,.string body] 84)=b:=⟨_,rfl⟩
 have H:=iB ca;have HO:Hid (Below w.heap.size w b):=za H.2.1;have HL:Hid (b.heap.size=w.heap.size+2):=za H.1;have k:Hid (∀V,Below b.heap.size b V->(V.cell? ⟨w.heap.size,0,none⟩=some (.int .i64 3)/\V.cell? ⟨w.heap.size,1,none⟩=some (.int .u32 mg)/\V.cell? ⟨w.heap.size,2,none⟩=some (.int .i64 fr)/\V.cell? ⟨w.heap.size,3,none⟩=some (.int .i64 Y)/\V.cell? ⟨w.heap.size,4,none⟩=some (.int .i64 Z)/\V.cell? ⟨w.heap.size,5,none⟩=some (.int .i64 it))):=za (fun V p=>by
  have j:=H.2.2.1.ag p (by omega);exact⟨j.cell 0,j.cell 1,j.cell 2,j.cell 3,j.cell 4,j.cell 5⟩)
 have SD:Hid (∀V,Below b.heap.size b V->(V.cell? ⟨w.heap.size+1,0,none⟩=some (.int .u64 id)/\V.cell? ⟨w.heap.size+1,1,none⟩=some (.string nm)/\V.cell? ⟨w.heap.size+1,2,none⟩=some (.string body))):=za (fun V p=>by
  have j:=H.2.2.2.ag p (by omega);exact⟨j.cell 0,j.cell 1,j.cell 2⟩)
 have cG:=za ca;clear ca H;go_enter func34,ntmps34
 go_wp2_with fail
 rw[cG.out];refine(HR.out _).mono ?_;rintro e D ⟨rfl,aG⟩;have y:Hid (Below b.heap.size b D):=za aG;clear aG;obtain⟨z,x,r,s,A,u⟩:=k.out D y.out;have d:=za y.out.size;have Ag:Hid (Calls prog 46 #[] (D.alloc (.cells #[.nilFunc,.nilFunc,.nilFunc,.nilFunc] 108)).drew fun e w'=>e= .returned pO/\Below b.heap.size b w'/\af w' D.heap.size 108 #[.nilFunc,.nilFunc,.nilFunc,.nilFunc]):=za ((dz _).mono fun e w' ⟨l,C⟩=>⟨l,((y.out.alloc d.out _).drew).trans (C.mono (by have:=d.out;simp;omega)),(af.new D _ _).drew.ag C (by simp)⟩);have tY:Hid (Calls prog 46 #[] D.drew fun e w'=>e= .returned pO/\Below b.heap.size b w'):=za ((dz _).mono fun e w' ⟨l,C⟩=>⟨l,y.out.drew.trans (C.mono d.out)⟩);unfold pO kJ at Ag tY;clear HR;go_upto_region 3 with fail
 go_cut [6] (fun v wx=>∃F:Nat,v= .pointer (some ⟨F,0,none⟩)/\Hid (b.heap.size<=F)/\Hid (af wx F 108 #[.func (.func 68) #[] #[],.func (.func 80) #[] #[],.func (.func 82) #[] #[],.func (.func 79) #[] #[]])/\Hid (Below b.heap.size b wx))
 case first=>
  go_wp2_with fail
  go_region_held3 (fun V=>V.cell? ⟨w.heap.size,0,none⟩=some (.int .i64 3)/\V.cell? ⟨w.heap.size,1,none⟩=some (.int .u32 mg)/\V.cell? ⟨w.heap.size,2,none⟩=some (.int .i64 fr)/\V.cell? ⟨w.heap.size,3,none⟩=some (.int .i64 Y)/\V.cell? ⟨w.heap.size,4,none⟩=some (.int .i64 Z)/\V.cell? ⟨w.heap.size,5,none⟩=some (.int .i64 it))
   (first|exact k.out _ y.out|exact k.out _ y.out.drew|exact k.out _ ((y.out.alloc d.out _).drew)|exact k.out _ n|exact k.out _ (n.alloc n.size _)|exact k.out _ ((((n.setCell d.out _).setCell d.out _).setCell d.out _).setCell d.out _))
   (first
    |(go_at_call 46;((with_reducible refine Ag.out.mono ?_);rintro e w' ⟨rfl,n,hz⟩;obtain⟨z0,B,z2,z3,SA,SB,SC,aa⟩:=mr hz))
    |(go_at_call 46;((with_reducible refine tY.out.mono ?_);rintro e w' ⟨rfl,n⟩)))
  all_goals
   go_wp2_with fail
   go_meet;case rel=>
    first
     |exact⟨_,rfl,za n.size,za (af.new _ _ _),za (n.alloc n.size _)⟩
     |exact⟨_,rfl,d,za ((((hz.set 0 _).set 1 _).set 2 _).set 3 _),za ((((n.setCell d.out _).setCell d.out _).setCell d.out _).setCell d.out _)⟩
 case rest=>
  obtain⟨F,rfl,Va,DZ,W⟩:=hcut;have Tg:Hid (∀V,Below wc.heap.size wc V->Below b.heap.size b V/\af V F 108 #[.func (.func 68) #[] #[],.func (.func 80) #[] #[],.func (.func 82) #[] #[],.func (.func 79) #[] #[]]):=za (fun V p=>⟨W.out.trans (p.mono W.out.size),DZ.out.ag p DZ.out.lt⟩);have L:Hid (∀V,Below b.heap.size b V->Below w.heap.size w V):=za (fun V p=>HO.out.trans (p.mono (by have:=HL.out;omega)));clear Ag tY z x r s A u hI;obtain⟨z,x,r,s,A,u⟩:=k.out wc W.out;obtain⟨I,G,J⟩:=SD.out wc W.out;obtain⟨z0,B,z2,z3,_⟩:=mr DZ.out;go_wp2_with fail
  refine(HF.out _).mono ?_;rintro e w2 ⟨rfl,h⟩;obtain⟨R,kC⟩:=Tg.out w2 h;have dm:=za h;have S5:=za R;clear z x r s A u I G J z0 B z2 z3 h;obtain⟨z,x,r,s,A,u⟩:=k.out w2 R;obtain⟨I,G,J⟩:=SD.out w2 R;obtain⟨z0,B,z2,z3,_⟩:=mr kC;clear R kC;cases ft with
  |false=>
   have q:=i.out.1 (by simp);injection q with gB ir;subst gB;subst ir;clear i;go_wp2;go_ret2
   exact⟨rfl,L.out _ S5.out⟩
  |true=>
   go_wp2_with fail
   refine(HY.out _).mono ?_;rintro e w3 ⟨rfl,h⟩;have j6:Hid (Below wc.heap.size wc w3):=za (dm.out.trans (h.mono dm.out.size));obtain⟨N,tu⟩:=Tg.out w3 j6.out;have SE:=za N;clear z x r s A u I G J z0 B z2 z3 h;obtain⟨z,x,r,s,A,u⟩:=k.out w3 N;obtain⟨I,G,J⟩:=SD.out w3 N;obtain⟨z0,B,z2,z3,_⟩:=mr tu;clear N tu;rcases eP E with⟨e0,e1,e2⟩|⟨e0,e1,e2⟩
   ·subst e0;have K:=za (And.intro (i.out.2.2.1 (by simp) (by simp)) (i.out.2.2.2 (by simp) (by simp)));clear i;go_wp2_with fail
    refine(M.out _).mono ?_;rintro e w4 ⟨rfl,h⟩;have U:Hid (Below b.heap.size b w4):=za (SE.out.trans (h.mono SE.out.size));clear z x r s A u I G J z0 B z2 z3 h;by_cases O:y5=5
    ·have q:=K.out.1 O;injection q with gB ir;subst gB;subst ir;subst O;clear K;go_wp2;go_ret2
     exact⟨rfl,L.out _ (U.out.alloc U.out.size _)⟩
    have q:=K.out.2 O;injection q with gB ir;subst gB;subst ir;clear K;have h6:(y5==5)=false:=by simpa using O
    go_wp2;go_ret2
    exact⟨rfl,L.out _ (U.out.alloc U.out.size _)⟩
   have q:=i.out.2.1 (by simp) e0;injection q with gB ir;subst gB;subst ir;clear i;go_wp2;go_ret2
   exact⟨rfl,L.out _ SE.out⟩
theorem UA (c:aP)(f:Fr)(d:c.ok)(b:f.ok)(i:c.fm=1\/f.body.size<=1000000)(w:World):
 Calls prog 34 #[c.val,f.val] w fun e w'=>e= .returned (.tuple #[.string (eU c f).1,.int .i64 (eU c f).2])/\Below w.heap.size w w':=by
 cases hr:c.right with
 |true=>
  have o:=(c.dj).1 hr;rcases(by omega:c.fm=1\/c.fm=2\/c.fm=3)with h|h|h
  ·exact Ux c f d b h hr w
  ·exact Uy c f d b (i.resolve_left (by omega)) h hr w
  exact Uz c f d b (i.resolve_left (by omega)) h hr w
 |false=>
  have k:eU c f=(ByteArray.empty,1):=by unfold eU;rw[zh (by simp[hr])]
  have l:=za (fun w=>js c w);rw[hr]at l;rw[k];clear k hr d b i;unfold aP.val Fr.val at*;go_enter func34,ntmps34
  go_wp2_with fail
  refine(l.out _).mono ?_;rintro e n ⟨rfl,j⟩;have m:Below w.heap.size w n:=(((zl w.heap.size w).alloc (zg _) _).alloc (by simp) _).trans (j.mono (by simp;omega));clear j;go_wp2;go_ret2
  exact⟨rfl,m⟩
