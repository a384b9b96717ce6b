/- What the formats tell of bytes: their closures, by any meter or none. -/
import Derived.Test.YtimoclkoflamkaaGreatDoorKA31
import Derived.Test.YtimoclkoflamkaaGreatDoorKCoinN
import Derived.Test.YtimoclkoflamkaaGreatDoorKA16
set_option linter.all false
set_option maxRecDepth 100000
set_option maxHeartbeats 12000000
open Go.Proofs.Tryz
namespace Go.Proofs.YtimoclkoflamkaaGreatDoor
open Go.RowKit
variable {t R g R':Nat}{w V w' V':World}{a:Array Value}{P:Program}{f:FuncId}{E:Ending}
def Met (w:World):Option Nat->Nat->Nat->Prop
 |none,_,_=>True
 |some g,t,R=>∃a u p,tM w g a u t p/\a<=9223372036854775807/\u+R<=a/\t+R<=9223372036854775807
def sn :Option Nat->Value
 |none=> .pointer none
 |some g=> .pointer (some (g,0))
theorem Met.only {L:List Nat}{b:Option Nat}(h:Met w b t R)(d:ae L w w')(e:∀g,b=some g->g∉L):Met w' b t R:=by
 cases b with
 |none=>trivial
 |some g=>
  obtain⟨a,u,p,i,c⟩:=h;exact⟨a,u,p,i.only d (e g rfl),c⟩
theorem Met.lt {b:Option Nat}(h:Met w b t R):∀g,b=some g->g<w.heap.size:=by
 rintro g rfl;obtain⟨a,u,p,c,_⟩:=h;exact c.lt
theorem Met.less {b:Option Nat}(h:Met w b t R)(i:R'<=R):Met w b t R':=by
 cases b with
 |none=>trivial
 |some g=>
  obtain⟨a,u,p,d,c,e,j⟩:=h;exact⟨a,u,p,d,c,by omega,by omega⟩
structure MS (mo:Option Nat)(t R:Nat)(W0 V:World):Prop where
 only:ae mo.toList W0 V
 met:Met V mo t R
theorem MS.refl {b:Option Nat}{t R:Nat}{w:World}(h:Met w b t R):MS b t R w w:=⟨ae.refl _ _,h⟩
theorem MS.below {c:Option Nat}{d:World}(h:MS c t R d V)(b:Below V.heap.size V V'):MS c t R d V':=
 ⟨h.only.trans' (ae.ai b (zd _)) (by simp),h.met.only (ae.ai b (zd _)) (by simp)⟩
theorem MS.alloc {b:Option Nat}{t R:Nat}{c V:World}(h:MS b t R c V)(o:Obj):MS b t R c (V.alloc o):=h.below ((zm _ _).alloc (zd _) _)
theorem MS.drew {b:Option Nat}{c:World}(h:MS b t R c V):MS b t R c V.drew:=h.below (zm _ _).drew
theorem MS.blk {b:Option Nat}{c:World}(h:MS b t R c V){ty:TypeId}{e:Array Value}(i:ag c g ty e)(j:∀k,b=some k->k<g):ag V g ty e:=
 i.only h.only (by
  intro d;cases b with
  |none=>simp at d
  |some k=>have:=j k rfl;simp at d;omega)
theorem MS.from {b:Option Nat}{c:World}(h:MS b t R c V)(d:ae b.toList w c):MS b t R w V:=⟨d.trans h.only,h.met⟩
theorem MS.size {mo:Option Nat}{W0:World}(h:MS mo t R W0 V):W0.heap.size<=V.heap.size:=h.only.size
theorem MS.put {c:Option Nat}(h:MS c t R w V){b o:Nat}(d:w.heap.size<=b)(j:∀k,c=some k->k<b)(v:Value):MS c t R w (V.setCell (b,o) v):=by
 refine⟨h.only.setCell (.inr (by simpa using d)) _, ?_⟩;have:=h.met;cases c with
 |none=>trivial
 |some g=>
  obtain⟨a,u,p,i,e⟩:=this;exact⟨a,u,p,i.dE (by have:=j g rfl;simp;omega) _,e⟩
theorem MS.gS {d:Option Nat}(h:MS d t R w V){b:Nat}(c:w.heap.size<=b)(e:∀k,d=some k->k<b)(l j i:Value):MS d t R w (((V.setCell (b,0) l).setCell (b,1) j).setCell (b,2) i):=((h.put c e _).put c e _).put c e _
theorem MS.QM (h:MS none t R w V):Below w.heap.size w V:=h.only.below (zd _) (by simp)
theorem oa {c:World}{d e:TypeId}{b:Array Value}(h:(w.alloc (.cells a d)).alloc (.cells b e)=c):c.heap.size=w.heap.size+2/\(w,c)/\ag c w.heap.size d a/\ag c (w.heap.size+1) e b:=by
 subst h;refine⟨by simp,bO,(ag.new w _ _).alloc _, ?_⟩;have:=ag.new (w.alloc (.cells a d)) e b;rwa [zt]at this
def Dv (x:Int×Fr×Nat×Nat):Value:= .tuple #[x.2.1.val,x.2.2.1,x.1]
theorem Gi (c:aM)(d:Option Nat)(t R:Nat)(s:ByteArray)(r:c.ok)(i:c.fm=1)(S:c.fr<=65536)(D:s.size<=1099511627776)(W w:World)(h:MS d t R W w):
 Calls prog 90 #[c.val,sn d,s] w fun e w'=>e= .returned (Dv (bz c s))/\MS d (t+(bz c s).2.2.2) (R-(bz c s).2.2.2) W w':=by
 have o:bz c s=((aX c.mg c.fr s).1,⟨0,(aX c.mg c.fr s).2.1,(aX c.mg c.fr s).2.2.1⟩,(aX c.mg c.fr s).2.2.2,0):=by unfold bz;rw[zj i]
 have l:Hid (∀b V,MS d t R b V->Calls prog 91 #[.int .u32 c.mg,c.fr,s] V fun e w'=>e= .returned (.tuple #[.agg #[.int .u64 (bz c s).2.1.id,.string (bz c s).2.1.nm,.string (bz c s).2.1.body],.int .i64 (bz c s).2.2.1,.int .i64 (bz c s).1])/\MS d (t+(bz c s).2.2.2) (R-(bz c s).2.2.2) b w'):=za (fun b V M=>
  (JC c.mg c.fr s V r.mg D r.fr (.inr (by omega))).mono fun e w' ⟨i,z⟩=>by rw[o];exact⟨i,M.below z⟩)
 obtain⟨b,p⟩:∃b,(w.alloc (.cells #[c.fm,.int .u32 c.mg,c.fr,c.un,c.de,c.it] 24)).alloc (.cells #[.int .u64 0,eS,eS] 103)=b:=⟨_,rfl⟩
 have j:=oa p;have K:Hid (ae d.toList W b):=za (h.only.trans ((ae.ai j.2.1 (zd _)).mono (by simp)));have E:Hid (ag b (w.heap.size+1) 103 #[.int .u64 0,eS,eS]):=za j.2.2.2;have N:Hid (MS d t R b b):=za (MS.refl (h.met.only (ae.ai j.2.1 (zd _)) (by simp)));have x:Hid (∀k,d=some k->k<w.heap.size+1):=za (fun k H=>by have:=h.met.lt k H;omega);have A:Hid (W.heap.size<=w.heap.size+1):=za (by have:=h.size;omega);have F:=za p;have y:=za o;clear p j h o i;unfold aM.val;generalize sn d=O at*;obtain⟨X,u⟩:∃X,bz c s=X:=⟨_,rfl⟩
 rw[u]at y l⊢;clear u;obtain⟨G,⟨J,I,C⟩,B,m⟩:=X;simp only at l y;go_enter func90,ntmps90
 go_wp2_with fail
 rw[F.out];refine(l.out _ _ N.out).mono ?_;rintro e U ⟨rfl,n⟩;have q:=za (n.blk E.out x.out);have L:=za (n.from K.out);clear n;obtain⟨g0,g1,g2,f0,f1,f2⟩:=bp q.out;go_wp2;refine zl (v:= .tuple #[.agg #[.int .u64 J,I,C],B,G]) (by simp[results,results90,go_sem,fT q.out]) rfl ?_;exact⟨rfl,L.out.gS A.out x.out _ _ _⟩
theorem Gj (c:aM)(d:Option Nat)(t R:Nat)(s:ByteArray)(r:c.ok)(i:c.fm=2)(O:c.fr<=65536)(S:s.size<=1099511627776)(W w:World)(h:MS d t R W w):
 Calls prog 95 #[c.val,sn d,s] w fun e w'=>e= .returned (Dv (bz c s))/\MS d (t+(bz c s).2.2.2) (R-(bz c s).2.2.2) W w':=by
 have o:bz c s=((aj c.fr s).1,⟨(aj c.fr s).2.1,ByteArray.empty,(aj c.fr s).2.2.1⟩,(aj c.fr s).2.2.2,0):=by unfold bz;rw[zi (by omega),zj i]
 have l:Hid (∀b V,MS d t R b V->Calls prog 96 #[c.fr,s] V fun e w'=>e= .returned (.tuple #[.agg #[.int .u64 (bz c s).2.1.id,.string (bz c s).2.1.nm,.string (bz c s).2.1.body],.int .i64 (bz c s).2.2.1,.int .i64 (bz c s).1])/\MS d (t+(bz c s).2.2.2) (R-(bz c s).2.2.2) b w'):=za (fun b V L=>
  (km c.fr s V (by omega) r.fr.1 r.fr.2).mono fun e w' ⟨i,z⟩=>by rw[o];exact⟨i,L.below z⟩)
 obtain⟨b,p⟩:∃b,(w.alloc (.cells #[c.fm,.int .u32 c.mg,c.fr,c.un,c.de,c.it] 24)).alloc (.cells #[.int .u64 0,eS,eS] 103)=b:=⟨_,rfl⟩
 have j:=oa p;have J:Hid (ae d.toList W b):=za (h.only.trans ((ae.ai j.2.1 (zd _)).mono (by simp)));have D:Hid (ag b (w.heap.size+1) 103 #[.int .u64 0,eS,eS]):=za j.2.2.2;have M:Hid (MS d t R b b):=za (MS.refl (h.met.only (ae.ai j.2.1 (zd _)) (by simp)));have x:Hid (∀k,d=some k->k<w.heap.size+1):=za (fun k G=>by have:=h.met.lt k G;omega);have A:Hid (W.heap.size<=w.heap.size+1):=za (by have:=h.size;omega);have E:=za p;have y:=za o;clear p j h o i;unfold aM.val;generalize sn d=N at*;obtain⟨X,u⟩:∃X,bz c s=X:=⟨_,rfl⟩
 rw[u]at y l⊢;clear u;obtain⟨F,⟨I,H,C⟩,B,m⟩:=X;simp only at l y;go_enter func95,ntmps95
 go_wp2_with fail
 rw[E.out];refine(l.out _ _ M.out).mono ?_;rintro e U ⟨rfl,n⟩;have q:=za (n.blk D.out x.out);have K:=za (n.from J.out);clear n;obtain⟨g0,g1,g2,f0,f1,f2⟩:=bp q.out;go_wp2;refine zl (v:= .tuple #[.agg #[.int .u64 I,H,C],B,F]) (by simp[results,results95,go_sem,fT q.out]) rfl ?_;exact⟨rfl,K.out.gS A.out x.out _ _ _⟩
theorem Gk (c:aM)(b:Option Nat)(t R:Nat)(s:ByteArray)(l:c.ok)(h:c.fm=3)(Z:c.fr<=65536)(hu:c.un<=65536)(hR:70000<=R)(hs:s.size<=1099511627776)(W w:World)(i:MS b t R W w):
 Calls prog 100 #[c.val,sn b,s] w fun e w'=>e= .returned (Dv (bz c s))/\MS b (t+(bz c s).2.2.2) (R-(bz c s).2.2.2) W w':=by
 have x:bz c s=((aT c.fr c.un s).1,⟨(aT c.fr c.un s).2.1,ByteArray.empty,(aT c.fr c.un s).2.2.1⟩,(aT c.fr c.un s).2.2.2.1,(aT c.fr c.un s).2.2.2.2):=by unfold bz;rw[zi (by omega),zi (by omega)]
 have o:Hid (∀d V,MS b t R d V->Calls prog 101 #[c.fr,c.un,sn b,s] V fun e w'=>e= .returned (.tuple #[.agg #[.int .u64 (bz c s).2.1.id,.string (bz c s).2.1.nm,.string (bz c s).2.1.body],.int .i64 (bz c s).2.2.1,.int .i64 (bz c s).1])/\MS b (t+(bz c s).2.2.2) (R-(bz c s).2.2.2) d w'):=za (fun d V y=>by
  rw[x];cases b with
  |none=>exact(wa c.fr c.un s V (by omega) l.fr.1 l.fr.2).mono fun e w' ⟨h,n⟩=>⟨h,⟨y.only.trans' (ae.ai n (zd _)) (by simp),trivial⟩⟩
  |some g=>
   obtain⟨a,u,p,k1,k2,k3,k4⟩:=y.met;have hm:=Jc c.fr c.un s;exact(wj c.fr c.un g a u t p s V (by omega) l.fr.1 l.fr.2 k1 k2 (by omega) (by omega) (by omega)).mono fun e w' ⟨h,⟨q,n⟩,G⟩=>⟨h,⟨y.only.trans G,⟨a,_,q,n,k2,by simp only;omega,by simp only;omega⟩⟩⟩)
 obtain⟨d,z⟩:∃d,(w.alloc (.cells #[c.fm,.int .u32 c.mg,c.fr,c.un,c.de,c.it] 24)).alloc (.cells #[.int .u64 0,eS,eS] 103)=d:=⟨_,rfl⟩
 have j:=oa z;have O:Hid (ae b.toList W d):=za (i.only.trans ((ae.ai j.2.1 (zd _)).mono (by simp)));have I:Hid (ag d (w.heap.size+1) 103 #[.int .u64 0,eS,eS]):=za j.2.2.2;have U:Hid (MS b t R d d):=za (MS.refl (i.met.only (ae.ai j.2.1 (zd _)) (by simp)));have C:Hid (∀k,b=some k->k<w.heap.size+1):=za (fun k L=>by have:=i.met.lt k L;omega);have E:Hid (W.heap.size<=w.heap.size+1):=za (by have:=i.size;omega);have J:=za z;have D:=za x;clear z j i x h;unfold aM.val;generalize sn b=Y at*;obtain⟨X,B⟩:∃X,bz c s=X:=⟨_,rfl⟩
 rw[B]at D o⊢;clear B;obtain⟨K,⟨N,M,H⟩,F,m⟩:=X;simp only at o D;go_enter func100,ntmps100
 go_wp2_with fail
 rw[J.out];refine(o.out _ _ U.out).mono ?_;rintro e w1 ⟨rfl,r⟩;have A:=za (r.blk I.out C.out);have S:=za (r.from O.out);clear r;obtain⟨g0,g1,g2,f0,f1,f2⟩:=bp A.out;go_wp2;refine zl (v:= .tuple #[.agg #[.int .u64 N,M,H],F,K]) (by simp[results,results100,go_sem,fT A.out]) rfl ?_;exact⟨rfl,S.out.gS E.out C.out _ _ _⟩
theorem ag.ms {b:Option Nat}{ty:TypeId}{c:Array Value}(h:ag V g ty c)(e:MS b t R V V')(d:∀k,b=some k->k<g):ag V' g ty c:=e.blk h d
theorem Met.below {b:Option Nat}(h:Met w b t R)(c:Below w.heap.size w w'):Met w' b t R:=h.only (ae.ai c (zd _)) (by simp)
theorem Cb {b:Option Nat}{h:Nat}{j:World}(l:Hid (∀W w,MS b t R W w->Calls P f a w fun e w'=>e=E/\MS b h R' W w'))(d:MS b t R j V){ty:TypeId}{i:Array Value}(o:ag V g ty i)(n:∀k,b=some k->k<g):
 Calls P f a V fun e w'=>e=E/\MS b h R' j w'/\ag w' g ty i:=(l.out V V (MS.refl d.met)).mono fun e w' ⟨m,c⟩=>⟨m,c.from d.only,o.ms c n⟩
theorem X3 (c:aM)(d:Option Nat)(t R:Nat)(s:ByteArray)(K:c.ok)(hr:c.right=true)(hR:70000<=R)(hs:s.size<=1099511627776)(W w:World)(D:MS d t R W w):
 Calls prog 71 #[c.val,sn d,s] w fun e w'=>e= .returned (Dv (bh c s))/\MS d (t+(bh c s).2.2.2) (R-(bh c s).2.2.2) W w':=by
 have y:=za ((c.ic).1 hr);have E:=za (fun h=>Gi c d t R s K h (by have:=y.out;omega) hs);have B:=za (fun h=>Gj c d t R s K h (by have:=y.out;omega) hs);have C:=za (fun h=>Gk c d t R s K h (by have:=y.out;omega) (by have:=y.out;omega) hR hs);have rm:Hid (c.fm=1\/c.fm=2\/c.fm=3):=za (by have:=y.out;omega);have HR:=za (fun w=>qK c w);rw[hr]at HR;have U0:=za (cz hr s);rw[U0.out];have I:=za (O5 c s);unfold aM.val at*;obtain⟨X,JY⟩:=gL (bz c s);rw[JY]at E B C I⊢;clear JY K hR y U0;obtain⟨L,⟨M,y2,Y⟩,y4,m⟩:=X;unfold Dv Fr.val at E B C;simp only at E B C I;obtain⟨fm,mg,fr,un,U,it⟩:=c;simp only at*;generalize sn d=mv at*;obtain⟨q,O⟩:=gL ((w.alloc (.cells #[fm,.int .u32 mg,fr,un,U,it] 24)).alloc (.cells #[.int .u64 0,eS,eS] 103));have x:=oa O;have HO:Hid (ae d.toList W q):=za (D.only.trans ((ae.ai x.2.1 (zd _)).mono (by simp)));have HB:Hid (ag q (w.heap.size+1) 103 #[.int .u64 0,eS,eS]):=za x.2.2.2;have HM:Hid (Met q d t R):=za (D.met.only (ae.ai x.2.1 (zd _)) (by simp));have HG:Hid (∀k,d=some k->k<w.heap.size):=za (D.met.lt);have HL:Hid (W.heap.size<=w.heap.size/\q.heap.size=w.heap.size+2):=za ⟨D.size,x.1⟩;have l:Hid (∀V t R,MS d t R q V->(V,w.heap.size,0,fm)/\(V,w.heap.size,1,Value.int .u32 mg)/\(V,w.heap.size,2,fr)/\(V,w.heap.size,3,un)/\(V,w.heap.size,4,U)/\(V,w.heap.size,5,it)):=za (fun V t R hV=>by
  have A:=hV.blk x.2.2.1 HG.out;exact⟨A.cell 0,A.cell 1,A.cell 2,A.cell 3,A.cell 4,A.cell 5⟩)
 have dw:=za O;clear O x D;go_enter func71,ntmps71
 go_wp2_with fail
 rw[dw.out];refine cm (HR.out _) fun z aL=> ?_
 have o:Hid (MS d t R q z):=za ((MS.refl HM.out).below aL);clear aL HR;obtain⟨q0,q1,q2,q3,q4,q5⟩:=l.out z _ _ o.out;have Bg:=za o.out.size;have S:Hid (Calls prog 66 #[] (z.alloc (.cells #[.int .u64 0,eS,eS] 103)).drew fun e w'=>e= .returned DY/\MS d t R q w'/\ag w' z.heap.size 103 #[.int .u64 0,eS,eS]):=za ((n7 _).mono fun e w' ⟨i,u⟩=>⟨i,((o.out.alloc _).drew).below u,(ag.new z _ _).drew.ah u (by simp)⟩);have U1:Hid (Calls prog 66 #[] z.drew fun e w'=>e= .returned DY/\MS d t R q w'):=za ((n7 _).mono fun e w' ⟨i,u⟩=>⟨i,o.out.drew.below u⟩);unfold DY kE at S U1;go_upto_region 3 with fail
 go_cut [9,10,11] (fun v n er wx=>∃J:Nat,v= .pointer (some (J,0))/\n= .int .i64 y4/\er= .int .i64 L/\Hid (q.heap.size<=J)/\Hid (ag wx J 103 #[.int .u64 M,y2,Y])/\Hid (MS d (t+m) (R-m) q wx))
 case first=>
  rcases rm.out with i|i|i;focus
   have H:=za (E.out i);have r:=QC;rw[<-i]at r;have G:=No;unfold DY XR kE at r;unfold XR kE at G
  rotate_left
  focus
   have H:=za (B.out i);have r:=QD;rw[<-i]at r;have G:=Np;unfold DY XS kE at r;unfold XS kE at G
  rotate_left
  focus
   have H:=za (C.out i);have r:=QE;rw[<-i]at r;have G:=Nq;unfold DY XT kE at r;unfold XT kE at G
  rotate_left
  all_goals
   clear E B C i;go_wp2_with fail
   go_region_held3 (fun V=>(V,w.heap.size,0,fm)/\(V,w.heap.size,1,Value.int .u32 mg)/\(V,w.heap.size,2,fr)/\(V,w.heap.size,3,un)/\(V,w.heap.size,4,U)/\(V,w.heap.size,5,it))
    (first|exact l.out _ _ _ o.out|exact l.out _ _ _ o.out.drew|exact l.out _ _ _ ((o.out.alloc _).drew)|exact l.out _ _ _ p|exact l.out _ _ _ j|exact l.out _ _ _ (j.alloc _)|exact l.out _ _ _ (p.alloc _)|exact l.out _ _ _ (p.gS Bg.out (o.out.met.lt) _ _ _)|exact l.out _ _ _ (p.gS j.size (j.met.lt) _ _ _))
    (first
     |(go_at_call 66;first
      |((with_reducible refine S.out.mono ?_);rintro e w' ⟨rfl,j,hz⟩;obtain⟨z0,z1,z2,ab,ad,aa⟩:=bp hz)
      |((with_reducible refine U1.out.mono ?_);rintro e w' ⟨rfl,j⟩))
     |((with_reducible refine(Cb H j hz o.out.met.lt).mono ?_);rintro e w2 ⟨rfl,p,F⟩;obtain⟨z0,z1,z2,ab,ad,aa⟩:=bp F)
     |((with_reducible refine(Cb H (j.alloc _) (ag.new _ _ _) j.met.lt).mono ?_);rintro e w2 ⟨rfl,p,F⟩;obtain⟨z0,z1,z2,ab,ad,aa⟩:=bp F)
     |((with_reducible refine(H.out _ _ j).mono ?_);rintro e w2 ⟨rfl,p⟩))
   all_goals
    go_wp2_with fail
    go_meet;case rel=>
     first
      |exact⟨_,rfl,rfl,rfl,za p.size,za (ag.new _ _ _),za (p.alloc _)⟩
      |exact⟨_,rfl,rfl,rfl,Bg,za (oq F _ _ _),za (p.gS Bg.out (o.out.met.lt) _ _ _)⟩
      |exact⟨_,rfl,rfl,rfl,za j.size,za (oq F _ _ _),za (p.gS j.size (j.met.lt) _ _ _)⟩
 case rest=>
  obtain⟨J,rfl,rfl,rfl,al,aj,af⟩:=hcut;have OA:Hid (ag wc (w.heap.size+1) 103 #[.int .u64 0,eS,eS]):=za (af.out.blk HB.out (fun k Z=>by have:=HG.out k Z;omega));have ah:Hid (MS d (t+m) (R-m) W wc):=za (af.out.from HO.out);have ai:Hid (W.heap.size<=w.heap.size+1):=za (by have:=HL.out;omega);have RQ:Hid (∀k,d=some k->k<w.heap.size+1):=za (fun k Z=>by have:=HG.out k Z;omega);obtain⟨g0,g1,g2,f0,f1,f2⟩:=bp OA.out;obtain⟨k0,k1,k2,_,_,_⟩:=bp aj.out;clear S U1 l q0 q1 q2 q3 q4 q5;rcases eN L with⟨N,i,u⟩|⟨N,i,u⟩
  ·subst N;go_wp2;refine zl (v:= .tuple #[.agg #[.int .u64 M,y2,Y],y4,(0:Int)]) (by simp[results,results71,go_sem,fT OA.out]) rfl ?_;exact⟨rfl,ah.out.gS ai.out RQ.out _ _ _⟩
  obtain⟨ak,rfl⟩:=I.out N;obtain⟨rfl,rfl,rfl⟩:M=0/\y2=ByteArray.empty/\Y=ByteArray.empty:=by injection ak with a b c;exact⟨a,b,c⟩
  clear I;go_wp2;refine zl (v:= .tuple #[.agg #[.int .u64 0,ByteArray.empty,ByteArray.empty],(0:Int),L]) (by simp[results,results71,go_sem,fT OA.out,qx]) rfl ?_;exact⟨rfl,ah.out.gS ai.out RQ.out _ _ _⟩
theorem X4 (c:aM)(b:Option Nat)(t R:Nat)(s:ByteArray)(p:c.right=false)(W w:World)(h:MS b t R W w):
 Calls prog 71 #[c.val,sn b,s] w fun e w'=>e= .returned (Dv (bh c s))/\MS b (t+(bh c s).2.2.2) (R-(bh c s).2.2.2) W w':=by
 have q:bh c s=(1,om,0,0):=by unfold bh;rw[p];rfl
 have n:=za (fun w=>qK c w);rw[p]at n;rw[q];unfold aM.val at*;generalize sn b=B at*;obtain⟨d,l⟩:∃d,(w.alloc (.cells #[c.fm,.int .u32 c.mg,c.fr,c.un,c.de,c.it] 24)).alloc (.cells #[.int .u64 0,eS,eS] 103)=d:=⟨_,rfl⟩
 have i:=oa l;have z:Hid (MS b t R W d):=za (h.below i.2.1);have r:Hid (ag d (w.heap.size+1) 103 #[.int .u64 0,eS,eS]):=za i.2.2.2;have A:Hid (∀k,b=some k->k<w.heap.size+1):=za (fun k x=>by have:=h.met.lt k x;omega);have o:Hid (W.heap.size<=w.heap.size+1/\d.heap.size=w.heap.size+2):=za ⟨by have:=h.size;omega,i.1⟩;have u:=za l;clear l i h q;go_enter func71,ntmps71
 go_wp2_with fail
 rw[u.out];refine(n.out _).mono ?_;rintro e C ⟨rfl,j⟩;have m:=za (r.out.ah j (by have:=o.out.2;omega));have y:=za (z.out.below j);clear j;obtain⟨g0,g1,g2,f0,f1,f2⟩:=bp m.out;go_wp2;refine zl (v:= .tuple #[.agg #[.int .u64 0,ByteArray.empty,ByteArray.empty],(0:Int),(1:Int)]) (by simp[results,results71,go_sem,fT m.out,qx]) rfl ?_;exact⟨rfl,y.out.gS o.out.1 A.out _ _ _⟩
theorem QN (c:aM)(b:Option Nat)(t R:Nat)(s:ByteArray)(j:c.ok)(h:70000<=R)(i:s.size<=1099511627776)(W w:World)(d:MS b t R W w):
 Calls prog 71 #[c.val,sn b,s] w fun e w'=>e= .returned (Dv (bh c s))/\MS b (t+(bh c s).2.2.2) (R-(bh c s).2.2.2) W w':=by
 cases hr:c.right with
 |false=>exact X4 c b t R s hr W w d
 |true=>exact X3 c b t R s j hr h i W w d
theorem Uj (f:Fr)(w:World):Calls prog 87 #[f.val] w fun e w'=>e= .returned (.bool (decide (f.id=0)))/\(w,w'):=by
 unfold Fr.val;by_cases h:f.id=0
 ·have hd:decide ((f.id:Int)=0)=true:=by simp[h]
  obtain⟨id,nm,body⟩:=f;simp only at*;subst h;go_enter func87,ntmps87
  go_wp2;go_ret;exact⟨aV (by simp),bO⟩
 have hd:((f.id:Int)==0)=false:=by simpa using h
 obtain⟨id,nm,body⟩:=f;simp only at*;go_enter func87,ntmps87
 go_wp2;go_ret;exact⟨aV (by simp[h]),bO⟩
theorem Lb (f:Fr)(w:World):Calls prog 86 #[f.val] w fun e w'=>e= .returned (.bool (decide (f.nm.size=0)))/\(w,w'):=by
 unfold Fr.val;obtain⟨id,nm,body⟩:=f;simp only;rcases fU nm with⟨_,rfl⟩|⟨c,b,d⟩
 ·go_enter func86,ntmps86
  go_wp2;go_ret;exact⟨aV (by rfl),bO⟩
 go_enter func86,ntmps86
 go_wp2;go_ret;exact⟨aV (by simp_all),bO⟩
theorem Dw (c:aM)(f:Fr)(i:f.ok)(b:c.fm=1\/f.body.size<=1000000):(bd c f).1.size<=2000000:=by
 unfold bd;split
 ·split
  ·rename_i e
   split
   ·simp
   simp only;rw[lH c.mg f.nm f.body (dx e).2];omega
  simp
 rename_i h
 have b:=b.resolve_left h;split
 ·split
  ·simp
  simp only;rw[bG];have d:=bw 10 ((aR f.id).length+f.body.data.toList.length) (by rw[aa];omega) (by omega);unfold eC;rw[zk,zk];rw[aa]at*;omega
 split
 ·simp
 split
 ·simp
 simp only;rw[bG];have d:=bw 10 ((aR f.id).length+(pack f.body.data.toList).length) (by omega) (by omega);unfold eC;rw[zk,zk];omega
theorem X5 (c:aM)(f:Fr)(h:c.ok)(i:f.ok)(d:c.fm=1)(w:World):
 Calls prog 88 #[c.val,f.val] w fun e w'=>e= .returned (.tuple #[.string (bd c f).1,.int .i64 (bd c f).2])/\(w,w'):=by
 have j:Hid (∀V,Calls prog 89 #[.int .u32 c.mg,f.nm,f.body] V fun e w'=>e= .returned (.tuple #[.string (bd c f).1,.int .i64 (bd c f).2])/\(V,w')):=za (fun V=>by
  unfold bd;rw[zj d];cases hm:b8 f.nm with
  |false=>exact(JB c.mg f.nm f.body V h.mg i.nm hm).mono fun e w' ⟨d,k⟩=>⟨d,by rw[<-k];exact zm _ _⟩
  |true=>
   rw[zj rfl];by_cases b:65536<f.body.size
   ·rw[zj b];exact Du c.mg f.nm f.body V h.mg hm b i.body
   rw[zi b];exact NC c.mg f.nm f.body V h.mg hm (by omega))
 clear h i d;unfold aM.val Fr.val;generalize bd c f=X at*;obtain⟨B,E⟩:=X;simp only at j;go_enter func88,ntmps88
 go_wp2_with fail
 refine(j.out _).mono ?_;rintro e m ⟨rfl,b⟩;have l:=za ((((zm w.heap.size w).alloc (zd _) _).alloc (by simp) _).trans (b.mono (by simp;omega)));clear b;go_wp2;go_ret2
 exact⟨rfl,l.out⟩
theorem X6 (c:aM)(f:Fr)(h:f.ok)(b:f.body.size<=1000000)(j:c.fm=2)(w:World):
 Calls prog 93 #[c.val,f.val] w fun e w'=>e= .returned (.tuple #[.string (bd c f).1,.int .i64 (bd c f).2])/\(w,w'):=by
 have i:Hid (∀V,Calls prog 94 #[.int .u64 f.id,f.body] V fun e w'=>e= .returned (.tuple #[.string (bd c f).1,.int .i64 (bd c f).2])/\(V,w')):=za (fun V=>by
  unfold bd;rw[zi (by omega),zj j];by_cases d:65536<(aR f.id).length+f.body.size
  ·rw[zj d];exact oF f.id f.body V h.id d b
  rw[zi d];exact vY f.id f.body V h.id (by omega))
 clear h j b;unfold aM.val Fr.val;generalize bd c f=X at*;obtain⟨B,E⟩:=X;simp only at i;go_enter func93,ntmps93
 go_wp2_with fail
 refine(i.out _).mono ?_;rintro e l ⟨rfl,b⟩;have k:=za ((((zm w.heap.size w).alloc (zd _) _).alloc (by simp) _).trans (b.mono (by simp;omega)));clear b;go_wp2;go_ret2
 exact⟨rfl,k.out⟩
theorem X7 (c:aM)(f:Fr)(d:f.ok)(hu:c.un<=65536)(h:c.fm=3)(w:World):
 Calls prog 98 #[c.val,f.val] w fun e w'=>e= .returned (.tuple #[.string (bd c f).1,.int .i64 (bd c f).2])/\(w,w'):=by
 by_cases j:c.un<f.body.size
 ·have l:Hid (bd c f=(ByteArray.empty,5)):=za (by unfold bd;rw[zi (by omega),zi (by omega),zj j]);rw[l.out];unfold aM.val Fr.val;clear l hu;have p:=d.body;clear d;obtain⟨s,o,n,q,u,it⟩:=c;obtain⟨id,nm,body⟩:=f;simp only at*;subst h;go_enter func98,ntmps98
  go_wp2;go_ret2
  exact⟨rfl,bO⟩
 have k:Hid (∀V,Calls prog 99 #[.int .u64 f.id,f.body] V fun e w'=>e= .returned (.tuple #[.string (bd c f).1,.int .i64 (bd c f).2])/\(V,w')):=za (fun V=>by
  unfold bd;rw[zi (by omega),zi (by omega),zi j];refine(AM f.id f.body V d.id (by omega)).mono fun e w' ⟨h,m⟩=>⟨?_,m⟩
  rw[h];unfold we wg;by_cases b:65536<(aR f.id).length+(pack f.body.data.toList).length
  ·rw[zj b,zj b,zj b]
  rw[zi b,zi b,zi b])
 have p:=d.body;clear d hu;unfold aM.val Fr.val;generalize bd c f=X at*;obtain⟨B,E⟩:=X;simp only at k;obtain⟨s,o,n,q,u,it⟩:=c;obtain⟨id,nm,body⟩:=f;simp only at*;subst h;go_enter func98,ntmps98
 go_wp2_with fail
 refine(k.out _).mono ?_;rintro e x ⟨rfl,i⟩;have r:=za ((((zm w.heap.size w).alloc (zd _) _).alloc (by simp) _).trans (i.mono (by simp;omega)));clear i;go_wp2;go_ret2
 exact⟨rfl,r.out⟩
theorem Ld {t:TypeId}{a b c d:Value}(h:ag w g t #[a,b,c,d]):(w,g,0,a)/\(w,g,1,b)/\(w,g,2,c)/\(w,g,3,d)/\w.frozen? (g,0)=false/\w.frozen? (g,1)=false/\w.frozen? (g,2)=false/\w.frozen? (g,3)=false:=
 ⟨h.cell 0,h.cell 1,h.cell 2,h.cell 3,h.frozen 0,h.frozen 1,h.frozen 2,h.frozen 3⟩
theorem NF (c:aM)(f:Fr)(d:c.right=true):(mR c f=false->gR c f=(ByteArray.empty,1))/\(mR c f=true->(bd c f).2≠0->gR c f=(ByteArray.empty,(bd c f).2))/\(mR c f=true->(bd c f).2=0->(bz c (bd c f).1).1=5->gR c f=(ByteArray.empty,5))/\(mR c f=true->(bd c f).2=0->(bz c (bd c f).1).1≠5->gR c f=((bd c f).1,0)):=by
 refine⟨fun h=> ?_,fun h b=> ?_,fun h b e=> ?_,fun h b e=> ?_⟩<;>unfold gR
 ·rw[zi (by simp[h])]
 ·rw[zj ⟨d,h⟩,zj b]
 ·rw[zj ⟨d,h⟩,zi (by simp[b]),zj e]
 rw[zj ⟨d,h⟩,zi (by simp[b]),zi e]
theorem Uk {d:Nat}(c:Hid (∀W w,MS none t R W w->Calls P f a w fun e w'=>e=E/\MS none d R' W w')):Hid (∀V,Calls P f a V fun e w'=>e=E/\(V,w')):=za fun V=>(c.out V V (MS.refl trivial)).mono fun e w' ⟨h,b⟩=>⟨h,b.QM⟩
theorem Ul (c:aM)(f:Fr)(N:c.ok)(G:f.ok)(h:c.fm=1\/f.body.size<=1000000)(hr:c.right=true)(w:World):
 Calls prog 48 #[c.val,f.val] w fun e w'=>e= .returned (.tuple #[(gR c f).1,(gR c f).2])/\(w,w'):=by
 have Ww:=(c.ic).1 hr;have hz:=Dw c f G h;rcases(by omega:c.fm=1\/c.fm=2\/c.fm=3)with b|b|b;focus
  have Z:=za (Gi c none 0 140000 (bd c f).1 N b (by omega) (by omega));have HF:=za fun(V:World)=>(show mR c f=_ from zj b)▸Uj f V
  have J:=za fun V=>X5 c f N G b V
  have o:=QC;obtain⟨F,hF⟩:∃F,XR= .agg F:=⟨_,rfl⟩
  rw[<-b]at o;unfold DY XR kE at o;unfold XR kE at hF;injection hF with hF
 rotate_left
 focus
  have Z:=za (Gj c none 0 140000 (bd c f).1 N b (by omega) (by omega));have HF:=za fun(V:World)=>(show mR c f=decide (f.nm.size=0)from zi (by omega))▸Lb f V
  have J:=za fun V=>X6 c f G (h.resolve_left (by omega)) b V
  have o:=QD;obtain⟨F,hF⟩:∃F,XS= .agg F:=⟨_,rfl⟩
  rw[<-b]at o;unfold DY XS kE at o;unfold XS kE at hF;injection hF with hF
 rotate_left
 focus
  have Z:=za (Gk c none 0 140000 (bd c f).1 N b (by omega) (by omega) (by omega) (by omega));have HF:=za fun(V:World)=>(show mR c f=decide (f.nm.size=0)from zi (by omega))▸Lb f V
  have J:=za fun V=>X7 c f G (by omega) b V
  have o:=QE;obtain⟨F,hF⟩:∃F,XT= .agg F:=⟨_,rfl⟩
  rw[<-b]at o;unfold DY XT kE at o;unfold XT kE at hF;injection hF with hF
 rotate_left
 all_goals
  clear Ww N G h hz;have HR:=za (fun w=>qK c w);rw[hr]at HR;have j:=za (NF c f hr);have HN:=Uk Z;clear Z;unfold Dv Fr.val at*;obtain⟨X,p⟩:=gL (bz c (bd c f).1);rw[p]at HN j;clear p;obtain⟨y5,⟨y1,y2,y3⟩,y4,m⟩:=X;obtain⟨X,p⟩:=gL (bd c f);rw[p]at HN j J;clear p;obtain⟨S,E⟩:=X;obtain⟨X,p⟩:=gL (gR c f);rw[p]at j⊢;clear p;obtain⟨P1,P2⟩:=X;obtain⟨ft,N3⟩:=gL (mR c f);rw[N3]at j HF;clear N3;simp only at HN j J;unfold aM.val at*;obtain⟨fm,mg,fr,un,de,it⟩:=c;obtain⟨id,nm,body⟩:=f;simp only at*;have af:=za hF;clear hF b;obtain⟨d,dS⟩:∃d,(w.alloc (.cells #[fm,.int .u32 mg,fr,un,de,it] 24)).alloc (.cells #[.int .u64 id,nm,body] 103)=d:=⟨_,rfl⟩
  have H:=oa dS;have HO:Hid (w,d):=za H.2.1;have HL:Hid (d.heap.size=w.heap.size+2):=za H.1;have l:Hid (∀V,Below d.heap.size d V->((V,w.heap.size,0,fm)/\(V,w.heap.size,1,Value.int .u32 mg)/\(V,w.heap.size,2,fr)/\(V,w.heap.size,3,un)/\(V,w.heap.size,4,de)/\(V,w.heap.size,5,it))):=za (fun V q=>by
   have k:=H.2.2.1.ah q (by omega);exact⟨k.cell 0,k.cell 1,k.cell 2,k.cell 3,k.cell 4,k.cell 5⟩)
  have ad:Hid (∀V,Below d.heap.size d V->((V,w.heap.size+1,0,Value.int .u64 id)/\(V,w.heap.size+1,1,nm)/\(V,w.heap.size+1,2,body))):=za (fun V q=>by
   have k:=H.2.2.2.ah q (by omega);exact⟨k.cell 0,k.cell 1,k.cell 2⟩)
  have dw:=za dS;clear dS H;go_enter func48,ntmps48
  go_wp2_with fail
  rw[dw.out];refine cm (HR.out _) fun D aL=> ?_
  have r:Hid (d,D):=za aL;clear aL;obtain⟨s,y,u,B,A,x⟩:=l.out D r.out;have i:=za r.out.size;have ae:Hid (Calls prog 66 #[] (D.alloc (.cells #[.nilFunc,.nilFunc,.nilFunc,.nilFunc] 131)).drew fun e w'=>e= .returned DY/\(d,w')/\ag w' D.heap.size 131 #[.nilFunc,.nilFunc,.nilFunc,.nilFunc]):=za ((n7 _).mono fun e w' ⟨b,O⟩=>⟨b,((r.out.alloc i.out _).drew).trans (O.mono (by have:=i.out;simp;omega)),(ag.new D _ _).drew.ah O (by simp)⟩);have U1:Hid (Calls prog 66 #[] D.drew fun e w'=>e= .returned DY/\(d,w')):=za ((n7 _).mono fun e w' ⟨b,O⟩=>⟨b,r.out.drew.trans (O.mono i.out)⟩);unfold DY kE at ae U1;clear HR;go_upto_region 3 with fail
  go_cut [6] (fun v wx=>∃M:Nat,v= .pointer (some (M,0))/\Hid (d.heap.size<=M)/\Hid (ag wx M 131 F)/\Hid (d,wx))
  case first=>
   go_wp2_with fail
   go_region_held3 (fun V=>(V,w.heap.size,0,fm)/\(V,w.heap.size,1,Value.int .u32 mg)/\(V,w.heap.size,2,fr)/\(V,w.heap.size,3,un)/\(V,w.heap.size,4,de)/\(V,w.heap.size,5,it))
    (first|exact l.out _ r.out|exact l.out _ r.out.drew|exact l.out _ ((r.out.alloc i.out _).drew)|exact l.out _ n|exact l.out _ (n.alloc n.size _)|exact l.out _ ((((n.setCell i.out _).setCell i.out _).setCell i.out _).setCell i.out _))
    (first
     |(go_at_call 66;((with_reducible refine ae.out.mono ?_);rintro e w' ⟨rfl,n,hz⟩;obtain⟨z0,C,z2,z3,ak,al,aj,an⟩:=Ld hz))
     |(go_at_call 66;((with_reducible refine U1.out.mono ?_);rintro e w' ⟨rfl,n⟩)))
   all_goals
    go_wp2_with fail
    go_meet;case rel=>
     first
      |exact⟨_,rfl,za n.size,by rw[<-af.out];exact ag.new _ _ _,za (n.alloc n.size _)⟩
      |exact⟨_,rfl,i,by rw[<-af.out];exact(((hz.set 0 _).set 1 _).set 2 _).set 3 _,za ((((n.setCell i.out _).setCell i.out _).setCell i.out _).setCell i.out _)⟩
  case rest=>
   obtain⟨M,rfl,ao,aa,R⟩:=hcut;have ah:Hid (∀V,Below wc.heap.size wc V->(d,V)/\ag V M 131 F):=za (fun V q=>⟨R.out.trans (q.mono R.out.size),aa.out.ah q aa.out.lt⟩);obtain rfl:=af.out;have HE:Hid (∀V,Below d.heap.size d V->Below w.heap.size w V):=za (fun V q=>HO.out.trans (q.mono (by have:=HL.out;omega)));clear ae U1 s y u B A x o;obtain⟨s,y,u,B,A,x⟩:=l.out wc R.out;obtain⟨L,K,I⟩:=ad.out wc R.out;obtain⟨z0,C,z2,z3,_⟩:=Ld aa.out;go_wp2_with fail
   refine(HF.out _).mono ?_;rintro e w2 ⟨rfl,h⟩;obtain⟨U,my⟩:=ah.out w2 h;have ep:=za h;have ai:=za U;clear s y u B A x L K I z0 C z2 z3 h;obtain⟨s,y,u,B,A,x⟩:=l.out w2 U;obtain⟨L,K,I⟩:=ad.out w2 U;obtain⟨z0,C,z2,z3,_⟩:=Ld my;clear U my;cases ft with
   |false=>
    have z:=j.out.1 (by simp);injection z with jm jZ;subst jm;subst jZ;clear j;go_wp2;go_ret2
    exact⟨rfl,HE.out _ ai.out⟩
   |true=>
    go_wp2_with fail
    refine(J.out _).mono ?_;rintro e w3 ⟨rfl,h⟩;have gy:Hid (wc,w3):=za (ep.out.trans (h.mono ep.out.size));obtain⟨Y,Cf⟩:=ah.out w3 gy.out;have ab:=za Y;clear s y u B A x L K I z0 C z2 z3 h;obtain⟨s,y,u,B,A,x⟩:=l.out w3 Y;obtain⟨L,K,I⟩:=ad.out w3 Y;obtain⟨z0,C,z2,z3,_⟩:=Ld Cf;clear Y Cf;rcases eN E with⟨e0,e1,e2⟩|⟨e0,e1,e2⟩
    ·subst e0;have tX:=za (And.intro (j.out.2.2.1 (by simp) (by simp)) (j.out.2.2.2 (by simp) (by simp)));clear j;go_wp2_with fail
     refine(HN.out _).mono ?_;rintro e w4 ⟨rfl,h⟩;have gD:Hid (d,w4):=za (ab.out.trans (h.mono ab.out.size));clear s y u B A x L K I z0 C z2 z3 h;by_cases W:y5=5
     ·have z:=tX.out.1 W;injection z with jm jZ;subst jm;subst jZ;subst W;clear tX;go_wp2;go_ret2
      exact⟨rfl,HE.out _ (gD.out.alloc gD.out.size _)⟩
     have z:=tX.out.2 W;injection z with jm jZ;subst jm;subst jZ;clear tX;have h6:(y5==5)=false:=by simpa using W
     go_wp2;go_ret2
     exact⟨rfl,HE.out _ (gD.out.alloc gD.out.size _)⟩
    have z:=j.out.2.1 (by simp) e0;injection z with jm jZ;subst jm;subst jZ;clear j;go_wp2;go_ret2
    exact⟨rfl,HE.out _ ab.out⟩
theorem Um (c:aM)(f:Fr)(j:c.ok)(k:f.ok)(b:c.fm=1\/f.body.size<=1000000)(w:World):
 Calls prog 48 #[c.val,f.val] w fun e w'=>e= .returned (.tuple #[.string (gR c f).1,.int .i64 (gR c f).2])/\(w,w'):=by
 cases hr:c.right with
 |true=>exact Ul c f j k b hr w
 |false=>
  have h:gR c f=(ByteArray.empty,1):=by unfold gR;rw[zi (by simp[hr])]
  have d:=za (fun w=>qK c w);rw[hr]at d;rw[h];clear h hr j k b;unfold aM.val Fr.val at*;go_enter func48,ntmps48
  go_wp2_with fail
  refine(d.out _).mono ?_;rintro e m ⟨rfl,i⟩;have l:Below w.heap.size w m:=(((zm w.heap.size w).alloc (zd _) _).alloc (by simp) _).trans (i.mono (by simp;omega));clear i;go_wp2;go_ret2
  exact⟨rfl,l⟩
