/- What the formats tell of bytes: their closures, by any meter or none. -/
import Derived.Test.YtimoclkoflamkaaGreatDoorKA31
import Derived.Test.YtimoclkoflamkaaGreatDoorKCoinN
import Derived.Test.YtimoclkoflamkaaGreatDoorKA16
set_option linter.all false
set_option maxRecDepth 100000
set_option maxHeartbeats 12000000
open Go.Proofs.Tryz
namespace Go.Proofs.YtimoclkoflamkaaGreatDoor
open Go.RowKit
variable {t R g R':Nat}{w V w' V':World}{a:Array Value}{P:Program}{f:FuncId}{E:Ending}
def Met (w:World):Option Nat->Nat->Nat->Prop
 |none,_,_=>True
 |some g,t,R=>∃a u p,uP w g a u t p/\a<=9223372036854775807/\u+R<=a/\t+R<=9223372036854775807
def s6 :Option Nat->Value
 |none=> .pointer none
 |some g=> .pointer (some (g,0))
theorem Met.only {L:List Nat}{b:Option Nat}(h:Met w b t R)(d:ae L w w')(i:∀g,b=some g->g∉L):Met w' b t R:=by
 cases b with
 |none=>trivial
 |some g=>
  obtain⟨a,u,p,c,e⟩:=h;exact⟨a,u,p,c.only d (i g rfl),e⟩
theorem Met.lt {b:Option Nat}(h:Met w b t R):∀g,b=some g->g<w.heap.size:=by
 rintro g rfl;obtain⟨a,u,p,c,_⟩:=h;exact c.lt
theorem Met.less {b:Option Nat}(h:Met w b t R)(j:R'<=R):Met w b t R':=by
 cases b with
 |none=>trivial
 |some g=>
  obtain⟨a,u,p,c,d,e,i⟩:=h;exact⟨a,u,p,c,d,by omega,by omega⟩
structure MS (mo:Option Nat)(t R:Nat)(W0 V:World):Prop where
 only:ae mo.toList W0 V
 met:Met V mo t R
theorem MS.refl {b:Option Nat}{t R:Nat}{w:World}(h:Met w b t R):MS b t R w w:=⟨ae.refl _ _,h⟩
theorem MS.below {b:Option Nat}{c:World}(h:MS b t R c V)(d:Below V.heap.size V V'):MS b t R c V':=
 ⟨h.only.trans' (ae.ai d (ze _)) (by simp),h.met.only (ae.ai d (ze _)) (by simp)⟩
theorem MS.alloc {b:Option Nat}{t R:Nat}{c V:World}(h:MS b t R c V)(o:Obj):MS b t R c (V.alloc o):=h.below ((zi _ _).alloc (ze _) _)
theorem MS.drew {b:Option Nat}{c:World}(h:MS b t R c V):MS b t R c V.drew:=h.below (zi _ _).drew
theorem MS.blk {b:Option Nat}{c:World}(h:MS b t R c V){ty:TypeId}{e:Array Value}(i:af c g ty e)(j:∀k,b=some k->k<g):af V g ty e:=
 i.only h.only (by
  intro d;cases b with
  |none=>simp at d
  |some k=>have:=j k rfl;simp at d;omega)
theorem MS.from {b:Option Nat}{c:World}(h:MS b t R c V)(d:ae b.toList w c):MS b t R w V:=⟨d.trans h.only,h.met⟩
theorem MS.size {mo:Option Nat}{W0:World}(h:MS mo t R W0 V):W0.heap.size<=V.heap.size:=h.only.size
theorem MS.put {c:Option Nat}(h:MS c t R w V){b o:Nat}(i:w.heap.size<=b)(j:∀k,c=some k->k<b)(v:Value):MS c t R w (V.setCell (b,o) v):=by
 refine⟨h.only.setCell (.inr (by simpa using i)) _, ?_⟩;have:=h.met;cases c with
 |none=>trivial
 |some g=>
  obtain⟨a,u,p,d,e⟩:=this;exact⟨a,u,p,d.dI (by have:=j g rfl;simp;omega) _,e⟩
theorem MS.gZ {c:Option Nat}(h:MS c t R w V){b:Nat}(d:w.heap.size<=b)(e:∀k,c=some k->k<b)(j i l:Value):MS c t R w (((V.setCell (b,0) j).setCell (b,1) i).setCell (b,2) l):=((h.put d e _).put d e _).put d e _
theorem MS.SW (h:MS none t R w V):Below w.heap.size w V:=h.only.below (ze _) (by simp)
theorem oL {c:World}{e d:TypeId}{b:Array Value}(h:(w.alloc (.cells a e)).alloc (.cells b d)=c):c.heap.size=w.heap.size+2/\(w,c)/\af c w.heap.size e a/\af c (w.heap.size+1) d b:=by
 subst h;refine⟨by simp,bQ,(af.new w _ _).alloc _, ?_⟩;have:=af.new (w.alloc (.cells a e)) d b;rwa [zp]at this
def ED (x:Int×Fr×Nat×Nat):Value:= .tuple #[x.2.1.val,x.2.2.1,x.1]
theorem Hw (c:aF)(d:Option Nat)(t R:Nat)(s:ByteArray)(u:c.ok)(i:c.fm=1)(O:c.fr<=65536)(F:s.size<=1099511627776)(W w:World)(h:MS d t R W w):
 Calls prog 90 #[c.val,s6 d,s] w fun e w'=>e= .returned (ED (bD c s))/\MS d (t+(bD c s).2.2.2) (R-(bD c s).2.2.2) W w':=by
 have p:bD c s=((aZ c.mg c.fr s).1,⟨0,(aZ c.mg c.fr s).2.1,(aZ c.mg c.fr s).2.2.1⟩,(aZ c.mg c.fr s).2.2.2,0):=by unfold bD;rw[zg i]
 have o:Hid (∀b V,MS d t R b V->Calls prog 91 #[.int .u32 c.mg,c.fr,s] V fun e w'=>e= .returned (.tuple #[.agg #[.int .u64 (bD c s).2.1.id,.string (bD c s).2.1.nm,.string (bD c s).2.1.body],.int .i64 (bD c s).2.2.1,.int .i64 (bD c s).1])/\MS d (t+(bD c s).2.2.2) (R-(bD c s).2.2.2) b w'):=za (fun b V z=>
  (KO c.mg c.fr s V u.mg F u.fr (.inr (by omega))).mono fun e w' ⟨i,L⟩=>by rw[p];exact⟨i,z.below L⟩)
 obtain⟨b,l⟩:∃b,(w.alloc (.cells #[c.fm,.int .u32 c.mg,c.fr,c.un,c.de,c.it] 24)).alloc (.cells #[.int .u64 0,eS,eS] 103)=b:=⟨_,rfl⟩
 have j:=oL l;have D:Hid (ae d.toList W b):=za (h.only.trans ((ae.ai j.2.1 (ze _)).mono (by simp)));have B:Hid (af b (w.heap.size+1) 103 #[.int .u64 0,eS,eS]):=za j.2.2.2;have N:Hid (MS d t R b b):=za (MS.refl (h.met.only (ae.ai j.2.1 (ze _)) (by simp)));have r:Hid (∀k,d=some k->k<w.heap.size+1):=za (fun k E=>by have:=h.met.lt k E;omega);have M:Hid (W.heap.size<=w.heap.size+1):=za (by have:=h.size;omega);have A:=za l;have x:=za p;clear l j h p i;unfold aF.val;generalize s6 d=S at*;obtain⟨X,y⟩:∃X,bD c s=X:=⟨_,rfl⟩
 rw[y]at x o⊢;clear y;obtain⟨K,⟨I,G,H⟩,J,m⟩:=X;simp only at o x;go_enter func90,ntmps90
 go_wp2_with fail
 rw[A.out];refine(o.out _ _ N.out).mono ?_;rintro e U ⟨rfl,n⟩;have q:=za (n.blk B.out r.out);have C:=za (n.from D.out);clear n;obtain⟨g0,g1,g2,f0,f1,f2⟩:=bq q.out;go_wp2;refine zj (v:= .tuple #[.agg #[.int .u64 I,G,H],J,K]) (by simp[results,results90,go_sem,fY q.out]) rfl ?_;exact⟨rfl,C.out.gZ M.out r.out _ _ _⟩
theorem Hx (c:aF)(d:Option Nat)(t R:Nat)(s:ByteArray)(u:c.ok)(i:c.fm=2)(N:c.fr<=65536)(O:s.size<=1099511627776)(W w:World)(h:MS d t R W w):
 Calls prog 95 #[c.val,s6 d,s] w fun e w'=>e= .returned (ED (bD c s))/\MS d (t+(bD c s).2.2.2) (R-(bD c s).2.2.2) W w':=by
 have p:bD c s=((an c.fr s).1,⟨(an c.fr s).2.1,ByteArray.empty,(an c.fr s).2.2.1⟩,(an c.fr s).2.2.2,0):=by unfold bD;rw[zf (by omega),zg i]
 have o:Hid (∀b V,MS d t R b V->Calls prog 96 #[c.fr,s] V fun e w'=>e= .returned (.tuple #[.agg #[.int .u64 (bD c s).2.1.id,.string (bD c s).2.1.nm,.string (bD c s).2.1.body],.int .i64 (bD c s).2.2.1,.int .i64 (bD c s).1])/\MS d (t+(bD c s).2.2.2) (R-(bD c s).2.2.2) b w'):=za (fun b V z=>
  (ky c.fr s V (by omega) u.fr.1 u.fr.2).mono fun e w' ⟨i,K⟩=>by rw[p];exact⟨i,z.below K⟩)
 obtain⟨b,l⟩:∃b,(w.alloc (.cells #[c.fm,.int .u32 c.mg,c.fr,c.un,c.de,c.it] 24)).alloc (.cells #[.int .u64 0,eS,eS] 103)=b:=⟨_,rfl⟩
 have j:=oL l;have D:Hid (ae d.toList W b):=za (h.only.trans ((ae.ai j.2.1 (ze _)).mono (by simp)));have B:Hid (af b (w.heap.size+1) 103 #[.int .u64 0,eS,eS]):=za j.2.2.2;have M:Hid (MS d t R b b):=za (MS.refl (h.met.only (ae.ai j.2.1 (ze _)) (by simp)));have r:Hid (∀k,d=some k->k<w.heap.size+1):=za (fun k E=>by have:=h.met.lt k E;omega);have L:Hid (W.heap.size<=w.heap.size+1):=za (by have:=h.size;omega);have A:=za l;have x:=za p;clear l j h p i;unfold aF.val;generalize s6 d=S at*;obtain⟨X,y⟩:∃X,bD c s=X:=⟨_,rfl⟩
 rw[y]at x o⊢;clear y;obtain⟨J,⟨H,F,G⟩,I,m⟩:=X;simp only at o x;go_enter func95,ntmps95
 go_wp2_with fail
 rw[A.out];refine(o.out _ _ M.out).mono ?_;rintro e U ⟨rfl,n⟩;have q:=za (n.blk B.out r.out);have C:=za (n.from D.out);clear n;obtain⟨g0,g1,g2,f0,f1,f2⟩:=bq q.out;go_wp2;refine zj (v:= .tuple #[.agg #[.int .u64 H,F,G],I,J]) (by simp[results,results95,go_sem,fY q.out]) rfl ?_;exact⟨rfl,C.out.gZ L.out r.out _ _ _⟩
theorem H6 (c:aF)(b:Option Nat)(t R:Nat)(s:ByteArray)(j:c.ok)(h:c.fm=3)(hf:c.fr<=65536)(hu:c.un<=65536)(hR:70000<=R)(hs:s.size<=1099511627776)(W w:World)(i:MS b t R W w):
 Calls prog 100 #[c.val,s6 b,s] w fun e w'=>e= .returned (ED (bD c s))/\MS b (t+(bD c s).2.2.2) (R-(bD c s).2.2.2) W w':=by
 have y:bD c s=((aT c.fr c.un s).1,⟨(aT c.fr c.un s).2.1,ByteArray.empty,(aT c.fr c.un s).2.2.1⟩,(aT c.fr c.un s).2.2.2.1,(aT c.fr c.un s).2.2.2.2):=by unfold bD;rw[zf (by omega),zf (by omega)]
 have r:Hid (∀d V,MS b t R d V->Calls prog 101 #[c.fr,c.un,s6 b,s] V fun e w'=>e= .returned (.tuple #[.agg #[.int .u64 (bD c s).2.1.id,.string (bD c s).2.1.nm,.string (bD c s).2.1.body],.int .i64 (bD c s).2.2.1,.int .i64 (bD c s).1])/\MS b (t+(bD c s).2.2.2) (R-(bD c s).2.2.2) d w'):=za (fun d V n=>by
  rw[y];cases b with
  |none=>exact(Ap c.fr c.un s V (by omega) j.fr.1 j.fr.2).mono fun e w' ⟨h,z⟩=>⟨h,⟨n.only.trans' (ae.ai z (ze _)) (by simp),trivial⟩⟩
  |some g=>
   obtain⟨a,u,p,k1,k2,Z,k4⟩:=n.met;have Y:=Ko c.fr c.un s;exact(Au c.fr c.un g a u t p s V (by omega) j.fr.1 j.fr.2 k1 k2 (by omega) (by omega) (by omega)).mono fun e w' ⟨h,⟨q,z⟩,E⟩=>⟨h,⟨n.only.trans E,⟨a,_,q,z,k2,by simp only;omega,by simp only;omega⟩⟩⟩)
 obtain⟨d,o⟩:∃d,(w.alloc (.cells #[c.fm,.int .u32 c.mg,c.fr,c.un,c.de,c.it] 24)).alloc (.cells #[.int .u64 0,eS,eS] 103)=d:=⟨_,rfl⟩
 have l:=oL o;have I:Hid (ae b.toList W d):=za (i.only.trans ((ae.ai l.2.1 (ze _)).mono (by simp)));have F:Hid (af d (w.heap.size+1) 103 #[.int .u64 0,eS,eS]):=za l.2.2.2;have U:Hid (MS b t R d d):=za (MS.refl (i.met.only (ae.ai l.2.1 (ze _)) (by simp)));have B:Hid (∀k,b=some k->k<w.heap.size+1):=za (fun k J=>by have:=i.met.lt k J;omega);have S:Hid (W.heap.size<=w.heap.size+1):=za (by have:=i.size;omega);have G:=za o;have C:=za y;clear o l i y h;unfold aF.val;generalize s6 b=mv at*;obtain⟨X,D⟩:∃X,bD c s=X:=⟨_,rfl⟩
 rw[D]at C r⊢;clear D;obtain⟨O,⟨M,K,L⟩,N,m⟩:=X;simp only at r C;go_enter func100,ntmps100
 go_wp2_with fail
 rw[G.out];refine(r.out _ _ U.out).mono ?_;rintro e w1 ⟨rfl,x⟩;have A:=za (x.blk F.out B.out);have H:=za (x.from I.out);clear x;obtain⟨g0,g1,g2,f0,f1,f2⟩:=bq A.out;go_wp2;refine zj (v:= .tuple #[.agg #[.int .u64 M,K,L],N,O]) (by simp[results,results100,go_sem,fY A.out]) rfl ?_;exact⟨rfl,H.out.gZ S.out B.out _ _ _⟩
theorem af.ms {b:Option Nat}{ty:TypeId}{c:Array Value}(h:af V g ty c)(d:MS b t R V V')(e:∀k,b=some k->k<g):af V' g ty c:=d.blk h e
theorem Met.below {b:Option Nat}(h:Met w b t R)(c:Below w.heap.size w w'):Met w' b t R:=h.only (ae.ai c (ze _)) (by simp)
theorem Dg {b:Option Nat}{j:Nat}{d:World}(n:Hid (∀W w,MS b t R W w->Calls P f a w fun e w'=>e=E/\MS b j R' W w'))(c:MS b t R d V){ty:TypeId}{i:Array Value}(l:af V g ty i)(o:∀k,b=some k->k<g):
 Calls P f a V fun e w'=>e=E/\MS b j R' d w'/\af w' g ty i:=(n.out V V (MS.refl c.met)).mono fun e w' ⟨m,h⟩=>⟨m,h.from c.only,l.ms h o⟩
theorem abm (c:aF)(d:Option Nat)(t R:Nat)(s:ByteArray)(J:c.ok)(hr:c.right=true)(hR:70000<=R)(N:s.size<=1099511627776)(W w:World)(E:MS d t R W w):
 Calls prog 71 #[c.val,s6 d,s] w fun e w'=>e= .returned (ED (bj c s))/\MS d (t+(bj c s).2.2.2) (R-(bj c s).2.2.2) W w':=by
 have A:=za ((c.ik).1 hr);have C:=za (fun h=>Hw c d t R s J h (by have:=A.out;omega) N);have D:=za (fun h=>Hx c d t R s J h (by have:=A.out;omega) N);have G:=za (fun h=>H6 c d t R s J h (by have:=A.out;omega) (by have:=A.out;omega) hR N);have sk:Hid (c.fm=1\/c.fm=2\/c.fm=3):=za (by have:=A.out;omega);have L:=za (fun w=>rz c w);rw[hr]at L;have P0:=za (cE hr s);rw[P0.out];have I:=za (Ra c s);unfold aF.val at*;obtain⟨X,Lm⟩:=dY (bD c s);rw[Lm]at C D G I⊢;clear Lm J hR A P0;obtain⟨y5,⟨y1,U,y3⟩,y4,m⟩:=X;unfold ED Fr.val at C D G;simp only at C D G I;obtain⟨Z,Y,fr,un,M,it⟩:=c;simp only at*;generalize s6 d=mv at*;obtain⟨q,du⟩:=dY ((w.alloc (.cells #[Z,.int .u32 Y,fr,un,M,it] 24)).alloc (.cells #[.int .u64 0,eS,eS] 103));have u:=oL du;have HO:Hid (ae d.toList W q):=za (E.only.trans ((ae.ai u.2.1 (ze _)).mono (by simp)));have HB:Hid (af q (w.heap.size+1) 103 #[.int .u64 0,eS,eS]):=za u.2.2.2;have HM:Hid (Met q d t R):=za (E.met.only (ae.ai u.2.1 (ze _)) (by simp));have HG:Hid (∀k,d=some k->k<w.heap.size):=za (E.met.lt);have HL:Hid (W.heap.size<=w.heap.size/\q.heap.size=w.heap.size+2):=za ⟨E.size,u.1⟩;have l:Hid (∀V t R,MS d t R q V->(V,w.heap.size,0,Z)/\(V,w.heap.size,1,Value.int .u32 Y)/\(V,w.heap.size,2,fr)/\(V,w.heap.size,3,un)/\(V,w.heap.size,4,M)/\(V,w.heap.size,5,it)):=za (fun V t R hV=>by
  have x:=hV.blk u.2.2.1 HG.out;exact⟨x.cell 0,x.cell 1,x.cell 2,x.cell 3,x.cell 4,x.cell 5⟩)
 have dm:=za du;clear du u E;go_enter func71,ntmps71
 go_wp2_with fail
 rw[dm.out];refine cm (L.out _) fun y aK=> ?_
 have o:Hid (MS d t R q y):=za ((MS.refl HM.out).below aK);clear aK L;obtain⟨q0,q1,q2,q3,q4,q5⟩:=l.out y _ _ o.out;have Cm:=za o.out.size;have aa:Hid (Calls prog 66 #[] (y.alloc (.cells #[.int .u64 0,eS,eS] 103)).drew fun e w'=>e= .returned Fk/\MS d t R q w'/\af w' y.heap.size 103 #[.int .u64 0,eS,eS]):=za ((oJ _).mono fun e w' ⟨i,z⟩=>⟨i,((o.out.alloc _).drew).below z,(af.new y _ _).drew.ah z (by simp)⟩);have S:Hid (Calls prog 66 #[] y.drew fun e w'=>e= .returned Fk/\MS d t R q w'):=za ((oJ _).mono fun e w' ⟨i,z⟩=>⟨i,o.out.drew.below z⟩);unfold Fk kP at aa S;go_upto_region 3 with fail
 go_cut [9,10,11] (fun v n er wx=>∃K:Nat,v= .pointer (some (K,0))/\n= .int .i64 y4/\er= .int .i64 y5/\Hid (q.heap.size<=K)/\Hid (af wx K 103 #[.int .u64 y1,U,y3])/\Hid (MS d (t+m) (R-m) q wx))
 case first=>
  rcases sk.out with i|i|i;focus
   have F:=za (C.out i);have r:=SI;rw[<-i]at r;have B:=O8;unfold Fk fm1 kP at r;unfold fm1 kP at B
  rotate_left
  focus
   have F:=za (D.out i);have r:=SJ;rw[<-i]at r;have B:=O9;unfold Fk fm2 kP at r;unfold fm2 kP at B
  rotate_left
  focus
   have F:=za (G.out i);have r:=SK;rw[<-i]at r;have B:=O';unfold Fk fm3 kP at r;unfold fm3 kP at B
  rotate_left
  all_goals
   clear C D G i;go_wp2_with fail
   go_region_held3 (fun V=>(V,w.heap.size,0,Z)/\(V,w.heap.size,1,Value.int .u32 Y)/\(V,w.heap.size,2,fr)/\(V,w.heap.size,3,un)/\(V,w.heap.size,4,M)/\(V,w.heap.size,5,it))
    (first|exact l.out _ _ _ o.out|exact l.out _ _ _ o.out.drew|exact l.out _ _ _ ((o.out.alloc _).drew)|exact l.out _ _ _ p|exact l.out _ _ _ j|exact l.out _ _ _ (j.alloc _)|exact l.out _ _ _ (p.alloc _)|exact l.out _ _ _ (p.gZ Cm.out (o.out.met.lt) _ _ _)|exact l.out _ _ _ (p.gZ j.size (j.met.lt) _ _ _))
    (first
     |(go_at_call 66;first
      |((with_reducible refine aa.out.mono ?_);rintro e w' ⟨rfl,j,hz⟩;obtain⟨z0,z1,z2,ag,ah,aj⟩:=bq hz)
      |((with_reducible refine S.out.mono ?_);rintro e w' ⟨rfl,j⟩))
     |((with_reducible refine(Dg F j hz o.out.met.lt).mono ?_);rintro e w2 ⟨rfl,p,H⟩;obtain⟨z0,z1,z2,ag,ah,aj⟩:=bq H)
     |((with_reducible refine(Dg F (j.alloc _) (af.new _ _ _) j.met.lt).mono ?_);rintro e w2 ⟨rfl,p,H⟩;obtain⟨z0,z1,z2,ag,ah,aj⟩:=bq H)
     |((with_reducible refine(F.out _ _ j).mono ?_);rintro e w2 ⟨rfl,p⟩))
   all_goals
    go_wp2_with fail
    go_meet;case rel=>
     first
      |exact⟨_,rfl,rfl,rfl,za p.size,za (af.new _ _ _),za (p.alloc _)⟩
      |exact⟨_,rfl,rfl,rfl,Cm,za (oU H _ _ _),za (p.gZ Cm.out (o.out.met.lt) _ _ _)⟩
      |exact⟨_,rfl,rfl,rfl,za j.size,za (oU H _ _ _),za (p.gZ j.size (j.met.lt) _ _ _)⟩
 case rest=>
  obtain⟨K,rfl,rfl,rfl,an,al,ab⟩:=hcut;have Qz:Hid (af wc (w.heap.size+1) 103 #[.int .u64 0,eS,eS]):=za (ab.out.blk HB.out (fun k hk=>by have:=HG.out k hk;omega));have ai:Hid (MS d (t+m) (R-m) W wc):=za (ab.out.from HO.out);have ad:Hid (W.heap.size<=w.heap.size+1):=za (by have:=HL.out;omega);have TT:Hid (∀k,d=some k->k<w.heap.size+1):=za (fun k hk=>by have:=HG.out k hk;omega);obtain⟨g0,g1,g2,f0,f1,f2⟩:=bq Qz.out;obtain⟨k0,k1,k2,_,_,_⟩:=bq al.out;clear aa S l q0 q1 q2 q3 q4 q5;rcases eR y5 with⟨O,i,z⟩|⟨O,i,z⟩
  ·subst O;go_wp2;refine zj (v:= .tuple #[.agg #[.int .u64 y1,U,y3],y4,(0:Int)]) (by simp[results,results71,go_sem,fY Qz.out]) rfl ?_;exact⟨rfl,ai.out.gZ ad.out TT.out _ _ _⟩
  obtain⟨ak,rfl⟩:=I.out O;obtain⟨rfl,rfl,rfl⟩:y1=0/\U=ByteArray.empty/\y3=ByteArray.empty:=by injection ak with a b c;exact⟨a,b,c⟩
  clear I;go_wp2;refine zj (v:= .tuple #[.agg #[.int .u64 0,ByteArray.empty,ByteArray.empty],(0:Int),y5]) (by simp[results,results71,go_sem,fY Qz.out,qX]) rfl ?_;exact⟨rfl,ai.out.gZ ad.out TT.out _ _ _⟩
theorem abn (c:aF)(b:Option Nat)(t R:Nat)(s:ByteArray)(p:c.right=false)(W w:World)(h:MS b t R W w):
 Calls prog 71 #[c.val,s6 b,s] w fun e w'=>e= .returned (ED (bj c s))/\MS b (t+(bj c s).2.2.2) (R-(bj c s).2.2.2) W w':=by
 have o:bj c s=(1,oR,0,0):=by unfold bj;rw[p];rfl
 have n:=za (fun w=>rz c w);rw[p]at n;rw[o];unfold aF.val at*;generalize s6 b=B at*;obtain⟨d,j⟩:∃d,(w.alloc (.cells #[c.fm,.int .u32 c.mg,c.fr,c.un,c.de,c.it] 24)).alloc (.cells #[.int .u64 0,eS,eS] 103)=d:=⟨_,rfl⟩
 have i:=oL j;have z:Hid (MS b t R W d):=za (h.below i.2.1);have u:Hid (af d (w.heap.size+1) 103 #[.int .u64 0,eS,eS]):=za i.2.2.2;have y:Hid (∀k,b=some k->k<w.heap.size+1):=za (fun k A=>by have:=h.met.lt k A;omega);have q:Hid (W.heap.size<=w.heap.size+1/\d.heap.size=w.heap.size+2):=za ⟨by have:=h.size;omega,i.1⟩;have r:=za j;clear j i h o;go_enter func71,ntmps71
 go_wp2_with fail
 rw[r.out];refine(n.out _).mono ?_;rintro e C ⟨rfl,l⟩;have m:=za (u.out.ah l (by have:=q.out.2;omega));have x:=za (z.out.below l);clear l;obtain⟨g0,g1,g2,f0,f1,f2⟩:=bq m.out;go_wp2;refine zj (v:= .tuple #[.agg #[.int .u64 0,ByteArray.empty,ByteArray.empty],(0:Int),(1:Int)]) (by simp[results,results71,go_sem,fY m.out,qX]) rfl ?_;exact⟨rfl,x.out.gZ q.out.1 y.out _ _ _⟩
theorem SX (c:aF)(b:Option Nat)(t R:Nat)(s:ByteArray)(i:c.ok)(j:70000<=R)(h:s.size<=1099511627776)(W w:World)(d:MS b t R W w):
 Calls prog 71 #[c.val,s6 b,s] w fun e w'=>e= .returned (ED (bj c s))/\MS b (t+(bj c s).2.2.2) (R-(bj c s).2.2.2) W w':=by
 cases hr:c.right with
 |false=>exact abn c b t R s hr W w d
 |true=>exact abm c b t R s i hr j h W w d
theorem Wi (f:Fr)(w:World):Calls prog 87 #[f.val] w fun e w'=>e= .returned (.bool (decide (f.id=0)))/\(w,w'):=by
 unfold Fr.val;by_cases h:f.id=0
 ·have hd:decide ((f.id:Int)=0)=true:=by simp[h]
  obtain⟨id,nm,body⟩:=f;simp only at*;subst h;go_enter func87,ntmps87
  go_wp2;go_ret;exact⟨aU (by simp),bQ⟩
 have hd:((f.id:Int)==0)=false:=by simpa using h
 obtain⟨id,nm,body⟩:=f;simp only at*;go_enter func87,ntmps87
 go_wp2;go_ret;exact⟨aU (by simp[h]),bQ⟩
theorem MQ (f:Fr)(w:World):Calls prog 86 #[f.val] w fun e w'=>e= .returned (.bool (decide (f.nm.size=0)))/\(w,w'):=by
 unfold Fr.val;obtain⟨id,nm,body⟩:=f;simp only;rcases fZ nm with⟨_,rfl⟩|⟨b,d,c⟩
 ·go_enter func86,ntmps86
  go_wp2;go_ret;exact⟨aU (by rfl),bQ⟩
 go_enter func86,ntmps86
 go_wp2;go_ret;exact⟨aU (by simp_all),bQ⟩
theorem EF (c:aF)(f:Fr)(i:f.ok)(b:c.fm=1\/f.body.size<=1000000):(bg c f).1.size<=2000000:=by
 unfold bg;split
 ·split
  ·rename_i h
   split
   ·simp
   simp only;rw[lS c.mg f.nm f.body (dE h).2];omega
  simp
 rename_i d
 have b:=b.resolve_left d;split
 ·split
  ·simp
  simp only;rw[bJ];have e:=bC 10 ((aR f.id).length+f.body.data.toList.length) (by rw[aa];omega) (by omega);unfold eF;rw[zh,zh];rw[aa]at*;omega
 split
 ·simp
 split
 ·simp
 simp only;rw[bJ];have e:=bC 10 ((aR f.id).length+(pack f.body.data.toList).length) (by omega) (by omega);unfold eF;rw[zh,zh];omega
theorem abo (c:aF)(f:Fr)(h:c.ok)(i:f.ok)(d:c.fm=1)(w:World):
 Calls prog 88 #[c.val,f.val] w fun e w'=>e= .returned (.tuple #[.string (bg c f).1,.int .i64 (bg c f).2])/\(w,w'):=by
 have j:Hid (∀V,Calls prog 89 #[.int .u32 c.mg,f.nm,f.body] V fun e w'=>e= .returned (.tuple #[.string (bg c f).1,.int .i64 (bg c f).2])/\(V,w')):=za (fun V=>by
  unfold bg;rw[zg d];cases hm:ca f.nm with
  |false=>exact(KN c.mg f.nm f.body V h.mg i.nm hm).mono fun e w' ⟨d,k⟩=>⟨d,by rw[<-k];exact zi _ _⟩
  |true=>
   rw[zg rfl];by_cases b:65536<f.body.size
   ·rw[zg b];exact EC c.mg f.nm f.body V h.mg hm b i.body
   rw[zf b];exact Pl c.mg f.nm f.body V h.mg hm (by omega))
 clear h i d;unfold aF.val Fr.val;generalize bg c f=X at*;obtain⟨B,E⟩:=X;simp only at j;go_enter func88,ntmps88
 go_wp2_with fail
 refine(j.out _).mono ?_;rintro e m ⟨rfl,b⟩;have l:=za ((((zi w.heap.size w).alloc (ze _) _).alloc (by simp) _).trans (b.mono (by simp;omega)));clear b;go_wp2;go_ret2
 exact⟨rfl,l.out⟩
theorem abp (c:aF)(f:Fr)(h:f.ok)(b:f.body.size<=1000000)(i:c.fm=2)(w:World):
 Calls prog 93 #[c.val,f.val] w fun e w'=>e= .returned (.tuple #[.string (bg c f).1,.int .i64 (bg c f).2])/\(w,w'):=by
 have j:Hid (∀V,Calls prog 94 #[.int .u64 f.id,f.body] V fun e w'=>e= .returned (.tuple #[.string (bg c f).1,.int .i64 (bg c f).2])/\(V,w')):=za (fun V=>by
  unfold bg;rw[zf (by omega),zg i];by_cases d:65536<(aR f.id).length+f.body.size
  ·rw[zg d];exact o7 f.id f.body V h.id d b
  rw[zf d];exact An f.id f.body V h.id (by omega))
 clear h i b;unfold aF.val Fr.val;generalize bg c f=X at*;obtain⟨B,E⟩:=X;simp only at j;go_enter func93,ntmps93
 go_wp2_with fail
 refine(j.out _).mono ?_;rintro e l ⟨rfl,b⟩;have k:=za ((((zi w.heap.size w).alloc (ze _) _).alloc (by simp) _).trans (b.mono (by simp;omega)));clear b;go_wp2;go_ret2
 exact⟨rfl,k.out⟩
theorem abq (c:aF)(f:Fr)(d:f.ok)(hu:c.un<=65536)(h:c.fm=3)(w:World):
 Calls prog 98 #[c.val,f.val] w fun e w'=>e= .returned (.tuple #[.string (bg c f).1,.int .i64 (bg c f).2])/\(w,w'):=by
 by_cases j:c.un<f.body.size
 ·have i:Hid (bg c f=(ByteArray.empty,5)):=za (by unfold bg;rw[zf (by omega),zf (by omega),zg j]);rw[i.out];unfold aF.val Fr.val;clear i hu;have q:=d.body;clear d;obtain⟨m,n,o,s,u,it⟩:=c;obtain⟨id,nm,body⟩:=f;simp only at*;subst h;go_enter func98,ntmps98
  go_wp2;go_ret2
  exact⟨rfl,bQ⟩
 have l:Hid (∀V,Calls prog 99 #[.int .u64 f.id,f.body] V fun e w'=>e= .returned (.tuple #[.string (bg c f).1,.int .i64 (bg c f).2])/\(V,w')):=za (fun V=>by
  unfold bg;rw[zf (by omega),zf (by omega),zf j];refine(BU f.id f.body V d.id (by omega)).mono fun e w' ⟨h,p⟩=>⟨?_,p⟩
  rw[h];unfold Aq Ar;by_cases b:65536<(aR f.id).length+(pack f.body.data.toList).length
  ·rw[zg b,zg b,zg b]
  rw[zf b,zf b,zf b])
 have q:=d.body;clear d hu;unfold aF.val Fr.val;generalize bg c f=X at*;obtain⟨B,E⟩:=X;simp only at l;obtain⟨m,n,o,s,u,it⟩:=c;obtain⟨id,nm,body⟩:=f;simp only at*;subst h;go_enter func98,ntmps98
 go_wp2_with fail
 refine(l.out _).mono ?_;rintro e x ⟨rfl,k⟩;have r:=za ((((zi w.heap.size w).alloc (ze _) _).alloc (by simp) _).trans (k.mono (by simp;omega)));clear k;go_wp2;go_ret2
 exact⟨rfl,r.out⟩
theorem MR {t:TypeId}{a b c d:Value}(h:af w g t #[a,b,c,d]):(w,g,0,a)/\(w,g,1,b)/\(w,g,2,c)/\(w,g,3,d)/\w.frozen? (g,0)=false/\w.frozen? (g,1)=false/\w.frozen? (g,2)=false/\w.frozen? (g,3)=false:=
 ⟨h.cell 0,h.cell 1,h.cell 2,h.cell 3,h.frozen 0,h.frozen 1,h.frozen 2,h.frozen 3⟩
theorem Pn (c:aF)(f:Fr)(e:c.right=true):(nn c f=false->gQ c f=(ByteArray.empty,1))/\(nn c f=true->(bg c f).2≠0->gQ c f=(ByteArray.empty,(bg c f).2))/\(nn c f=true->(bg c f).2=0->(bD c (bg c f).1).1=5->gQ c f=(ByteArray.empty,5))/\(nn c f=true->(bg c f).2=0->(bD c (bg c f).1).1≠5->gQ c f=((bg c f).1,0)):=by
 refine⟨fun h=> ?_,fun h b=> ?_,fun h b d=> ?_,fun h b d=> ?_⟩<;>unfold gQ
 ·rw[zf (by simp[h])]
 ·rw[zg ⟨e,h⟩,zg b]
 ·rw[zg ⟨e,h⟩,zf (by simp[b]),zg d]
 rw[zg ⟨e,h⟩,zf (by simp[b]),zf d]
theorem Wj {h:Nat}(d:Hid (∀W w,MS none t R W w->Calls P f a w fun e w'=>e=E/\MS none h R' W w')):Hid (∀V,Calls P f a V fun e w'=>e=E/\(V,w')):=za fun V=>(d.out V V (MS.refl trivial)).mono fun e w' ⟨b,c⟩=>⟨b,c.SW⟩
theorem Wk (c:aF)(f:Fr)(L:c.ok)(N:f.ok)(h:c.fm=1\/f.body.size<=1000000)(hr:c.right=true)(w:World):
 Calls prog 48 #[c.val,f.val] w fun e w'=>e= .returned (.tuple #[(gQ c f).1,(gQ c f).2])/\(w,w'):=by
 have Y6:=(c.ik).1 hr;have hz:=EF c f N h;rcases(by omega:c.fm=1\/c.fm=2\/c.fm=3)with b|b|b;focus
  have IZ:=za (Hw c none 0 140000 (bg c f).1 L b (by omega) (by omega));have HF:=za fun(V:World)=>(show nn c f=_ from zg b)▸Wi f V
  have I:=za fun V=>abo c f L N b V
  have o:=SI;obtain⟨F,hF⟩:∃F,fm1= .agg F:=⟨_,rfl⟩
  rw[<-b]at o;unfold Fk fm1 kP at o;unfold fm1 kP at hF;injection hF with hF
 rotate_left
 focus
  have IZ:=za (Hx c none 0 140000 (bg c f).1 L b (by omega) (by omega));have HF:=za fun(V:World)=>(show nn c f=decide (f.nm.size=0)from zf (by omega))▸MQ f V
  have I:=za fun V=>abp c f N (h.resolve_left (by omega)) b V
  have o:=SJ;obtain⟨F,hF⟩:∃F,fm2= .agg F:=⟨_,rfl⟩
  rw[<-b]at o;unfold Fk fm2 kP at o;unfold fm2 kP at hF;injection hF with hF
 rotate_left
 focus
  have IZ:=za (H6 c none 0 140000 (bg c f).1 L b (by omega) (by omega) (by omega) (by omega));have HF:=za fun(V:World)=>(show nn c f=decide (f.nm.size=0)from zf (by omega))▸MQ f V
  have I:=za fun V=>abq c f N (by omega) b V
  have o:=SK;obtain⟨F,hF⟩:∃F,fm3= .agg F:=⟨_,rfl⟩
  rw[<-b]at o;unfold Fk fm3 kP at o;unfold fm3 kP at hF;injection hF with hF
 rotate_left
 all_goals
  clear Y6 L N h hz;have HR:=za (fun w=>rz c w);rw[hr]at HR;have j:=za (Pn c f hr);have Z:=Wj IZ;clear IZ;unfold ED Fr.val at*;obtain⟨X,q⟩:=dY (bD c (bg c f).1);rw[q]at Z j;clear q;obtain⟨y5,⟨y1,y2,y3⟩,y4,m⟩:=X;obtain⟨X,q⟩:=dY (bg c f);rw[q]at Z j I;clear q;obtain⟨S,E⟩:=X;obtain⟨X,q⟩:=dY (gQ c f);rw[q]at j⊢;clear q;obtain⟨P1,P2⟩:=X;obtain⟨ft,PN⟩:=dY (nn c f);rw[PN]at j HF;clear PN;simp only at Z j I;unfold aF.val at*;obtain⟨fm,mg,fr,un,de,it⟩:=c;obtain⟨id,nm,body⟩:=f;simp only at*;have ag:=za hF;clear hF b;obtain⟨d,du⟩:∃d,(w.alloc (.cells #[fm,.int .u32 mg,fr,un,de,it] 24)).alloc (.cells #[.int .u64 id,nm,body] 103)=d:=⟨_,rfl⟩
  have H:=oL du;have HO:Hid (w,d):=za H.2.1;have HL:Hid (d.heap.size=w.heap.size+2):=za H.1;have k:Hid (∀V,Below d.heap.size d V->((V,w.heap.size,0,fm)/\(V,w.heap.size,1,Value.int .u32 mg)/\(V,w.heap.size,2,fr)/\(V,w.heap.size,3,un)/\(V,w.heap.size,4,de)/\(V,w.heap.size,5,it))):=za (fun V p=>by
   have l:=H.2.2.1.ah p (by omega);exact⟨l.cell 0,l.cell 1,l.cell 2,l.cell 3,l.cell 4,l.cell 5⟩)
  have ab:Hid (∀V,Below d.heap.size d V->((V,w.heap.size+1,0,Value.int .u64 id)/\(V,w.heap.size+1,1,nm)/\(V,w.heap.size+1,2,body))):=za (fun V p=>by
   have l:=H.2.2.2.ah p (by omega);exact⟨l.cell 0,l.cell 1,l.cell 2⟩)
  have dm:=za du;clear du H;go_enter func48,ntmps48
  go_wp2_with fail
  rw[dm.out];refine cm (HR.out _) fun C aK=> ?_
  have u:Hid (d,C):=za aK;clear aK;obtain⟨B,A,y,x,s,z⟩:=k.out C u.out;have i:=za u.out.size;have ae:Hid (Calls prog 66 #[] (C.alloc (.cells #[.nilFunc,.nilFunc,.nilFunc,.nilFunc] 131)).drew fun e w'=>e= .returned Fk/\(d,w')/\af w' C.heap.size 131 #[.nilFunc,.nilFunc,.nilFunc,.nilFunc]):=za ((oJ _).mono fun e w' ⟨b,Y⟩=>⟨b,((u.out.alloc i.out _).drew).trans (Y.mono (by have:=i.out;simp;omega)),(af.new C _ _).drew.ah Y (by simp)⟩);have Xd:Hid (Calls prog 66 #[] C.drew fun e w'=>e= .returned Fk/\(d,w')):=za ((oJ _).mono fun e w' ⟨b,Y⟩=>⟨b,u.out.drew.trans (Y.mono i.out)⟩);unfold Fk kP at ae Xd;clear HR;go_upto_region 3 with fail
  go_cut [6] (fun v wx=>∃M:Nat,v= .pointer (some (M,0))/\Hid (d.heap.size<=M)/\Hid (af wx M 131 F)/\Hid (d,wx))
  case first=>
   go_wp2_with fail
   go_region_held3 (fun V=>(V,w.heap.size,0,fm)/\(V,w.heap.size,1,Value.int .u32 mg)/\(V,w.heap.size,2,fr)/\(V,w.heap.size,3,un)/\(V,w.heap.size,4,de)/\(V,w.heap.size,5,it))
    (first|exact k.out _ u.out|exact k.out _ u.out.drew|exact k.out _ ((u.out.alloc i.out _).drew)|exact k.out _ n|exact k.out _ (n.alloc n.size _)|exact k.out _ ((((n.setCell i.out _).setCell i.out _).setCell i.out _).setCell i.out _))
    (first
     |(go_at_call 66;((with_reducible refine ae.out.mono ?_);rintro e w' ⟨rfl,n,hz⟩;obtain⟨z0,D,z2,z3,al,an,ao,ak⟩:=MR hz))
     |(go_at_call 66;((with_reducible refine Xd.out.mono ?_);rintro e w' ⟨rfl,n⟩)))
   all_goals
    go_wp2_with fail
    go_meet;case rel=>
     first
      |exact⟨_,rfl,za n.size,by rw[<-ag.out];exact af.new _ _ _,za (n.alloc n.size _)⟩
      |exact⟨_,rfl,i,by rw[<-ag.out];exact(((hz.set 0 _).set 1 _).set 2 _).set 3 _,za ((((n.setCell i.out _).setCell i.out _).setCell i.out _).setCell i.out _)⟩
  case rest=>
   obtain⟨M,rfl,aj,ad,U⟩:=hcut;have ah:Hid (∀V,Below wc.heap.size wc V->(d,V)/\af V M 131 F):=za (fun V p=>⟨U.out.trans (p.mono U.out.size),ad.out.ah p ad.out.lt⟩);obtain rfl:=ag.out;have R:Hid (∀V,Below d.heap.size d V->Below w.heap.size w V):=za (fun V p=>HO.out.trans (p.mono (by have:=HL.out;omega)));clear ae Xd B A y x s z o;obtain⟨B,A,y,x,s,z⟩:=k.out wc U.out;obtain⟨J,G,K⟩:=ab.out wc U.out;obtain⟨z0,D,z2,z3,_⟩:=MR ad.out;go_wp2_with fail
   refine(HF.out _).mono ?_;rintro e w2 ⟨rfl,h⟩;obtain⟨O,mN⟩:=ah.out w2 h;have dt:=za h;have ai:=za O;clear B A y x s z J G K z0 D z2 z3 h;obtain⟨B,A,y,x,s,z⟩:=k.out w2 O;obtain⟨J,G,K⟩:=ab.out w2 O;obtain⟨z0,D,z2,z3,_⟩:=MR mN;clear O mN;cases ft with
   |false=>
    have r:=j.out.1 (by simp);injection r with jv kd;subst jv;subst kd;clear j;go_wp2;go_ret2
    exact⟨rfl,R.out _ ai.out⟩
   |true=>
    go_wp2_with fail
    refine(I.out _).mono ?_;rintro e w3 ⟨rfl,h⟩;have fT:Hid (wc,w3):=za (dt.out.trans (h.mono dt.out.size));obtain⟨W,Dm⟩:=ah.out w3 fT.out;have aa:=za W;clear B A y x s z J G K z0 D z2 z3 h;obtain⟨B,A,y,x,s,z⟩:=k.out w3 W;obtain⟨J,G,K⟩:=ab.out w3 W;obtain⟨z0,D,z2,z3,_⟩:=MR Dm;clear W Dm;rcases eR E with⟨e0,e1,e2⟩|⟨e0,e1,e2⟩
    ·subst e0;have vc:=za (And.intro (j.out.2.2.1 (by simp) (by simp)) (j.out.2.2.2 (by simp) (by simp)));clear j;go_wp2_with fail
     refine(Z.out _).mono ?_;rintro e w4 ⟨rfl,h⟩;have gJ:Hid (d,w4):=za (aa.out.trans (h.mono aa.out.size));clear B A y x s z J G K z0 D z2 z3 h;by_cases h5:y5=5
     ·have r:=vc.out.1 h5;injection r with jv kd;subst jv;subst kd;subst h5;clear vc;go_wp2;go_ret2
      exact⟨rfl,R.out _ (gJ.out.alloc gJ.out.size _)⟩
     have r:=vc.out.2 h5;injection r with jv kd;subst jv;subst kd;clear vc;have h6:(y5==5)=false:=by simpa using h5
     go_wp2;go_ret2
     exact⟨rfl,R.out _ (gJ.out.alloc gJ.out.size _)⟩
    have r:=j.out.2.1 (by simp) e0;injection r with jv kd;subst jv;subst kd;clear j;go_wp2;go_ret2
    exact⟨rfl,R.out _ aa.out⟩
theorem Wl (c:aF)(f:Fr)(i:c.ok)(k:f.ok)(j:c.fm=1\/f.body.size<=1000000)(w:World):
 Calls prog 48 #[c.val,f.val] w fun e w'=>e= .returned (.tuple #[.string (gQ c f).1,.int .i64 (gQ c f).2])/\(w,w'):=by
 cases hr:c.right with
 |true=>exact Wk c f i k j hr w
 |false=>
  have d:gQ c f=(ByteArray.empty,1):=by unfold gQ;rw[zf (by simp[hr])]
  have b:=za (fun w=>rz c w);rw[hr]at b;rw[d];clear d hr i k j;unfold aF.val Fr.val at*;go_enter func48,ntmps48
  go_wp2_with fail
  refine(b.out _).mono ?_;rintro e l ⟨rfl,h⟩;have m:Below w.heap.size w l:=(((zi w.heap.size w).alloc (ze _) _).alloc (by simp) _).trans (h.mono (by simp;omega));clear h;go_wp2;go_ret2
  exact⟨rfl,m⟩
