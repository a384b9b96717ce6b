/- The stack of rlp.Put: lists whose bytes are being laid. Own text; no program in sight but the types' numbers. -/
import Derived.WalkSmall
import Derived.Test.YtdbmifjankgfpaaGreatDoorKA7
set_option linter.all false
set_option maxRecDepth 100000
set_option maxHeartbeats 2000000
open Go.Proofs.Tryz
namespace Go.Proofs.YtdbmifjankgfpaaGreatDoor
open Go.RowKit
variable {w w':World}{g cap S hi n d k m z e r B o base l:Nat}{D M:Int}{s:ByteArray}{A:Option Addr}{R:Rd}{acc:List It}{xs:List Value}{L:List Nat}{i:Value}
def Zr:=@ownsRow_setCell_other
theorem ch.ag {i:Nat}{s:List It}(h:ch w B s A i)(c:∀p:Addr,p.block<B->w'.cell? p=w.cell? p):ch w' B s A i:=ch.Fv fun j k=>by
 obtain⟨b,o,d0,d1,d2,e,d,l,n,m,hi⟩:=h.at_ j k;exact⟨b,o,d0,d1,d2,e,d,(c _ d).trans l,(c _ d).trans n,(c _ d).trans m,bT.ag (zg _) c _ hi⟩
theorem ch.tail {b:Nat}:∀{s:List It} {i:Nat},ch w B s (some ⟨b,o,none⟩) (i+1)->ch w B s (some ⟨b,o+3,none⟩) i
 | [],_,_=>trivial
 |x::xs,i,h=>by
  obtain⟨⟨r,q,d,l,n,c,j,k,p,e,hi⟩,m⟩:=h;injection c with c;injection c with wR ho;subst wR;subst ho;refine⟨⟨b,o+3,d,l,n,rfl,j, ?_, ?_, ?_,hi⟩,ch.tail m⟩
  ·rw[show o+3+i*3=o+(i+1)*3 from by omega];exact k
  ·rw[show o+3+i*3+1=o+(i+1)*3+1 from by omega];exact p
  rw[show o+3+i*3+2=o+(i+1)*3+2 from by omega];exact e
def Ui (w:World)(S:Nat)(f:List It×List UInt8)(v:Value×Value):Prop:=
 (∃A cap,v.1= .slice A f.1.length cap/\f.1.length<=cap/\cap<=9223372036854775807/\ch w S f.1 A 0)/\bP w S 5 v.2 f.2
def Lays (w:World)(S:Nat):List (List It×List UInt8)->List (Value×Value)->Prop
 | [],[]=>True
 |f::fs,v::vs=>Ui w S f v/\(∀u∈vs,∀g,v.2.ownBlock=some g->u.2.ownBlock≠some g)/\Lays w S fs vs
 |_,_=>False
def ea :List (Value×Value)->List Value
 | []=> []
 |v::vs=>ea vs++ [v.1,v.2]
theorem cm (b:List (Value×Value)):(ea b).length=b.length*2:=by
 induction b with
 |nil=>rfl
 |cons v b ih=>simp[ea,ih];omega
theorem Lays.length :∀{b:List (List It×List UInt8)} {c:List (Value×Value)},Lays w S b c->c.length=b.length
 | [],[],_=>rfl
 |f::b,v::c,h=>by simp[Lays.length h.2.2]
theorem Ui.ag {f:List It×List UInt8}{v:Value×Value}(h:Ui w S f v)(hS:S<=w.heap.size)(d:∀k,k<w.heap.size->(k<S\/v.2.ownBlock=some k)->w'.heap[k]?=w.heap[k]?):Ui w' S f v:=by
 obtain⟨⟨A,cap,b,c,l,e⟩,i⟩:=h;exact⟨⟨A,cap,b,c,l,e.ag fun p j=>zF (d _ (by omega) (.inl j))⟩,i.ag fun k b c=>d k b (.inr c)⟩
theorem Lays.ag (hS:S<=w.heap.size):∀{d:List (List It×List UInt8)} {b:List (Value×Value)},Lays w S d b->(∀k,k<w.heap.size->(k<S\/∃u∈b,u.2.ownBlock=some k)->w'.heap[k]?=w.heap[k]?)->Lays w' S d b
 | [],[],_,_=>trivial
 |f::d,v::b,h,hk=>⟨h.1.ag hS fun k e c=>hk k e (c.imp id fun h=>⟨v,by simp,h⟩),h.2.1,Lays.ag hS h.2.2 fun k e c=>hk k e (c.imp id fun⟨u,hu,h⟩=>⟨u,by simp[hu],h⟩)⟩
theorem Lays.ge :∀{c:List (List It×List UInt8)} {b:List (Value×Value)},Lays w S c b->∀u∈b,∀g,u.2.ownBlock=some g->S<=g/\g<w.heap.size/\∃d e,w.heap[g]?=some (.cells d 5 e)
 | [],[],_,u,hu,_,_=>by cases hu
 |f::c,v::b,h,u,hu,g,hg=>by
  rcases xf.1 hu with rfl|hu
  ·exact h.1.2.ge g hg
  exact Lays.ge h.2.2 u hu g hg
structure Lay (w:World)(S g cap:Nat)(fs:List (List It×List UInt8))(vs:List (Value×Value)):Prop where
 row:w.ownsRow S 226 2 (.slice (some ⟨g,0,none⟩) fs.length cap) fs.length (ea vs)
 lays:Lays w S fs vs
theorem gz {size:Nat}{e:TypeId}(h:w.ownsRow base e size (.slice (some ⟨g,0,none⟩) n cap) n xs)(s:k<xs.length)(u:Value):
 (w.setCell ⟨g,k,none⟩ u).ownsRow base e size (.slice (some ⟨g,0,none⟩) n cap) n (xs.set k u):=by
 obtain⟨d,b⟩:=h;refine⟨by rw[Zh];exact d, ?_⟩;rcases b with⟨b,_⟩|⟨r,x,q,c,j,l,i,m,p,o⟩
 ·cases b
 cases c
 exact .inr ⟨g,cap,_,rfl,j,jh u l,i,m,by simpa using p,by rw[ZU,List.take_set,o]⟩
theorem dK {size:Nat}{e:TypeId}(h:w.ownsRow base e size (.slice (some ⟨g,0,none⟩) n cap) n xs):base<=g/\g<w.heap.size/\n<=cap/\cap<=9223372036854775807/\∃b,w.heap[g]?=some (.cells b e (0,0)):=by
 obtain⟨m,c⟩:=h;rcases c with⟨c,_⟩|⟨o,r,b,i,k,d,j,l,q,p⟩
 ·cases c
 cases i
 exact⟨k,yI d,j,by simpa[maxLen]using l,b,d⟩
theorem Lay.block {b:List (List It×List UInt8)}{c:List (Value×Value)}(h:Lay w S g cap b c):S<=g/\g<w.heap.size/\b.length<=cap/\cap<=9223372036854775807/\∃d,w.heap[g]?=some (.cells d 226 (0,0)):=dK h.row
theorem Lay.below {b:List (List It×List UInt8)}{c:List (Value×Value)}(h:Lay w S g cap b c)(hS:S<=w.heap.size)(d:Below w.heap.size w w'):Lay w' S g cap b c:=
 ⟨h.row.kept (dE d) (.inr (by simp[Value.ownBlock])),h.lays.ag hS fun k e _=>d.block k e⟩
theorem Lay.top {f:List It×List UInt8}{b:List (List It×List UInt8)}{v:Value×Value}{c:List (Value×Value)}(h:Lay w S g cap (f::b) (v::c)):
 w.cell? ⟨g,b.length*2,none⟩=some v.1/\w.cell? ⟨g,b.length*2+1,none⟩=some v.2/\w.frozen? ⟨g,b.length*2,none⟩=false/\w.frozen? ⟨g,b.length*2+1,none⟩=false/\(∀i,v.2.ownBlock≠some i\/i≠g):=by
 have n:=h.lays.2.2.length;have m:=cm c;have l:∀j,(⟨g,0,none⟩:Addr).add j=⟨g,j,none⟩:=by intro j;unfold Addr.add;split<;>simp_all
 obtain⟨o,q,_,_,p,d⟩:=h.block;have k:=h.row.cells (g:=g) rfl (b.length*2) v.1 (by
  show(ea c++ [v.1,v.2])[b.length*2]?=_
  rw[yl (by omega),show b.length*2-(ea c).length=0 from by omega];rfl)
 have e:=h.row.cells (g:=g) rfl (b.length*2+1) v.2 (by
  show(ea c++ [v.1,v.2])[b.length*2+1]?=_
  rw[yl (by omega),show b.length*2+1-(ea c).length=1 from by omega];rfl)
 rw[l]at k e;refine⟨k,e,eL d (.inl rfl),eL d (.inl rfl),fun i=> ?_⟩;by_cases hi:i=g
 ·left;subst hi;exact bP.dI h.lays.1.2 d (by decide)
 exact .inr hi
theorem Jv (b:List (Value×Value))(v:Value×Value)(u:Value)(k:Nat)(c:k=b.length*2):(ea (v::b)).set (k+1) u=ea ((v.1,u)::b):=by
 subst c;show(ea b++ [v.1,v.2]).set _ u=ea b++ [v.1,u]
 rw[xz _ _ (by rw[cm];omega),cm,show b.length*2+1-b.length*2=1 from by omega];rfl
theorem wy (b:List (Value×Value))(v:Value×Value)(u:Value)(k:Nat)(c:k=b.length*2):(ea (v::b)).set k u=ea ((u,v.2)::b):=by
 subst c;show(ea b++ [v.1,v.2]).set _ u=ea b++ [u,v.2]
 rw[xz _ _ (by rw[cm];omega),cm,ZM];rfl
theorem bM {p:Addr}{u:Value}(h:k≠p.block):(w.setCell p u).heap[k]?=w.heap[k]?:=by
 simp[World.setCell,Zt,xR h]
theorem Lay.bytes {y:World}{xs:List It}{b D:List UInt8}{r:List (List It×List UInt8)}{s o d:Value}{x:List (Value×Value)}(h:Lay w S g cap ((xs,b)::r) ((s,o)::x))(hS:S<=w.heap.size)
 (n:mH w y o d) (N:bP y S 5 d D):Lay (y.setCell ⟨g,r.length*2+1,none⟩ d) S g cap ((xs,D)::r) ((s,d)::x):=by
 have O:=h.lays.2.2.length;obtain⟨X,W,_,_,Z,L⟩:=h.block;have F:o.ownBlock≠some g:=by
  rcases h.top.2.2.2.2 g with h|h
  ·exact h
  exact absurd rfl h
 have I:d.ownBlock≠some g:=by
  rcases n.own with e|⟨i,e,hi⟩
  ·rw[e];exact F
  rw[e];intro q;injection q with q;omega
 have E:=gz (k:=r.length*2+1) (h.row.kept n.grown (.inr (by simp only[Value.ownBlock];exact xR F))) (by rw[cm];simp;omega) d;rw[Jv x (s,o) d _ (by omega)]at E;refine⟨E,⟨⟨?_, ?_⟩, ?_, ?_⟩⟩
 ·obtain⟨⟨A,c,H,q,J,M⟩,_⟩:=h.lays.1;refine⟨A,c,H,q,J,M.ag fun p R=>zF ?_⟩;rw[bM (by simp;omega),n.block (by omega) (fun e=>by have:=(h.lays.1.2.ge _ e).1;omega)]
 ·refine N.ag fun k C K=>bM ?_
  intro e;simp only at e;subst e;exact I K
 ·intro u hu i hi B;rcases n.own with e|⟨j,e,hj⟩
  ·exact h.lays.2.1 u hu i (by rw[<-e];exact hi) B
  have m:=(h.lays.2.2.ge u hu i B).2.1;have hi:d.ownBlock=some i:=hi;rw[e]at hi;injection hi with hi;omega
 refine h.lays.2.2.ag hS fun k C z=> ?_
 have G:k≠g:=by
  rcases z with m|⟨u,hu,m⟩
  ·omega
  rintro rfl;obtain⟨_,_,U,Y,l⟩:=h.lays.2.2.ge u hu k m;rw[L]at l;injection l with l;injection l with _ l;exact absurd l (by decide)
 rw[bM (by simpa using G),n.block C (fun e=> ?_)];rcases z with m|⟨u,hu,m⟩
 ·have:=(h.lays.1.2.ge _ e).1;omega
 exact h.lays.2.1 u hu k e m
theorem Lay.items {xs xs':List It}{b:List UInt8}{i:List (List It×List UInt8)}{n e:Value}{j:List (Value×Value)}(h:Lay w S g cap ((xs,b)::i) ((n,e)::j))(hS:S<=w.heap.size)
  {c:Nat} (z:xs'.length<=c) (r:c<=9223372036854775807) (y:ch w S xs' A 0):Lay (w.setCell ⟨g,i.length*2,none⟩ (.slice A xs'.length c)) S g cap ((xs',b)::i) ((.slice A xs'.length c,e)::j):=by
 have B:=h.lays.2.2.length;obtain⟨E,H,_,_,G,x⟩:=h.block;have o:=gz (k:=i.length*2) h.row (by rw[cm];simp;omega) (.slice A xs'.length c);rw[wy j (n,e) _ _ (by omega)]at o;have l:∀k,k<S\/(∃u∈(n,e)::j,u.2.ownBlock=some k)->k≠g:=by
  intro k m;rcases m with h1|⟨u,hu,h1⟩
  ·omega
  rintro rfl;obtain⟨_,_,C,F,d⟩:=Lays.ge h.lays u hu k h1;rw[x]at d;injection d with d;injection d with _ d;exact absurd d (by decide)
 refine⟨o,⟨⟨⟨A,c,rfl,z,r,y.ag fun p q=>zF (bM (by simpa using l _ (.inl q)))⟩,h.lays.1.2.ag fun k _ s=>bM (by simpa using l _ (.inr ⟨_,by simp,s⟩))⟩,h.lays.2.1,h.lays.2.2.ag hS fun k D m=>bM (by simpa using l _ (m.imp id fun⟨u,hu,h⟩=>⟨u,by simp[hu],h⟩))⟩⟩
theorem Lay.push {d:List (List It×List UInt8)}{j:List (Value×Value)}(h:Lay w S g cap d j)(hS:S<=w.heap.size){s:List It}{c:Nat}(z:s.length<=c)(q:c<=9223372036854775807)(y:ch w S s A 0)
 (B:w'.ownsRow S 226 2 (.slice (some ⟨m,0,none⟩) (d.length+1) n) (d.length+1) (ea j++ [.slice A s.length c,.slice none 0 0])) (l:w.grownBy w' (some g)):
 Lay w' S m n ((s,[])::d) ((.slice A s.length c,.slice none 0 0)::j):=by
 obtain⟨E,H,_,_,G,x⟩:=h.block;refine⟨B,⟨⟨⟨A,c,rfl,z,q,y.ag fun p C=>zF (l.block _ (by omega) (by simp;omega))⟩,bP.nil _ _ _⟩,(fun u _ i hi=>by cases hi),h.lays.ag hS fun k r o=>l.block k r ?_⟩⟩;intro e;injection e with e;rcases o with h1|⟨u,hu,h1⟩
 ·omega
 subst e;obtain⟨_,_,D,F,b⟩:=h.lays.ge u hu k h1;rw[x]at b;injection b with b;injection b with _ b;exact absurd b (by decide)
theorem Lay.pop {f:List It×List UInt8}{b:List (List It×List UInt8)}{v:Value×Value}{c:List (Value×Value)}(h:Lay w S g cap (f::b) (v::c)):Lay w S g cap b c:=
 ⟨ownsRow_pop (by rw[cm,h.lays.2.2.length]) h.row,h.lays.2.2⟩
def mF (w:World)(k:Nat):Prop:=∀cs fr,w.heap[k]?≠some (.cells cs 259 fr)
theorem mF.of_eq (h:mF w k)(e:w'.heap[k]?=w.heap[k]?):mF w' k:=by
 intro c b;rw[e];exact h c b
theorem mF.Lp {b:Array Value}{t:TypeId}{d:Nat×Nat}(h:w.heap[k]?=some (.cells b t d))(c:t≠259):mF w k:=by
 intro j i e;rw[h]at e;injection e with e;injection e with _ e;exact c e
def XO (w:World)(m hi:Nat)(f:List It×Nat)(v:Value×Value):Prop:=
 v.2= .int .i64 f.2/\(∀g,v.1.ownBlock=some g->g<hi)/\∃cs,w.ownsRow m 28 3 v.1 f.1.length cs/\fU w (fun k=>m<=k/\k<hi/\v.1.ownBlock≠some k/\mF w k) f.1 cs
def NL (w:World)(lo:Nat):Nat->List (List It×Nat)->List (Value×Value)->Prop
 |_,[],[]=>True
 |hi,f::fs,v::vs=>∃m,lo<=m/\m<=hi/\XO w m hi f v/\NL w lo m fs vs
 |_,_,_=>False
theorem NL.length :∀{b:List (List It×Nat)} {c:List (Value×Value)} {hi:Nat},NL w d hi b c->c.length=b.length
 | [],[],_,_=>rfl
 |f::b,v::c,hi,h=>by
  obtain⟨m,_,_,_,h⟩:=h;simp[NL.length h]
theorem XO.ag {f:List It×Nat}{v:Value×Value}(h:XO w m hi f v)(o:hi<=d)(c:∀k,m<=k->k<hi->k<w.heap.size->mF w k->w'.heap[k]?=w.heap[k]?):XO w' m d f v:=by
 obtain⟨l,e,n,i,j⟩:=h;refine⟨l,fun g b=>zU (e g b) o,n,⟨i.1, ?_⟩,j.ag (fun k q hS=>⟨hS.1,by omega,hS.2.2.1,hS.2.2.2.of_eq (c k hS.1 hS.2.1 q hS.2.2.2)⟩) fun p s hS=>zF (c _ hS.1 hS.2.1 s hS.2.2.2)⟩;rcases i.2 with h5|⟨g,cap,cur,hv,b,hh',r⟩
 ·exact .inl h5
 exact .inr ⟨g,cap,cur,hv,b,(c g b (e g (by rw[hv];rfl)) (yI hh') (mF.Lp hh' (by decide))).trans hh',r⟩
theorem NL.ag {c:Nat}:∀{d:List (List It×Nat)} {e:List (Value×Value)} {hi:Nat},NL w c hi d e->(∀k,c<=k->k<hi->k<w.heap.size->mF w k->w'.heap[k]?=w.heap[k]?)->NL w' c hi d e
 | [],[],_,_,_=>trivial
 |f::d,v::e,hi,h,hk=>by
  obtain⟨m,j,l,n,i⟩:=h;exact⟨m,j,l,n.ag (zg _) fun k a b=>hk k (by omega) b,NL.ag i fun k a b=>hk k a (by omega)⟩
theorem NL.up {b:List (List It×Nat)}{c:List (Value×Value)}(h:NL w e hi b c)(k:hi<=d):NL w e d b c:=by
 match b,c,h with
 | [],[],_=>trivial
 |f::b,v::c,h=>
  obtain⟨m,j,n,l,i⟩:=h;exact⟨m,j,by omega,l.ag k fun _ _ _ _ _=>rfl,i⟩
structure s6 (w:World)(lo hi g cap:Nat)(fs:List (List It×Nat))(vs:List (Value×Value)):Prop where
 row:w.ownsRow lo 259 2 (.slice (some ⟨g,0,none⟩) fs.length cap) fs.length (ea vs)
 rds:NL w lo hi fs vs
 le:hi<=w.heap.size
theorem s6.block {b:Nat}{c:List (List It×Nat)}{d:List (Value×Value)}(h:s6 w b hi g cap c d):b<=g/\g<w.heap.size/\c.length<=cap/\cap<=9223372036854775807/\∃e,w.heap[g]?=some (.cells e 259 (0,0)):=dK h.row
theorem s6.below {c:Nat}{d:List (List It×Nat)}{e:List (Value×Value)}(h:s6 w c hi g cap d e)(b:Below w.heap.size w w'):s6 w' c hi g cap d e:=
 ⟨h.row.kept (dE b) (.inr (by simp[Value.ownBlock])),h.rds.ag fun k _ _ i _=>b.block k i,zK h.le b.size⟩
theorem s6.only {c:Nat}{e:List (List It×Nat)}{j:List (Value×Value)}(h:s6 w c hi g cap e j)(b:ae L w w')(i:∀k,k∈L->k<c):s6 w' c hi g cap e j:=by
 obtain⟨o,l,_,_,q,p⟩:=h.block;refine⟨⟨h.row.1, ?_⟩,h.rds.ag fun k n _ m _=>b.block k m fun d=>by have:=i k d;omega,zK h.le b.size⟩;rcases h.row.2 with h2|⟨g',aj,sj,hv,hb,hh',r⟩
 ·exact .inl h2
 injection hv with LW kD En;injection LW with LW;injection LW with LW;subst LW;exact .inr ⟨g,aj,sj,by rw[En],hb,(b.block g l fun d=>by have:=i g d;omega).trans hh',r⟩
theorem s6.top {f:List It×Nat}{b:List (List It×Nat)}{v:Value×Value}{c:List (Value×Value)}(h:s6 w k hi g cap (f::b) (v::c)):
 w.cell? ⟨g,b.length*2,none⟩=some v.1/\w.cell? ⟨g,b.length*2+1,none⟩=some (.int .i64 f.2)/\w.frozen? ⟨g,b.length*2,none⟩=false/\w.frozen? ⟨g,b.length*2+1,none⟩=false:=by
 obtain⟨m,_,_,n,l⟩:=h.rds;have q:=l.length;have p:=cm c;have o:∀j,(⟨g,0,none⟩:Addr).add j=⟨g,j,none⟩:=by intro j;unfold Addr.add;split<;>simp_all
 obtain⟨r,u,_,_,s,e⟩:=h.block;have i:=h.row.cells (g:=g) rfl (b.length*2) v.1 (by
  show(ea c++ [v.1,v.2])[b.length*2]?=_
  rw[yl (by omega),show b.length*2-(ea c).length=0 from by omega];rfl)
 have d:=h.row.cells (g:=g) rfl (b.length*2+1) v.2 (by
  show(ea c++ [v.1,v.2])[b.length*2+1]?=_
  rw[yl (by omega),show b.length*2+1-(ea c).length=1 from by omega];rfl)
 rw[o]at i d;rw[n.1]at d;exact⟨i,d,eL e (.inl rfl),eL e (.inl rfl)⟩
theorem s6.pop {b:Nat}{f:List It×Nat}{d:List (List It×Nat)}{v:Value×Value}{i:List (Value×Value)}(h:s6 w b hi g cap (f::d) (v::i)):
 ∃m,b<=m/\m<=hi/\XO w m hi f v/\s6 w b m g cap d i:=by
 obtain⟨m,j,e,k,c⟩:=h.rds;exact⟨m,j,e,k,⟨ownsRow_pop (by rw[cm,c.length]) h.row,c,zK e h.le⟩⟩
theorem XO.list {v:Value×Value}(h:XO w m hi (acc,o) v)(i:acc.length<=9223372036854775807):
 ∃A cap,v.1= .slice A acc.length cap/\acc.length<=cap/\cap<=9223372036854775807/\∀c,acc.length<=c->c<=9223372036854775807->ga w (fun k=>m<=k/\mF w k) (gP acc) (.string ⟨#[]⟩) (.bool true) (.slice A acc.length c):=by
 obtain⟨_,E,C,l,n⟩:=h;rcases l.2 with⟨d,b⟩|⟨g,cap,D,e,q,r,p,x,_⟩
 ·have b:acc.length=0:=b;obtain rfl:acc= []:=zo b;exact⟨none,0,d,by simp,by simp,fun c _ z=>⟨rfl,rfl,yh _,i,none,c,rfl,yh _,z,trivial⟩⟩
 refine⟨some ⟨g,0,none⟩,cap,e,p,by simpa[maxLen]using x,fun c y B=>⟨rfl,rfl,yh _,i,some ⟨g,0,none⟩,c,rfl,y,B, ?_⟩⟩;refine nk.fe ⟨q,mF.Lp r (by decide)⟩ (n.ag (fun k _ h=>⟨h.1,h.2.2.2⟩) (fun _ _ _=>rfl)) fun j u hu=> ?_
 have s:v.1.ownBlock=some g:=by rw[e];rfl
 have:=l.cells s j u hu;have d:(⟨g,0,none⟩:Addr).add j=⟨g,j,none⟩:=by unfold Addr.add;split<;>simp_all
 rw[d]at this;simpa using this
theorem s6.push {b:Nat}{d:List (List It×Nat)}{j:List (Value×Value)}(h:s6 w b hi g cap d j)(i:Nat)
 (p:w'.ownsRow b 259 2 (.slice (some ⟨l,0,none⟩) (d.length+1) m) (d.length+1) (ea j++ [.slice none 0 0,.int .i64 i])) (c:w.grownBy w' (some g)) (q:b<=hi):
 s6 w' b w'.heap.size l m (([],i)::d) ((.slice none 0 0,.int .i64 i)::j):=by
 obtain⟨x,u,_,_,s,o⟩:=h.block;refine⟨p,⟨hi,q,zK h.le c.size,⟨rfl,(fun g c=>by cases c),[],World.ownsRow_nil _ _ _ _,rfl⟩,h.rds.ag fun k _ _ r n=>c.block k r ?_⟩,zg _⟩;intro e;injection e with e;subst e;exact n _ _ o
theorem s6.first {b:Nat}(c:Nat)(e:w.ownsRow b 259 2 (.slice (some ⟨g,0,none⟩) 1 cap) 1 [.slice none 0 0,.int .i64 c])(h:b<=w.heap.size):s6 w b w.heap.size g cap [([],c)] [(.slice none 0 0,.int .i64 c)]:=
 ⟨e,⟨b,zg _,h,⟨rfl,(fun g d=>by cases d),[],World.ownsRow_nil _ _ _ _,rfl⟩,trivial⟩,zg _⟩
theorem s6.added {o:World}{C b s:Nat}{Y:Nat}{d:List (List It×Nat)}{c x:Value}{z:List (Value×Value)}{u:List Value}{z0 z1 R n l:Value}{y:It}
 (Ae:w.ownsRow C 259 2 (.slice (some ⟨g,0,none⟩) (d.length+1) cap) (d.length+1) (ea ((c,x)::z))) (ae:hi<=w.heap.size) (cX:C<=m) (pQ:m<=hi) (LW:x= .int .i64 Y) (O:∀g,c.ownBlock=some g->g<hi)
 (H:w.ownsRow m 28 3 c acc.length u) (su:fU w (fun k=>m<=k/\k<hi/\c.ownBlock≠some k/\mF w k) acc u) (W:NL w C m d z) (hy:ga w (fun k=>hi<=k/\mF w k) y n i l)
 (J:w.grownBy o c.ownBlock) (X:o.ownsRow m 28 3 (.slice (some ⟨b,0,none⟩) (acc.length+1) s) (acc.length+1) (u++ [z0,z1,R])) (G:c.ownBlock=some b\/w.heap.size<=b):
 s6 ((((o.setCell ⟨b,acc.length*3,none⟩ n).setCell ⟨b,acc.length*3+1,none⟩ i).setCell ⟨b,acc.length*3+2,none⟩ l).setCell ⟨g,d.length*2,none⟩ (.slice (some ⟨b,0,none⟩) (acc.length+1) s)) C o.heap.size g cap ((acc++ [y],Y)::d) ((.slice (some ⟨b,0,none⟩) (acc.length+1) s,x)::z):=by
 have hl:=W.length;obtain⟨L8,pH,ag,Sa,ah,E⟩:=dK Ae;have ad:=H.1;have Z:c.ownBlock≠some g:=by
  intro e;rcases H.2 with⟨I,_⟩|⟨g2,cn,aa,K,_,r,_⟩
  ·rw[I]at e;cases e
  rw[K]at e;have:g2=g:=by simpa[Value.ownBlock]using e
  subst this;rw[E]at r;injection r with r;injection r with _ r;exact absurd r (by decide)
 have ab:b≠g:=by
  rcases G with e|e
  ·intro j;exact Z (by rw[e,j])
  omega
 have U:=gz (gz (gz X (k:=acc.length*3) (by simp;omega) n) (k:=acc.length*3+1) (by simp;omega) i) (k:=acc.length*3+2) (by simp;omega) l;have SY:(((u++ [z0,z1,R]).set (acc.length*3) n).set (acc.length*3+1) i).set (acc.length*3+2) l=u++ [n,i,l]:=by
  rw[<-ad,xz _ _ (by omega),xz _ _ (by omega),xz _ _ (by omega)];simp
 rw[SY]at U;have A:∀k,k<w.heap.size->c.ownBlock≠some k->k≠g->((((o.setCell ⟨b,acc.length*3,none⟩ n).setCell ⟨b,acc.length*3+1,none⟩ i).setCell ⟨b,acc.length*3+2,none⟩ l).setCell ⟨g,d.length*2,none⟩ (.slice (some ⟨b,0,none⟩) (acc.length+1) s)).heap[k]?=w.heap[k]?:=by
  intro k h L N;have B:k≠b:=by
   rcases G with e|e
   ·intro j;exact L (by rw[e,j])
   omega
  rw[bM (by simpa using N),bM (by simpa using B),bM (by simpa using B),bM (by simpa using B)];exact J.block k h (fun e=>L e.symm)
 have fG:((((o.setCell ⟨b,acc.length*3,none⟩ n).setCell ⟨b,acc.length*3+1,none⟩ i).setCell ⟨b,acc.length*3+2,none⟩ l).setCell ⟨g,d.length*2,none⟩ (.slice (some ⟨b,0,none⟩) (acc.length+1) s)).heap.size=o.heap.size:=by simp[World.setCell]
 have LS:=J.size;have af:b<o.heap.size:=(dK X).2.1;have S3:o.ownsRow C 259 2 (.slice (some ⟨g,0,none⟩) (d.length+1) cap) (d.length+1) (ea ((c,x)::z)):=Ae.kept J (.inr (by simp only[Value.ownBlock];exact xR Z));have GM:=Zr (Zr (Zr S3 (a:=⟨b,acc.length*3,none⟩) (by simp[Value.ownBlock];omega) n) (a:=⟨b,acc.length*3+1,none⟩) (by simp[Value.ownBlock];omega) i) (a:=⟨b,acc.length*3+2,none⟩) (by simp[Value.ownBlock];omega) l;have M:=gz GM (k:=d.length*2) (by rw[cm];simp;omega) (.slice (some ⟨b,0,none⟩) (acc.length+1) s);rw[wy z (c,x) _ _ (by omega)]at M;refine⟨M,⟨m,cX,by omega,⟨LW, ?_,u++ [n,i,l], ?_, ?_⟩, ?_⟩,by rw[fG];exact zg _⟩
 ·intro g2 tN;have:b=g2:=by simpa[Value.ownBlock]using tN
  omega
 ·rw[zj];exact Zr U (a:=⟨g,d.length*2,none⟩) (by simp[Value.ownBlock];exact ab) _
 ·have D:∀k,k<w.heap.size->(hi<=k/\mF w k)->(c.ownBlock≠some k/\k≠g):=fun k h hS=>⟨fun e=>by have:=O _ e;omega,by rintro rfl;exact hS.2 _ _ E⟩
  have F:∀k,k<w.heap.size->(m<=k/\k<hi/\c.ownBlock≠some k/\mF w k)->(c.ownBlock≠some k/\k≠g):=fun k h hS=>⟨hS.2.2.1,by rintro rfl;exact hS.2.2.2 _ _ E⟩
  refine fU.snoc (ga.ag (w:=w) (S:=fun k=>hi<=k/\mF w k) (fun k h hS=> ?_) (fun p q hS=> ?_) y hy) (su.ag (fun k h hS=> ?_) fun p q hS=> ?_)
  ·refine⟨by omega,by omega, ?_,hS.2.of_eq (A k h (D k h hS).1 (D k h hS).2)⟩;intro e;have e:b=k:=by simpa[Value.ownBlock]using e
   rcases G with j|j
   ·have:=O _ j;omega
   omega
  ·exact zF (A _ q (D _ q hS).1 (D _ q hS).2)
  ·refine⟨hS.1,by omega, ?_,hS.2.2.2.of_eq (A k h (F k h hS).1 (F k h hS).2)⟩;intro e;have e:b=k:=by simpa[Value.ownBlock]using e
   rcases G with j|j
   ·exact hS.2.2.1 (by rw[j,e])
   omega
  exact zF (A _ q (F _ q hS).1 (F _ q hS).2)
 refine W.ag fun k L N B h4=>A k B (fun e=> ?_) (by rintro rfl;exact h4 _ _ E)
 rcases H.2 with⟨I,_⟩|⟨g2,cn,aa,K,aJ,_⟩
 ·rw[I]at e;cases e
 rw[K]at e;have:g2=k:=by simpa[Value.ownBlock]using e
 omega
theorem lY {a b:Addr}(h:a.block≠b.block)(x y:Value):(w.setCell a x).setCell b y=(w.setCell b y).setCell a x:=by
 unfold World.setCell;dsimp only;congr 1
 apply Array.ext
 ·simp
 intro i j k;simp only[Array.getElem_modify];by_cases c:a.block=i
 ·have d:¬b.block=i:=fun e=>h (c.trans e.symm)
  simp[c,d]
 simp[c]
theorem rT {ops:Array Oper}{o:Oper}{a:Act}{K:Act->World->Prop}{Q:Exit->Act->World->Prop}{G:Prop}(D:o.guard=none)(s x:Operand)
 (E:o.op= .call {callee:= .builtin .append,args:= #[s,x],argTypes:= #[26,26]}) (m n:Nat) {v:Value} {k:List Value} (O:a.eval s=v) (r:w.ownsRow m 28 3 v n k) (B:Nat)
 (hx:a.eval x= .slice (some ⟨B,0,none⟩) 1 1) (I:af w B 28 #[.string ⟨#[]⟩,.bool false,.slice none 0 0]) (R:n<=1000000) (J:m<=w.heap.size)
 (H:∀b c w',Hid (w'.ownsRow m 28 3 (.slice (some ⟨b,0,none⟩) (n+1) c) (n+1) (k++ [.string ⟨#[]⟩,.bool false,.slice none 0 0]))->Hid (w.grownBy w' v.ownBlock)->Hid (v.ownBlock=some b\/w.heap.size<=b)->n+1<=c->c<=9223372036854775807->
  w'.cell? ⟨b,n*3,none⟩=some (.string ⟨#[]⟩)->w'.cell? ⟨b,n*3+1,none⟩=some (.bool false)->w'.cell? ⟨b,n*3+2,none⟩=some (.slice none 0 0)->
  w'.frozen? ⟨b,n*3,none⟩=false->w'.frozen? ⟨b,n*3+1,none⟩=false->w'.frozen? ⟨b,n*3+2,none⟩=false->K (a.put o.dst (.slice (some ⟨b,0,none⟩) (n+1) c)) w'):
 if Region.wanted o (yielded ops a.tmps)=true then Oper.wp prog o a w K Q else G:=by
 obtain⟨i0,hi,N,F,L⟩:=yG B7;refine step_append_lies w D s x 26 E m 28 i0 _ 3 48 underlying26 hi N F L rfl (by decide) v n k O r ⟨B,0,none⟩ 1 1 [.string ⟨#[]⟩,.bool false,.slice none 0 0] hx rfl ?_ ?_ (by decide) (by simp only[maxLen];omega) (by omega) J w.heap.size rfl ?_
 ·exact fun j u hu=>ZH I j u (by simpa using hu)
 ·intro u hu;simp at hu;rcases hu with rfl|rfl|rfl<;>rfl
 intro b c w' d C M S;obtain⟨_,_,y,z,U,i⟩:=dK d;have e:=r.1;have A:∀j,(⟨b,0,none⟩:Addr).add j=⟨b,j,none⟩:=by intro j;unfold Addr.add;split<;>simp_all
 have p:=d.cells (g:=b) rfl (n*3) (.string ⟨#[]⟩) (by rw[yl (by omega),e,ZM];rfl);have q:=d.cells (g:=b) rfl (n*3+1) (.bool false) (by rw[yl (by omega),e,show n*3+1-n*3=1 from by omega];rfl);have l:=d.cells (g:=b) rfl (n*3+2) (.slice none 0 0) (by rw[yl (by omega),e,show n*3+2-n*3=2 from by omega];rfl);rw[A]at p q l;exact H b c w' (za d) (za C) (za (M.imp id fun h=>by omega)) y z p q l (eL i (.inl rfl)) (eL i (.inl rfl)) (eL i (.inl rfl))
theorem Ga (W:World)(c b:Nat)(A:Option Addr)(i:Nat)(t:ByteArray)(l:Bool)(j:Option Addr)(n2 k2:Nat)(n o m:Value)(s:i<=9223372036854775807)(h:af W c 256 #[.slice A 0 i])(d:af W b 28 #[n,o,m])(r:c≠b):
 Calls prog 211 #[.agg #[.string t,.bool l,.slice j n2 k2],.pointer (some ⟨c,0,none⟩),.pointer (some ⟨b,0,none⟩)] W fun e w'=>e= .returned (.tuple #[])/\af w' b 28 #[.string t,.bool l,.slice j n2 k2]/\ae [b] W w':=by
 have k:=h.cell 0;have k:W.cell? ⟨c,0,none⟩=some (.slice A 0 i):=h.cell 0;have u:=h.lt;have q:=d.lt;obtain⟨g0,g1,g2,f0,f1,f2⟩:=aZ d;have p:=za d;clear h d;go_enter func211,ntmps211
 go_wp2;refine zk (v:= .tuple #[]) (results_none rfl _ _ _) rfl ⟨rfl,((((p.out.set 0 _).set 1 _).set 2 _).alloc _), ?_⟩;exact((((ae.refl [b] W).setCell (by simp) _).setCell (by simp) _).setCell (by simp) _).alloc _
theorem Gb (W:World)(o hi g G b9 Wl:Nat)(acc:List It)(L:Nat)(B:List (List It×Nat))(v0 v1:Value)(Z:List (Value×Value))(y:It)(c0 c1 c2:Value)
 (X:af W b9 256 #[.slice (some ⟨g,0,none⟩) (B.length+1) G]) (w:s6 W o hi g G ((acc,L)::B) ((v0,v1)::Z)) (R:ga W (fun k=>hi<=k/\mF W k) y c0 c1 c2) (ad:acc.length<=1000000):
 Calls prog 211 #[.agg #[c0,c1,c2],.pointer (some ⟨b9,0,none⟩),.pointer (some ⟨Wl,0,none⟩)] W fun e w'=>e= .returned (.tuple #[])/\Below o W w'/\∃Sb,s6 w' o w'.heap.size g G ((acc++ [y],L)::B) ((Sb,v1)::Z):=by
 have HR:=za w;obtain⟨m,cX,O,⟨LW,F,cs,E,S⟩,Ka⟩:=w.rds;obtain⟨L8,pH,pR,ay,aC,hh⟩:=w.block;obtain⟨t0,t1,L9,Ov⟩:=w.top;have aj:=w.le;simp only[zy]at pR;dsimp only at LW F E S t0;have U:=za E;have Kb:=za S;have He:=za Ka;have Kc:=za F;have HY:=za R;have HF:Hid (∃A n cap,v0= .slice A n cap/\n=acc.length/\n<=cap/\cap<=9223372036854775807):=za (by
  rcases E.2 with⟨Y,e2⟩|⟨g2,cn,ai,N,_,_,JW,O,_⟩
  ·exact⟨none,0,0,Y,e2.symm,by simp,by simp⟩
  exact⟨_,_,cn,N,rfl,JW,by simpa[maxLen]using O⟩)
 obtain⟨p,d,q,rfl,oV,D8,aw⟩:=HF.out;have J:=za oV;obtain⟨j,l,rfl,rfl,rfl,my,az,ax,_⟩:=R.open_;have an:=X.cell 0;have aB:=X.lt;obtain⟨r,hr⟩:∃r,B.length=r:=⟨_,rfl⟩
 have Ef:=za hr;rw[hr]at t0 t1 L9 Ov pR X an;have ar:Hid (∀k,W.heap.size<=k->Value.ownBlock (.slice p d q)≠some k):=za (fun k hk e=>by have:=F k e;omega);have ab:Hid (Value.ownBlock (.slice p d q)≠some g):=za (by
  intro e;rcases E.2 with⟨Y,_⟩|⟨g2,cn,ai,N,_,z,_⟩
  ·rw[Y]at e;cases e
  rw[N]at e;have:g2=g:=by simpa[Value.ownBlock]using e
  subst this;rw[hh]at z;injection z with z;injection z with _ z;exact absurd z (by decide))
 subst LW;clear S Ka F E R w hh hr oV;have ah:Hid (af (((W.alloc (.cells #[.string y.text,.bool y.list,.slice j y.sub.length l] 28)).drew).alloc (.cells #[.string ⟨#[]⟩,.bool false,.slice none 0 0] 28)) (W.heap.size+1) 28 #[.string ⟨#[]⟩,.bool false,.slice none 0 0]):=za (by have:=af.new (W.alloc (.cells #[.string y.text,.bool y.list,.slice j y.sub.length l] 28)).drew 28 #[.string ⟨#[]⟩,.bool false,.slice none 0 0];simpa using this);have Ac:Hid (af (((W.alloc (.cells #[.string y.text,.bool y.list,.slice j y.sub.length l] 28)).drew).alloc (.cells #[.string ⟨#[]⟩,.bool false,.slice none 0 0] 28)) W.heap.size 28 #[.string y.text,.bool y.list,.slice j y.sub.length l]):=za (((af.new W 28 #[.string y.text,.bool y.list,.slice j y.sub.length l]).drew).alloc _);have ae:Hid ((((W.alloc (.cells #[.string y.text,.bool y.list,.slice j y.sub.length l] 28)).drew).alloc (.cells #[.string ⟨#[]⟩,.bool false,.slice none 0 0] 28)).ownsRow m 28 3 (.slice p d q) acc.length cs):=za ((U.out.alloc _).drew.alloc _);have D:Hid (Below W.heap.size W (((W.alloc (.cells #[.string y.text,.bool y.list,.slice j y.sub.length l] 28)).drew).alloc (.cells #[.string ⟨#[]⟩,.bool false,.slice none 0 0] 28))):=za ((((zl W.heap.size W).alloc (zg _) _).drew).alloc (by simp) _);have M:Hid (g<(((W.alloc (.cells #[.string y.text,.bool y.list,.slice j y.sub.length l] 28)).drew).alloc (.cells #[.string ⟨#[]⟩,.bool false,.slice none 0 0] 28)).heap.size):=za (by simp;omega)
 have ag:Hid ((((W.alloc (.cells #[.string y.text,.bool y.list,.slice j y.sub.length l] 28)).drew).alloc (.cells #[.string ⟨#[]⟩,.bool false,.slice none 0 0] 28)).cell? ⟨g,r*2,none⟩=some (.slice p d q)/\(((W.alloc (.cells #[.string y.text,.bool y.list,.slice j y.sub.length l] 28)).drew).alloc (.cells #[.string ⟨#[]⟩,.bool false,.slice none 0 0] 28)).frozen? ⟨g,r*2,none⟩=false):=za ⟨(D.out.cell pH).trans t0,(D.out.frozen pH).trans L9⟩;have al:Hid (∀i:Nat,(Value.ownBlock (.slice p d q)=some i\/(((W.alloc (.cells #[.string y.text,.bool y.list,.slice j y.sub.length l] 28)).drew).alloc (.cells #[.string ⟨#[]⟩,.bool false,.slice none 0 0] 28)).heap.size<=i)->i≠g):=za (fun i h e=>by
  subst e;rcases h with h|h
  ·exact ab.out h
  have:=M.out;omega)
 have ak:Hid (m<=(((W.alloc (.cells #[.string y.text,.bool y.list,.slice j y.sub.length l] 28)).drew).alloc (.cells #[.string ⟨#[]⟩,.bool false,.slice none 0 0] 28)).heap.size):=za (by simp;omega);rw[<-J.out]at ad;rw[<-J.out]at ae;have aA:(d:Int)<d+1:=by omega
 go_enter func211,ntmps211
 go_wp2_with fail
 go_region_law (refine rT (by rfl) (.tmp 17) (.tmp 20) (by rfl) m d (by rfl) ae.out (W.heap.size+1) (by rfl) ah.out ad ak.out ?_;intro i C s sn u H GN Bd q0 q1 q2 Wm aq av;obtain⟨x0,x1,x2,_⟩:=aZ (Ac.out.grown u.out (ar.out _ (zg _)));have e3:s.cell? ⟨g,r*2,none⟩=some (.slice p d q):=(u.out.cell_far ⟨g,r*2,none⟩ M.out (xR ab.out)).trans ag.out.1;have e4:s.frozen? ⟨g,r*2,none⟩=false:=(u.out.frozen_far ⟨g,r*2,none⟩ M.out (xR ab.out)).trans ag.out.2;have au:i≠g:=al.out i H.out;have aa:g≠i:=xR au)
 all_goals
  have HD:Hid (s6 ((((s.setCell ⟨i,d*3,none⟩ (.string y.text)).setCell ⟨i,d*3+1,none⟩ (.bool y.list)).setCell ⟨i,d*3+2,none⟩ (.slice j y.sub.length l)).setCell ⟨g,r*2,none⟩ (.slice (some ⟨i,0,none⟩) (d+1) C)) o s.heap.size g G ((acc++ [y],L)::B) ((.slice (some ⟨i,0,none⟩) (d+1) C,.int .i64 L)::Z)):=za (by
   have I:=H.out;have K:=sn.out;rw[<-Ef.out,J.out];rw[J.out]at K;exact s6.added HR.out.row aj cX O rfl Kc.out U.out Kb.out He.out HY.out ((kd (dE D.out) _).trans u.out) K (I.imp id fun h=>zK D.out.size h))
  have Ej:Hid (Below o W ((((s.setCell ⟨i,d*3,none⟩ (.string y.text)).setCell ⟨i,d*3+1,none⟩ (.bool y.list)).setCell ⟨i,d*3+2,none⟩ (.slice j y.sub.length l)).setCell ⟨g,r*2,none⟩ (.slice (some ⟨i,0,none⟩) (d+1) C))):=za (by
   have I:∀k,Value.ownBlock (.slice p d q)=some k->o<=k:=fun k hk=>zK cX (U.out.lt k hk).1
   have GG:o<=i:=by
    rcases H.out with e|e
    ·exact I _ e
    have e2:=e;simp at e2;omega
   exact((((((D.out.mono (by omega)).grown u.out (by simp;omega) I).setCell (by simpa using GG) _).setCell (by simpa using GG) _).setCell (by simpa using GG) _).setCell (by simpa using L8) _))
  have ao:Hid (∀(v:World) (x a b c:Value),(((v.setCell ⟨g,r*2,none⟩ x).setCell ⟨i,d*3,none⟩ a).setCell ⟨i,d*3+1,none⟩ b).setCell ⟨i,d*3+2,none⟩ c=(((v.setCell ⟨i,d*3,none⟩ a).setCell ⟨i,d*3+1,none⟩ b).setCell ⟨i,d*3+2,none⟩ c).setCell ⟨g,r*2,none⟩ x):=za (fun v x a b c=>by rw[lY (a:=⟨g,r*2,none⟩) (b:=⟨i,d*3,none⟩) aa,lY (a:=⟨g,r*2,none⟩) (b:=⟨i,d*3+1,none⟩) aa,lY (a:=⟨g,r*2,none⟩) (b:=⟨i,d*3+2,none⟩) aa]);clear sn u H q0 q1 q2 Wm aq av x0 x1 x2 e3 e4;go_wp2;go_end0
  try rw[ao.out]
  refine⟨rfl,Ej.out,.slice (some ⟨i,0,none⟩) (d+1) C, ?_⟩;have K:=HD.out;have hz:((((s.setCell ⟨i,d*3,none⟩ (.string y.text)).setCell ⟨i,d*3+1,none⟩ (.bool y.list)).setCell ⟨i,d*3+2,none⟩ (.slice j y.sub.length l)).setCell ⟨g,r*2,none⟩ (.slice (some ⟨i,0,none⟩) (d+1) C)).heap.size=s.heap.size:=by simp[World.setCell]
  rw[hz];exact K
def lA (z:Nat):List (List It×Nat)->Nat
 | []=>z
 |f::_=>f.2
def Ends (z:Nat):List (List It×Nat)->Prop
 | []=>True
 |f::fs=>f.2<=lA z fs/\Ends z fs
theorem Ends.top :∀{b:List (List It×Nat)},Ends z b->lA z b<=z
 | [],_=>zg _
 |f::b,h=>zK h.1 (Ends.top h.2)
def nG :List (List It×Nat)->Nat
 | []=>0
 |f::fs=>f.1.length+1+nG fs
theorem lZ :∀(b:List (List It×Nat)),b.length<=nG b
 | []=>zg _
 |f::b=>by have:=lZ b;simp[nG];omega
def rU (D M:Int)(s:ByteArray)(R:Rd)(b:Bool):List (List It×Nat)->Nat->Nat->Prop
 | [],at_,count=>b=true/\at_=0/\count=0/\bq D M s 1 0=R
 |(acc,en)::fs,at_,count=>b=false/\at_<en/\fin D M s acc en fs at_ count=R/\Ends s.size ((acc,en)::fs)/\nG ((acc,en)::fs)<=count/\count<=1024
def qQ (D M:Int)(s:ByteArray)(R:Rd):List (List It×Nat)->Nat->Nat->Prop
 | [],at_,_=>R.e=0/\R.size=at_
 |(acc,en)::fs,at_,count=>at_<=en/\fin D M s acc en fs at_ count=R/\Ends s.size ((acc,en)::fs)/\nG ((acc,en)::fs)<=count/\count<=1024
theorem rU.le {b:Bool}{c:List (List It×Nat)}{at_ count:Nat}(h:rU D M s R b c at_ count):at_<=lA s.size c/\lA s.size c<=s.size/\count<=1024/\c.length<=1024/\(b=true↔c= []):=by
 match c,h with
 | [],h=>obtain⟨rfl,rfl,rfl,h⟩:=h;simp[lA]
 |(acc,en)::c,h=>
  obtain⟨rfl,e,m,j,k,d⟩:=h;have l:=lZ ((acc,en)::c);have i:=j.top;exact⟨Yh e,i,d,by omega,by simp⟩
theorem rV (s:ByteArray):s.extract 0 s.size=s:=by
 apply aF;rw[ar,zJ,zv (by simp)]
theorem rU.err {b:Bool}{c:List (List It×Nat)}{at_ count:Nat}(h:rU D M s R b c at_ count){l:Bool}{e:Int}
 (d:hd (s.extract at_ (lA s.size c)) (aH D (c.length+1)) (aI M count)=(l,z,n,e)) (i:e≠0):R=Rd.bad (if b then e else within e):=by
 match c,h with
 | [],h=>
  obtain⟨rfl,rfl,rfl,k⟩:=h;simp only[lA,rV]at d;rw[<-k];exact(rH D M s _ d).1 i
 |(acc,en)::c,h=>
  obtain⟨rfl,j,m,o,p,q⟩:=h;rw[<-m];exact TF D M s acc en c at_ count j o.top _ d i
theorem rU.many {b:List (List It×Nat)}{at_ count:Nat}{l:Bool}{e:Int}
 (c:hd (s.extract at_ (lA s.size b)) (aH D (b.length+1)) (aI M count)=(l,z,n,e)) (d:e=0):count+1<=1024:=by
 have h:=Vs (s.extract at_ (lA s.size b)) (aH D (b.length+1)) (aI M count);rw[c]at h;exact(pa.1 (h d).2.2.1).2
theorem rU.list {b:Bool}{c:List (List It×Nat)}{at_ count:Nat}(h:rU D M s R b c at_ count)
 (d:hd (s.extract at_ (lA s.size c)) (aH D (c.length+1)) (aI M count)=(true,z,n,0)):
 qQ D M s R (([],at_+z+n)::c) (at_+z) (count+1)/\at_+z+n<=s.size/\1<=z/\count+1<=1024:=by
 have m:=rU.many d rfl;match c,h with
 | [],h=>
  obtain⟨rfl,rfl,rfl,q⟩:=h;simp only[lA,rV]at d;have e:=sP s (aH D 1) (aI M 0);have j:=(rH D M s _ d).2.2 rfl rfl;rw[show([]:List (List It×Nat)).length+1=1 from rfl]at d;rw[d]at e;have e:=e rfl;dsimp only at e j;rw[q]at j;simp only[zG];exact⟨⟨by omega,j.symm,⟨by simp[lA];omega,trivial⟩,by simp[nG],by omega⟩,by omega,e.2.2.2 rfl,by omega⟩
 |(acc,en)::c,h=>
  obtain⟨rfl,w,p,i,u,x⟩:=h;obtain⟨l,k,o⟩:=PL D M s acc en c at_ count w i.top _ d rfl rfl;dsimp only at l k o;have r:=i.top;simp only[lA]at r;exact⟨⟨by omega,l.symm.trans p,⟨by simp only[lA];exact k,i⟩,by simp only[nG,zL]at u⊢;omega,m⟩,by omega,o,m⟩
theorem rU.text {b:Bool}{c:List (List It×Nat)}{at_ count:Nat}(h:rU D M s R b c at_ count)
 (d:hd (s.extract at_ (lA s.size c)) (aH D (c.length+1)) (aI M count)=(false,z,n,0)):
 at_+z+n<=s.size/\1<=z+n/\count+1<=1024/\(c= []->R=⟨.mk (s.extract (at_+z) (at_+z+n)) false [],at_+z+n,1,0⟩)/\
 (∀acc j k,c=(acc,j)::k->qQ D M s R ((acc++ [.mk (s.extract (at_+z) (at_+z+n)) false []],j)::k) (at_+z+n) (count+1)):=by
 have q:=rU.many d rfl;have i:=sP (s.extract at_ (lA s.size c)) (aH D (c.length+1)) (aI M count);rw[d]at i;have i:=i rfl;dsimp only at i;match c,h with
 | [],h=>
  obtain⟨rfl,rfl,rfl,u⟩:=h;simp only[lA,rV]at d i;have m:=(rH D M s _ d).2.1 rfl rfl;dsimp only at m;rw[u]at m;simp only[zG];exact⟨by omega,by omega,by omega,(fun _=>m),(fun _ _ _ e=>by cases e)⟩
 |(acc,j)::c,h=>
  obtain⟨rfl,y,r,l,x,A⟩:=h;obtain⟨p,o⟩:=PK D M s acc j c at_ count y l.top _ d rfl rfl;dsimp only at p o;have w:=l.top;simp only[lA]at w;refine⟨by omega,by omega,q,(fun e=>by cases e),fun C B k e=> ?_⟩;injection e with e1 e2;injection e1 with e3 e4;subst e2;subst e3;subst e4;exact⟨o,p.symm.trans r,l,by simp only[nG,zj,yL]at x⊢;omega,q⟩
theorem qQ.next {b:Nat}{c:List (List It×Nat)}{at_ count:Nat}(h:qQ D M s R ((acc,b)::c) at_ count)(i:b≠at_):rU D M s R false ((acc,b)::c) at_ count:=by
 obtain⟨e,d⟩:=h;exact⟨rfl,by omega,d⟩
theorem qQ.done {b count:Nat}(h:qQ D M s R [(acc,b)] b count):R=⟨gP acc,b,count,0⟩:=by
 obtain⟨j,c,d,e,i⟩:=h;rw[<-c];exact PM D M s acc b count d.top
theorem qQ.close {e:List It}{b count:Nat}{c:List (List It×Nat)}(h:qQ D M s R ((acc,b)::(e,d)::c) b count):qQ D M s R ((e++ [gP acc],d)::c) b count:=by
 obtain⟨m,j,i,k,l⟩:=h;rw[MP D M s acc b (e,d) c count i.top]at j;exact⟨i.1,j,i.2,by simp only[nG,zj,yL]at k⊢;omega,l⟩
theorem qQ.len {c at_ count:Nat}{b:List (List It×Nat)}(h:qQ D M s R ((acc,c)::b) at_ count):acc.length<=1024/\b.length<=1024/\c<=s.size:=by
 obtain⟨j,k,e,d,i⟩:=h;have:=lZ b;simp only[nG]at d;exact⟨by omega,by omega,e.top⟩
structure G4 (w0 w:World)(A:Option Addr)(r cp:Nat):Prop where
 res:af w w0.heap.size 28 #[.string ⟨#[]⟩,.bool false,.slice none 0 0]
 opn:af w (w0.heap.size+1) 256 #[.slice A r cp]
 who:∃z0 z1 z2,af w (w0.heap.size+2) 28 #[z0,z1,z2]
 bel:Below w0.heap.size w0 w
 siz:w0.heap.size+3<=w.heap.size
 le:r<=cp
 mx:cp<=9223372036854775807
theorem G4.below {c:World}(h:G4 c w A r d)(b:Below (c.heap.size+3) w w'):G4 c w' A r d:=by
 obtain⟨z0,e,z2,hz⟩:=h.who;exact⟨h.res.ag b (by omega),h.opn.ag b (by omega),⟨z0,e,z2,hz.ag b (by omega)⟩,h.bel.trans (b.mono (by omega)),zK h.siz b.size,h.le,h.mx⟩
theorem G4.store {b:World}{e:Option Addr}{c:Nat}(h:G4 b w A r l)(i:d<=c)(k:c<=9223372036854775807):G4 b (w.setCell ⟨b.heap.size+1,0,none⟩ (.slice e d c)) e d c:=by
 obtain⟨z0,j,z2,hz⟩:=h.who;refine⟨h.res.dS (p:=⟨b.heap.size+1,0,none⟩) (by simp) _,h.opn.set 0 _,⟨z0,j,z2,hz.dS (p:=⟨b.heap.size+1,0,none⟩) (by simp) _⟩,h.bel.setCell (by simp) _,by have:=h.siz;simp[World.setCell];omega,i,k⟩
theorem G4.only {c:World}{j:Nat}(h:G4 c w A r j)(b:ae [c.heap.size+2] w w'){e d:Value}(hz:af w' (c.heap.size+2) 28 #[e,i,d]):G4 c w' A r j:=
 ⟨h.res.only b (by simp),h.opn.only b (by simp),⟨e,i,d,hz⟩,h.bel.trans (b.below h.bel.size (by simp)),zK h.siz b.size,h.le,h.mx⟩
def rW (w:World)(lo:Nat)(A:Option Addr)(cp:Nat)(fs:List (List It×Nat)):Prop:=fs= []\/∃g vs,A=some ⟨g,0,none⟩/\s6 w lo w.heap.size g cp fs vs
theorem rW.below {c:Nat}{d:List (List It×Nat)}(h:rW w c A e d)(b:Below w.heap.size w w'):rW w' c A e d:=by
 rcases h with h|⟨g,vs,h1,h2⟩
 ·exact .inl h
 have i:=h2.below b;exact .inr ⟨g,vs,h1,⟨i.row,i.rds.up b.size,zg _⟩⟩
theorem rW.only {b:Nat}{d:List (List It×Nat)}(h:rW w b A e d)(c:ae L w w')(j:∀k,k∈L->k<b):rW w' b A e d:=by
 rcases h with h|⟨g,vs,h1,h2⟩
 ·exact .inl h
 have i:=h2.only c j;exact .inr ⟨g,vs,h1,⟨i.row,i.rds.up c.size,zg _⟩⟩
def QW (w0 w:World)(x:It):Prop:=∃c0 c1 c2,af w (w0.heap.size+2) 28 #[c0,c1,c2]/\ga w (w0.heap.size+3<= ·) x c0 c1 c2
