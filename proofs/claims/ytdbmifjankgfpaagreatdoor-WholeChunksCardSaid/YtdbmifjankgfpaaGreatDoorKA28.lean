/- The stack of rlp.Put: lists whose bytes are being laid. Own text; no program in sight but the types' numbers. -/
import Derived.WalkSmall
import Derived.Test.YtdbmifjankgfpaaGreatDoorKA6
set_option linter.all false
set_option maxRecDepth 100000
set_option maxHeartbeats 2000000
namespace Go.Proofs.YtdbmifjankgfpaaGreatDoor
open Tryz
open Go.RowKit
def Zi:=@Ne.symm
def Zy:=@ownsRow_setCell_other
theorem cc.ag {w w':World}{B i:Nat}{s:List It}{A:Option Addr}(h:cc w B s A i)(d:∀p:Addr,p.block<B->w'.cell? p=w.cell? p):cc w' B s A i:=cc.G6 fun j m=>by
 obtain⟨b,o,d0,d1,d2,n,c,e,l,k,hi⟩:=h.at_ j m;exact⟨b,o,d0,d1,d2,n,c,(d _ c).trans e,(d _ c).trans l,(d _ c).trans k,dg.ag (zd _) d _ hi⟩
theorem cc.tail {w:World}{B b o:Nat}:∀{s:List It} {i:Nat},cc w B s (some ⟨b,o,none⟩) (i+1)->cc w B s (some ⟨b,o+3,none⟩) i
 | [],_,_=>trivial
 |x::xs,i,h=>by
  obtain⟨⟨q,r,e,j,l,c,d,m,p,n,hi⟩,k⟩:=h;injection c with c;injection c with Bp ho;subst Bp;subst ho;refine⟨⟨b,o+3,e,j,l,rfl,d, ?_, ?_, ?_,hi⟩,cc.tail k⟩
  ·rw[show o+3+i*3=o+(i+1)*3 from by omega];exact m
  ·rw[show o+3+i*3+1=o+(i+1)*3+1 from by omega];exact p
  rw[show o+3+i*3+2=o+(i+1)*3+2 from by omega];exact n
def Ui (w:World)(S:Nat)(f:List It×List UInt8)(v:Value×Value):Prop:=
 (∃A cap,v.1= .slice A f.1.length cap/\f.1.length<=cap/\cap<=9223372036854775807/\cc w S f.1 A 0)/\bL w S 5 v.2 f.2
def Lays (w:World)(S:Nat):List (List It×List UInt8)->List (Value×Value)->Prop
 | [],[]=>True
 |f::fs,v::vs=>Ui w S f v/\(∀u∈vs,∀g,v.2.ownBlock=some g->u.2.ownBlock≠some g)/\Lays w S fs vs
 |_,_=>False
def dV :List (Value×Value)->List Value
 | []=> []
 |v::vs=>dV vs++ [v.1,v.2]
theorem cg (b:List (Value×Value)):(dV b).length=b.length*2:=by
 induction b with
 |nil=>rfl
 |cons v b ih=>simp[dV,ih];omega
theorem Lays.length {w:World}{S:Nat}:∀{c:List (List It×List UInt8)} {b:List (Value×Value)},Lays w S c b->b.length=c.length
 | [],[],_=>rfl
 |f::c,v::b,h=>by simp[Lays.length h.2.2]
theorem Ui.ag {w w':World}{S:Nat}{f:List It×List UInt8}{v:Value×Value}(h:Ui w S f v)(hS:S<=w.heap.size)(d:∀k,k<w.heap.size->(k<S\/v.2.ownBlock=some k)->w'.heap[k]?=w.heap[k]?):Ui w' S f v:=by
 obtain⟨⟨A,cap,c,b,l,j⟩,e⟩:=h;exact⟨⟨A,cap,c,b,l,j.ag fun p i=>zD (d _ (by omega) (.inl i))⟩,e.ag fun k c b=>d k c (.inr b)⟩
theorem Lays.ag {w w':World}{S:Nat}(hS:S<=w.heap.size):∀{e:List (List It×List UInt8)} {b:List (Value×Value)},Lays w S e b->(∀k,k<w.heap.size->(k<S\/∃u∈b,u.2.ownBlock=some k)->w'.heap[k]?=w.heap[k]?)->Lays w' S e b
 | [],[],_,_=>trivial
 |f::e,v::b,h,hk=>⟨h.1.ag hS fun k d c=>hk k d (c.imp id fun h=>⟨v,by simp,h⟩),h.2.1,Lays.ag hS h.2.2 fun k d c=>hk k d (c.imp id fun⟨u,hu,h⟩=>⟨u,by simp[hu],h⟩)⟩
theorem Lays.ge {w:World}{S:Nat}:∀{c:List (List It×List UInt8)} {b:List (Value×Value)},Lays w S c b->∀u∈b,∀g,u.2.ownBlock=some g->S<=g/\g<w.heap.size/\∃d e,w.heap[g]?=some (.cells d 5 e)
 | [],[],_,u,hu,_,_=>by cases hu
 |f::c,v::b,h,u,hu,g,hg=>by
  rcases y9.1 hu with rfl|hu
  ·exact h.1.2.ge g hg
  exact Lays.ge h.2.2 u hu g hg
structure Lay (w:World)(S g cap:Nat)(fs:List (List It×List UInt8))(vs:List (Value×Value)):Prop where
 row:w.ownsRow S 226 2 (.slice (some ⟨g,0,none⟩) fs.length cap) fs.length (dV vs)
 lays:Lays w S fs vs
theorem gE {w:World}{base size g cap n k:Nat}{e:TypeId}{xs:List Value}(h:w.ownsRow base e size (.slice (some ⟨g,0,none⟩) n cap) n xs)(q:k<xs.length)(u:Value):
 (w.setCell ⟨g,k,none⟩ u).ownsRow base e size (.slice (some ⟨g,0,none⟩) n cap) n (xs.set k u):=by
 obtain⟨o,b⟩:=h;refine⟨by rw[Zg];exact o, ?_⟩;rcases b with⟨b,_⟩|⟨r,s,x,p,c,l,m,j,i,d⟩
 ·cases b
 cases p
 exact .inr ⟨g,cap,_,rfl,c,js u l,m,j,by simpa using i,by rw[ZX,List.take_set,d]⟩
theorem dF {w:World}{base size g cap n:Nat}{e:TypeId}{xs:List Value}(h:w.ownsRow base e size (.slice (some ⟨g,0,none⟩) n cap) n xs):base<=g/\g<w.heap.size/\n<=cap/\cap<=9223372036854775807/\∃c,w.heap[g]?=some (.cells c e (0,0)):=by
 obtain⟨r,b⟩:=h;rcases b with⟨b,_⟩|⟨p,q,c,l,i,d,k,j,o,m⟩
 ·cases b
 cases l
 exact⟨i,yG d,k,by simpa[maxLen]using j,c,d⟩
theorem Lay.block {w:World}{S g cap:Nat}{b:List (List It×List UInt8)}{c:List (Value×Value)}(h:Lay w S g cap b c):S<=g/\g<w.heap.size/\b.length<=cap/\cap<=9223372036854775807/\∃d,w.heap[g]?=some (.cells d 226 (0,0)):=dF h.row
theorem Lay.below {w w':World}{S g cap:Nat}{d:List (List It×List UInt8)}{c:List (Value×Value)}(h:Lay w S g cap d c)(hS:S<=w.heap.size)(b:Below w.heap.size w w'):Lay w' S g cap d c:=
 ⟨h.row.kept (dx b) (.inr (by simp[Value.ownBlock])),h.lays.ag hS fun k e _=>b.block k e⟩
theorem Lay.top {w:World}{S g cap:Nat}{f:List It×List UInt8}{b:List (List It×List UInt8)}{v:Value×Value}{c:List (Value×Value)}(h:Lay w S g cap (f::b) (v::c)):
 w.cell? ⟨g,b.length*2,none⟩=some v.1/\w.cell? ⟨g,b.length*2+1,none⟩=some v.2/\w.frozen? ⟨g,b.length*2,none⟩=false/\w.frozen? ⟨g,b.length*2+1,none⟩=false/\(∀i,v.2.ownBlock≠some i\/i≠g):=by
 have m:=h.lays.2.2.length;have o:=cg c;have l:∀j,(⟨g,0,none⟩:Addr).add j=⟨g,j,none⟩:=by intro j;unfold Addr.add;split<;>simp_all
 obtain⟨n,q,_,_,p,d⟩:=h.block;have e:=h.row.cells (g:=g) rfl (b.length*2) v.1 (by
  show(dV c++ [v.1,v.2])[b.length*2]?=_
  rw[yk (by omega),show b.length*2-(dV c).length=0 from by omega];rfl)
 have k:=h.row.cells (g:=g) rfl (b.length*2+1) v.2 (by
  show(dV c++ [v.1,v.2])[b.length*2+1]?=_
  rw[yk (by omega),show b.length*2+1-(dV c).length=1 from by omega];rfl)
 rw[l]at e k;refine⟨e,k,eJ d (.inl rfl),eJ d (.inl rfl),fun i=> ?_⟩;by_cases hi:i=g
 ·left;subst hi;exact bL.dD h.lays.1.2 d (by decide)
 exact .inr hi
theorem Jl (b:List (Value×Value))(v:Value×Value)(u:Value)(k:Nat)(c:k=b.length*2):(dV (v::b)).set (k+1) u=dV ((v.1,u)::b):=by
 subst c;show(dV b++ [v.1,v.2]).set _ u=dV b++ [v.1,u]
 rw[xu _ _ (by rw[cg];omega),cg,show b.length*2+1-b.length*2=1 from by omega];rfl
theorem wF (b:List (Value×Value))(v:Value×Value)(u:Value)(k:Nat)(c:k=b.length*2):(dV (v::b)).set k u=dV ((u,v.2)::b):=by
 subst c;show(dV b++ [v.1,v.2]).set _ u=dV b++ [u,v.2]
 rw[xu _ _ (by rw[cg];omega),cg,ZR];rfl
theorem bK {w:World}{p:Addr}{u:Value}{k:Nat}(h:k≠p.block):(w.setCell p u).heap[k]?=w.heap[k]?:=by
 simp[World.setCell,ZA,Zi h]
theorem Lay.bytes {w y:World}{S g cap:Nat}{xs:List It}{b B:List UInt8}{q:List (List It×List UInt8)}{x r d:Value}{s:List (Value×Value)}(h:Lay w S g cap ((xs,b)::q) ((x,r)::s))(hS:S<=w.heap.size)
 (n:mP w y r d) (J:bL y S 5 d B):Lay (y.setCell ⟨g,q.length*2+1,none⟩ d) S g cap ((xs,B)::q) ((x,d)::s):=by
 have O:=h.lays.2.2.length;obtain⟨Z,W,_,_,Y,G⟩:=h.block;have C:r.ownBlock≠some g:=by
  rcases h.top.2.2.2.2 g with h|h
  ·exact h
  exact absurd rfl h
 have N:d.ownBlock≠some g:=by
  rcases n.own with e|⟨i,e,hi⟩
  ·rw[e];exact C
  rw[e];intro o;injection o with o;omega
 have z:=gE (k:=q.length*2+1) (h.row.kept n.grown (.inr (by simp only[Value.ownBlock];exact Zi C))) (by rw[cg];simp;omega) d;rw[Jl s (x,r) d _ (by omega)]at z;refine⟨z,⟨⟨?_, ?_⟩, ?_, ?_⟩⟩
 ·obtain⟨⟨A,c,I,o,M,L⟩,_⟩:=h.lays.1;refine⟨A,c,I,o,M,L.ag fun p U=>zD ?_⟩;rw[bK (by simp;omega),n.block (by omega) (fun e=>by have:=(h.lays.1.2.ge _ e).1;omega)]
 ·refine J.ag fun k D H=>bK ?_
  intro e;simp only at e;subst e;exact N H
 ·intro u hu i hi F;rcases n.own with e|⟨j,e,hj⟩
  ·exact h.lays.2.1 u hu i (by rw[<-e];exact hi) F
  have m:=(h.lays.2.2.ge u hu i F).2.1;have hi:d.ownBlock=some i:=hi;rw[e]at hi;injection hi with hi;omega
 refine h.lays.2.2.ag hS fun k D E=> ?_
 have K:k≠g:=by
  rcases E with m|⟨u,hu,m⟩
  ·omega
  rintro rfl;obtain⟨_,_,X,R,l⟩:=h.lays.2.2.ge u hu k m;rw[G]at l;injection l with l;injection l with _ l;exact absurd l (by decide)
 rw[bK (by simpa using K),n.block D (fun e=> ?_)];rcases E with m|⟨u,hu,m⟩
 ·have:=(h.lays.1.2.ge _ e).1;omega
 exact h.lays.2.1 u hu k e m
theorem Lay.items {w:World}{S g cap:Nat}{xs xs':List It}{b:List UInt8}{i:List (List It×List UInt8)}{l j:Value}{e:List (Value×Value)}(h:Lay w S g cap ((xs,b)::i) ((l,j)::e))(hS:S<=w.heap.size)
 {A:Option Addr} {c:Nat} (q:xs'.length<=c) (x:c<=9223372036854775807) (z:cc w S xs' A 0):Lay (w.setCell ⟨g,i.length*2,none⟩ (.slice A xs'.length c)) S g cap ((xs',b)::i) ((.slice A xs'.length c,j)::e):=by
 have B:=h.lays.2.2.length;obtain⟨G,D,_,_,F,r⟩:=h.block;have o:=gE (k:=i.length*2) h.row (by rw[cg];simp;omega) (.slice A xs'.length c);rw[wF e (l,j) _ _ (by omega)]at o;have m:∀k,k<S\/(∃u∈(l,j)::e,u.2.ownBlock=some k)->k≠g:=by
  intro k n;rcases n with h1|⟨u,hu,h1⟩
  ·omega
  rintro rfl;obtain⟨_,_,E,C,d⟩:=Lays.ge h.lays u hu k h1;rw[r]at d;injection d with d;injection d with _ d;exact absurd d (by decide)
 refine⟨o,⟨⟨⟨A,c,rfl,q,x,z.ag fun p y=>zD (bK (by simpa using m _ (.inl y)))⟩,h.lays.1.2.ag fun k _ s=>bK (by simpa using m _ (.inr ⟨_,by simp,s⟩))⟩,h.lays.2.1,h.lays.2.2.ag hS fun k H n=>bK (by simpa using m _ (n.imp id fun⟨u,hu,h⟩=>⟨u,by simp[hu],h⟩))⟩⟩
theorem Lay.push {w w':World}{S g cap m n:Nat}{d:List (List It×List UInt8)}{j:List (Value×Value)}(h:Lay w S g cap d j)(hS:S<=w.heap.size){s:List It}{A:Option Addr}{c:Nat}(o:s.length<=c)(x:c<=9223372036854775807)(B:cc w S s A 0)
 (q:w'.ownsRow S 226 2 (.slice (some ⟨m,0,none⟩) (d.length+1) n) (d.length+1) (dV j++ [.slice A s.length c,.slice none 0 0])) (l:w.grownBy w' (some g)):
 Lay w' S m n ((s,[])::d) ((.slice A s.length c,.slice none 0 0)::j):=by
 obtain⟨H,E,_,_,G,r⟩:=h.block;refine⟨q,⟨⟨⟨A,c,rfl,o,x,B.ag fun p D=>zD (l.block _ (by omega) (by simp;omega))⟩,bL.nil _ _ _⟩,(fun u _ i hi=>by cases hi),h.lays.ag hS fun k y z=>l.block k y ?_⟩⟩;intro e;injection e with e;rcases z with h1|⟨u,hu,h1⟩
 ·omega
 subst e;obtain⟨_,_,F,C,b⟩:=h.lays.ge u hu k h1;rw[r]at b;injection b with b;injection b with _ b;exact absurd b (by decide)
theorem Lay.pop {w:World}{S g cap:Nat}{f:List It×List UInt8}{c:List (List It×List UInt8)}{v:Value×Value}{b:List (Value×Value)}(h:Lay w S g cap (f::c) (v::b)):Lay w S g cap c b:=
 ⟨ownsRow_pop (by rw[cg,h.lays.2.2.length]) h.row,h.lays.2.2⟩
def mK (w:World)(k:Nat):Prop:=∀cs fr,w.heap[k]?≠some (.cells cs 259 fr)
theorem mK.of_eq {w w':World}{k:Nat}(h:mK w k)(e:w'.heap[k]?=w.heap[k]?):mK w' k:=by
 intro b c;rw[e];exact h b c
theorem mK.Lb {w:World}{k:Nat}{c:Array Value}{t:TypeId}{d:Nat×Nat}(h:w.heap[k]?=some (.cells c t d))(b:t≠259):mK w k:=by
 intro i j e;rw[h]at e;injection e with e;injection e with _ e;exact b e
def XM (w:World)(m hi:Nat)(f:List It×Nat)(v:Value×Value):Prop:=
 v.2= .int .i64 f.2/\(∀g,v.1.ownBlock=some g->g<hi)/\∃cs,w.ownsRow m 28 3 v.1 f.1.length cs/\fV w (fun k=>m<=k/\k<hi/\v.1.ownBlock≠some k/\mK w k) f.1 cs
def Ns (w:World)(lo:Nat):Nat->List (List It×Nat)->List (Value×Value)->Prop
 |_,[],[]=>True
 |hi,f::fs,v::vs=>∃m,lo<=m/\m<=hi/\XM w m hi f v/\Ns w lo m fs vs
 |_,_,_=>False
theorem Ns.length {w:World}{lo:Nat}:∀{c:List (List It×Nat)} {b:List (Value×Value)} {hi:Nat},Ns w lo hi c b->b.length=c.length
 | [],[],_,_=>rfl
 |f::c,v::b,hi,h=>by
  obtain⟨m,_,_,_,h⟩:=h;simp[Ns.length h]
theorem XM.ag {w w':World}{m hi hi':Nat}{f:List It×Nat}{v:Value×Value}(h:XM w m hi f v)(l:hi<=hi')(c:∀k,m<=k->k<hi->k<w.heap.size->mK w k->w'.heap[k]?=w.heap[k]?):XM w' m hi' f v:=by
 obtain⟨n,d,i,e,q⟩:=h;refine⟨n,fun g b=>zT (d g b) l,i,⟨e.1, ?_⟩,q.ag (fun k o hS=>⟨hS.1,by omega,hS.2.2.1,hS.2.2.2.of_eq (c k hS.1 hS.2.1 o hS.2.2.2)⟩) fun p j hS=>zD (c _ hS.1 hS.2.1 j hS.2.2.2)⟩;rcases e.2 with h5|⟨g,cap,cur,hv,b,hh',r⟩
 ·exact .inl h5
 exact .inr ⟨g,cap,cur,hv,b,(c g b (d g (by rw[hv];rfl)) (yG hh') (mK.Lb hh' (by decide))).trans hh',r⟩
theorem Ns.ag {w w':World}{lo:Nat}:∀{c:List (List It×Nat)} {d:List (Value×Value)} {hi:Nat},Ns w lo hi c d->(∀k,lo<=k->k<hi->k<w.heap.size->mK w k->w'.heap[k]?=w.heap[k]?)->Ns w' lo hi c d
 | [],[],_,_,_=>trivial
 |f::c,v::d,hi,h,hk=>by
  obtain⟨m,i,e,l,j⟩:=h;exact⟨m,i,e,l.ag (zd _) fun k a b=>hk k (by omega) b,Ns.ag j fun k a b=>hk k a (by omega)⟩
theorem Ns.up {w:World}{lo hi hi':Nat}{b:List (List It×Nat)}{c:List (Value×Value)}(h:Ns w lo hi b c)(d:hi<=hi'):Ns w lo hi' b c:=by
 match b,c,h with
 | [],[],_=>trivial
 |f::b,v::c,h=>
  obtain⟨m,e,k,j,i⟩:=h;exact⟨m,e,by omega,j.ag d fun _ _ _ _ _=>rfl,i⟩
structure tp (w:World)(lo hi g cap:Nat)(fs:List (List It×Nat))(vs:List (Value×Value)):Prop where
 row:w.ownsRow lo 259 2 (.slice (some ⟨g,0,none⟩) fs.length cap) fs.length (dV vs)
 rds:Ns w lo hi fs vs
 le:hi<=w.heap.size
theorem tp.block {w:World}{lo hi g cap:Nat}{b:List (List It×Nat)}{c:List (Value×Value)}(h:tp w lo hi g cap b c):lo<=g/\g<w.heap.size/\b.length<=cap/\cap<=9223372036854775807/\∃d,w.heap[g]?=some (.cells d 259 (0,0)):=dF h.row
theorem tp.below {w w':World}{lo hi g cap:Nat}{d:List (List It×Nat)}{c:List (Value×Value)}(h:tp w lo hi g cap d c)(b:Below w.heap.size w w'):tp w' lo hi g cap d c:=
 ⟨h.row.kept (dx b) (.inr (by simp[Value.ownBlock])),h.rds.ag fun k _ _ e _=>b.block k e,zF h.le b.size⟩
theorem tp.only {w w':World}{lo hi g cap:Nat}{e:List (List It×Nat)}{i:List (Value×Value)}(h:tp w lo hi g cap e i){L:List Nat}(c:ae L w w')(d:∀k,k∈L->k<lo):tp w' lo hi g cap e i:=by
 obtain⟨m,j,_,_,p,n⟩:=h.block;refine⟨⟨h.row.1, ?_⟩,h.rds.ag fun k o _ l _=>c.block k l fun b=>by have:=d k b;omega,zF h.le c.size⟩;rcases h.row.2 with h2|⟨g',aq,ss,hv,hb,hh',r⟩
 ·exact .inl h2
 injection hv with LN kI Ex;injection LN with LN;injection LN with LN;subst LN;exact .inr ⟨g,aq,ss,by rw[Ex],hb,(c.block g j fun b=>by have:=d g b;omega).trans hh',r⟩
theorem tp.top {w:World}{lo hi g cap:Nat}{f:List It×Nat}{b:List (List It×Nat)}{v:Value×Value}{c:List (Value×Value)}(h:tp w lo hi g cap (f::b) (v::c)):
 w.cell? ⟨g,b.length*2,none⟩=some v.1/\w.cell? ⟨g,b.length*2+1,none⟩=some (.int .i64 f.2)/\w.frozen? ⟨g,b.length*2,none⟩=false/\w.frozen? ⟨g,b.length*2+1,none⟩=false:=by
 obtain⟨m,_,_,k,l⟩:=h.rds;have o:=l.length;have q:=cg c;have n:∀j,(⟨g,0,none⟩:Addr).add j=⟨g,j,none⟩:=by intro j;unfold Addr.add;split<;>simp_all
 obtain⟨p,s,_,_,r,i⟩:=h.block;have e:=h.row.cells (g:=g) rfl (b.length*2) v.1 (by
  show(dV c++ [v.1,v.2])[b.length*2]?=_
  rw[yk (by omega),show b.length*2-(dV c).length=0 from by omega];rfl)
 have d:=h.row.cells (g:=g) rfl (b.length*2+1) v.2 (by
  show(dV c++ [v.1,v.2])[b.length*2+1]?=_
  rw[yk (by omega),show b.length*2+1-(dV c).length=1 from by omega];rfl)
 rw[n]at e d;rw[k.1]at d;exact⟨e,d,eJ i (.inl rfl),eJ i (.inl rfl)⟩
theorem tp.pop {w:World}{lo hi g cap:Nat}{f:List It×Nat}{c:List (List It×Nat)}{v:Value×Value}{d:List (Value×Value)}(h:tp w lo hi g cap (f::c) (v::d)):
 ∃m,lo<=m/\m<=hi/\XM w m hi f v/\tp w lo m g cap c d:=by
 obtain⟨m,i,b,j,e⟩:=h.rds;exact⟨m,i,b,j,⟨ownsRow_pop (by rw[cg,e.length]) h.row,e,zF b h.le⟩⟩
theorem XM.list {w:World}{m hi:Nat}{acc:List It}{r:Nat}{v:Value×Value}(h:XM w m hi (acc,r) v)(e:acc.length<=9223372036854775807):
 ∃A cap,v.1= .slice A acc.length cap/\acc.length<=cap/\cap<=9223372036854775807/\∀c,acc.length<=c->c<=9223372036854775807->gq w (fun k=>m<=k/\mK w k) (gT acc) (.string ⟨#[]⟩) (.bool true) (.slice A acc.length c):=by
 obtain⟨_,D,C,l,B⟩:=h;rcases l.2 with⟨d,b⟩|⟨g,cap,E,i,s,x,y,p,_⟩
 ·have b:acc.length=0:=b;obtain rfl:acc= []:=zo b;exact⟨none,0,d,by simp,by simp,fun c _ n=>⟨rfl,rfl,yc _,e,none,c,rfl,yc _,n,trivial⟩⟩
 refine⟨some ⟨g,0,none⟩,cap,i,y,by simpa[maxLen]using p,fun c z o=>⟨rfl,rfl,yc _,e,some ⟨g,0,none⟩,c,rfl,z,o, ?_⟩⟩;refine nF.fa ⟨s,mK.Lb x (by decide)⟩ (B.ag (fun k _ h=>⟨h.1,h.2.2.2⟩) (fun _ _ _=>rfl)) fun j u hu=> ?_
 have q:v.1.ownBlock=some g:=by rw[i];rfl
 have:=l.cells q j u hu;have d:(⟨g,0,none⟩:Addr).add j=⟨g,j,none⟩:=by unfold Addr.add;split<;>simp_all
 rw[d]at this;simpa using this
theorem tp.push {w w':World}{lo hi g cap j l:Nat}{c:List (List It×Nat)}{i:List (Value×Value)}(h:tp w lo hi g cap c i)(d:Nat)
 (n:w'.ownsRow lo 259 2 (.slice (some ⟨j,0,none⟩) (c.length+1) l) (c.length+1) (dV i++ [.slice none 0 0,.int .i64 d])) (b:w.grownBy w' (some g)) (q:lo<=hi):
 tp w' lo w'.heap.size j l (([],d)::c) ((.slice none 0 0,.int .i64 d)::i):=by
 obtain⟨u,r,_,_,s,o⟩:=h.block;refine⟨n,⟨hi,q,zF h.le b.size,⟨rfl,(fun g b=>by cases b),[],World.ownsRow_nil _ _ _ _,rfl⟩,h.rds.ag fun k _ _ m p=>b.block k m ?_⟩,zd _⟩;intro e;injection e with e;subst e;exact p _ _ o
theorem tp.first {w:World}{lo g cap:Nat}(b:Nat)(c:w.ownsRow lo 259 2 (.slice (some ⟨g,0,none⟩) 1 cap) 1 [.slice none 0 0,.int .i64 b])(d:lo<=w.heap.size):tp w lo w.heap.size g cap [([],b)] [(.slice none 0 0,.int .i64 b)]:=
 ⟨c,⟨lo,zd _,d,⟨rfl,(fun g e=>by cases e),[],World.ownsRow_nil _ _ _ _,rfl⟩,trivial⟩,zd _⟩
theorem tp.added {w l:World}{lo m hi g cap b u:Nat}{acc:List It}{O:Nat}{h:List (List It×Nat)}{c B:Value}{z:List (Value×Value)}{s:List Value}{L N z2 i n j:Value}{y:It}
 (M:w.ownsRow lo 259 2 (.slice (some ⟨g,0,none⟩) (h.length+1) cap) (h.length+1) (dV ((c,B)::z))) (ae:hi<=w.heap.size) (gJ:lo<=m) (su:m<=hi) (LN:B= .int .i64 O) (Z:∀g,c.ownBlock=some g->g<hi)
 (I:w.ownsRow m 28 3 c acc.length s) (sF:fV w (fun k=>m<=k/\k<hi/\c.ownBlock≠some k/\mK w k) acc s) (U:Ns w lo m h z) (hy:gq w (fun k=>hi<=k/\mK w k) y i n j)
 (J:w.grownBy l c.ownBlock) (Y:l.ownsRow m 28 3 (.slice (some ⟨b,0,none⟩) (acc.length+1) u) (acc.length+1) (s++ [L,N,z2])) (D:c.ownBlock=some b\/w.heap.size<=b):
 tp ((((l.setCell ⟨b,acc.length*3,none⟩ i).setCell ⟨b,acc.length*3+1,none⟩ n).setCell ⟨b,acc.length*3+2,none⟩ j).setCell ⟨g,h.length*2,none⟩ (.slice (some ⟨b,0,none⟩) (acc.length+1) u)) lo l.heap.size g cap ((acc++ [y],O)::h) ((.slice (some ⟨b,0,none⟩) (acc.length+1) u,B)::z):=by
 have hl:=U.length;obtain⟨LU,mV,ah,RV,af,C⟩:=dF M;have ad:=I.1;have W:c.ownBlock≠some g:=by
  intro e;rcases I.2 with⟨H,_⟩|⟨g2,cn,aa,G,_,r,_⟩
  ·rw[H]at e;cases e
  rw[G]at e;have:g2=g:=by simpa[Value.ownBlock]using e
  subst this;rw[C]at r;injection r with r;injection r with _ r;exact absurd r (by decide)
 have ab:b≠g:=by
  rcases D with e|e
  ·intro o;exact W (by rw[e,o])
  omega
 have ja:=gE (gE (gE Y (k:=acc.length*3) (by simp;omega) i) (k:=acc.length*3+1) (by simp;omega) n) (k:=acc.length*3+2) (by simp;omega) j;have SS:(((s++ [L,N,z2]).set (acc.length*3) i).set (acc.length*3+1) n).set (acc.length*3+2) j=s++ [i,n,j]:=by
  rw[<-ad,xu _ _ (by omega),xu _ _ (by omega),xu _ _ (by omega)];simp
 rw[SS]at ja;have x:∀k,k<w.heap.size->c.ownBlock≠some k->k≠g->((((l.setCell ⟨b,acc.length*3,none⟩ i).setCell ⟨b,acc.length*3+1,none⟩ n).setCell ⟨b,acc.length*3+2,none⟩ j).setCell ⟨g,h.length*2,none⟩ (.slice (some ⟨b,0,none⟩) (acc.length+1) u)).heap[k]?=w.heap[k]?:=by
  intro k d K R;have A:k≠b:=by
   rcases D with e|e
   ·intro o;exact K (by rw[e,o])
   omega
  rw[bK (by simpa using R),bK (by simpa using A),bK (by simpa using A),bK (by simpa using A)];exact J.block k d (fun e=>K e.symm)
 have gF:((((l.setCell ⟨b,acc.length*3,none⟩ i).setCell ⟨b,acc.length*3+1,none⟩ n).setCell ⟨b,acc.length*3+2,none⟩ j).setCell ⟨g,h.length*2,none⟩ (.slice (some ⟨b,0,none⟩) (acc.length+1) u)).heap.size=l.heap.size:=by simp[World.setCell]
 have LJ:=J.size;have ag:b<l.heap.size:=(dF Y).2.1;have SW:l.ownsRow lo 259 2 (.slice (some ⟨g,0,none⟩) (h.length+1) cap) (h.length+1) (dV ((c,B)::z)):=M.kept J (.inr (by simp only[Value.ownBlock];exact Zi W));have GQ:=Zy (Zy (Zy SW (a:=⟨b,acc.length*3,none⟩) (by simp[Value.ownBlock];omega) i) (a:=⟨b,acc.length*3+1,none⟩) (by simp[Value.ownBlock];omega) n) (a:=⟨b,acc.length*3+2,none⟩) (by simp[Value.ownBlock];omega) j;have X:=gE GQ (k:=h.length*2) (by rw[cg];simp;omega) (.slice (some ⟨b,0,none⟩) (acc.length+1) u);rw[wF z (c,B) _ _ (by omega)]at X;refine⟨X,⟨m,gJ,by omega,⟨LN, ?_,s++ [i,n,j], ?_, ?_⟩, ?_⟩,by rw[gF];exact zd _⟩
 ·intro g2 tM;have:b=g2:=by simpa[Value.ownBlock]using tM
  omega
 ·rw[zj];exact Zy ja (a:=⟨g,h.length*2,none⟩) (by simp[Value.ownBlock];exact ab) _
 ·have E:∀k,k<w.heap.size->(hi<=k/\mK w k)->(c.ownBlock≠some k/\k≠g):=fun k d hS=>⟨fun e=>by have:=Z _ e;omega,by rintro rfl;exact hS.2 _ _ C⟩
  have F:∀k,k<w.heap.size->(m<=k/\k<hi/\c.ownBlock≠some k/\mK w k)->(c.ownBlock≠some k/\k≠g):=fun k d hS=>⟨hS.2.2.1,by rintro rfl;exact hS.2.2.2 _ _ C⟩
  refine fV.snoc (gq.ag (w:=w) (S:=fun k=>hi<=k/\mK w k) (fun k d hS=> ?_) (fun p q hS=> ?_) y hy) (sF.ag (fun k d hS=> ?_) fun p q hS=> ?_)
  ·refine⟨by omega,by omega, ?_,hS.2.of_eq (x k d (E k d hS).1 (E k d hS).2)⟩;intro e;have e:b=k:=by simpa[Value.ownBlock]using e
   rcases D with o|o
   ·have:=Z _ o;omega
   omega
  ·exact zD (x _ q (E _ q hS).1 (E _ q hS).2)
  ·refine⟨hS.1,by omega, ?_,hS.2.2.2.of_eq (x k d (F k d hS).1 (F k d hS).2)⟩;intro e;have e:b=k:=by simpa[Value.ownBlock]using e
   rcases D with o|o
   ·exact hS.2.2.1 (by rw[o,e])
   omega
  exact zD (x _ q (F _ q hS).1 (F _ q hS).2)
 refine U.ag fun k K R A h4=>x k A (fun e=> ?_) (by rintro rfl;exact h4 _ _ C)
 rcases I.2 with⟨H,_⟩|⟨g2,cn,aa,G,aS,_⟩
 ·rw[H]at e;cases e
 rw[G]at e;have:g2=k:=by simpa[Value.ownBlock]using e
 omega
theorem ma {w:World}{a b:Addr}(h:a.block≠b.block)(x y:Value):(w.setCell a x).setCell b y=(w.setCell b y).setCell a x:=by
 unfold World.setCell;dsimp only;congr 1
 apply Array.ext
 ·simp
 intro i k j;simp only[Array.getElem_modify];by_cases c:a.block=i
 ·have d:¬b.block=i:=fun e=>h (c.trans e.symm)
  simp[c,d]
 simp[c]
theorem rX {w:World}{ops:Array Oper}{o:Oper}{a:Act}{K:Act->World->Prop}{Q:Exit->Act->World->Prop}{y:Prop}(G:o.guard=none)(s x:Operand)
 (N:o.op= .call {callee:= .builtin .append,args:= #[s,x],argTypes:= #[26,26]}) (m n:Nat) {v:Value} {i:List Value} (D:a.eval s=v) (l:w.ownsRow m 28 3 v n i) (B:Nat)
 (hx:a.eval x= .slice (some ⟨B,0,none⟩) 1 1) (A:af w B 28 #[.string ⟨#[]⟩,.bool false,.slice none 0 0]) (R:n<=1000000) (O:m<=w.heap.size)
 (F:∀b c w',Hid (w'.ownsRow m 28 3 (.slice (some ⟨b,0,none⟩) (n+1) c) (n+1) (i++ [.string ⟨#[]⟩,.bool false,.slice none 0 0]))->Hid (w.grownBy w' v.ownBlock)->Hid (v.ownBlock=some b\/w.heap.size<=b)->n+1<=c->c<=9223372036854775807->
  w'.cell? ⟨b,n*3,none⟩=some (.string ⟨#[]⟩)->w'.cell? ⟨b,n*3+1,none⟩=some (.bool false)->w'.cell? ⟨b,n*3+2,none⟩=some (.slice none 0 0)->
  w'.frozen? ⟨b,n*3,none⟩=false->w'.frozen? ⟨b,n*3+1,none⟩=false->w'.frozen? ⟨b,n*3+2,none⟩=false->K (a.put o.dst (.slice (some ⟨b,0,none⟩) (n+1) c)) w'):
 if Region.wanted o (yielded ops a.tmps)=true then Oper.wp prog o a w K Q else y:=by
 obtain⟨i0,hi,E,M,I⟩:=yE Cl;refine step_append_lies w G s x 26 N m 28 i0 _ 3 48 underlying26 hi E M I rfl (by decide) v n i D l ⟨B,0,none⟩ 1 1 [.string ⟨#[]⟩,.bool false,.slice none 0 0] hx rfl ?_ ?_ (by decide) (by simp only[maxLen];omega) (by omega) O w.heap.size rfl ?_
 ·exact fun j u hu=>ZM A j u (by simpa using hu)
 ·intro u hu;simp at hu;rcases hu with rfl|rfl|rfl<;>rfl
 intro b c w' d H J U;obtain⟨_,_,L,C,S,k⟩:=dF d;have e:=l.1;have z:∀j,(⟨b,0,none⟩:Addr).add j=⟨b,j,none⟩:=by intro j;unfold Addr.add;split<;>simp_all
 have p:=d.cells (g:=b) rfl (n*3) (.string ⟨#[]⟩) (by rw[yk (by omega),e,ZR];rfl);have r:=d.cells (g:=b) rfl (n*3+1) (.bool false) (by rw[yk (by omega),e,show n*3+1-n*3=1 from by omega];rfl);have q:=d.cells (g:=b) rfl (n*3+2) (.slice none 0 0) (by rw[yk (by omega),e,show n*3+2-n*3=2 from by omega];rfl);rw[z]at p r q;exact F b c w' (za d) (za H) (za (J.imp id fun h=>by omega)) L C p r q (eJ k (.inl rfl)) (eJ k (.inl rfl)) (eJ k (.inl rfl))
theorem Gd (W:World)(d b:Nat)(A:Option Addr)(i:Nat)(t:ByteArray)(l:Bool)(j:Option Addr)(n2 k2:Nat)(n k p:Value)(s:i<=9223372036854775807)(h:af W d 256 #[.slice A 0 i])(c:af W b 28 #[n,k,p])(u:d≠b):
 Calls prog 211 #[.agg #[.string t,.bool l,.slice j n2 k2],.pointer (some ⟨d,0,none⟩),.pointer (some ⟨b,0,none⟩)] W fun e w'=>e= .returned (.tuple #[])/\af w' b 28 #[.string t,.bool l,.slice j n2 k2]/\ae [b] W w':=by
 have m:=h.cell 0;have m:W.cell? ⟨d,0,none⟩=some (.slice A 0 i):=h.cell 0;have r:=h.lt;have q:=c.lt;obtain⟨g0,g1,g2,f0,f1,f2⟩:=bg c;have o:=za c;clear h c;go_enter func211,ntmps211
 go_wp2;refine zk (v:= .tuple #[]) (results_none rfl _ _ _) rfl ⟨rfl,((((o.out.set 0 _).set 1 _).set 2 _).alloc _), ?_⟩;exact((((ae.refl [b] W).setCell (by simp) _).setCell (by simp) _).setCell (by simp) _).alloc _
theorem Ge (W:World)(lo hi g H b9 Wj:Nat)(acc:List It)(G:Nat)(D:List (List It×Nat))(v0 v1:Value)(vs:List (Value×Value))(y:It)(c0 c1 c2:Value)
 (Y:af W b9 256 #[.slice (some ⟨g,0,none⟩) (D.length+1) H]) (w:tp W lo hi g H ((acc,G)::D) ((v0,v1)::vs)) (hy:gq W (fun k=>hi<=k/\mK W k) y c0 c1 c2) (ad:acc.length<=1000000):
 Calls prog 211 #[.agg #[c0,c1,c2],.pointer (some ⟨b9,0,none⟩),.pointer (some ⟨Wj,0,none⟩)] W fun e w'=>e= .returned (.tuple #[])/\Below lo W w'/\∃RW,tp w' lo w'.heap.size g H ((acc++ [y],G)::D) ((RW,v1)::vs):=by
 have HR:=za w;obtain⟨m,gJ,O,⟨LN,F,cs,C,S⟩,J7⟩:=w.rds;obtain⟨LU,mV,pX,az,av,hh⟩:=w.block;obtain⟨t0,t1,LV,Oa⟩:=w.top;have ag:=w.le;simp only[zw]at pX;dsimp only at LN F C S t0;have X:=za C;have J9:=za S;have Hg:=za J7;have J8:=za F;have HY:=za hy;have HF:Hid (∃A n cap,v0= .slice A n cap/\n=acc.length/\n<=cap/\cap<=9223372036854775807):=za (by
  rcases C.2 with⟨U,Z⟩|⟨g2,cn,an,L,_,_,DV,O,_⟩
  ·exact⟨none,0,0,U,Z.symm,by simp,by simp⟩
  exact⟨_,_,cn,L,rfl,DV,by simpa[maxLen]using O⟩)
 obtain⟨p,d,q,rfl,pW,Ek,aA⟩:=HF.out;have K:=za pW;obtain⟨l,j,rfl,rfl,rfl,oG,ax,aw,_⟩:=hy.open_;have ao:=Y.cell 0;have aB:=Y.lt;obtain⟨r,hr⟩:∃r,D.length=r:=⟨_,rfl⟩
 have Es:=za hr;rw[hr]at t0 t1 LV Oa pX Y ao;have ah:Hid (∀k,W.heap.size<=k->Value.ownBlock (.slice p d q)≠some k):=za (fun k hk e=>by have:=F k e;omega);have N:Hid (Value.ownBlock (.slice p d q)≠some g):=za (by
  intro e;rcases C.2 with⟨U,_⟩|⟨g2,cn,an,L,_,s,_⟩
  ·rw[U]at e;cases e
  rw[L]at e;have:g2=g:=by simpa[Value.ownBlock]using e
  subst this;rw[hh]at s;injection s with s;injection s with _ s;exact absurd s (by decide))
 subst LN;clear S J7 F C hy w hh hr pW;have aq:Hid (af (((W.alloc (.cells #[.string y.text,.bool y.list,.slice l y.sub.length j] 28)).drew).alloc (.cells #[.string ⟨#[]⟩,.bool false,.slice none 0 0] 28)) (W.heap.size+1) 28 #[.string ⟨#[]⟩,.bool false,.slice none 0 0]):=za (by have:=af.new (W.alloc (.cells #[.string y.text,.bool y.list,.slice l y.sub.length j] 28)).drew 28 #[.string ⟨#[]⟩,.bool false,.slice none 0 0];simpa using this);have Aq:Hid (af (((W.alloc (.cells #[.string y.text,.bool y.list,.slice l y.sub.length j] 28)).drew).alloc (.cells #[.string ⟨#[]⟩,.bool false,.slice none 0 0] 28)) W.heap.size 28 #[.string y.text,.bool y.list,.slice l y.sub.length j]):=za (((af.new W 28 #[.string y.text,.bool y.list,.slice l y.sub.length j]).drew).alloc _);have ae:Hid ((((W.alloc (.cells #[.string y.text,.bool y.list,.slice l y.sub.length j] 28)).drew).alloc (.cells #[.string ⟨#[]⟩,.bool false,.slice none 0 0] 28)).ownsRow m 28 3 (.slice p d q) acc.length cs):=za ((X.out.alloc _).drew.alloc _);have B:Hid (Below W.heap.size W (((W.alloc (.cells #[.string y.text,.bool y.list,.slice l y.sub.length j] 28)).drew).alloc (.cells #[.string ⟨#[]⟩,.bool false,.slice none 0 0] 28))):=za ((((zl W.heap.size W).alloc (zd _) _).drew).alloc (by simp) _);have R:Hid (g<(((W.alloc (.cells #[.string y.text,.bool y.list,.slice l y.sub.length j] 28)).drew).alloc (.cells #[.string ⟨#[]⟩,.bool false,.slice none 0 0] 28)).heap.size):=za (by simp;omega)
 have ab:Hid ((((W.alloc (.cells #[.string y.text,.bool y.list,.slice l y.sub.length j] 28)).drew).alloc (.cells #[.string ⟨#[]⟩,.bool false,.slice none 0 0] 28)).cell? ⟨g,r*2,none⟩=some (.slice p d q)/\(((W.alloc (.cells #[.string y.text,.bool y.list,.slice l y.sub.length j] 28)).drew).alloc (.cells #[.string ⟨#[]⟩,.bool false,.slice none 0 0] 28)).frozen? ⟨g,r*2,none⟩=false):=za ⟨(B.out.cell mV).trans t0,(B.out.frozen mV).trans LV⟩;have ai:Hid (∀i:Nat,(Value.ownBlock (.slice p d q)=some i\/(((W.alloc (.cells #[.string y.text,.bool y.list,.slice l y.sub.length j] 28)).drew).alloc (.cells #[.string ⟨#[]⟩,.bool false,.slice none 0 0] 28)).heap.size<=i)->i≠g):=za (fun i h e=>by
  subst e;rcases h with h|h
  ·exact N.out h
  have:=R.out;omega)
 have ar:Hid (m<=(((W.alloc (.cells #[.string y.text,.bool y.list,.slice l y.sub.length j] 28)).drew).alloc (.cells #[.string ⟨#[]⟩,.bool false,.slice none 0 0] 28)).heap.size):=za (by simp;omega);rw[<-K.out]at ad;rw[<-K.out]at ae;have ay:(d:Int)<d+1:=by omega
 go_enter func211,ntmps211
 go_wp2_with fail
 go_region_law (refine rX (by rfl) (.tmp 17) (.tmp 20) (by rfl) m d (by rfl) ae.out (W.heap.size+1) (by rfl) aq.out ad ar.out ?_;intro i z o OG u E En AH q0 q1 q2 Wk au ak;obtain⟨x0,x1,x2,_⟩:=bg (Aq.out.grown u.out (ah.out _ (zd _)));have e3:o.cell? ⟨g,r*2,none⟩=some (.slice p d q):=(u.out.cell_far ⟨g,r*2,none⟩ R.out (Zi N.out)).trans ab.out.1;have e4:o.frozen? ⟨g,r*2,none⟩=false:=(u.out.frozen_far ⟨g,r*2,none⟩ R.out (Zi N.out)).trans ab.out.2;have al:i≠g:=ai.out i E.out;have aa:g≠i:=Zi al)
 all_goals
  have HD:Hid (tp ((((o.setCell ⟨i,d*3,none⟩ (.string y.text)).setCell ⟨i,d*3+1,none⟩ (.bool y.list)).setCell ⟨i,d*3+2,none⟩ (.slice l y.sub.length j)).setCell ⟨g,r*2,none⟩ (.slice (some ⟨i,0,none⟩) (d+1) z)) lo o.heap.size g H ((acc++ [y],G)::D) ((.slice (some ⟨i,0,none⟩) (d+1) z,.int .i64 G)::vs)):=za (by
   have J:=E.out;have I:=OG.out;rw[<-Es.out,K.out];rw[K.out]at I;exact tp.added HR.out.row ag gJ O rfl J8.out X.out J9.out Hg.out HY.out ((kt (dx B.out) _).trans u.out) I (J.imp id fun h=>zF B.out.size h))
  have He:Hid (Below lo W ((((o.setCell ⟨i,d*3,none⟩ (.string y.text)).setCell ⟨i,d*3+1,none⟩ (.bool y.list)).setCell ⟨i,d*3+2,none⟩ (.slice l y.sub.length j)).setCell ⟨g,r*2,none⟩ (.slice (some ⟨i,0,none⟩) (d+1) z))):=za (by
   have J:∀k,Value.ownBlock (.slice p d q)=some k->lo<=k:=fun k hk=>zF gJ (X.out.lt k hk).1
   have M:lo<=i:=by
    rcases E.out with e|e
    ·exact J _ e
    have Z:=e;simp at Z;omega
   exact((((((B.out.mono (by omega)).grown u.out (by simp;omega) J).setCell (by simpa using M) _).setCell (by simpa using M) _).setCell (by simpa using M) _).setCell (by simpa using LU) _))
  have aj:Hid (∀(v:World) (x a b c:Value),(((v.setCell ⟨g,r*2,none⟩ x).setCell ⟨i,d*3,none⟩ a).setCell ⟨i,d*3+1,none⟩ b).setCell ⟨i,d*3+2,none⟩ c=(((v.setCell ⟨i,d*3,none⟩ a).setCell ⟨i,d*3+1,none⟩ b).setCell ⟨i,d*3+2,none⟩ c).setCell ⟨g,r*2,none⟩ x):=za (fun v x a b c=>by rw[ma (a:=⟨g,r*2,none⟩) (b:=⟨i,d*3,none⟩) aa,ma (a:=⟨g,r*2,none⟩) (b:=⟨i,d*3+1,none⟩) aa,ma (a:=⟨g,r*2,none⟩) (b:=⟨i,d*3+2,none⟩) aa]);clear OG u E q0 q1 q2 Wk au ak x0 x1 x2 e3 e4;go_wp2;go_end0
  try rw[aj.out]
  refine⟨rfl,He.out,.slice (some ⟨i,0,none⟩) (d+1) z, ?_⟩;have I:=HD.out;have hz:((((o.setCell ⟨i,d*3,none⟩ (.string y.text)).setCell ⟨i,d*3+1,none⟩ (.bool y.list)).setCell ⟨i,d*3+2,none⟩ (.slice l y.sub.length j)).setCell ⟨g,r*2,none⟩ (.slice (some ⟨i,0,none⟩) (d+1) z)).heap.size=o.heap.size:=by simp[World.setCell]
  rw[hz];exact I
def lC (z:Nat):List (List It×Nat)->Nat
 | []=>z
 |f::_=>f.2
def Ends (z:Nat):List (List It×Nat)->Prop
 | []=>True
 |f::fs=>f.2<=lC z fs/\Ends z fs
theorem Ends.top {z:Nat}:∀{b:List (List It×Nat)},Ends z b->lC z b<=z
 | [],_=>zd _
 |f::b,h=>zF h.1 (Ends.top h.2)
def nQ :List (List It×Nat)->Nat
 | []=>0
 |f::fs=>f.1.length+1+nQ fs
theorem mc :∀(b:List (List It×Nat)),b.length<=nQ b
 | []=>zd _
 |f::b=>by have:=mc b;simp[nQ];omega
def rY (D M:Int)(s:ByteArray)(R:Rd)(b:Bool):List (List It×Nat)->Nat->Nat->Prop
 | [],at_,count=>b=true/\at_=0/\count=0/\bq D M s 1 0=R
 |(acc,en)::fs,at_,count=>b=false/\at_<en/\fin D M s acc en fs at_ count=R/\Ends s.size ((acc,en)::fs)/\nQ ((acc,en)::fs)<=count/\count<=1024
def qQ (D M:Int)(s:ByteArray)(R:Rd):List (List It×Nat)->Nat->Nat->Prop
 | [],at_,_=>R.e=0/\R.size=at_
 |(acc,en)::fs,at_,count=>at_<=en/\fin D M s acc en fs at_ count=R/\Ends s.size ((acc,en)::fs)/\nQ ((acc,en)::fs)<=count/\count<=1024
theorem rY.le {D M:Int}{s:ByteArray}{R:Rd}{b:Bool}{c:List (List It×Nat)}{at_ count:Nat}(h:rY D M s R b c at_ count):at_<=lC s.size c/\lC s.size c<=s.size/\count<=1024/\c.length<=1024/\(b=true↔c= []):=by
 match c,h with
 | [],h=>obtain⟨rfl,rfl,rfl,h⟩:=h;simp[lC]
 |(acc,en)::c,h=>
  obtain⟨rfl,i,l,j,m,d⟩:=h;have k:=mc ((acc,en)::c);have e:=j.top;exact⟨Yh i,e,d,by omega,by simp⟩
theorem rZ (s:ByteArray):s.extract 0 s.size=s:=by
 apply aB;rw[an,zK,zy (by simp)]
theorem rY.err {D M:Int}{s:ByteArray}{R:Rd}{b:Bool}{c:List (List It×Nat)}{at_ count:Nat}(h:rY D M s R b c at_ count){l:Bool}{z n:Nat}{e:Int}
 (d:hd (s.extract at_ (lC s.size c)) (aF D (c.length+1)) (aG M count)=(l,z,n,e)) (i:e≠0):R=Rd.bad (if b then e else within e):=by
 match c,h with
 | [],h=>
  obtain⟨rfl,rfl,rfl,j⟩:=h;simp only[lC,rZ]at d;rw[<-j];exact(rN D M s _ d).1 i
 |(acc,en)::c,h=>
  obtain⟨rfl,m,k,o,q,p⟩:=h;rw[<-k];exact TF D M s acc en c at_ count m o.top _ d i
theorem rY.many {D M:Int}{s:ByteArray}{b:List (List It×Nat)}{at_ count:Nat}{l:Bool}{z n:Nat}{e:Int}
 (d:hd (s.extract at_ (lC s.size b)) (aF D (b.length+1)) (aG M count)=(l,z,n,e)) (c:e=0):count+1<=1024:=by
 have h:=Vq (s.extract at_ (lC s.size b)) (aF D (b.length+1)) (aG M count);rw[d]at h;exact(ph.1 (h c).2.2.1).2
theorem rY.list {D M:Int}{s:ByteArray}{R:Rd}{b:Bool}{c:List (List It×Nat)}{at_ count:Nat}(h:rY D M s R b c at_ count){z n:Nat}
 (d:hd (s.extract at_ (lC s.size c)) (aF D (c.length+1)) (aG M count)=(true,z,n,0)):
 qQ D M s R (([],at_+z+n)::c) (at_+z) (count+1)/\at_+z+n<=s.size/\1<=z/\count+1<=1024:=by
 have m:=rY.many d rfl;match c,h with
 | [],h=>
  obtain⟨rfl,rfl,rfl,q⟩:=h;simp only[lC,rZ]at d;have e:=sW s (aF D 1) (aG M 0);have j:=(rN D M s _ d).2.2 rfl rfl;rw[show([]:List (List It×Nat)).length+1=1 from rfl]at d;rw[d]at e;have e:=e rfl;dsimp only at e j;rw[q]at j;simp only[zM];exact⟨⟨by omega,j.symm,⟨by simp[lC];omega,trivial⟩,by simp[nQ],by omega⟩,by omega,e.2.2.2 rfl,by omega⟩
 |(acc,en)::c,h=>
  obtain⟨rfl,w,r,i,p,x⟩:=h;obtain⟨l,k,o⟩:=Pr D M s acc en c at_ count w i.top _ d rfl rfl;dsimp only at l k o;have u:=i.top;simp only[lC]at u;exact⟨⟨by omega,l.symm.trans r,⟨by simp only[lC];exact k,i⟩,by simp only[nQ,zL]at p⊢;omega,m⟩,by omega,o,m⟩
theorem rY.text {D M:Int}{s:ByteArray}{R:Rd}{b:Bool}{c:List (List It×Nat)}{at_ count:Nat}(h:rY D M s R b c at_ count){z n:Nat}
 (d:hd (s.extract at_ (lC s.size c)) (aF D (c.length+1)) (aG M count)=(false,z,n,0)):
 at_+z+n<=s.size/\1<=z+n/\count+1<=1024/\(c= []->R=⟨.mk (s.extract (at_+z) (at_+z+n)) false [],at_+z+n,1,0⟩)/\
 (∀acc j l,c=(acc,j)::l->qQ D M s R ((acc++ [.mk (s.extract (at_+z) (at_+z+n)) false []],j)::l) (at_+z+n) (count+1)):=by
 have q:=rY.many d rfl;have i:=sW (s.extract at_ (lC s.size c)) (aF D (c.length+1)) (aG M count);rw[d]at i;have i:=i rfl;dsimp only at i;match c,h with
 | [],h=>
  obtain⟨rfl,rfl,rfl,u⟩:=h;simp only[lC,rZ]at d i;have m:=(rN D M s _ d).2.1 rfl rfl;dsimp only at m;rw[u]at m;simp only[zM];exact⟨by omega,by omega,by omega,(fun _=>m),(fun _ _ _ e=>by cases e)⟩
 |(acc,j)::c,h=>
  obtain⟨rfl,y,w,k,r,C⟩:=h;obtain⟨p,o⟩:=Pq D M s acc j c at_ count y k.top _ d rfl rfl;dsimp only at p o;have x:=k.top;simp only[lC]at x;refine⟨by omega,by omega,q,(fun e=>by cases e),fun A B l e=> ?_⟩;injection e with e1 e2;injection e1 with e3 e4;subst e2;subst e3;subst e4;exact⟨o,p.symm.trans w,k,by simp only[nQ,zj,yv]at r⊢;omega,q⟩
theorem qQ.next {D M:Int}{s:ByteArray}{R:Rd}{acc:List It}{b:Nat}{c:List (List It×Nat)}{at_ count:Nat}(h:qQ D M s R ((acc,b)::c) at_ count)(e:b≠at_):rY D M s R false ((acc,b)::c) at_ count:=by
 obtain⟨i,d⟩:=h;exact⟨rfl,by omega,d⟩
theorem qQ.done {D M:Int}{s:ByteArray}{R:Rd}{acc:List It}{b count:Nat}(h:qQ D M s R [(acc,b)] b count):R=⟨gT acc,b,count,0⟩:=by
 obtain⟨i,c,d,j,e⟩:=h;rw[<-c];exact Ps D M s acc b count d.top
theorem qQ.close {D M:Int}{s:ByteArray}{R:Rd}{acc c:List It}{b i count:Nat}{d:List (List It×Nat)}(h:qQ D M s R ((acc,b)::(c,i)::d) b count):qQ D M s R ((c++ [gT acc],i)::d) b count:=by
 obtain⟨m,j,e,l,k⟩:=h;rw[ME D M s acc b (c,i) d count e.top]at j;exact⟨e.1,j,e.2,by simp only[nQ,zj,yv]at l⊢;omega,k⟩
theorem qQ.len {D M:Int}{s:ByteArray}{R:Rd}{acc:List It}{c at_ count:Nat}{b:List (List It×Nat)}(h:qQ D M s R ((acc,c)::b) at_ count):acc.length<=1024/\b.length<=1024/\c<=s.size:=by
 obtain⟨k,j,e,d,i⟩:=h;have:=mc b;simp only[nQ]at d;exact⟨by omega,by omega,e.top⟩
structure G7 (w0 w:World)(A:Option Addr)(r cp:Nat):Prop where
 res:af w w0.heap.size 28 #[.string ⟨#[]⟩,.bool false,.slice none 0 0]
 opn:af w (w0.heap.size+1) 256 #[.slice A r cp]
 who:∃z0 z1 z2,af w (w0.heap.size+2) 28 #[z0,z1,z2]
 bel:Below w0.heap.size w0 w
 siz:w0.heap.size+3<=w.heap.size
 le:r<=cp
 mx:cp<=9223372036854775807
theorem G7.below {c w w':World}{A:Option Addr}{r d:Nat}(h:G7 c w A r d)(b:Below (c.heap.size+3) w w'):G7 c w' A r d:=by
 obtain⟨z0,e,z2,hz⟩:=h.who;exact⟨h.res.ag b (by omega),h.opn.ag b (by omega),⟨z0,e,z2,hz.ag b (by omega)⟩,h.bel.trans (b.mono (by omega)),zF h.siz b.size,h.le,h.mx⟩
theorem G7.store {b w:World}{A e:Option Addr}{r j d c:Nat}(h:G7 b w A r j)(l:d<=c)(k:c<=9223372036854775807):G7 b (w.setCell ⟨b.heap.size+1,0,none⟩ (.slice e d c)) e d c:=by
 obtain⟨z0,i,z2,hz⟩:=h.who;refine⟨h.res.dK (p:=⟨b.heap.size+1,0,none⟩) (by simp) _,h.opn.set 0 _,⟨z0,i,z2,hz.dK (p:=⟨b.heap.size+1,0,none⟩) (by simp) _⟩,h.bel.setCell (by simp) _,by have:=h.siz;simp[World.setCell];omega,l,k⟩
theorem G7.only {b w w':World}{A:Option Addr}{r i:Nat}(h:G7 b w A r i)(c:ae [b.heap.size+2] w w'){j e d:Value}(hz:af w' (b.heap.size+2) 28 #[j,e,d]):G7 b w' A r i:=
 ⟨h.res.only c (by simp),h.opn.only c (by simp),⟨j,e,d,hz⟩,h.bel.trans (c.below h.bel.size (by simp)),zF h.siz c.size,h.le,h.mx⟩
def r8 (w:World)(lo:Nat)(A:Option Addr)(cp:Nat)(fs:List (List It×Nat)):Prop:=fs= []\/∃g vs,A=some ⟨g,0,none⟩/\tp w lo w.heap.size g cp fs vs
theorem r8.below {w w':World}{lo:Nat}{A:Option Addr}{c:Nat}{d:List (List It×Nat)}(h:r8 w lo A c d)(b:Below w.heap.size w w'):r8 w' lo A c d:=by
 rcases h with h|⟨g,vs,h1,h2⟩
 ·exact .inl h
 have e:=h2.below b;exact .inr ⟨g,vs,h1,⟨e.row,e.rds.up b.size,zd _⟩⟩
theorem r8.only {w w':World}{lo:Nat}{A:Option Addr}{b:Nat}{c:List (List It×Nat)}{L:List Nat}(h:r8 w lo A b c)(d:ae L w w')(i:∀k,k∈L->k<lo):r8 w' lo A b c:=by
 rcases h with h|⟨g,vs,h1,h2⟩
 ·exact .inl h
 have e:=h2.only d i;exact .inr ⟨g,vs,h1,⟨e.row,e.rds.up d.size,zd _⟩⟩
def QG (w0 w:World)(x:It):Prop:=∃c0 c1 c2,af w (w0.heap.size+2) 28 #[c0,c1,c2]/\gq w (w0.heap.size+3<= ·) x c0 c1 c2
