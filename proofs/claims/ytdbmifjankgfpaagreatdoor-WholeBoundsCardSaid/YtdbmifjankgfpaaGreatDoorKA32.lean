/- The stack of rlp.Put: lists whose bytes are being laid. Own text; no program in sight but the types' numbers. -/
import Derived.WalkSmall
import Derived.Test.YtdbmifjankgfpaaGreatDoorKA7
set_option linter.all false
set_option maxRecDepth 100000
set_option maxHeartbeats 2000000
open Go.Proofs.Tryz
namespace Go.Proofs.YtdbmifjankgfpaaGreatDoor
open Go.RowKit
variable {w w':World}{g cap S hi d n m z k e B r i o base l:Nat}{D M:Int}{s:ByteArray}{A:Option Addr}{R:Rd}{acc:List It}{xs:List Value}{L:List Nat}{j:Value}
def Zq:=@ownsRow_setCell_other
theorem cl.ag {s:List It}(h:cl w B s A i)(d:∀p:Addr,p.block<B->w'.cell? p=w.cell? p):cl w' B s A i:=cl.GM fun j m=>by
 obtain⟨b,o,d0,d1,d2,e,c,l,k,n,hi⟩:=h.at_ j m;exact⟨b,o,d0,d1,d2,e,c,(d _ c).trans l,(d _ c).trans k,(d _ c).trans n,dX.ag (zg _) d _ hi⟩
theorem cl.tail {b:Nat}:∀{s:List It} {i:Nat},cl w B s (some ⟨b,o,none⟩) (i+1)->cl w B s (some ⟨b,o+3,none⟩) i
 | [],_,_=>trivial
 |x::xs,i,h=>by
  obtain⟨⟨r,q,e,j,d,c,p,k,l,n,hi⟩,m⟩:=h;injection c with c;injection c with A7 ho;subst A7;subst ho;refine⟨⟨b,o+3,e,j,d,rfl,p, ?_, ?_, ?_,hi⟩,cl.tail m⟩
  ·rw[show o+3+i*3=o+(i+1)*3 from by omega];exact k
  ·rw[show o+3+i*3+1=o+(i+1)*3+1 from by omega];exact l
  rw[show o+3+i*3+2=o+(i+1)*3+2 from by omega];exact n
def Uc (w:World)(S:Nat)(f:List It×List UInt8)(v:Value×Value):Prop:=
 (∃A cap,v.1= .slice A f.1.length cap/\f.1.length<=cap/\cap<=9223372036854775807/\cl w S f.1 A 0)/\bF w S 5 v.2 f.2
def Lays (w:World)(S:Nat):List (List It×List UInt8)->List (Value×Value)->Prop
 | [],[]=>True
 |f::fs,v::vs=>Uc w S f v/\(∀u∈vs,∀g,v.2.ownBlock=some g->u.2.ownBlock≠some g)/\Lays w S fs vs
 |_,_=>False
def dY :List (Value×Value)->List Value
 | []=> []
 |v::vs=>dY vs++ [v.1,v.2]
theorem cm (b:List (Value×Value)):(dY b).length=b.length*2:=by
 induction b with
 |nil=>rfl
 |cons v b ih=>simp[dY,ih];omega
theorem Lays.length :∀{b:List (List It×List UInt8)} {c:List (Value×Value)},Lays w S b c->c.length=b.length
 | [],[],_=>rfl
 |f::b,v::c,h=>by simp[Lays.length h.2.2]
theorem Uc.ag {f:List It×List UInt8}{v:Value×Value}(h:Uc w S f v)(hS:S<=w.heap.size)(d:∀k,k<w.heap.size->(k<S\/v.2.ownBlock=some k)->w'.heap[k]?=w.heap[k]?):Uc w' S f v:=by
 obtain⟨⟨A,cap,b,c,l,e⟩,i⟩:=h;exact⟨⟨A,cap,b,c,l,e.ag fun p j=>zG (d _ (by omega) (.inl j))⟩,i.ag fun k b c=>d k b (.inr c)⟩
theorem Lays.ag (hS:S<=w.heap.size):∀{e:List (List It×List UInt8)} {b:List (Value×Value)},Lays w S e b->(∀k,k<w.heap.size->(k<S\/∃u∈b,u.2.ownBlock=some k)->w'.heap[k]?=w.heap[k]?)->Lays w' S e b
 | [],[],_,_=>trivial
 |f::e,v::b,h,hk=>⟨h.1.ag hS fun k c d=>hk k c (d.imp id fun h=>⟨v,by simp,h⟩),h.2.1,Lays.ag hS h.2.2 fun k c d=>hk k c (d.imp id fun⟨u,hu,h⟩=>⟨u,by simp[hu],h⟩)⟩
theorem Lays.ge :∀{c:List (List It×List UInt8)} {b:List (Value×Value)},Lays w S c b->∀u∈b,∀g,u.2.ownBlock=some g->S<=g/\g<w.heap.size/\∃e d,w.heap[g]?=some (.cells e 5 d)
 | [],[],_,u,hu,_,_=>by cases hu
 |f::c,v::b,h,u,hu,g,hg=>by
  rcases xe.1 hu with rfl|hu
  ·exact h.1.2.ge g hg
  exact Lays.ge h.2.2 u hu g hg
structure Lay (w:World)(S g cap:Nat)(fs:List (List It×List UInt8))(vs:List (Value×Value)):Prop where
 row:w.ownsRow S 226 2 (.slice (some ⟨g,0,none⟩) fs.length cap) fs.length (dY vs)
 lays:Lays w S fs vs
theorem gI {size:Nat}{e:TypeId}(h:w.ownsRow base e size (.slice (some ⟨g,0,none⟩) n cap) n xs)(x:k<xs.length)(u:Value):
 (w.setCell ⟨g,k,none⟩ u).ownsRow base e size (.slice (some ⟨g,0,none⟩) n cap) n (xs.set k u):=by
 obtain⟨o,b⟩:=h;refine⟨by rw[Zh];exact o, ?_⟩;rcases b with⟨b,_⟩|⟨q,r,s,j,p,i,m,c,d,l⟩
 ·cases b
 cases j
 exact .inr ⟨g,cap,_,rfl,p,jr u i,m,c,by simpa using d,by rw[ZR,List.take_set,l]⟩
theorem dG {size:Nat}{e:TypeId}(h:w.ownsRow base e size (.slice (some ⟨g,0,none⟩) n cap) n xs):base<=g/\g<w.heap.size/\n<=cap/\cap<=9223372036854775807/\∃b,w.heap[g]?=some (.cells b e (0,0)):=by
 obtain⟨r,c⟩:=h;rcases c with⟨c,_⟩|⟨m,o,b,j,l,d,k,i,p,q⟩
 ·cases c
 cases j
 exact⟨l,yP d,k,by simpa[maxLen]using i,b,d⟩
theorem Lay.block {b:List (List It×List UInt8)}{d:List (Value×Value)}(h:Lay w S g cap b d):S<=g/\g<w.heap.size/\b.length<=cap/\cap<=9223372036854775807/\∃c,w.heap[g]?=some (.cells c 226 (0,0)):=dG h.row
theorem Lay.below {c:List (List It×List UInt8)}{d:List (Value×Value)}(h:Lay w S g cap c d)(hS:S<=w.heap.size)(b:Below w.heap.size w w'):Lay w' S g cap c d:=
 ⟨h.row.kept (cD b) (.inr (by simp[Value.ownBlock])),h.lays.ag hS fun k e _=>b.block k e⟩
theorem Lay.top {f:List It×List UInt8}{b:List (List It×List UInt8)}{v:Value×Value}{c:List (Value×Value)}(h:Lay w S g cap (f::b) (v::c)):
 w.cell? ⟨g,b.length*2,none⟩=some v.1/\w.cell? ⟨g,b.length*2+1,none⟩=some v.2/\w.frozen? ⟨g,b.length*2,none⟩=false/\w.frozen? ⟨g,b.length*2+1,none⟩=false/\(∀i,v.2.ownBlock≠some i\/i≠g):=by
 have m:=h.lays.2.2.length;have p:=cm c;have l:∀j,(⟨g,0,none⟩:Addr).add j=⟨g,j,none⟩:=by intro j;unfold Addr.add;split<;>simp_all
 obtain⟨q,n,_,_,o,d⟩:=h.block;have e:=h.row.cells (g:=g) rfl (b.length*2) v.1 (by
  show(dY c++ [v.1,v.2])[b.length*2]?=_
  rw[yo (by omega),show b.length*2-(dY c).length=0 from by omega];rfl)
 have k:=h.row.cells (g:=g) rfl (b.length*2+1) v.2 (by
  show(dY c++ [v.1,v.2])[b.length*2+1]?=_
  rw[yo (by omega),show b.length*2+1-(dY c).length=1 from by omega];rfl)
 rw[l]at e k;refine⟨e,k,eL d (.inl rfl),eL d (.inl rfl),fun i=> ?_⟩;by_cases hi:i=g
 ·left;subst hi;exact bF.cy h.lays.1.2 d (by decide)
 exact .inr hi
theorem Ja (b:List (Value×Value))(v:Value×Value)(u:Value)(k:Nat)(c:k=b.length*2):(dY (v::b)).set (k+1) u=dY ((v.1,u)::b):=by
 subst c;show(dY b++ [v.1,v.2]).set _ u=dY b++ [v.1,u]
 rw[xz _ _ (by rw[cm];omega),cm,show b.length*2+1-b.length*2=1 from by omega];rfl
theorem wu (b:List (Value×Value))(v:Value×Value)(u:Value)(k:Nat)(c:k=b.length*2):(dY (v::b)).set k u=dY ((u,v.2)::b):=by
 subst c;show(dY b++ [v.1,v.2]).set _ u=dY b++ [u,v.2]
 rw[xz _ _ (by rw[cm];omega),cm,ZK];rfl
theorem bM {p:Addr}{u:Value}(h:k≠p.block):(w.setCell p u).heap[k]?=w.heap[k]?:=by
 simp[World.setCell,Zs,xF h]
theorem Lay.bytes {s:World}{xs:List It}{b E:List UInt8}{q:List (List It×List UInt8)}{y o d:Value}{x:List (Value×Value)}(h:Lay w S g cap ((xs,b)::q) ((y,o)::x))(hS:S<=w.heap.size)
 (n:lF w s o d) (G:bF s S 5 d E):Lay (s.setCell ⟨g,q.length*2+1,none⟩ d) S g cap ((xs,E)::q) ((y,d)::x):=by
 have W:=h.lays.2.2.length;obtain⟨Z,O,_,_,X,H⟩:=h.block;have C:o.ownBlock≠some g:=by
  rcases h.top.2.2.2.2 g with h|h
  ·exact h
  exact absurd rfl h
 have N:d.ownBlock≠some g:=by
  rcases n.own with e|⟨i,e,hi⟩
  ·rw[e];exact C
  rw[e];intro r;injection r with r;omega
 have z:=gI (k:=q.length*2+1) (h.row.kept n.grown (.inr (by simp only[Value.ownBlock];exact xF C))) (by rw[cm];simp;omega) d;rw[Ja x (y,o) d _ (by omega)]at z;refine⟨z,⟨⟨?_, ?_⟩, ?_, ?_⟩⟩
 ·obtain⟨⟨A,c,K,r,J,I⟩,_⟩:=h.lays.1;refine⟨A,c,K,r,J,I.ag fun p U=>zG ?_⟩;rw[bM (by simp;omega),n.block (by omega) (fun e=>by have:=(h.lays.1.2.ge _ e).1;omega)]
 ·refine G.ag fun k F M=>bM ?_
  intro e;simp only at e;subst e;exact N M
 ·intro u hu i hi B;rcases n.own with e|⟨j,e,hj⟩
  ·exact h.lays.2.1 u hu i (by rw[<-e];exact hi) B
  have l:=(h.lays.2.2.ge u hu i B).2.1;have hi:d.ownBlock=some i:=hi;rw[e]at hi;injection hi with hi;omega
 refine h.lays.2.2.ag hS fun k F D=> ?_
 have L:k≠g:=by
  rcases D with l|⟨u,hu,l⟩
  ·omega
  rintro rfl;obtain⟨_,_,R,Y,m⟩:=h.lays.2.2.ge u hu k l;rw[H]at m;injection m with m;injection m with _ m;exact absurd m (by decide)
 rw[bM (by simpa using L),n.block F (fun e=> ?_)];rcases D with l|⟨u,hu,l⟩
 ·have:=(h.lays.1.2.ge _ e).1;omega
 exact h.lays.2.1 u hu k e l
theorem Lay.items {xs xs':List It}{b:List UInt8}{i:List (List It×List UInt8)}{n e:Value}{j:List (Value×Value)}(h:Lay w S g cap ((xs,b)::i) ((n,e)::j))(hS:S<=w.heap.size)
  {c:Nat} (z:xs'.length<=c) (x:c<=9223372036854775807) (s:cl w S xs' A 0):Lay (w.setCell ⟨g,i.length*2,none⟩ (.slice A xs'.length c)) S g cap ((xs',b)::i) ((.slice A xs'.length c,e)::j):=by
 have E:=h.lays.2.2.length;obtain⟨H,B,_,_,F,q⟩:=h.block;have o:=gI (k:=i.length*2) h.row (by rw[cm];simp;omega) (.slice A xs'.length c);rw[wu j (n,e) _ _ (by omega)]at o;have m:∀k,k<S\/(∃u∈(n,e)::j,u.2.ownBlock=some k)->k≠g:=by
  intro k l;rcases l with h1|⟨u,hu,h1⟩
  ·omega
  rintro rfl;obtain⟨_,_,C,G,d⟩:=Lays.ge h.lays u hu k h1;rw[q]at d;injection d with d;injection d with _ d;exact absurd d (by decide)
 refine⟨o,⟨⟨⟨A,c,rfl,z,x,s.ag fun p r=>zG (bM (by simpa using m _ (.inl r)))⟩,h.lays.1.2.ag fun k _ y=>bM (by simpa using m _ (.inr ⟨_,by simp,y⟩))⟩,h.lays.2.1,h.lays.2.2.ag hS fun k D l=>bM (by simpa using m _ (l.imp id fun⟨u,hu,h⟩=>⟨u,by simp[hu],h⟩))⟩⟩
theorem Lay.push {d:List (List It×List UInt8)}{j:List (Value×Value)}(h:Lay w S g cap d j)(hS:S<=w.heap.size){s:List It}{c:Nat}(q:s.length<=c)(y:c<=9223372036854775807)(x:cl w S s A 0)
 (o:w'.ownsRow S 226 2 (.slice (some ⟨l,0,none⟩) (d.length+1) m) (d.length+1) (dY j++ [.slice A s.length c,.slice none 0 0])) (n:w.grownBy w' (some g)):
 Lay w' S l m ((s,[])::d) ((.slice A s.length c,.slice none 0 0)::j):=by
 obtain⟨H,C,_,_,F,r⟩:=h.block;refine⟨o,⟨⟨⟨A,c,rfl,q,y,x.ag fun p E=>zG (n.block _ (by omega) (by simp;omega))⟩,bF.nil _ _ _⟩,(fun u _ i hi=>by cases hi),h.lays.ag hS fun k B z=>n.block k B ?_⟩⟩;intro e;injection e with e;rcases z with h1|⟨u,hu,h1⟩
 ·omega
 subst e;obtain⟨_,_,D,G,b⟩:=h.lays.ge u hu k h1;rw[r]at b;injection b with b;injection b with _ b;exact absurd b (by decide)
theorem Lay.pop {f:List It×List UInt8}{b:List (List It×List UInt8)}{v:Value×Value}{c:List (Value×Value)}(h:Lay w S g cap (f::b) (v::c)):Lay w S g cap b c:=
 ⟨ownsRow_pop (by rw[cm,h.lays.2.2.length]) h.row,h.lays.2.2⟩
def mI (w:World)(k:Nat):Prop:=∀cs fr,w.heap[k]?≠some (.cells cs 259 fr)
theorem mI.of_eq (h:mI w k)(e:w'.heap[k]?=w.heap[k]?):mI w' k:=by
 intro c b;rw[e];exact h c b
theorem mI.KZ {c:Array Value}{t:TypeId}{b:Nat×Nat}(h:w.heap[k]?=some (.cells c t b))(d:t≠259):mI w k:=by
 intro i j e;rw[h]at e;injection e with e;injection e with _ e;exact d e
def Xz (w:World)(m hi:Nat)(f:List It×Nat)(v:Value×Value):Prop:=
 v.2= .int .i64 f.2/\(∀g,v.1.ownBlock=some g->g<hi)/\∃cs,w.ownsRow m 28 3 v.1 f.1.length cs/\gj w (fun k=>m<=k/\k<hi/\v.1.ownBlock≠some k/\mI w k) f.1 cs
def Nl (w:World)(lo:Nat):Nat->List (List It×Nat)->List (Value×Value)->Prop
 |_,[],[]=>True
 |hi,f::fs,v::vs=>∃m,lo<=m/\m<=hi/\Xz w m hi f v/\Nl w lo m fs vs
 |_,_,_=>False
theorem Nl.length :∀{b:List (List It×Nat)} {c:List (Value×Value)} {hi:Nat},Nl w d hi b c->c.length=b.length
 | [],[],_,_=>rfl
 |f::b,v::c,hi,h=>by
  obtain⟨m,_,_,_,h⟩:=h;simp[Nl.length h]
theorem Xz.ag {f:List It×Nat}{v:Value×Value}(h:Xz w m hi f v)(l:hi<=d)(c:∀k,m<=k->k<hi->k<w.heap.size->mI w k->w'.heap[k]?=w.heap[k]?):Xz w' m d f v:=by
 obtain⟨o,e,n,i,s⟩:=h;refine⟨o,fun g b=>zU (e g b) l,n,⟨i.1, ?_⟩,s.ag (fun k j hS=>⟨hS.1,by omega,hS.2.2.1,hS.2.2.2.of_eq (c k hS.1 hS.2.1 j hS.2.2.2)⟩) fun p q hS=>zG (c _ hS.1 hS.2.1 q hS.2.2.2)⟩;rcases i.2 with h5|⟨g,cap,cur,hv,b,hh',r⟩
 ·exact .inl h5
 exact .inr ⟨g,cap,cur,hv,b,(c g b (e g (by rw[hv];rfl)) (yP hh') (mI.KZ hh' (by decide))).trans hh',r⟩
theorem Nl.ag :∀{d:List (List It×Nat)} {c:List (Value×Value)} {hi:Nat},Nl w e hi d c->(∀k,e<=k->k<hi->k<w.heap.size->mI w k->w'.heap[k]?=w.heap[k]?)->Nl w' e hi d c
 | [],[],_,_,_=>trivial
 |f::d,v::c,hi,h,hk=>by
  obtain⟨m,j,l,n,i⟩:=h;exact⟨m,j,l,n.ag (zg _) fun k a b=>hk k (by omega) b,Nl.ag i fun k a b=>hk k a (by omega)⟩
theorem Nl.up {c:List (List It×Nat)}{b:List (Value×Value)}(h:Nl w e hi c b)(l:hi<=d):Nl w e d c b:=by
 match c,b,h with
 | [],[],_=>trivial
 |f::c,v::b,h=>
  obtain⟨m,j,n,k,i⟩:=h;exact⟨m,j,by omega,k.ag l fun _ _ _ _ _=>rfl,i⟩
structure tp (w:World)(lo hi g cap:Nat)(fs:List (List It×Nat))(vs:List (Value×Value)):Prop where
 row:w.ownsRow lo 259 2 (.slice (some ⟨g,0,none⟩) fs.length cap) fs.length (dY vs)
 rds:Nl w lo hi fs vs
 le:hi<=w.heap.size
theorem tp.block {b:Nat}{c:List (List It×Nat)}{e:List (Value×Value)}(h:tp w b hi g cap c e):b<=g/\g<w.heap.size/\c.length<=cap/\cap<=9223372036854775807/\∃d,w.heap[g]?=some (.cells d 259 (0,0)):=dG h.row
theorem tp.below {d:List (List It×Nat)}{c:List (Value×Value)}(h:tp w e hi g cap d c)(b:Below w.heap.size w w'):tp w' e hi g cap d c:=
 ⟨h.row.kept (cD b) (.inr (by simp[Value.ownBlock])),h.rds.ag fun k _ _ i _=>b.block k i,zF h.le b.size⟩
theorem tp.only {j:List (List It×Nat)}{i:List (Value×Value)}(h:tp w d hi g cap j i)(c:ae L w w')(e:∀k,k∈L->k<d):tp w' d hi g cap j i:=by
 obtain⟨p,l,_,_,n,q⟩:=h.block;refine⟨⟨h.row.1, ?_⟩,h.rds.ag fun k o _ m _=>c.block k m fun b=>by have:=e k b;omega,zF h.le c.size⟩;rcases h.row.2 with h2|⟨g',aq,sm,hv,hb,hh',r⟩
 ·exact .inl h2
 injection hv with Lu kD Ed;injection Lu with Lu;injection Lu with Lu;subst Lu;exact .inr ⟨g,aq,sm,by rw[Ed],hb,(c.block g l fun b=>by have:=e g b;omega).trans hh',r⟩
theorem tp.top {f:List It×Nat}{b:List (List It×Nat)}{v:Value×Value}{c:List (Value×Value)}(h:tp w o hi g cap (f::b) (v::c)):
 w.cell? ⟨g,b.length*2,none⟩=some v.1/\w.cell? ⟨g,b.length*2+1,none⟩=some (.int .i64 f.2)/\w.frozen? ⟨g,b.length*2,none⟩=false/\w.frozen? ⟨g,b.length*2+1,none⟩=false:=by
 obtain⟨m,_,_,l,k⟩:=h.rds;have p:=k.length;have s:=cm c;have n:∀j,(⟨g,0,none⟩:Addr).add j=⟨g,j,none⟩:=by intro j;unfold Addr.add;split<;>simp_all
 obtain⟨u,q,_,_,r,i⟩:=h.block;have e:=h.row.cells (g:=g) rfl (b.length*2) v.1 (by
  show(dY c++ [v.1,v.2])[b.length*2]?=_
  rw[yo (by omega),show b.length*2-(dY c).length=0 from by omega];rfl)
 have d:=h.row.cells (g:=g) rfl (b.length*2+1) v.2 (by
  show(dY c++ [v.1,v.2])[b.length*2+1]?=_
  rw[yo (by omega),show b.length*2+1-(dY c).length=1 from by omega];rfl)
 rw[n]at e d;rw[l.1]at d;exact⟨e,d,eL i (.inl rfl),eL i (.inl rfl)⟩
theorem tp.pop {b:Nat}{f:List It×Nat}{e:List (List It×Nat)}{v:Value×Value}{d:List (Value×Value)}(h:tp w b hi g cap (f::e) (v::d)):
 ∃m,b<=m/\m<=hi/\Xz w m hi f v/\tp w b m g cap e d:=by
 obtain⟨m,j,i,k,c⟩:=h.rds;exact⟨m,j,i,k,⟨ownsRow_pop (by rw[cm,c.length]) h.row,c,zF i h.le⟩⟩
theorem Xz.list {q:Nat}{v:Value×Value}(h:Xz w m hi (acc,q) v)(e:acc.length<=9223372036854775807):
 ∃A cap,v.1= .slice A acc.length cap/\acc.length<=cap/\cap<=9223372036854775807/\∀c,acc.length<=c->c<=9223372036854775807->gz w (fun k=>m<=k/\mI w k) (gW acc) (.string ⟨#[]⟩) (.bool true) (.slice A acc.length c):=by
 obtain⟨_,E,D,l,o⟩:=h;rcases l.2 with⟨b,d⟩|⟨g,cap,C,i,x,B,s,n,_⟩
 ·have d:acc.length=0:=d;obtain rfl:acc= []:=zp d;exact⟨none,0,b,by simp,by simp,fun c _ z=>⟨rfl,rfl,yk _,e,none,c,rfl,yk _,z,trivial⟩⟩
 refine⟨some ⟨g,0,none⟩,cap,i,s,by simpa[maxLen]using n,fun c p r=>⟨rfl,rfl,yk _,e,some ⟨g,0,none⟩,c,rfl,p,r, ?_⟩⟩;refine nw.fj ⟨x,mI.KZ B (by decide)⟩ (o.ag (fun k _ h=>⟨h.1,h.2.2.2⟩) (fun _ _ _=>rfl)) fun j u hu=> ?_
 have y:v.1.ownBlock=some g:=by rw[i];rfl
 have:=l.cells y j u hu;have b:(⟨g,0,none⟩:Addr).add j=⟨g,j,none⟩:=by unfold Addr.add;split<;>simp_all
 rw[b]at this;simpa using this
theorem tp.push {b:List (List It×Nat)}{j:List (Value×Value)}(h:tp w d hi g cap b j)(i:Nat)
 (n:w'.ownsRow d 259 2 (.slice (some ⟨l,0,none⟩) (b.length+1) m) (b.length+1) (dY j++ [.slice none 0 0,.int .i64 i])) (c:w.grownBy w' (some g)) (o:d<=hi):
 tp w' d w'.heap.size l m (([],i)::b) ((.slice none 0 0,.int .i64 i)::j):=by
 obtain⟨u,s,_,_,x,r⟩:=h.block;refine⟨n,⟨hi,o,zF h.le c.size,⟨rfl,(fun g c=>by cases c),[],World.ownsRow_nil _ _ _ _,rfl⟩,h.rds.ag fun k _ _ q p=>c.block k q ?_⟩,zg _⟩;intro e;injection e with e;subst e;exact p _ _ r
theorem tp.first {b:Nat}(c:Nat)(d:w.ownsRow b 259 2 (.slice (some ⟨g,0,none⟩) 1 cap) 1 [.slice none 0 0,.int .i64 c])(e:b<=w.heap.size):tp w b w.heap.size g cap [([],c)] [(.slice none 0 0,.int .i64 c)]:=
 ⟨d,⟨b,zg _,e,⟨rfl,(fun g h=>by cases h),[],World.ownsRow_nil _ _ _ _,rfl⟩,trivial⟩,zg _⟩
theorem tp.added {l:World}{b u:Nat}{O:Nat}{d:List (List It×Nat)}{c x:Value}{A:List (Value×Value)}{s:List Value}{z0 M R n i:Value}{y:It}
 (Ad:w.ownsRow B 259 2 (.slice (some ⟨g,0,none⟩) (d.length+1) cap) (d.length+1) (dY ((c,x)::A))) (ag:hi<=w.heap.size) (gP:B<=m) (sn:m<=hi) (Lu:x= .int .i64 O) (N:∀g,c.ownBlock=some g->g<hi)
 (J:w.ownsRow m 28 3 c acc.length s) (sC:gj w (fun k=>m<=k/\k<hi/\c.ownBlock≠some k/\mI w k) acc s) (Z:Nl w B m d A) (hy:gz w (fun k=>hi<=k/\mI w k) y n j i)
 (L:w.grownBy l c.ownBlock) (W:l.ownsRow m 28 3 (.slice (some ⟨b,0,none⟩) (acc.length+1) u) (acc.length+1) (s++ [z0,M,R])) (D:c.ownBlock=some b\/w.heap.size<=b):
 tp ((((l.setCell ⟨b,acc.length*3,none⟩ n).setCell ⟨b,acc.length*3+1,none⟩ j).setCell ⟨b,acc.length*3+2,none⟩ i).setCell ⟨g,d.length*2,none⟩ (.slice (some ⟨b,0,none⟩) (acc.length+1) u)) B l.heap.size g cap ((acc++ [y],O)::d) ((.slice (some ⟨b,0,none⟩) (acc.length+1) u,x)::A):=by
 have hl:=Z.length;obtain⟨Lz,pC,ad,Cy,ae,F⟩:=dG Ad;have ab:=J.1;have U:c.ownBlock≠some g:=by
  intro e;rcases J.2 with⟨H,_⟩|⟨g2,cC,Y3,I,_,r,_⟩
  ·rw[H]at e;cases e
  rw[I]at e;have:g2=g:=by simpa[Value.ownBlock]using e
  subst this;rw[F]at r;injection r with r;injection r with _ r;exact absurd r (by decide)
 have aa:b≠g:=by
  rcases D with e|e
  ·intro o;exact U (by rw[e,o])
  omega
 have Y:=gI (gI (gI W (k:=acc.length*3) (by simp;omega) n) (k:=acc.length*3+1) (by simp;omega) j) (k:=acc.length*3+2) (by simp;omega) i;have SO:(((s++ [z0,M,R]).set (acc.length*3) n).set (acc.length*3+1) j).set (acc.length*3+2) i=s++ [n,j,i]:=by
  rw[<-ab,xz _ _ (by omega),xz _ _ (by omega),xz _ _ (by omega)];simp
 rw[SO]at Y;have z:∀k,k<w.heap.size->c.ownBlock≠some k->k≠g->((((l.setCell ⟨b,acc.length*3,none⟩ n).setCell ⟨b,acc.length*3+1,none⟩ j).setCell ⟨b,acc.length*3+2,none⟩ i).setCell ⟨g,d.length*2,none⟩ (.slice (some ⟨b,0,none⟩) (acc.length+1) u)).heap[k]?=w.heap[k]?:=by
  intro k h K h2;have C:k≠b:=by
   rcases D with e|e
   ·intro o;exact K (by rw[e,o])
   omega
  rw[bM (by simpa using h2),bM (by simpa using C),bM (by simpa using C),bM (by simpa using C)];exact L.block k h (fun e=>K e.symm)
 have eX:((((l.setCell ⟨b,acc.length*3,none⟩ n).setCell ⟨b,acc.length*3+1,none⟩ j).setCell ⟨b,acc.length*3+2,none⟩ i).setCell ⟨g,d.length*2,none⟩ (.slice (some ⟨b,0,none⟩) (acc.length+1) u)).heap.size=l.heap.size:=by simp[World.setCell]
 have JG:=L.size;have af:b<l.heap.size:=(dG W).2.1;have SR:l.ownsRow B 259 2 (.slice (some ⟨g,0,none⟩) (d.length+1) cap) (d.length+1) (dY ((c,x)::A)):=Ad.kept L (.inr (by simp only[Value.ownBlock];exact xF U));have Gn:=Zq (Zq (Zq SR (a:=⟨b,acc.length*3,none⟩) (by simp[Value.ownBlock];omega) n) (a:=⟨b,acc.length*3+1,none⟩) (by simp[Value.ownBlock];omega) j) (a:=⟨b,acc.length*3+2,none⟩) (by simp[Value.ownBlock];omega) i;have X:=gI Gn (k:=d.length*2) (by rw[cm];simp;omega) (.slice (some ⟨b,0,none⟩) (acc.length+1) u);rw[wu A (c,x) _ _ (by omega)]at X;refine⟨X,⟨m,gP,by omega,⟨Lu, ?_,s++ [n,j,i], ?_, ?_⟩, ?_⟩,by rw[eX];exact zg _⟩
 ·intro g2 ri;have:b=g2:=by simpa[Value.ownBlock]using ri
  omega
 ·rw[zl];exact Zq Y (a:=⟨g,d.length*2,none⟩) (by simp[Value.ownBlock];exact aa) _
 ·have G:∀k,k<w.heap.size->(hi<=k/\mI w k)->(c.ownBlock≠some k/\k≠g):=fun k h hS=>⟨fun e=>by have:=N _ e;omega,by rintro rfl;exact hS.2 _ _ F⟩
  have E:∀k,k<w.heap.size->(m<=k/\k<hi/\c.ownBlock≠some k/\mI w k)->(c.ownBlock≠some k/\k≠g):=fun k h hS=>⟨hS.2.2.1,by rintro rfl;exact hS.2.2.2 _ _ F⟩
  refine gj.snoc (gz.ag (w:=w) (S:=fun k=>hi<=k/\mI w k) (fun k h hS=> ?_) (fun p q hS=> ?_) y hy) (sC.ag (fun k h hS=> ?_) fun p q hS=> ?_)
  ·refine⟨by omega,by omega, ?_,hS.2.of_eq (z k h (G k h hS).1 (G k h hS).2)⟩;intro e;have e:b=k:=by simpa[Value.ownBlock]using e
   rcases D with o|o
   ·have:=N _ o;omega
   omega
  ·exact zG (z _ q (G _ q hS).1 (G _ q hS).2)
  ·refine⟨hS.1,by omega, ?_,hS.2.2.2.of_eq (z k h (E k h hS).1 (E k h hS).2)⟩;intro e;have e:b=k:=by simpa[Value.ownBlock]using e
   rcases D with o|o
   ·exact hS.2.2.1 (by rw[o,e])
   omega
  exact zG (z _ q (E _ q hS).1 (E _ q hS).2)
 refine Z.ag fun k K h2 C h4=>z k C (fun e=> ?_) (by rintro rfl;exact h4 _ _ F)
 rcases J.2 with⟨H,_⟩|⟨g2,cC,Y3,I,aO,_⟩
 ·rw[H]at e;cases e
 rw[I]at e;have:g2=k:=by simpa[Value.ownBlock]using e
 omega
theorem l5 {a b:Addr}(h:a.block≠b.block)(x y:Value):(w.setCell a x).setCell b y=(w.setCell b y).setCell a x:=by
 unfold World.setCell;dsimp only;congr 1
 apply Array.ext
 ·simp
 intro i j k;simp only[Array.getElem_modify];by_cases c:a.block=i
 ·have d:¬b.block=i:=fun e=>h (c.trans e.symm)
  simp[c,d]
 simp[c]
theorem rW {ops:Array Oper}{o:Oper}{a:Act}{K:Act->World->Prop}{Q:Exit->Act->World->Prop}{z:Prop}(J:o.guard=none)(s x:Operand)
 (O:o.op= .call {callee:= .builtin .append,args:= #[s,x],argTypes:= #[26,26]}) (m n:Nat) {v:Value} {e:List Value} (L:a.eval s=v) (p:w.ownsRow m 28 3 v n e) (B:Nat)
 (hx:a.eval x= .slice (some ⟨B,0,none⟩) 1 1) (F:af w B 28 #[.string ⟨#[]⟩,.bool false,.slice none 0 0]) (R:n<=1000000) (C:m<=w.heap.size)
 (G:∀b c w',Hid (w'.ownsRow m 28 3 (.slice (some ⟨b,0,none⟩) (n+1) c) (n+1) (e++ [.string ⟨#[]⟩,.bool false,.slice none 0 0]))->Hid (w.grownBy w' v.ownBlock)->Hid (v.ownBlock=some b\/w.heap.size<=b)->n+1<=c->c<=9223372036854775807->
  w'.cell? ⟨b,n*3,none⟩=some (.string ⟨#[]⟩)->w'.cell? ⟨b,n*3+1,none⟩=some (.bool false)->w'.cell? ⟨b,n*3+2,none⟩=some (.slice none 0 0)->
  w'.frozen? ⟨b,n*3,none⟩=false->w'.frozen? ⟨b,n*3+1,none⟩=false->w'.frozen? ⟨b,n*3+2,none⟩=false->K (a.put o.dst (.slice (some ⟨b,0,none⟩) (n+1) c)) w'):
 if Region.wanted o (yielded ops a.tmps)=true then Oper.wp prog o a w K Q else z:=by
 obtain⟨i0,hi,y,I,H⟩:=yH Ca;refine step_append_lies w J s x 26 O m 28 i0 _ 3 48 underlying26 hi y I H rfl (by decide) v n e L p ⟨B,0,none⟩ 1 1 [.string ⟨#[]⟩,.bool false,.slice none 0 0] hx rfl ?_ ?_ (by decide) (by simp only[maxLen];omega) (by omega) C w.heap.size rfl ?_
 ·exact fun j u hu=>ZF F j u (by simpa using hu)
 ·intro u hu;simp at hu;rcases hu with rfl|rfl|rfl<;>rfl
 intro b c w' d A E S;obtain⟨_,_,D,M,U,i⟩:=dG d;have k:=p.1;have N:∀j,(⟨b,0,none⟩:Addr).add j=⟨b,j,none⟩:=by intro j;unfold Addr.add;split<;>simp_all
 have l:=d.cells (g:=b) rfl (n*3) (.string ⟨#[]⟩) (by rw[yo (by omega),k,ZK];rfl);have q:=d.cells (g:=b) rfl (n*3+1) (.bool false) (by rw[yo (by omega),k,show n*3+1-n*3=1 from by omega];rfl);have r:=d.cells (g:=b) rfl (n*3+2) (.slice none 0 0) (by rw[yo (by omega),k,show n*3+2-n*3=2 from by omega];rfl);rw[N]at l q r;exact G b c w' (za d) (za A) (za (E.imp id fun h=>by omega)) D M l q r (eL i (.inl rfl)) (eL i (.inl rfl)) (eL i (.inl rfl))
theorem FQ (W:World)(h b:Nat)(A:Option Addr)(i:Nat)(t:ByteArray)(l:Bool)(j:Option Addr)(n2 k2:Nat)(p k n:Value)(u:i<=9223372036854775807)(c:af W h 256 #[.slice A 0 i])(d:af W b 28 #[p,k,n])(q:h≠b):
 Calls prog 211 #[.agg #[.string t,.bool l,.slice j n2 k2],.pointer (some ⟨h,0,none⟩),.pointer (some ⟨b,0,none⟩)] W fun e w'=>e= .returned (.tuple #[])/\af w' b 28 #[.string t,.bool l,.slice j n2 k2]/\ae [b] W w':=by
 have o:=c.cell 0;have o:W.cell? ⟨h,0,none⟩=some (.slice A 0 i):=c.cell 0;have r:=c.lt;have s:=d.lt;obtain⟨g0,g1,g2,f0,f1,f2⟩:=a8 d;have m:=za d;clear c d;go_enter func211,ntmps211
 go_wp2;refine zj (v:= .tuple #[]) (results_none rfl _ _ _) rfl ⟨rfl,((((m.out.set 0 _).set 1 _).set 2 _).alloc _), ?_⟩;exact((((ae.refl [b] W).setCell (by simp) _).setCell (by simp) _).setCell (by simp) _).alloc _
theorem FR (W:World)(s hi g K b9 V8:Nat)(acc:List It)(F:Nat)(E:List (List It×Nat))(v0 v1:Value)(vs:List (Value×Value))(y:It)(c0 c1 c2:Value)
 (Z:af W b9 256 #[.slice (some ⟨g,0,none⟩) (E.length+1) K]) (u:tp W s hi g K ((acc,F)::E) ((v0,v1)::vs)) (hy:gz W (fun k=>hi<=k/\mI W k) y c0 c1 c2) (aa:acc.length<=1000000):
 Calls prog 211 #[.agg #[c0,c1,c2],.pointer (some ⟨b9,0,none⟩),.pointer (some ⟨V8,0,none⟩)] W fun e w'=>e= .returned (.tuple #[])/\Below s W w'/\∃RS,tp w' s w'.heap.size g K ((acc++ [y],F)::E) ((RS,v1)::vs):=by
 have HR:=za u;obtain⟨m,gP,X,⟨Lu,J,cs,B,sC⟩,JT⟩:=u.rds;obtain⟨Lz,pC,oh,av,aw,hh⟩:=u.block;obtain⟨t0,t1,LA,N'⟩:=u.top;have aj:=u.le;simp only[zx]at oh;dsimp only at Lu J B sC t0;have Cv:=za B;have JU:=za sC;have G3:=za JT;have DN:=za J;have HY:=za hy;have HF:Hid (∃A n cap,v0= .slice A n cap/\n=acc.length/\n<=cap/\cap<=9223372036854775807):=za (by
  rcases B.2 with⟨Y,O⟩|⟨g2,cC,Y3,kD,_,_,Lm,X,_⟩
  ·exact⟨none,0,0,Y,O.symm,by simp,by simp⟩
  exact⟨_,_,cC,kD,rfl,Lm,by simpa[maxLen]using X⟩)
 obtain⟨p,d,q,rfl,rh,D0,ax⟩:=HF.out;have L:=za rh;obtain⟨l,j,rfl,rfl,rfl,ot,aq,ar,_⟩:=hy.open_;have an:=Z.cell 0;have au:=Z.lt;obtain⟨r,S⟩:∃r,E.length=r:=⟨_,rfl⟩
 have D9:=za S;rw[S]at t0 t1 LA N' oh Z an;have ak:Hid (∀k,W.heap.size<=k->Value.ownBlock (.slice p d q)≠some k):=za (fun k hk e=>by have:=J k e;omega);have N:Hid (Value.ownBlock (.slice p d q)≠some g):=za (by
  intro e;rcases B.2 with⟨Y,_⟩|⟨g2,cC,Y3,kD,_,w,_⟩
  ·rw[Y]at e;cases e
  rw[kD]at e;have:g2=g:=by simpa[Value.ownBlock]using e
  subst this;rw[hh]at w;injection w with w;injection w with _ w;exact absurd w (by decide))
 subst Lu;clear sC JT J B hy u hh S rh;have ah:Hid (af (((W.alloc (.cells #[.string y.text,.bool y.list,.slice l y.sub.length j] 28)).drew).alloc (.cells #[.string ⟨#[]⟩,.bool false,.slice none 0 0] 28)) (W.heap.size+1) 28 #[.string ⟨#[]⟩,.bool false,.slice none 0 0]):=za (by have:=af.new (W.alloc (.cells #[.string y.text,.bool y.list,.slice l y.sub.length j] 28)).drew 28 #[.string ⟨#[]⟩,.bool false,.slice none 0 0];simpa using this);have wZ:Hid (af (((W.alloc (.cells #[.string y.text,.bool y.list,.slice l y.sub.length j] 28)).drew).alloc (.cells #[.string ⟨#[]⟩,.bool false,.slice none 0 0] 28)) W.heap.size 28 #[.string y.text,.bool y.list,.slice l y.sub.length j]):=za (((af.new W 28 #[.string y.text,.bool y.list,.slice l y.sub.length j]).drew).alloc _);have ab:Hid ((((W.alloc (.cells #[.string y.text,.bool y.list,.slice l y.sub.length j] 28)).drew).alloc (.cells #[.string ⟨#[]⟩,.bool false,.slice none 0 0] 28)).ownsRow m 28 3 (.slice p d q) acc.length cs):=za ((Cv.out.alloc _).drew.alloc _);have C:Hid (Below W.heap.size W (((W.alloc (.cells #[.string y.text,.bool y.list,.slice l y.sub.length j] 28)).drew).alloc (.cells #[.string ⟨#[]⟩,.bool false,.slice none 0 0] 28))):=za ((((zm W.heap.size W).alloc (zg _) _).drew).alloc (by simp) _);have U:Hid (g<(((W.alloc (.cells #[.string y.text,.bool y.list,.slice l y.sub.length j] 28)).drew).alloc (.cells #[.string ⟨#[]⟩,.bool false,.slice none 0 0] 28)).heap.size):=za (by simp;omega)
 have ad:Hid ((((W.alloc (.cells #[.string y.text,.bool y.list,.slice l y.sub.length j] 28)).drew).alloc (.cells #[.string ⟨#[]⟩,.bool false,.slice none 0 0] 28)).cell? ⟨g,r*2,none⟩=some (.slice p d q)/\(((W.alloc (.cells #[.string y.text,.bool y.list,.slice l y.sub.length j] 28)).drew).alloc (.cells #[.string ⟨#[]⟩,.bool false,.slice none 0 0] 28)).frozen? ⟨g,r*2,none⟩=false):=za ⟨(C.out.cell pC).trans t0,(C.out.frozen pC).trans LA⟩;have ai:Hid (∀i:Nat,(Value.ownBlock (.slice p d q)=some i\/(((W.alloc (.cells #[.string y.text,.bool y.list,.slice l y.sub.length j] 28)).drew).alloc (.cells #[.string ⟨#[]⟩,.bool false,.slice none 0 0] 28)).heap.size<=i)->i≠g):=za (fun i h e=>by
  subst e;rcases h with h|h
  ·exact N.out h
  have:=U.out;omega)
 have Y5:Hid (m<=(((W.alloc (.cells #[.string y.text,.bool y.list,.slice l y.sub.length j] 28)).drew).alloc (.cells #[.string ⟨#[]⟩,.bool false,.slice none 0 0] 28)).heap.size):=za (by simp;omega);rw[<-L.out]at aa;rw[<-L.out]at ab;have ao:(d:Int)<d+1:=by omega
 go_enter func211,ntmps211
 go_wp2_with fail
 go_region_law (refine rW (by rfl) (.tmp 17) (.tmp 20) (by rfl) m d (by rfl) ab.out (W.heap.size+1) (by rfl) ah.out aa Y5.out ?_;intro i D o OC z G Gp Bg q0 q1 q2 V9 al ae;obtain⟨x0,x1,x2,_⟩:=a8 (wZ.out.grown z.out (ak.out _ (zg _)));have e3:o.cell? ⟨g,r*2,none⟩=some (.slice p d q):=(z.out.cell_far ⟨g,r*2,none⟩ U.out (xF N.out)).trans ad.out.1;have e4:o.frozen? ⟨g,r*2,none⟩=false:=(z.out.frozen_far ⟨g,r*2,none⟩ U.out (xF N.out)).trans ad.out.2;have UU:i≠g:=ai.out i G.out;have R:g≠i:=xF UU)
 all_goals
  have HD:Hid (tp ((((o.setCell ⟨i,d*3,none⟩ (.string y.text)).setCell ⟨i,d*3+1,none⟩ (.bool y.list)).setCell ⟨i,d*3+2,none⟩ (.slice l y.sub.length j)).setCell ⟨g,r*2,none⟩ (.slice (some ⟨i,0,none⟩) (d+1) D)) s o.heap.size g K ((acc++ [y],F)::E) ((.slice (some ⟨i,0,none⟩) (d+1) D,.int .i64 F)::vs)):=za (by
   have I:=G.out;have H:=OC.out;rw[<-D9.out,L.out];rw[L.out]at H;exact tp.added HR.out.row aj gP X rfl DN.out Cv.out JU.out G3.out HY.out ((ko (cD C.out) _).trans z.out) H (I.imp id fun h=>zF C.out.size h))
  have G0:Hid (Below s W ((((o.setCell ⟨i,d*3,none⟩ (.string y.text)).setCell ⟨i,d*3+1,none⟩ (.bool y.list)).setCell ⟨i,d*3+2,none⟩ (.slice l y.sub.length j)).setCell ⟨g,r*2,none⟩ (.slice (some ⟨i,0,none⟩) (d+1) D))):=za (by
   have I:∀k,Value.ownBlock (.slice p d q)=some k->s<=k:=fun k hk=>zF gP (Cv.out.lt k hk).1
   have M:s<=i:=by
    rcases G.out with e|e
    ·exact I _ e
    have O:=e;simp at O;omega
   exact((((((C.out.mono (by omega)).grown z.out (by simp;omega) I).setCell (by simpa using M) _).setCell (by simpa using M) _).setCell (by simpa using M) _).setCell (by simpa using Lz) _))
  have ag:Hid (∀(v:World) (x a b c:Value),(((v.setCell ⟨g,r*2,none⟩ x).setCell ⟨i,d*3,none⟩ a).setCell ⟨i,d*3+1,none⟩ b).setCell ⟨i,d*3+2,none⟩ c=(((v.setCell ⟨i,d*3,none⟩ a).setCell ⟨i,d*3+1,none⟩ b).setCell ⟨i,d*3+2,none⟩ c).setCell ⟨g,r*2,none⟩ x):=za (fun v x a b c=>by rw[l5 (a:=⟨g,r*2,none⟩) (b:=⟨i,d*3,none⟩) R,l5 (a:=⟨g,r*2,none⟩) (b:=⟨i,d*3+1,none⟩) R,l5 (a:=⟨g,r*2,none⟩) (b:=⟨i,d*3+2,none⟩) R]);clear OC z G q0 q1 q2 V9 al ae x0 x1 x2 e3 e4;go_wp2;go_end0
  try rw[ag.out]
  refine⟨rfl,G0.out,.slice (some ⟨i,0,none⟩) (d+1) D, ?_⟩;have H:=HD.out;have hz:((((o.setCell ⟨i,d*3,none⟩ (.string y.text)).setCell ⟨i,d*3+1,none⟩ (.bool y.list)).setCell ⟨i,d*3+2,none⟩ (.slice l y.sub.length j)).setCell ⟨g,r*2,none⟩ (.slice (some ⟨i,0,none⟩) (d+1) D)).heap.size=o.heap.size:=by simp[World.setCell]
  rw[hz];exact H
def lq (z:Nat):List (List It×Nat)->Nat
 | []=>z
 |f::_=>f.2
def Ends (z:Nat):List (List It×Nat)->Prop
 | []=>True
 |f::fs=>f.2<=lq z fs/\Ends z fs
theorem Ends.top :∀{b:List (List It×Nat)},Ends z b->lq z b<=z
 | [],_=>zg _
 |f::b,h=>zF h.1 (Ends.top h.2)
def nJ :List (List It×Nat)->Nat
 | []=>0
 |f::fs=>f.1.length+1+nJ fs
theorem l6 :∀(b:List (List It×Nat)),b.length<=nJ b
 | []=>zg _
 |f::b=>by have:=l6 b;simp[nJ];omega
def rX (D M:Int)(s:ByteArray)(R:Rd)(b:Bool):List (List It×Nat)->Nat->Nat->Prop
 | [],at_,count=>b=true/\at_=0/\count=0/\bu D M s 1 0=R
 |(acc,en)::fs,at_,count=>b=false/\at_<en/\fin D M s acc en fs at_ count=R/\Ends s.size ((acc,en)::fs)/\nJ ((acc,en)::fs)<=count/\count<=1024
def qF (D M:Int)(s:ByteArray)(R:Rd):List (List It×Nat)->Nat->Nat->Prop
 | [],at_,_=>R.e=0/\R.size=at_
 |(acc,en)::fs,at_,count=>at_<=en/\fin D M s acc en fs at_ count=R/\Ends s.size ((acc,en)::fs)/\nJ ((acc,en)::fs)<=count/\count<=1024
theorem rX.le {b:Bool}{c:List (List It×Nat)}{at_ count:Nat}(h:rX D M s R b c at_ count):at_<=lq s.size c/\lq s.size c<=s.size/\count<=1024/\c.length<=1024/\(b=true↔c= []):=by
 match c,h with
 | [],h=>obtain⟨rfl,rfl,rfl,h⟩:=h;simp[lq]
 |(acc,en)::c,h=>
  obtain⟨rfl,e,m,j,k,d⟩:=h;have l:=l6 ((acc,en)::c);have i:=j.top;exact⟨Yc e,i,d,by omega,by simp⟩
theorem rY (s:ByteArray):s.extract 0 s.size=s:=by
 apply aM;rw[ar,zL,zz (by simp)]
theorem rX.err {b:Bool}{c:List (List It×Nat)}{at_ count:Nat}(h:rX D M s R b c at_ count){l:Bool}{e:Int}
 (d:hd (s.extract at_ (lq s.size c)) (aG D (c.length+1)) (aH M count)=(l,z,n,e)) (i:e≠0):R=Rd.bad (if b then e else within e):=by
 match c,h with
 | [],h=>
  obtain⟨rfl,rfl,rfl,o⟩:=h;simp only[lq,rY]at d;rw[<-o];exact(rL D M s _ d).1 i
 |(acc,en)::c,h=>
  obtain⟨rfl,j,k,m,q,p⟩:=h;rw[<-k];exact Tz D M s acc en c at_ count j m.top _ d i
theorem rX.many {b:List (List It×Nat)}{at_ count:Nat}{l:Bool}{e:Int}
 (c:hd (s.extract at_ (lq s.size b)) (aG D (b.length+1)) (aH M count)=(l,z,n,e)) (d:e=0):count+1<=1024:=by
 have h:=Vg (s.extract at_ (lq s.size b)) (aG D (b.length+1)) (aH M count);rw[c]at h;exact(pa.1 (h d).2.2.1).2
theorem rX.list {b:Bool}{c:List (List It×Nat)}{at_ count:Nat}(h:rX D M s R b c at_ count)
 (d:hd (s.extract at_ (lq s.size c)) (aG D (c.length+1)) (aH M count)=(true,z,n,0)):
 qF D M s R (([],at_+z+n)::c) (at_+z) (count+1)/\at_+z+n<=s.size/\1<=z/\count+1<=1024:=by
 have k:=rX.many d rfl;match c,h with
 | [],h=>
  obtain⟨rfl,rfl,rfl,r⟩:=h;simp only[lq,rY]at d;have e:=sW s (aG D 1) (aH M 0);have i:=(rL D M s _ d).2.2 rfl rfl;rw[show([]:List (List It×Nat)).length+1=1 from rfl]at d;rw[d]at e;have e:=e rfl;dsimp only at e i;rw[r]at i;simp only[zQ];exact⟨⟨by omega,i.symm,⟨by simp[lq];omega,trivial⟩,by simp[nJ],by omega⟩,by omega,e.2.2.2 rfl,by omega⟩
 |(acc,en)::c,h=>
  obtain⟨rfl,u,w,j,q,x⟩:=h;obtain⟨m,o,l⟩:=Ps D M s acc en c at_ count u j.top _ d rfl rfl;dsimp only at m o l;have p:=j.top;simp only[lq]at p;exact⟨⟨by omega,m.symm.trans w,⟨by simp only[lq];exact o,j⟩,by simp only[nJ,zJ]at q⊢;omega,k⟩,by omega,l,k⟩
theorem rX.text {b:Bool}{c:List (List It×Nat)}{at_ count:Nat}(h:rX D M s R b c at_ count)
 (d:hd (s.extract at_ (lq s.size c)) (aG D (c.length+1)) (aH M count)=(false,z,n,0)):
 at_+z+n<=s.size/\1<=z+n/\count+1<=1024/\(c= []->R=⟨.mk (s.extract (at_+z) (at_+z+n)) false [],at_+z+n,1,0⟩)/\
 (∀acc j l,c=(acc,j)::l->qF D M s R ((acc++ [.mk (s.extract (at_+z) (at_+z+n)) false []],j)::l) (at_+z+n) (count+1)):=by
 have o:=rX.many d rfl;have i:=sW (s.extract at_ (lq s.size c)) (aG D (c.length+1)) (aH M count);rw[d]at i;have i:=i rfl;dsimp only at i;match c,h with
 | [],h=>
  obtain⟨rfl,rfl,rfl,w⟩:=h;simp only[lq,rY]at d i;have k:=(rL D M s _ d).2.1 rfl rfl;dsimp only at k;rw[w]at k;simp only[zQ];exact⟨by omega,by omega,by omega,(fun _=>k),(fun _ _ _ e=>by cases e)⟩
 |(acc,j)::c,h=>
  obtain⟨rfl,x,y,m,u,A⟩:=h;obtain⟨p,q⟩:=Pr D M s acc j c at_ count x m.top _ d rfl rfl;dsimp only at p q;have r:=m.top;simp only[lq]at r;refine⟨by omega,by omega,o,(fun e=>by cases e),fun B C l e=> ?_⟩;injection e with e1 e2;injection e1 with e3 e4;subst e2;subst e3;subst e4;exact⟨q,p.symm.trans y,m,by simp only[nJ,zl,yL]at u⊢;omega,o⟩
theorem qF.next {b:Nat}{c:List (List It×Nat)}{at_ count:Nat}(h:qF D M s R ((acc,b)::c) at_ count)(i:b≠at_):rX D M s R false ((acc,b)::c) at_ count:=by
 obtain⟨e,d⟩:=h;exact⟨rfl,by omega,d⟩
theorem qF.done {b count:Nat}(h:qF D M s R [(acc,b)] b count):R=⟨gW acc,b,count,0⟩:=by
 obtain⟨j,c,d,e,i⟩:=h;rw[<-c];exact Pt D M s acc b count d.top
theorem qF.close {d:List It}{b count:Nat}{c:List (List It×Nat)}(h:qF D M s R ((acc,b)::(d,e)::c) b count):qF D M s R ((d++ [gW acc],e)::c) b count:=by
 obtain⟨m,j,i,k,l⟩:=h;rw[Mr D M s acc b (d,e) c count i.top]at j;exact⟨i.1,j,i.2,by simp only[nJ,zl,yL]at k⊢;omega,l⟩
theorem qF.len {c at_ count:Nat}{b:List (List It×Nat)}(h:qF D M s R ((acc,c)::b) at_ count):acc.length<=1024/\b.length<=1024/\c<=s.size:=by
 obtain⟨j,k,e,d,i⟩:=h;have:=l6 b;simp only[nJ]at d;exact⟨by omega,by omega,e.top⟩
structure GN (w0 w:World)(A:Option Addr)(r cp:Nat):Prop where
 res:af w w0.heap.size 28 #[.string ⟨#[]⟩,.bool false,.slice none 0 0]
 opn:af w (w0.heap.size+1) 256 #[.slice A r cp]
 who:∃z0 z1 z2,af w (w0.heap.size+2) 28 #[z0,z1,z2]
 bel:Below w0.heap.size w0 w
 siz:w0.heap.size+3<=w.heap.size
 le:r<=cp
 mx:cp<=9223372036854775807
theorem GN.below {c:World}(h:GN c w A r d)(b:Below (c.heap.size+3) w w'):GN c w' A r d:=by
 obtain⟨z0,e,z2,hz⟩:=h.who;exact⟨h.res.ag b (by omega),h.opn.ag b (by omega),⟨z0,e,z2,hz.ag b (by omega)⟩,h.bel.trans (b.mono (by omega)),zF h.siz b.size,h.le,h.mx⟩
theorem GN.store {b:World}{e:Option Addr}{j c:Nat}(h:GN b w A r j)(k:d<=c)(l:c<=9223372036854775807):GN b (w.setCell ⟨b.heap.size+1,0,none⟩ (.slice e d c)) e d c:=by
 obtain⟨z0,i,z2,hz⟩:=h.who;refine⟨h.res.dN (p:=⟨b.heap.size+1,0,none⟩) (by simp) _,h.opn.set 0 _,⟨z0,i,z2,hz.dN (p:=⟨b.heap.size+1,0,none⟩) (by simp) _⟩,h.bel.setCell (by simp) _,by have:=h.siz;simp[World.setCell];omega,k,l⟩
theorem GN.only {b:World}(h:GN b w A r i)(c:ae [b.heap.size+2] w w'){d e:Value}(hz:af w' (b.heap.size+2) 28 #[j,d,e]):GN b w' A r i:=
 ⟨h.res.only c (by simp),h.opn.only c (by simp),⟨j,d,e,hz⟩,h.bel.trans (c.below h.bel.size (by simp)),zF h.siz c.size,h.le,h.mx⟩
def rZ (w:World)(lo:Nat)(A:Option Addr)(cp:Nat)(fs:List (List It×Nat)):Prop:=fs= []\/∃g vs,A=some ⟨g,0,none⟩/\tp w lo w.heap.size g cp fs vs
theorem rZ.below {b:Nat}{c:List (List It×Nat)}(h:rZ w d A b c)(e:Below w.heap.size w w'):rZ w' d A b c:=by
 rcases h with h|⟨g,vs,h1,h2⟩
 ·exact .inl h
 have i:=h2.below e;exact .inr ⟨g,vs,h1,⟨i.row,i.rds.up e.size,zg _⟩⟩
theorem rZ.only {b:Nat}{c:Nat}{d:List (List It×Nat)}(h:rZ w b A c d)(e:ae L w w')(j:∀k,k∈L->k<b):rZ w' b A c d:=by
 rcases h with h|⟨g,vs,h1,h2⟩
 ·exact .inl h
 have i:=h2.only e j;exact .inr ⟨g,vs,h1,⟨i.row,i.rds.up e.size,zg _⟩⟩
def QI (w0 w:World)(x:It):Prop:=∃c0 c1 c2,af w (w0.heap.size+2) 28 #[c0,c1,c2]/\gz w (w0.heap.size+3<= ·) x c0 c1 c2
