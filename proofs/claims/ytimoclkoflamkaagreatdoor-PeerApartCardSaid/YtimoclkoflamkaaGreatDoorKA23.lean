/- The stack of rlp.Put: lists whose bytes are being laid. Own text; no program in sight but the types' numbers. -/
import Derived.WalkSmall
import Derived.Test.YtimoclkoflamkaaGreatDoorKA8
set_option linter.all false
set_option maxRecDepth 100000
set_option maxHeartbeats 2000000
open Go.Proofs.Tryz
namespace Go.Proofs.YtimoclkoflamkaaGreatDoor
open Go.RowKit
variable {w w':World}{g cap S hi n k d m z r B i base l:Nat}{D M:Int}{s:ByteArray}{A:Option Addr}{R:Rd}{acc:List It}{e:TypeId}{xs:List Value}{x:Value}{L:List Nat}
def Zg:=@Ne.symm
def Zy:=@ownsRow_setCell_other
theorem bK.ah {s:List It}(h:bK w B s A i)(c:∀p:Addr,p.block<B->w'.cell? p=w.cell? p):bK w' B s A i:=bK.tI fun j k=>by
 obtain⟨b,o,d0,d1,d2,l,d,m,n,e,hi⟩:=h.at_ j k;exact⟨b,o,d0,d1,d2,l,d,(c _ d).trans m,(c _ d).trans n,(c _ d).trans e,bI.ah (zd _) c _ hi⟩
theorem bK.tail {b o:Nat}:∀{s:List It} {i:Nat},bK w B s (some (b,o)) (i+1)->bK w B s (some (b,o+3)) i
 | [],_,_=>trivial
 |x::xs,i,h=>by
  obtain⟨⟨r,q,l,p,n,c,d,k,m,j,hi⟩,e⟩:=h;injection c with c;injection c with rh ho;subst rh;subst ho;refine⟨⟨b,o+3,l,p,n,rfl,d, ?_, ?_, ?_,hi⟩,bK.tail e⟩
  ·rw[show o+3+i*3=o+(i+1)*3 from by omega];exact k
  ·rw[show o+3+i*3+1=o+(i+1)*3+1 from by omega];exact m
  rw[show o+3+i*3+2=o+(i+1)*3+2 from by omega];exact j
def T4 (w:World)(S:Nat)(f:List It×List UInt8)(v:Value×Value):Prop:=
 (∃A cap,v.1= .slice A f.1.length cap/\f.1.length<=cap/\cap<=9223372036854775807/\bK w S f.1 A 0)/\bP w S 5 v.2 f.2
def Lays (w:World)(S:Nat):List (List It×List UInt8)->List (Value×Value)->Prop
 | [],[]=>True
 |f::fs,v::vs=>T4 w S f v/\(∀u∈vs,∀g,v.2.ownBlock=some g->u.2.ownBlock≠some g)/\Lays w S fs vs
 |_,_=>False
def dP :List (Value×Value)->List Value
 | []=> []
 |v::vs=>dP vs++ [v.1,v.2]
theorem cc (b:List (Value×Value)):(dP b).length=b.length*2:=by
 induction b with
 |nil=>rfl
 |cons v b ih=>simp[dP,ih];omega
theorem Lays.length :∀{c:List (List It×List UInt8)} {b:List (Value×Value)},Lays w S c b->b.length=c.length
 | [],[],_=>rfl
 |f::c,v::b,h=>by simp[Lays.length h.2.2]
theorem T4.ah {f:List It×List UInt8}{v:Value×Value}(h:T4 w S f v)(hS:S<=w.heap.size)(d:∀k,k<w.heap.size->(k<S\/v.2.ownBlock=some k)->w'.heap[k]?=w.heap[k]?):T4 w' S f v:=by
 obtain⟨⟨A,cap,c,b,i,l⟩,e⟩:=h;exact⟨⟨A,cap,c,b,i,l.ah fun p j=>zB (d _ (by omega) (.inl j))⟩,e.ah fun k c b=>d k c (.inr b)⟩
theorem Lays.ah (hS:S<=w.heap.size):∀{e:List (List It×List UInt8)} {b:List (Value×Value)},Lays w S e b->(∀k,k<w.heap.size->(k<S\/∃u∈b,u.2.ownBlock=some k)->w'.heap[k]?=w.heap[k]?)->Lays w' S e b
 | [],[],_,_=>trivial
 |f::e,v::b,h,hk=>⟨h.1.ah hS fun k d c=>hk k d (c.imp id fun h=>⟨v,by simp,h⟩),h.2.1,Lays.ah hS h.2.2 fun k d c=>hk k d (c.imp id fun⟨u,hu,h⟩=>⟨u,by simp[hu],h⟩)⟩
theorem Lays.ge :∀{c:List (List It×List UInt8)} {b:List (Value×Value)},Lays w S c b->∀u∈b,∀g,u.2.ownBlock=some g->S<=g/\g<w.heap.size/\∃e d,w.heap[g]?=some (.cells e 5 d)
 | [],[],_,u,hu,_,_=>by cases hu
 |f::c,v::b,h,u,hu,g,hg=>by
  rcases yI.1 hu with rfl|hu
  ·exact h.1.2.ge g hg
  exact Lays.ge h.2.2 u hu g hg
structure Lay (w:World)(S g cap:Nat)(fs:List (List It×List UInt8))(vs:List (Value×Value)):Prop where
 row:w.ownsRow S 208 2 (.slice (some (g,0)) fs.length cap) fs.length (dP vs)
 lays:Lays w S fs vs
theorem gx {size:Nat}(h:w.ownsRow base e size (.slice (some (g,0)) n cap) n xs)(s:k<xs.length)(u:Value):
 (w.setCell (g,k) u).ownsRow base e size (.slice (some (g,0)) n cap) n (xs.set k u):=by
 obtain⟨o,b⟩:=h;refine⟨by rw[Zn];exact o, ?_⟩;rcases b with⟨b,_⟩|⟨r,x,q,p,c,d,j,l,m,i⟩
 ·cases b
 cases p
 exact .inr ⟨g,cap,_,rfl,c,jd u d,j,l,by simpa using m,by rw[Z1,List.take_set,i]⟩
theorem dB {size:Nat}(h:w.ownsRow base e size (.slice (some (g,0)) n cap) n xs):base<=g/\g<w.heap.size/\n<=cap/\cap<=9223372036854775807/\∃c,w.heap[g]?=some (.cells c e (0,0)):=by
 obtain⟨r,b⟩:=h;rcases b with⟨b,_⟩|⟨m,p,c,l,i,d,j,k,q,o⟩
 ·cases b
 cases l
 exact⟨i,yJ d,j,by simpa[maxLen]using k,c,d⟩
theorem Lay.block {b:List (List It×List UInt8)}{d:List (Value×Value)}(h:Lay w S g cap b d):S<=g/\g<w.heap.size/\b.length<=cap/\cap<=9223372036854775807/\∃c,w.heap[g]?=some (.cells c 208 (0,0)):=dB h.row
theorem Lay.below {d:List (List It×List UInt8)}{c:List (Value×Value)}(h:Lay w S g cap d c)(hS:S<=w.heap.size)(b:Below w.heap.size w w'):Lay w' S g cap d c:=
 ⟨h.row.kept (cR b) (.inr (by simp[Value.ownBlock])),h.lays.ah hS fun k e _=>b.block k e⟩
theorem Lay.top {f:List It×List UInt8}{b:List (List It×List UInt8)}{v:Value×Value}{c:List (Value×Value)}(h:Lay w S g cap (f::b) (v::c)):
 (w,g,b.length*2,v.1)/\(w,g,b.length*2+1,v.2)/\w.frozen? (g,b.length*2)=false/\w.frozen? (g,b.length*2+1)=false/\(∀i,v.2.ownBlock≠some i\/i≠g):=by
 have p:=h.lays.2.2.length;have o:=cc c;have l:∀j,((g,0):Addr).add j=⟨g,j,none⟩:=by intro j;unfold Addr.add;split<;>simp_all
 obtain⟨m,q,_,_,n,d⟩:=h.block;have e:=h.row.cells (g:=g) rfl (b.length*2) v.1 (by
  show(dP c++ [v.1,v.2])[b.length*2]?=_
  rw[yj (by omega),show b.length*2-(dP c).length=0 from by omega];rfl)
 have k:=h.row.cells (g:=g) rfl (b.length*2+1) v.2 (by
  show(dP c++ [v.1,v.2])[b.length*2+1]?=_
  rw[yj (by omega),show b.length*2+1-(dP c).length=1 from by omega];rfl)
 rw[l]at e k;refine⟨e,k,dJ d (.inl rfl),dJ d (.inl rfl),fun i=> ?_⟩;by_cases hi:i=g
 ·left;subst hi;exact bP.cx h.lays.1.2 d (by decide)
 exact .inr hi
theorem Jm (b:List (Value×Value))(v:Value×Value)(u:Value)(k:Nat)(c:k=b.length*2):(dP (v::b)).set (k+1) u=dP ((v.1,u)::b):=by
 subst c;show(dP b++ [v.1,v.2]).set _ u=dP b++ [v.1,u]
 rw[xy _ _ (by rw[cc];omega),cc,show b.length*2+1-b.length*2=1 from by omega];rfl
theorem wC (b:List (Value×Value))(v:Value×Value)(u:Value)(k:Nat)(c:k=b.length*2):(dP (v::b)).set k u=dP ((u,v.2)::b):=by
 subst c;show(dP b++ [v.1,v.2]).set _ u=dP b++ [u,v.2]
 rw[xy _ _ (by rw[cc];omega),cc,Zd];rfl
theorem bM {p:Addr}{u:Value}(h:k≠p.block):(w.setCell p u).heap[k]?=w.heap[k]?:=by
 simp[World.setCell,ZC,Zg h]
theorem Lay.bytes {y:World}{xs:List It}{b D:List UInt8}{r:List (List It×List UInt8)}{o d:Value}{s:List (Value×Value)}(h:Lay w S g cap ((xs,b)::r) ((x,o)::s))(hS:S<=w.heap.size)
 (n:lE w y o d) (L:bP y S 5 d D):Lay (y.setCell (g,r.length*2+1) d) S g cap ((xs,D)::r) ((x,d)::s):=by
 have U:=h.lays.2.2.length;obtain⟨Z,Y,_,_,O,J⟩:=h.block;have E:o.ownBlock≠some g:=by
  rcases h.top.2.2.2.2 g with h|h
  ·exact h
  exact absurd rfl h
 have K:d.ownBlock≠some g:=by
  rcases n.own with e|⟨i,e,hi⟩
  ·rw[e];exact E
  rw[e];intro q;injection q with q;omega
 have C:=gx (k:=r.length*2+1) (h.row.kept n.grown (.inr (by simp only[Value.ownBlock];exact Zg E))) (by rw[cc];simp;omega) d;rw[Jm s (x,o) d _ (by omega)]at C;refine⟨C,⟨⟨?_, ?_⟩, ?_, ?_⟩⟩
 ·obtain⟨⟨A,c,I,q,H,N⟩,_⟩:=h.lays.1;refine⟨A,c,I,q,H,N.ah fun p R=>zB ?_⟩;rw[bM (by simp;omega),n.block (by omega) (fun e=>by have:=(h.lays.1.2.ge _ e).1;omega)]
 ·refine L.ah fun k F M=>bM ?_
  intro e;simp only at e;subst e;exact K M
 ·intro u hu i hi z;rcases n.own with e|⟨j,e,hj⟩
  ·exact h.lays.2.1 u hu i (by rw[<-e];exact hi) z
  have m:=(h.lays.2.2.ge u hu i z).2.1;have hi:d.ownBlock=some i:=hi;rw[e]at hi;injection hi with hi;omega
 refine h.lays.2.2.ah hS fun k F B=> ?_
 have G:k≠g:=by
  rcases B with m|⟨u,hu,m⟩
  ·omega
  rintro rfl;obtain⟨_,_,W,X,l⟩:=h.lays.2.2.ge u hu k m;rw[J]at l;injection l with l;injection l with _ l;exact absurd l (by decide)
 rw[bM (by simpa using G),n.block F (fun e=> ?_)];rcases B with m|⟨u,hu,m⟩
 ·have:=(h.lays.1.2.ge _ e).1;omega
 exact h.lays.2.1 u hu k e m
theorem Lay.items {xs xs':List It}{b:List UInt8}{j:List (List It×List UInt8)}{n e:Value}{i:List (Value×Value)}(h:Lay w S g cap ((xs,b)::j) ((n,e)::i))(hS:S<=w.heap.size)
  {c:Nat} (z:xs'.length<=c) (q:c<=9223372036854775807) (r:bK w S xs' A 0):Lay (w.setCell (g,j.length*2) (.slice A xs'.length c)) S g cap ((xs',b)::j) ((.slice A xs'.length c,e)::i):=by
 have C:=h.lays.2.2.length;obtain⟨G,F,_,_,B,x⟩:=h.block;have o:=gx (k:=j.length*2) h.row (by rw[cc];simp;omega) (.slice A xs'.length c);rw[wC i (n,e) _ _ (by omega)]at o;have m:∀k,k<S\/(∃u∈(n,e)::i,u.2.ownBlock=some k)->k≠g:=by
  intro k l;rcases l with h1|⟨u,hu,h1⟩
  ·omega
  rintro rfl;obtain⟨_,_,D,H,d⟩:=Lays.ge h.lays u hu k h1;rw[x]at d;injection d with d;injection d with _ d;exact absurd d (by decide)
 refine⟨o,⟨⟨⟨A,c,rfl,z,q,r.ah fun p s=>zB (bM (by simpa using m _ (.inl s)))⟩,h.lays.1.2.ah fun k _ y=>bM (by simpa using m _ (.inr ⟨_,by simp,y⟩))⟩,h.lays.2.1,h.lays.2.2.ah hS fun k E l=>bM (by simpa using m _ (l.imp id fun⟨u,hu,h⟩=>⟨u,by simp[hu],h⟩))⟩⟩
theorem Lay.push {d:List (List It×List UInt8)}{j:List (Value×Value)}(h:Lay w S g cap d j)(hS:S<=w.heap.size){s:List It}{c:Nat}(B:s.length<=c)(o:c<=9223372036854775807)(q:bK w S s A 0)
 (x:w'.ownsRow S 208 2 (.slice (some ⟨m,0,none⟩) (d.length+1) l) (d.length+1) (dP j++ [.slice A s.length c,.slice none 0 0])) (n:w.grownBy w' (some g)):
 Lay w' S m l ((s,[])::d) ((.slice A s.length c,nS)::j):=by
 obtain⟨G,F,_,_,C,y⟩:=h.block;refine⟨x,⟨⟨⟨A,c,rfl,B,o,q.ah fun p D=>zB (n.block _ (by omega) (by simp;omega))⟩,bP.nil _ _ _⟩,(fun u _ i hi=>by cases hi),h.lays.ah hS fun k z r=>n.block k z ?_⟩⟩;intro e;injection e with e;rcases r with h1|⟨u,hu,h1⟩
 ·omega
 subst e;obtain⟨_,_,E,H,b⟩:=h.lays.ge u hu k h1;rw[y]at b;injection b with b;injection b with _ b;exact absurd b (by decide)
theorem Lay.pop {f:List It×List UInt8}{c:List (List It×List UInt8)}{v:Value×Value}{b:List (Value×Value)}(h:Lay w S g cap (f::c) (v::b)):Lay w S g cap c b:=
 ⟨ownsRow_pop (by rw[cc,h.lays.2.2.length]) h.row,h.lays.2.2⟩
def mn (w:World)(k:Nat):Prop:=∀cs fr,w.heap[k]?≠some (.cells cs 251 fr)
theorem mn.of_eq (h:mn w k)(e:w'.heap[k]?=w.heap[k]?):mn w' k:=by
 intro b c;rw[e];exact h b c
theorem mn.KY {c:Array Value}{t:TypeId}{d:Nat×Nat}(h:w.heap[k]?=some (.cells c t d))(b:t≠251):mn w k:=by
 intro j i e;rw[h]at e;injection e with e;injection e with _ e;exact b e
def XK (w:World)(m hi:Nat)(f:List It×Nat)(v:Value×Value):Prop:=
 v.2= .int .i64 f.2/\(∀g,v.1.ownBlock=some g->g<hi)/\∃cs,w.ownsRow m 28 3 v.1 f.1.length cs/\fS w (fun k=>m<=k/\k<hi/\v.1.ownBlock≠some k/\mn w k) f.1 cs
def Ng (w:World)(lo:Nat):Nat->List (List It×Nat)->List (Value×Value)->Prop
 |_,[],[]=>True
 |hi,f::fs,v::vs=>∃m,lo<=m/\m<=hi/\XK w m hi f v/\Ng w lo m fs vs
 |_,_,_=>False
theorem Ng.length :∀{c:List (List It×Nat)} {b:List (Value×Value)} {hi:Nat},Ng w d hi c b->b.length=c.length
 | [],[],_,_=>rfl
 |f::c,v::b,hi,h=>by
  obtain⟨m,_,_,_,h⟩:=h;simp[Ng.length h]
theorem XK.ah {f:List It×Nat}{v:Value×Value}(h:XK w m hi f v)(j:hi<=i)(c:∀k,m<=k->k<hi->k<w.heap.size->mn w k->w'.heap[k]?=w.heap[k]?):XK w' m i f v:=by
 obtain⟨l,d,q,e,s⟩:=h;refine⟨l,fun g b=>zQ (d g b) j,q,⟨e.1, ?_⟩,s.ah (fun k n hS=>⟨hS.1,by omega,hS.2.2.1,hS.2.2.2.of_eq (c k hS.1 hS.2.1 n hS.2.2.2)⟩) fun p o hS=>zB (c _ hS.1 hS.2.1 o hS.2.2.2)⟩;rcases e.2 with h5|⟨g,cap,cur,hv,b,hh',r⟩
 ·exact .inl h5
 exact .inr ⟨g,cap,cur,hv,b,(c g b (d g (by rw[hv];rfl)) (yJ hh') (mn.KY hh' (by decide))).trans hh',r⟩
theorem Ng.ah {c:Nat}:∀{e:List (List It×Nat)} {d:List (Value×Value)} {hi:Nat},Ng w c hi e d->(∀k,c<=k->k<hi->k<w.heap.size->mn w k->w'.heap[k]?=w.heap[k]?)->Ng w' c hi e d
 | [],[],_,_,_=>trivial
 |f::e,v::d,hi,h,hk=>by
  obtain⟨m,j,i,l,n⟩:=h;exact⟨m,j,i,l.ah (zd _) fun k a b=>hk k (by omega) b,Ng.ah n fun k a b=>hk k a (by omega)⟩
theorem Ng.up {e:Nat}{c:List (List It×Nat)}{b:List (Value×Value)}(h:Ng w d hi c b)(i:hi<=e):Ng w d e c b:=by
 match c,b,h with
 | [],[],_=>trivial
 |f::c,v::b,h=>
  obtain⟨m,j,n,k,l⟩:=h;exact⟨m,j,by omega,k.ah i fun _ _ _ _ _=>rfl,l⟩
structure s6 (w:World)(lo hi g cap:Nat)(fs:List (List It×Nat))(vs:List (Value×Value)):Prop where
 row:w.ownsRow lo 251 2 (.slice (some (g,0)) fs.length cap) fs.length (dP vs)
 rds:Ng w lo hi fs vs
 le:hi<=w.heap.size
theorem s6.block {b:Nat}{c:List (List It×Nat)}{e:List (Value×Value)}(h:s6 w b hi g cap c e):b<=g/\g<w.heap.size/\c.length<=cap/\cap<=9223372036854775807/\∃d,w.heap[g]?=some (.cells d 251 (0,0)):=dB h.row
theorem s6.below {c:Nat}{e:List (List It×Nat)}{d:List (Value×Value)}(h:s6 w c hi g cap e d)(b:Below w.heap.size w w'):s6 w' c hi g cap e d:=
 ⟨h.row.kept (cR b) (.inr (by simp[Value.ownBlock])),h.rds.ah fun k _ _ i _=>b.block k i,zG h.le b.size⟩
theorem s6.only {c:Nat}{j:List (List It×Nat)}{i:List (Value×Value)}(h:s6 w c hi g cap j i)(b:ae L w w')(e:∀k,k∈L->k<c):s6 w' c hi g cap j i:=by
 obtain⟨q,l,_,_,n,o⟩:=h.block;refine⟨⟨h.row.1, ?_⟩,h.rds.ah fun k p _ m _=>b.block k m fun d=>by have:=e k d;omega,zG h.le b.size⟩;rcases h.row.2 with h2|⟨g',an,nG,hv,hb,hh',r⟩
 ·exact .inl h2
 injection hv with Lm tW Ek;injection Lm with Lm;injection Lm with Lm;subst Lm;exact .inr ⟨g,an,nG,by rw[Ek],hb,(b.block g l fun d=>by have:=e g d;omega).trans hh',r⟩
theorem s6.top {f:List It×Nat}{b:List (List It×Nat)}{v:Value×Value}{c:List (Value×Value)}(h:s6 w k hi g cap (f::b) (v::c)):
 (w,g,b.length*2,v.1)/\(w,g,b.length*2+1,f.2)/\w.frozen? (g,b.length*2)=false/\w.frozen? (g,b.length*2+1)=false:=by
 obtain⟨m,_,_,o,l⟩:=h.rds;have s:=l.length;have r:=cc c;have n:∀j,((g,0):Addr).add j=⟨g,j,none⟩:=by intro j;unfold Addr.add;split<;>simp_all
 obtain⟨p,u,_,_,q,e⟩:=h.block;have i:=h.row.cells (g:=g) rfl (b.length*2) v.1 (by
  show(dP c++ [v.1,v.2])[b.length*2]?=_
  rw[yj (by omega),show b.length*2-(dP c).length=0 from by omega];rfl)
 have d:=h.row.cells (g:=g) rfl (b.length*2+1) v.2 (by
  show(dP c++ [v.1,v.2])[b.length*2+1]?=_
  rw[yj (by omega),show b.length*2+1-(dP c).length=1 from by omega];rfl)
 rw[n]at i d;rw[o.1]at d;exact⟨i,d,dJ e (.inl rfl),dJ e (.inl rfl)⟩
theorem s6.pop {b:Nat}{f:List It×Nat}{e:List (List It×Nat)}{v:Value×Value}{d:List (Value×Value)}(h:s6 w b hi g cap (f::e) (v::d)):
 ∃m,b<=m/\m<=hi/\XK w m hi f v/\s6 w b m g cap e d:=by
 obtain⟨m,j,c,k,i⟩:=h.rds;exact⟨m,j,c,k,⟨ownsRow_pop (by rw[cc,i.length]) h.row,i,zG c h.le⟩⟩
theorem XK.list {p:Nat}{v:Value×Value}(h:XK w m hi (acc,p) v)(e:acc.length<=9223372036854775807):
 ∃A cap,v.1= .slice A acc.length cap/\acc.length<=cap/\cap<=9223372036854775807/\∀c,acc.length<=c->c<=9223372036854775807->fR w (fun k=>m<=k/\mn w k) (gK acc) eS true (.slice A acc.length c):=by
 obtain⟨_,C,E,i,B⟩:=h;rcases i.2 with⟨d,b⟩|⟨g,cap,D,l,y,o,q,s,_⟩
 ·have b:acc.length=0:=b;obtain rfl:acc= []:=zo b;exact⟨none,0,d,by simp,by simp,fun c _ z=>⟨rfl,rfl,yb _,e,none,c,rfl,yb _,z,trivial⟩⟩
 refine⟨some (g,0),cap,l,q,by simpa[maxLen]using s,fun c x n=>⟨rfl,rfl,yb _,e,some (g,0),c,rfl,x,n, ?_⟩⟩;refine lM.dN ⟨y,mn.KY o (by decide)⟩ (B.ah (fun k _ h=>⟨h.1,h.2.2.2⟩) (fun _ _ _=>rfl)) fun j u hu=> ?_
 have r:v.1.ownBlock=some g:=by rw[l];rfl
 have:=i.cells r j u hu;have d:((g,0):Addr).add j=⟨g,j,none⟩:=by unfold Addr.add;split<;>simp_all
 rw[d]at this;simpa using this
theorem s6.push {b:Nat}{d:List (List It×Nat)}{i:List (Value×Value)}(h:s6 w b hi g cap d i)(j:Nat)
 (r:w'.ownsRow b 251 2 (.slice (some ⟨l,0,none⟩) (d.length+1) m) (d.length+1) (dP i++ [.slice none 0 0,.int .i64 j])) (c:w.grownBy w' (some g)) (o:b<=hi):
 s6 w' b w'.heap.size l m (([],j)::d) ((.slice none 0 0,j)::i):=by
 obtain⟨x,u,_,_,s,n⟩:=h.block;refine⟨r,⟨hi,o,zG h.le c.size,⟨rfl,(fun g c=>by cases c),[],World.ownsRow_nil _ _ _ _,rfl⟩,h.rds.ah fun k _ _ q p=>c.block k q ?_⟩,zd _⟩;intro e;injection e with e;subst e;exact p _ _ n
theorem s6.first {b:Nat}(c:Nat)(e:w.ownsRow b 251 2 (.slice (some (g,0)) 1 cap) 1 [.slice none 0 0,c])(d:b<=w.heap.size):s6 w b w.heap.size g cap [([],c)] [(.slice none 0 0,c)]:=
 ⟨e,⟨b,zd _,d,⟨rfl,(fun g h=>by cases h),[],World.ownsRow_nil _ _ _ _,rfl⟩,trivial⟩,zd _⟩
theorem s6.added {o:World}{b:Nat}{en:Nat}{h:List (List It×Nat)}{c:Value}{A:List (Value×Value)}{u:List Value}{R M X n l j:Value}{y:It}
 (W:w.ownsRow B 251 2 (.slice (some (g,0)) (h.length+1) cap) (h.length+1) (dP ((c,x)::A))) (af:hi<=w.heap.size) (eM:B<=m) (so:m<=hi) (Lm:x= .int .i64 en) (O:∀g,c.ownBlock=some g->g<hi)
 (K:w.ownsRow m 28 3 c acc.length u) (oT:fS w (fun k=>m<=k/\k<hi/\c.ownBlock≠some k/\mn w k) acc u) (Z:Ng w B m h A) (hy:fR w (fun k=>hi<=k/\mn w k) y n l j)
 (L:w.grownBy o c.ownBlock) (Y:o.ownsRow m 28 3 (.slice (some (b,0)) (acc.length+1) r) (acc.length+1) (u++ [R,M,X])) (G:c.ownBlock=some b\/w.heap.size<=b):
 s6 ((((o.setCell (b,acc.length*3) n).setCell (b,acc.length*3+1) l).setCell (b,acc.length*3+2) j).setCell (g,h.length*2) (.slice (some (b,0)) (acc.length+1) r)) B o.heap.size g cap ((acc++ [y],en)::h) ((.slice (some (b,0)) (acc.length+1) r,x)::A):=by
 have hl:=Z.length;obtain⟨Lz,ks,ag,RP,ae,E⟩:=dB W;have ab:=K.1;have U:c.ownBlock≠some g:=by
  intro e;rcases K.2 with⟨J,_⟩|⟨g2,cap2,ad,H,_,s,_⟩
  ·rw[J]at e;cases e
  rw[H]at e;have:g2=g:=by simpa[Value.ownBlock]using e
  subst this;rw[E]at s;injection s with s;injection s with _ s;exact absurd s (by decide)
 have aa:b≠g:=by
  rcases G with e|e
  ·intro i;exact U (by rw[e,i])
  omega
 have iQ:=gx (gx (gx Y (k:=acc.length*3) (by simp;omega) n) (k:=acc.length*3+1) (by simp;omega) l) (k:=acc.length*3+2) (by simp;omega) j;have NR:(((u++ [R,M,X]).set (acc.length*3) n).set (acc.length*3+1) l).set (acc.length*3+2) j=u++ [n,l,j]:=by
  rw[<-ab,xy _ _ (by omega),xy _ _ (by omega),xy _ _ (by omega)];simp
 rw[NR]at iQ;have z:∀k,k<w.heap.size->c.ownBlock≠some k->k≠g->((((o.setCell (b,acc.length*3) n).setCell (b,acc.length*3+1) l).setCell (b,acc.length*3+2) j).setCell (g,h.length*2) (.slice (some (b,0)) (acc.length+1) r)).heap[k]?=w.heap[k]?:=by
  intro k d I N;have C:k≠b:=by
   rcases G with e|e
   ·intro i;exact I (by rw[e,i])
   omega
  rw[bM (by simpa using N),bM (by simpa using C),bM (by simpa using C),bM (by simpa using C)];exact L.block k d (fun e=>I e.symm)
 have fa:((((o.setCell (b,acc.length*3) n).setCell (b,acc.length*3+1) l).setCell (b,acc.length*3+2) j).setCell (g,h.length*2) (.slice (some (b,0)) (acc.length+1) r)).heap.size=o.heap.size:=by simp[World.setCell]
 have G6:=L.size;have ah:b<o.heap.size:=(dB Y).2.1;have SG:o.ownsRow B 251 2 (.slice (some (g,0)) (h.length+1) cap) (h.length+1) (dP ((c,x)::A)):=W.kept L (.inr (by simp only[Value.ownBlock];exact Zg U));have GC:=Zy (Zy (Zy SG (a:=(b,acc.length*3)) (by simp[Value.ownBlock];omega) n) (a:=(b,acc.length*3+1)) (by simp[Value.ownBlock];omega) l) (a:=(b,acc.length*3+2)) (by simp[Value.ownBlock];omega) j;have G3:=gx GC (k:=h.length*2) (by rw[cc];simp;omega) (.slice (some (b,0)) (acc.length+1) r);rw[wC A (c,x) _ _ (by omega)]at G3;refine⟨G3,⟨m,eM,by omega,⟨Lm, ?_,u++ [n,l,j], ?_, ?_⟩, ?_⟩,by rw[fa];exact zd _⟩
 ·intro g2 py;have:b=g2:=by simpa[Value.ownBlock]using py
  omega
 ·rw[zk];exact Zy iQ (a:=(g,h.length*2)) (by simp[Value.ownBlock];exact aa) _
 ·have F:∀k,k<w.heap.size->(hi<=k/\mn w k)->(c.ownBlock≠some k/\k≠g):=fun k d hS=>⟨fun e=>by have:=O _ e;omega,by rintro rfl;exact hS.2 _ _ E⟩
  have D:∀k,k<w.heap.size->(m<=k/\k<hi/\c.ownBlock≠some k/\mn w k)->(c.ownBlock≠some k/\k≠g):=fun k d hS=>⟨hS.2.2.1,by rintro rfl;exact hS.2.2.2 _ _ E⟩
  refine fS.snoc (fR.ah (w:=w) (S:=fun k=>hi<=k/\mn w k) (fun k d hS=> ?_) (fun p q hS=> ?_) y hy) (oT.ah (fun k d hS=> ?_) fun p q hS=> ?_)
  ·refine⟨by omega,by omega, ?_,hS.2.of_eq (z k d (F k d hS).1 (F k d hS).2)⟩;intro e;have e:b=k:=by simpa[Value.ownBlock]using e
   rcases G with i|i
   ·have:=O _ i;omega
   omega
  ·exact zB (z _ q (F _ q hS).1 (F _ q hS).2)
  ·refine⟨hS.1,by omega, ?_,hS.2.2.2.of_eq (z k d (D k d hS).1 (D k d hS).2)⟩;intro e;have e:b=k:=by simpa[Value.ownBlock]using e
   rcases G with i|i
   ·exact hS.2.2.1 (by rw[i,e])
   omega
  exact zB (z _ q (D _ q hS).1 (D _ q hS).2)
 refine Z.ah fun k I N C h4=>z k C (fun e=> ?_) (by rintro rfl;exact h4 _ _ E)
 rcases K.2 with⟨J,_⟩|⟨g2,cap2,ad,H,aI,_⟩
 ·rw[J]at e;cases e
 rw[H]at e;have:g2=k:=by simpa[Value.ownBlock]using e
 omega
theorem lR {a b:Addr}(h:a.block≠b.block)(x y:Value):(w.setCell a x).setCell b y=(w.setCell b y).setCell a x:=by
 unfold World.setCell;dsimp only;congr 1
 apply Array.ext
 ·simp
 intro i k j;simp only[Array.getElem_modify];by_cases c:a.block=i
 ·have d:¬b.block=i:=fun e=>h (c.trans e.symm)
  simp[c,d]
 simp[c]
theorem rX {ops:Array Oper}{o:Oper}{a:Act}{K:Act->World->Prop}{Q:Exit->Act->World->Prop}{z:Prop}(F:o.guard=none)(s x:Operand)
 (A:o.op= .call {callee:= .builtin .append,args:= #[s,x],argTypes:= #[26,26]}) (m n:Nat) {v:Value} {k:List Value} (I:a.eval s=v) (q:w.ownsRow m 28 3 v n k) (B:Nat)
 (hx:a.eval x= .slice (some (B,0)) 1 1) (L:ag w B 28 #[eS,false,nS]) (S:n<=1000000) (D:m<=w.heap.size)
 (G:∀b c w',Hid (w'.ownsRow m 28 3 (.slice (some ⟨b,0,none⟩) (n+1) c) (n+1) (k++ [.string ⟨#[]⟩,.bool false,.slice none 0 0]))->Hid (w.grownBy w' v.ownBlock)->Hid (v.ownBlock=some b\/w.heap.size<=b)->n+1<=c->c<=9223372036854775807->
  w'.cell? (b,n*3)=some (.string ⟨#[]⟩)->w'.cell? (b,n*3+1)=some (.bool false)->w'.cell? (b,n*3+2)=some (.slice none 0 0)->
  w'.frozen? (b,n*3)=false->w'.frozen? (b,n*3+1)=false->w'.frozen? (b,n*3+2)=false->K (a.put o.dst (.slice (some (b,0)) (n+1) c)) w'):
 if Region.wanted o (yielded ops a.tmps)=true then Oper.wp prog o a w K Q else z:=by
 obtain⟨i0,hi,M,C,E⟩:=yz rN;refine step_append_lies w F s x 26 A m 28 i0 _ 3 48 xU hi M C E rfl (by decide) v n k I q (B,0) 1 1 [.string ⟨#[]⟩,false,nS] hx rfl ?_ ?_ (by decide) (by simp only[maxLen];omega) (by omega) D w.heap.size rfl ?_
 ·exact fun j u hu=>ZP L j u (by simpa using hu)
 ·intro u hu;simp at hu;rcases hu with rfl|rfl|rfl<;>rfl
 intro b c w' d H O U;obtain⟨_,_,N,y,R,i⟩:=dB d;have e:=q.1;have J:∀j,((b,0):Addr).add j=⟨b,j,none⟩:=by intro j;unfold Addr.add;split<;>simp_all
 have r:=d.cells (g:=b) rfl (n*3) eS (by rw[yj (by omega),e,Zd];rfl);have p:=d.cells (g:=b) rfl (n*3+1) false (by rw[yj (by omega),e,show n*3+1-n*3=1 from by omega];rfl);have l:=d.cells (g:=b) rfl (n*3+2) nS (by rw[yj (by omega),e,show n*3+2-n*3=2 from by omega];rfl);rw[J]at r p l;exact G b c w' (za d) (za H) (za (O.imp id fun h=>by omega)) N y r p l (dJ i (.inl rfl)) (dJ i (.inl rfl)) (dJ i (.inl rfl))
theorem F7 (W:World)(h b:Nat)(A:Option Addr)(i:Nat)(t:ByteArray)(l:Bool)(j:Option Addr)(n2 k2:Nat)(m k n:Value)(r:i<=9223372036854775807)(c:ag W h 248 #[.slice A 0 i])(d:ag W b 28 #[m,k,n])(u:h≠b):
 Calls prog 196 #[.agg #[t,l,.slice j n2 k2],(h,0),(b,0)] W fun e w'=>e= .returned (.tuple #[])/\ag w' b 28 #[t,l,.slice j n2 k2]/\ae [b] W w':=by
 have o:=c.cell 0;have o:W.cell? (h,0)=some (.slice A 0 i):=c.cell 0;have s:=c.lt;have q:=d.lt;obtain⟨g0,g1,g2,f0,f1,f2⟩:=bp d;have p:=za d;clear c d;go_enter func196,ntmps196
 go_wp2;refine zl (v:= .tuple #[]) (results_none rfl _ _ _) rfl ⟨rfl,((((p.out.set 0 _).set 1 _).set 2 _).alloc _), ?_⟩;exact((((ae.refl [b] W).setCell (by simp) _).setCell (by simp) _).setCell (by simp) _).alloc _
theorem F8 (W:World)(p hi g G b9 Wi:Nat)(acc:List It)(I:Nat)(D:List (List It×Nat))(v0 v1:Value)(vs:List (Value×Value))(y:It)(c0 c1 c2:Value)
 (h9:ag W b9 248 #[.slice (some (g,0)) (D.length+1) G]) (w:s6 W p hi g G ((acc,I)::D) ((v0,v1)::vs)) (Z:fR W (fun k=>hi<=k/\mn W k) y c0 c1 c2) (af:acc.length<=1000000):
 Calls prog 196 #[.agg #[c0,c1,c2],(b9,0),(Wi,0)] W fun e w'=>e= .returned (.tuple #[])/\Below p W w'/\∃RR,s6 w' p w'.heap.size g G ((acc++ [y],I)::D) ((RR,v1)::vs):=by
 have HR:=za w;obtain⟨m,eM,O,⟨Lm,L,cs,B,S⟩,GM⟩:=w.rds;obtain⟨Lz,ks,pH,aA,aC,hh⟩:=w.block;obtain⟨t0,t1,LA,N4⟩:=w.top;have ai:=w.le;simp only[zz]at pH;dsimp only at Lm L B S t0;have R:=za B;have JW:=za S;have G':=za GM;have JX:=za L;have HY:=za Z;have HF:Hid (∃A n cap,v0= .slice A n cap/\n=acc.length/\n<=cap/\cap<=9223372036854775807):=za (by
  rcases B.2 with⟨e1,N⟩|⟨g2,cap2,av,X,_,_,G1,O,_⟩
  ·exact⟨none,0,0,e1,N.symm,by simp,by simp⟩
  exact⟨_,_,cap2,X,rfl,G1,by simpa[maxLen]using O⟩)
 obtain⟨o,d,q,rfl,oP,Ce,ax⟩:=HF.out;have J:=za oP;obtain⟨j,l,rfl,rfl,rfl,oe,az,aB,_⟩:=Z.open_;have ak:=h9.cell 0;have aw:=h9.lt;obtain⟨r,Y⟩:∃r,D.length=r:=⟨_,rfl⟩
 have Eg:=za Y;rw[Y]at t0 t1 LA N4 pH h9 ak;have aj:Hid (∀k,W.heap.size<=k->Value.ownBlock (.slice o d q)≠some k):=za (fun k hk e=>by have:=L k e;omega);have ab:Hid (Value.ownBlock (.slice o d q)≠some g):=za (by
  intro e;rcases B.2 with⟨e1,_⟩|⟨g2,cap2,av,X,_,u,_⟩
  ·rw[e1]at e;cases e
  rw[X]at e;have:g2=g:=by simpa[Value.ownBlock]using e
  subst this;rw[hh]at u;injection u with u;injection u with _ u;exact absurd u (by decide))
 subst Lm;clear S GM L B Z w hh Y oP;have ah:Hid (ag (((W.alloc (.cells #[y.text,y.list,.slice j y.sub.length l] 28)).drew).alloc (.cells #[eS,false,nS] 28)) (W.heap.size+1) 28 #[eS,false,nS]):=za (by have:=ag.new (W.alloc (.cells #[y.text,y.list,.slice j y.sub.length l] 28)).drew 28 #[eS,false,nS];simpa using this);have rk:Hid (ag (((W.alloc (.cells #[y.text,y.list,.slice j y.sub.length l] 28)).drew).alloc (.cells #[eS,false,nS] 28)) W.heap.size 28 #[y.text,y.list,.slice j y.sub.length l]):=za (((ag.new W 28 #[y.text,y.list,.slice j y.sub.length l]).drew).alloc _);have ad:Hid ((((W.alloc (.cells #[y.text,y.list,.slice j y.sub.length l] 28)).drew).alloc (.cells #[eS,false,nS] 28)).ownsRow m 28 3 (.slice o d q) acc.length cs):=za ((R.out.alloc _).drew.alloc _);have E:Hid (W,((W.alloc (.cells #[y.text,y.list,.slice j y.sub.length l] 28)).drew).alloc (.cells #[eS,false,nS] 28)):=za ((((zm W.heap.size W).alloc (zd _) _).drew).alloc (by simp) _);have aa:Hid (g<(((W.alloc (.cells #[y.text,y.list,.slice j y.sub.length l] 28)).drew).alloc (.cells #[eS,false,nS] 28)).heap.size):=za (by simp;omega);have ae:Hid (((((W.alloc (.cells #[y.text,y.list,.slice j y.sub.length l] 28)).drew).alloc (.cells #[eS,false,nS] 28)),g,r*2,Value.slice o d q)/\(((W.alloc (.cells #[y.text,y.list,.slice j y.sub.length l] 28)).drew).alloc (.cells #[eS,false,nS] 28)).frozen? (g,r*2)=false):=za ⟨(E.out.cell ks).trans t0,(E.out.frozen ks).trans LA⟩
 have ao:Hid (∀i:Nat,(Value.ownBlock (.slice o d q)=some i\/(((W.alloc (.cells #[y.text,y.list,.slice j y.sub.length l] 28)).drew).alloc (.cells #[eS,false,nS] 28)).heap.size<=i)->i≠g):=za (fun i h e=>by
  subst e;rcases h with h|h
  ·exact ab.out h
  have:=aa.out;omega)
 have aq:Hid (m<=(((W.alloc (.cells #[y.text,y.list,.slice j y.sub.length l] 28)).drew).alloc (.cells #[eS,false,nS] 28)).heap.size):=za (by simp;omega);rw[<-J.out]at af;rw[<-J.out]at ad;have ay:(d:Int)<d+1:=by omega
 go_enter func196,ntmps196
 go_wp2_with fail
 go_region_law (refine rX (by rfl) (.tmp 17) (.tmp 20) (by rfl) m d (by rfl) ad.out (W.heap.size+1) (by rfl) ah.out af aq.out ?_;intro i C s UM z K D9 pJ q0 q1 q2 Wj ar au;obtain⟨x0,x1,x2,_⟩:=bp (rk.out.grown z.out (aj.out _ (zd _)));have e3:s.cell? (g,r*2)=some (.slice o d q):=(z.out.cell_far (g,r*2) aa.out (Zg ab.out)).trans ae.out.1;have e4:s.frozen? (g,r*2)=false:=(z.out.frozen_far (g,r*2) aa.out (Zg ab.out)).trans ae.out.2;have an:i≠g:=ao.out i K.out;have U:g≠i:=Zg an)
 all_goals
  have HD:Hid (s6 ((((s.setCell ⟨i,d*3,none⟩ (.string y.text)).setCell ⟨i,d*3+1,none⟩ (.bool y.list)).setCell ⟨i,d*3+2,none⟩ (.slice j y.sub.length l)).setCell ⟨g,r*2,none⟩ (.slice (some ⟨i,0,none⟩) (d+1) C)) p s.heap.size g G ((acc++ [y],I)::D) ((.slice (some ⟨i,0,none⟩) (d+1) C,.int .i64 I)::vs)):=za (by
   have H:=K.out;have F:=UM.out;rw[<-Eg.out,J.out];rw[J.out]at F;exact s6.added HR.out.row ai eM O rfl JX.out R.out JW.out G'.out HY.out ((iH (cR E.out) _).trans z.out) F (H.imp id fun h=>zG E.out.size h))
  have Bc:Hid (Below p W ((((s.setCell (i,d*3) y.text).setCell (i,d*3+1) y.list).setCell (i,d*3+2) (.slice j y.sub.length l)).setCell (g,r*2) (.slice (some (i,0)) (d+1) C))):=za (by
   have H:∀k,Value.ownBlock (.slice o d q)=some k->p<=k:=fun k hk=>zG eM (R.out.lt k hk).1
   have M:p<=i:=by
    rcases K.out with e|e
    ·exact H _ e
    have N:=e;simp at N;omega
   exact((((((E.out.mono (by omega)).grown z.out (by simp;omega) H).setCell (by simpa using M) _).setCell (by simpa using M) _).setCell (by simpa using M) _).setCell (by simpa using Lz) _))
  have al:Hid (∀(v:World) (x a b c:Value),(((v.setCell (g,r*2) x).setCell (i,d*3) a).setCell (i,d*3+1) b).setCell (i,d*3+2) c=(((v.setCell (i,d*3) a).setCell (i,d*3+1) b).setCell (i,d*3+2) c).setCell (g,r*2) x):=za (fun v x a b c=>by rw[lR (a:=(g,r*2)) (b:=(i,d*3)) U,lR (a:=(g,r*2)) (b:=(i,d*3+1)) U,lR (a:=(g,r*2)) (b:=(i,d*3+2)) U]);clear UM z K q0 q1 q2 Wj ar au x0 x1 x2 e3 e4;go_wp2;go_end0
  try rw[al.out]
  refine⟨rfl,Bc.out,.slice (some (i,0)) (d+1) C, ?_⟩;have F:=HD.out;have hz:((((s.setCell (i,d*3) y.text).setCell (i,d*3+1) y.list).setCell (i,d*3+2) (.slice j y.sub.length l)).setCell (g,r*2) (.slice (some (i,0)) (d+1) C)).heap.size=s.heap.size:=by simp[World.setCell]
  rw[hz];exact F
def k8 (z:Nat):List (List It×Nat)->Nat
 | []=>z
 |f::_=>f.2
def Ends (z:Nat):List (List It×Nat)->Prop
 | []=>True
 |f::fs=>f.2<=k8 z fs/\Ends z fs
theorem Ends.top :∀{b:List (List It×Nat)},Ends z b->k8 z b<=z
 | [],_=>zd _
 |f::b,h=>zG h.1 (Ends.top h.2)
def nB :List (List It×Nat)->Nat
 | []=>0
 |f::fs=>f.1.length+1+nB fs
theorem lS :∀(b:List (List It×Nat)),b.length<=nB b
 | []=>zd _
 |f::b=>by have:=lS b;simp[nB];omega
def rY (D M:Int)(s:ByteArray)(R:Rd)(b:Bool):List (List It×Nat)->Nat->Nat->Prop
 | [],at_,count=>b=true/\at_=0/\count=0/\bq D M s 1 0=R
 |(acc,en)::fs,at_,count=>b=false/\at_<en/\fin D M s acc en fs at_ count=R/\Ends s.size ((acc,en)::fs)/\nB ((acc,en)::fs)<=count/\count<=1024
def qI (D M:Int)(s:ByteArray)(R:Rd):List (List It×Nat)->Nat->Nat->Prop
 | [],at_,_=>R.e=0/\R.size=at_
 |(acc,en)::fs,at_,count=>at_<=en/\fin D M s acc en fs at_ count=R/\Ends s.size ((acc,en)::fs)/\nB ((acc,en)::fs)<=count/\count<=1024
theorem rY.le {b:Bool}{c:List (List It×Nat)}{at_ count:Nat}(h:rY D M s R b c at_ count):at_<=k8 s.size c/\k8 s.size c<=s.size/\count<=1024/\c.length<=1024/\(b=true↔c= []):=by
 match c,h with
 | [],h=>obtain⟨rfl,rfl,rfl,h⟩:=h;simp[k8]
 |(acc,en)::c,h=>
  obtain⟨rfl,j,k,d,m,e⟩:=h;have l:=lS ((acc,en)::c);have i:=d.top;exact⟨Ym j,i,e,by omega,by simp⟩
theorem rZ (s:ByteArray):s.extract 0 s.size=s:=by
 apply aF;rw[aq,zL,zx (by simp)]
theorem rY.err {b:Bool}{c:List (List It×Nat)}{at_ count:Nat}(h:rY D M s R b c at_ count){l:Bool}{e:Int}
 (d:hd (s.extract at_ (k8 s.size c)) (aG D (c.length+1)) (aH M count)=(l,z,n,e)) (i:e≠0):R=Rd.bad (if b then e else within e):=by
 match c,h with
 | [],h=>
  obtain⟨rfl,rfl,rfl,k⟩:=h;simp only[k8,rZ]at d;rw[<-k];exact(rJ D M s _ d).1 i
 |(acc,en)::c,h=>
  obtain⟨rfl,o,j,m,q,p⟩:=h;rw[<-j];exact Tj D M s acc en c at_ count o m.top _ d i
theorem rY.many {b:List (List It×Nat)}{at_ count:Nat}{l:Bool}{e:Int}
 (c:hd (s.extract at_ (k8 s.size b)) (aG D (b.length+1)) (aH M count)=(l,z,n,e)) (d:e=0):count+1<=1024:=by
 have h:=Vl (s.extract at_ (k8 s.size b)) (aG D (b.length+1)) (aH M count);rw[c]at h;exact(o8.1 (h d).2.2.1).2
theorem rY.list {b:Bool}{c:List (List It×Nat)}{at_ count:Nat}(h:rY D M s R b c at_ count)
 (d:hd (s.extract at_ (k8 s.size c)) (aG D (c.length+1)) (aH M count)=(true,z,n,0)):
 qI D M s R (([],at_+z+n)::c) (at_+z) (count+1)/\at_+z+n<=s.size/\1<=z/\count+1<=1024:=by
 have l:=rY.many d rfl;match c,h with
 | [],h=>
  obtain⟨rfl,rfl,rfl,u⟩:=h;simp only[k8,rZ]at d;have e:=sL s (aG D 1) (aH M 0);have i:=(rJ D M s _ d).2.2 rfl rfl;rw[show([]:List (List It×Nat)).length+1=1 from rfl]at d;rw[d]at e;have e:=e rfl;dsimp only at e i;rw[u]at i;simp only[zJ];exact⟨⟨by omega,i.symm,⟨by simp[k8];omega,trivial⟩,by simp[nB],by omega⟩,by omega,e.2.2.2 rfl,by omega⟩
 |(acc,en)::c,h=>
  obtain⟨rfl,r,p,j,q,x⟩:=h;obtain⟨k,m,o⟩:=Pf D M s acc en c at_ count r j.top _ d rfl rfl;dsimp only at k m o;have w:=j.top;simp only[k8]at w;exact⟨⟨by omega,k.symm.trans p,⟨by simp only[k8];exact m,j⟩,by simp only[nB,zO]at q⊢;omega,l⟩,by omega,o,l⟩
theorem rY.text {b:Bool}{c:List (List It×Nat)}{at_ count:Nat}(h:rY D M s R b c at_ count)
 (d:hd (s.extract at_ (k8 s.size c)) (aG D (c.length+1)) (aH M count)=(false,z,n,0)):
 at_+z+n<=s.size/\1<=z+n/\count+1<=1024/\(c= []->R=⟨.mk (s.extract (at_+z) (at_+z+n)) false [],at_+z+n,1,0⟩)/\
 (∀acc j l,c=(acc,j)::l->qI D M s R ((acc++ [.mk (s.extract (at_+z) (at_+z+n)) false []],j)::l) (at_+z+n) (count+1)):=by
 have p:=rY.many d rfl;have i:=sL (s.extract at_ (k8 s.size c)) (aG D (c.length+1)) (aH M count);rw[d]at i;have i:=i rfl;dsimp only at i;match c,h with
 | [],h=>
  obtain⟨rfl,rfl,rfl,x⟩:=h;simp only[k8,rZ]at d i;have k:=(rJ D M s _ d).2.1 rfl rfl;dsimp only at k;rw[x]at k;simp only[zJ];exact⟨by omega,by omega,by omega,(fun _=>k),(fun _ _ _ e=>by cases e)⟩
 |(acc,j)::c,h=>
  obtain⟨rfl,w,r,m,u,B⟩:=h;obtain⟨o,q⟩:=Pe D M s acc j c at_ count w m.top _ d rfl rfl;dsimp only at o q;have y:=m.top;simp only[k8]at y;refine⟨by omega,by omega,p,(fun e=>by cases e),fun C A l e=> ?_⟩;injection e with e1 e2;injection e1 with e3 e4;subst e2;subst e3;subst e4;exact⟨q,o.symm.trans r,m,by simp only[nB,zk,yQ]at u⊢;omega,p⟩
theorem qI.next {b:Nat}{c:List (List It×Nat)}{at_ count:Nat}(h:qI D M s R ((acc,b)::c) at_ count)(i:b≠at_):rY D M s R false ((acc,b)::c) at_ count:=by
 obtain⟨e,d⟩:=h;exact⟨rfl,by omega,d⟩
theorem qI.done {b count:Nat}(h:qI D M s R [(acc,b)] b count):R=⟨gK acc,b,count,0⟩:=by
 obtain⟨i,c,d,j,e⟩:=h;rw[<-c];exact Pg D M s acc b count d.top
theorem qI.close {d:List It}{b e count:Nat}{i:List (List It×Nat)}(h:qI D M s R ((acc,b)::(d,e)::i) b count):qI D M s R ((d++ [gK acc],e)::i) b count:=by
 obtain⟨m,j,c,l,k⟩:=h;rw[Mh D M s acc b (d,e) i count c.top]at j;exact⟨c.1,j,c.2,by simp only[nB,zk,yQ]at l⊢;omega,k⟩
theorem qI.len {c at_ count:Nat}{b:List (List It×Nat)}(h:qI D M s R ((acc,c)::b) at_ count):acc.length<=1024/\b.length<=1024/\c<=s.size:=by
 obtain⟨k,i,d,e,j⟩:=h;have:=lS b;simp only[nB]at e;exact⟨by omega,by omega,d.top⟩
structure GV (w0 w:World)(A:Option Addr)(r cp:Nat):Prop where
 res:ag w w0.heap.size 28 #[eS,false,nS]
 opn:ag w (w0.heap.size+1) 248 #[.slice A r cp]
 who:∃z0 z1 z2,ag w (w0.heap.size+2) 28 #[z0,z1,z2]
 bel:Below w0.heap.size w0 w
 siz:w0.heap.size+3<=w.heap.size
 le:r<=cp
 mx:cp<=9223372036854775807
theorem GV.below {c:World}(h:GV c w A r d)(b:Below (c.heap.size+3) w w'):GV c w' A r d:=by
 obtain⟨z0,e,z2,hz⟩:=h.who;exact⟨h.res.ah b (by omega),h.opn.ah b (by omega),⟨z0,e,z2,hz.ah b (by omega)⟩,h.bel.trans (b.mono (by omega)),zG h.siz b.size,h.le,h.mx⟩
theorem GV.store {b:World}{e:Option Addr}{c:Nat}(h:GV b w A r k)(l:d<=c)(i:c<=9223372036854775807):GV b (w.setCell (b.heap.size+1,0) (.slice e d c)) e d c:=by
 obtain⟨z0,j,z2,hz⟩:=h.who;refine⟨h.res.dE (p:=(b.heap.size+1,0)) (by simp) _,h.opn.set 0 _,⟨z0,j,z2,hz.dE (p:=(b.heap.size+1,0)) (by simp) _⟩,h.bel.setCell (by simp) _,by have:=h.siz;simp[World.setCell];omega,l,i⟩
theorem GV.only {c:World}{j:Nat}(h:GV c w A r j)(b:ae [c.heap.size+2] w w'){e d i:Value}(hz:ag w' (c.heap.size+2) 28 #[e,d,i]):GV c w' A r j:=
 ⟨h.res.only b (by simp),h.opn.only b (by simp),⟨e,d,i,hz⟩,h.bel.trans (b.below h.bel.size (by simp)),zG h.siz b.size,h.le,h.mx⟩
def r8 (w:World)(lo:Nat)(A:Option Addr)(cp:Nat)(fs:List (List It×Nat)):Prop:=fs= []\/∃g vs,A=some ⟨g,0,none⟩/\s6 w lo w.heap.size g cp fs vs
theorem r8.below {c:Nat}{i:List (List It×Nat)}(h:r8 w c A d i)(b:Below w.heap.size w w'):r8 w' c A d i:=by
 rcases h with h|⟨g,vs,h1,h2⟩
 ·exact .inl h
 have e:=h2.below b;exact .inr ⟨g,vs,h1,⟨e.row,e.rds.up b.size,zd _⟩⟩
theorem r8.only {b:Nat}{i:List (List It×Nat)}(h:r8 w b A d i)(c:ae L w w')(j:∀k,k∈L->k<b):r8 w' b A d i:=by
 rcases h with h|⟨g,vs,h1,h2⟩
 ·exact .inl h
 have e:=h2.only c j;exact .inr ⟨g,vs,h1,⟨e.row,e.rds.up c.size,zd _⟩⟩
def Qy (w0 w:World)(x:It):Prop:=∃c0 c1 c2,ag w (w0.heap.size+2) 28 #[c0,c1,c2]/\fR w (w0.heap.size+3<= ·) x c0 c1 c2
