/- The stack of rlp.Put: lists whose bytes are being laid. Own text; no program in sight but the types' numbers. -/
import Derived.WalkSmall
import Derived.Test.YtpjgigllldipiaaGreatDoorKA7
set_option linter.all false
set_option maxRecDepth 100000
set_option maxHeartbeats 2000000
namespace Go.Proofs.YtpjgigllldipiaaGreatDoor
open Tryz
open Go.RowKit
def ZF:=@ownsRow_setCell_other
def Z5:=@Ne.symm
theorem bU.ah {w w':World}{B i:Nat}{s:List It}{A:Option Addr}(h:bU w B s A i)(d:∀p:Addr,p.block<B->w'.cell? p=w.cell? p):bU w' B s A i:=bU.Eg fun j m=>by
 obtain⟨b,o,d0,d1,d2,e,c,k,l,n,hi⟩:=h.at_ j m;exact⟨b,o,d0,d1,d2,e,c,(d _ c).trans k,(d _ c).trans l,(d _ c).trans n,bZ.ah (zf _) d _ hi⟩
theorem bU.tail {w:World}{B b o:Nat}:∀{s:List It} {i:Nat},bU w B s (some ⟨b,o,none⟩) (i+1)->bU w B s (some ⟨b,o+3,none⟩) i
 | [],_,_=>trivial
 |x::xs,i,h=>by
  obtain⟨⟨q,r,d,j,k,c,e,l,m,n,hi⟩,p⟩:=h;injection c with c;injection c with vS ho;subst vS;subst ho;refine⟨⟨b,o+3,d,j,k,rfl,e, ?_, ?_, ?_,hi⟩,bU.tail p⟩
  ·rw[show o+3+i*3=o+(i+1)*3 from by omega];exact l
  ·rw[show o+3+i*3+1=o+(i+1)*3+1 from by omega];exact m
  rw[show o+3+i*3+2=o+(i+1)*3+2 from by omega];exact n
def Tn (w:World)(S:Nat)(f:List It×List UInt8)(v:Value×Value):Prop:=
 (∃A cap,v.1= .slice A f.1.length cap/\f.1.length<=cap/\cap<=9223372036854775807/\bU w S f.1 A 0)/\bJ w S 5 v.2 f.2
def Lays (w:World)(S:Nat):List (List It×List UInt8)->List (Value×Value)->Prop
 | [],[]=>True
 |f::fs,v::vs=>Tn w S f v/\(∀u∈vs,∀g,v.2.ownBlock=some g->u.2.ownBlock≠some g)/\Lays w S fs vs
 |_,_=>False
def dN :List (Value×Value)->List Value
 | []=> []
 |v::vs=>dN vs++ [v.1,v.2]
theorem bY (b:List (Value×Value)):(dN b).length=b.length*2:=by
 induction b with
 |nil=>rfl
 |cons v b ih=>simp[dN,ih];omega
theorem Lays.length {w:World}{S:Nat}:∀{b:List (List It×List UInt8)} {c:List (Value×Value)},Lays w S b c->c.length=b.length
 | [],[],_=>rfl
 |f::b,v::c,h=>by simp[Lays.length h.2.2]
theorem Tn.ah {w w':World}{S:Nat}{f:List It×List UInt8}{v:Value×Value}(h:Tn w S f v)(hS:S<=w.heap.size)(d:∀k,k<w.heap.size->(k<S\/v.2.ownBlock=some k)->w'.heap[k]?=w.heap[k]?):Tn w' S f v:=by
 obtain⟨⟨A,cap,b,c,l,i⟩,e⟩:=h;exact⟨⟨A,cap,b,c,l,i.ah fun p j=>zL (d _ (by omega) (.inl j))⟩,e.ah fun k b c=>d k b (.inr c)⟩
theorem Lays.ah {w w':World}{S:Nat}(hS:S<=w.heap.size):∀{d:List (List It×List UInt8)} {b:List (Value×Value)},Lays w S d b->(∀k,k<w.heap.size->(k<S\/∃u∈b,u.2.ownBlock=some k)->w'.heap[k]?=w.heap[k]?)->Lays w' S d b
 | [],[],_,_=>trivial
 |f::d,v::b,h,hk=>⟨h.1.ah hS fun k c e=>hk k c (e.imp id fun h=>⟨v,by simp,h⟩),h.2.1,Lays.ah hS h.2.2 fun k c e=>hk k c (e.imp id fun⟨u,hu,h⟩=>⟨u,by simp[hu],h⟩)⟩
theorem Lays.ge {w:World}{S:Nat}:∀{c:List (List It×List UInt8)} {b:List (Value×Value)},Lays w S c b->∀u∈b,∀g,u.2.ownBlock=some g->S<=g/\g<w.heap.size/\∃e d,w.heap[g]?=some (.cells e 5 d)
 | [],[],_,u,hu,_,_=>by cases hu
 |f::c,v::b,h,u,hu,g,hg=>by
  rcases xA.1 hu with rfl|hu
  ·exact h.1.2.ge g hg
  exact Lays.ge h.2.2 u hu g hg
structure Lay (w:World)(S g cap:Nat)(fs:List (List It×List UInt8))(vs:List (Value×Value)):Prop where
 row:w.ownsRow S 182 2 (.slice (some ⟨g,0,none⟩) fs.length cap) fs.length (dN vs)
 lays:Lays w S fs vs
theorem ga {w:World}{base size g cap n k:Nat}{e:TypeId}{xs:List Value}(h:w.ownsRow base e size (.slice (some ⟨g,0,none⟩) n cap) n xs)(x:k<xs.length)(u:Value):
 (w.setCell ⟨g,k,none⟩ u).ownsRow base e size (.slice (some ⟨g,0,none⟩) n cap) n (xs.set k u):=by
 obtain⟨m,b⟩:=h;refine⟨by rw[Zu];exact m, ?_⟩;rcases b with⟨b,_⟩|⟨q,r,s,d,c,l,j,i,o,p⟩
 ·cases b
 cases d
 exact .inr ⟨g,cap,_,rfl,c,iR u l,j,i,by simpa using o,by rw[Z8,List.take_set,p]⟩
theorem dx {w:World}{base size g cap n:Nat}{e:TypeId}{xs:List Value}(h:w.ownsRow base e size (.slice (some ⟨g,0,none⟩) n cap) n xs):base<=g/\g<w.heap.size/\n<=cap/\cap<=9223372036854775807/\∃b,w.heap[g]?=some (.cells b e (0,0)):=by
 obtain⟨p,c⟩:=h;rcases c with⟨c,_⟩|⟨m,o,b,j,i,d,l,k,q,r⟩
 ·cases c
 cases j
 exact⟨i,y9 d,l,by simpa[maxLen]using k,b,d⟩
theorem Lay.block {w:World}{S g cap:Nat}{b:List (List It×List UInt8)}{c:List (Value×Value)}(h:Lay w S g cap b c):S<=g/\g<w.heap.size/\b.length<=cap/\cap<=9223372036854775807/\∃d,w.heap[g]?=some (.cells d 182 (0,0)):=dx h.row
theorem Lay.below {w w':World}{S g cap:Nat}{b:List (List It×List UInt8)}{d:List (Value×Value)}(h:Lay w S g cap b d)(hS:S<=w.heap.size)(c:Below w.heap.size w w'):Lay w' S g cap b d:=
 ⟨h.row.kept (dm c) (.inr (by simp[Value.ownBlock])),h.lays.ah hS fun k e _=>c.block k e⟩
theorem Lay.top {w:World}{S g cap:Nat}{f:List It×List UInt8}{b:List (List It×List UInt8)}{v:Value×Value}{c:List (Value×Value)}(h:Lay w S g cap (f::b) (v::c)):
 w.cell? ⟨g,b.length*2,none⟩=some v.1/\w.cell? ⟨g,b.length*2+1,none⟩=some v.2/\w.frozen? ⟨g,b.length*2,none⟩=false/\w.frozen? ⟨g,b.length*2+1,none⟩=false/\(∀i,v.2.ownBlock≠some i\/i≠g):=by
 have o:=h.lays.2.2.length;have n:=bY c;have l:∀j,(⟨g,0,none⟩:Addr).add j=⟨g,j,none⟩:=by intro j;unfold Addr.add;split<;>simp_all
 obtain⟨m,q,_,_,p,d⟩:=h.block;have e:=h.row.cells (g:=g) rfl (b.length*2) v.1 (by
  show(dN c++ [v.1,v.2])[b.length*2]?=_
  rw[yr (by omega),show b.length*2-(dN c).length=0 from by omega];rfl)
 have k:=h.row.cells (g:=g) rfl (b.length*2+1) v.2 (by
  show(dN c++ [v.1,v.2])[b.length*2+1]?=_
  rw[yr (by omega),show b.length*2+1-(dN c).length=1 from by omega];rfl)
 rw[l]at e k;refine⟨e,k,ej d (.inl rfl),ej d (.inl rfl),fun i=> ?_⟩;by_cases hi:i=g
 ·left;subst hi;exact bJ.dX h.lays.1.2 d (by decide)
 exact .inr hi
theorem IG (b:List (Value×Value))(v:Value×Value)(u:Value)(k:Nat)(c:k=b.length*2):(dN (v::b)).set (k+1) u=dN ((v.1,u)::b):=by
 subst c;show(dN b++ [v.1,v.2]).set _ u=dN b++ [v.1,u]
 rw[xF _ _ (by rw[bY];omega),bY,show b.length*2+1-b.length*2=1 from by omega];rfl
theorem vy (b:List (Value×Value))(v:Value×Value)(u:Value)(k:Nat)(c:k=b.length*2):(dN (v::b)).set k u=dN ((u,v.2)::b):=by
 subst c;show(dN b++ [v.1,v.2]).set _ u=dN b++ [u,v.2]
 rw[xF _ _ (by rw[bY];omega),bY,ZX];rfl
theorem bG {w:World}{p:Addr}{u:Value}{k:Nat}(h:k≠p.block):(w.setCell p u).heap[k]?=w.heap[k]?:=by
 simp[World.setCell,ZH,Z5 h]
theorem Lay.bytes {w s:World}{S g cap:Nat}{xs:List It}{b z:List UInt8}{r:List (List It×List UInt8)}{x q d:Value}{y:List (Value×Value)}(h:Lay w S g cap ((xs,b)::r) ((x,q)::y))(hS:S<=w.heap.size)
 (n:l6 w s q d) (I:bJ s S 5 d z):Lay (s.setCell ⟨g,r.length*2+1,none⟩ d) S g cap ((xs,z)::r) ((x,d)::y):=by
 have U:=h.lays.2.2.length;obtain⟨X,O,_,_,Z,G⟩:=h.block;have F:q.ownBlock≠some g:=by
  rcases h.top.2.2.2.2 g with h|h
  ·exact h
  exact absurd rfl h
 have J:d.ownBlock≠some g:=by
  rcases n.own with e|⟨i,e,hi⟩
  ·rw[e];exact F
  rw[e];intro o;injection o with o;omega
 have D:=ga (k:=r.length*2+1) (h.row.kept n.grown (.inr (by simp only[Value.ownBlock];exact Z5 F))) (by rw[bY];simp;omega) d;rw[IG y (x,q) d _ (by omega)]at D;refine⟨D,⟨⟨?_, ?_⟩, ?_, ?_⟩⟩
 ·obtain⟨⟨A,c,N,o,M,H⟩,_⟩:=h.lays.1;refine⟨A,c,N,o,M,H.ah fun p R=>zL ?_⟩;rw[bG (by simp;omega),n.block (by omega) (fun e=>by have:=(h.lays.1.2.ge _ e).1;omega)]
 ·refine I.ah fun k C L=>bG ?_
  intro e;simp only at e;subst e;exact J L
 ·intro u hu i hi E;rcases n.own with e|⟨j,e,hj⟩
  ·exact h.lays.2.1 u hu i (by rw[<-e];exact hi) E
  have m:=(h.lays.2.2.ge u hu i E).2.1;have hi:d.ownBlock=some i:=hi;rw[e]at hi;injection hi with hi;omega
 refine h.lays.2.2.ah hS fun k C B=> ?_
 have K:k≠g:=by
  rcases B with m|⟨u,hu,m⟩
  ·omega
  rintro rfl;obtain⟨_,_,W,Y,l⟩:=h.lays.2.2.ge u hu k m;rw[G]at l;injection l with l;injection l with _ l;exact absurd l (by decide)
 rw[bG (by simpa using K),n.block C (fun e=> ?_)];rcases B with m|⟨u,hu,m⟩
 ·have:=(h.lays.1.2.ge _ e).1;omega
 exact h.lays.2.1 u hu k e m
theorem Lay.items {w:World}{S g cap:Nat}{xs xs':List It}{b:List UInt8}{j:List (List It×List UInt8)}{n e:Value}{i:List (Value×Value)}(h:Lay w S g cap ((xs,b)::j) ((n,e)::i))(hS:S<=w.heap.size)
 {A:Option Addr} {c:Nat} (z:xs'.length<=c) (q:c<=9223372036854775807) (r:bU w S xs' A 0):Lay (w.setCell ⟨g,j.length*2,none⟩ (.slice A xs'.length c)) S g cap ((xs',b)::j) ((.slice A xs'.length c,e)::i):=by
 have C:=h.lays.2.2.length;obtain⟨F,B,_,_,H,s⟩:=h.block;have o:=ga (k:=j.length*2) h.row (by rw[bY];simp;omega) (.slice A xs'.length c);rw[vy i (n,e) _ _ (by omega)]at o;have l:∀k,k<S\/(∃u∈(n,e)::i,u.2.ownBlock=some k)->k≠g:=by
  intro k m;rcases m with h1|⟨u,hu,h1⟩
  ·omega
  rintro rfl;obtain⟨_,_,D,G,d⟩:=Lays.ge h.lays u hu k h1;rw[s]at d;injection d with d;injection d with _ d;exact absurd d (by decide)
 refine⟨o,⟨⟨⟨A,c,rfl,z,q,r.ah fun p x=>zL (bG (by simpa using l _ (.inl x)))⟩,h.lays.1.2.ah fun k _ y=>bG (by simpa using l _ (.inr ⟨_,by simp,y⟩))⟩,h.lays.2.1,h.lays.2.2.ah hS fun k E m=>bG (by simpa using l _ (m.imp id fun⟨u,hu,h⟩=>⟨u,by simp[hu],h⟩))⟩⟩
theorem Lay.push {w w':World}{S g cap m n:Nat}{d:List (List It×List UInt8)}{j:List (Value×Value)}(h:Lay w S g cap d j)(hS:S<=w.heap.size){s:List It}{A:Option Addr}{c:Nat}(B:s.length<=c)(o:c<=9223372036854775807)(q:bU w S s A 0)
 (z:w'.ownsRow S 182 2 (.slice (some ⟨m,0,none⟩) (d.length+1) n) (d.length+1) (dN j++ [.slice A s.length c,.slice none 0 0])) (l:w.grownBy w' (some g)):
 Lay w' S m n ((s,[])::d) ((.slice A s.length c,.slice none 0 0)::j):=by
 obtain⟨F,C,_,_,H,r⟩:=h.block;refine⟨z,⟨⟨⟨A,c,rfl,B,o,q.ah fun p D=>zL (l.block _ (by omega) (by simp;omega))⟩,bJ.nil _ _ _⟩,(fun u _ i hi=>by cases hi),h.lays.ah hS fun k y x=>l.block k y ?_⟩⟩;intro e;injection e with e;rcases x with h1|⟨u,hu,h1⟩
 ·omega
 subst e;obtain⟨_,_,E,G,b⟩:=h.lays.ge u hu k h1;rw[r]at b;injection b with b;injection b with _ b;exact absurd b (by decide)
theorem Lay.pop {w:World}{S g cap:Nat}{f:List It×List UInt8}{b:List (List It×List UInt8)}{v:Value×Value}{c:List (Value×Value)}(h:Lay w S g cap (f::b) (v::c)):Lay w S g cap b c:=
 ⟨ownsRow_pop (by rw[bY,h.lays.2.2.length]) h.row,h.lays.2.2⟩
def lX (w:World)(k:Nat):Prop:=∀cs fr,w.heap[k]?≠some (.cells cs 226 fr)
theorem lX.of_eq {w w':World}{k:Nat}(h:lX w k)(e:w'.heap[k]?=w.heap[k]?):lX w' k:=by
 intro b c;rw[e];exact h b c
theorem lX.Kn {w:World}{k:Nat}{b:Array Value}{t:TypeId}{c:Nat×Nat}(h:w.heap[k]?=some (.cells b t c))(d:t≠226):lX w k:=by
 intro j i e;rw[h]at e;injection e with e;injection e with _ e;exact d e
def Ww (w:World)(m hi:Nat)(f:List It×Nat)(v:Value×Value):Prop:=
 v.2= .int .i64 f.2/\(∀g,v.1.ownBlock=some g->g<hi)/\∃cs,w.ownsRow m 28 3 v.1 f.1.length cs/\fH w (fun k=>m<=k/\k<hi/\v.1.ownBlock≠some k/\lX w k) f.1 cs
def Mw (w:World)(lo:Nat):Nat->List (List It×Nat)->List (Value×Value)->Prop
 |_,[],[]=>True
 |hi,f::fs,v::vs=>∃m,lo<=m/\m<=hi/\Ww w m hi f v/\Mw w lo m fs vs
 |_,_,_=>False
theorem Mw.length {w:World}{d:Nat}:∀{b:List (List It×Nat)} {c:List (Value×Value)} {hi:Nat},Mw w d hi b c->c.length=b.length
 | [],[],_,_=>rfl
 |f::b,v::c,hi,h=>by
  obtain⟨m,_,_,_,h⟩:=h;simp[Mw.length h]
theorem Ww.ah {w w':World}{m hi d:Nat}{f:List It×Nat}{v:Value×Value}(h:Ww w m hi f v)(l:hi<=d)(c:∀k,m<=k->k<hi->k<w.heap.size->lX w k->w'.heap[k]?=w.heap[k]?):Ww w' m d f v:=by
 obtain⟨q,i,j,e,o⟩:=h;refine⟨q,fun g b=>yg (i g b) l,j,⟨e.1, ?_⟩,o.ah (fun k n hS=>⟨hS.1,by omega,hS.2.2.1,hS.2.2.2.of_eq (c k hS.1 hS.2.1 n hS.2.2.2)⟩) fun p s hS=>zL (c _ hS.1 hS.2.1 s hS.2.2.2)⟩;rcases e.2 with h5|⟨g,cap,cur,hv,b,hh',r⟩
 ·exact .inl h5
 exact .inr ⟨g,cap,cur,hv,b,(c g b (i g (by rw[hv];rfl)) (y9 hh') (lX.Kn hh' (by decide))).trans hh',r⟩
theorem Mw.ah {w w':World}{c:Nat}:∀{e:List (List It×Nat)} {d:List (Value×Value)} {hi:Nat},Mw w c hi e d->(∀k,c<=k->k<hi->k<w.heap.size->lX w k->w'.heap[k]?=w.heap[k]?)->Mw w' c hi e d
 | [],[],_,_,_=>trivial
 |f::e,v::d,hi,h,hk=>by
  obtain⟨m,j,n,l,i⟩:=h;exact⟨m,j,n,l.ah (zf _) fun k a b=>hk k (by omega) b,Mw.ah i fun k a b=>hk k a (by omega)⟩
theorem Mw.up {w:World}{d hi e:Nat}{c:List (List It×Nat)}{b:List (Value×Value)}(h:Mw w d hi c b)(i:hi<=e):Mw w d e c b:=by
 match c,b,h with
 | [],[],_=>trivial
 |f::c,v::b,h=>
  obtain⟨m,j,n,l,k⟩:=h;exact⟨m,j,by omega,l.ah i fun _ _ _ _ _=>rfl,k⟩
structure sF (w:World)(lo hi g cap:Nat)(fs:List (List It×Nat))(vs:List (Value×Value)):Prop where
 row:w.ownsRow lo 226 2 (.slice (some ⟨g,0,none⟩) fs.length cap) fs.length (dN vs)
 rds:Mw w lo hi fs vs
 le:hi<=w.heap.size
theorem sF.block {w:World}{c hi g cap:Nat}{b:List (List It×Nat)}{d:List (Value×Value)}(h:sF w c hi g cap b d):c<=g/\g<w.heap.size/\b.length<=cap/\cap<=9223372036854775807/\∃e,w.heap[g]?=some (.cells e 226 (0,0)):=dx h.row
theorem sF.below {w w':World}{c hi g cap:Nat}{e:List (List It×Nat)}{d:List (Value×Value)}(h:sF w c hi g cap e d)(b:Below w.heap.size w w'):sF w' c hi g cap e d:=
 ⟨h.row.kept (dm b) (.inr (by simp[Value.ownBlock])),h.rds.ah fun k _ _ i _=>b.block k i,zK h.le b.size⟩
theorem sF.only {w w':World}{b hi g cap:Nat}{j:List (List It×Nat)}{i:List (Value×Value)}(h:sF w b hi g cap j i){L:List Nat}(d:ae L w w')(e:∀k,k∈L->k<b):sF w' b hi g cap j i:=by
 obtain⟨n,l,_,_,q,o⟩:=h.block;refine⟨⟨h.row.1, ?_⟩,h.rds.ah fun k p _ m _=>d.block k m fun c=>by have:=e k c;omega,zK h.le d.size⟩;rcases h.row.2 with h2|⟨g',aj,rE,hv,hb,hh',r⟩
 ·exact .inl h2
 injection hv with KI kb DS;injection KI with KI;injection KI with KI;subst KI;exact .inr ⟨g,aj,rE,by rw[DS],hb,(d.block g l fun c=>by have:=e g c;omega).trans hh',r⟩
theorem sF.top {w:World}{k hi g cap:Nat}{f:List It×Nat}{b:List (List It×Nat)}{v:Value×Value}{c:List (Value×Value)}(h:sF w k hi g cap (f::b) (v::c)):
 w.cell? ⟨g,b.length*2,none⟩=some v.1/\w.cell? ⟨g,b.length*2+1,none⟩=some (.int .i64 f.2)/\w.frozen? ⟨g,b.length*2,none⟩=false/\w.frozen? ⟨g,b.length*2+1,none⟩=false:=by
 obtain⟨m,_,_,l,n⟩:=h.rds;have r:=n.length;have q:=bY c;have o:∀j,(⟨g,0,none⟩:Addr).add j=⟨g,j,none⟩:=by intro j;unfold Addr.add;split<;>simp_all
 obtain⟨p,u,_,_,s,i⟩:=h.block;have e:=h.row.cells (g:=g) rfl (b.length*2) v.1 (by
  show(dN c++ [v.1,v.2])[b.length*2]?=_
  rw[yr (by omega),show b.length*2-(dN c).length=0 from by omega];rfl)
 have d:=h.row.cells (g:=g) rfl (b.length*2+1) v.2 (by
  show(dN c++ [v.1,v.2])[b.length*2+1]?=_
  rw[yr (by omega),show b.length*2+1-(dN c).length=1 from by omega];rfl)
 rw[o]at e d;rw[l.1]at d;exact⟨e,d,ej i (.inl rfl),ej i (.inl rfl)⟩
theorem sF.pop {w:World}{b hi g cap:Nat}{f:List It×Nat}{d:List (List It×Nat)}{v:Value×Value}{c:List (Value×Value)}(h:sF w b hi g cap (f::d) (v::c)):
 ∃m,b<=m/\m<=hi/\Ww w m hi f v/\sF w b m g cap d c:=by
 obtain⟨m,j,i,k,e⟩:=h.rds;exact⟨m,j,i,k,⟨ownsRow_pop (by rw[bY,e.length]) h.row,e,zK i h.le⟩⟩
theorem Ww.list {w:World}{m hi:Nat}{acc:List It}{x:Nat}{v:Value×Value}(h:Ww w m hi (acc,x) v)(i:acc.length<=9223372036854775807):
 ∃A cap,v.1= .slice A acc.length cap/\acc.length<=cap/\cap<=9223372036854775807/\∀c,acc.length<=c->c<=9223372036854775807->fO w (fun k=>m<=k/\lX w k) (gD acc) (.string ⟨#[]⟩) (.bool true) (.slice A acc.length c):=by
 obtain⟨_,E,C,l,z⟩:=h;rcases l.2 with⟨b,d⟩|⟨g,cap,D,e,o,y,s,q,_⟩
 ·have d:acc.length=0:=d;obtain rfl:acc= []:=zw d;exact⟨none,0,b,by simp,by simp,fun c _ r=>⟨rfl,rfl,ym _,i,none,c,rfl,ym _,r,trivial⟩⟩
 refine⟨some ⟨g,0,none⟩,cap,e,s,by simpa[maxLen]using q,fun c B n=>⟨rfl,rfl,ym _,i,some ⟨g,0,none⟩,c,rfl,B,n, ?_⟩⟩;refine mJ.eL ⟨o,lX.Kn y (by decide)⟩ (z.ah (fun k _ h=>⟨h.1,h.2.2.2⟩) (fun _ _ _=>rfl)) fun j u hu=> ?_
 have p:v.1.ownBlock=some g:=by rw[e];rfl
 have:=l.cells p j u hu;have b:(⟨g,0,none⟩:Addr).add j=⟨g,j,none⟩:=by unfold Addr.add;split<;>simp_all
 rw[b]at this;simpa using this
theorem sF.push {w w':World}{c hi g cap l m:Nat}{d:List (List It×Nat)}{i:List (Value×Value)}(h:sF w c hi g cap d i)(j:Nat)
 (n:w'.ownsRow c 226 2 (.slice (some ⟨l,0,none⟩) (d.length+1) m) (d.length+1) (dN i++ [.slice none 0 0,.int .i64 j])) (b:w.grownBy w' (some g)) (p:c<=hi):
 sF w' c w'.heap.size l m (([],j)::d) ((.slice none 0 0,.int .i64 j)::i):=by
 obtain⟨x,s,_,_,u,q⟩:=h.block;refine⟨n,⟨hi,p,zK h.le b.size,⟨rfl,(fun g b=>by cases b),[],World.ownsRow_nil _ _ _ _,rfl⟩,h.rds.ah fun k _ _ r o=>b.block k r ?_⟩,zf _⟩;intro e;injection e with e;subst e;exact o _ _ q
theorem sF.first {w:World}{b g cap:Nat}(c:Nat)(e:w.ownsRow b 226 2 (.slice (some ⟨g,0,none⟩) 1 cap) 1 [.slice none 0 0,.int .i64 c])(h:b<=w.heap.size):sF w b w.heap.size g cap [([],c)] [(.slice none 0 0,.int .i64 c)]:=
 ⟨e,⟨b,zf _,h,⟨rfl,(fun g d=>by cases d),[],World.ownsRow_nil _ _ _ _,rfl⟩,trivial⟩,zf _⟩
theorem sF.added {w i:World}{x m hi g cap b u:Nat}{acc:List It}{en:Nat}{h:List (List It×Nat)}{c z:Value}{A:List (Value×Value)}{r:List Value}{N z1 Y n l o:Value}{y:It}
 (U:w.ownsRow x 226 2 (.slice (some ⟨g,0,none⟩) (h.length+1) cap) (h.length+1) (dN ((c,z)::A))) (ad:hi<=w.heap.size) (eH:x<=m) (rF:m<=hi) (KI:z= .int .i64 en) (bK:∀g,c.ownBlock=some g->g<hi)
 (I:w.ownsRow m 28 3 c acc.length r) (rM:fH w (fun k=>m<=k/\k<hi/\c.ownBlock≠some k/\lX w k) acc r) (Z:Mw w x m h A) (hy:fO w (fun k=>hi<=k/\lX w k) y n l o)
 (H:w.grownBy i c.ownBlock) (W:i.ownsRow m 28 3 (.slice (some ⟨b,0,none⟩) (acc.length+1) u) (acc.length+1) (r++ [N,z1,Y])) (D:c.ownBlock=some b\/w.heap.size<=b):
 sF ((((i.setCell ⟨b,acc.length*3,none⟩ n).setCell ⟨b,acc.length*3+1,none⟩ l).setCell ⟨b,acc.length*3+2,none⟩ o).setCell ⟨g,h.length*2,none⟩ (.slice (some ⟨b,0,none⟩) (acc.length+1) u)) x i.heap.size g cap ((acc++ [y],en)::h) ((.slice (some ⟨b,0,none⟩) (acc.length+1) u,z)::A):=by
 have hl:=Z.length;obtain⟨KU,lT,af,Q4,ag,E⟩:=dx U;have ab:=I.1;have M:c.ownBlock≠some g:=by
  intro e;rcases I.2 with⟨L,_⟩|⟨g2,cr,X',J,_,s,_⟩
  ·rw[L]at e;cases e
  rw[J]at e;have:g2=g:=by simpa[Value.ownBlock]using e
  subst this;rw[E]at s;injection s with s;injection s with _ s;exact absurd s (by decide)
 have aa:b≠g:=by
  rcases D with e|e
  ·intro j;exact M (by rw[e,j])
  omega
 have O:=ga (ga (ga W (k:=acc.length*3) (by simp;omega) n) (k:=acc.length*3+1) (by simp;omega) l) (k:=acc.length*3+2) (by simp;omega) o;have RQ:(((r++ [N,z1,Y]).set (acc.length*3) n).set (acc.length*3+1) l).set (acc.length*3+2) o=r++ [n,l,o]:=by
  rw[<-ab,xF _ _ (by omega),xF _ _ (by omega),xF _ _ (by omega)];simp
 rw[RQ]at O;have C:∀k,k<w.heap.size->c.ownBlock≠some k->k≠g->((((i.setCell ⟨b,acc.length*3,none⟩ n).setCell ⟨b,acc.length*3+1,none⟩ l).setCell ⟨b,acc.length*3+2,none⟩ o).setCell ⟨g,h.length*2,none⟩ (.slice (some ⟨b,0,none⟩) (acc.length+1) u)).heap[k]?=w.heap[k]?:=by
  intro k d K X;have B:k≠b:=by
   rcases D with e|e
   ·intro j;exact K (by rw[e,j])
   omega
  rw[bG (by simpa using X),bG (by simpa using B),bG (by simpa using B),bG (by simpa using B)];exact H.block k d (fun e=>K e.symm)
 have fC:((((i.setCell ⟨b,acc.length*3,none⟩ n).setCell ⟨b,acc.length*3+1,none⟩ l).setCell ⟨b,acc.length*3+2,none⟩ o).setCell ⟨g,h.length*2,none⟩ (.slice (some ⟨b,0,none⟩) (acc.length+1) u)).heap.size=i.heap.size:=by simp[World.setCell]
 have NL:=H.size;have ae:b<i.heap.size:=(dx W).2.1;have RV:i.ownsRow x 226 2 (.slice (some ⟨g,0,none⟩) (h.length+1) cap) (h.length+1) (dN ((c,z)::A)):=U.kept H (.inr (by simp only[Value.ownBlock];exact Z5 M));have F8:=ZF (ZF (ZF RV (a:=⟨b,acc.length*3,none⟩) (by simp[Value.ownBlock];omega) n) (a:=⟨b,acc.length*3+1,none⟩) (by simp[Value.ownBlock];omega) l) (a:=⟨b,acc.length*3+2,none⟩) (by simp[Value.ownBlock];omega) o;have R:=ga F8 (k:=h.length*2) (by rw[bY];simp;omega) (.slice (some ⟨b,0,none⟩) (acc.length+1) u);rw[vy A (c,z) _ _ (by omega)]at R;refine⟨R,⟨m,eH,by omega,⟨KI, ?_,r++ [n,l,o], ?_, ?_⟩, ?_⟩,by rw[fC];exact zf _⟩
 ·intro g2 oW;have:b=g2:=by simpa[Value.ownBlock]using oW
  omega
 ·rw[zp];exact ZF O (a:=⟨g,h.length*2,none⟩) (by simp[Value.ownBlock];exact aa) _
 ·have F:∀k,k<w.heap.size->(hi<=k/\lX w k)->(c.ownBlock≠some k/\k≠g):=fun k d hS=>⟨fun e=>by have:=bK _ e;omega,by rintro rfl;exact hS.2 _ _ E⟩
  have G:∀k,k<w.heap.size->(m<=k/\k<hi/\c.ownBlock≠some k/\lX w k)->(c.ownBlock≠some k/\k≠g):=fun k d hS=>⟨hS.2.2.1,by rintro rfl;exact hS.2.2.2 _ _ E⟩
  refine fH.snoc (fO.ah (w:=w) (S:=fun k=>hi<=k/\lX w k) (fun k d hS=> ?_) (fun p q hS=> ?_) y hy) (rM.ah (fun k d hS=> ?_) fun p q hS=> ?_)
  ·refine⟨by omega,by omega, ?_,hS.2.of_eq (C k d (F k d hS).1 (F k d hS).2)⟩;intro e;have e:b=k:=by simpa[Value.ownBlock]using e
   rcases D with j|j
   ·have:=bK _ j;omega
   omega
  ·exact zL (C _ q (F _ q hS).1 (F _ q hS).2)
  ·refine⟨hS.1,by omega, ?_,hS.2.2.2.of_eq (C k d (G k d hS).1 (G k d hS).2)⟩;intro e;have e:b=k:=by simpa[Value.ownBlock]using e
   rcases D with j|j
   ·exact hS.2.2.1 (by rw[j,e])
   omega
  exact zL (C _ q (G _ q hS).1 (G _ q hS).2)
 refine Z.ah fun k K X B h4=>C k B (fun e=> ?_) (by rintro rfl;exact h4 _ _ E)
 rcases I.2 with⟨L,_⟩|⟨g2,cr,X',J,aM,_⟩
 ·rw[L]at e;cases e
 rw[J]at e;have:g2=k:=by simpa[Value.ownBlock]using e
 omega
theorem lD {w:World}{a b:Addr}(h:a.block≠b.block)(x y:Value):(w.setCell a x).setCell b y=(w.setCell b y).setCell a x:=by
 unfold World.setCell;dsimp only;congr 1
 apply Array.ext
 ·simp
 intro i j k;simp only[Array.getElem_modify];by_cases c:a.block=i
 ·have d:¬b.block=i:=fun e=>h (c.trans e.symm)
  simp[c,d]
 simp[c]
theorem rq {w:World}{ops:Array Oper}{o:Oper}{a:Act}{K:Act->World->Prop}{Q:Exit->Act->World->Prop}{I:Prop}(N:o.guard=none)(s x:Operand)
 (A:o.op= .call {callee:= .builtin .append,args:= #[s,x],argTypes:= #[26,26]}) (m n:Nat) {v:Value} {e:List Value} (F:a.eval s=v) (l:w.ownsRow m 28 3 v n e) (B:Nat)
 (hx:a.eval x= .slice (some ⟨B,0,none⟩) 1 1) (H:af w B 28 #[.string ⟨#[]⟩,.bool false,.slice none 0 0]) (R:n<=1000000) (L:m<=w.heap.size)
 (E:∀b c w',Hid (w'.ownsRow m 28 3 (.slice (some ⟨b,0,none⟩) (n+1) c) (n+1) (e++ [.string ⟨#[]⟩,.bool false,.slice none 0 0]))->Hid (w.grownBy w' v.ownBlock)->Hid (v.ownBlock=some b\/w.heap.size<=b)->n+1<=c->c<=9223372036854775807->
  w'.cell? ⟨b,n*3,none⟩=some (.string ⟨#[]⟩)->w'.cell? ⟨b,n*3+1,none⟩=some (.bool false)->w'.cell? ⟨b,n*3+2,none⟩=some (.slice none 0 0)->
  w'.frozen? ⟨b,n*3,none⟩=false->w'.frozen? ⟨b,n*3+1,none⟩=false->w'.frozen? ⟨b,n*3+2,none⟩=false->K (a.put o.dst (.slice (some ⟨b,0,none⟩) (n+1) c)) w'):
 if Region.wanted o (yielded ops a.tmps)=true then Oper.wp prog o a w K Q else I:=by
 obtain⟨i0,hi,D,J,G⟩:=yT BE;refine step_append_lies w N s x 26 A m 28 i0 _ 3 48 underlying26 hi D J G rfl (by decide) v n e F l ⟨B,0,none⟩ 1 1 [.string ⟨#[]⟩,.bool false,.slice none 0 0] hx rfl ?_ ?_ (by decide) (by simp only[maxLen];omega) (by omega) L w.heap.size rfl ?_
 ·exact fun j u hu=>ZS H j u (by simpa using hu)
 ·intro u hu;simp at hu;rcases hu with rfl|rfl|rfl<;>rfl
 intro b c w' d z C U;obtain⟨_,_,M,y,S,i⟩:=dx d;have k:=l.1;have O:∀j,(⟨b,0,none⟩:Addr).add j=⟨b,j,none⟩:=by intro j;unfold Addr.add;split<;>simp_all
 have q:=d.cells (g:=b) rfl (n*3) (.string ⟨#[]⟩) (by rw[yr (by omega),k,ZX];rfl);have r:=d.cells (g:=b) rfl (n*3+1) (.bool false) (by rw[yr (by omega),k,show n*3+1-n*3=1 from by omega];rfl);have p:=d.cells (g:=b) rfl (n*3+2) (.slice none 0 0) (by rw[yr (by omega),k,show n*3+2-n*3=2 from by omega];rfl);rw[O]at q r p;exact E b c w' (za d) (za z) (za (C.imp id fun h=>by omega)) M y q r p (ej i (.inl rfl)) (ej i (.inl rfl)) (ej i (.inl rfl))
theorem FC (W:World)(c b:Nat)(A:Option Addr)(i:Nat)(t:ByteArray)(l:Bool)(j:Option Addr)(n2 k2:Nat)(m n k:Value)(r:i<=9223372036854775807)(h:af W c 223 #[.slice A 0 i])(d:af W b 28 #[m,n,k])(u:c≠b):
 Calls prog 178 #[.agg #[.string t,.bool l,.slice j n2 k2],.pointer (some ⟨c,0,none⟩),.pointer (some ⟨b,0,none⟩)] W fun e w'=>e= .returned (.tuple #[])/\af w' b 28 #[.string t,.bool l,.slice j n2 k2]/\ae [b] W w':=by
 have p:=h.cell 0;have p:W.cell? ⟨c,0,none⟩=some (.slice A 0 i):=h.cell 0;have q:=h.lt;have s:=d.lt;obtain⟨g0,g1,g2,f0,f1,f2⟩:=a8 d;have o:=za d;clear h d;go_enter func178,ntmps178
 go_wp2;refine zo (v:= .tuple #[]) (results_none rfl _ _ _) rfl ⟨rfl,((((o.out.set 0 _).set 1 _).set 2 _).alloc _), ?_⟩;exact((((ae.refl [b] W).setCell (by simp) _).setCell (by simp) _).setCell (by simp) _).alloc _
theorem FD (W:World)(s hi g K b9 Vh:Nat)(acc:List It)(G:Nat)(E:List (List It×Nat))(v0 v1:Value)(vs:List (Value×Value))(y:It)(c0 c1 c2:Value)
 (S:af W b9 223 #[.slice (some ⟨g,0,none⟩) (E.length+1) K]) (u:sF W s hi g K ((acc,G)::E) ((v0,v1)::vs)) (Z:fO W (fun k=>hi<=k/\lX W k) y c0 c1 c2) (ad:acc.length<=1000000):
 Calls prog 178 #[.agg #[c0,c1,c2],.pointer (some ⟨b9,0,none⟩),.pointer (some ⟨Vh,0,none⟩)] W fun e w'=>e= .returned (.tuple #[])/\Below s W w'/\∃Q5,sF w' s w'.heap.size g K ((acc++ [y],G)::E) ((Q5,v1)::vs):=by
 have HR:=za u;obtain⟨m,eH,rF,⟨KI,H,cs,C,X⟩,Gi⟩:=u.rds;obtain⟨KU,lT,pc,av,ar,hh⟩:=u.block;obtain⟨t0,t1,KV,Np⟩:=u.top;have ak:=u.le;simp only[zD]at pc;dsimp only at KI H C X t0;have B0:=za C;have GD:=za X;have GC:=za Gi;have Du:=za H;have HY:=za Z;have HF:Hid (∃A n cap,v0= .slice A n cap/\n=acc.length/\n<=cap/\cap<=9223372036854775807):=za (by
  rcases C.2 with⟨e1,M⟩|⟨g2,cr,X',Y,_,_,Gv,rF,_⟩
  ·exact⟨none,0,0,e1,M.symm,by simp,by simp⟩
  exact⟨_,_,cr,Y,rfl,Gv,by simpa[maxLen]using rF⟩)
 obtain⟨o,d,q,rfl,oo,DE,az⟩:=HF.out;have F:=za oo;obtain⟨j,l,rfl,rfl,rfl,nK,ay,ax,_⟩:=Z.open_;have ao:=S.cell 0;have au:=S.lt;obtain⟨r,R⟩:∃r,E.length=r:=⟨_,rfl⟩
 have AE:=za R;rw[R]at t0 t1 KV Np pc S ao;have aq:Hid (∀k,W.heap.size<=k->Value.ownBlock (.slice o d q)≠some k):=za (fun k hk e=>by have:=H k e;omega);have U:Hid (Value.ownBlock (.slice o d q)≠some g):=za (by
  intro e;rcases C.2 with⟨e1,_⟩|⟨g2,cr,X',Y,_,w,_⟩
  ·rw[e1]at e;cases e
  rw[Y]at e;have:g2=g:=by simpa[Value.ownBlock]using e
  subst this;rw[hh]at w;injection w with w;injection w with _ w;exact absurd w (by decide))
 subst KI;clear X Gi H C Z u hh R oo;have an:Hid (af (((W.alloc (.cells #[.string y.text,.bool y.list,.slice j y.sub.length l] 28)).drew).alloc (.cells #[.string ⟨#[]⟩,.bool false,.slice none 0 0] 28)) (W.heap.size+1) 28 #[.string ⟨#[]⟩,.bool false,.slice none 0 0]):=za (by have:=af.new (W.alloc (.cells #[.string y.text,.bool y.list,.slice j y.sub.length l] 28)).drew 28 #[.string ⟨#[]⟩,.bool false,.slice none 0 0];simpa using this);have wv:Hid (af (((W.alloc (.cells #[.string y.text,.bool y.list,.slice j y.sub.length l] 28)).drew).alloc (.cells #[.string ⟨#[]⟩,.bool false,.slice none 0 0] 28)) W.heap.size 28 #[.string y.text,.bool y.list,.slice j y.sub.length l]):=za (((af.new W 28 #[.string y.text,.bool y.list,.slice j y.sub.length l]).drew).alloc _);have ab:Hid ((((W.alloc (.cells #[.string y.text,.bool y.list,.slice j y.sub.length l] 28)).drew).alloc (.cells #[.string ⟨#[]⟩,.bool false,.slice none 0 0] 28)).ownsRow m 28 3 (.slice o d q) acc.length cs):=za ((B0.out.alloc _).drew.alloc _);have B:Hid (Below W.heap.size W (((W.alloc (.cells #[.string y.text,.bool y.list,.slice j y.sub.length l] 28)).drew).alloc (.cells #[.string ⟨#[]⟩,.bool false,.slice none 0 0] 28))):=za ((((zq W.heap.size W).alloc (zf _) _).drew).alloc (by simp) _);have aa:Hid (g<(((W.alloc (.cells #[.string y.text,.bool y.list,.slice j y.sub.length l] 28)).drew).alloc (.cells #[.string ⟨#[]⟩,.bool false,.slice none 0 0] 28)).heap.size):=za (by simp;omega)
 have ae:Hid ((((W.alloc (.cells #[.string y.text,.bool y.list,.slice j y.sub.length l] 28)).drew).alloc (.cells #[.string ⟨#[]⟩,.bool false,.slice none 0 0] 28)).cell? ⟨g,r*2,none⟩=some (.slice o d q)/\(((W.alloc (.cells #[.string y.text,.bool y.list,.slice j y.sub.length l] 28)).drew).alloc (.cells #[.string ⟨#[]⟩,.bool false,.slice none 0 0] 28)).frozen? ⟨g,r*2,none⟩=false):=za ⟨(B.out.cell lT).trans t0,(B.out.frozen lT).trans KV⟩;have ag:Hid (∀i:Nat,(Value.ownBlock (.slice o d q)=some i\/(((W.alloc (.cells #[.string y.text,.bool y.list,.slice j y.sub.length l] 28)).drew).alloc (.cells #[.string ⟨#[]⟩,.bool false,.slice none 0 0] 28)).heap.size<=i)->i≠g):=za (fun i h e=>by
  subst e;rcases h with h|h
  ·exact U.out h
  have:=aa.out;omega)
 have YA:Hid (m<=(((W.alloc (.cells #[.string y.text,.bool y.list,.slice j y.sub.length l] 28)).drew).alloc (.cells #[.string ⟨#[]⟩,.bool false,.slice none 0 0] 28)).heap.size):=za (by simp;omega);rw[<-F.out]at ad;rw[<-F.out]at ab;have aw:(d:Int)<d+1:=by omega
 go_enter func178,ntmps178
 go_wp2_with fail
 go_region_law (refine rq (by rfl) (.tmp 17) (.tmp 20) (by rfl) m d (by rfl) ab.out (W.heap.size+1) (by rfl) an.out ad YA.out ?_;intro i D p NR z J DL wH q0 q1 q2 Vi aj ai;obtain⟨x0,x1,x2,_⟩:=a8 (wv.out.grown z.out (aq.out _ (zf _)));have e3:p.cell? ⟨g,r*2,none⟩=some (.slice o d q):=(z.out.cell_far ⟨g,r*2,none⟩ aa.out (Z5 U.out)).trans ae.out.1;have e4:p.frozen? ⟨g,r*2,none⟩=false:=(z.out.frozen_far ⟨g,r*2,none⟩ aa.out (Z5 U.out)).trans ae.out.2;have al:i≠g:=ag.out i J.out;have N:g≠i:=Z5 al)
 all_goals
  have HD:Hid (sF ((((p.setCell ⟨i,d*3,none⟩ (.string y.text)).setCell ⟨i,d*3+1,none⟩ (.bool y.list)).setCell ⟨i,d*3+2,none⟩ (.slice j y.sub.length l)).setCell ⟨g,r*2,none⟩ (.slice (some ⟨i,0,none⟩) (d+1) D)) s p.heap.size g K ((acc++ [y],G)::E) ((.slice (some ⟨i,0,none⟩) (d+1) D,.int .i64 G)::vs)):=za (by
   have I:=J.out;have L:=NR.out;rw[<-AE.out,F.out];rw[F.out]at L;exact sF.added HR.out.row ak eH rF rfl Du.out B0.out GD.out GC.out HY.out ((jS (dm B.out) _).trans z.out) L (I.imp id fun h=>zK B.out.size h))
  have Ca:Hid (Below s W ((((p.setCell ⟨i,d*3,none⟩ (.string y.text)).setCell ⟨i,d*3+1,none⟩ (.bool y.list)).setCell ⟨i,d*3+2,none⟩ (.slice j y.sub.length l)).setCell ⟨g,r*2,none⟩ (.slice (some ⟨i,0,none⟩) (d+1) D))):=za (by
   have I:∀k,Value.ownBlock (.slice o d q)=some k->s<=k:=fun k hk=>zK eH (B0.out.lt k hk).1
   have O:s<=i:=by
    rcases J.out with e|e
    ·exact I _ e
    have M:=e;simp at M;omega
   exact((((((B.out.mono (by omega)).grown z.out (by simp;omega) I).setCell (by simpa using O) _).setCell (by simpa using O) _).setCell (by simpa using O) _).setCell (by simpa using KU) _))
  have ah:Hid (∀(v:World) (x a b c:Value),(((v.setCell ⟨g,r*2,none⟩ x).setCell ⟨i,d*3,none⟩ a).setCell ⟨i,d*3+1,none⟩ b).setCell ⟨i,d*3+2,none⟩ c=(((v.setCell ⟨i,d*3,none⟩ a).setCell ⟨i,d*3+1,none⟩ b).setCell ⟨i,d*3+2,none⟩ c).setCell ⟨g,r*2,none⟩ x):=za (fun v x a b c=>by rw[lD (a:=⟨g,r*2,none⟩) (b:=⟨i,d*3,none⟩) N,lD (a:=⟨g,r*2,none⟩) (b:=⟨i,d*3+1,none⟩) N,lD (a:=⟨g,r*2,none⟩) (b:=⟨i,d*3+2,none⟩) N]);clear NR z J q0 q1 q2 Vi aj ai x0 x1 x2 e3 e4;go_wp2;go_end0
  try rw[ah.out]
  refine⟨rfl,Ca.out,.slice (some ⟨i,0,none⟩) (d+1) D, ?_⟩;have L:=HD.out;have hz:((((p.setCell ⟨i,d*3,none⟩ (.string y.text)).setCell ⟨i,d*3+1,none⟩ (.bool y.list)).setCell ⟨i,d*3+2,none⟩ (.slice j y.sub.length l)).setCell ⟨g,r*2,none⟩ (.slice (some ⟨i,0,none⟩) (d+1) D)).heap.size=p.heap.size:=by simp[World.setCell]
  rw[hz];exact L
def kT (z:Nat):List (List It×Nat)->Nat
 | []=>z
 |f::_=>f.2
def Ends (z:Nat):List (List It×Nat)->Prop
 | []=>True
 |f::fs=>f.2<=kT z fs/\Ends z fs
theorem Ends.top {z:Nat}:∀{b:List (List It×Nat)},Ends z b->kT z b<=z
 | [],_=>zf _
 |f::b,h=>zK h.1 (Ends.top h.2)
def mV :List (List It×Nat)->Nat
 | []=>0
 |f::fs=>f.1.length+1+mV fs
theorem lE :∀(b:List (List It×Nat)),b.length<=mV b
 | []=>zf _
 |f::b=>by have:=lE b;simp[mV];omega
def rr (D M:Int)(s:ByteArray)(R:Rd)(b:Bool):List (List It×Nat)->Nat->Nat->Prop
 | [],at_,count=>b=true/\at_=0/\count=0/\bp D M s 1 0=R
 |(acc,en)::fs,at_,count=>b=false/\at_<en/\fin D M s acc en fs at_ count=R/\Ends s.size ((acc,en)::fs)/\mV ((acc,en)::fs)<=count/\count<=1024
def qe (D M:Int)(s:ByteArray)(R:Rd):List (List It×Nat)->Nat->Nat->Prop
 | [],at_,_=>R.e=0/\R.size=at_
 |(acc,en)::fs,at_,count=>at_<=en/\fin D M s acc en fs at_ count=R/\Ends s.size ((acc,en)::fs)/\mV ((acc,en)::fs)<=count/\count<=1024
theorem rr.le {D M:Int}{s:ByteArray}{R:Rd}{b:Bool}{c:List (List It×Nat)}{at_ count:Nat}(h:rr D M s R b c at_ count):at_<=kT s.size c/\kT s.size c<=s.size/\count<=1024/\c.length<=1024/\(b=true↔c= []):=by
 match c,h with
 | [],h=>obtain⟨rfl,rfl,rfl,h⟩:=h;simp[kT]
 |(acc,en)::c,h=>
  obtain⟨rfl,i,m,j,l,d⟩:=h;have k:=lE ((acc,en)::c);have e:=j.top;exact⟨Ys i,e,d,by omega,by simp⟩
theorem ru (s:ByteArray):s.extract 0 s.size=s:=by
 apply aL;rw[aq,zQ,zC (by simp)]
theorem rr.err {D M:Int}{s:ByteArray}{R:Rd}{b:Bool}{c:List (List It×Nat)}{at_ count:Nat}(h:rr D M s R b c at_ count){l:Bool}{z n:Nat}{e:Int}
 (d:hd (s.extract at_ (kT s.size c)) (aE D (c.length+1)) (aF M count)=(l,z,n,e)) (i:e≠0):R=Rd.bad (if b then e else within e):=by
 match c,h with
 | [],h=>
  obtain⟨rfl,rfl,rfl,j⟩:=h;simp only[kT,ru]at d;rw[<-j];exact(qW D M s _ d).1 i
 |(acc,en)::c,h=>
  obtain⟨rfl,k,o,m,q,p⟩:=h;rw[<-o];exact SF D M s acc en c at_ count k m.top _ d i
theorem rr.many {D M:Int}{s:ByteArray}{b:List (List It×Nat)}{at_ count:Nat}{l:Bool}{z n:Nat}{e:Int}
 (c:hd (s.extract at_ (kT s.size b)) (aE D (b.length+1)) (aF M count)=(l,z,n,e)) (d:e=0):count+1<=1024:=by
 have h:=Uq (s.extract at_ (kT s.size b)) (aE D (b.length+1)) (aF M count);rw[c]at h;exact(oE.1 (h d).2.2.1).2
theorem rr.list {D M:Int}{s:ByteArray}{R:Rd}{b:Bool}{c:List (List It×Nat)}{at_ count:Nat}(h:rr D M s R b c at_ count){z n:Nat}
 (d:hd (s.extract at_ (kT s.size c)) (aE D (c.length+1)) (aF M count)=(true,z,n,0)):
 qe D M s R (([],at_+z+n)::c) (at_+z) (count+1)/\at_+z+n<=s.size/\1<=z/\count+1<=1024:=by
 have o:=rr.many d rfl;match c,h with
 | [],h=>
  obtain⟨rfl,rfl,rfl,r⟩:=h;simp only[kT,ru]at d;have e:=sm s (aE D 1) (aF M 0);have i:=(qW D M s _ d).2.2 rfl rfl;rw[show([]:List (List It×Nat)).length+1=1 from rfl]at d;rw[d]at e;have e:=e rfl;dsimp only at e i;rw[r]at i;simp only[zT];exact⟨⟨by omega,i.symm,⟨by simp[kT];omega,trivial⟩,by simp[mV],by omega⟩,by omega,e.2.2.2 rfl,by omega⟩
 |(acc,en)::c,h=>
  obtain⟨rfl,w,q,j,p,x⟩:=h;obtain⟨k,m,l⟩:=OD D M s acc en c at_ count w j.top _ d rfl rfl;dsimp only at k m l;have u:=j.top;simp only[kT]at u;exact⟨⟨by omega,k.symm.trans q,⟨by simp only[kT];exact m,j⟩,by simp only[mV,zS]at p⊢;omega,o⟩,by omega,l,o⟩
theorem rr.text {D M:Int}{s:ByteArray}{R:Rd}{b:Bool}{c:List (List It×Nat)}{at_ count:Nat}(h:rr D M s R b c at_ count){z n:Nat}
 (d:hd (s.extract at_ (kT s.size c)) (aE D (c.length+1)) (aF M count)=(false,z,n,0)):
 at_+z+n<=s.size/\1<=z+n/\count+1<=1024/\(c= []->R=⟨.mk (s.extract (at_+z) (at_+z+n)) false [],at_+z+n,1,0⟩)/\
 (∀acc j k,c=(acc,j)::k->qe D M s R ((acc++ [.mk (s.extract (at_+z) (at_+z+n)) false []],j)::k) (at_+z+n) (count+1)):=by
 have q:=rr.many d rfl;have i:=sm (s.extract at_ (kT s.size c)) (aE D (c.length+1)) (aF M count);rw[d]at i;have i:=i rfl;dsimp only at i;match c,h with
 | [],h=>
  obtain⟨rfl,rfl,rfl,w⟩:=h;simp only[kT,ru]at d i;have l:=(qW D M s _ d).2.1 rfl rfl;dsimp only at l;rw[w]at l;simp only[zT];exact⟨by omega,by omega,by omega,(fun _=>l),(fun _ _ _ e=>by cases e)⟩
 |(acc,j)::c,h=>
  obtain⟨rfl,x,u,m,r,B⟩:=h;obtain⟨o,p⟩:=OC D M s acc j c at_ count x m.top _ d rfl rfl;dsimp only at o p;have y:=m.top;simp only[kT]at y;refine⟨by omega,by omega,q,(fun e=>by cases e),fun A C k e=> ?_⟩;injection e with e1 e2;injection e1 with e3 e4;subst e2;subst e3;subst e4;exact⟨p,o.symm.trans u,m,by simp only[mV,zp,yF]at r⊢;omega,q⟩
theorem qe.next {D M:Int}{s:ByteArray}{R:Rd}{acc:List It}{b:Nat}{c:List (List It×Nat)}{at_ count:Nat}(h:qe D M s R ((acc,b)::c) at_ count)(i:b≠at_):rr D M s R false ((acc,b)::c) at_ count:=by
 obtain⟨e,d⟩:=h;exact⟨rfl,by omega,d⟩
theorem qe.done {D M:Int}{s:ByteArray}{R:Rd}{acc:List It}{b count:Nat}(h:qe D M s R [(acc,b)] b count):R=⟨gD acc,b,count,0⟩:=by
 obtain⟨j,d,c,i,e⟩:=h;rw[<-d];exact OE D M s acc b count c.top
theorem qe.close {D M:Int}{s:ByteArray}{R:Rd}{acc i:List It}{b d count:Nat}{c:List (List It×Nat)}(h:qe D M s R ((acc,b)::(i,d)::c) b count):qe D M s R ((i++ [gD acc],d)::c) b count:=by
 obtain⟨m,j,e,l,k⟩:=h;rw[LH D M s acc b (i,d) c count e.top]at j;exact⟨e.1,j,e.2,by simp only[mV,zp,yF]at l⊢;omega,k⟩
theorem qe.len {D M:Int}{s:ByteArray}{R:Rd}{acc:List It}{c at_ count:Nat}{b:List (List It×Nat)}(h:qe D M s R ((acc,c)::b) at_ count):acc.length<=1024/\b.length<=1024/\c<=s.size:=by
 obtain⟨j,k,e,d,i⟩:=h;have:=lE b;simp only[mV]at d;exact⟨by omega,by omega,e.top⟩
structure Gq (w0 w:World)(A:Option Addr)(r cp:Nat):Prop where
 res:af w w0.heap.size 28 #[.string ⟨#[]⟩,.bool false,.slice none 0 0]
 opn:af w (w0.heap.size+1) 223 #[.slice A r cp]
 who:∃z0 z1 z2,af w (w0.heap.size+2) 28 #[z0,z1,z2]
 bel:Below w0.heap.size w0 w
 siz:w0.heap.size+3<=w.heap.size
 le:r<=cp
 mx:cp<=9223372036854775807
theorem Gq.below {c w w':World}{A:Option Addr}{r d:Nat}(h:Gq c w A r d)(b:Below (c.heap.size+3) w w'):Gq c w' A r d:=by
 obtain⟨z0,e,z2,hz⟩:=h.who;exact⟨h.res.ah b (by omega),h.opn.ah b (by omega),⟨z0,e,z2,hz.ah b (by omega)⟩,h.bel.trans (b.mono (by omega)),zK h.siz b.size,h.le,h.mx⟩
theorem Gq.store {b w:World}{A e:Option Addr}{r j d c:Nat}(h:Gq b w A r j)(k:d<=c)(l:c<=9223372036854775807):Gq b (w.setCell ⟨b.heap.size+1,0,none⟩ (.slice e d c)) e d c:=by
 obtain⟨z0,i,z2,hz⟩:=h.who;refine⟨h.res.dE (p:=⟨b.heap.size+1,0,none⟩) (by simp) _,h.opn.set 0 _,⟨z0,i,z2,hz.dE (p:=⟨b.heap.size+1,0,none⟩) (by simp) _⟩,h.bel.setCell (by simp) _,by have:=h.siz;simp[World.setCell];omega,k,l⟩
theorem Gq.only {c w w':World}{A:Option Addr}{r j:Nat}(h:Gq c w A r j)(b:ae [c.heap.size+2] w w'){e i d:Value}(hz:af w' (c.heap.size+2) 28 #[e,i,d]):Gq c w' A r j:=
 ⟨h.res.only b (by simp),h.opn.only b (by simp),⟨e,i,d,hz⟩,h.bel.trans (b.below h.bel.size (by simp)),zK h.siz b.size,h.le,h.mx⟩
def ry (w:World)(lo:Nat)(A:Option Addr)(cp:Nat)(fs:List (List It×Nat)):Prop:=fs= []\/∃g vs,A=some ⟨g,0,none⟩/\sF w lo w.heap.size g cp fs vs
theorem ry.below {w w':World}{b:Nat}{A:Option Addr}{d:Nat}{e:List (List It×Nat)}(h:ry w b A d e)(c:Below w.heap.size w w'):ry w' b A d e:=by
 rcases h with h|⟨g,vs,h1,h2⟩
 ·exact .inl h
 have i:=h2.below c;exact .inr ⟨g,vs,h1,⟨i.row,i.rds.up c.size,zf _⟩⟩
theorem ry.only {w w':World}{b:Nat}{A:Option Addr}{d:Nat}{e:List (List It×Nat)}{L:List Nat}(h:ry w b A d e)(c:ae L w w')(j:∀k,k∈L->k<b):ry w' b A d e:=by
 rcases h with h|⟨g,vs,h1,h2⟩
 ·exact .inl h
 have i:=h2.only c j;exact .inr ⟨g,vs,h1,⟨i.row,i.rds.up c.size,zf _⟩⟩
def PN (w0 w:World)(x:It):Prop:=∃c0 c1 c2,af w (w0.heap.size+2) 28 #[c0,c1,c2]/\fO w (w0.heap.size+3<= ·) x c0 c1 c2
