/- The stack of rlp.Put: lists whose bytes are being laid. Own text; no program in sight but the types' numbers. -/
import Derived.WalkSmall
import Derived.Test.YtpjgigllldipiaaGreatDoorKA7
set_option linter.all false
set_option maxRecDepth 100000
set_option maxHeartbeats 2000000
namespace Go.Proofs.YtpjgigllldipiaaGreatDoor
open Go.RowKit
def ZE:=@ownsRow_setCell_other
def Z6:=@Ne.symm
theorem bU.ag {w w':World}{B i:Nat}{s:List It}{A:Option Addr}(h:bU w B s A i)(d:∀p:Addr,p.block<B->w'.cell? p=w.cell? p):bU w' B s A i:=bU.En fun j n=>by
 obtain⟨b,o,d0,d1,d2,m,c,l,e,k,hi⟩:=h.at_ j n;exact⟨b,o,d0,d1,d2,m,c,(d _ c).trans l,(d _ c).trans e,(d _ c).trans k,bW.ag (zi _) d _ hi⟩
theorem bU.tail {w:World}{B b o:Nat}:∀{s:List It} {i:Nat},bU w B s (some ⟨b,o,none⟩) (i+1)->bU w B s (some ⟨b,o+3,none⟩) i
 | [],_,_=>trivial
 |x::xs,i,h=>by
  obtain⟨⟨q,r,n,m,p,c,l,k,e,j,hi⟩,d⟩:=h;injection c with c;injection c with wm ho;subst wm;subst ho;refine⟨⟨b,o+3,n,m,p,rfl,l, ?_, ?_, ?_,hi⟩,bU.tail d⟩
  ·rw[show o+3+i*3=o+(i+1)*3 from by omega];exact k
  ·rw[show o+3+i*3+1=o+(i+1)*3+1 from by omega];exact e
  rw[show o+3+i*3+2=o+(i+1)*3+2 from by omega];exact j
def TC (w:World)(S:Nat)(f:List It×List UInt8)(v:Value×Value):Prop:=
 (∃A cap,v.1= .slice A f.1.length cap/\f.1.length<=cap/\cap<=9223372036854775807/\bU w S f.1 A 0)/\bJ w S 5 v.2 f.2
def Lays (w:World)(S:Nat):List (List It×List UInt8)->List (Value×Value)->Prop
 | [],[]=>True
 |f::fs,v::vs=>TC w S f v/\(∀u∈vs,∀g,v.2.ownBlock=some g->u.2.ownBlock≠some g)/\Lays w S fs vs
 |_,_=>False
def dS :List (Value×Value)->List Value
 | []=> []
 |v::vs=>dS vs++ [v.1,v.2]
theorem b8 (b:List (Value×Value)):(dS b).length=b.length*2:=by
 induction b with
 |nil=>rfl
 |cons v b ih=>simp[dS,ih];omega
theorem Lays.length {w:World}{S:Nat}:∀{b:List (List It×List UInt8)} {c:List (Value×Value)},Lays w S b c->c.length=b.length
 | [],[],_=>rfl
 |f::b,v::c,h=>by simp[Lays.length h.2.2]
theorem TC.ag {w w':World}{S:Nat}{f:List It×List UInt8}{v:Value×Value}(h:TC w S f v)(hS:S<=w.heap.size)(d:∀k,k<w.heap.size->(k<S\/v.2.ownBlock=some k)->w'.heap[k]?=w.heap[k]?):TC w' S f v:=by
 obtain⟨⟨A,cap,c,b,j,e⟩,i⟩:=h;exact⟨⟨A,cap,c,b,j,e.ag fun p l=>zK (d _ (by omega) (.inl l))⟩,i.ag fun k c b=>d k c (.inr b)⟩
theorem Lays.ag {w w':World}{S:Nat}(hS:S<=w.heap.size):∀{c:List (List It×List UInt8)} {b:List (Value×Value)},Lays w S c b->(∀k,k<w.heap.size->(k<S\/∃u∈b,u.2.ownBlock=some k)->w'.heap[k]?=w.heap[k]?)->Lays w' S c b
 | [],[],_,_=>trivial
 |f::c,v::b,h,hk=>⟨h.1.ag hS fun k e d=>hk k e (d.imp id fun h=>⟨v,by simp,h⟩),h.2.1,Lays.ag hS h.2.2 fun k e d=>hk k e (d.imp id fun⟨u,hu,h⟩=>⟨u,by simp[hu],h⟩)⟩
theorem Lays.ge {w:World}{S:Nat}:∀{c:List (List It×List UInt8)} {b:List (Value×Value)},Lays w S c b->∀u∈b,∀g,u.2.ownBlock=some g->S<=g/\g<w.heap.size/\∃d e,w.heap[g]?=some (.cells d 5 e)
 | [],[],_,u,hu,_,_=>by cases hu
 |f::c,v::b,h,u,hu,g,hg=>by
  rcases xq.1 hu with rfl|hu
  ·exact h.1.2.ge g hg
  exact Lays.ge h.2.2 u hu g hg
structure Lay (w:World)(S g cap:Nat)(fs:List (List It×List UInt8))(vs:List (Value×Value)):Prop where
 row:w.ownsRow S 182 2 (.slice (some ⟨g,0,none⟩) fs.length cap) fs.length (dS vs)
 lays:Lays w S fs vs
theorem gq {w:World}{base size g cap n k:Nat}{e:TypeId}{xs:List Value}(h:w.ownsRow base e size (.slice (some ⟨g,0,none⟩) n cap) n xs)(x:k<xs.length)(u:Value):
 (w.setCell ⟨g,k,none⟩ u).ownsRow base e size (.slice (some ⟨g,0,none⟩) n cap) n (xs.set k u):=by
 obtain⟨o,b⟩:=h;refine⟨by rw[Zu];exact o, ?_⟩;rcases b with⟨b,_⟩|⟨r,q,s,m,i,p,c,l,d,j⟩
 ·cases b
 cases m
 exact .inr ⟨g,cap,_,rfl,i,iX u p,c,l,by simpa using d,by rw[Z9,List.take_set,j]⟩
theorem dD {w:World}{base size g cap n:Nat}{e:TypeId}{xs:List Value}(h:w.ownsRow base e size (.slice (some ⟨g,0,none⟩) n cap) n xs):base<=g/\g<w.heap.size/\n<=cap/\cap<=9223372036854775807/\∃c,w.heap[g]?=some (.cells c e (0,0)):=by
 obtain⟨r,b⟩:=h;rcases b with⟨b,_⟩|⟨q,p,c,l,j,d,i,k,m,o⟩
 ·cases b
 cases l
 exact⟨j,y7 d,i,by simpa[maxLen]using k,c,d⟩
theorem Lay.block {w:World}{S g cap:Nat}{b:List (List It×List UInt8)}{d:List (Value×Value)}(h:Lay w S g cap b d):S<=g/\g<w.heap.size/\b.length<=cap/\cap<=9223372036854775807/\∃c,w.heap[g]?=some (.cells c 182 (0,0)):=dD h.row
theorem Lay.below {w w':World}{S g cap:Nat}{b:List (List It×List UInt8)}{d:List (Value×Value)}(h:Lay w S g cap b d)(hS:S<=w.heap.size)(c:Below w.heap.size w w'):Lay w' S g cap b d:=
 ⟨h.row.kept (du c) (.inr (by simp[Value.ownBlock])),h.lays.ag hS fun k e _=>c.block k e⟩
theorem Lay.top {w:World}{S g cap:Nat}{f:List It×List UInt8}{b:List (List It×List UInt8)}{v:Value×Value}{c:List (Value×Value)}(h:Lay w S g cap (f::b) (v::c)):
 w.cell? ⟨g,b.length*2,none⟩=some v.1/\w.cell? ⟨g,b.length*2+1,none⟩=some v.2/\w.frozen? ⟨g,b.length*2,none⟩=false/\w.frozen? ⟨g,b.length*2+1,none⟩=false/\(∀i,v.2.ownBlock≠some i\/i≠g):=by
 have p:=h.lays.2.2.length;have m:=b8 c;have l:∀j,(⟨g,0,none⟩:Addr).add j=⟨g,j,none⟩:=by intro j;unfold Addr.add;split<;>simp_all
 obtain⟨n,q,_,_,o,d⟩:=h.block;have e:=h.row.cells (g:=g) rfl (b.length*2) v.1 (by
  show(dS c++ [v.1,v.2])[b.length*2]?=_
  rw[yr (by omega),show b.length*2-(dS c).length=0 from by omega];rfl)
 have k:=h.row.cells (g:=g) rfl (b.length*2+1) v.2 (by
  show(dS c++ [v.1,v.2])[b.length*2+1]?=_
  rw[yr (by omega),show b.length*2+1-(dS c).length=1 from by omega];rfl)
 rw[l]at e k;refine⟨e,k,eC d (.inl rfl),eC d (.inl rfl),fun i=> ?_⟩;by_cases hi:i=g
 ·left;subst hi;exact bJ.dh h.lays.1.2 d (by decide)
 exact .inr hi
theorem IY (b:List (Value×Value))(v:Value×Value)(u:Value)(k:Nat)(c:k=b.length*2):(dS (v::b)).set (k+1) u=dS ((v.1,u)::b):=by
 subst c;show(dS b++ [v.1,v.2]).set _ u=dS b++ [v.1,u]
 rw[xI _ _ (by rw[b8];omega),b8,show b.length*2+1-b.length*2=1 from by omega];rfl
theorem vJ (b:List (Value×Value))(v:Value×Value)(u:Value)(k:Nat)(c:k=b.length*2):(dS (v::b)).set k u=dS ((u,v.2)::b):=by
 subst c;show(dS b++ [v.1,v.2]).set _ u=dS b++ [u,v.2]
 rw[xI _ _ (by rw[b8];omega),b8,ZY];rfl
theorem bH {w:World}{p:Addr}{u:Value}{k:Nat}(h:k≠p.block):(w.setCell p u).heap[k]?=w.heap[k]?:=by
 simp[World.setCell,ZG,Z6 h]
theorem Lay.bytes {w y:World}{S g cap:Nat}{xs:List It}{b B:List UInt8}{o:List (List It×List UInt8)}{s q d:Value}{x:List (Value×Value)}(h:Lay w S g cap ((xs,b)::o) ((s,q)::x))(hS:S<=w.heap.size)
 (n:l8 w y q d) (G:bJ y S 5 d B):Lay (y.setCell ⟨g,o.length*2+1,none⟩ d) S g cap ((xs,B)::o) ((s,d)::x):=by
 have X:=h.lays.2.2.length;obtain⟨R,Y,_,_,O,H⟩:=h.block;have E:q.ownBlock≠some g:=by
  rcases h.top.2.2.2.2 g with h|h
  ·exact h
  exact absurd rfl h
 have J:d.ownBlock≠some g:=by
  rcases n.own with e|⟨i,e,hi⟩
  ·rw[e];exact E
  rw[e];intro r;injection r with r;omega
 have F:=gq (k:=o.length*2+1) (h.row.kept n.grown (.inr (by simp only[Value.ownBlock];exact Z6 E))) (by rw[b8];simp;omega) d;rw[IY x (s,q) d _ (by omega)]at F;refine⟨F,⟨⟨?_, ?_⟩, ?_, ?_⟩⟩
 ·obtain⟨⟨A,c,K,r,I,N⟩,_⟩:=h.lays.1;refine⟨A,c,K,r,I,N.ag fun p W=>zK ?_⟩;rw[bH (by simp;omega),n.block (by omega) (fun e=>by have:=(h.lays.1.2.ge _ e).1;omega)]
 ·refine G.ag fun k C M=>bH ?_
  intro e;simp only at e;subst e;exact J M
 ·intro u hu i hi z;rcases n.own with e|⟨j,e,hj⟩
  ·exact h.lays.2.1 u hu i (by rw[<-e];exact hi) z
  have l:=(h.lays.2.2.ge u hu i z).2.1;have hi:d.ownBlock=some i:=hi;rw[e]at hi;injection hi with hi;omega
 refine h.lays.2.2.ag hS fun k C D=> ?_
 have L:k≠g:=by
  rcases D with l|⟨u,hu,l⟩
  ·omega
  rintro rfl;obtain⟨_,_,U,Z,m⟩:=h.lays.2.2.ge u hu k l;rw[H]at m;injection m with m;injection m with _ m;exact absurd m (by decide)
 rw[bH (by simpa using L),n.block C (fun e=> ?_)];rcases D with l|⟨u,hu,l⟩
 ·have:=(h.lays.1.2.ge _ e).1;omega
 exact h.lays.2.1 u hu k e l
theorem Lay.items {w:World}{S g cap:Nat}{xs xs':List It}{b:List UInt8}{e:List (List It×List UInt8)}{l i:Value}{j:List (Value×Value)}(h:Lay w S g cap ((xs,b)::e) ((l,i)::j))(hS:S<=w.heap.size)
 {A:Option Addr} {c:Nat} (y:xs'.length<=c) (r:c<=9223372036854775807) (s:bU w S xs' A 0):Lay (w.setCell ⟨g,e.length*2,none⟩ (.slice A xs'.length c)) S g cap ((xs',b)::e) ((.slice A xs'.length c,i)::j):=by
 have F:=h.lays.2.2.length;obtain⟨C,G,_,_,B,q⟩:=h.block;have o:=gq (k:=e.length*2) h.row (by rw[b8];simp;omega) (.slice A xs'.length c);rw[vJ j (l,i) _ _ (by omega)]at o;have m:∀k,k<S\/(∃u∈(l,i)::j,u.2.ownBlock=some k)->k≠g:=by
  intro k n;rcases n with h1|⟨u,hu,h1⟩
  ·omega
  rintro rfl;obtain⟨_,_,D,H,d⟩:=Lays.ge h.lays u hu k h1;rw[q]at d;injection d with d;injection d with _ d;exact absurd d (by decide)
 refine⟨o,⟨⟨⟨A,c,rfl,y,r,s.ag fun p x=>zK (bH (by simpa using m _ (.inl x)))⟩,h.lays.1.2.ag fun k _ z=>bH (by simpa using m _ (.inr ⟨_,by simp,z⟩))⟩,h.lays.2.1,h.lays.2.2.ag hS fun k E n=>bH (by simpa using m _ (n.imp id fun⟨u,hu,h⟩=>⟨u,by simp[hu],h⟩))⟩⟩
theorem Lay.push {w w':World}{S g cap l m:Nat}{d:List (List It×List UInt8)}{j:List (Value×Value)}(h:Lay w S g cap d j)(hS:S<=w.heap.size){s:List It}{A:Option Addr}{c:Nat}(z:s.length<=c)(q:c<=9223372036854775807)(r:bU w S s A 0)
 (B:w'.ownsRow S 182 2 (.slice (some ⟨l,0,none⟩) (d.length+1) m) (d.length+1) (dS j++ [.slice A s.length c,.slice none 0 0])) (n:w.grownBy w' (some g)):
 Lay w' S l m ((s,[])::d) ((.slice A s.length c,.slice none 0 0)::j):=by
 obtain⟨D,G,_,_,C,o⟩:=h.block;refine⟨B,⟨⟨⟨A,c,rfl,z,q,r.ag fun p F=>zK (n.block _ (by omega) (by simp;omega))⟩,bJ.nil _ _ _⟩,(fun u _ i hi=>by cases hi),h.lays.ag hS fun k x y=>n.block k x ?_⟩⟩;intro e;injection e with e;rcases y with h1|⟨u,hu,h1⟩
 ·omega
 subst e;obtain⟨_,_,E,H,b⟩:=h.lays.ge u hu k h1;rw[o]at b;injection b with b;injection b with _ b;exact absurd b (by decide)
theorem Lay.pop {w:World}{S g cap:Nat}{f:List It×List UInt8}{b:List (List It×List UInt8)}{v:Value×Value}{c:List (Value×Value)}(h:Lay w S g cap (f::b) (v::c)):Lay w S g cap b c:=
 ⟨ownsRow_pop (by rw[b8,h.lays.2.2.length]) h.row,h.lays.2.2⟩
def l5 (w:World)(k:Nat):Prop:=∀cs fr,w.heap[k]?≠some (.cells cs 226 fr)
theorem l5.of_eq {w w':World}{k:Nat}(h:l5 w k)(e:w'.heap[k]?=w.heap[k]?):l5 w' k:=by
 intro b c;rw[e];exact h b c
theorem l5.KI {w:World}{k:Nat}{b:Array Value}{t:TypeId}{d:Nat×Nat}(h:w.heap[k]?=some (.cells b t d))(c:t≠226):l5 w k:=by
 intro i j e;rw[h]at e;injection e with e;injection e with _ e;exact c e
def WW (w:World)(m hi:Nat)(f:List It×Nat)(v:Value×Value):Prop:=
 v.2= .int .i64 f.2/\(∀g,v.1.ownBlock=some g->g<hi)/\∃cs,w.ownsRow m 28 3 v.1 f.1.length cs/\fO w (fun k=>m<=k/\k<hi/\v.1.ownBlock≠some k/\l5 w k) f.1 cs
def MR (w:World)(lo:Nat):Nat->List (List It×Nat)->List (Value×Value)->Prop
 |_,[],[]=>True
 |hi,f::fs,v::vs=>∃m,lo<=m/\m<=hi/\WW w m hi f v/\MR w lo m fs vs
 |_,_,_=>False
theorem MR.length {w:World}{d:Nat}:∀{b:List (List It×Nat)} {c:List (Value×Value)} {hi:Nat},MR w d hi b c->c.length=b.length
 | [],[],_,_=>rfl
 |f::b,v::c,hi,h=>by
  obtain⟨m,_,_,_,h⟩:=h;simp[MR.length h]
theorem WW.ag {w w':World}{m hi e:Nat}{f:List It×Nat}{v:Value×Value}(h:WW w m hi f v)(o:hi<=e)(c:∀k,m<=k->k<hi->k<w.heap.size->l5 w k->w'.heap[k]?=w.heap[k]?):WW w' m e f v:=by
 obtain⟨n,d,l,i,j⟩:=h;refine⟨n,fun g b=>yf (d g b) o,l,⟨i.1, ?_⟩,j.ag (fun k q hS=>⟨hS.1,by omega,hS.2.2.1,hS.2.2.2.of_eq (c k hS.1 hS.2.1 q hS.2.2.2)⟩) fun p s hS=>zK (c _ hS.1 hS.2.1 s hS.2.2.2)⟩;rcases i.2 with h5|⟨g,cap,cur,hv,b,hh',r⟩
 ·exact .inl h5
 exact .inr ⟨g,cap,cur,hv,b,(c g b (d g (by rw[hv];rfl)) (y7 hh') (l5.KI hh' (by decide))).trans hh',r⟩
theorem MR.ag {w w':World}{d:Nat}:∀{c:List (List It×Nat)} {e:List (Value×Value)} {hi:Nat},MR w d hi c e->(∀k,d<=k->k<hi->k<w.heap.size->l5 w k->w'.heap[k]?=w.heap[k]?)->MR w' d hi c e
 | [],[],_,_,_=>trivial
 |f::c,v::e,hi,h,hk=>by
  obtain⟨m,l,i,n,j⟩:=h;exact⟨m,l,i,n.ag (zi _) fun k a b=>hk k (by omega) b,MR.ag j fun k a b=>hk k a (by omega)⟩
theorem MR.up {w:World}{d hi e:Nat}{b:List (List It×Nat)}{c:List (Value×Value)}(h:MR w d hi b c)(k:hi<=e):MR w d e b c:=by
 match b,c,h with
 | [],[],_=>trivial
 |f::b,v::c,h=>
  obtain⟨m,j,n,l,i⟩:=h;exact⟨m,j,by omega,l.ag k fun _ _ _ _ _=>rfl,i⟩
structure sL (w:World)(lo hi g cap:Nat)(fs:List (List It×Nat))(vs:List (Value×Value)):Prop where
 row:w.ownsRow lo 226 2 (.slice (some ⟨g,0,none⟩) fs.length cap) fs.length (dS vs)
 rds:MR w lo hi fs vs
 le:hi<=w.heap.size
theorem sL.block {w:World}{c hi g cap:Nat}{b:List (List It×Nat)}{e:List (Value×Value)}(h:sL w c hi g cap b e):c<=g/\g<w.heap.size/\b.length<=cap/\cap<=9223372036854775807/\∃d,w.heap[g]?=some (.cells d 226 (0,0)):=dD h.row
theorem sL.below {w w':World}{d hi g cap:Nat}{c:List (List It×Nat)}{e:List (Value×Value)}(h:sL w d hi g cap c e)(b:Below w.heap.size w w'):sL w' d hi g cap c e:=
 ⟨h.row.kept (du b) (.inr (by simp[Value.ownBlock])),h.rds.ag fun k _ _ i _=>b.block k i,zP h.le b.size⟩
theorem sL.only {w w':World}{b hi g cap:Nat}{e:List (List It×Nat)}{j:List (Value×Value)}(h:sL w b hi g cap e j){L:List Nat}(d:ae L w w')(i:∀k,k∈L->k<b):sL w' b hi g cap e j:=by
 obtain⟨o,l,_,_,n,p⟩:=h.block;refine⟨⟨h.row.1, ?_⟩,h.rds.ag fun k q _ m _=>d.block k m fun c=>by have:=i k c;omega,zP h.le d.size⟩;rcases h.row.2 with h2|⟨g',aq,rJ,hv,hb,hh',r⟩
 ·exact .inl h2
 injection hv with K9 kh D4;injection K9 with K9;injection K9 with K9;subst K9;exact .inr ⟨g,aq,rJ,by rw[D4],hb,(d.block g l fun c=>by have:=i g c;omega).trans hh',r⟩
theorem sL.top {w:World}{l hi g cap:Nat}{f:List It×Nat}{b:List (List It×Nat)}{v:Value×Value}{c:List (Value×Value)}(h:sL w l hi g cap (f::b) (v::c)):
 w.cell? ⟨g,b.length*2,none⟩=some v.1/\w.cell? ⟨g,b.length*2+1,none⟩=some (.int .i64 f.2)/\w.frozen? ⟨g,b.length*2,none⟩=false/\w.frozen? ⟨g,b.length*2+1,none⟩=false:=by
 obtain⟨m,_,_,n,o⟩:=h.rds;have s:=o.length;have p:=b8 c;have k:∀j,(⟨g,0,none⟩:Addr).add j=⟨g,j,none⟩:=by intro j;unfold Addr.add;split<;>simp_all
 obtain⟨q,u,_,_,r,i⟩:=h.block;have e:=h.row.cells (g:=g) rfl (b.length*2) v.1 (by
  show(dS c++ [v.1,v.2])[b.length*2]?=_
  rw[yr (by omega),show b.length*2-(dS c).length=0 from by omega];rfl)
 have d:=h.row.cells (g:=g) rfl (b.length*2+1) v.2 (by
  show(dS c++ [v.1,v.2])[b.length*2+1]?=_
  rw[yr (by omega),show b.length*2+1-(dS c).length=1 from by omega];rfl)
 rw[k]at e d;rw[n.1]at d;exact⟨e,d,eC i (.inl rfl),eC i (.inl rfl)⟩
theorem sL.pop {w:World}{b hi g cap:Nat}{f:List It×Nat}{c:List (List It×Nat)}{v:Value×Value}{i:List (Value×Value)}(h:sL w b hi g cap (f::c) (v::i)):
 ∃m,b<=m/\m<=hi/\WW w m hi f v/\sL w b m g cap c i:=by
 obtain⟨m,j,d,k,e⟩:=h.rds;exact⟨m,j,d,k,⟨ownsRow_pop (by rw[b8,e.length]) h.row,e,zP d h.le⟩⟩
theorem WW.list {w:World}{m hi:Nat}{acc:List It}{s:Nat}{v:Value×Value}(h:WW w m hi (acc,s) v)(i:acc.length<=9223372036854775807):
 ∃A cap,v.1= .slice A acc.length cap/\acc.length<=cap/\cap<=9223372036854775807/\∀c,acc.length<=c->c<=9223372036854775807->fV w (fun k=>m<=k/\l5 w k) (gH acc) (.string ⟨#[]⟩) (.bool true) (.slice A acc.length c):=by
 obtain⟨_,C,D,l,n⟩:=h;rcases l.2 with⟨b,d⟩|⟨g,cap,E,e,y,z,o,q,_⟩
 ·have d:acc.length=0:=d;obtain rfl:acc= []:=zt d;exact⟨none,0,b,by simp,by simp,fun c _ B=>⟨rfl,rfl,yo _,i,none,c,rfl,yo _,B,trivial⟩⟩
 refine⟨some ⟨g,0,none⟩,cap,e,o,by simpa[maxLen]using q,fun c p r=>⟨rfl,rfl,yo _,i,some ⟨g,0,none⟩,c,rfl,p,r, ?_⟩⟩;refine mO.eT ⟨y,l5.KI z (by decide)⟩ (n.ag (fun k _ h=>⟨h.1,h.2.2.2⟩) (fun _ _ _=>rfl)) fun j u hu=> ?_
 have x:v.1.ownBlock=some g:=by rw[e];rfl
 have:=l.cells x j u hu;have b:(⟨g,0,none⟩:Addr).add j=⟨g,j,none⟩:=by unfold Addr.add;split<;>simp_all
 rw[b]at this;simpa using this
theorem sL.push {w w':World}{c hi g cap m l:Nat}{b:List (List It×Nat)}{j:List (Value×Value)}(h:sL w c hi g cap b j)(i:Nat)
 (r:w'.ownsRow c 226 2 (.slice (some ⟨m,0,none⟩) (b.length+1) l) (b.length+1) (dS j++ [.slice none 0 0,.int .i64 i])) (d:w.grownBy w' (some g)) (p:c<=hi):
 sL w' c w'.heap.size m l (([],i)::b) ((.slice none 0 0,.int .i64 i)::j):=by
 obtain⟨s,x,_,_,u,o⟩:=h.block;refine⟨r,⟨hi,p,zP h.le d.size,⟨rfl,(fun g d=>by cases d),[],World.ownsRow_nil _ _ _ _,rfl⟩,h.rds.ag fun k _ _ q n=>d.block k q ?_⟩,zi _⟩;intro e;injection e with e;subst e;exact n _ _ o
theorem sL.first {w:World}{b g cap:Nat}(c:Nat)(h:w.ownsRow b 226 2 (.slice (some ⟨g,0,none⟩) 1 cap) 1 [.slice none 0 0,.int .i64 c])(e:b<=w.heap.size):sL w b w.heap.size g cap [([],c)] [(.slice none 0 0,.int .i64 c)]:=
 ⟨h,⟨b,zi _,e,⟨rfl,(fun g d=>by cases d),[],World.ownsRow_nil _ _ _ _,rfl⟩,trivial⟩,zi _⟩
theorem sL.added {w l:World}{z m hi g cap b r:Nat}{acc:List It}{W:Nat}{d:List (List It×Nat)}{c A:Value}{C:List (Value×Value)}{s:List Value}{Z X R o n i:Value}{y:It}
 (wM:w.ownsRow z 226 2 (.slice (some ⟨g,0,none⟩) (d.length+1) cap) (d.length+1) (dS ((c,A)::C))) (ad:hi<=w.heap.size) (eO:z<=m) (rK:m<=hi) (K9:A= .int .i64 W) (bR:∀g,c.ownBlock=some g->g<hi)
 (H:w.ownsRow m 28 3 c acc.length s) (rS:fO w (fun k=>m<=k/\k<hi/\c.ownBlock≠some k/\l5 w k) acc s) (Y:MR w z m d C) (hy:fV w (fun k=>hi<=k/\l5 w k) y o n i)
 (J:w.grownBy l c.ownBlock) (N:l.ownsRow m 28 3 (.slice (some ⟨b,0,none⟩) (acc.length+1) r) (acc.length+1) (s++ [Z,X,R])) (F:c.ownBlock=some b\/w.heap.size<=b):
 sL ((((l.setCell ⟨b,acc.length*3,none⟩ o).setCell ⟨b,acc.length*3+1,none⟩ n).setCell ⟨b,acc.length*3+2,none⟩ i).setCell ⟨g,d.length*2,none⟩ (.slice (some ⟨b,0,none⟩) (acc.length+1) r)) z l.heap.size g cap ((acc++ [y],W)::d) ((.slice (some ⟨b,0,none⟩) (acc.length+1) r,A)::C):=by
 have hl:=Y.length;obtain⟨Lk,o7,af,Rm,ae,E⟩:=dD wM;have aa:=H.1;have O:c.ownBlock≠some g:=by
  intro e;rcases H.2 with⟨I,_⟩|⟨g2,ca,YW,K,_,u,_⟩
  ·rw[I]at e;cases e
  rw[K]at e;have:g2=g:=by simpa[Value.ownBlock]using e
  subst this;rw[E]at u;injection u with u;injection u with _ u;exact absurd u (by decide)
 have ab:b≠g:=by
  rcases F with e|e
  ·intro j;exact O (by rw[e,j])
  omega
 have M:=gq (gq (gq N (k:=acc.length*3) (by simp;omega) o) (k:=acc.length*3+1) (by simp;omega) n) (k:=acc.length*3+2) (by simp;omega) i;have Sd:(((s++ [Z,X,R]).set (acc.length*3) o).set (acc.length*3+1) n).set (acc.length*3+2) i=s++ [o,n,i]:=by
  rw[<-aa,xI _ _ (by omega),xI _ _ (by omega),xI _ _ (by omega)];simp
 rw[Sd]at M;have x:∀k,k<w.heap.size->c.ownBlock≠some k->k≠g->((((l.setCell ⟨b,acc.length*3,none⟩ o).setCell ⟨b,acc.length*3+1,none⟩ n).setCell ⟨b,acc.length*3+2,none⟩ i).setCell ⟨g,d.length*2,none⟩ (.slice (some ⟨b,0,none⟩) (acc.length+1) r)).heap[k]?=w.heap[k]?:=by
  intro k h L h2;have B:k≠b:=by
   rcases F with e|e
   ·intro j;exact L (by rw[e,j])
   omega
  rw[bH (by simpa using h2),bH (by simpa using B),bH (by simpa using B),bH (by simpa using B)];exact J.block k h (fun e=>L e.symm)
 have ej:((((l.setCell ⟨b,acc.length*3,none⟩ o).setCell ⟨b,acc.length*3+1,none⟩ n).setCell ⟨b,acc.length*3+2,none⟩ i).setCell ⟨g,d.length*2,none⟩ (.slice (some ⟨b,0,none⟩) (acc.length+1) r)).heap.size=l.heap.size:=by simp[World.setCell]
 have N6:=J.size;have ag:b<l.heap.size:=(dD N).2.1;have Si:l.ownsRow z 226 2 (.slice (some ⟨g,0,none⟩) (d.length+1) cap) (d.length+1) (dS ((c,A)::C)):=wM.kept J (.inr (by simp only[Value.ownBlock];exact Z6 O));have Gg:=ZE (ZE (ZE Si (a:=⟨b,acc.length*3,none⟩) (by simp[Value.ownBlock];omega) o) (a:=⟨b,acc.length*3+1,none⟩) (by simp[Value.ownBlock];omega) n) (a:=⟨b,acc.length*3+2,none⟩) (by simp[Value.ownBlock];omega) i;have U:=gq Gg (k:=d.length*2) (by rw[b8];simp;omega) (.slice (some ⟨b,0,none⟩) (acc.length+1) r);rw[vJ C (c,A) _ _ (by omega)]at U;refine⟨U,⟨m,eO,by omega,⟨K9, ?_,s++ [o,n,i], ?_, ?_⟩, ?_⟩,by rw[ej];exact zi _⟩
 ·intro g2 tr;have:b=g2:=by simpa[Value.ownBlock]using tr
  omega
 ·rw[zo];exact ZE M (a:=⟨g,d.length*2,none⟩) (by simp[Value.ownBlock];exact ab) _
 ·have D:∀k,k<w.heap.size->(hi<=k/\l5 w k)->(c.ownBlock≠some k/\k≠g):=fun k h hS=>⟨fun e=>by have:=bR _ e;omega,by rintro rfl;exact hS.2 _ _ E⟩
  have G:∀k,k<w.heap.size->(m<=k/\k<hi/\c.ownBlock≠some k/\l5 w k)->(c.ownBlock≠some k/\k≠g):=fun k h hS=>⟨hS.2.2.1,by rintro rfl;exact hS.2.2.2 _ _ E⟩
  refine fO.snoc (fV.ag (w:=w) (S:=fun k=>hi<=k/\l5 w k) (fun k h hS=> ?_) (fun p q hS=> ?_) y hy) (rS.ag (fun k h hS=> ?_) fun p q hS=> ?_)
  ·refine⟨by omega,by omega, ?_,hS.2.of_eq (x k h (D k h hS).1 (D k h hS).2)⟩;intro e;have e:b=k:=by simpa[Value.ownBlock]using e
   rcases F with j|j
   ·have:=bR _ j;omega
   omega
  ·exact zK (x _ q (D _ q hS).1 (D _ q hS).2)
  ·refine⟨hS.1,by omega, ?_,hS.2.2.2.of_eq (x k h (G k h hS).1 (G k h hS).2)⟩;intro e;have e:b=k:=by simpa[Value.ownBlock]using e
   rcases F with j|j
   ·exact hS.2.2.1 (by rw[j,e])
   omega
  exact zK (x _ q (G _ q hS).1 (G _ q hS).2)
 refine Y.ag fun k L h2 B h4=>x k B (fun e=> ?_) (by rintro rfl;exact h4 _ _ E)
 rcases H.2 with⟨I,_⟩|⟨g2,ca,YW,K,aM,_⟩
 ·rw[I]at e;cases e
 rw[K]at e;have:g2=k:=by simpa[Value.ownBlock]using e
 omega
theorem lH {w:World}{a b:Addr}(h:a.block≠b.block)(x y:Value):(w.setCell a x).setCell b y=(w.setCell b y).setCell a x:=by
 unfold World.setCell;dsimp only;congr 1
 apply Array.ext
 ·simp
 intro i k j;simp only[Array.getElem_modify];by_cases c:a.block=i
 ·have d:¬b.block=i:=fun e=>h (c.trans e.symm)
  simp[c,d]
 simp[c]
theorem rB {w:World}{ops:Array Oper}{o:Oper}{a:Act}{K:Act->World->Prop}{Q:Exit->Act->World->Prop}{F:Prop}(D:o.guard=none)(s x:Operand)
 (J:o.op= .call {callee:= .builtin .append,args:= #[s,x],argTypes:= #[26,26]}) (m n:Nat) {v:Value} {k:List Value} (A:a.eval s=v) (p:w.ownsRow m 28 3 v n k) (B:Nat)
 (hx:a.eval x= .slice (some ⟨B,0,none⟩) 1 1) (C:af w B 28 #[.string ⟨#[]⟩,.bool false,.slice none 0 0]) (S:n<=1000000) (L:m<=w.heap.size)
 (H:∀b c w',Hid (w'.ownsRow m 28 3 (.slice (some ⟨b,0,none⟩) (n+1) c) (n+1) (k++ [.string ⟨#[]⟩,.bool false,.slice none 0 0]))->Hid (w.grownBy w' v.ownBlock)->Hid (v.ownBlock=some b\/w.heap.size<=b)->n+1<=c->c<=9223372036854775807->
  w'.cell? ⟨b,n*3,none⟩=some (.string ⟨#[]⟩)->w'.cell? ⟨b,n*3+1,none⟩=some (.bool false)->w'.cell? ⟨b,n*3+2,none⟩=some (.slice none 0 0)->
  w'.frozen? ⟨b,n*3,none⟩=false->w'.frozen? ⟨b,n*3+1,none⟩=false->w'.frozen? ⟨b,n*3+2,none⟩=false->K (a.put o.dst (.slice (some ⟨b,0,none⟩) (n+1) c)) w'):
 if Region.wanted o (yielded ops a.tmps)=true then Oper.wp Tryz.prog o a w K Q else F:=by
 obtain⟨i0,hi,M,G,y⟩:=yQ BO;refine step_append_lies w D s x 26 J m 28 i0 _ 3 48 Tryz.underlying26 hi M G y rfl (by decide) v n k A p ⟨B,0,none⟩ 1 1 [.string ⟨#[]⟩,.bool false,.slice none 0 0] hx rfl ?_ ?_ (by decide) (by simp only[maxLen];omega) (by omega) L w.heap.size rfl ?_
 ·exact fun j u hu=>ZT C j u (by simpa using hu)
 ·intro u hu;simp at hu;rcases hu with rfl|rfl|rfl<;>rfl
 intro b c w' d z N U;obtain⟨_,_,O,E,R,e⟩:=dD d;have i:=p.1;have I:∀j,(⟨b,0,none⟩:Addr).add j=⟨b,j,none⟩:=by intro j;unfold Addr.add;split<;>simp_all
 have r:=d.cells (g:=b) rfl (n*3) (.string ⟨#[]⟩) (by rw[yr (by omega),i,ZY];rfl);have l:=d.cells (g:=b) rfl (n*3+1) (.bool false) (by rw[yr (by omega),i,show n*3+1-n*3=1 from by omega];rfl);have q:=d.cells (g:=b) rfl (n*3+2) (.slice none 0 0) (by rw[yr (by omega),i,show n*3+2-n*3=2 from by omega];rfl);rw[I]at r l q;exact H b c w' (za d) (za z) (za (N.imp id fun h=>by omega)) O E r l q (eC e (.inl rfl)) (eC e (.inl rfl)) (eC e (.inl rfl))
theorem FJ (W:World)(d b:Nat)(A:Option Addr)(i:Nat)(t:ByteArray)(l:Bool)(j:Option Addr)(n2 k2:Nat)(p n o:Value)(q:i<=9223372036854775807)(h:af W d 223 #[.slice A 0 i])(c:af W b 28 #[p,n,o])(r:d≠b):
 Calls Tryz.prog 178 #[.agg #[.string t,.bool l,.slice j n2 k2],.pointer (some ⟨d,0,none⟩),.pointer (some ⟨b,0,none⟩)] W fun e w'=>e= .returned (.tuple #[])/\af w' b 28 #[.string t,.bool l,.slice j n2 k2]/\ae [b] W w':=by
 have k:=h.cell 0;have k:W.cell? ⟨d,0,none⟩=some (.slice A 0 i):=h.cell 0;have s:=h.lt;have u:=c.lt;obtain⟨g0,g1,g2,f0,f1,f2⟩:=a8 c;have m:=za c;clear h c;go_enter Tryz.func178,Tryz.ntmps178
 go_wp2;refine zp (v:= .tuple #[]) (results_none rfl _ _ _) rfl ⟨rfl,((((m.out.set 0 _).set 1 _).set 2 _).alloc _), ?_⟩;exact((((ae.refl [b] W).setCell (by simp) _).setCell (by simp) _).setCell (by simp) _).alloc _
theorem FK (W:World)(o hi g K b9 VF:Nat)(acc:List It)(F:Nat)(D:List (List It×Nat))(v0 v1:Value)(Z:List (Value×Value))(y:It)(c0 c1 c2:Value)
 (h9:af W b9 223 #[.slice (some ⟨g,0,none⟩) (D.length+1) K]) (w:sL W o hi g K ((acc,F)::D) ((v0,v1)::Z)) (X:fV W (fun k=>hi<=k/\l5 W k) y c0 c1 c2) (ad:acc.length<=1000000):
 Calls Tryz.prog 178 #[.agg #[c0,c1,c2],.pointer (some ⟨b9,0,none⟩),.pointer (some ⟨VF,0,none⟩)] W fun e w'=>e= .returned (.tuple #[])/\Below o W w'/\∃Rn,sL w' o w'.heap.size g K ((acc++ [y],F)::D) ((Rn,v1)::Z):=by
 have HR:=za w;obtain⟨m,eO,M,⟨K9,J,cs,C,rS⟩,DB⟩:=w.rds;obtain⟨Lk,o7,ph,aw,av,hh⟩:=w.block;obtain⟨t0,t1,Ll,NL⟩:=w.top;have aj:=w.le;simp only[zB]at ph;dsimp only at K9 J C rS t0;have U:=za C;have JB:=za rS;have GP:=za DB;have JC:=za J;have HY:=za X;have HF:Hid (∃A n cap,v0= .slice A n cap/\n=acc.length/\n<=cap/\cap<=9223372036854775807):=za (by
  rcases C.2 with⟨R,e2⟩|⟨g2,ca,YW,S,_,_,Jn,M,_⟩
  ·exact⟨none,0,0,R,e2.symm,by simp,by simp⟩
  exact⟨_,_,ca,S,rfl,Jn,by simpa[maxLen]using M⟩)
 obtain⟨p,d,s,rfl,ow,DN,ar⟩:=HF.out;have H:=za ow;obtain⟨j,l,rfl,rfl,rfl,nO,ay,ax,_⟩:=X.open_;have ak:=h9.cell 0;have aq:=h9.lt;obtain⟨r,Y⟩:∃r,D.length=r:=⟨_,rfl⟩
 have DW:=za Y;rw[Y]at t0 t1 Ll NL ph h9 ak;have ah:Hid (∀k,W.heap.size<=k->Value.ownBlock (.slice p d s)≠some k):=za (fun k hk e=>by have:=J k e;omega);have O:Hid (Value.ownBlock (.slice p d s)≠some g):=za (by
  intro e;rcases C.2 with⟨R,_⟩|⟨g2,ca,YW,S,_,z,_⟩
  ·rw[R]at e;cases e
  rw[S]at e;have:g2=g:=by simpa[Value.ownBlock]using e
  subst this;rw[hh]at z;injection z with z;injection z with _ z;exact absurd z (by decide))
 subst K9;clear rS DB J C X w hh Y ow;have ai:Hid (af (((W.alloc (.cells #[.string y.text,.bool y.list,.slice j y.sub.length l] 28)).drew).alloc (.cells #[.string ⟨#[]⟩,.bool false,.slice none 0 0] 28)) (W.heap.size+1) 28 #[.string ⟨#[]⟩,.bool false,.slice none 0 0]):=za (by have:=af.new (W.alloc (.cells #[.string y.text,.bool y.list,.slice j y.sub.length l] 28)).drew 28 #[.string ⟨#[]⟩,.bool false,.slice none 0 0];simpa using this);have wK:Hid (af (((W.alloc (.cells #[.string y.text,.bool y.list,.slice j y.sub.length l] 28)).drew).alloc (.cells #[.string ⟨#[]⟩,.bool false,.slice none 0 0] 28)) W.heap.size 28 #[.string y.text,.bool y.list,.slice j y.sub.length l]):=za (((af.new W 28 #[.string y.text,.bool y.list,.slice j y.sub.length l]).drew).alloc _);have ae:Hid ((((W.alloc (.cells #[.string y.text,.bool y.list,.slice j y.sub.length l] 28)).drew).alloc (.cells #[.string ⟨#[]⟩,.bool false,.slice none 0 0] 28)).ownsRow m 28 3 (.slice p d s) acc.length cs):=za ((U.out.alloc _).drew.alloc _);have E:Hid (Below W.heap.size W (((W.alloc (.cells #[.string y.text,.bool y.list,.slice j y.sub.length l] 28)).drew).alloc (.cells #[.string ⟨#[]⟩,.bool false,.slice none 0 0] 28))):=za ((((zq W.heap.size W).alloc (zi _) _).drew).alloc (by simp) _);have aa:Hid (g<(((W.alloc (.cells #[.string y.text,.bool y.list,.slice j y.sub.length l] 28)).drew).alloc (.cells #[.string ⟨#[]⟩,.bool false,.slice none 0 0] 28)).heap.size):=za (by simp;omega)
 have ab:Hid ((((W.alloc (.cells #[.string y.text,.bool y.list,.slice j y.sub.length l] 28)).drew).alloc (.cells #[.string ⟨#[]⟩,.bool false,.slice none 0 0] 28)).cell? ⟨g,r*2,none⟩=some (.slice p d s)/\(((W.alloc (.cells #[.string y.text,.bool y.list,.slice j y.sub.length l] 28)).drew).alloc (.cells #[.string ⟨#[]⟩,.bool false,.slice none 0 0] 28)).frozen? ⟨g,r*2,none⟩=false):=za ⟨(E.out.cell o7).trans t0,(E.out.frozen o7).trans Ll⟩;have an:Hid (∀i:Nat,(Value.ownBlock (.slice p d s)=some i\/(((W.alloc (.cells #[.string y.text,.bool y.list,.slice j y.sub.length l] 28)).drew).alloc (.cells #[.string ⟨#[]⟩,.bool false,.slice none 0 0] 28)).heap.size<=i)->i≠g):=za (fun i h e=>by
  subst e;rcases h with h|h
  ·exact O.out h
  have:=aa.out;omega)
 have YX:Hid (m<=(((W.alloc (.cells #[.string y.text,.bool y.list,.slice j y.sub.length l] 28)).drew).alloc (.cells #[.string ⟨#[]⟩,.bool false,.slice none 0 0] 28)).heap.size):=za (by simp;omega);rw[<-H.out]at ad;rw[<-H.out]at ae;have au:(d:Int)<d+1:=by omega
 go_enter Tryz.func178,Tryz.ntmps178
 go_wp2_with fail
 go_region_law (refine rB (by rfl) (.tmp 17) (.tmp 20) (by rfl) m d (by rfl) ae.out (W.heap.size+1) (by rfl) ai.out ad YX.out ?_;intro i B q Ob u I Gh AL q0 q1 q2 VH ag al;obtain⟨x0,x1,x2,_⟩:=a8 (wK.out.grown u.out (ah.out _ (zi _)));have e3:q.cell? ⟨g,r*2,none⟩=some (.slice p d s):=(u.out.cell_far ⟨g,r*2,none⟩ aa.out (Z6 O.out)).trans ab.out.1;have e4:q.frozen? ⟨g,r*2,none⟩=false:=(u.out.frozen_far ⟨g,r*2,none⟩ aa.out (Z6 O.out)).trans ab.out.2;have VG:i≠g:=an.out i I.out;have N:g≠i:=Z6 VG)
 all_goals
  have HD:Hid (sL ((((q.setCell ⟨i,d*3,none⟩ (.string y.text)).setCell ⟨i,d*3+1,none⟩ (.bool y.list)).setCell ⟨i,d*3+2,none⟩ (.slice j y.sub.length l)).setCell ⟨g,r*2,none⟩ (.slice (some ⟨i,0,none⟩) (d+1) B)) o q.heap.size g K ((acc++ [y],F)::D) ((.slice (some ⟨i,0,none⟩) (d+1) B,.int .i64 F)::Z)):=za (by
   have G:=I.out;have L:=Ob.out;rw[<-DW.out,H.out];rw[H.out]at L;exact sL.added HR.out.row aj eO M rfl JC.out U.out JB.out GP.out HY.out ((jX (du E.out) _).trans u.out) L (G.imp id fun h=>zP E.out.size h))
  have GN:Hid (Below o W ((((q.setCell ⟨i,d*3,none⟩ (.string y.text)).setCell ⟨i,d*3+1,none⟩ (.bool y.list)).setCell ⟨i,d*3+2,none⟩ (.slice j y.sub.length l)).setCell ⟨g,r*2,none⟩ (.slice (some ⟨i,0,none⟩) (d+1) B))):=za (by
   have G:∀k,Value.ownBlock (.slice p d s)=some k->o<=k:=fun k hk=>zP eO (U.out.lt k hk).1
   have QC:o<=i:=by
    rcases I.out with e|e
    ·exact G _ e
    have e2:=e;simp at e2;omega
   exact((((((E.out.mono (by omega)).grown u.out (by simp;omega) G).setCell (by simpa using QC) _).setCell (by simpa using QC) _).setCell (by simpa using QC) _).setCell (by simpa using Lk) _))
  have ao:Hid (∀(v:World) (x a b c:Value),(((v.setCell ⟨g,r*2,none⟩ x).setCell ⟨i,d*3,none⟩ a).setCell ⟨i,d*3+1,none⟩ b).setCell ⟨i,d*3+2,none⟩ c=(((v.setCell ⟨i,d*3,none⟩ a).setCell ⟨i,d*3+1,none⟩ b).setCell ⟨i,d*3+2,none⟩ c).setCell ⟨g,r*2,none⟩ x):=za (fun v x a b c=>by rw[lH (a:=⟨g,r*2,none⟩) (b:=⟨i,d*3,none⟩) N,lH (a:=⟨g,r*2,none⟩) (b:=⟨i,d*3+1,none⟩) N,lH (a:=⟨g,r*2,none⟩) (b:=⟨i,d*3+2,none⟩) N]);clear Ob u I q0 q1 q2 VH ag al x0 x1 x2 e3 e4;go_wp2;go_end0
  try rw[ao.out]
  refine⟨rfl,GN.out,.slice (some ⟨i,0,none⟩) (d+1) B, ?_⟩;have L:=HD.out;have hz:((((q.setCell ⟨i,d*3,none⟩ (.string y.text)).setCell ⟨i,d*3+1,none⟩ (.bool y.list)).setCell ⟨i,d*3+2,none⟩ (.slice j y.sub.length l)).setCell ⟨g,r*2,none⟩ (.slice (some ⟨i,0,none⟩) (d+1) B)).heap.size=q.heap.size:=by simp[World.setCell]
  rw[hz];exact L
def kZ (z:Nat):List (List It×Nat)->Nat
 | []=>z
 |f::_=>f.2
def Ends (z:Nat):List (List It×Nat)->Prop
 | []=>True
 |f::fs=>f.2<=kZ z fs/\Ends z fs
theorem Ends.top {z:Nat}:∀{b:List (List It×Nat)},Ends z b->kZ z b<=z
 | [],_=>zi _
 |f::b,h=>zP h.1 (Ends.top h.2)
def nf :List (List It×Nat)->Nat
 | []=>0
 |f::fs=>f.1.length+1+nf fs
theorem lI :∀(b:List (List It×Nat)),b.length<=nf b
 | []=>zi _
 |f::b=>by have:=lI b;simp[nf];omega
def rC (D M:Int)(s:ByteArray)(R:Rd)(b:Bool):List (List It×Nat)->Nat->Nat->Prop
 | [],at_,count=>b=true/\at_=0/\count=0/\bp D M s 1 0=R
 |(acc,en)::fs,at_,count=>b=false/\at_<en/\fin D M s acc en fs at_ count=R/\Ends s.size ((acc,en)::fs)/\nf ((acc,en)::fs)<=count/\count<=1024
def qm (D M:Int)(s:ByteArray)(R:Rd):List (List It×Nat)->Nat->Nat->Prop
 | [],at_,_=>R.e=0/\R.size=at_
 |(acc,en)::fs,at_,count=>at_<=en/\fin D M s acc en fs at_ count=R/\Ends s.size ((acc,en)::fs)/\nf ((acc,en)::fs)<=count/\count<=1024
theorem rC.le {D M:Int}{s:ByteArray}{R:Rd}{b:Bool}{c:List (List It×Nat)}{at_ count:Nat}(h:rC D M s R b c at_ count):at_<=kZ s.size c/\kZ s.size c<=s.size/\count<=1024/\c.length<=1024/\(b=true↔c= []):=by
 match c,h with
 | [],h=>obtain⟨rfl,rfl,rfl,h⟩:=h;simp[kZ]
 |(acc,en)::c,h=>
  obtain⟨rfl,e,k,j,l,d⟩:=h;have m:=lI ((acc,en)::c);have i:=j.top;exact⟨Yt e,i,d,by omega,by simp⟩
theorem rD (s:ByteArray):s.extract 0 s.size=s:=by
 apply aG;rw[aj,zN,zC (by simp)]
theorem rC.err {D M:Int}{s:ByteArray}{R:Rd}{b:Bool}{c:List (List It×Nat)}{at_ count:Nat}(h:rC D M s R b c at_ count){l:Bool}{z n:Nat}{e:Int}
 (d:hd (s.extract at_ (kZ s.size c)) (aE D (c.length+1)) (aF M count)=(l,z,n,e)) (i:e≠0):R=Rd.bad (if b then e else within e):=by
 match c,h with
 | [],h=>
  obtain⟨rfl,rfl,rfl,k⟩:=h;simp only[kZ,rD]at d;rw[<-k];exact(rh D M s _ d).1 i
 |(acc,en)::c,h=>
  obtain⟨rfl,m,j,o,p,q⟩:=h;rw[<-j];exact SX D M s acc en c at_ count m o.top _ d i
theorem rC.many {D M:Int}{s:ByteArray}{b:List (List It×Nat)}{at_ count:Nat}{l:Bool}{z n:Nat}{e:Int}
 (c:hd (s.extract at_ (kZ s.size b)) (aE D (b.length+1)) (aF M count)=(l,z,n,e)) (d:e=0):count+1<=1024:=by
 have h:=UL (s.extract at_ (kZ s.size b)) (aE D (b.length+1)) (aF M count);rw[c]at h;exact(oI.1 (h d).2.2.1).2
theorem rC.list {D M:Int}{s:ByteArray}{R:Rd}{b:Bool}{c:List (List It×Nat)}{at_ count:Nat}(h:rC D M s R b c at_ count){z n:Nat}
 (d:hd (s.extract at_ (kZ s.size c)) (aE D (c.length+1)) (aF M count)=(true,z,n,0)):
 qm D M s R (([],at_+z+n)::c) (at_+z) (count+1)/\at_+z+n<=s.size/\1<=z/\count+1<=1024:=by
 have l:=rC.many d rfl;match c,h with
 | [],h=>
  obtain⟨rfl,rfl,rfl,u⟩:=h;simp only[kZ,rD]at d;have e:=sw s (aE D 1) (aF M 0);have i:=(rh D M s _ d).2.2 rfl rfl;rw[show([]:List (List It×Nat)).length+1=1 from rfl]at d;rw[d]at e;have e:=e rfl;dsimp only at e i;rw[u]at i;simp only[zQ];exact⟨⟨by omega,i.symm,⟨by simp[kZ];omega,trivial⟩,by simp[nf],by omega⟩,by omega,e.2.2.2 rfl,by omega⟩
 |(acc,en)::c,h=>
  obtain⟨rfl,q,r,j,p,x⟩:=h;obtain⟨k,o,m⟩:=OZ D M s acc en c at_ count q j.top _ d rfl rfl;dsimp only at k o m;have w:=j.top;simp only[kZ]at w;exact⟨⟨by omega,k.symm.trans r,⟨by simp only[kZ];exact o,j⟩,by simp only[nf,zO]at p⊢;omega,l⟩,by omega,m,l⟩
theorem rC.text {D M:Int}{s:ByteArray}{R:Rd}{b:Bool}{c:List (List It×Nat)}{at_ count:Nat}(h:rC D M s R b c at_ count){z n:Nat}
 (i:hd (s.extract at_ (kZ s.size c)) (aE D (c.length+1)) (aF M count)=(false,z,n,0)):
 at_+z+n<=s.size/\1<=z+n/\count+1<=1024/\(c= []->R=⟨.mk (s.extract (at_+z) (at_+z+n)) false [],at_+z+n,1,0⟩)/\
 (∀acc j l,c=(acc,j)::l->qm D M s R ((acc++ [.mk (s.extract (at_+z) (at_+z+n)) false []],j)::l) (at_+z+n) (count+1)):=by
 have p:=rC.many i rfl;have d:=sw (s.extract at_ (kZ s.size c)) (aE D (c.length+1)) (aF M count);rw[i]at d;have d:=d rfl;dsimp only at d;match c,h with
 | [],h=>
  obtain⟨rfl,rfl,rfl,x⟩:=h;simp only[kZ,rD]at i d;have k:=(rh D M s _ i).2.1 rfl rfl;dsimp only at k;rw[x]at k;simp only[zQ];exact⟨by omega,by omega,by omega,(fun _=>k),(fun _ _ _ e=>by cases e)⟩
 |(acc,j)::c,h=>
  obtain⟨rfl,u,w,m,r,B⟩:=h;obtain⟨o,q⟩:=OY D M s acc j c at_ count u m.top _ i rfl rfl;dsimp only at o q;have y:=m.top;simp only[kZ]at y;refine⟨by omega,by omega,p,(fun e=>by cases e),fun C A l e=> ?_⟩;injection e with e1 e2;injection e1 with e3 e4;subst e2;subst e3;subst e4;exact⟨q,o.symm.trans w,m,by simp only[nf,zo,yF]at r⊢;omega,p⟩
theorem qm.next {D M:Int}{s:ByteArray}{R:Rd}{acc:List It}{b:Nat}{c:List (List It×Nat)}{at_ count:Nat}(h:qm D M s R ((acc,b)::c) at_ count)(i:b≠at_):rC D M s R false ((acc,b)::c) at_ count:=by
 obtain⟨e,d⟩:=h;exact⟨rfl,by omega,d⟩
theorem qm.done {D M:Int}{s:ByteArray}{R:Rd}{acc:List It}{b count:Nat}(h:qm D M s R [(acc,b)] b count):R=⟨gH acc,b,count,0⟩:=by
 obtain⟨j,c,d,e,i⟩:=h;rw[<-c];exact O0 D M s acc b count d.top
theorem qm.close {D M:Int}{s:ByteArray}{R:Rd}{acc d:List It}{b e count:Nat}{c:List (List It×Nat)}(h:qm D M s R ((acc,b)::(d,e)::c) b count):qm D M s R ((d++ [gH acc],e)::c) b count:=by
 obtain⟨m,j,i,k,l⟩:=h;rw[L8 D M s acc b (d,e) c count i.top]at j;exact⟨i.1,j,i.2,by simp only[nf,zo,yF]at k⊢;omega,l⟩
theorem qm.len {D M:Int}{s:ByteArray}{R:Rd}{acc:List It}{c at_ count:Nat}{b:List (List It×Nat)}(h:qm D M s R ((acc,c)::b) at_ count):acc.length<=1024/\b.length<=1024/\c<=s.size:=by
 obtain⟨k,i,e,d,j⟩:=h;have:=lI b;simp only[nf]at d;exact⟨by omega,by omega,e.top⟩
structure GC (w0 w:World)(A:Option Addr)(r cp:Nat):Prop where
 res:af w w0.heap.size 28 #[.string ⟨#[]⟩,.bool false,.slice none 0 0]
 opn:af w (w0.heap.size+1) 223 #[.slice A r cp]
 who:∃z0 z1 z2,af w (w0.heap.size+2) 28 #[z0,z1,z2]
 bel:Below w0.heap.size w0 w
 siz:w0.heap.size+3<=w.heap.size
 le:r<=cp
 mx:cp<=9223372036854775807
theorem GC.below {c w w':World}{A:Option Addr}{r d:Nat}(h:GC c w A r d)(b:Below (c.heap.size+3) w w'):GC c w' A r d:=by
 obtain⟨z0,e,z2,hz⟩:=h.who;exact⟨h.res.ag b (by omega),h.opn.ag b (by omega),⟨z0,e,z2,hz.ag b (by omega)⟩,h.bel.trans (b.mono (by omega)),zP h.siz b.size,h.le,h.mx⟩
theorem GC.store {b w:World}{A e:Option Addr}{r j d c:Nat}(h:GC b w A r j)(l:d<=c)(i:c<=9223372036854775807):GC b (w.setCell ⟨b.heap.size+1,0,none⟩ (.slice e d c)) e d c:=by
 obtain⟨z0,k,z2,hz⟩:=h.who;refine⟨h.res.dz (p:=⟨b.heap.size+1,0,none⟩) (by simp) _,h.opn.set 0 _,⟨z0,k,z2,hz.dz (p:=⟨b.heap.size+1,0,none⟩) (by simp) _⟩,h.bel.setCell (by simp) _,by have:=h.siz;simp[World.setCell];omega,l,i⟩
theorem GC.only {b w w':World}{A:Option Addr}{r d:Nat}(h:GC b w A r d)(c:ae [b.heap.size+2] w w'){j e i:Value}(hz:af w' (b.heap.size+2) 28 #[j,e,i]):GC b w' A r d:=
 ⟨h.res.only c (by simp),h.opn.only c (by simp),⟨j,e,i,hz⟩,h.bel.trans (c.below h.bel.size (by simp)),zP h.siz c.size,h.le,h.mx⟩
def rE (w:World)(lo:Nat)(A:Option Addr)(cp:Nat)(fs:List (List It×Nat)):Prop:=fs= []\/∃g vs,A=some ⟨g,0,none⟩/\sL w lo w.heap.size g cp fs vs
theorem rE.below {w w':World}{d:Nat}{A:Option Addr}{c:Nat}{b:List (List It×Nat)}(h:rE w d A c b)(e:Below w.heap.size w w'):rE w' d A c b:=by
 rcases h with h|⟨g,vs,h1,h2⟩
 ·exact .inl h
 have i:=h2.below e;exact .inr ⟨g,vs,h1,⟨i.row,i.rds.up e.size,zi _⟩⟩
theorem rE.only {w w':World}{b:Nat}{A:Option Addr}{d:Nat}{c:List (List It×Nat)}{L:List Nat}(h:rE w b A d c)(e:ae L w w')(j:∀k,k∈L->k<b):rE w' b A d c:=by
 rcases h with h|⟨g,vs,h1,h2⟩
 ·exact .inl h
 have i:=h2.only e j;exact .inr ⟨g,vs,h1,⟨i.row,i.rds.up e.size,zi _⟩⟩
def P9 (w0 w:World)(x:It):Prop:=∃c0 c1 c2,af w (w0.heap.size+2) 28 #[c0,c1,c2]/\fV w (w0.heap.size+3<= ·) x c0 c1 c2
