/- The stack of rlp.Put: lists whose bytes are being laid. Own text; no program in sight but the types' numbers. -/
import Derived.WalkSmall
import Derived.Test.YtimoclkoflamkaaGreatDoorKA8
set_option linter.all false
set_option maxRecDepth 100000
set_option maxHeartbeats 2000000
open Go.Proofs.Tryz
namespace Go.Proofs.YtimoclkoflamkaaGreatDoor
open Go.RowKit
variable {w w':World}{g cap S hi n k z m e d r B i base l:Nat}{D M:Int}{s:ByteArray}{A:Option Addr}{R:Rd}{acc:List It}{xs:List Value}{j:Value}{L:List Nat}
def Zk:=@Ne.symm
def ZB:=@ownsRow_setCell_other
theorem bN.ah {s:List It}(h:bN w B s A i)(c:∀p:Addr,p.block<B->w'.cell? p=w.cell? p):bN w' B s A i:=bN.uK fun j n=>by
 obtain⟨b,o,d0,d1,d2,l,d,e,m,k,hi⟩:=h.at_ j n;exact⟨b,o,d0,d1,d2,l,d,(c _ d).trans e,(c _ d).trans m,(c _ d).trans k,bH.ah (ze _) c _ hi⟩
theorem bN.tail {b o:Nat}:∀{s:List It} {i:Nat},bN w B s (some (b,o)) (i+1)->bN w B s (some (b,o+3)) i
 | [],_,_=>trivial
 |x::xs,i,h=>by
  obtain⟨⟨r,q,j,p,l,c,n,d,k,e,hi⟩,m⟩:=h;injection c with c;injection c with rX ho;subst rX;subst ho;refine⟨⟨b,o+3,j,p,l,rfl,n, ?_, ?_, ?_,hi⟩,bN.tail m⟩
  ·rw[show o+3+i*3=o+(i+1)*3 from by omega];exact d
  ·rw[show o+3+i*3+1=o+(i+1)*3+1 from by omega];exact k
  rw[show o+3+i*3+2=o+(i+1)*3+2 from by omega];exact e
def VY (w:World)(S:Nat)(f:List It×List UInt8)(v:Value×Value):Prop:=
 (∃A cap,v.1= .slice A f.1.length cap/\f.1.length<=cap/\cap<=9223372036854775807/\bN w S f.1 A 0)/\bR w S 5 v.2 f.2
def Lays (w:World)(S:Nat):List (List It×List UInt8)->List (Value×Value)->Prop
 | [],[]=>True
 |f::fs,v::vs=>VY w S f v/\(∀u∈vs,∀g,v.2.ownBlock=some g->u.2.ownBlock≠some g)/\Lays w S fs vs
 |_,_=>False
def dV :List (Value×Value)->List Value
 | []=> []
 |v::vs=>dV vs++ [v.1,v.2]
theorem cd (b:List (Value×Value)):(dV b).length=b.length*2:=by
 induction b with
 |nil=>rfl
 |cons v b ih=>simp[dV,ih];omega
theorem Lays.length :∀{c:List (List It×List UInt8)} {b:List (Value×Value)},Lays w S c b->b.length=c.length
 | [],[],_=>rfl
 |f::c,v::b,h=>by simp[Lays.length h.2.2]
theorem VY.ah {f:List It×List UInt8}{v:Value×Value}(h:VY w S f v)(hS:S<=w.heap.size)(d:∀k,k<w.heap.size->(k<S\/v.2.ownBlock=some k)->w'.heap[k]?=w.heap[k]?):VY w' S f v:=by
 obtain⟨⟨A,cap,b,c,i,l⟩,j⟩:=h;exact⟨⟨A,cap,b,c,i,l.ah fun p e=>zy (d _ (by omega) (.inl e))⟩,j.ah fun k b c=>d k b (.inr c)⟩
theorem Lays.ah (hS:S<=w.heap.size):∀{e:List (List It×List UInt8)} {b:List (Value×Value)},Lays w S e b->(∀k,k<w.heap.size->(k<S\/∃u∈b,u.2.ownBlock=some k)->w'.heap[k]?=w.heap[k]?)->Lays w' S e b
 | [],[],_,_=>trivial
 |f::e,v::b,h,hk=>⟨h.1.ah hS fun k c d=>hk k c (d.imp id fun h=>⟨v,by simp,h⟩),h.2.1,Lays.ah hS h.2.2 fun k c d=>hk k c (d.imp id fun⟨u,hu,h⟩=>⟨u,by simp[hu],h⟩)⟩
theorem Lays.ge :∀{c:List (List It×List UInt8)} {b:List (Value×Value)},Lays w S c b->∀u∈b,∀g,u.2.ownBlock=some g->S<=g/\g<w.heap.size/\∃e d,w.heap[g]?=some (.cells e 5 d)
 | [],[],_,u,hu,_,_=>by cases hu
 |f::c,v::b,h,u,hu,g,hg=>by
  rcases yj.1 hu with rfl|hu
  ·exact h.1.2.ge g hg
  exact Lays.ge h.2.2 u hu g hg
structure Lay (w:World)(S g cap:Nat)(fs:List (List It×List UInt8))(vs:List (Value×Value)):Prop where
 row:w.ownsRow S 208 2 (.slice (some (g,0)) fs.length cap) fs.length (dV vs)
 lays:Lays w S fs vs
theorem gF {size:Nat}{e:TypeId}(h:w.ownsRow base e size (.slice (some (g,0)) n cap) n xs)(q:k<xs.length)(u:Value):
 (w.setCell (g,k) u).ownsRow base e size (.slice (some (g,0)) n cap) n (xs.set k u):=by
 obtain⟨j,b⟩:=h;refine⟨by rw[Zr];exact j, ?_⟩;rcases b with⟨b,_⟩|⟨r,x,s,c,o,i,l,m,p,d⟩
 ·cases b
 cases c
 exact .inr ⟨g,cap,_,rfl,o,jl u i,l,m,by simpa using p,by rw[Ya,List.take_set,d]⟩
theorem dG {size:Nat}{e:TypeId}(h:w.ownsRow base e size (.slice (some (g,0)) n cap) n xs):base<=g/\g<w.heap.size/\n<=cap/\cap<=9223372036854775807/\∃c,w.heap[g]?=some (.cells c e (0,0)):=by
 obtain⟨o,b⟩:=h;rcases b with⟨b,_⟩|⟨q,r,c,i,l,d,j,k,p,m⟩
 ·cases b
 cases i
 exact⟨l,yp d,j,by simpa[maxLen]using k,c,d⟩
theorem Lay.block {b:List (List It×List UInt8)}{c:List (Value×Value)}(h:Lay w S g cap b c):S<=g/\g<w.heap.size/\b.length<=cap/\cap<=9223372036854775807/\∃d,w.heap[g]?=some (.cells d 208 (0,0)):=dG h.row
theorem Lay.below {d:List (List It×List UInt8)}{b:List (Value×Value)}(h:Lay w S g cap d b)(hS:S<=w.heap.size)(c:Below w.heap.size w w'):Lay w' S g cap d b:=
 ⟨h.row.kept (cT c) (.inr (by simp[Value.ownBlock])),h.lays.ah hS fun k e _=>c.block k e⟩
theorem Lay.top {f:List It×List UInt8}{b:List (List It×List UInt8)}{v:Value×Value}{c:List (Value×Value)}(h:Lay w S g cap (f::b) (v::c)):
 (w,g,b.length*2,v.1)/\(w,g,b.length*2+1,v.2)/\w.frozen? (g,b.length*2)=false/\w.frozen? (g,b.length*2+1)=false/\(∀i,v.2.ownBlock≠some i\/i≠g):=by
 have m:=h.lays.2.2.length;have o:=cd c;have l:∀j,((g,0):Addr).add j=⟨g,j,none⟩:=by intro j;unfold Addr.add;split<;>simp_all
 obtain⟨n,q,_,_,p,d⟩:=h.block;have k:=h.row.cells (g:=g) rfl (b.length*2) v.1 (by
  show(dV c++ [v.1,v.2])[b.length*2]?=_
  rw[yg (by omega),show b.length*2-(dV c).length=0 from by omega];rfl)
 have e:=h.row.cells (g:=g) rfl (b.length*2+1) v.2 (by
  show(dV c++ [v.1,v.2])[b.length*2+1]?=_
  rw[yg (by omega),show b.length*2+1-(dV c).length=1 from by omega];rfl)
 rw[l]at k e;refine⟨k,e,dR d (.inl rfl),dR d (.inl rfl),fun i=> ?_⟩;by_cases hi:i=g
 ·left;subst hi;exact bR.cw h.lays.1.2 d (by decide)
 exact .inr hi
theorem Ky (b:List (Value×Value))(v:Value×Value)(u:Value)(k:Nat)(c:k=b.length*2):(dV (v::b)).set (k+1) u=dV ((v.1,u)::b):=by
 subst c;show(dV b++ [v.1,v.2]).set _ u=dV b++ [v.1,u]
 rw[xz _ _ (by rw[cd];omega),cd,show b.length*2+1-b.length*2=1 from by omega];rfl
theorem AI (b:List (Value×Value))(v:Value×Value)(u:Value)(k:Nat)(c:k=b.length*2):(dV (v::b)).set k u=dV ((u,v.2)::b):=by
 subst c;show(dV b++ [v.1,v.2]).set _ u=dV b++ [u,v.2]
 rw[xz _ _ (by rw[cd];omega),cd,Zf];rfl
theorem bO {p:Addr}{u:Value}(h:k≠p.block):(w.setCell p u).heap[k]?=w.heap[k]?:=by
 simp[World.setCell,ZJ,Zk h]
theorem Lay.bytes {y:World}{xs:List It}{b E:List UInt8}{o:List (List It×List UInt8)}{s r d:Value}{x:List (Value×Value)}(h:Lay w S g cap ((xs,b)::o) ((s,r)::x))(hS:S<=w.heap.size)
 (n:lP w y r d) (H:bR y S 5 d E):Lay (y.setCell (g,o.length*2+1) d) S g cap ((xs,E)::o) ((s,d)::x):=by
 have R:=h.lays.2.2.length;obtain⟨W,U,_,_,O,L⟩:=h.block;have z:r.ownBlock≠some g:=by
  rcases h.top.2.2.2.2 g with h|h
  ·exact h
  exact absurd rfl h
 have M:d.ownBlock≠some g:=by
  rcases n.own with e|⟨i,e,hi⟩
  ·rw[e];exact z
  rw[e];intro q;injection q with q;omega
 have C:=gF (k:=o.length*2+1) (h.row.kept n.grown (.inr (by simp only[Value.ownBlock];exact Zk z))) (by rw[cd];simp;omega) d;rw[Ky x (s,r) d _ (by omega)]at C;refine⟨C,⟨⟨?_, ?_⟩, ?_, ?_⟩⟩
 ·obtain⟨⟨A,c,K,q,G,J⟩,_⟩:=h.lays.1;refine⟨A,c,K,q,G,J.ah fun p X=>zy ?_⟩;rw[bO (by simp;omega),n.block (by omega) (fun e=>by have:=(h.lays.1.2.ge _ e).1;omega)]
 ·refine H.ah fun k B I=>bO ?_
  intro e;simp only at e;subst e;exact M I
 ·intro u hu i hi F;rcases n.own with e|⟨j,e,hj⟩
  ·exact h.lays.2.1 u hu i (by rw[<-e];exact hi) F
  have l:=(h.lays.2.2.ge u hu i F).2.1;have hi:d.ownBlock=some i:=hi;rw[e]at hi;injection hi with hi;omega
 refine h.lays.2.2.ah hS fun k B D=> ?_
 have N:k≠g:=by
  rcases D with l|⟨u,hu,l⟩
  ·omega
  rintro rfl;obtain⟨_,_,Y,Z,m⟩:=h.lays.2.2.ge u hu k l;rw[L]at m;injection m with m;injection m with _ m;exact absurd m (by decide)
 rw[bO (by simpa using N),n.block B (fun e=> ?_)];rcases D with l|⟨u,hu,l⟩
 ·have:=(h.lays.1.2.ge _ e).1;omega
 exact h.lays.2.1 u hu k e l
theorem Lay.items {xs xs':List It}{b:List UInt8}{e:List (List It×List UInt8)}{m:Value}{i:List (Value×Value)}(h:Lay w S g cap ((xs,b)::e) ((m,j)::i))(hS:S<=w.heap.size)
  {c:Nat} (r:xs'.length<=c) (z:c<=9223372036854775807) (y:bN w S xs' A 0):Lay (w.setCell (g,e.length*2) (.slice A xs'.length c)) S g cap ((xs',b)::e) ((.slice A xs'.length c,j)::i):=by
 have C:=h.lays.2.2.length;obtain⟨F,D,_,_,B,x⟩:=h.block;have o:=gF (k:=e.length*2) h.row (by rw[cd];simp;omega) (.slice A xs'.length c);rw[AI i (m,j) _ _ (by omega)]at o;have n:∀k,k<S\/(∃u∈(m,j)::i,u.2.ownBlock=some k)->k≠g:=by
  intro k l;rcases l with h1|⟨u,hu,h1⟩
  ·omega
  rintro rfl;obtain⟨_,_,G,H,d⟩:=Lays.ge h.lays u hu k h1;rw[x]at d;injection d with d;injection d with _ d;exact absurd d (by decide)
 refine⟨o,⟨⟨⟨A,c,rfl,r,z,y.ah fun p s=>zy (bO (by simpa using n _ (.inl s)))⟩,h.lays.1.2.ah fun k _ q=>bO (by simpa using n _ (.inr ⟨_,by simp,q⟩))⟩,h.lays.2.1,h.lays.2.2.ah hS fun k E l=>bO (by simpa using n _ (l.imp id fun⟨u,hu,h⟩=>⟨u,by simp[hu],h⟩))⟩⟩
theorem Lay.push {d:List (List It×List UInt8)}{j:List (Value×Value)}(h:Lay w S g cap d j)(hS:S<=w.heap.size){s:List It}{c:Nat}(x:s.length<=c)(B:c<=9223372036854775807)(z:bN w S s A 0)
 (q:w'.ownsRow S 208 2 (.slice (some ⟨l,0,none⟩) (d.length+1) m) (d.length+1) (dV j++ [.slice A s.length c,.slice none 0 0])) (n:w.grownBy w' (some g)):
 Lay w' S l m ((s,[])::d) ((.slice A s.length c,nS)::j):=by
 obtain⟨E,D,_,_,C,y⟩:=h.block;refine⟨q,⟨⟨⟨A,c,rfl,x,B,z.ah fun p F=>zy (n.block _ (by omega) (by simp;omega))⟩,bR.nil _ _ _⟩,(fun u _ i hi=>by cases hi),h.lays.ah hS fun k o r=>n.block k o ?_⟩⟩;intro e;injection e with e;rcases r with h1|⟨u,hu,h1⟩
 ·omega
 subst e;obtain⟨_,_,H,G,b⟩:=h.lays.ge u hu k h1;rw[y]at b;injection b with b;injection b with _ b;exact absurd b (by decide)
theorem Lay.pop {f:List It×List UInt8}{c:List (List It×List UInt8)}{v:Value×Value}{b:List (Value×Value)}(h:Lay w S g cap (f::c) (v::b)):Lay w S g cap c b:=
 ⟨ownsRow_pop (by rw[cd,h.lays.2.2.length]) h.row,h.lays.2.2⟩
def mH (w:World)(k:Nat):Prop:=∀cs fr,w.heap[k]?≠some (.cells cs 251 fr)
theorem mH.of_eq (h:mH w k)(e:w'.heap[k]?=w.heap[k]?):mH w' k:=by
 intro b c;rw[e];exact h b c
theorem mH.MG {d:Array Value}{t:TypeId}{b:Nat×Nat}(h:w.heap[k]?=some (.cells d t b))(c:t≠251):mH w k:=by
 intro i j e;rw[h]at e;injection e with e;injection e with _ e;exact c e
def RdF (w:World)(m hi:Nat)(f:List It×Nat)(v:Value×Value):Prop:=
 v.2= .int .i64 f.2/\(∀g,v.1.ownBlock=some g->g<hi)/\∃cs,w.ownsRow m 28 3 v.1 f.1.length cs/\fW w (fun k=>m<=k/\k<hi/\v.1.ownBlock≠some k/\mH w k) f.1 cs
def O1 (w:World)(lo:Nat):Nat->List (List It×Nat)->List (Value×Value)->Prop
 |_,[],[]=>True
 |hi,f::fs,v::vs=>∃m,lo<=m/\m<=hi/\RdF w m hi f v/\O1 w lo m fs vs
 |_,_,_=>False
theorem O1.length :∀{c:List (List It×Nat)} {b:List (Value×Value)} {hi:Nat},O1 w d hi c b->b.length=c.length
 | [],[],_,_=>rfl
 |f::c,v::b,hi,h=>by
  obtain⟨m,_,_,_,h⟩:=h;simp[O1.length h]
theorem RdF.ah {f:List It×Nat}{v:Value×Value}(h:RdF w m hi f v)(l:hi<=e)(c:∀k,m<=k->k<hi->k<w.heap.size->mH w k->w'.heap[k]?=w.heap[k]?):RdF w' m e f v:=by
 obtain⟨n,i,q,d,o⟩:=h;refine⟨n,fun g b=>zJ (i g b) l,q,⟨d.1, ?_⟩,o.ah (fun k s hS=>⟨hS.1,by omega,hS.2.2.1,hS.2.2.2.of_eq (c k hS.1 hS.2.1 s hS.2.2.2)⟩) fun p j hS=>zy (c _ hS.1 hS.2.1 j hS.2.2.2)⟩;rcases d.2 with h5|⟨g,cap,cur,hv,b,hh',r⟩
 ·exact .inl h5
 exact .inr ⟨g,cap,cur,hv,b,(c g b (i g (by rw[hv];rfl)) (yp hh') (mH.MG hh' (by decide))).trans hh',r⟩
theorem O1.ah {c:Nat}:∀{d:List (List It×Nat)} {e:List (Value×Value)} {hi:Nat},O1 w c hi d e->(∀k,c<=k->k<hi->k<w.heap.size->mH w k->w'.heap[k]?=w.heap[k]?)->O1 w' c hi d e
 | [],[],_,_,_=>trivial
 |f::d,v::e,hi,h,hk=>by
  obtain⟨m,j,l,i,n⟩:=h;exact⟨m,j,l,i.ah (ze _) fun k a b=>hk k (by omega) b,O1.ah n fun k a b=>hk k a (by omega)⟩
theorem O1.up {b:List (List It×Nat)}{c:List (Value×Value)}(h:O1 w d hi b c)(j:hi<=e):O1 w d e b c:=by
 match b,c,h with
 | [],[],_=>trivial
 |f::b,v::c,h=>
  obtain⟨m,k,n,i,l⟩:=h;exact⟨m,k,by omega,i.ah j fun _ _ _ _ _=>rfl,l⟩
structure ua (w:World)(lo hi g cap:Nat)(fs:List (List It×Nat))(vs:List (Value×Value)):Prop where
 row:w.ownsRow lo 251 2 (.slice (some (g,0)) fs.length cap) fs.length (dV vs)
 rds:O1 w lo hi fs vs
 le:hi<=w.heap.size
theorem ua.block {b:Nat}{c:List (List It×Nat)}{d:List (Value×Value)}(h:ua w b hi g cap c d):b<=g/\g<w.heap.size/\c.length<=cap/\cap<=9223372036854775807/\∃e,w.heap[g]?=some (.cells e 251 (0,0)):=dG h.row
theorem ua.below {c:Nat}{d:List (List It×Nat)}{e:List (Value×Value)}(h:ua w c hi g cap d e)(b:Below w.heap.size w w'):ua w' c hi g cap d e:=
 ⟨h.row.kept (cT b) (.inr (by simp[Value.ownBlock])),h.rds.ah fun k _ _ i _=>b.block k i,zz h.le b.size⟩
theorem ua.only {b:Nat}{e:List (List It×Nat)}{i:List (Value×Value)}(h:ua w b hi g cap e i)(c:ae L w w')(j:∀k,k∈L->k<b):ua w' b hi g cap e i:=by
 obtain⟨p,m,_,_,q,n⟩:=h.block;refine⟨⟨h.row.1, ?_⟩,h.rds.ah fun k o _ l _=>c.block k l fun d=>by have:=j k d;omega,zz h.le c.size⟩;rcases h.row.2 with h2|⟨g',aj,oa,hv,hb,hh',r⟩
 ·exact .inl h2
 injection hv with M8 uY FB;injection M8 with M8;injection M8 with M8;subst M8;exact .inr ⟨g,aj,oa,by rw[FB],hb,(c.block g m fun d=>by have:=j g d;omega).trans hh',r⟩
theorem ua.top {f:List It×Nat}{b:List (List It×Nat)}{v:Value×Value}{c:List (Value×Value)}(h:ua w k hi g cap (f::b) (v::c)):
 (w,g,b.length*2,v.1)/\(w,g,b.length*2+1,f.2)/\w.frozen? (g,b.length*2)=false/\w.frozen? (g,b.length*2+1)=false:=by
 obtain⟨m,_,_,o,l⟩:=h.rds;have p:=l.length;have r:=cd c;have n:∀j,((g,0):Addr).add j=⟨g,j,none⟩:=by intro j;unfold Addr.add;split<;>simp_all
 obtain⟨q,u,_,_,s,e⟩:=h.block;have i:=h.row.cells (g:=g) rfl (b.length*2) v.1 (by
  show(dV c++ [v.1,v.2])[b.length*2]?=_
  rw[yg (by omega),show b.length*2-(dV c).length=0 from by omega];rfl)
 have d:=h.row.cells (g:=g) rfl (b.length*2+1) v.2 (by
  show(dV c++ [v.1,v.2])[b.length*2+1]?=_
  rw[yg (by omega),show b.length*2+1-(dV c).length=1 from by omega];rfl)
 rw[n]at i d;rw[o.1]at d;exact⟨i,d,dR e (.inl rfl),dR e (.inl rfl)⟩
theorem ua.pop {b:Nat}{f:List It×Nat}{c:List (List It×Nat)}{v:Value×Value}{i:List (Value×Value)}(h:ua w b hi g cap (f::c) (v::i)):
 ∃m,b<=m/\m<=hi/\RdF w m hi f v/\ua w b m g cap c i:=by
 obtain⟨m,k,d,j,e⟩:=h.rds;exact⟨m,k,d,j,⟨ownsRow_pop (by rw[cd,e.length]) h.row,e,zz d h.le⟩⟩
theorem RdF.list {v:Value×Value}(h:RdF w m hi (acc,z) v)(l:acc.length<=9223372036854775807):
 ∃A cap,v.1= .slice A acc.length cap/\acc.length<=cap/\cap<=9223372036854775807/\∀c,acc.length<=c->c<=9223372036854775807->fV w (fun k=>m<=k/\mH w k) (gS acc) eS true (.slice A acc.length c):=by
 obtain⟨_,C,D,e,r⟩:=h;rcases e.2 with⟨d,b⟩|⟨g,cap,E,i,x,n,p,q,_⟩
 ·have b:acc.length=0:=b;obtain rfl:acc= []:=zk b;exact⟨none,0,d,by simp,by simp,fun c _ s=>⟨rfl,rfl,ya _,l,none,c,rfl,ya _,s,trivial⟩⟩
 refine⟨some (g,0),cap,i,p,by simpa[maxLen]using q,fun c B y=>⟨rfl,rfl,ya _,l,some (g,0),c,rfl,B,y, ?_⟩⟩;refine lX.dU ⟨x,mH.MG n (by decide)⟩ (r.ah (fun k _ h=>⟨h.1,h.2.2.2⟩) (fun _ _ _=>rfl)) fun j u hu=> ?_
 have o:v.1.ownBlock=some g:=by rw[i];rfl
 have:=e.cells o j u hu;have d:((g,0):Addr).add j=⟨g,j,none⟩:=by unfold Addr.add;split<;>simp_all
 rw[d]at this;simpa using this
theorem ua.push {b:Nat}{c:List (List It×Nat)}{i:List (Value×Value)}(h:ua w b hi g cap c i)(j:Nat)
 (n:w'.ownsRow b 251 2 (.slice (some ⟨l,0,none⟩) (c.length+1) m) (c.length+1) (dV i++ [.slice none 0 0,.int .i64 j])) (d:w.grownBy w' (some g)) (r:b<=hi):
 ua w' b w'.heap.size l m (([],j)::c) ((.slice none 0 0,j)::i):=by
 obtain⟨x,s,_,_,u,p⟩:=h.block;refine⟨n,⟨hi,r,zz h.le d.size,⟨rfl,(fun g d=>by cases d),[],World.ownsRow_nil _ _ _ _,rfl⟩,h.rds.ah fun k _ _ o q=>d.block k o ?_⟩,ze _⟩;intro e;injection e with e;subst e;exact q _ _ p
theorem ua.first {b:Nat}(c:Nat)(d:w.ownsRow b 251 2 (.slice (some (g,0)) 1 cap) 1 [.slice none 0 0,c])(e:b<=w.heap.size):ua w b w.heap.size g cap [([],c)] [(.slice none 0 0,c)]:=
 ⟨d,⟨b,ze _,e,⟨rfl,(fun g h=>by cases h),[],World.ownsRow_nil _ _ _ _,rfl⟩,trivial⟩,ze _⟩
theorem ua.added {l:World}{A b s:Nat}{en:Nat}{d:List (List It×Nat)}{c C:Value}{B:List (Value×Value)}{r:List Value}{z0 X W i o n:Value}{y:It}
 (N:w.ownsRow A 251 2 (.slice (some (g,0)) (d.length+1) cap) (d.length+1) (dV ((c,C)::B))) (ah:hi<=w.heap.size) (dN:A<=m) (pj:m<=hi) (M8:C= .int .i64 en) (R:∀g,c.ownBlock=some g->g<hi)
 (J:w.ownsRow m 28 3 c acc.length r) (rR:fW w (fun k=>m<=k/\k<hi/\c.ownBlock≠some k/\mH w k) acc r) (Y:O1 w A m d B) (hy:fV w (fun k=>hi<=k/\mH w k) y i o n)
 (K:w.grownBy l c.ownBlock) (M:l.ownsRow m 28 3 (.slice (some (b,0)) (acc.length+1) s) (acc.length+1) (r++ [z0,X,W])) (E:c.ownBlock=some b\/w.heap.size<=b):
 ua ((((l.setCell (b,acc.length*3) i).setCell (b,acc.length*3+1) o).setCell (b,acc.length*3+2) n).setCell (g,d.length*2) (.slice (some (b,0)) (acc.length+1) s)) A l.heap.size g cap ((acc++ [y],en)::d) ((.slice (some (b,0)) (acc.length+1) s,C)::B):=by
 have hl:=Y.length;obtain⟨Ns,j7,af,Qv,ag,G⟩:=dG N;have ad:=J.1;have Qk:c.ownBlock≠some g:=by
  intro e;rcases J.2 with⟨I,_⟩|⟨g2,cap2,ab,L,_,u,_⟩
  ·rw[I]at e;cases e
  rw[L]at e;have:g2=g:=by simpa[Value.ownBlock]using e
  subst this;rw[G]at u;injection u with u;injection u with _ u;exact absurd u (by decide)
 have aa:b≠g:=by
  rcases E with e|e
  ·intro j;exact Qk (by rw[e,j])
  omega
 have O:=gF (gF (gF M (k:=acc.length*3) (by simp;omega) i) (k:=acc.length*3+1) (by simp;omega) o) (k:=acc.length*3+2) (by simp;omega) n;have Py:(((r++ [z0,X,W]).set (acc.length*3) i).set (acc.length*3+1) o).set (acc.length*3+2) n=r++ [i,o,n]:=by
  rw[<-ad,xz _ _ (by omega),xz _ _ (by omega),xz _ _ (by omega)];simp
 rw[Py]at O;have z:∀k,k<w.heap.size->c.ownBlock≠some k->k≠g->((((l.setCell (b,acc.length*3) i).setCell (b,acc.length*3+1) o).setCell (b,acc.length*3+2) n).setCell (g,d.length*2) (.slice (some (b,0)) (acc.length+1) s)).heap[k]?=w.heap[k]?:=by
  intro k h H Z;have x:k≠b:=by
   rcases E with e|e
   ·intro j;exact H (by rw[e,j])
   omega
  rw[bO (by simpa using Z),bO (by simpa using x),bO (by simpa using x),bO (by simpa using x)];exact K.block k h (fun e=>H e.symm)
 have dZ:((((l.setCell (b,acc.length*3) i).setCell (b,acc.length*3+1) o).setCell (b,acc.length*3+2) n).setCell (g,d.length*2) (.slice (some (b,0)) (acc.length+1) s)).heap.size=l.heap.size:=by simp[World.setCell]
 have I6:=K.size;have ae:b<l.heap.size:=(dG M).2.1;have UG:l.ownsRow A 251 2 (.slice (some (g,0)) (d.length+1) cap) (d.length+1) (dV ((c,C)::B)):=N.kept K (.inr (by simp only[Value.ownBlock];exact Zk Qk));have Iy:=ZB (ZB (ZB UG (a:=(b,acc.length*3)) (by simp[Value.ownBlock];omega) i) (a:=(b,acc.length*3+1)) (by simp[Value.ownBlock];omega) o) (a:=(b,acc.length*3+2)) (by simp[Value.ownBlock];omega) n;have U:=gF Iy (k:=d.length*2) (by rw[cd];simp;omega) (.slice (some (b,0)) (acc.length+1) s);rw[AI B (c,C) _ _ (by omega)]at U;refine⟨U,⟨m,dN,by omega,⟨M8, ?_,r++ [i,o,n], ?_, ?_⟩, ?_⟩,by rw[dZ];exact ze _⟩
 ·intro g2 pZ;have:b=g2:=by simpa[Value.ownBlock]using pZ
  omega
 ·rw[zh];exact ZB O (a:=(g,d.length*2)) (by simp[Value.ownBlock];exact aa) _
 ·have D:∀k,k<w.heap.size->(hi<=k/\mH w k)->(c.ownBlock≠some k/\k≠g):=fun k h hS=>⟨fun e=>by have:=R _ e;omega,by rintro rfl;exact hS.2 _ _ G⟩
  have F:∀k,k<w.heap.size->(m<=k/\k<hi/\c.ownBlock≠some k/\mH w k)->(c.ownBlock≠some k/\k≠g):=fun k h hS=>⟨hS.2.2.1,by rintro rfl;exact hS.2.2.2 _ _ G⟩
  refine fW.snoc (fV.ah (w:=w) (S:=fun k=>hi<=k/\mH w k) (fun k h hS=> ?_) (fun p q hS=> ?_) y hy) (rR.ah (fun k h hS=> ?_) fun p q hS=> ?_)
  ·refine⟨by omega,by omega, ?_,hS.2.of_eq (z k h (D k h hS).1 (D k h hS).2)⟩;intro e;have e:b=k:=by simpa[Value.ownBlock]using e
   rcases E with j|j
   ·have:=R _ j;omega
   omega
  ·exact zy (z _ q (D _ q hS).1 (D _ q hS).2)
  ·refine⟨hS.1,by omega, ?_,hS.2.2.2.of_eq (z k h (F k h hS).1 (F k h hS).2)⟩;intro e;have e:b=k:=by simpa[Value.ownBlock]using e
   rcases E with j|j
   ·exact hS.2.2.1 (by rw[j,e])
   omega
  exact zy (z _ q (F _ q hS).1 (F _ q hS).2)
 refine Y.ah fun k H Z x h4=>z k x (fun e=> ?_) (by rintro rfl;exact h4 _ _ G)
 rcases J.2 with⟨I,_⟩|⟨g2,cap2,ab,L,aI,_⟩
 ·rw[I]at e;cases e
 rw[L]at e;have:g2=k:=by simpa[Value.ownBlock]using e
 omega
theorem l7 {a b:Addr}(h:a.block≠b.block)(x y:Value):(w.setCell a x).setCell b y=(w.setCell b y).setCell a x:=by
 unfold World.setCell;dsimp only;congr 1
 apply Array.ext
 ·simp
 intro i j k;simp only[Array.getElem_modify];by_cases c:a.block=i
 ·have d:¬b.block=i:=fun e=>h (c.trans e.symm)
  simp[c,d]
 simp[c]
theorem sT {ops:Array Oper}{o:Oper}{a:Act}{K:Act->World->Prop}{Q:Exit->Act->World->Prop}{M:Prop}(A:o.guard=none)(s x:Operand)
 (E:o.op= .call {callee:= .builtin .append,args:= #[s,x],argTypes:= #[26,26]}) (m n:Nat) {v:Value} {i:List Value} (F:a.eval s=v) (p:w.ownsRow m 28 3 v n i) (B:Nat)
 (hx:a.eval x= .slice (some (B,0)) 1 1) (y:af w B 28 #[eS,false,nS]) (U:n<=1000000) (z:m<=w.heap.size)
 (L:∀b c w',Hid (w'.ownsRow m 28 3 (.slice (some ⟨b,0,none⟩) (n+1) c) (n+1) (i++ [.string ⟨#[]⟩,.bool false,.slice none 0 0]))->Hid (w.grownBy w' v.ownBlock)->Hid (v.ownBlock=some b\/w.heap.size<=b)->n+1<=c->c<=9223372036854775807->
  w'.cell? (b,n*3)=some (.string ⟨#[]⟩)->w'.cell? (b,n*3+1)=some (.bool false)->w'.cell? (b,n*3+2)=some (.slice none 0 0)->
  w'.frozen? (b,n*3)=false->w'.frozen? (b,n*3+1)=false->w'.frozen? (b,n*3+2)=false->K (a.put o.dst (.slice (some (b,0)) (n+1) c)) w'):
 if Region.wanted o (yielded ops a.tmps)=true then Oper.wp prog o a w K Q else M:=by
 obtain⟨i0,hi,I,N,J⟩:=yv sK;refine ZK w A s x 26 E m 28 i0 _ 3 48 xU hi I N J rfl (by decide) v n i F p (B,0) 1 1 [.string ⟨#[]⟩,false,nS] hx rfl ?_ ?_ (by decide) (by simp only[maxLen];omega) (by omega) z w.heap.size rfl ?_
 ·exact fun j u hu=>ZZ y j u (by simpa using hu)
 ·intro u hu;simp at hu;rcases hu with rfl|rfl|rfl<;>rfl
 intro b c w' d G C R;obtain⟨_,_,H,O,S,k⟩:=dG d;have e:=p.1;have D:∀j,((b,0):Addr).add j=⟨b,j,none⟩:=by intro j;unfold Addr.add;split<;>simp_all
 have q:=d.cells (g:=b) rfl (n*3) eS (by rw[yg (by omega),e,Zf];rfl);have l:=d.cells (g:=b) rfl (n*3+1) false (by rw[yg (by omega),e,show n*3+1-n*3=1 from by omega];rfl);have r:=d.cells (g:=b) rfl (n*3+2) nS (by rw[yg (by omega),e,show n*3+2-n*3=2 from by omega];rfl);rw[D]at q l r;exact L b c w' (za d) (za G) (za (C.imp id fun h=>by omega)) H O q l r (dR k (.inl rfl)) (dR k (.inl rfl)) (dR k (.inl rfl))
theorem He (W:World)(c b:Nat)(A:Option Addr)(i:Nat)(t:ByteArray)(l:Bool)(j:Option Addr)(n2 k2:Nat)(o k n:Value)(u:i<=9223372036854775807)(h:af W c 248 #[.slice A 0 i])(d:af W b 28 #[o,k,n])(q:c≠b):
 Calls prog 196 #[.agg #[t,l,.slice j n2 k2],(c,0),(b,0)] W fun e w'=>e= .returned (.tuple #[])/\af w' b 28 #[t,l,.slice j n2 k2]/\ae [b] W w':=by
 have p:=h.cell 0;have p:W.cell? (c,0)=some (.slice A 0 i):=h.cell 0;have s:=h.lt;have r:=d.lt;obtain⟨g0,g1,g2,f0,f1,f2⟩:=bq d;have m:=za d;clear h d;go_enter func196,ntmps196
 go_wp2;refine zj (v:= .tuple #[]) (results_none rfl _ _ _) rfl ⟨rfl,((((m.out.set 0 _).set 1 _).set 2 _).alloc _), ?_⟩;exact((((ae.refl [b] W).setCell (by simp) _).setCell (by simp) _).setCell (by simp) _).alloc _
theorem Hf (W:World)(p hi g L b9 YS:Nat)(acc:List It)(G:Nat)(B:List (List It×Nat))(v0 v1:Value)(S:List (Value×Value))(y:It)(c0 c1 c2:Value)
 (N:af W b9 248 #[.slice (some (g,0)) (B.length+1) L]) (w:ua W p hi g L ((acc,G)::B) ((v0,v1)::S)) (hy:fV W (fun k=>hi<=k/\mH W k) y c0 c1 c2) (ab:acc.length<=1000000):
 Calls prog 196 #[.agg #[c0,c1,c2],(b9,0),(YS,0)] W fun e w'=>e= .returned (.tuple #[])/\Below p W w'/\∃TV,ua w' p w'.heap.size g L ((acc++ [y],G)::B) ((TV,v1)::S):=by
 have HR:=za w;obtain⟨m,dN,Z,⟨M8,I,cs,E,X⟩,Cf⟩:=w.rds;obtain⟨Ns,j7,qg,ax,av,hh⟩:=w.block;obtain⟨t0,t1,Nt,PO⟩:=w.top;have ak:=w.le;simp only[zx]at qg;dsimp only at M8 I E X t0;have vK:=za E;have Ll:=za X;have Cg:=za Cf;have Lk:=za I;have HY:=za hy;have HF:Hid (∃A n cap,v0= .slice A n cap/\n=acc.length/\n<=cap/\cap<=9223372036854775807):=za (by
  rcases E.2 with⟨R,e2⟩|⟨g2,cap2,ar,U,_,_,IY,Z,_⟩
  ·exact⟨none,0,0,R,e2.symm,by simp,by simp⟩
  exact⟨_,_,cap2,U,rfl,IY,by simpa[maxLen]using Z⟩)
 obtain⟨s,d,o,rfl,po,Dl,au⟩:=HF.out;have J:=za po;obtain⟨l,j,rfl,rfl,rfl,mR,TU,ay,_⟩:=hy.open_;have aj:=N.cell 0;have az:=N.lt;obtain⟨r,hr⟩:∃r,B.length=r:=⟨_,rfl⟩
 have py:=za hr;rw[hr]at t0 t1 Nt PO qg N aj;have Qm:Hid (∀k,W.heap.size<=k->Value.ownBlock (.slice s d o)≠some k):=za (fun k hk e=>by have:=I k e;omega);have aa:Hid (Value.ownBlock (.slice s d o)≠some g):=za (by
  intro e;rcases E.2 with⟨R,_⟩|⟨g2,cap2,ar,U,_,z,_⟩
  ·rw[R]at e;cases e
  rw[U]at e;have:g2=g:=by simpa[Value.ownBlock]using e
  subst this;rw[hh]at z;injection z with z;injection z with _ z;exact absurd z (by decide))
 subst M8;clear X Cf I E hy w hh hr po;have ai:Hid (af (((W.alloc (.cells #[y.text,y.list,.slice l y.sub.length j] 28)).drew).alloc (.cells #[eS,false,nS] 28)) (W.heap.size+1) 28 #[eS,false,nS]):=za (by have:=af.new (W.alloc (.cells #[y.text,y.list,.slice l y.sub.length j] 28)).drew 28 #[eS,false,nS];simpa using this);have sj:Hid (af (((W.alloc (.cells #[y.text,y.list,.slice l y.sub.length j] 28)).drew).alloc (.cells #[eS,false,nS] 28)) W.heap.size 28 #[y.text,y.list,.slice l y.sub.length j]):=za (((af.new W 28 #[y.text,y.list,.slice l y.sub.length j]).drew).alloc _);have ae:Hid ((((W.alloc (.cells #[y.text,y.list,.slice l y.sub.length j] 28)).drew).alloc (.cells #[eS,false,nS] 28)).ownsRow m 28 3 (.slice s d o) acc.length cs):=za ((vK.out.alloc _).drew.alloc _);have C:Hid (W,((W.alloc (.cells #[y.text,y.list,.slice l y.sub.length j] 28)).drew).alloc (.cells #[eS,false,nS] 28)):=za ((((zi W.heap.size W).alloc (ze _) _).drew).alloc (by simp) _);have M:Hid (g<(((W.alloc (.cells #[y.text,y.list,.slice l y.sub.length j] 28)).drew).alloc (.cells #[eS,false,nS] 28)).heap.size):=za (by simp;omega);have ad:Hid (((((W.alloc (.cells #[y.text,y.list,.slice l y.sub.length j] 28)).drew).alloc (.cells #[eS,false,nS] 28)),g,r*2,Value.slice s d o)/\(((W.alloc (.cells #[y.text,y.list,.slice l y.sub.length j] 28)).drew).alloc (.cells #[eS,false,nS] 28)).frozen? (g,r*2)=false):=za ⟨(C.out.cell j7).trans t0,(C.out.frozen j7).trans Nt⟩
 have ah:Hid (∀i:Nat,(Value.ownBlock (.slice s d o)=some i\/(((W.alloc (.cells #[y.text,y.list,.slice l y.sub.length j] 28)).drew).alloc (.cells #[eS,false,nS] 28)).heap.size<=i)->i≠g):=za (fun i h e=>by
  subst e;rcases h with h|h
  ·exact aa.out h
  have:=M.out;omega)
 have an:Hid (m<=(((W.alloc (.cells #[y.text,y.list,.slice l y.sub.length j] 28)).drew).alloc (.cells #[eS,false,nS] 28)).heap.size):=za (by simp;omega);rw[<-J.out]at ab;rw[<-J.out]at ae;have aw:(d:Int)<d+1:=by omega
 go_enter func196,ntmps196
 go_wp2_with fail
 go_region_law (refine sT (by rfl) (.tmp 17) (.tmp 20) (by rfl) m d (by rfl) ae.out (W.heap.size+1) (by rfl) ai.out ab an.out ?_;intro i D q WS u K Bc oe q0 q1 q2 YT ao al;obtain⟨x0,x1,x2,_⟩:=bq (sj.out.grown u.out (Qm.out _ (ze _)));have e3:q.cell? (g,r*2)=some (.slice s d o):=(u.out.cell_far (g,r*2) M.out (Zk aa.out)).trans ad.out.1;have e4:q.frozen? (g,r*2)=false:=(u.out.frozen_far (g,r*2) M.out (Zk aa.out)).trans ad.out.2;have ag:i≠g:=ah.out i K.out;have Y:g≠i:=Zk ag)
 all_goals
  have HD:Hid (ua ((((q.setCell ⟨i,d*3,none⟩ (.string y.text)).setCell ⟨i,d*3+1,none⟩ (.bool y.list)).setCell ⟨i,d*3+2,none⟩ (.slice l y.sub.length j)).setCell ⟨g,r*2,none⟩ (.slice (some ⟨i,0,none⟩) (d+1) D)) p q.heap.size g L ((acc++ [y],G)::B) ((.slice (some ⟨i,0,none⟩) (d+1) D,.int .i64 G)::S)):=za (by
   have F:=K.out;have H:=WS.out;rw[<-py.out,J.out];rw[J.out]at H;exact ua.added HR.out.row ak dN Z rfl Lk.out vK.out Ll.out Cg.out HY.out ((iK (cT C.out) _).trans u.out) H (F.imp id fun h=>zz C.out.size h))
  have Ce:Hid (Below p W ((((q.setCell (i,d*3) y.text).setCell (i,d*3+1) y.list).setCell (i,d*3+2) (.slice l y.sub.length j)).setCell (g,r*2) (.slice (some (i,0)) (d+1) D))):=za (by
   have F:∀k,Value.ownBlock (.slice s d o)=some k->p<=k:=fun k hk=>zz dN (vK.out.lt k hk).1
   have O:p<=i:=by
    rcases K.out with e|e
    ·exact F _ e
    have e2:=e;simp at e2;omega
   exact((((((C.out.mono (by omega)).grown u.out (by simp;omega) F).setCell (by simpa using O) _).setCell (by simpa using O) _).setCell (by simpa using O) _).setCell (by simpa using Ns) _))
  have aq:Hid (∀(v:World) (x a b c:Value),(((v.setCell (g,r*2) x).setCell (i,d*3) a).setCell (i,d*3+1) b).setCell (i,d*3+2) c=(((v.setCell (i,d*3) a).setCell (i,d*3+1) b).setCell (i,d*3+2) c).setCell (g,r*2) x):=za (fun v x a b c=>by rw[l7 (a:=(g,r*2)) (b:=(i,d*3)) Y,l7 (a:=(g,r*2)) (b:=(i,d*3+1)) Y,l7 (a:=(g,r*2)) (b:=(i,d*3+2)) Y]);clear WS u K q0 q1 q2 YT ao al x0 x1 x2 e3 e4;go_wp2;go_end0
  try rw[aq.out]
  refine⟨rfl,Ce.out,.slice (some (i,0)) (d+1) D, ?_⟩;have H:=HD.out;have hz:((((q.setCell (i,d*3) y.text).setCell (i,d*3+1) y.list).setCell (i,d*3+2) (.slice l y.sub.length j)).setCell (g,r*2) (.slice (some (i,0)) (d+1) D)).heap.size=q.heap.size:=by simp[World.setCell]
  rw[hz];exact H
def lq (z:Nat):List (List It×Nat)->Nat
 | []=>z
 |f::_=>f.2
def Ends (z:Nat):List (List It×Nat)->Prop
 | []=>True
 |f::fs=>f.2<=lq z fs/\Ends z fs
theorem Ends.top :∀{b:List (List It×Nat)},Ends z b->lq z b<=z
 | [],_=>ze _
 |f::b,h=>zz h.1 (Ends.top h.2)
def nT :List (List It×Nat)->Nat
 | []=>0
 |f::fs=>f.1.length+1+nT fs
theorem l8 :∀(b:List (List It×Nat)),b.length<=nT b
 | []=>ze _
 |f::b=>by have:=l8 b;simp[nT];omega
def sU (D M:Int)(s:ByteArray)(R:Rd)(b:Bool):List (List It×Nat)->Nat->Nat->Prop
 | [],at_,count=>b=true/\at_=0/\count=0/\bs D M s 1 0=R
 |(acc,en)::fs,at_,count=>b=false/\at_<en/\fin D M s acc en fs at_ count=R/\Ends s.size ((acc,en)::fs)/\nT ((acc,en)::fs)<=count/\count<=1024
def ru (D M:Int)(s:ByteArray)(R:Rd):List (List It×Nat)->Nat->Nat->Prop
 | [],at_,_=>R.e=0/\R.size=at_
 |(acc,en)::fs,at_,count=>at_<=en/\fin D M s acc en fs at_ count=R/\Ends s.size ((acc,en)::fs)/\nT ((acc,en)::fs)<=count/\count<=1024
theorem sU.le {b:Bool}{c:List (List It×Nat)}{at_ count:Nat}(h:sU D M s R b c at_ count):at_<=lq s.size c/\lq s.size c<=s.size/\count<=1024/\c.length<=1024/\(b=true↔c= []):=by
 match c,h with
 | [],h=>obtain⟨rfl,rfl,rfl,h⟩:=h;simp[lq]
 |(acc,en)::c,h=>
  obtain⟨rfl,i,l,d,m,e⟩:=h;have k:=l8 ((acc,en)::c);have j:=d.top;exact⟨Yy i,j,e,by omega,by simp⟩
theorem sV (s:ByteArray):s.extract 0 s.size=s:=by
 apply aE;rw[aq,zG,zw (by simp)]
theorem sU.err {b:Bool}{c:List (List It×Nat)}{at_ count:Nat}(h:sU D M s R b c at_ count){l:Bool}{e:Int}
 (d:hd (s.extract at_ (lq s.size c)) (aG D (c.length+1)) (aH M count)=(l,z,n,e)) (i:e≠0):R=Rd.bad (if b then e else within e):=by
 match c,h with
 | [],h=>
  obtain⟨rfl,rfl,rfl,o⟩:=h;simp only[lq,sV]at d;rw[<-o];exact(sG D M s _ d).1 i
 |(acc,en)::c,h=>
  obtain⟨rfl,k,m,j,q,p⟩:=h;rw[<-m];exact Vi D M s acc en c at_ count k j.top _ d i
theorem sU.many {b:List (List It×Nat)}{at_ count:Nat}{l:Bool}{e:Int}
 (d:hd (s.extract at_ (lq s.size b)) (aG D (b.length+1)) (aH M count)=(l,z,n,e)) (c:e=0):count+1<=1024:=by
 have h:=Xx (s.extract at_ (lq s.size b)) (aG D (b.length+1)) (aH M count);rw[d]at h;exact(pJ.1 (h c).2.2.1).2
theorem sU.list {b:Bool}{c:List (List It×Nat)}{at_ count:Nat}(h:sU D M s R b c at_ count)
 (d:hd (s.extract at_ (lq s.size c)) (aG D (c.length+1)) (aH M count)=(true,z,n,0)):
 ru D M s R (([],at_+z+n)::c) (at_+z) (count+1)/\at_+z+n<=s.size/\1<=z/\count+1<=1024:=by
 have k:=sU.many d rfl;match c,h with
 | [],h=>
  obtain⟨rfl,rfl,rfl,r⟩:=h;simp only[lq,sV]at d;have e:=tI s (aG D 1) (aH M 0);have j:=(sG D M s _ d).2.2 rfl rfl;rw[show([]:List (List It×Nat)).length+1=1 from rfl]at d;rw[d]at e;have e:=e rfl;dsimp only at e j;rw[r]at j;simp only[zK];exact⟨⟨by omega,j.symm,⟨by simp[lq];omega,trivial⟩,by simp[nT],by omega⟩,by omega,e.2.2.2 rfl,by omega⟩
 |(acc,en)::c,h=>
  obtain⟨rfl,p,u,i,q,x⟩:=h;obtain⟨l,o,m⟩:=Rn D M s acc en c at_ count p i.top _ d rfl rfl;dsimp only at l o m;have w:=i.top;simp only[lq]at w;exact⟨⟨by omega,l.symm.trans u,⟨by simp only[lq];exact o,i⟩,by simp only[nT,zM]at q⊢;omega,k⟩,by omega,m,k⟩
theorem sU.text {b:Bool}{c:List (List It×Nat)}{at_ count:Nat}(h:sU D M s R b c at_ count)
 (i:hd (s.extract at_ (lq s.size c)) (aG D (c.length+1)) (aH M count)=(false,z,n,0)):
 at_+z+n<=s.size/\1<=z+n/\count+1<=1024/\(c= []->R=⟨.mk (s.extract (at_+z) (at_+z+n)) false [],at_+z+n,1,0⟩)/\
 (∀acc j m,c=(acc,j)::m->ru D M s R ((acc++ [.mk (s.extract (at_+z) (at_+z+n)) false []],j)::m) (at_+z+n) (count+1)):=by
 have o:=sU.many i rfl;have d:=tI (s.extract at_ (lq s.size c)) (aG D (c.length+1)) (aH M count);rw[i]at d;have d:=d rfl;dsimp only at d;match c,h with
 | [],h=>
  obtain⟨rfl,rfl,rfl,w⟩:=h;simp only[lq,sV]at i d;have l:=(sG D M s _ i).2.1 rfl rfl;dsimp only at l;rw[w]at l;simp only[zK];exact⟨by omega,by omega,by omega,(fun _=>l),(fun _ _ _ e=>by cases e)⟩
 |(acc,j)::c,h=>
  obtain⟨rfl,r,x,k,u,A⟩:=h;obtain⟨p,q⟩:=Rm D M s acc j c at_ count r k.top _ i rfl rfl;dsimp only at p q;have y:=k.top;simp only[lq]at y;refine⟨by omega,by omega,o,(fun e=>by cases e),fun B C m e=> ?_⟩;injection e with e1 e2;injection e1 with e3 e4;subst e2;subst e3;subst e4;exact⟨q,p.symm.trans x,k,by simp only[nT,zh,yI]at u⊢;omega,o⟩
theorem ru.next {b:Nat}{c:List (List It×Nat)}{at_ count:Nat}(h:ru D M s R ((acc,b)::c) at_ count)(e:b≠at_):sU D M s R false ((acc,b)::c) at_ count:=by
 obtain⟨i,d⟩:=h;exact⟨rfl,by omega,d⟩
theorem ru.done {b count:Nat}(h:ru D M s R [(acc,b)] b count):R=⟨gS acc,b,count,0⟩:=by
 obtain⟨i,d,c,j,e⟩:=h;rw[<-d];exact Ro D M s acc b count c.top
theorem ru.close {e:List It}{b count:Nat}{d:List (List It×Nat)}(h:ru D M s R ((acc,b)::(e,i)::d) b count):ru D M s R ((e++ [gS acc],i)::d) b count:=by
 obtain⟨m,j,c,l,k⟩:=h;rw[N8 D M s acc b (e,i) d count c.top]at j;exact⟨c.1,j,c.2,by simp only[nT,zh,yI]at l⊢;omega,k⟩
theorem ru.len {c at_ count:Nat}{b:List (List It×Nat)}(h:ru D M s R ((acc,c)::b) at_ count):acc.length<=1024/\b.length<=1024/\c<=s.size:=by
 obtain⟨j,k,d,e,i⟩:=h;have:=l8 b;simp only[nT]at e;exact⟨by omega,by omega,d.top⟩
structure IU (w0 w:World)(A:Option Addr)(r cp:Nat):Prop where
 res:af w w0.heap.size 28 #[eS,false,nS]
 opn:af w (w0.heap.size+1) 248 #[.slice A r cp]
 who:∃z0 z1 z2,af w (w0.heap.size+2) 28 #[z0,z1,z2]
 bel:Below w0.heap.size w0 w
 siz:w0.heap.size+3<=w.heap.size
 le:r<=cp
 mx:cp<=9223372036854775807
theorem IU.below {c:World}(h:IU c w A r d)(b:Below (c.heap.size+3) w w'):IU c w' A r d:=by
 obtain⟨z0,e,z2,hz⟩:=h.who;exact⟨h.res.ah b (by omega),h.opn.ah b (by omega),⟨z0,e,z2,hz.ah b (by omega)⟩,h.bel.trans (b.mono (by omega)),zz h.siz b.size,h.le,h.mx⟩
theorem IU.store {b:World}{e:Option Addr}{c:Nat}(h:IU b w A r k)(j:d<=c)(l:c<=9223372036854775807):IU b (w.setCell (b.heap.size+1,0) (.slice e d c)) e d c:=by
 obtain⟨z0,i,z2,hz⟩:=h.who;refine⟨h.res.dI (p:=(b.heap.size+1,0)) (by simp) _,h.opn.set 0 _,⟨z0,i,z2,hz.dI (p:=(b.heap.size+1,0)) (by simp) _⟩,h.bel.setCell (by simp) _,by have:=h.siz;simp[World.setCell];omega,j,l⟩
theorem IU.only {c:World}(h:IU c w A r e)(b:ae [c.heap.size+2] w w'){d i:Value}(hz:af w' (c.heap.size+2) 28 #[j,d,i]):IU c w' A r e:=
 ⟨h.res.only b (by simp),h.opn.only b (by simp),⟨j,d,i,hz⟩,h.bel.trans (b.below h.bel.size (by simp)),zz h.siz b.size,h.le,h.mx⟩
def sW (w:World)(lo:Nat)(A:Option Addr)(cp:Nat)(fs:List (List It×Nat)):Prop:=fs= []\/∃g vs,A=some ⟨g,0,none⟩/\ua w lo w.heap.size g cp fs vs
theorem sW.below {b:Nat}{d:List (List It×Nat)}(h:sW w b A e d)(i:Below w.heap.size w w'):sW w' b A e d:=by
 rcases h with h|⟨g,vs,h1,h2⟩
 ·exact .inl h
 have c:=h2.below i;exact .inr ⟨g,vs,h1,⟨c.row,c.rds.up i.size,ze _⟩⟩
theorem sW.only {b:Nat}{d:List (List It×Nat)}(h:sW w b A e d)(i:ae L w w')(j:∀k,k∈L->k<b):sW w' b A e d:=by
 rcases h with h|⟨g,vs,h1,h2⟩
 ·exact .inl h
 have c:=h2.only i j;exact .inr ⟨g,vs,h1,⟨c.row,c.rds.up i.size,ze _⟩⟩
def SE (w0 w:World)(x:It):Prop:=∃c0 c1 c2,af w (w0.heap.size+2) 28 #[c0,c1,c2]/\fV w (w0.heap.size+3<= ·) x c0 c1 c2
