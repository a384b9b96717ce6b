/- A buffer of bytes: copy within it, slices.Clone. -/
import Derived.Test.YtdbmifjankgfpaaGreatDoorProg
import Derived.Test.YtdbmifjankgfpaaGreatDoorKA1
import Derived.Lib.BufferMore
import Derived.Laws.CopyOwn
set_option linter.all false
set_option maxRecDepth 100000
set_option maxHeartbeats 1000000
open Go.Proofs.Tryz
namespace Go.Proofs.YtdbmifjankgfpaaGreatDoor
open Go.RowKit
variable {s:ByteArray}{f q k p n d m j L e most i:Nat}{l r:List UInt8}{t z:Int}
def zt:=@underlying31
def zK:=@List.length_drop
def zS:=@UInt8.toNat_inj
def yH:=@info_parts
def yW:=@List.append_nil
def yX:=@List.suffix_cons
def y7:=@List.getElem_of_mem
def xx:=@List.getElem?_drop
def Zp:=@Bool.eq_false_iff
def Zr:=@List.singleton_append
def Zu:=@List.suffix_refl
def Z8:=@ntmps85
def Yc:=@Nat.le_of_lt
theorem o7 :(prog.info? 5).map (fun i=>(i.zero,i.size,i.bytes))=some (some (.int .u8 0),1,1):=by kernel_rfl
theorem iu :(prog.info? 5).map (·.size)=some 1:=by kernel_rfl
theorem bF.blank (w:World)(base:Nat)(E:TypeId)(b:base<=w.heap.size):bF (w.alloc (.cells #[] E)) base E (.slice (some ⟨w.heap.size,0,none⟩) 0 0) []:=
 ⟨_,0,rfl,by simp,by simp,.inr ⟨w.heap.size,#[],(0,0),rfl,b,yR w _,rfl,by simp[cb],.inl rfl⟩⟩
theorem pU (base g n cap:Nat)(l:List UInt8)(w:World)(D:n=l.length)(h:bF w base 5 (.slice (some ⟨g,0,none⟩) n cap) l)(B:l.length<=1000000):
 Calls prog 95 #[.slice (some ⟨g,0,none⟩) n cap] w fun e w'=>(∃b,e= .returned b/\bF w' w.heap.size 5 b l/\∃k,b.ownBlock=some k)/\Below w.heap.size w w':=by
 obtain⟨i0,hi,r,y,x⟩:=yH o7;have C:=fun(w:World) (a:Addr) (n c:Nat)=>Lib.run_eql_slice_some_nil (P:=prog) w a n c zt
 have z:=za (h.alloc (.cells #[] 5));have o:=za (bF.blank w w.heap.size 5 (zg _));clear h;go_enter func95,ntmps95
 go_wp2_with (
  at_builtin
  refine bW (by rfl) (.tmp 5) (.tmp 6) 31 31 (by rfl) w.heap.size 5 i0 zt hi r y x (by rfl) o.out _ l (by rfl) (J9 zt z.out) (by simp) (by simp;omega) ?_;intro i p j w' m d;have q:Hid (bF w' w.heap.size 5 (.slice i p j) l):=za (by simpa using m);have s:Hid (∃k,(Value.slice i p j).ownBlock=some k):=za (by rcases d.own with e|⟨k,e,_⟩;exact⟨_,e⟩;exact⟨k,e⟩);have u:Hid (Below w.heap.size w w'):=za (lF.below ((zm _ w).alloc (zg _) (.cells #[] 5)) d (by simp) (fun k A=>(o.out.ge k A).1));clear m d)
 go_ret;exact⟨⟨_,rfl,q.out,s.out⟩,u.out⟩
theorem bF.O5 {w:World}{base g cap:Nat}(h:bF w base 5 (.slice (some ⟨g,0,none⟩) n cap) l)(M:k<=l.length):
 ∃W,w.setCells g 0 (cb (l.drop k))=W/\bF W base 5 (.slice (some ⟨g,0,none⟩) (l.length-k) cap) (l.drop k)/\lF w W (.slice (some ⟨g,0,none⟩) n cap) (.slice (some ⟨g,0,none⟩) (l.length-k) cap)/\
  (∀j v,(cb (l.drop k))[j]?=some v->w.cell? ((⟨g,k,none⟩:Addr).add j)=some v)/\(∀j,j<(cb (l.drop k)).length->(w.cell? ⟨g,0+j,none⟩).isSome=true)/\∀j,j<(cb (l.drop k)).length->w.frozen? ⟨g,0+j,none⟩=false:=by
 have m:=fun j (b:j<l.length)=>h.at_ (k:=j) b
 obtain⟨F,K,C,L,E,o⟩:=h;injection C with c hn hc;subst c;subst hc;subst hn;rcases o with⟨o,_⟩|⟨H,y,z,c,D,s,I,J,r⟩
 ·cases o
 injection c with c;injection c with c;subst c;have i:(l.drop k).length=l.length-k:=zK;have B:(cb (l.drop k)).length=l.length-k:=by rw[bj,i]
 obtain⟨u,q,G,p⟩:=iL (cb (l.drop k)) 0 w y s (by omega);refine⟨_,rfl,⟨_,cap,by rw[i],by rw[i];omega,E,.inr ⟨g,u,z,rfl,D,q,by omega, ?_,r⟩⟩,⟨⟨World.os_setCells _ _ _ _,kI _ _ _ _,Yh _ _ _ _,by rw[iM];exact zg _,fun j b x=>ZS w g 0 _ b (fun e=>x (by subst e;rfl))⟩,.inl rfl⟩, ?_, ?_, ?_⟩
 ·rw[zQ,B]at p;rw[i,p];simp
 ·intro j v d;rw[Ev,xx]at d;have b:k+j<l.length:=by
   rcases xG (k+j) l.length with h|h
   ·exact h
   rw[y8 h]at d;cases d
  have A:(⟨g,k,none⟩:Addr).add j=⟨g,k+j,none⟩:=by unfold Addr.add;split<;>simp_all
  rw[A,(m (k+j) b).1,zw];rw[zB b]at d⊢;simpa using d
 ·intro j b;rw[zQ,(m j (by omega)).1];rfl
 intro j b;rw[zQ];exact(m j (by omega)).2.1
def jm (b:UInt8):Bool:=decide (48<=b.toNat)&&decide (b.toNat<=57)
def fC (n:Nat)(b:UInt8):Nat:=if n<1000000 then 10*n+(b.toNat-48)else n
def ia :List UInt8->Nat->Nat×List UInt8
 | [],n=>(n,[])
 |b::r,n=>if jm b then ia r (fC n b)else(n,b::r)
def mX :List UInt8->Bool
 | []=>false
 |b::_=>jm b
def cx :List UInt8->Option (Nat×List UInt8)
 | []=>none
 |b::r=>if jm b=false then none else if b=48/\mX r=true then none else some (ia (b::r) 0)
theorem rH (b:UInt8)(r:List UInt8):cx (b::r)=if jm b=false then none else if b=48/\mX r=true then none else some (ia (b::r) 0):=rfl
def AB (acc:List Ty)(l:List UInt8):Option (List UInt8):=
 if acc= []then some l else match l with
  | []=>none
  |c::r=>if c=44 then some r else none
def tQ (l:List UInt8)(tl:Nat):Option (List UInt8×Nat):=match l with
 | []=>if 0<tl then none else some ([],tl)
 |c::r=>if c=63 then some (r,tl+1)else if 0<tl then none else some (c::r,tl)
def fI (p:List UInt8->Option (Ty×List UInt8)):Nat->List UInt8->List Ty->Nat->Option (Ty×List UInt8)
 |0,_,_,_=>none
 |_+1,[],_,_=>none
 |n+1,c::r,acc,tl=>
  if c=125 then some (.mk 5 0 acc tl,r)
  else match AB acc (c::r)with
   |none=>none
   |some l1=>match tQ l1 tl with
    |none=>none
    |some (l2,Lk)=>match p l2 with
     |none=>none
     |some (y,r')=>fI p n r' (acc++ [y]) Lk
def gU (x:Ty):List UInt8->Option (Ty×List UInt8)
 | []=>none
 |c::r=>if c=58 then(match cx r with
  |none=>none
  |some (_,[])=>none
  |some (n,d::r')=>if d=93 then some (.mk 4 n [x] 0,r')else none)else none
def aL :Nat->List UInt8->Option (Ty×List UInt8)
 |0,_=>none
 |_+1,[]=>none
 |f+1,c::r=>
  if c=117 then(match cx r with|none=>none|some (n,r')=>if n%8=0 then some (.mk 1 ((n/8:Nat):Int) [] 0,r')else none)
  else if c=98 then(match cx r with|none=>none|some (n,r')=>some (.mk 2 n [] 0,r'))
  else if c=115 then(match cx r with|none=>none|some (n,r')=>some (.mk 3 n [] 0,r'))
  else if c=91 then(match aL f r with|none=>none|some (x,r')=>gU x r')
  else if c=123 then fI (aL f) (r.length+1) r [] 0
  else none
def AD :Option (Nat×List UInt8)->Option (Ty×List UInt8)
 |none=>none
 |some (n,r)=>if n%8=0 then some (.mk 1 ((n/8:Nat):Int) [] 0,r)else none
def tE (k:Int):Option (Nat×List UInt8)->Option (Ty×List UInt8)
 |none=>none
 |some (n,r)=>some (.mk k n [] 0,r)
def uR (o:Option (Ty×List UInt8)):Option (Ty×List UInt8):=match o with
 |none=>none
 |some (x,r)=>gU x r
theorem J' (f:Nat)(r:List UInt8):aL (f+1) (117::r)=AD (cx r):=by
 simp only[aL,xJ];cases cx r<;>rfl
theorem Ka (f:Nat)(r:List UInt8):aL (f+1) (98::r)=tE 2 (cx r):=by
 simp only[aL,zh (show¬(98:UInt8)=117 by decide),xJ];cases cx r<;>rfl
theorem Kb (f:Nat)(r:List UInt8):aL (f+1) (115::r)=tE 3 (cx r):=by
 simp only[aL,zh (show¬(115:UInt8)=117 by decide),zh (show¬(115:UInt8)=98 by decide),xJ];cases cx r<;>rfl
theorem Kc (f:Nat)(r:List UInt8):aL (f+1) (91::r)=uR (aL f r):=by
 simp only[aL,zh (show¬(91:UInt8)=117 by decide),zh (show¬(91:UInt8)=98 by decide),zh (show¬(91:UInt8)=115 by decide),xJ];cases aL f r<;>rfl
theorem Kd (f:Nat)(r:List UInt8):aL (f+1) (123::r)=fI (aL f) (r.length+1) r [] 0:=by
 simp only[aL,zh (show¬(123:UInt8)=117 by decide),zh (show¬(123:UInt8)=98 by decide),zh (show¬(123:UInt8)=115 by decide),zh (show¬(123:UInt8)=91 by decide),xJ]
theorem EC (f:Nat)(c:UInt8)(r:List UInt8)(i:c.toNat≠117)(j:c.toNat≠98)(l:c.toNat≠115)(b:c.toNat≠91)(d:c.toNat≠123):aL (f+1) (c::r)=none:=by
 have k:∀n:UInt8,c.toNat≠n.toNat->¬c=n:=fun n h e=>h (by rw[e])
 simp only[aL,zh (k 117 i),zh (k 98 j),zh (k 115 l),zh (k 91 b),zh (k 123 d)]
def jg (x:Ty):Option (Nat×List UInt8)->Option (Ty×List UInt8)
 |none=>none
 |some (_,[])=>none
 |some (n,d::r')=>if d.toNat=93 then some (.mk 4 n [x] 0,r')else none
theorem mY (x:Ty)(r:List UInt8):gU x (58::r)=jg x (cx r):=by
 simp only[gU,xJ];cases cx r with
 |none=>rfl
 |some z=>
  obtain⟨n,b⟩:=z;cases b with
  |nil=>rfl
  |cons d b=>
   simp only[jg];by_cases h:d=93
   ·subst h;rfl
   have c:¬d.toNat=93:=fun e=>h (zS.1 e)
   simp[h,c]
theorem uS (x:Ty)(c:UInt8)(r:List UInt8)(h:c.toNat≠58):gU x (c::r)=none:=by
 simp only[gU,zh (fun e:c=58=>h (by rw[e];rfl))]
def cS (l:List UInt8):Option Ty:=match aL 8 l with
 |some (x,[])=>if x.may then some x else none
 |_=>none
theorem pV :∀(l:List UInt8) (n m:Nat) (r:List UInt8),ia l n=(m,r)->r<:+l
 | [],n,m,r,h=>by simp[ia]at h;rw[<-h.2];exact Zu _
 |b::l,n,m,r,h=>by
  unfold ia at h;split at h
  ·exact(pV l _ m r h).trans (yX b l)
  injection h with h1 h2;rw[<-h2];exact Zu _
theorem uT (n:Nat)(b:UInt8)(h:n<=10000100)(c:b.toNat<=57):fC n b<=10000100:=by unfold fC;split<;>omega
theorem kZ (b:UInt8):jm b=true↔48<=b.toNat/\b.toNat<=57:=by simp[jm]
theorem ED :∀(l:List UInt8) (n m:Nat) (r:List UInt8),ia l n=(m,r)->n<=10000100->m<=10000100
 | [],n,m,r,h,hn=>by simp[ia]at h;omega
 |b::l,n,m,r,h,hn=>by
  unfold ia at h;split at h
  ·rename_i hd
   exact ED l _ m r h (uT n b hn ((kZ b).1 hd).2)
  injection h with h1 h2;omega
theorem rI (h:cx l=some (n,r)):r<:+l/\r.length<l.length/\n<=10000100:=by
 match l,h with
 | [],h=>simp[cx]at h
 |b::l,h=>
  rw[rH]at h;split at h
  ·cases h
  rename_i e
  split at h
  ·cases h
  injection h with h;have d:=ED _ _ _ _ h (by omega);unfold ia at h;rw[zi (by simpa using e)]at h;have c:=pV _ _ _ _ h;refine⟨c.trans (yX b l), ?_,d⟩;have:=c.length_le;simp;omega
theorem BM {acc:List Ty}(h:AB acc l=some r):r<:+l:=by
 unfold AB at h;split at h
 ·injection h with h;rw[h];exact Zu _
 match l,h with
 |c::l,h=>
  simp only at h;split at h
  ·injection h with h;rw[<-h];exact yX c l
  cases h
theorem Ke {b:Nat}(h:tQ l d=some (r,b)):r<:+l:=by
 unfold tQ at h;match l,h with
 | [],h=>
  simp only at h;split at h
  ·cases h
  injection h with h;injection h with h _;rw[<-h];exact Zu _
 |c::l,h=>
  simp only at h;split at h
  ·injection h with h;injection h with h _;rw[<-h];exact yX c l
  split at h
  ·cases h
  injection h with h;injection h with h _;rw[<-h];exact Zu _
theorem BN {p:List UInt8->Option (Ty×List UInt8)}(d:∀l y r,p l=some (y,r)->r<:+l/\r.length<l.length):∀n l acc b y r,fI p n l acc b=some (y,r)->r<:+l/\r.length<l.length
 |0,_,_,_,_,_,h=>by simp[fI]at h
 |n+1,[],_,_,_,_,h=>by simp[fI]at h
 |n+1,c::l,acc,b,y,r,h=>by
  unfold fI at h;split at h
  ·injection h with h;injection h with _ h;rw[<-h];exact⟨yX c l,by simp⟩
  split at h
  ·cases h
  rename_i q k
  split at h
  ·cases h
  rename_i x u m
  split at h
  ·cases h
  rename_i s w o
  have k1:=BM k;have k2:=Ke m;have i:=d _ _ _ o;have e:=BN d n _ _ _ _ _ h;have j:=(e.1.trans i.1).trans (k2.trans k1);refine⟨j, ?_⟩;have:=(k2.trans k1).length_le;omega
theorem BO {x y:Ty}(h:gU x l=some (y,r)):r<:+l/\r.length<l.length:=by
 unfold gU at h;match l,h with
 |c::l,h=>
  simp only at h;split at h
  ·split at h
   ·cases h
   ·cases h
   rename_i n d e b
   split at h
   ·injection h with h;injection h with _ h;subst h;have k1:=(rI b)
    refine⟨((yX d e).trans k1.1).trans (yX c l), ?_⟩;have:=k1.2.1;simp at this⊢;omega
   cases h
  cases h
theorem gF :∀(f:Nat) (l:List UInt8) (y:Ty) (r:List UInt8),aL f l=some (y,r)->r<:+l/\r.length<l.length
 |0,_,_,_,h=>by simp[aL]at h
 |f+1,[],_,_,h=>by simp[aL]at h
 |f+1,c::l,y,r,h=>by
  have key:∀{m:Nat} {d:List UInt8},cx l=some (m,d)->d<:+c::l/\d.length<(c::l).length:=fun b=>by
   have k:=rI b;exact⟨k.1.trans (yX c l),by have:=k.2.1;simp;omega⟩
  unfold aL at h;split at h
  ·split at h
   ·cases h
   rename_i b
   split at h
   ·injection h with h;injection h with _ h;subst h;exact key b
   cases h
  split at h
  ·split at h
   ·cases h
   rename_i b
   injection h with h;injection h with _ h;subst h;exact key b
  split at h
  ·split at h
   ·cases h
   rename_i b
   injection h with h;injection h with _ h;subst h;exact key b
  split at h
  ·split at h
   ·cases h
   rename_i x d b
   have k1:=gF f _ _ _ b;have k2:=BO h;exact⟨(k2.1.trans k1.1).trans (yX c l),by have:=k1.2;have:=k2.2;simp;omega⟩
  split at h
  ·have k:=BN (gF f) _ _ _ _ _ _ h;exact⟨k.1.trans (yX c l),by have:=k.2;simp;omega⟩
  cases h
theorem uU (e:q<=s.size)(h:r<:+s.data.toList.drop q):s.data.toList.drop (s.size-r.length)=r/\q<=s.size-r.length:=by
 obtain⟨pre,c⟩:=h;have d:=xo List.length c;simp only[zl,zK,aa]at d;have b:r=(s.data.toList.drop q).drop pre.length:=by rw[<-c,List.drop_left]
 rw[xN]at b;refine⟨?_,by omega⟩;rw[b];congr 1
 rw[zK,aa];omega
def eU (f:Nat)(s:ByteArray)(R:Option (Ty×List UInt8))(p:Nat)(acc:List Ty)(tl:Nat):Prop:=∃n,fI (aL f) n (s.data.toList.drop p) acc tl=R/\(s.data.toList.drop p).length<n
def O6 (f:Nat)(s:ByteArray)(R:Option (Ty×List UInt8))(q:Nat)(acc:List Ty)(tl:Nat):Prop:=∃n,(match aL f (s.data.toList.drop q)with|none=>none|some (y,r')=>fI (aL f) n r' (acc++ [y]) tl)=R/\(s.data.toList.drop q).length<=n
theorem eU.stop {R:Option (Ty×List UInt8)}{acc:List Ty}(h:eU f s R p acc d)(c:s.size<=p):R=none:=by
 obtain⟨n,b,_⟩:=h;rw[zH (by simpa using c)]at b;cases n<;>simp[fI]at b<;>exact b.symm
theorem eU.ends {R:Option (Ty×List UInt8)}{acc:List Ty}{c:Nat}(h:eU f s R p acc c)(d:p<s.size)(e:s[p].toNat=125):R=some (.mk 5 0 acc c,s.data.toList.drop (p+1)):=by
 obtain⟨n,b,i⟩:=h;rw[drop_cons s p d,show s[p]=125 from zS.1 e]at b;cases n with
 |zero=>omega
 |succ n=>simp[fI]at b;exact b.symm
theorem eU.open_ {R:Option (Ty×List UInt8)}{acc:List Ty}(h:eU f s R p acc d)(j:p<s.size)(k:s[p].toNat≠125):
 ∃n,(match AB acc (s.data.toList.drop p)with
  |none=>none
  |some l1=>match tQ l1 d with
   |none=>none
   |some (l2,Lk)=>match aL f l2 with
    |none=>none
    |some (y,r')=>fI (aL f) n r' (acc++ [y]) Lk)=R/\(s.data.toList.drop p).length<=n:=by
 obtain⟨n,b,c⟩:=h;have i:s[p]≠125:=fun e=>k (by rw[e];rfl)
 match n,b,c with
 |n+1,b,c=>
  refine⟨n, ?_,by omega⟩;rw[drop_cons s p j]at b⊢;simpa only[fI,zh i]using b
theorem eU.bad {R:Option (Ty×List UInt8)}{acc:List Ty}(h:eU f s R p acc j)(c:p<s.size)(k:s[p].toNat≠125)(l:s[p].toNat≠44)(i:acc≠ []):R=none:=by
 obtain⟨n,b,_⟩:=h.open_ c k;have d:s[p]≠44:=fun e=>l (by rw[e];rfl)
 rw[show AB acc (s.data.toList.drop p)=none by rw[drop_cons s p c];simp[AB,i,d]]at b;exact b.symm
def rJ (f:Nat)(s:ByteArray)(R:Option (Ty×List UInt8))(q:Nat)(acc:List Ty)(tl:Nat):Prop:=
 ∃n,(match tQ (s.data.toList.drop q) tl with
  |none=>none
  |some (l2,Lk)=>match aL f l2 with
   |none=>none
   |some (y,r')=>fI (aL f) n r' (acc++ [y]) Lk)=R/\(s.data.toList.drop q).length<=n
theorem eU.first {R:Option (Ty×List UInt8)}{c:Nat}(h:eU f s R p [] c)(e:p<s.size)(i:s[p].toNat≠125):rJ f s R p [] c:=by
 obtain⟨n,b,d⟩:=h.open_ e i;rw[show AB [] (s.data.toList.drop p)=some (s.data.toList.drop p)by simp[AB]]at b;exact⟨n,b,d⟩
theorem eU.more {R:Option (Ty×List UInt8)}{acc:List Ty}(h:eU f s R p acc e)(b:p<s.size)(k:s[p].toNat=44)(j:acc≠ []):rJ f s R (p+1) acc e:=by
 obtain⟨n,c,d⟩:=h.open_ b (by omega);have i:s[p]=44:=zS.1 k;rw[show AB acc (s.data.toList.drop p)=some (s.data.toList.drop (p+1))by rw[drop_cons s p b];simp[AB,j,i]]at c;rw[drop_cons s p b]at d;exact⟨n,c,by simp at d⊢;omega⟩
theorem rJ.mark {R:Option (Ty×List UInt8)}{acc:List Ty}{b:Nat}(h:rJ f s R q acc b)(e:q<s.size)(j:s[q].toNat=63):O6 f s R (q+1) acc (b+1):=by
 obtain⟨n,c,d⟩:=h;have i:s[q]=63:=zS.1 j;rw[show tQ (s.data.toList.drop q) b=some (s.data.toList.drop (q+1),b+1)by rw[drop_cons s q e];simp[tQ,i]]at c;rw[drop_cons s q e]at d;exact⟨n,c,by simp at d⊢;omega⟩
theorem rJ.none_ {R:Option (Ty×List UInt8)}{acc:List Ty}{b:Nat}(h:rJ f s R q acc b)(k:∀c:q<s.size,s[q].toNat≠63)(i:0<b):R=none:=by
 obtain⟨n,d,l⟩:=h;rw[show tQ (s.data.toList.drop q) b=none by
  by_cases c:q<s.size
  ·have j:s[q]≠63:=fun e=>k c (by rw[e];rfl)
   rw[drop_cons s q c];simp[tQ,j,i]
  rw[zH (by simp;omega)];simp[tQ,i]]at d
 exact d.symm
theorem rJ.plain {R:Option (Ty×List UInt8)}{acc:List Ty}(h:rJ f s R q acc 0)(j:∀b:q<s.size,s[q].toNat≠63):O6 f s R q acc 0:=by
 obtain⟨n,c,i⟩:=h;rw[show tQ (s.data.toList.drop q) 0=some (s.data.toList.drop q,0)by
  by_cases b:q<s.size
  ·have d:s[q]≠63:=fun e=>j b (by rw[e];rfl)
   rw[drop_cons s q b];simp[tQ,d]
  rw[zH (by simp;omega)];simp[tQ]]at c
 exact⟨n,c,i⟩
theorem O6.none {R:Option (Ty×List UInt8)}{acc:List Ty}{c:Nat}(h:O6 f s R q acc c)(d:aL f (s.data.toList.drop q)=none):R=none:=by
 obtain⟨n,b,_⟩:=h;rw[d]at b;exact b.symm
theorem O6.some {R:Option (Ty×List UInt8)}{acc:List Ty}{y:Ty}(h:O6 f s R q acc d)(j:q<=s.size)(e:aL f (s.data.toList.drop q)=some (y,r)):
 eU f s R (s.size-r.length) (acc++ [y]) d/\q<s.size-r.length/\s.size-r.length<=s.size:=by
 obtain⟨n,b,i⟩:=h;obtain⟨k1,k2⟩:=gF _ _ _ _ e;have k:(s.data.toList.drop q).length=s.size-q:=by simp
 rw[k]at i k2;rw[e]at b;have c:=(uU j k1).1;exact⟨⟨n,by rw[c];exact b,by rw[c];omega⟩,by omega,by omega⟩
def k6 (s:ByteArray)(at_ k m:Nat):Prop:=ia (s.data.toList.drop at_) 0=ia (s.data.toList.drop k) m/\∀j,at_<=j->j<k->∃h:j<s.size,jm s[j]=true
theorem k6.start (s:ByteArray)(at_:Nat):k6 s at_ at_ 0:=⟨rfl,by omega⟩
theorem k6.next {at_:Nat}(h:k6 s at_ k m)(b:k<s.size)(hd:jm s[k]=true):k6 s at_ (k+1) (fC m s[k]):=by
 refine⟨?_,fun j c d=> ?_⟩
 ·rw[h.1,drop_cons s k b,ia,zi hd]
 by_cases e:j=k
 ·subst e;exact⟨b,hd⟩
 exact h.2 j c (by omega)
theorem nV {at_:Nat}(b:∀h:at_<s.size,jm s[at_]=false):cx (s.data.toList.drop at_)=none:=by
 by_cases h:at_<s.size
 ·rw[drop_cons s at_ h];simp[cx,b h]
 rw[zH (by simp;omega)];rfl
theorem nW {at_:Nat}(h:k6 s at_ k m)(e:at_+1<k)(hz:∀h:at_<s.size,s[at_].toNat=48):cx (s.data.toList.drop at_)=none:=by
 obtain⟨b,d1⟩:=h.2 at_ (by omega) (by omega);obtain⟨c,d2⟩:=h.2 (at_+1) (by omega) e;have d:s[at_]=48:=zS.1 (hz b);rw[drop_cons s at_ b,drop_cons s (at_+1) c];simp[cx,d,mX,d2]
theorem ks {at_:Nat}(h:k6 s at_ k m)(n:at_<k)(l:∀h:k<s.size,jm s[k]=false)(hz:at_+1<k->∀h:at_<s.size,s[at_].toNat≠48):cx (s.data.toList.drop at_)=some (m,s.data.toList.drop k):=by
 obtain⟨j,d1⟩:=h.2 at_ (by omega) n;have e:ia (s.data.toList.drop k) m=(m,s.data.toList.drop k):=by
  by_cases d:k<s.size
  ·rw[drop_cons s k d,ia,zh (by rw[l d];simp)]
  rw[zH (by simp;omega)];rfl
 have i:=h.1;rw[e]at i;rw[drop_cons s at_ j]at i⊢;rw[rH,zh (by simp[d1]),zh,i];rintro⟨c,hd⟩;have b:at_+1<k\/k=at_+1:=by omega
 rcases b with b|b
 ·exact hz b j (by rw[c];rfl)
 subst b;by_cases d:at_+1<s.size
 ·rw[drop_cons s (at_+1) d]at hd;simp[mX,l d]at hd
 rw[zH (by simp;omega)]at hd;simp[mX]at hd
theorem pW (d:q<=s.size)(h:cx (s.data.toList.drop q)=some (n,r)):s.data.toList.drop (s.size-r.length)=r/\q<s.size-r.length/\s.size-r.length<=s.size/\n<=10000100:=by
 obtain⟨b,c,e⟩:=rI h;obtain⟨k1,k2⟩:=uU d b;simp at c;exact⟨k1,by omega,by omega,e⟩
def gG :List UInt8->Bool
 | []=>false
 |b::_=>b==0
def Ty.at (t:Ty)(i:Nat):Ty:=(t.sub[if t.kind=4 then 0 else i]?).getD (.mk 0 0 [] 0)
def ow (t:Ty)(tx:ByteArray)(l:Bool)(m:Nat):Bool:=
 if t.kind=1 then !l&&decide ((tx.size:Int)<=t.size)&& !gG tx.data.toList
 else if t.kind=2 then !l&&decide ((tx.size:Int)=t.size)
 else if t.kind=3 then !l&&decide ((tx.size:Int)<=t.size)
 else if t.kind=4 then l&&decide ((m:Int)<=t.size)
 else l&&decide (m<=t.sub.length)&&decide ((t.sub.length:Int)-t.tail<=m)
mutual
def It.dr :It->Ty->Bool
 | .mk tx l s,t=>ow t tx l s.length&&df s t 0
def df :List It->Ty->Nat->Bool
 | [],_,_=>true
 |x::xs,t,i=>x.dr (t.at i)&&df xs t (i+1)
end
theorem pX (a b:List It)(t:Ty)(i:Nat):df (a++b) t i=(df a t i&&df b t (i+a.length)):=by
 induction a generalizing i with
 |nil=>simp[df]
 |cons x xs ih=>simp only[ya,df,ih,zx,Bool.and_assoc];rw[show i+1+xs.length=i+(xs.length+1)from by omega]
theorem o8 {s:List It}{t:Ty}(h:k<s.length):df (s.take (k+1)) t 0=(df (s.take k) t 0&&s[k].dr (t.at k)):=by
 rw[lL s k h,pX];simp[df,yF (Yc h)]
theorem sQ {s:List It}{t:Ty}(h:k<s.length)(c:s[k].dr (t.at k)=false):df s t 0=false:=by
 have b:=pX (s.take (k+1)) (s.drop (k+1)) t 0;rw[zI,o8 h,c]at b;simpa using b
def To (n:Nat):ByteArray:=⟨(List.replicate n 0).toArray⟩
mutual
def Ty.zero :Ty->It
 | .mk k s l t=>if k=2 then .mk (To s.toNat) false []else if k=4 then .mk ⟨#[]⟩ true []else if k=5 then .mk ⟨#[]⟩ true (Vd l ((l.length:Int)-t).toNat)else .mk ⟨#[]⟩ false []
def Vd :List Ty->Nat->List It
 | [],_=> []
 |_::_,0=> []
 |x::xs,n+1=>x.zero::Vd xs n
end
def Ty.kept (t:Ty):Nat:=if t.kind=5 then((t.sub.length:Int)-t.tail).toNat else 0
theorem O7 {t:Ty}(h:t.may=true):t.count<=64/\t.deep<=8/\t.right=true:=by
 unfold Ty.may at h;simp only[zy,yb]at h;exact⟨h.1.1,h.1.2,h.2⟩
theorem jL {k s:Int}{l:List Ty}(h:(Ty.mk k s l t).right=true):gu k s l.length t=true/\bR l=true:=by
 simpa only[Ty.right,zy]using h
theorem lM {k s:Int}(h:gu k s n t=true):
 (k=1/\(s=1\/s=2\/s=4\/s=8)/\n=0/\t=0)\/(k=2/\1<=s/\s<=65536/\n=0/\t=0)\/(k=3/\0<=s/\s<=65536/\n=0/\t=0)\/(k=4/\0<=s/\s<=1024/\n=1/\t=0)\/(k=5/\s=0/\n<=16/\0<=t/\t<=n):=by
 unfold gu at h;split at h
 ·exact .inl ⟨by assumption,by simpa using h⟩
 split at h
 ·exact .inr (.inl ⟨by assumption,by simpa using h⟩)
 split at h
 ·exact .inr (.inr (.inl ⟨by assumption,by simpa using h⟩))
 split at h
 ·exact .inr (.inr (.inr (.inl ⟨by assumption,by simpa using h⟩)))
 split at h
 ·exact .inr (.inr (.inr (.inr ⟨by assumption,by simpa using h⟩)))
 cases h
mutual
def Ty.wide :Ty->Bool
 | .mk k s l _=>(decide (k=2)&&decide (3000<s))||Ve l
def Ve :List Ty->Bool
 | []=>false
 |x::xs=>x.wide||Ve xs
end
def eO (ty:Ty)(x:It):Int:=if ty.may&&x.may then(if x.dr ty then 0 else 12)else 1
mutual
def It.hU :It->Nat->Nat->Nat->Bool×Nat×Nat
 | .mk t l s,lv,c,d=>if 16<lv\/c=1024\/formed t l s.length=false then(false,c,d)else gx s (lv+1) (c+1) (max d lv)
def gx :List It->Nat->Nat->Nat->Bool×Nat×Nat
 | [],_,c,d=>(true,c,d)
 |x::xs,lv,c,d=>if(x.hU lv c d).1 then gx xs lv (x.hU lv c d).2.1 (x.hU lv c d).2.2 else(false,(x.hU lv c d).2.1,(x.hU lv c d).2.2)
end
theorem sR (a b:List It)(e c d:Nat):gx (a++b) e c d=if(gx a e c d).1 then gx b e (gx a e c d).2.1 (gx a e c d).2.2 else(false,(gx a e c d).2.1,(gx a e c d).2.2):=by
 induction a generalizing c d with
 |nil=>simp[gx]
 |cons x xs ih=>
  by_cases h:(x.hU e c d).1=true
  ·simp only[ya,gx,h,xJ,ih]
  simp[gx,h]
theorem BP {s:List It}{c:Nat}(h:k<s.length)(l:gx (s.take k) e c d=(true,j,i)):gx (s.take (k+1)) e c d=s[k].hU e j i:=by
 rw[lL s k h,sR,l];simp only[xJ,gx];by_cases b:(s[k].hU e j i).1=true
 ·rw[zi b,<-b]
 rw[zh b];simp only[Bool.not_eq_true]at b;rw[<-b]
theorem Md {s:List It}{b c:Nat}(h:k<s.length)(o:gx (s.take k) b c d=(true,j,e))(n:s[k].hU b j e=(false,i,m)):gx s b c d=(false,i,m):=by
 have l:=sR (s.take (k+1)) (s.drop (k+1)) b c d;rw[zI,BP h o,n]at l;simpa using l
def O8 (x:It):Prop:=∀lv c d,1<=lv->c<=1024->(((x.hU lv c d).1=true↔x.right=true/\lv+x.deep<=17/\c+x.count<=1024)/\((x.hU lv c d).1=true->(x.hU lv c d).2=(c+x.count,max d (lv-1+x.deep)))/\(x.hU lv c d).2.1<=1024/\(x.hU lv c d).2.2<=max d 16)
theorem Tp (s:List It)(m:∀x∈s,O8 x):∀h c d,1<=h->c<=1024->(((gx s h c d).1=true↔dq s=true/\(s= []\/h+cK s<=17)/\c+aN s<=1024)/\((gx s h c d).1=true->(gx s h c d).2=(c+aN s,if s= []then d else max d (h-1+cK s)))/\(gx s h c d).2.1<=1024/\(gx s h c d).2.2<=max d 16):=by
 induction s with
 |nil=>intro h c d j k;simp[gx,dq,aN,k];omega
 |cons x xs UC=>
  intro h c d j k;obtain⟨o,r,w,p⟩:=m x (by simp) h c d j k;by_cases i:(x.hU h c d).1=true
  ·have q:=r i;have l:=o.1 i;obtain⟨g1,g2,g3,g4⟩:=UC (fun y u=>m y (by simp[u])) h (c+x.count) (max d (h-1+x.deep)) j l.2.2;simp only[gx,i,xJ,q];simp only[dq,aN,cK,zy,l.1,true_and];refine⟨?_, ?_,g3,by omega⟩
   ·rw[g1];constructor
    ·rintro⟨a,b,e⟩;refine⟨a,.inr ?_,by omega⟩;rcases b with rfl|b
     ·simp[cK];omega
     omega
    rintro⟨a,b,e⟩;refine⟨a, ?_,by omega⟩;rcases b with b|b
    ·cases b
    exact .inr (by omega)
   intro z;rw[g2 z];by_cases n:xs= []
   ·subst n;simp[cK,aN]
   simp only[n,xL];simp;omega
  simp only[gx,i];refine⟨?_,by simp,by simpa using w,by simpa using p⟩;simp only[Bool.false_eq_true,xL,false_iff];rintro⟨a,b,e⟩;simp only[dq,aN,cK,zy]at a b e;exact i (o.2 ⟨a.1,by rcases b with b|b;cases b;omega,by omega⟩)
theorem Hp (x:It):O8 x:=by
 induction x using It.ind with
 |h t l s ih=>
  intro j c d p n;by_cases i:16<j\/c=1024\/formed t l s.length=false
  ·simp only[It.hU,zi i,It.right,It.deep,It.count];refine⟨?_,by simp,n,by omega⟩;simp only[Bool.false_eq_true,false_iff,zy];rintro⟨⟨a,_⟩,b,e⟩;rcases i with h|h|h
   ·omega
   ·omega
   rw[h]at a;cases a
  obtain⟨n1,n2,k⟩:¬16<j/\¬c=1024/\¬formed t l s.length=false:=by
   refine⟨fun h=>i (.inl h),fun h=>i (.inr (.inl h)),fun h=>i (.inr (.inr h))⟩
  obtain⟨g1,g2,g3,g4⟩:=Tp s ih (j+1) (c+1) (max d j) (by omega) (by omega);simp only[It.hU,zh i,It.right,It.deep,It.count];simp only[Bool.not_eq_false]at k;refine⟨?_, ?_,g3,by omega⟩
  ·rw[g1,k];simp only[Bool.true_and];constructor
   ·rintro⟨a,b,e⟩;refine⟨a, ?_,by omega⟩;rcases b with rfl|b
    ·simp[cK];omega
    omega
   rintro⟨a,b,e⟩;exact⟨a,.inr (by omega),by omega⟩
  intro o;rw[g2 o];by_cases m:s= []
  ·subst m;simp[cK,aN];omega
  simp only[m,xL];simp;omega
theorem Tq (x:It):(x.hU 1 0 0).1=x.may:=by
 have h:=(Hp x 1 0 0 (by omega) (by omega)).1;rw[yT,h];simp only[It.may,zy,yb,zQ];constructor
 ·rintro⟨a,b,c⟩;exact⟨⟨a,by omega⟩,c⟩
 rintro⟨⟨a,b⟩,c⟩;exact⟨a,by omega,c⟩
def fV (x:It)(D M:Int):Int:=if x.may=false then 1 else if D<x.deep then 6 else if M<x.count then 4 else 0
theorem mZ {b:ByteArray}{l:Bool}{s:List It}(h:(It.mk b l s).right=true):formed b l s.length=true/\dq s=true:=by
 simpa only[It.right,zy]using h
theorem jM {t:ByteArray}{l:Bool}{s:List It}(h:(It.mk t l s).right=true)(k:Nat)(b:k<s.length):s[k].right=true:=by
 simp only[It.right,zy]at h;have:∀s:List It,dq s=true->∀(k:Nat) (b:k<s.length),s[k].right=true:=by
  intro s;induction s with
  |nil=>intro _ k b;simp at b
  |cons x xs ih=>
   intro h k b;simp only[dq,zy]at h;cases k with
   |zero=>exact h.1
   |succ k=>simpa using ih h.2 k (by simpa using b)
 exact this s h.2 k b
def hxd (n:Nat):UInt8:=if n<10 then UInt8.ofNat (48+n)else UInt8.ofNat (87+n)
def hx (b:UInt8):List UInt8:= [hxd (b.toNat/16),hxd (b.toNat%16)]
def ej (L:Nat)(t:Ty):Prop:=t.right=false\/L<t.count
theorem BQ {p:List UInt8->Option (Ty×List UInt8)}:∀(n:Nat) (l:List UInt8) (acc:List Ty) (b:Nat) (t:Ty) (r:List UInt8),fI p n l acc b=some (t,r)->∃(more:List Ty) (d:Nat),t= .mk 5 0 (acc++more) d
 |0,_,_,_,_,_,h=>by simp[fI]at h
 |n+1,[],_,_,_,_,h=>by simp[fI]at h
 |n+1,c::l,acc,b,t,r,h=>by
  unfold fI at h;split at h
  ·injection h with h;injection h with h _;exact⟨[],b,by rw[<-h,yW]⟩
  split at h
  ·cases h
  split at h
  ·cases h
  rename_i k d _
  split at h
  ·cases h
  rename_i y j _
  obtain⟨more,i,e⟩:=BQ n _ _ _ _ _ h;exact⟨y::more,i,by rw[e,zE,Zr]⟩
theorem uV {s:List Ty}(h:bR s=true):∀x∈s,x.right=true:=fun x hx=>by
 obtain⟨j,b,rfl⟩:=y7 hx;exact dT h j b
theorem uW {k:Int}{l:List Ty}{b:Int}(h:(Ty.mk k z l b).right=true):bR l=true:=by
 simp only[Ty.right,zy]at h;exact h.2
theorem ej.sub {y:Ty}(h:ej L y)(acc more:List Ty)(c:Int):ej (1+ba acc+L) (.mk 5 0 (acc++ [y]++more) c):=by
 rcases h with h|h
 ·left;rw[Zp];intro b;have:=uV (uW b) y (by simp);rw[h]at this;cases this
 right;simp only[Ty.count,fT,ba];omega
theorem ej.list {x:Ty}(h:ej L x)(n:Int):ej (1+L) (.mk 4 n [x] 0):=by
 rcases h with h|h
 ·left;rw[Zp];intro b;have:=uV (uW b) x (by simp);rw[h]at this;cases this
 right;simp only[Ty.count,ba];omega
theorem ej.mono {L':Nat}{t:Ty}(h:ej L t)(b:L'<=L):ej L' t:=h.imp id (fun h=>Nat.lt_of_le_of_lt b h)
theorem ej.may {t:Ty}(h:ej 64 t):t.may=false:=by
 rw[Zp];intro b;simp only[Ty.may,zy,yb]at b;rcases h with h|h
 ·rw[h]at b;exact absurd b.2 (by simp)
 omega
theorem Hr (n:Nat)(b:UInt8):n<=fC n b:=by unfold fC;split<;>omega
theorem EF :∀(l:List UInt8) (n:Nat),n<=(ia l n).1
 | [],n=>zg _
 |b::l,n=>by
  unfold ia;split
  ·exact zF (Hr n b) (EF l _)
  exact zg _
theorem Me {at_:Nat}(h:k6 s at_ k m)(n:Nat)(r:List UInt8)(c:cx (s.data.toList.drop at_)=some (n,r)):m<=n:=by
 have e:ia (s.data.toList.drop at_) 0=(n,r):=by
  generalize s.data.toList.drop at_=l at*;match l,c with
  | [],c=>simp[cx]at c
  |b::l,c=>
   rw[rH]at c;split at c
   ·cases c
   split at c
   ·cases c
   injection c
 rw[h.1]at e;have:=EF (s.data.toList.drop k) m;rw[e]at this;exact this
def oI (most:Nat)(s:ByteArray)(p:Nat)(n:Nat)(ok:Bool)(q:Nat):Prop:=
 (ok=true->cx (s.data.toList.drop p)=some (n,s.data.toList.drop q)/\n<=most/\p<q)/\(ok=false->∀n' r,cx (s.data.toList.drop p)=some (n',r)->most<n')/\q<=s.size/\n<=most
theorem EG (h:∀b r,cx (s.data.toList.drop p)=some (b,r)->most<b)(c:q<=s.size)(d:n<=most):oI most s p n false q:=⟨(by intro h;cases h),fun _=>h,c,d⟩
theorem uX (h:cx (s.data.toList.drop p)=none)(d:q<=s.size)(c:n<=most):oI most s p n false q:=EG (by intro e r b;rw[h]at b;cases b) d c
theorem BR (h:cx (s.data.toList.drop p)=some (n,s.data.toList.drop q))(b:n<=most)(c:p<q)(d:q<=s.size):oI most s p n true q:=⟨fun _=>⟨h,b,c⟩,(by intro h;cases h),d,b⟩
theorem pY {k:Int}{l:List Ty}{b:Int}(L:Nat)(h:gu k z l.length b=false):ej L (.mk k z l b):=by
 left;simp[Ty.right,h]
theorem abF (h:∀c r,cx l=some (c,r)->64<c)(L:Nat)(t:Ty)(r:List UInt8)(b:AD (cx l)=some (t,r)):ej L t:=by
 cases hn:cx l with
 |none=>rw[hn]at b;cases b
 |some z=>
  obtain⟨n,d⟩:=z;have e:=h n d hn;rw[hn,AD]at b;split at b
  ·injection b with b;injection b with b _;subst b;refine pY L ?_;unfold gu;simp only[xJ];simp;omega
  cases b
theorem abG (h:∀c r,cx l=some (c,r)->65536<c)(L:Nat)(t:Ty)(r:List UInt8)(b:tE 2 (cx l)=some (t,r)):ej L t:=by
 cases hn:cx l with
 |none=>rw[hn]at b;cases b
 |some z=>
  obtain⟨n,d⟩:=z;have e:=h n d hn;rw[hn,tE]at b;injection b with b;injection b with b _;subst b;refine pY L ?_;unfold gu;simp;omega
theorem abH (h:∀c r,cx l=some (c,r)->65536<c)(L:Nat)(t:Ty)(r:List UInt8)(b:tE 3 (cx l)=some (t,r)):ej L t:=by
 cases hn:cx l with
 |none=>rw[hn]at b;cases b
 |some z=>
  obtain⟨n,d⟩:=z;have e:=h n d hn;rw[hn,tE]at b;injection b with b;injection b with b _;subst b;refine pY L ?_;unfold gu;simp;omega
theorem Mf (h:∀e r,cx l=some (e,r)->1024<e)(L:Nat)(x t:Ty)(r:List UInt8)(b:jg x (cx l)=some (t,r)):ej L t:=by
 cases hn:cx l with
 |none=>rw[hn]at b;cases b
 |some z=>
  obtain⟨n,c⟩:=z;have i:=h n c hn;rw[hn]at b;cases c with
  |nil=>cases b
  |cons d c=>
   rw[jg]at b;split at b
   ·injection b with b;injection b with b _;subst b;refine pY L ?_;unfold gu;simp;omega
   cases b
theorem Hs {x:Ty}{o:Option (Nat×List UInt8)}{t:Ty}(h:jg x o=some (t,r)):∃n:Nat,t= .mk 4 n [x] 0:=by
 match o,h with
 |some (n,d::r'),h=>
  rw[jg]at h;split at h
  ·injection h with h;injection h with h _;exact⟨n,h.symm⟩
  cases h
theorem Mg {x:Ty}{t:Ty}(h:gU x l=some (t,r)):∃n:Nat,t= .mk 4 n [x] 0:=by
 match l,h with
 |c::l,h=>
  by_cases b:c=58
  ·subst b;rw[mY]at h;exact Hs h
  rw[uS x c l (fun e=>b (zS.1 e))]at h;cases h
def tF (f L:Nat)(s:ByteArray)(p:Nat)(t:Ty)(ok:Bool)(q L':Nat):Prop:=
 (ok=true->aL f (s.data.toList.drop p)=some (t,s.data.toList.drop q)/\L'+t.count=L/\p<q)/\(ok=false->∀t' r,aL f (s.data.toList.drop p)=some (t',r)->ej L t')/\q<=s.size
def O9 (L:Nat)(s:ByteArray)(R:Option (Ty×List UInt8))(t:Ty)(ok:Bool)(q L':Nat):Prop:=
 (ok=true->R=some (t,s.data.toList.drop q)/\L'+t.count=L)/\(ok=false->∀t' r,R=some (t',r)->ej L t')/\q<=s.size
theorem Tr {R:Option (Ty×List UInt8)}{acc:List Ty}(h:O6 f s R q acc j)(k:∀b r,aL f (s.data.toList.drop q)=some (b,r)->ej L b):∀b r,R=some (b,r)->ej (1+ba acc+L) b:=by
 intro b r d;obtain⟨n,c,_⟩:=h;cases hi:aL f (s.data.toList.drop q)with
 |none=>rw[hi,d]at c;cases c
 |some z=>
  obtain⟨y,i⟩:=z;rw[hi,d]at c;obtain⟨more,e,rfl⟩:=BQ _ _ _ _ _ _ c;exact(k y i hi).sub acc more e
def dk (l:List ByteArray):Nat:=(l.map ByteArray.size).sum
theorem Mh :dk []=0:=rfl
theorem Hu (s:ByteArray)(l:List ByteArray):dk (s::l)=s.size+dk l:=by simp[dk]
theorem BS (a b:List ByteArray):dk (a++b)=dk a+dk b:=by simp[dk]
theorem uY (l:List ByteArray)(j:Nat)(h:j<l.length):dk (l.take (j+1))=dk (l.take j)+l[j].size:=by
 rw[yn h,BS,Hu,Mh];omega
theorem AE (l:List ByteArray)(k:Nat):dk (l.take k)<=dk l:=by
 have h:=BS (l.take k) (l.drop k);rw[zI]at h;omega
theorem O' (base:Nat)(v:Value)(l:List UInt8)(n:Nat)(w:World)(h:bF w base 5 v l)(N:base<=w.heap.size)(B:n<=l.length)(Y:l.length<=1000000):
 Calls prog 85 #[v,.int .i64 n] w fun e w'=>∃j,e= .returned j/\bF w' base 5 j (l.drop n)/\lF w w' v j:=by
 have o:=h;obtain⟨A,cap,rfl,L,mA,U⟩:=h;rcases U with⟨rfl,rfl⟩|⟨g,Z,fr,rfl,_⟩
 ·obtain rfl:l= []:=zp (by omega);obtain rfl:n=0:=by simpa using B
  clear o;have H:=run_copy_none (P:=prog) w 31 31 3 5 none none 0 0 0 0 zt iu (by simp);go_enter func85,Z8
  go_wp2;go_ret;exact⟨_,rfl,bF.nil _ _ _,lF.refl _ _⟩
 obtain⟨W,z,M,K,E,D,J⟩:=o.O5 B;have c:=za M;have b:=za K;clear M K;obtain⟨len,d⟩:∃len,l.length=len:=⟨_,rfl⟩
 have HL:=za d;rw[d]at o L B Y c b⊢;obtain⟨k,y⟩:∃k,len-n=k:=⟨_,rfl⟩
 rw[y]at c b;have R:(len:Int)-n=k:=by omega
 have r:(cb (l.drop n)).length=k:=by rw[bj,zK,d,y]
 by_cases X:n=cap
 ·obtain rfl:k=0:=by omega
  obtain rfl:len=cap:=by omega
  subst X;have O:cb (l.drop n)= []:=zp r;rw[O]at z;obtain rfl:w=W:=z;have H:=run_copy_none (P:=prog) w 31 31 3 5 (some ⟨g,0,none⟩) (some ⟨g,0,none⟩) n n 0 0 zt iu (by simp);clear E D J O r o;rename_i right
  clear right L B y R;have s:=za d;clear d;by_cases S:4096<n
  ·have G:((4096:Int)<n):=by omega
   have q:=za (pU base g 0 n (l.drop n) w (by rw[zK,s.out];omega) c.out (by rw[zK,s.out];omega));go_enter func85,Z8
   go_wp2_with fail
   refine q.out.mono ?_;rintro e F ⟨⟨j,rfl,i,m⟩,x⟩;have C:Hid (lF w F (.slice (some ⟨g,0,none⟩) n n) j):=za ⟨b.out.grown.andThen (cD x) (by simp),.inr (by obtain⟨p,u⟩:=m;exact⟨p,u,(i.ge p u).1⟩)⟩;have I:=za (i.mono N);clear i x q c b m;go_wp2;go_ret;exact⟨_,rfl,I.out,C.out⟩
  have G:¬((4096:Int)<n):=by omega
  go_enter func85,Z8
  go_wp2;go_ret;exact⟨_,rfl,c.out,b.out⟩
 have H:=run_copy_cells (P:=prog) w 31 31 3 5 g 0 len cap ⟨g,n,none⟩ k (cap-n) (cb (l.drop n)) zt iu (by rw[r];show k=min k len;omega) E D J (rE _);rw[r,z]at H;rename_i right
 clear right E D J z o r;have s:=za d;clear d;by_cases S:4*k+4096<cap
 ·have G:(4*(k:Int)+4096<cap):=by omega
  have q:=za (pU base g k cap (l.drop n) W (by rw[zK,s.out,y]) c.out (by rw[zK,s.out];omega));go_enter func85,Z8
  go_wp2_with fail
  refine q.out.mono ?_;rintro e F ⟨⟨j,rfl,i,m⟩,x⟩;have C:Hid (lF w F (.slice (some ⟨g,0,none⟩) len cap) j):=za ⟨b.out.grown.andThen (cD x) (by simp),.inr (by obtain⟨p,u⟩:=m;exact⟨p,u,by have:=(i.ge p u).1;have:=b.out.size;omega⟩)⟩;have I:=za (i.mono (zF N b.out.size));clear i x q c b m;go_wp2;go_ret;exact⟨_,rfl,I.out,C.out⟩
 have G:¬(4*(k:Int)+4096<cap):=by omega
 go_enter func85,Z8
 go_wp2;go_ret;exact⟨_,rfl,c.out,b.out⟩
