/- A buffer of bytes: copy within it, slices.Clone. -/
import Derived.Test.YtimoclkoflamkaaGreatDoorProg
import Derived.Test.YtimoclkoflamkaaGreatDoorKA2
import Derived.Lib.BufferMore
import Derived.Laws.CopyOwn
set_option linter.all false
set_option maxRecDepth 100000
set_option maxHeartbeats 1000000
open Go.Proofs.Tryz
namespace Go.Proofs.YtimoclkoflamkaaGreatDoor
open Go.RowKit
variable {s:ByteArray}{f q k p n m d e L j most i:Nat}{l r:List UInt8}{t z:Int}
def zq:=@underlying75
def zP:=@List.length_drop
def zT:=@UInt8.toNat_inj
def yz:=@info_parts
def yT:=@List.append_nil
def yW:=@List.suffix_cons
def yY:=@List.getElem_of_mem
def xa:=@List.getElem?_drop
def xI:=@Bool.eq_false_iff
def ZA:=@List.singleton_append
def ZF:=@List.suffix_refl
def Ym:=@Nat.le_of_lt
theorem o5 :(prog.info? 5).map (fun i=>(i.zero,i.size,i.bytes))=some (some (.int .u8 0),1,1):=by kernel_rfl
theorem o6 :(prog.info? 5).map (·.size)=some 1:=by kernel_rfl
theorem bP.blank (w:World)(base:Nat)(E:TypeId)(b:base<=w.heap.size):bP (w.alloc (.cells #[] E)) base E (.slice (some (w.heap.size,0)) 0 0) []:=
 ⟨_,0,rfl,by simp,by simp,.inr ⟨w.heap.size,#[],(0,0),rfl,b,yM w _,rfl,by simp[cb],.inl rfl⟩⟩
theorem EJ (base g n cap:Nat)(l:List UInt8)(w:World)(B:n=l.length)(h:bP w base 5 (.slice (some (g,0)) n cap) l)(C:l.length<=100000000):
 Calls prog 105 #[.slice (some (g,0)) n cap] w fun e w'=>(∃b,e= .returned b/\bP w' w.heap.size 5 b l/\∃k,b.ownBlock=some k)/\(w,w'):=by
 obtain⟨i0,hi,u,r,A⟩:=yz o5;have D:=fun(w:World) (a:Addr) (n c:Nat)=>Lib.run_eql_slice_some_nil (P:=prog) w a n c zq
 have y:=za (h.alloc (.cells #[] 5));have p:=za (bP.blank w w.heap.size 5 (zd _));clear h;go_enter func105,ntmps105
 go_wp2_with (
  at_builtin
  refine ch (by rfl) (.tmp 5) (.tmp 6) 75 75 (by rfl) w.heap.size 5 i0 zq hi u r A (by rfl) p.out _ l (by rfl) (Ka zq y.out) (by simp) (by simp;omega) ?_;intro i j m w' o d;have z:Hid (bP w' w.heap.size 5 (.slice i j m) l):=za (by simpa using o);have q:Hid (∃k,(Value.slice i j m).ownBlock=some k):=za (by rcases d.own with e|⟨k,e,_⟩;exact⟨_,e⟩;exact⟨k,e⟩);have s:Hid (w,w'):=za (lE.below ((zm _ w).alloc (zd _) (.cells #[] 5)) d (by simp) (fun k x=>(p.out.ge k x).1));clear o d)
 go_ret;exact⟨⟨_,rfl,z.out,q.out⟩,s.out⟩
theorem bP.WG {w:World}{base g cap:Nat}(h:bP w base 5 (.slice (some (g,0)) n cap) l)(M:k<=l.length):
 ∃W,w.setCells g 0 (cb (l.drop k))=W/\bP W base 5 (.slice (some (g,0)) (l.length-k) cap) (l.drop k)/\lE w W (.slice (some (g,0)) n cap) (.slice (some (g,0)) (l.length-k) cap)/\
  (∀j v,(cb (l.drop k))[j]?=some v->w.cell? (((g,k):Addr).add j)=some v)/\(∀j,j<(cb (l.drop k)).length->(w.cell? (g,0+j)).isSome=true)/\∀j,j<(cb (l.drop k)).length->w.frozen? (g,0+j)=false:=by
 have o:=fun j (b:j<l.length)=>h.at_ (k:=j) b
 obtain⟨K,H,x,F,u,m⟩:=h;injection x with c hn hc;subst c;subst hc;subst hn;rcases m with⟨m,_⟩|⟨L,r,E,c,D,B,I,G,q⟩
 ·cases m
 injection c with c;injection c with c;subst c;have i:(l.drop k).length=l.length-k:=zP;have s:(cb (l.drop k)).length=l.length-k:=by rw[aO,i]
 obtain⟨C,A,J,p⟩:=fJ (cb (l.drop k)) 0 w r B (by omega);refine⟨_,rfl,⟨_,cap,by rw[i],by rw[i];omega,u,.inr ⟨g,C,E,rfl,D,A,by omega, ?_,q⟩⟩,⟨⟨Z3 _ _ _ _,iy _ _ _ _,Zz _ _ _ _,by rw[fK];exact zd _,fun j b y=>Ze w g 0 _ b (fun e=>y (by subst e;rfl))⟩,.inl rfl⟩, ?_, ?_, ?_⟩
 ·rw[zJ,s]at p;rw[i,p];simp
 ·intro j v d;rw[EC,xa]at d;have b:k+j<l.length:=by
   rcases xp (k+j) l.length with h|h
   ·exact h
   rw[y8 h]at d;cases d
  have z:((g,k):Addr).add j=⟨g,k+j,none⟩:=by unfold Addr.add;split<;>simp_all
  rw[z,(o (k+j) b).1,zw];rw[zA b]at d⊢;simpa using d
 ·intro j b;rw[zJ,(o j (by omega)).1];rfl
 intro j b;rw[zJ];exact(o j (by omega)).2.1
def i' (b:UInt8):Bool:=decide (48<=b.toNat)&&decide (b.toNat<=57)
def fj (n:Nat)(b:UInt8):Nat:=if n<1000000 then 10*n+(b.toNat-48)else n
def gV :List UInt8->Nat->Nat×List UInt8
 | [],n=>(n,[])
 |b::r,n=>if i' b then gV r (fj n b)else(n,b::r)
def mN :List UInt8->Bool
 | []=>false
 |b::_=>i' b
def cg :List UInt8->Option (Nat×List UInt8)
 | []=>none
 |b::r=>if i' b=false then none else if b=48/\mN r=true then none else some (gV (b::r) 0)
theorem rC (b:UInt8)(r:List UInt8):cg (b::r)=if i' b=false then none else if b=48/\mN r=true then none else some (gV (b::r) 0):=rfl
def At (acc:List Ty)(l:List UInt8):Option (List UInt8):=
 if acc= []then some l else match l with
  | []=>none
  |c::r=>if c=44 then some r else none
def tQ (l:List UInt8)(tl:Nat):Option (List UInt8×Nat):=match l with
 | []=>if 0<tl then none else some ([],tl)
 |c::r=>if c=63 then some (r,tl+1)else if 0<tl then none else some (c::r,tl)
def fx (p:List UInt8->Option (Ty×List UInt8)):Nat->List UInt8->List Ty->Nat->Option (Ty×List UInt8)
 |0,_,_,_=>none
 |_+1,[],_,_=>none
 |n+1,c::r,acc,tl=>
  if c=125 then some (.mk 5 0 acc tl,r)
  else match At acc (c::r)with
   |none=>none
   |some l1=>match tQ l1 tl with
    |none=>none
    |some (l2,Lh)=>match p l2 with
     |none=>none
     |some (y,r')=>fx p n r' (acc++ [y]) Lh
def gH (x:Ty):List UInt8->Option (Ty×List UInt8)
 | []=>none
 |c::r=>if c=58 then(match cg r with
  |none=>none
  |some (_,[])=>none
  |some (n,d::r')=>if d=93 then some (.mk 4 n [x] 0,r')else none)else none
def aN :Nat->List UInt8->Option (Ty×List UInt8)
 |0,_=>none
 |_+1,[]=>none
 |f+1,c::r=>
  if c=117 then(match cg r with|none=>none|some (n,r')=>if n%8=0 then some (.mk 1 ((n/8:Nat):Int) [] 0,r')else none)
  else if c=98 then(match cg r with|none=>none|some (n,r')=>some (.mk 2 n [] 0,r'))
  else if c=115 then(match cg r with|none=>none|some (n,r')=>some (.mk 3 n [] 0,r'))
  else if c=91 then(match aN f r with|none=>none|some (x,r')=>gH x r')
  else if c=123 then fx (aN f) (r.length+1) r [] 0
  else none
def Au :Option (Nat×List UInt8)->Option (Ty×List UInt8)
 |none=>none
 |some (n,r)=>if n%8=0 then some (.mk 1 ((n/8:Nat):Int) [] 0,r)else none
def tF (k:Int):Option (Nat×List UInt8)->Option (Ty×List UInt8)
 |none=>none
 |some (n,r)=>some (.mk k n [] 0,r)
def u' (o:Option (Ty×List UInt8)):Option (Ty×List UInt8):=match o with
 |none=>none
 |some (x,r)=>gH x r
theorem Kb (f:Nat)(r:List UInt8):aN (f+1) (117::r)=Au (cg r):=by
 simp only[aN,xL];cases cg r<;>rfl
theorem Kc (f:Nat)(r:List UInt8):aN (f+1) (98::r)=tF 2 (cg r):=by
 simp only[aN,zi (show¬(98:UInt8)=117 by decide),xL];cases cg r<;>rfl
theorem Kd (f:Nat)(r:List UInt8):aN (f+1) (115::r)=tF 3 (cg r):=by
 simp only[aN,zi (show¬(115:UInt8)=117 by decide),zi (show¬(115:UInt8)=98 by decide),xL];cases cg r<;>rfl
theorem Ke (f:Nat)(r:List UInt8):aN (f+1) (91::r)=u' (aN f r):=by
 simp only[aN,zi (show¬(91:UInt8)=117 by decide),zi (show¬(91:UInt8)=98 by decide),zi (show¬(91:UInt8)=115 by decide),xL];cases aN f r<;>rfl
theorem Kf (f:Nat)(r:List UInt8):aN (f+1) (123::r)=fx (aN f) (r.length+1) r [] 0:=by
 simp only[aN,zi (show¬(123:UInt8)=117 by decide),zi (show¬(123:UInt8)=98 by decide),zi (show¬(123:UInt8)=115 by decide),zi (show¬(123:UInt8)=91 by decide),xL]
theorem EK (f:Nat)(c:UInt8)(r:List UInt8)(i:c.toNat≠117)(b:c.toNat≠98)(j:c.toNat≠115)(l:c.toNat≠91)(d:c.toNat≠123):aN (f+1) (c::r)=none:=by
 have k:∀n:UInt8,c.toNat≠n.toNat->¬c=n:=fun n h e=>h (by rw[e])
 simp only[aN,zi (k 117 i),zi (k 98 b),zi (k 115 j),zi (k 91 l),zi (k 123 d)]
def iS (x:Ty):Option (Nat×List UInt8)->Option (Ty×List UInt8)
 |none=>none
 |some (_,[])=>none
 |some (n,d::r')=>if d.toNat=93 then some (.mk 4 n [x] 0,r')else none
theorem mO (x:Ty)(r:List UInt8):gH x (58::r)=iS x (cg r):=by
 simp only[gH,xL];cases cg r with
 |none=>rfl
 |some z=>
  obtain⟨n,b⟩:=z;cases b with
  |nil=>rfl
  |cons d b=>
   simp only[iS];by_cases h:d=93
   ·subst h;rfl
   have c:¬d.toNat=93:=fun e=>h (zT.1 e)
   simp[h,c]
theorem va (x:Ty)(c:UInt8)(r:List UInt8)(h:c.toNat≠58):gH x (c::r)=none:=by
 simp only[gH,zi (fun e:c=58=>h (by rw[e];rfl))]
def cL (l:List UInt8):Option Ty:=match aN 8 l with
 |some (x,[])=>if x.may then some x else none
 |_=>none
theorem pX :∀(l:List UInt8) (n m:Nat) (r:List UInt8),gV l n=(m,r)->r<:+l
 | [],n,m,r,h=>by simp[gV]at h;rw[<-h.2];exact ZF _
 |b::l,n,m,r,h=>by
  unfold gV at h;split at h
  ·exact(pX l _ m r h).trans (yW b l)
  injection h with h1 h2;rw[<-h2];exact ZF _
theorem vc (n:Nat)(b:UInt8)(h:n<=10000100)(c:b.toNat<=57):fj n b<=10000100:=by unfold fj;split<;>omega
theorem kN (b:UInt8):i' b=true↔48<=b.toNat/\b.toNat<=57:=by simp[i']
theorem EL :∀(l:List UInt8) (n m:Nat) (r:List UInt8),gV l n=(m,r)->n<=10000100->m<=10000100
 | [],n,m,r,h,hn=>by simp[gV]at h;omega
 |b::l,n,m,r,h,hn=>by
  unfold gV at h;split at h
  ·rename_i hd
   exact EL l _ m r h (vc n b hn ((kN b).1 hd).2)
  injection h with h1 h2;omega
theorem rD (h:cg l=some (n,r)):r<:+l/\r.length<l.length/\n<=10000100:=by
 match l,h with
 | [],h=>simp[cg]at h
 |b::l,h=>
  rw[rC]at h;split at h
  ·cases h
  rename_i d
  split at h
  ·cases h
  injection h with h;have e:=EL _ _ _ _ h (by omega);unfold gV at h;rw[zj (by simpa using d)]at h;have c:=pX _ _ _ _ h;refine⟨c.trans (yW b l), ?_,e⟩;have:=c.length_le;simp;omega
theorem BA {acc:List Ty}(h:At acc l=some r):r<:+l:=by
 unfold At at h;split at h
 ·injection h with h;rw[h];exact ZF _
 match l,h with
 |c::l,h=>
  simp only at h;split at h
  ·injection h with h;rw[<-h];exact yW c l
  cases h
theorem Kg {b:Nat}(h:tQ l b=some (r,d)):r<:+l:=by
 unfold tQ at h;match l,h with
 | [],h=>
  simp only at h;split at h
  ·cases h
  injection h with h;injection h with h _;rw[<-h];exact ZF _
 |c::l,h=>
  simp only at h;split at h
  ·injection h with h;injection h with h _;rw[<-h];exact yW c l
  split at h
  ·cases h
  injection h with h;injection h with h _;rw[<-h];exact ZF _
theorem BC {p:List UInt8->Option (Ty×List UInt8)}(d:∀l y r,p l=some (y,r)->r<:+l/\r.length<l.length):∀n l acc b y r,fx p n l acc b=some (y,r)->r<:+l/\r.length<l.length
 |0,_,_,_,_,_,h=>by simp[fx]at h
 |n+1,[],_,_,_,_,h=>by simp[fx]at h
 |n+1,c::l,acc,b,y,r,h=>by
  unfold fx at h;split at h
  ·injection h with h;injection h with _ h;rw[<-h];exact⟨yW c l,by simp⟩
  split at h
  ·cases h
  rename_i q j
  split at h
  ·cases h
  rename_i s w e
  split at h
  ·cases h
  rename_i u x k
  have k1:=BA j;have k2:=Kg e;have o:=d _ _ _ k;have i:=BC d n _ _ _ _ _ h;have m:=(i.1.trans o.1).trans (k2.trans k1);refine⟨m, ?_⟩;have:=(k2.trans k1).length_le;omega
theorem BD {x y:Ty}(h:gH x l=some (y,r)):r<:+l/\r.length<l.length:=by
 unfold gH at h;match l,h with
 |c::l,h=>
  simp only at h;split at h
  ·split at h
   ·cases h
   ·cases h
   rename_i n d e b
   split at h
   ·injection h with h;injection h with _ h;subst h;have k1:=(rD b)
    refine⟨((yW d e).trans k1.1).trans (yW c l), ?_⟩;have:=k1.2.1;simp at this⊢;omega
   cases h
  cases h
theorem gj :∀(f:Nat) (l:List UInt8) (y:Ty) (r:List UInt8),aN f l=some (y,r)->r<:+l/\r.length<l.length
 |0,_,_,_,h=>by simp[aN]at h
 |f+1,[],_,_,h=>by simp[aN]at h
 |f+1,c::l,y,r,h=>by
  have key:∀{m:Nat} {d:List UInt8},cg l=some (m,d)->d<:+c::l/\d.length<(c::l).length:=fun b=>by
   have k:=rD b;exact⟨k.1.trans (yW c l),by have:=k.2.1;simp;omega⟩
  unfold aN at h;split at h
  ·split at h
   ·cases h
   rename_i b
   split at h
   ·injection h with h;injection h with _ h;subst h;exact key b
   cases h
  split at h
  ·split at h
   ·cases h
   rename_i b
   injection h with h;injection h with _ h;subst h;exact key b
  split at h
  ·split at h
   ·cases h
   rename_i b
   injection h with h;injection h with _ h;subst h;exact key b
  split at h
  ·split at h
   ·cases h
   rename_i x d b
   have k1:=gj f _ _ _ b;have k2:=BD h;exact⟨(k2.1.trans k1.1).trans (yW c l),by have:=k1.2;have:=k2.2;simp;omega⟩
  split at h
  ·have k:=BC (gj f) _ _ _ _ _ _ h;exact⟨k.1.trans (yW c l),by have:=k.2;simp;omega⟩
  cases h
theorem vd (e:q<=s.size)(h:r<:+s.data.toList.drop q):s.data.toList.drop (s.size-r.length)=r/\q<=s.size-r.length:=by
 obtain⟨pre,c⟩:=h;have d:=yp List.length c;simp only[zk,zP,aa]at d;have b:r=(s.data.toList.drop q).drop pre.length:=by rw[<-c,List.drop_left]
 rw[xw]at b;refine⟨?_,by omega⟩;rw[b];congr 1
 rw[zP,aa];omega
def fL (f:Nat)(s:ByteArray)(R:Option (Ty×List UInt8))(p:Nat)(acc:List Ty)(tl:Nat):Prop:=∃n,fx (aN f) n (s.data.toList.drop p) acc tl=R/\(s.data.toList.drop p).length<n
def Oh (f:Nat)(s:ByteArray)(R:Option (Ty×List UInt8))(q:Nat)(acc:List Ty)(tl:Nat):Prop:=∃n,(match aN f (s.data.toList.drop q)with|none=>none|some (y,r')=>fx (aN f) n r' (acc++ [y]) tl)=R/\(s.data.toList.drop q).length<=n
theorem fL.stop {R:Option (Ty×List UInt8)}{acc:List Ty}{c:Nat}(h:fL f s R p acc c)(d:s.size<=p):R=none:=by
 obtain⟨n,b,_⟩:=h;rw[zK (by simpa using d)]at b;cases n<;>simp[fx]at b<;>exact b.symm
theorem fL.ends {R:Option (Ty×List UInt8)}{acc:List Ty}{c:Nat}(h:fL f s R p acc c)(d:p<s.size)(e:s[p].toNat=125):R=some (.mk 5 0 acc c,s.data.toList.drop (p+1)):=by
 obtain⟨n,b,i⟩:=h;rw[drop_cons s p d,show s[p]=125 from zT.1 e]at b;cases n with
 |zero=>omega
 |succ n=>simp[fx]at b;exact b.symm
theorem fL.open_ {R:Option (Ty×List UInt8)}{acc:List Ty}(h:fL f s R p acc d)(i:p<s.size)(j:s[p].toNat≠125):
 ∃n,(match At acc (s.data.toList.drop p)with
  |none=>none
  |some l1=>match tQ l1 d with
   |none=>none
   |some (l2,Lh)=>match aN f l2 with
    |none=>none
    |some (y,r')=>fx (aN f) n r' (acc++ [y]) Lh)=R/\(s.data.toList.drop p).length<=n:=by
 obtain⟨n,b,c⟩:=h;have k:s[p]≠125:=fun e=>j (by rw[e];rfl)
 match n,b,c with
 |n+1,b,c=>
  refine⟨n, ?_,by omega⟩;rw[drop_cons s p i]at b⊢;simpa only[fx,zi k]using b
theorem fL.bad {R:Option (Ty×List UInt8)}{acc:List Ty}(h:fL f s R p acc j)(c:p<s.size)(k:s[p].toNat≠125)(d:s[p].toNat≠44)(i:acc≠ []):R=none:=by
 obtain⟨n,b,_⟩:=h.open_ c k;have l:s[p]≠44:=fun e=>d (by rw[e];rfl)
 rw[show At acc (s.data.toList.drop p)=none by rw[drop_cons s p c];simp[At,i,l]]at b;exact b.symm
def pY (f:Nat)(s:ByteArray)(R:Option (Ty×List UInt8))(q:Nat)(acc:List Ty)(tl:Nat):Prop:=
 ∃n,(match tQ (s.data.toList.drop q) tl with
  |none=>none
  |some (l2,Lh)=>match aN f l2 with
   |none=>none
   |some (y,r')=>fx (aN f) n r' (acc++ [y]) Lh)=R/\(s.data.toList.drop q).length<=n
theorem fL.first {R:Option (Ty×List UInt8)}{c:Nat}(h:fL f s R p [] c)(e:p<s.size)(i:s[p].toNat≠125):pY f s R p [] c:=by
 obtain⟨n,b,d⟩:=h.open_ e i;rw[show At [] (s.data.toList.drop p)=some (s.data.toList.drop p)by simp[At]]at b;exact⟨n,b,d⟩
theorem fL.more {R:Option (Ty×List UInt8)}{acc:List Ty}(h:fL f s R p acc e)(b:p<s.size)(j:s[p].toNat=44)(i:acc≠ []):pY f s R (p+1) acc e:=by
 obtain⟨n,d,c⟩:=h.open_ b (by omega);have k:s[p]=44:=zT.1 j;rw[show At acc (s.data.toList.drop p)=some (s.data.toList.drop (p+1))by rw[drop_cons s p b];simp[At,i,k]]at d;rw[drop_cons s p b]at c;exact⟨n,d,by simp at c⊢;omega⟩
theorem pY.mark {R:Option (Ty×List UInt8)}{acc:List Ty}{b:Nat}(h:pY f s R q acc b)(d:q<s.size)(j:s[q].toNat=63):Oh f s R (q+1) acc (b+1):=by
 obtain⟨n,e,c⟩:=h;have i:s[q]=63:=zT.1 j;rw[show tQ (s.data.toList.drop q) b=some (s.data.toList.drop (q+1),b+1)by rw[drop_cons s q d];simp[tQ,i]]at e;rw[drop_cons s q d]at c;exact⟨n,e,by simp at c⊢;omega⟩
theorem pY.none_ {R:Option (Ty×List UInt8)}{acc:List Ty}{c:Nat}(h:pY f s R q acc c)(k:∀b:q<s.size,s[q].toNat≠63)(d:0<c):R=none:=by
 obtain⟨n,i,l⟩:=h;rw[show tQ (s.data.toList.drop q) c=none by
  by_cases b:q<s.size
  ·have j:s[q]≠63:=fun e=>k b (by rw[e];rfl)
   rw[drop_cons s q b];simp[tQ,j,d]
  rw[zK (by simp;omega)];simp[tQ,d]]at i
 exact i.symm
theorem pY.plain {R:Option (Ty×List UInt8)}{acc:List Ty}(h:pY f s R q acc 0)(i:∀b:q<s.size,s[q].toNat≠63):Oh f s R q acc 0:=by
 obtain⟨n,c,d⟩:=h;rw[show tQ (s.data.toList.drop q) 0=some (s.data.toList.drop q,0)by
  by_cases b:q<s.size
  ·have j:s[q]≠63:=fun e=>i b (by rw[e];rfl)
   rw[drop_cons s q b];simp[tQ,j]
  rw[zK (by simp;omega)];simp[tQ]]at c
 exact⟨n,c,d⟩
theorem Oh.none {R:Option (Ty×List UInt8)}{acc:List Ty}{c:Nat}(h:Oh f s R q acc c)(d:aN f (s.data.toList.drop q)=none):R=none:=by
 obtain⟨n,b,_⟩:=h;rw[d]at b;exact b.symm
theorem Oh.some {R:Option (Ty×List UInt8)}{acc:List Ty}{y:Ty}(h:Oh f s R q acc e)(j:q<=s.size)(c:aN f (s.data.toList.drop q)=some (y,r)):
 fL f s R (s.size-r.length) (acc++ [y]) e/\q<s.size-r.length/\s.size-r.length<=s.size:=by
 obtain⟨n,d,i⟩:=h;obtain⟨k1,k2⟩:=gj _ _ _ _ c;have k:(s.data.toList.drop q).length=s.size-q:=by simp
 rw[k]at i k2;rw[c]at d;have b:=(vd j k1).1;exact⟨⟨n,by rw[b];exact d,by rw[b];omega⟩,by omega,by omega⟩
def kO (s:ByteArray)(at_ k m:Nat):Prop:=gV (s.data.toList.drop at_) 0=gV (s.data.toList.drop k) m/\∀j,at_<=j->j<k->∃h:j<s.size,i' s[j]=true
theorem kO.start (s:ByteArray)(at_:Nat):kO s at_ at_ 0:=⟨rfl,by omega⟩
theorem kO.next {at_:Nat}(h:kO s at_ k m)(b:k<s.size)(hd:i' s[k]=true):kO s at_ (k+1) (fj m s[k]):=by
 refine⟨?_,fun j c d=> ?_⟩
 ·rw[h.1,drop_cons s k b,gV,zj hd]
 by_cases e:j=k
 ·subst e;exact⟨b,hd⟩
 exact h.2 j c (by omega)
theorem nO {at_:Nat}(b:∀h:at_<s.size,i' s[at_]=false):cg (s.data.toList.drop at_)=none:=by
 by_cases h:at_<s.size
 ·rw[drop_cons s at_ h];simp[cg,b h]
 rw[zK (by simp;omega)];rfl
theorem nP {at_:Nat}(h:kO s at_ k m)(e:at_+1<k)(hz:∀h:at_<s.size,s[at_].toNat=48):cg (s.data.toList.drop at_)=none:=by
 obtain⟨b,d1⟩:=h.2 at_ (by omega) (by omega);obtain⟨c,d2⟩:=h.2 (at_+1) (by omega) e;have d:s[at_]=48:=zT.1 (hz b);rw[drop_cons s at_ b,drop_cons s (at_+1) c];simp[cg,d,mN,d2]
theorem j9 {at_:Nat}(h:kO s at_ k m)(n:at_<k)(j:∀h:k<s.size,i' s[k]=false)(hz:at_+1<k->∀h:at_<s.size,s[at_].toNat≠48):cg (s.data.toList.drop at_)=some (m,s.data.toList.drop k):=by
 obtain⟨l,d1⟩:=h.2 at_ (by omega) n;have e:gV (s.data.toList.drop k) m=(m,s.data.toList.drop k):=by
  by_cases d:k<s.size
  ·rw[drop_cons s k d,gV,zi (by rw[j d];simp)]
  rw[zK (by simp;omega)];rfl
 have i:=h.1;rw[e]at i;rw[drop_cons s at_ l]at i⊢;rw[rC,zi (by simp[d1]),zi,i];rintro⟨c,hd⟩;have b:at_+1<k\/k=at_+1:=by omega
 rcases b with b|b
 ·exact hz b l (by rw[c];rfl)
 subst b;by_cases d:at_+1<s.size
 ·rw[drop_cons s (at_+1) d]at hd;simp[mN,j d]at hd
 rw[zK (by simp;omega)]at hd;simp[mN]at hd
theorem pZ (c:q<=s.size)(h:cg (s.data.toList.drop q)=some (n,r)):s.data.toList.drop (s.size-r.length)=r/\q<s.size-r.length/\s.size-r.length<=s.size/\n<=10000100:=by
 obtain⟨d,b,e⟩:=rD h;obtain⟨k1,k2⟩:=vd c d;simp at b;exact⟨k1,by omega,by omega,e⟩
def gW :List UInt8->Bool
 | []=>false
 |b::_=>b==0
def Ty.at (t:Ty)(i:Nat):Ty:=(t.sub[if t.kind=4 then 0 else i]?).getD (.mk 0 0 [] 0)
def qZ (t:Ty)(tx:ByteArray)(l:Bool)(m:Nat):Bool:=
 if t.kind=1 then !l&&decide ((tx.size:Int)<=t.size)&& !gW tx.data.toList
 else if t.kind=2 then !l&&decide ((tx.size:Int)=t.size)
 else if t.kind=3 then !l&&decide ((tx.size:Int)<=t.size)
 else if t.kind=4 then l&&decide ((m:Int)<=t.size)
 else l&&decide (m<=t.sub.length)&&decide ((t.sub.length:Int)-t.tail<=m)
mutual
def It.dy :It->Ty->Bool
 | .mk tx l s,t=>qZ t tx l s.length&&dK s t 0
def dK :List It->Ty->Nat->Bool
 | [],_,_=>true
 |x::xs,t,i=>x.dy (t.at i)&&dK xs t (i+1)
end
theorem qa (a b:List It)(t:Ty)(i:Nat):dK (a++b) t i=(dK a t i&&dK b t (i+a.length)):=by
 induction a generalizing i with
 |nil=>simp[dK]
 |cons x xs ih=>simp only[zW,dK,ih,zz,Bool.and_assoc];rw[show i+1+xs.length=i+(xs.length+1)from by omega]
theorem ve {s:List It}{t:Ty}(h:k<s.length):dK (s.take (k+1)) t 0=(dK (s.take k) t 0&&s[k].dy (t.at k)):=by
 rw[fh s k h,qa];simp[dK,yG (Ym h)]
theorem EM {s:List It}{t:Ty}(h:k<s.length)(c:s[k].dy (t.at k)=false):dK s t 0=false:=by
 have b:=qa (s.take (k+1)) (s.drop (k+1)) t 0;rw[zH,ve h,c]at b;simpa using b
def S8 (n:Nat):ByteArray:=⟨(List.replicate n 0).toArray⟩
mutual
def Ty.zero :Ty->It
 | .mk k s l t=>if k=2 then .mk (S8 s.toNat) false []else if k=4 then .mk ⟨#[]⟩ true []else if k=5 then .mk ⟨#[]⟩ true (Vi l ((l.length:Int)-t).toNat)else .mk ⟨#[]⟩ false []
def Vi :List Ty->Nat->List It
 | [],_=> []
 |_::_,0=> []
 |x::xs,n+1=>x.zero::Vi xs n
end
def Ty.kept (t:Ty):Nat:=if t.kind=5 then((t.sub.length:Int)-t.tail).toNat else 0
theorem OU {t:Ty}(h:t.may=true):t.count<=64/\t.deep<=8/\t.right=true:=by
 unfold Ty.may at h;simp only[zy,zY]at h;exact⟨h.1.1,h.1.2,h.2⟩
theorem jB {k s:Int}{l:List Ty}(h:(Ty.mk k s l t).right=true):fH k s l.length t=true/\bQ l=true:=by
 simpa only[Ty.right,zy]using h
theorem ka {k s:Int}(h:fH k s n t=true):
 (k=1/\(s=1\/s=2\/s=4\/s=8)/\n=0/\t=0)\/(k=2/\1<=s/\s<=65536/\n=0/\t=0)\/(k=3/\0<=s/\s<=65536/\n=0/\t=0)\/(k=4/\0<=s/\s<=1024/\n=1/\t=0)\/(k=5/\s=0/\n<=16/\0<=t/\t<=n):=by
 unfold fH at h;split at h
 ·exact .inl ⟨by assumption,by simpa using h⟩
 split at h
 ·exact .inr (.inl ⟨by assumption,by simpa using h⟩)
 split at h
 ·exact .inr (.inr (.inl ⟨by assumption,by simpa using h⟩))
 split at h
 ·exact .inr (.inr (.inr (.inl ⟨by assumption,by simpa using h⟩)))
 split at h
 ·exact .inr (.inr (.inr (.inr ⟨by assumption,by simpa using h⟩)))
 cases h
mutual
def Ty.wide :Ty->Bool
 | .mk k s l _=>(decide (k=2)&&decide (3000<s))||Vj l
def Vj :List Ty->Bool
 | []=>false
 |x::xs=>x.wide||Vj xs
end
def dZ (ty:Ty)(x:It):Int:=if ty.may&&x.may then(if x.dy ty then 0 else 12)else 1
mutual
def It.gQ :It->Nat->Nat->Nat->Bool×Nat×Nat
 | .mk t l s,lv,c,d=>if 16<lv\/c=1024\/formed t l s.length=false then(false,c,d)else fW s (lv+1) (c+1) (max d lv)
def fW :List It->Nat->Nat->Nat->Bool×Nat×Nat
 | [],_,c,d=>(true,c,d)
 |x::xs,lv,c,d=>if(x.gQ lv c d).1 then fW xs lv (x.gQ lv c d).2.1 (x.gQ lv c d).2.2 else(false,(x.gQ lv c d).2.1,(x.gQ lv c d).2.2)
end
theorem sH (a b:List It)(e c d:Nat):fW (a++b) e c d=if(fW a e c d).1 then fW b e (fW a e c d).2.1 (fW a e c d).2.2 else(false,(fW a e c d).2.1,(fW a e c d).2.2):=by
 induction a generalizing c d with
 |nil=>simp[fW]
 |cons x xs ih=>
  by_cases h:(x.gQ e c d).1=true
  ·simp only[zW,fW,h,xL,ih]
  simp[fW,h]
theorem BE {s:List It}{c:Nat}(h:k<s.length)(l:fW (s.take k) e c d=(true,j,i)):fW (s.take (k+1)) e c d=s[k].gQ e j i:=by
 rw[fh s k h,sH,l];simp only[xL,fW];by_cases b:(s[k].gQ e j i).1=true
 ·rw[zj b,<-b]
 rw[zi b];simp only[Bool.not_eq_true]at b;rw[<-b]
theorem L5 {s:List It}{b c l:Nat}(h:k<s.length)(n:fW (s.take k) b c d=(true,m,i))(o:s[k].gQ b m i=(false,l,e)):fW s b c d=(false,l,e):=by
 have j:=sH (s.take (k+1)) (s.drop (k+1)) b c d;rw[zH,BE h n,o]at j;simpa using j
def OV (x:It):Prop:=∀lv c d,1<=lv->c<=1024->(((x.gQ lv c d).1=true↔x.right=true/\lv+x.deep<=17/\c+x.count<=1024)/\((x.gQ lv c d).1=true->(x.gQ lv c d).2=(c+x.count,max d (lv-1+x.deep)))/\(x.gQ lv c d).2.1<=1024/\(x.gQ lv c d).2.2<=max d 16)
theorem S9 (s:List It)(l:∀x∈s,OV x):∀h c d,1<=h->c<=1024->(((fW s h c d).1=true↔dg s=true/\(s= []\/h+cH s<=17)/\c+aC s<=1024)/\((fW s h c d).1=true->(fW s h c d).2=(c+aC s,if s= []then d else max d (h-1+cH s)))/\(fW s h c d).2.1<=1024/\(fW s h c d).2.2<=max d 16):=by
 induction s with
 |nil=>intro h c d j k;simp[fW,dg,aC,k];omega
 |cons x xs Gw=>
  intro h c d j k;obtain⟨o,p,w,z⟩:=l x (by simp) h c d j k;by_cases i:(x.gQ h c d).1=true
  ·have r:=p i;have m:=o.1 i;obtain⟨g1,g2,g3,g4⟩:=Gw (fun y u=>l y (by simp[u])) h (c+x.count) (max d (h-1+x.deep)) j m.2.2;simp only[fW,i,xL,r];simp only[dg,aC,cH,zy,m.1,true_and];refine⟨?_, ?_,g3,by omega⟩
   ·rw[g1];constructor
    ·rintro⟨a,b,e⟩;refine⟨a,.inr ?_,by omega⟩;rcases b with rfl|b
     ·simp[cH];omega
     omega
    rintro⟨a,b,e⟩;refine⟨a, ?_,by omega⟩;rcases b with b|b
    ·cases b
    exact .inr (by omega)
   intro q;rw[g2 q];by_cases n:xs= []
   ·subst n;simp[cH,aC]
   simp only[n,xN];simp;omega
  simp only[fW,i];refine⟨?_,by simp,by simpa using w,by simpa using z⟩;simp only[Bool.false_eq_true,xN,false_iff];rintro⟨a,b,e⟩;simp only[dg,aC,cH,zy]at a b e;exact i (o.2 ⟨a.1,by rcases b with b|b;cases b;omega,by omega⟩)
theorem Ib (x:It):OV x:=by
 induction x using It.ind with
 |h t l s ih=>
  intro j c d p o;by_cases i:16<j\/c=1024\/formed t l s.length=false
  ·simp only[It.gQ,zj i,It.right,It.deep,It.count];refine⟨?_,by simp,o,by omega⟩;simp only[Bool.false_eq_true,false_iff,zy];rintro⟨⟨a,_⟩,b,e⟩;rcases i with h|h|h
   ·omega
   ·omega
   rw[h]at a;cases a
  obtain⟨n1,n2,k⟩:¬16<j/\¬c=1024/\¬formed t l s.length=false:=by
   refine⟨fun h=>i (.inl h),fun h=>i (.inr (.inl h)),fun h=>i (.inr (.inr h))⟩
  obtain⟨g1,g2,g3,g4⟩:=S9 s ih (j+1) (c+1) (max d j) (by omega) (by omega);simp only[It.gQ,zi i,It.right,It.deep,It.count];simp only[Bool.not_eq_false]at k;refine⟨?_, ?_,g3,by omega⟩
  ·rw[g1,k];simp only[Bool.true_and];constructor
   ·rintro⟨a,b,e⟩;refine⟨a, ?_,by omega⟩;rcases b with rfl|b
    ·simp[cH];omega
    omega
   rintro⟨a,b,e⟩;exact⟨a,.inr (by omega),by omega⟩
  intro n;rw[g2 n];by_cases m:s= []
  ·subst m;simp[cH,aC];omega
  simp only[m,xN];simp;omega
theorem Ta (x:It):(x.gQ 1 0 0).1=x.may:=by
 have h:=(Ib x 1 0 0 (by omega) (by omega)).1;rw[yP,h];simp only[It.may,zy,zY,zJ];constructor
 ·rintro⟨a,b,c⟩;exact⟨⟨a,by omega⟩,c⟩
 rintro⟨⟨a,b⟩,c⟩;exact⟨a,by omega,c⟩
def fM (x:It)(D M:Int):Int:=if x.may=false then 1 else if D<x.deep then 6 else if M<x.count then 4 else 0
theorem mP {b:ByteArray}{l:Bool}{s:List It}(h:(It.mk b l s).right=true):formed b l s.length=true/\dg s=true:=by
 simpa only[It.right,zy]using h
theorem lF {t:ByteArray}{l:Bool}{s:List It}(h:(It.mk t l s).right=true)(k:Nat)(b:k<s.length):s[k].right=true:=by
 simp only[It.right,zy]at h;have:∀s:List It,dg s=true->∀(k:Nat) (b:k<s.length),s[k].right=true:=by
  intro s;induction s with
  |nil=>intro _ k b;simp at b
  |cons x xs ih=>
   intro h k b;simp only[dg,zy]at h;cases k with
   |zero=>exact h.1
   |succ k=>simpa using ih h.2 k (by simpa using b)
 exact this s h.2 k b
def hxd (n:Nat):UInt8:=if n<10 then UInt8.ofNat (48+n)else UInt8.ofNat (87+n)
def hx (b:UInt8):List UInt8:= [hxd (b.toNat/16),hxd (b.toNat%16)]
mutual
def It.total :It->Nat
 | .mk t _ s=>t.size+lG s
def lG :List It->Nat
 | []=>0
 |x::xs=>x.total+lG xs
end
theorem EN (s:List It)(b:∀x∈s,x.oY=min x.total 10000):∀n,n<=10000->gF s n=min (n+lG s) 10000:=by
 induction s with
 |nil=>intro n d;simp[gF,lG];omega
 |cons x xs Gw=>
  intro n d;have e:=b x (by simp);simp only[gF,lG];rw[Gw (fun y c=>b y (by simp[c])) _ (by omega),e];omega
theorem Ic (x:It):x.oY=min x.total 10000:=by
 induction x using It.ind with
 |h t l s ih=>
  simp only[It.oY,It.total];rw[EN s ih _ (by omega)];omega
def dW (L:Nat)(t:Ty):Prop:=t.right=false\/L<t.count
theorem BF {p:List UInt8->Option (Ty×List UInt8)}:∀(n:Nat) (l:List UInt8) (acc:List Ty) (b:Nat) (t:Ty) (r:List UInt8),fx p n l acc b=some (t,r)->∃(more:List Ty) (d:Nat),t= .mk 5 0 (acc++more) d
 |0,_,_,_,_,_,h=>by simp[fx]at h
 |n+1,[],_,_,_,_,h=>by simp[fx]at h
 |n+1,c::l,acc,b,t,r,h=>by
  unfold fx at h;split at h
  ·injection h with h;injection h with h _;exact⟨[],b,by rw[<-h,yT]⟩
  split at h
  ·cases h
  split at h
  ·cases h
  rename_i j d _
  split at h
  ·cases h
  rename_i y k _
  obtain⟨more,i,e⟩:=BF n _ _ _ _ _ h;exact⟨y::more,i,by rw[e,zC,ZA]⟩
theorem vf {s:List Ty}(h:bQ s=true):∀x∈s,x.right=true:=fun x hx=>by
 obtain⟨j,b,rfl⟩:=yY hx;exact eF h j b
theorem vh {k:Int}{l:List Ty}{b:Int}(h:(Ty.mk k z l b).right=true):bQ l=true:=by
 simp only[Ty.right,zy]at h;exact h.2
theorem dW.sub {y:Ty}(h:dW L y)(acc more:List Ty)(b:Int):dW (1+aZ acc+L) (.mk 5 0 (acc++ [y]++more) b):=by
 rcases h with h|h
 ·left;rw[xI];intro c;have:=vf (vh c) y (by simp);rw[h]at this;cases this
 right;simp only[Ty.count,fI,aZ];omega
theorem dW.list {x:Ty}(h:dW L x)(n:Int):dW (1+L) (.mk 4 n [x] 0):=by
 rcases h with h|h
 ·left;rw[xI];intro b;have:=vf (vh b) x (by simp);rw[h]at this;cases this
 right;simp only[Ty.count,aZ];omega
theorem dW.mono {L':Nat}{t:Ty}(h:dW L t)(b:L'<=L):dW L' t:=h.imp id (fun h=>Nat.lt_of_le_of_lt b h)
theorem dW.may {t:Ty}(h:dW 64 t):t.may=false:=by
 rw[xI];intro b;simp only[Ty.may,zy,zY]at b;rcases h with h|h
 ·rw[h]at b;exact absurd b.2 (by simp)
 omega
theorem Ie (n:Nat)(b:UInt8):n<=fj n b:=by unfold fj;split<;>omega
theorem EO :∀(l:List UInt8) (n:Nat),n<=(gV l n).1
 | [],n=>zd _
 |b::l,n=>by
  unfold gV;split
  ·exact zG (Ie n b) (EO l _)
  exact zd _
theorem L6 {at_:Nat}(h:kO s at_ k m)(n:Nat)(r:List UInt8)(c:cg (s.data.toList.drop at_)=some (n,r)):m<=n:=by
 have e:gV (s.data.toList.drop at_) 0=(n,r):=by
  generalize s.data.toList.drop at_=l at*;match l,c with
  | [],c=>simp[cg]at c
  |b::l,c=>
   rw[rC]at c;split at c
   ·cases c
   split at c
   ·cases c
   injection c
 rw[h.1]at e;have:=EO (s.data.toList.drop k) m;rw[e]at this;exact this
def ox (most:Nat)(s:ByteArray)(p:Nat)(n:Nat)(ok:Bool)(q:Nat):Prop:=
 (ok=true->cg (s.data.toList.drop p)=some (n,s.data.toList.drop q)/\n<=most/\p<q)/\(ok=false->∀n' r,cg (s.data.toList.drop p)=some (n',r)->most<n')/\q<=s.size/\n<=most
theorem EP (h:∀b r,cg (s.data.toList.drop p)=some (b,r)->most<b)(d:q<=s.size)(c:n<=most):ox most s p n false q:=⟨(by intro h;cases h),fun _=>h,d,c⟩
theorem vi (h:cg (s.data.toList.drop p)=none)(c:q<=s.size)(d:n<=most):ox most s p n false q:=EP (by intro e r b;rw[h]at b;cases b) c d
theorem BG (h:cg (s.data.toList.drop p)=some (n,s.data.toList.drop q))(b:n<=most)(c:p<q)(d:q<=s.size):ox most s p n true q:=⟨fun _=>⟨h,b,c⟩,(by intro h;cases h),d,b⟩
theorem qb {k:Int}{l:List Ty}{b:Int}(L:Nat)(h:fH k z l.length b=false):dW L (.mk k z l b):=by
 left;simp[Ty.right,h]
theorem ab5 (h:∀c r,cg l=some (c,r)->64<c)(L:Nat)(t:Ty)(r:List UInt8)(b:Au (cg l)=some (t,r)):dW L t:=by
 cases hn:cg l with
 |none=>rw[hn]at b;cases b
 |some z=>
  obtain⟨n,d⟩:=z;have e:=h n d hn;rw[hn,Au]at b;split at b
  ·injection b with b;injection b with b _;subst b;refine qb L ?_;unfold fH;simp only[xL];simp;omega
  cases b
theorem ab6 (h:∀c r,cg l=some (c,r)->65536<c)(L:Nat)(t:Ty)(r:List UInt8)(b:tF 2 (cg l)=some (t,r)):dW L t:=by
 cases hn:cg l with
 |none=>rw[hn]at b;cases b
 |some z=>
  obtain⟨n,d⟩:=z;have e:=h n d hn;rw[hn,tF]at b;injection b with b;injection b with b _;subst b;refine qb L ?_;unfold fH;simp;omega
theorem ab7 (h:∀c r,cg l=some (c,r)->65536<c)(L:Nat)(t:Ty)(r:List UInt8)(b:tF 3 (cg l)=some (t,r)):dW L t:=by
 cases hn:cg l with
 |none=>rw[hn]at b;cases b
 |some z=>
  obtain⟨n,d⟩:=z;have e:=h n d hn;rw[hn,tF]at b;injection b with b;injection b with b _;subst b;refine qb L ?_;unfold fH;simp;omega
theorem L7 (h:∀e r,cg l=some (e,r)->1024<e)(L:Nat)(x t:Ty)(r:List UInt8)(b:iS x (cg l)=some (t,r)):dW L t:=by
 cases hn:cg l with
 |none=>rw[hn]at b;cases b
 |some z=>
  obtain⟨n,c⟩:=z;have i:=h n c hn;rw[hn]at b;cases c with
  |nil=>cases b
  |cons d c=>
   rw[iS]at b;split at b
   ·injection b with b;injection b with b _;subst b;refine qb L ?_;unfold fH;simp;omega
   cases b
theorem Ig {x:Ty}{o:Option (Nat×List UInt8)}{t:Ty}(h:iS x o=some (t,r)):∃n:Nat,t= .mk 4 n [x] 0:=by
 match o,h with
 |some (n,d::r'),h=>
  rw[iS]at h;split at h
  ·injection h with h;injection h with h _;exact⟨n,h.symm⟩
  cases h
theorem L8 {x:Ty}{t:Ty}(h:gH x l=some (t,r)):∃n:Nat,t= .mk 4 n [x] 0:=by
 match l,h with
 |c::l,h=>
  by_cases b:c=58
  ·subst b;rw[mO]at h;exact Ig h
  rw[va x c l (fun e=>b (zT.1 e))]at h;cases h
def tG (f L:Nat)(s:ByteArray)(p:Nat)(t:Ty)(ok:Bool)(q L':Nat):Prop:=
 (ok=true->aN f (s.data.toList.drop p)=some (t,s.data.toList.drop q)/\L'+t.count=L/\p<q)/\(ok=false->∀t' r,aN f (s.data.toList.drop p)=some (t',r)->dW L t')/\q<=s.size
def OW (L:Nat)(s:ByteArray)(R:Option (Ty×List UInt8))(t:Ty)(ok:Bool)(q L':Nat):Prop:=
 (ok=true->R=some (t,s.data.toList.drop q)/\L'+t.count=L)/\(ok=false->∀t' r,R=some (t',r)->dW L t')/\q<=s.size
theorem Tb {R:Option (Ty×List UInt8)}{acc:List Ty}(h:Oh f s R q acc j)(e:∀b r,aN f (s.data.toList.drop q)=some (b,r)->dW L b):∀b r,R=some (b,r)->dW (1+aZ acc+L) b:=by
 intro b r d;obtain⟨n,c,_⟩:=h;cases hi:aN f (s.data.toList.drop q)with
 |none=>rw[hi,d]at c;cases c
 |some z=>
  obtain⟨y,k⟩:=z;rw[hi,d]at c;obtain⟨more,i,rfl⟩:=BF _ _ _ _ _ _ c;exact(e y k hi).sub acc more i
