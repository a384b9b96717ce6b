/- A buffer of bytes: copy within it, slices.Clone. -/
import Derived.Test.YtpjgigllldipiaaGreatDoorProg
import Derived.Test.YtpjgigllldipiaaGreatDoorKA1
import Derived.Lib.BufferMore
import Derived.Laws.CopyOwn
set_option linter.all false
set_option maxRecDepth 100000
set_option maxHeartbeats 1000000
namespace Go.Proofs.YtpjgigllldipiaaGreatDoor
open Go.RowKit
def zx:=@Tryz.underlying31
def zS:=@List.drop_eq_nil_of_le
def zX:=@UInt8.toNat_inj
def zZ:=@List.length_drop
def yQ:=@info_parts
def xd:=@List.suffix_cons
def xg:=@List.getElem_of_mem
def xy:=@List.append_nil
def xH:=@List.getElem?_drop
def Zr:=@if_false
def ZD:=@Bool.eq_false_iff
def ZF:=@List.singleton_append
def ZI:=@List.suffix_refl
def Yt:=@Nat.le_of_lt
theorem uJ :(Tryz.prog.info? 5).map (fun i=>(i.zero,i.size,i.bytes))=some (some (.int .u8 0),1,1):=by kernel_rfl
theorem oE :(Tryz.prog.info? 5).map (·.size)=some 1:=by kernel_rfl
theorem bJ.blank (w:World)(base:Nat)(E:TypeId)(b:base<=w.heap.size):bJ (w.alloc (.cells #[] E)) base E (.slice (some ⟨w.heap.size,0,none⟩) 0 0) []:=
 ⟨_,0,rfl,by simp,by simp,.inr ⟨w.heap.size,#[],(0,0),rfl,b,yX w _,rfl,by simp[cb],.inl rfl⟩⟩
theorem Ex (base g n cap:Nat)(l:List UInt8)(w:World)(B:n=l.length)(h:bJ w base 5 (.slice (some ⟨g,0,none⟩) n cap) l)(C:l.length<=1000000):
 Calls Tryz.prog 84 #[.slice (some ⟨g,0,none⟩) n cap] w fun e w'=>(∃b,e= .returned b/\bJ w' w.heap.size 5 b l/\∃k,b.ownBlock=some k)/\Below w.heap.size w w':=by
 obtain⟨i0,hi,x,s,q⟩:=yQ uJ;have D:=fun(w:World) (a:Addr) (n c:Nat)=>Lib.run_eql_slice_some_nil (P:=Tryz.prog) w a n c zx
 have u:=za (h.alloc (.cells #[] 5));have i:=za (bJ.blank w w.heap.size 5 (zi _));clear h;go_enter Tryz.func84,Tryz.ntmps84
 go_wp2_with (
  at_builtin
  refine cm (by rfl) (.tmp 5) (.tmp 6) 31 31 (by rfl) w.heap.size 5 i0 zx hi x s q (by rfl) i.out _ l (by rfl) (JV zx u.out) (by simp) (by simp;omega) ?_;intro j m o w' p d;have A:Hid (bJ w' w.heap.size 5 (.slice j m o) l):=za (by simpa using p);have y:Hid (∃k,(Value.slice j m o).ownBlock=some k):=za (by rcases d.own with e|⟨k,e,_⟩;exact⟨_,e⟩;exact⟨k,e⟩);have r:Hid (Below w.heap.size w w'):=za (l8.below ((zq _ w).alloc (zi _) (.cells #[] 5)) d (by simp) (fun k z=>(i.out.ge k z).1));clear p d)
 go_ret;exact⟨⟨_,rfl,A.out,y.out⟩,r.out⟩
theorem bJ.V9 {w:World}{base g n cap k:Nat}{l:List UInt8}(h:bJ w base 5 (.slice (some ⟨g,0,none⟩) n cap) l)(I:k<=l.length):
 ∃W,w.setCells g 0 (cb (l.drop k))=W/\bJ W base 5 (.slice (some ⟨g,0,none⟩) (l.length-k) cap) (l.drop k)/\l8 w W (.slice (some ⟨g,0,none⟩) n cap) (.slice (some ⟨g,0,none⟩) (l.length-k) cap)/\
  (∀j v,(cb (l.drop k))[j]?=some v->w.cell? ((⟨g,k,none⟩:Addr).add j)=some v)/\(∀j,j<(cb (l.drop k)).length->(w.cell? ⟨g,0+j,none⟩).isSome=true)/\∀j,j<(cb (l.drop k)).length->w.frozen? ⟨g,0+j,none⟩=false:=by
 have o:=fun j (b:j<l.length)=>h.at_ (k:=j) b
 obtain⟨M,J,z,L,B,m⟩:=h;injection z with c hn hc;subst c;subst hc;subst hn;rcases m with⟨m,_⟩|⟨H,q,C,c,A,r,F,G,u⟩
 ·cases m
 injection c with c;injection c with c;subst c;have i:(l.drop k).length=l.length-k:=zZ;have s:(cb (l.drop k)).length=l.length-k:=by rw[bq,i]
 obtain⟨x,D,K,p⟩:=ie (cb (l.drop k)) 0 w q r (by omega);refine⟨_,rfl,⟨_,cap,by rw[i],by rw[i];omega,B,.inr ⟨g,x,C,rfl,A,D,by omega, ?_,u⟩⟩,⟨⟨World.os_setCells _ _ _ _,kq _ _ _ _,YA _ _ _ _,by rw[ig];exact zi _,fun j b E=>Ya w g 0 _ b (fun e=>E (by subst e;rfl))⟩,.inl rfl⟩, ?_, ?_, ?_⟩
 ·rw[zQ,s]at p;rw[i,p];simp
 ·intro j v d;rw[El,xH]at d;have b:k+j<l.length:=by
   rcases Zl (k+j) l.length with h|h
   ·exact h
   rw[xk h]at d;cases d
  have y:(⟨g,k,none⟩:Addr).add j=⟨g,k+j,none⟩:=by unfold Addr.add;split<;>simp_all
  rw[y,(o (k+j) b).1,zA];rw[zD b]at d⊢;simpa using d
 ·intro j b;rw[zQ,(o j (by omega)).1];rfl
 intro j b;rw[zQ];exact(o j (by omega)).2.1
def iU (b:UInt8):Bool:=decide (48<=b.toNat)&&decide (b.toNat<=57)
def fo (n:Nat)(b:UInt8):Nat:=if n<1000000 then 10*n+(b.toNat-48)else n
def gR :List UInt8->Nat->Nat×List UInt8
 | [],n=>(n,[])
 |b::r,n=>if iU b then gR r (fo n b)else(n,b::r)
def mC :List UInt8->Bool
 | []=>false
 |b::_=>iU b
def cg :List UInt8->Option (Nat×List UInt8)
 | []=>none
 |b::r=>if iU b=false then none else if b=48/\mC r=true then none else some (gR (b::r) 0)
theorem qX (b:UInt8)(r:List UInt8):cg (b::r)=if iU b=false then none else if b=48/\mC r=true then none else some (gR (b::r) 0):=rfl
def Ad (acc:List Ty)(l:List UInt8):Option (List UInt8):=
 if acc= []then some l else match l with
  | []=>none
  |c::r=>if c=44 then some r else none
def tQ (l:List UInt8)(tl:Nat):Option (List UInt8×Nat):=match l with
 | []=>if 0<tl then none else some ([],tl)
 |c::r=>if c=63 then some (r,tl+1)else if 0<tl then none else some (c::r,tl)
def fx (p:List UInt8->Option (Ty×List UInt8)):Nat->List UInt8->List Ty->Nat->Option (Ty×List UInt8)
 |0,_,_,_=>none
 |_+1,[],_,_=>none
 |n+1,c::r,acc,tl=>
  if c=125 then some (.mk 5 0 acc tl,r)
  else match Ad acc (c::r)with
   |none=>none
   |some l1=>match tQ l1 tl with
    |none=>none
    |some (l2,KW)=>match p l2 with
     |none=>none
     |some (y,r')=>fx p n r' (acc++ [y]) KW
def gG (x:Ty):List UInt8->Option (Ty×List UInt8)
 | []=>none
 |c::r=>if c=58 then(match cg r with
  |none=>none
  |some (_,[])=>none
  |some (n,d::r')=>if d=93 then some (.mk 4 n [x] 0,r')else none)else none
def aK :Nat->List UInt8->Option (Ty×List UInt8)
 |0,_=>none
 |_+1,[]=>none
 |f+1,c::r=>
  if c=117 then(match cg r with|none=>none|some (n,r')=>if n%8=0 then some (.mk 1 ((n/8:Nat):Int) [] 0,r')else none)
  else if c=98 then(match cg r with|none=>none|some (n,r')=>some (.mk 2 n [] 0,r'))
  else if c=115 then(match cg r with|none=>none|some (n,r')=>some (.mk 3 n [] 0,r'))
  else if c=91 then(match aK f r with|none=>none|some (x,r')=>gG x r')
  else if c=123 then fx (aK f) (r.length+1) r [] 0
  else none
def Ae :Option (Nat×List UInt8)->Option (Ty×List UInt8)
 |none=>none
 |some (n,r)=>if n%8=0 then some (.mk 1 ((n/8:Nat):Int) [] 0,r)else none
def s7 (k:Int):Option (Nat×List UInt8)->Option (Ty×List UInt8)
 |none=>none
 |some (n,r)=>some (.mk k n [] 0,r)
def uK (o:Option (Ty×List UInt8)):Option (Ty×List UInt8):=match o with
 |none=>none
 |some (x,r)=>gG x r
theorem JX (f:Nat)(r:List UInt8):aK (f+1) (117::r)=Ae (cg r):=by
 simp only[aK,xS];cases cg r<;>rfl
theorem JY (f:Nat)(r:List UInt8):aK (f+1) (98::r)=s7 2 (cg r):=by
 simp only[aK,zj (show¬(98:UInt8)=117 by decide),xS];cases cg r<;>rfl
theorem JZ (f:Nat)(r:List UInt8):aK (f+1) (115::r)=s7 3 (cg r):=by
 simp only[aK,zj (show¬(115:UInt8)=117 by decide),zj (show¬(115:UInt8)=98 by decide),xS];cases cg r<;>rfl
theorem J0 (f:Nat)(r:List UInt8):aK (f+1) (91::r)=uK (aK f r):=by
 simp only[aK,zj (show¬(91:UInt8)=117 by decide),zj (show¬(91:UInt8)=98 by decide),zj (show¬(91:UInt8)=115 by decide),xS];cases aK f r<;>rfl
theorem J1 (f:Nat)(r:List UInt8):aK (f+1) (123::r)=fx (aK f) (r.length+1) r [] 0:=by
 simp only[aK,zj (show¬(123:UInt8)=117 by decide),zj (show¬(123:UInt8)=98 by decide),zj (show¬(123:UInt8)=115 by decide),zj (show¬(123:UInt8)=91 by decide),xS]
theorem Ey (f:Nat)(c:UInt8)(r:List UInt8)(i:c.toNat≠117)(d:c.toNat≠98)(l:c.toNat≠115)(b:c.toNat≠91)(j:c.toNat≠123):aK (f+1) (c::r)=none:=by
 have k:∀n:UInt8,c.toNat≠n.toNat->¬c=n:=fun n h e=>h (by rw[e])
 simp only[aK,zj (k 117 i),zj (k 98 d),zj (k 115 l),zj (k 91 b),zj (k 123 j)]
def iL (x:Ty):Option (Nat×List UInt8)->Option (Ty×List UInt8)
 |none=>none
 |some (_,[])=>none
 |some (n,d::r')=>if d.toNat=93 then some (.mk 4 n [x] 0,r')else none
theorem mD (x:Ty)(r:List UInt8):gG x (58::r)=iL x (cg r):=by
 simp only[gG,xS];cases cg r with
 |none=>rfl
 |some z=>
  obtain⟨n,b⟩:=z;cases b with
  |nil=>rfl
  |cons d b=>
   simp only[iL];by_cases h:d=93
   ·subst h;rfl
   have c:¬d.toNat=93:=fun e=>h (zX.1 e)
   simp[h,c]
theorem uL (x:Ty)(c:UInt8)(r:List UInt8)(h:c.toNat≠58):gG x (c::r)=none:=by
 simp only[gG,zj (fun e:c=58=>h (by rw[e];rfl))]
def cI (l:List UInt8):Option Ty:=match aK 8 l with
 |some (x,[])=>if x.may then some x else none
 |_=>none
theorem pI :∀(l:List UInt8) (n m:Nat) (r:List UInt8),gR l n=(m,r)->r<:+l
 | [],n,m,r,h=>by simp[gR]at h;rw[<-h.2];exact ZI _
 |b::l,n,m,r,h=>by
  unfold gR at h;split at h
  ·exact(pI l _ m r h).trans (xd b l)
  injection h with h1 h2;rw[<-h2];exact ZI _
theorem uM (n:Nat)(b:UInt8)(h:n<=10000100)(c:b.toNat<=57):fo n b<=10000100:=by unfold fo;split<;>omega
theorem kO (b:UInt8):iU b=true↔48<=b.toNat/\b.toNat<=57:=by simp[iU]
theorem Ez :∀(l:List UInt8) (n m:Nat) (r:List UInt8),gR l n=(m,r)->n<=10000100->m<=10000100
 | [],n,m,r,h,hn=>by simp[gR]at h;omega
 |b::l,n,m,r,h,hn=>by
  unfold gR at h;split at h
  ·rename_i hd
   exact Ez l _ m r h (uM n b hn ((kO b).1 hd).2)
  injection h with h1 h2;omega
theorem qY {l:List UInt8}{n:Nat}{r:List UInt8}(h:cg l=some (n,r)):r<:+l/\r.length<l.length/\n<=10000100:=by
 match l,h with
 | [],h=>simp[cg]at h
 |b::l,h=>
  rw[qX]at h;split at h
  ·cases h
  rename_i e
  split at h
  ·cases h
  injection h with h;have d:=Ez _ _ _ _ h (by omega);unfold gR at h;rw[zl (by simpa using e)]at h;have c:=pI _ _ _ _ h;refine⟨c.trans (xd b l), ?_,d⟩;have:=c.length_le;simp;omega
theorem Bs {acc:List Ty}{l r:List UInt8}(h:Ad acc l=some r):r<:+l:=by
 unfold Ad at h;split at h
 ·injection h with h;rw[h];exact ZI _
 match l,h with
 |c::l,h=>
  simp only at h;split at h
  ·injection h with h;rw[<-h];exact xd c l
  cases h
theorem J2 {l r:List UInt8}{d b:Nat}(h:tQ l d=some (r,b)):r<:+l:=by
 unfold tQ at h;match l,h with
 | [],h=>
  simp only at h;split at h
  ·cases h
  injection h with h;injection h with h _;rw[<-h];exact ZI _
 |c::l,h=>
  simp only at h;split at h
  ·injection h with h;injection h with h _;rw[<-h];exact xd c l
  split at h
  ·cases h
  injection h with h;injection h with h _;rw[<-h];exact ZI _
theorem Bt {p:List UInt8->Option (Ty×List UInt8)}(d:∀l y r,p l=some (y,r)->r<:+l/\r.length<l.length):∀n l acc b y r,fx p n l acc b=some (y,r)->r<:+l/\r.length<l.length
 |0,_,_,_,_,_,h=>by simp[fx]at h
 |n+1,[],_,_,_,_,h=>by simp[fx]at h
 |n+1,c::l,acc,b,y,r,h=>by
  unfold fx at h;split at h
  ·injection h with h;injection h with _ h;rw[<-h];exact⟨xd c l,by simp⟩
  split at h
  ·cases h
  rename_i s j
  split at h
  ·cases h
  rename_i q w e
  split at h
  ·cases h
  rename_i x u k
  have k1:=Bs j;have k2:=J2 e;have o:=d _ _ _ k;have i:=Bt d n _ _ _ _ _ h;have m:=(i.1.trans o.1).trans (k2.trans k1);refine⟨m, ?_⟩;have:=(k2.trans k1).length_le;omega
theorem Bu {x y:Ty}{l r:List UInt8}(h:gG x l=some (y,r)):r<:+l/\r.length<l.length:=by
 unfold gG at h;match l,h with
 |c::l,h=>
  simp only at h;split at h
  ·split at h
   ·cases h
   ·cases h
   rename_i n d b e
   split at h
   ·injection h with h;injection h with _ h;subst h;have k1:=(qY e)
    refine⟨((xd d b).trans k1.1).trans (xd c l), ?_⟩;have:=k1.2.1;simp at this⊢;omega
   cases h
  cases h
theorem gh :∀(f:Nat) (l:List UInt8) (y:Ty) (r:List UInt8),aK f l=some (y,r)->r<:+l/\r.length<l.length
 |0,_,_,_,h=>by simp[aK]at h
 |f+1,[],_,_,h=>by simp[aK]at h
 |f+1,c::l,y,r,h=>by
  have key:∀{m:Nat} {d:List UInt8},cg l=some (m,d)->d<:+c::l/\d.length<(c::l).length:=fun b=>by
   have k:=qY b;exact⟨k.1.trans (xd c l),by have:=k.2.1;simp;omega⟩
  unfold aK at h;split at h
  ·split at h
   ·cases h
   rename_i b
   split at h
   ·injection h with h;injection h with _ h;subst h;exact key b
   cases h
  split at h
  ·split at h
   ·cases h
   rename_i b
   injection h with h;injection h with _ h;subst h;exact key b
  split at h
  ·split at h
   ·cases h
   rename_i b
   injection h with h;injection h with _ h;subst h;exact key b
  split at h
  ·split at h
   ·cases h
   rename_i x d b
   have k1:=gh f _ _ _ b;have k2:=Bu h;exact⟨(k2.1.trans k1.1).trans (xd c l),by have:=k1.2;have:=k2.2;simp;omega⟩
  split at h
  ·have k:=Bt (gh f) _ _ _ _ _ _ h;exact⟨k.1.trans (xd c l),by have:=k.2;simp;omega⟩
  cases h
theorem uN {s:ByteArray}{q:Nat}{r:List UInt8}(e:q<=s.size)(h:r<:+s.data.toList.drop q):s.data.toList.drop (s.size-r.length)=r/\q<=s.size-r.length:=by
 obtain⟨pre,c⟩:=h;have d:=xj List.length c;simp only[zo,zZ,aa]at d;have b:r=(s.data.toList.drop q).drop pre.length:=by rw[<-c,List.drop_left]
 rw[xV]at b;refine⟨?_,by omega⟩;rw[b];congr 1
 rw[zZ,aa];omega
def eL (f:Nat)(s:ByteArray)(R:Option (Ty×List UInt8))(p:Nat)(acc:List Ty)(tl:Nat):Prop:=∃n,fx (aK f) n (s.data.toList.drop p) acc tl=R/\(s.data.toList.drop p).length<n
def OO (f:Nat)(s:ByteArray)(R:Option (Ty×List UInt8))(q:Nat)(acc:List Ty)(tl:Nat):Prop:=∃n,(match aK f (s.data.toList.drop q)with|none=>none|some (y,r')=>fx (aK f) n r' (acc++ [y]) tl)=R/\(s.data.toList.drop q).length<=n
theorem eL.stop {f:Nat}{s:ByteArray}{R:Option (Ty×List UInt8)}{p:Nat}{acc:List Ty}{d:Nat}(h:eL f s R p acc d)(c:s.size<=p):R=none:=by
 obtain⟨n,b,_⟩:=h;rw[zS (by simpa using c)]at b;cases n<;>simp[fx]at b<;>exact b.symm
theorem eL.ends {f:Nat}{s:ByteArray}{R:Option (Ty×List UInt8)}{p:Nat}{acc:List Ty}{c:Nat}(h:eL f s R p acc c)(d:p<s.size)(e:s[p].toNat=125):R=some (.mk 5 0 acc c,s.data.toList.drop (p+1)):=by
 obtain⟨n,b,i⟩:=h;rw[drop_cons s p d,show s[p]=125 from zX.1 e]at b;cases n with
 |zero=>omega
 |succ n=>simp[fx]at b;exact b.symm
theorem eL.open_ {f:Nat}{s:ByteArray}{R:Option (Ty×List UInt8)}{p:Nat}{acc:List Ty}{d:Nat}(h:eL f s R p acc d)(j:p<s.size)(k:s[p].toNat≠125):
 ∃n,(match Ad acc (s.data.toList.drop p)with
  |none=>none
  |some l1=>match tQ l1 d with
   |none=>none
   |some (l2,KW)=>match aK f l2 with
    |none=>none
    |some (y,r')=>fx (aK f) n r' (acc++ [y]) KW)=R/\(s.data.toList.drop p).length<=n:=by
 obtain⟨n,b,c⟩:=h;have i:s[p]≠125:=fun e=>k (by rw[e];rfl)
 match n,b,c with
 |n+1,b,c=>
  refine⟨n, ?_,by omega⟩;rw[drop_cons s p j]at b⊢;simpa only[fx,zj i]using b
theorem eL.bad {f:Nat}{s:ByteArray}{R:Option (Ty×List UInt8)}{p:Nat}{acc:List Ty}{k:Nat}(h:eL f s R p acc k)(c:p<s.size)(l:s[p].toNat≠125)(d:s[p].toNat≠44)(i:acc≠ []):R=none:=by
 obtain⟨n,b,_⟩:=h.open_ c l;have j:s[p]≠44:=fun e=>d (by rw[e];rfl)
 rw[show Ad acc (s.data.toList.drop p)=none by rw[drop_cons s p c];simp[Ad,i,j]]at b;exact b.symm
def qZ (f:Nat)(s:ByteArray)(R:Option (Ty×List UInt8))(q:Nat)(acc:List Ty)(tl:Nat):Prop:=
 ∃n,(match tQ (s.data.toList.drop q) tl with
  |none=>none
  |some (l2,KW)=>match aK f l2 with
   |none=>none
   |some (y,r')=>fx (aK f) n r' (acc++ [y]) KW)=R/\(s.data.toList.drop q).length<=n
theorem eL.first {f:Nat}{s:ByteArray}{R:Option (Ty×List UInt8)}{p:Nat}{c:Nat}(h:eL f s R p [] c)(e:p<s.size)(i:s[p].toNat≠125):qZ f s R p [] c:=by
 obtain⟨n,b,d⟩:=h.open_ e i;rw[show Ad [] (s.data.toList.drop p)=some (s.data.toList.drop p)by simp[Ad]]at b;exact⟨n,b,d⟩
theorem eL.more {f:Nat}{s:ByteArray}{R:Option (Ty×List UInt8)}{p:Nat}{acc:List Ty}{e:Nat}(h:eL f s R p acc e)(b:p<s.size)(k:s[p].toNat=44)(i:acc≠ []):qZ f s R (p+1) acc e:=by
 obtain⟨n,d,c⟩:=h.open_ b (by omega);have j:s[p]=44:=zX.1 k;rw[show Ad acc (s.data.toList.drop p)=some (s.data.toList.drop (p+1))by rw[drop_cons s p b];simp[Ad,i,j]]at d;rw[drop_cons s p b]at c;exact⟨n,d,by simp at c⊢;omega⟩
theorem qZ.mark {f:Nat}{s:ByteArray}{R:Option (Ty×List UInt8)}{q:Nat}{acc:List Ty}{b:Nat}(h:qZ f s R q acc b)(d:q<s.size)(j:s[q].toNat=63):OO f s R (q+1) acc (b+1):=by
 obtain⟨n,e,c⟩:=h;have i:s[q]=63:=zX.1 j;rw[show tQ (s.data.toList.drop q) b=some (s.data.toList.drop (q+1),b+1)by rw[drop_cons s q d];simp[tQ,i]]at e;rw[drop_cons s q d]at c;exact⟨n,e,by simp at c⊢;omega⟩
theorem qZ.none_ {f:Nat}{s:ByteArray}{R:Option (Ty×List UInt8)}{q:Nat}{acc:List Ty}{c:Nat}(h:qZ f s R q acc c)(k:∀b:q<s.size,s[q].toNat≠63)(d:0<c):R=none:=by
 obtain⟨n,i,l⟩:=h;rw[show tQ (s.data.toList.drop q) c=none by
  by_cases b:q<s.size
  ·have j:s[q]≠63:=fun e=>k b (by rw[e];rfl)
   rw[drop_cons s q b];simp[tQ,j,d]
  rw[zS (by simp;omega)];simp[tQ,d]]at i
 exact i.symm
theorem qZ.plain {f:Nat}{s:ByteArray}{R:Option (Ty×List UInt8)}{q:Nat}{acc:List Ty}(h:qZ f s R q acc 0)(j:∀b:q<s.size,s[q].toNat≠63):OO f s R q acc 0:=by
 obtain⟨n,c,d⟩:=h;rw[show tQ (s.data.toList.drop q) 0=some (s.data.toList.drop q,0)by
  by_cases b:q<s.size
  ·have i:s[q]≠63:=fun e=>j b (by rw[e];rfl)
   rw[drop_cons s q b];simp[tQ,i]
  rw[zS (by simp;omega)];simp[tQ]]at c
 exact⟨n,c,d⟩
theorem OO.none {f:Nat}{s:ByteArray}{R:Option (Ty×List UInt8)}{q:Nat}{acc:List Ty}{c:Nat}(h:OO f s R q acc c)(d:aK f (s.data.toList.drop q)=none):R=none:=by
 obtain⟨n,b,_⟩:=h;rw[d]at b;exact b.symm
theorem OO.some {f:Nat}{s:ByteArray}{R:Option (Ty×List UInt8)}{q:Nat}{acc:List Ty}{e:Nat}{y:Ty}{r:List UInt8}(h:OO f s R q acc e)(k:q<=s.size)(b:aK f (s.data.toList.drop q)=some (y,r)):
 eL f s R (s.size-r.length) (acc++ [y]) e/\q<s.size-r.length/\s.size-r.length<=s.size:=by
 obtain⟨n,d,i⟩:=h;obtain⟨k1,k2⟩:=gh _ _ _ _ b;have j:(s.data.toList.drop q).length=s.size-q:=by simp
 rw[j]at i k2;rw[b]at d;have c:=(uN k k1).1;exact⟨⟨n,by rw[c];exact d,by rw[c];omega⟩,by omega,by omega⟩
def kP (s:ByteArray)(at_ k m:Nat):Prop:=gR (s.data.toList.drop at_) 0=gR (s.data.toList.drop k) m/\∀j,at_<=j->j<k->∃h:j<s.size,iU s[j]=true
theorem kP.start (s:ByteArray)(at_:Nat):kP s at_ at_ 0:=⟨rfl,by omega⟩
theorem kP.next {s:ByteArray}{at_ k m:Nat}(h:kP s at_ k m)(b:k<s.size)(hd:iU s[k]=true):kP s at_ (k+1) (fo m s[k]):=by
 refine⟨?_,fun j c d=> ?_⟩
 ·rw[h.1,drop_cons s k b,gR,zl hd]
 by_cases e:j=k
 ·subst e;exact⟨b,hd⟩
 exact h.2 j c (by omega)
theorem nD {s:ByteArray}{at_:Nat}(b:∀h:at_<s.size,iU s[at_]=false):cg (s.data.toList.drop at_)=none:=by
 by_cases h:at_<s.size
 ·rw[drop_cons s at_ h];simp[cg,b h]
 rw[zS (by simp;omega)];rfl
theorem nE {s:ByteArray}{at_ k m:Nat}(h:kP s at_ k m)(e:at_+1<k)(hz:∀h:at_<s.size,s[at_].toNat=48):cg (s.data.toList.drop at_)=none:=by
 obtain⟨b,d1⟩:=h.2 at_ (by omega) (by omega);obtain⟨c,d2⟩:=h.2 (at_+1) (by omega) e;have d:s[at_]=48:=zX.1 (hz b);rw[drop_cons s at_ b,drop_cons s (at_+1) c];simp[cg,d,mC,d2]
theorem j4 {s:ByteArray}{at_ k m:Nat}(h:kP s at_ k m)(n:at_<k)(j:∀h:k<s.size,iU s[k]=false)(hz:at_+1<k->∀h:at_<s.size,s[at_].toNat≠48):cg (s.data.toList.drop at_)=some (m,s.data.toList.drop k):=by
 obtain⟨l,d1⟩:=h.2 at_ (by omega) n;have e:gR (s.data.toList.drop k) m=(m,s.data.toList.drop k):=by
  by_cases d:k<s.size
  ·rw[drop_cons s k d,gR,zj (by rw[j d];simp)]
  rw[zS (by simp;omega)];rfl
 have i:=h.1;rw[e]at i;rw[drop_cons s at_ l]at i⊢;rw[qX,zj (by simp[d1]),zj,i];rintro⟨c,hd⟩;have b:at_+1<k\/k=at_+1:=by omega
 rcases b with b|b
 ·exact hz b l (by rw[c];rfl)
 subst b;by_cases d:at_+1<s.size
 ·rw[drop_cons s (at_+1) d]at hd;simp[mC,j d]at hd
 rw[zS (by simp;omega)]at hd;simp[mC]at hd
theorem pJ {s:ByteArray}{q n:Nat}{r:List UInt8}(e:q<=s.size)(h:cg (s.data.toList.drop q)=some (n,r)):s.data.toList.drop (s.size-r.length)=r/\q<s.size-r.length/\s.size-r.length<=s.size/\n<=10000100:=by
 obtain⟨d,c,b⟩:=qY h;obtain⟨k1,k2⟩:=uN e d;simp at c;exact⟨k1,by omega,by omega,b⟩
def gj :List UInt8->Bool
 | []=>false
 |b::_=>b==0
def Ty.at (t:Ty)(i:Nat):Ty:=(t.sub[if t.kind=4 then 0 else i]?).getD (.mk 0 0 [] 0)
def nR (t:Ty)(tx:ByteArray)(l:Bool)(m:Nat):Bool:=
 if t.kind=1 then !l&&decide ((tx.size:Int)<=t.size)&& !gj tx.data.toList
 else if t.kind=2 then !l&&decide ((tx.size:Int)=t.size)
 else if t.kind=3 then !l&&decide ((tx.size:Int)<=t.size)
 else if t.kind=4 then l&&decide ((m:Int)<=t.size)
 else l&&decide (m<=t.sub.length)&&decide ((t.sub.length:Int)-t.tail<=m)
mutual
def It.dj :It->Ty->Bool
 | .mk tx l s,t=>nR t tx l s.length&&cR s t 0
def cR :List It->Ty->Nat->Bool
 | [],_,_=>true
 |x::xs,t,i=>x.dj (t.at i)&&cR xs t (i+1)
end
theorem pK (a b:List It)(t:Ty)(i:Nat):cR (a++b) t i=(cR a t i&&cR b t (i+a.length)):=by
 induction a generalizing i with
 |nil=>simp[cR]
 |cons x xs ih=>simp only[ya,cR,ih,zB,Bool.and_assoc];rw[show i+1+xs.length=i+(xs.length+1)from by omega]
theorem oF {s:List It}{k:Nat}{t:Ty}(h:k<s.length):cR (s.take (k+1)) t 0=(cR (s.take k) t 0&&s[k].dj (t.at k)):=by
 rw[gB s k h,pK];simp[cR,yK (Yt h)]
theorem ss {s:List It}{k:Nat}{t:Ty}(h:k<s.length)(c:s[k].dj (t.at k)=false):cR s t 0=false:=by
 have b:=pK (s.take (k+1)) (s.drop (k+1)) t 0;rw[zL,oF h,c]at b;simpa using b
def SO (n:Nat):ByteArray:=⟨(List.replicate n 0).toArray⟩
mutual
def Ty.zero :Ty->It
 | .mk k s l t=>if k=2 then .mk (SO s.toNat) false []else if k=4 then .mk ⟨#[]⟩ true []else if k=5 then .mk ⟨#[]⟩ true (UI l ((l.length:Int)-t).toNat)else .mk ⟨#[]⟩ false []
def UI :List Ty->Nat->List It
 | [],_=> []
 |_::_,0=> []
 |x::xs,n+1=>x.zero::UI xs n
end
def Ty.kept (t:Ty):Nat:=if t.kind=5 then((t.sub.length:Int)-t.tail).toNat else 0
theorem OP {t:Ty}(h:t.may=true):t.count<=64/\t.deep<=8/\t.right=true:=by
 unfold Ty.may at h;simp only[zF,yk]at h;exact⟨h.1.1,h.1.2,h.2⟩
theorem ju {k s:Int}{l:List Ty}{t:Int}(h:(Ty.mk k s l t).right=true):fS k s l.length t=true/\bK l=true:=by
 simpa only[Ty.right,zF]using h
theorem lu {k s:Int}{n:Nat}{t:Int}(h:fS k s n t=true):
 (k=1/\(s=1\/s=2\/s=4\/s=8)/\n=0/\t=0)\/(k=2/\1<=s/\s<=65536/\n=0/\t=0)\/(k=3/\0<=s/\s<=65536/\n=0/\t=0)\/(k=4/\0<=s/\s<=1024/\n=1/\t=0)\/(k=5/\s=0/\n<=16/\0<=t/\t<=n):=by
 unfold fS at h;split at h
 ·exact .inl ⟨by assumption,by simpa using h⟩
 split at h
 ·exact .inr (.inl ⟨by assumption,by simpa using h⟩)
 split at h
 ·exact .inr (.inr (.inl ⟨by assumption,by simpa using h⟩))
 split at h
 ·exact .inr (.inr (.inr (.inl ⟨by assumption,by simpa using h⟩)))
 split at h
 ·exact .inr (.inr (.inr (.inr ⟨by assumption,by simpa using h⟩)))
 cases h
mutual
def Ty.wide :Ty->Bool
 | .mk k s l _=>(decide (k=2)&&decide (3000<s))||UJ l
def UJ :List Ty->Bool
 | []=>false
 |x::xs=>x.wide||UJ xs
end
def eI (ty:Ty)(x:It):Int:=if ty.may&&x.may then(if x.dj ty then 0 else 12)else 1
mutual
def It.gP :It->Nat->Nat->Nat->Bool×Nat×Nat
 | .mk t l s,lv,c,d=>if 16<lv\/c=1024\/formed t l s.length=false then(false,c,d)else fU s (lv+1) (c+1) (max d lv)
def fU :List It->Nat->Nat->Nat->Bool×Nat×Nat
 | [],_,c,d=>(true,c,d)
 |x::xs,lv,c,d=>if(x.gP lv c d).1 then fU xs lv (x.gP lv c d).2.1 (x.gP lv c d).2.2 else(false,(x.gP lv c d).2.1,(x.gP lv c d).2.2)
end
theorem su (a b:List It)(e c d:Nat):fU (a++b) e c d=if(fU a e c d).1 then fU b e (fU a e c d).2.1 (fU a e c d).2.2 else(false,(fU a e c d).2.1,(fU a e c d).2.2):=by
 induction a generalizing c d with
 |nil=>simp[fU]
 |cons x xs ih=>
  by_cases h:(x.gP e c d).1=true
  ·simp only[ya,fU,h,xS,ih]
  simp[fU,h]
theorem Bv {s:List It}{k e c d j i:Nat}(h:k<s.length)(l:fU (s.take k) e c d=(true,j,i)):fU (s.take (k+1)) e c d=s[k].gP e j i:=by
 rw[gB s k h,su,l];simp only[xS,fU];by_cases b:(s[k].gP e j i).1=true
 ·rw[zl b,<-b]
 rw[zj b];simp only[Bool.not_eq_true]at b;rw[<-b]
theorem LU {s:List It}{k b c d l e m i:Nat}(h:k<s.length)(n:fU (s.take k) b c d=(true,l,e))(o:s[k].gP b l e=(false,m,i)):fU s b c d=(false,m,i):=by
 have j:=su (s.take (k+1)) (s.drop (k+1)) b c d;rw[zL,Bv h n,o]at j;simpa using j
def OQ (x:It):Prop:=∀lv c d,1<=lv->c<=1024->(((x.gP lv c d).1=true↔x.right=true/\lv+x.deep<=17/\c+x.count<=1024)/\((x.gP lv c d).1=true->(x.gP lv c d).2=(c+x.count,max d (lv-1+x.deep)))/\(x.gP lv c d).2.1<=1024/\(x.gP lv c d).2.2<=max d 16)
theorem SQ (s:List It)(o:∀x∈s,OQ x):∀h c d,1<=h->c<=1024->(((fU s h c d).1=true↔dg s=true/\(s= []\/h+cD s<=17)/\c+aH s<=1024)/\((fU s h c d).1=true->(fU s h c d).2=(c+aH s,if s= []then d else max d (h-1+cD s)))/\(fU s h c d).2.1<=1024/\(fU s h c d).2.2<=max d 16):=by
 induction s with
 |nil=>intro h c d k j;simp[fU,dg,aH,j];omega
 |cons x xs F9=>
  intro h c d k j;obtain⟨n,q,z,p⟩:=o x (by simp) h c d k j;by_cases i:(x.gP h c d).1=true
  ·have w:=q i;have m:=n.1 i;obtain⟨g1,g2,g3,g4⟩:=F9 (fun y u=>o y (by simp[u])) h (c+x.count) (max d (h-1+x.deep)) k m.2.2;simp only[fU,i,xS,w];simp only[dg,aH,cD,zF,m.1,true_and];refine⟨?_, ?_,g3,by omega⟩
   ·rw[g1];constructor
    ·rintro⟨a,b,e⟩;refine⟨a,.inr ?_,by omega⟩;rcases b with rfl|b
     ·simp[cD];omega
     omega
    rintro⟨a,b,e⟩;refine⟨a, ?_,by omega⟩;rcases b with b|b
    ·cases b
    exact .inr (by omega)
   intro r;rw[g2 r];by_cases l:xs= []
   ·subst l;simp[cD,aH]
   simp only[l,Zr];simp;omega
  simp only[fU,i];refine⟨?_,by simp,by simpa using z,by simpa using p⟩;simp only[Bool.false_eq_true,Zr,false_iff];rintro⟨a,b,e⟩;simp only[dg,aH,cD,zF]at a b e;exact i (n.2 ⟨a.1,by rcases b with b|b;cases b;omega,by omega⟩)
theorem Ho (x:It):OQ x:=by
 induction x using It.ind with
 |h t l s ih=>
  intro j c d p o;by_cases i:16<j\/c=1024\/formed t l s.length=false
  ·simp only[It.gP,zl i,It.right,It.deep,It.count];refine⟨?_,by simp,o,by omega⟩;simp only[Bool.false_eq_true,false_iff,zF];rintro⟨⟨a,_⟩,b,e⟩;rcases i with h|h|h
   ·omega
   ·omega
   rw[h]at a;cases a
  obtain⟨n1,n2,m⟩:¬16<j/\¬c=1024/\¬formed t l s.length=false:=by
   refine⟨fun h=>i (.inl h),fun h=>i (.inr (.inl h)),fun h=>i (.inr (.inr h))⟩
  obtain⟨g1,g2,g3,g4⟩:=SQ s ih (j+1) (c+1) (max d j) (by omega) (by omega);simp only[It.gP,zj i,It.right,It.deep,It.count];simp only[Bool.not_eq_false]at m;refine⟨?_, ?_,g3,by omega⟩
  ·rw[g1,m];simp only[Bool.true_and];constructor
   ·rintro⟨a,b,e⟩;refine⟨a, ?_,by omega⟩;rcases b with rfl|b
    ·simp[cD];omega
    omega
   rintro⟨a,b,e⟩;exact⟨a,.inr (by omega),by omega⟩
  intro n;rw[g2 n];by_cases k:s= []
  ·subst k;simp[cD,aH];omega
  simp only[k,Zr];simp;omega
theorem SR (x:It):(x.gP 1 0 0).1=x.may:=by
 have h:=(Ho x 1 0 0 (by omega) (by omega)).1;rw[yY,h];simp only[It.may,zF,yk,zQ];constructor
 ·rintro⟨a,b,c⟩;exact⟨⟨a,by omega⟩,c⟩
 rintro⟨⟨a,b⟩,c⟩;exact⟨a,by omega,c⟩
def fI (x:It)(D M:Int):Int:=if x.may=false then 1 else if D<x.deep then 6 else if M<x.count then 4 else 0
theorem mF {b:ByteArray}{l:Bool}{s:List It}(h:(It.mk b l s).right=true):formed b l s.length=true/\dg s=true:=by
 simpa only[It.right,zF]using h
theorem jv {t:ByteArray}{l:Bool}{s:List It}(h:(It.mk t l s).right=true)(k:Nat)(b:k<s.length):s[k].right=true:=by
 simp only[It.right,zF]at h;have:∀s:List It,dg s=true->∀(k:Nat) (b:k<s.length),s[k].right=true:=by
  intro s;induction s with
  |nil=>intro _ k b;simp at b
  |cons x xs ih=>
   intro h k b;simp only[dg,zF]at h;cases k with
   |zero=>exact h.1
   |succ k=>simpa using ih h.2 k (by simpa using b)
 exact this s h.2 k b
def hxd (n:Nat):UInt8:=if n<10 then UInt8.ofNat (48+n)else UInt8.ofNat (87+n)
def hx (b:UInt8):List UInt8:= [hxd (b.toNat/16),hxd (b.toNat%16)]
mutual
def It.total :It->Nat
 | .mk t _ s=>t.size+lx s
def lx :List It->Nat
 | []=>0
 |x::xs=>x.total+lx xs
end
theorem EA (s:List It)(b:∀x∈s,x.oB=min x.total 10000):∀n,n<=10000->gC s n=min (n+lx s) 10000:=by
 induction s with
 |nil=>intro n c;simp[gC,lx];omega
 |cons x xs F9=>
  intro n c;have d:=b x (by simp);simp only[gC,lx];rw[F9 (fun y e=>b y (by simp[e])) _ (by omega),d];omega
theorem Hp (x:It):x.oB=min x.total 10000:=by
 induction x using It.ind with
 |h t l s ih=>
  simp only[It.oB,It.total];rw[EA s ih _ (by omega)];omega
def dY (L:Nat)(t:Ty):Prop:=t.right=false\/L<t.count
theorem Bw {p:List UInt8->Option (Ty×List UInt8)}:∀(n:Nat) (l:List UInt8) (acc:List Ty) (b:Nat) (t:Ty) (r:List UInt8),fx p n l acc b=some (t,r)->∃(more:List Ty) (d:Nat),t= .mk 5 0 (acc++more) d
 |0,_,_,_,_,_,h=>by simp[fx]at h
 |n+1,[],_,_,_,_,h=>by simp[fx]at h
 |n+1,c::l,acc,b,t,r,h=>by
  unfold fx at h;split at h
  ·injection h with h;injection h with h _;exact⟨[],b,by rw[<-h,xy]⟩
  split at h
  ·cases h
  split at h
  ·cases h
  rename_i j d _
  split at h
  ·cases h
  rename_i y k _
  obtain⟨more,i,e⟩:=Bw n _ _ _ _ _ h;exact⟨y::more,i,by rw[e,zI,ZF]⟩
theorem uO {s:List Ty}(h:bK s=true):∀x∈s,x.right=true:=fun x hx=>by
 obtain⟨j,b,rfl⟩:=xg hx;exact dP h j b
theorem uP {k z:Int}{l:List Ty}{b:Int}(h:(Ty.mk k z l b).right=true):bK l=true:=by
 simp only[Ty.right,zF]at h;exact h.2
theorem dY.sub {L:Nat}{y:Ty}(h:dY L y)(acc more:List Ty)(c:Int):dY (1+aZ acc+L) (.mk 5 0 (acc++ [y]++more) c):=by
 rcases h with h|h
 ·left;rw[ZD];intro b;have:=uO (uP b) y (by simp);rw[h]at this;cases this
 right;simp only[Ty.count,fH,aZ];omega
theorem dY.list {L:Nat}{x:Ty}(h:dY L x)(n:Int):dY (1+L) (.mk 4 n [x] 0):=by
 rcases h with h|h
 ·left;rw[ZD];intro b;have:=uO (uP b) x (by simp);rw[h]at this;cases this
 right;simp only[Ty.count,aZ];omega
theorem dY.mono {L L':Nat}{t:Ty}(h:dY L t)(b:L'<=L):dY L' t:=h.imp id (fun h=>Nat.lt_of_le_of_lt b h)
theorem dY.may {t:Ty}(h:dY 64 t):t.may=false:=by
 rw[ZD];intro b;simp only[Ty.may,zF,yk]at b;rcases h with h|h
 ·rw[h]at b;exact absurd b.2 (by simp)
 omega
theorem Hr (n:Nat)(b:UInt8):n<=fo n b:=by unfold fo;split<;>omega
theorem EB :∀(l:List UInt8) (n:Nat),n<=(gR l n).1
 | [],n=>zi _
 |b::l,n=>by
  unfold gR;split
  ·exact zP (Hr n b) (EB l _)
  exact zi _
theorem LV {s:ByteArray}{at_ k m:Nat}(h:kP s at_ k m)(n:Nat)(r:List UInt8)(c:cg (s.data.toList.drop at_)=some (n,r)):m<=n:=by
 have e:gR (s.data.toList.drop at_) 0=(n,r):=by
  generalize s.data.toList.drop at_=l at*;match l,c with
  | [],c=>simp[cg]at c
  |b::l,c=>
   rw[qX]at c;split at c
   ·cases c
   split at c
   ·cases c
   injection c
 rw[h.1]at e;have:=EB (s.data.toList.drop k) m;rw[e]at this;exact this
def n7 (most:Nat)(s:ByteArray)(p:Nat)(n:Nat)(ok:Bool)(q:Nat):Prop:=
 (ok=true->cg (s.data.toList.drop p)=some (n,s.data.toList.drop q)/\n<=most/\p<q)/\(ok=false->∀n' r,cg (s.data.toList.drop p)=some (n',r)->most<n')/\q<=s.size/\n<=most
theorem EC {most:Nat}{s:ByteArray}{p n q:Nat}(h:∀b r,cg (s.data.toList.drop p)=some (b,r)->most<b)(d:q<=s.size)(c:n<=most):n7 most s p n false q:=⟨(by intro h;cases h),fun _=>h,d,c⟩
theorem uQ {most:Nat}{s:ByteArray}{p n q:Nat}(h:cg (s.data.toList.drop p)=none)(d:q<=s.size)(c:n<=most):n7 most s p n false q:=EC (by intro e r b;rw[h]at b;cases b) d c
theorem Bx {most:Nat}{s:ByteArray}{p n q:Nat}(h:cg (s.data.toList.drop p)=some (n,s.data.toList.drop q))(b:n<=most)(c:p<q)(d:q<=s.size):n7 most s p n true q:=⟨fun _=>⟨h,b,c⟩,(by intro h;cases h),d,b⟩
theorem pL {k z:Int}{l:List Ty}{b:Int}(L:Nat)(h:fS k z l.length b=false):dY L (.mk k z l b):=by
 left;simp[Ty.right,h]
theorem abt {l:List UInt8}(h:∀c r,cg l=some (c,r)->64<c)(L:Nat)(t:Ty)(r:List UInt8)(b:Ae (cg l)=some (t,r)):dY L t:=by
 cases hn:cg l with
 |none=>rw[hn]at b;cases b
 |some z=>
  obtain⟨n,d⟩:=z;have e:=h n d hn;rw[hn,Ae]at b;split at b
  ·injection b with b;injection b with b _;subst b;refine pL L ?_;unfold fS;simp only[xS];simp;omega
  cases b
theorem abu {l:List UInt8}(h:∀c r,cg l=some (c,r)->65536<c)(L:Nat)(t:Ty)(r:List UInt8)(b:s7 2 (cg l)=some (t,r)):dY L t:=by
 cases hn:cg l with
 |none=>rw[hn]at b;cases b
 |some z=>
  obtain⟨n,d⟩:=z;have e:=h n d hn;rw[hn,s7]at b;injection b with b;injection b with b _;subst b;refine pL L ?_;unfold fS;simp;omega
theorem abv {l:List UInt8}(h:∀c r,cg l=some (c,r)->65536<c)(L:Nat)(t:Ty)(r:List UInt8)(b:s7 3 (cg l)=some (t,r)):dY L t:=by
 cases hn:cg l with
 |none=>rw[hn]at b;cases b
 |some z=>
  obtain⟨n,d⟩:=z;have e:=h n d hn;rw[hn,s7]at b;injection b with b;injection b with b _;subst b;refine pL L ?_;unfold fS;simp;omega
theorem LW {l:List UInt8}(h:∀e r,cg l=some (e,r)->1024<e)(L:Nat)(x t:Ty)(r:List UInt8)(b:iL x (cg l)=some (t,r)):dY L t:=by
 cases hn:cg l with
 |none=>rw[hn]at b;cases b
 |some z=>
  obtain⟨n,c⟩:=z;have i:=h n c hn;rw[hn]at b;cases c with
  |nil=>cases b
  |cons d c=>
   rw[iL]at b;split at b
   ·injection b with b;injection b with b _;subst b;refine pL L ?_;unfold fS;simp;omega
   cases b
theorem Hs {x:Ty}{o:Option (Nat×List UInt8)}{t:Ty}{r:List UInt8}(h:iL x o=some (t,r)):∃n:Nat,t= .mk 4 n [x] 0:=by
 match o,h with
 |some (n,d::r'),h=>
  rw[iL]at h;split at h
  ·injection h with h;injection h with h _;exact⟨n,h.symm⟩
  cases h
theorem LY {x:Ty}{l:List UInt8}{t:Ty}{r:List UInt8}(h:gG x l=some (t,r)):∃n:Nat,t= .mk 4 n [x] 0:=by
 match l,h with
 |c::l,h=>
  by_cases b:c=58
  ·subst b;rw[mD]at h;exact Hs h
  rw[uL x c l (fun e=>b (zX.1 e))]at h;cases h
def s8 (f L:Nat)(s:ByteArray)(p:Nat)(t:Ty)(ok:Bool)(q L':Nat):Prop:=
 (ok=true->aK f (s.data.toList.drop p)=some (t,s.data.toList.drop q)/\L'+t.count=L/\p<q)/\(ok=false->∀t' r,aK f (s.data.toList.drop p)=some (t',r)->dY L t')/\q<=s.size
def OR (L:Nat)(s:ByteArray)(R:Option (Ty×List UInt8))(t:Ty)(ok:Bool)(q L':Nat):Prop:=
 (ok=true->R=some (t,s.data.toList.drop q)/\L'+t.count=L)/\(ok=false->∀t' r,R=some (t',r)->dY L t')/\q<=s.size
theorem SS {f:Nat}{s:ByteArray}{R:Option (Ty×List UInt8)}{q L:Nat}{acc:List Ty}{k:Nat}(h:OO f s R q acc k)(e:∀b r,aK f (s.data.toList.drop q)=some (b,r)->dY L b):∀b r,R=some (b,r)->dY (1+aZ acc+L) b:=by
 intro b r d;obtain⟨n,c,_⟩:=h;cases hi:aK f (s.data.toList.drop q)with
 |none=>rw[hi,d]at c;cases c
 |some z=>
  obtain⟨y,j⟩:=z;rw[hi,d]at c;obtain⟨more,i,rfl⟩:=Bw _ _ _ _ _ _ c;exact(e y j hi).sub acc more i
