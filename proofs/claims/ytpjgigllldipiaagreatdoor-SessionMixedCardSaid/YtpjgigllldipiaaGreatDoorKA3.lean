/- A buffer of bytes: copy within it, slices.Clone. -/
import Derived.Test.YtpjgigllldipiaaGreatDoorProg
import Derived.Test.YtpjgigllldipiaaGreatDoorKA1
import Derived.Lib.BufferMore
import Derived.Laws.CopyOwn
set_option linter.all false
set_option maxRecDepth 100000
set_option maxHeartbeats 1000000
namespace Go.Proofs.YtpjgigllldipiaaGreatDoor
open Tryz
open Go.RowKit
def zx:=@underlying31
def zV:=@List.drop_eq_nil_of_le
def zX:=@UInt8.toNat_inj
def zZ:=@List.length_drop
def yT:=@info_parts
def yZ:=@List.getElem_of_mem
def xa:=@List.suffix_cons
def xq:=@List.append_nil
def xE:=@List.getElem?_drop
def Zr:=@if_false
def ZE:=@Bool.eq_false_iff
def ZG:=@List.singleton_append
def ZJ:=@List.suffix_refl
def Ys:=@Nat.le_of_lt
theorem uz :(prog.info? 5).map (fun i=>(i.zero,i.size,i.bytes))=some (some (.int .u8 0),1,1):=by kernel_rfl
theorem oA :(prog.info? 5).map (·.size)=some 1:=by kernel_rfl
theorem bJ.blank (w:World)(base:Nat)(E:TypeId)(b:base<=w.heap.size):bJ (w.alloc (.cells #[] E)) base E (.slice (some ⟨w.heap.size,0,none⟩) 0 0) []:=
 ⟨_,0,rfl,by simp,by simp,.inr ⟨w.heap.size,#[],(0,0),rfl,b,yW w _,rfl,by simp[cb],.inl rfl⟩⟩
theorem Ep (base g n cap:Nat)(l:List UInt8)(w:World)(B:n=l.length)(h:bJ w base 5 (.slice (some ⟨g,0,none⟩) n cap) l)(C:l.length<=1000000):
 Calls prog 84 #[.slice (some ⟨g,0,none⟩) n cap] w fun e w'=>(∃d,e= .returned d/\bJ w' w.heap.size 5 d l/\∃k,d.ownBlock=some k)/\Below w.heap.size w w':=by
 obtain⟨i0,hi,x,r,q⟩:=yT uz;have D:=fun(w:World) (a:Addr) (n c:Nat)=>Lib.run_eql_slice_some_nil (P:=prog) w a n c zx
 have y:=za (h.alloc (.cells #[] 5));have p:=za (bJ.blank w w.heap.size 5 (zf _));clear h;go_enter func84,ntmps84
 go_wp2_with (
  at_builtin
  refine cl (by rfl) (.tmp 5) (.tmp 6) 31 31 (by rfl) w.heap.size 5 i0 zx hi x r q (by rfl) p.out _ l (by rfl) (Jy zx y.out) (by simp) (by simp;omega) ?_;intro o i m w' j b;have u:Hid (bJ w' w.heap.size 5 (.slice o i m) l):=za (by simpa using j);have s:Hid (∃k,(Value.slice o i m).ownBlock=some k):=za (by rcases b.own with e|⟨k,e,_⟩;exact⟨_,e⟩;exact⟨k,e⟩);have z:Hid (Below w.heap.size w w'):=za (l6.below ((zq _ w).alloc (zf _) (.cells #[] 5)) b (by simp) (fun k A=>(p.out.ge k A).1));clear j b)
 go_ret;exact⟨⟨_,rfl,u.out,s.out⟩,z.out⟩
theorem bJ.VL {w:World}{base g n cap k:Nat}{l:List UInt8}(h:bJ w base 5 (.slice (some ⟨g,0,none⟩) n cap) l)(J:k<=l.length):
 ∃W,w.setCells g 0 (cb (l.drop k))=W/\bJ W base 5 (.slice (some ⟨g,0,none⟩) (l.length-k) cap) (l.drop k)/\l6 w W (.slice (some ⟨g,0,none⟩) n cap) (.slice (some ⟨g,0,none⟩) (l.length-k) cap)/\
  (∀j v,(cb (l.drop k))[j]?=some v->w.cell? ((⟨g,k,none⟩:Addr).add j)=some v)/\(∀j,j<(cb (l.drop k)).length->(w.cell? ⟨g,0+j,none⟩).isSome=true)/\∀j,j<(cb (l.drop k)).length->w.frozen? ⟨g,0+j,none⟩=false:=by
 have m:=fun j (b:j<l.length)=>h.at_ (k:=j) b
 obtain⟨G,M,D,K,z,o⟩:=h;injection D with c hn hc;subst c;subst hc;subst hn;rcases o with⟨o,_⟩|⟨I,y,x,c,q,s,F,H,C⟩
 ·cases o
 injection c with c;injection c with c;subst c;have i:(l.drop k).length=l.length-k:=zZ;have r:(cb (l.drop k)).length=l.length-k:=by rw[bq,i]
 obtain⟨B,u,L,p⟩:=ib (cb (l.drop k)) 0 w y s (by omega);refine⟨_,rfl,⟨_,cap,by rw[i],by rw[i];omega,z,.inr ⟨g,B,x,rfl,q,u,by omega, ?_,C⟩⟩,⟨⟨World.os_setCells _ _ _ _,kf _ _ _ _,Yy _ _ _ _,by rw[ic];exact zf _,fun j b E=>Z9 w g 0 _ b (fun e=>E (by subst e;rfl))⟩,.inl rfl⟩, ?_, ?_, ?_⟩
 ·rw[zT,r]at p;rw[i,p];simp
 ·intro j v d;rw[Ed,xE]at d;have b:k+j<l.length:=by
   rcases Zl (k+j) l.length with h|h
   ·exact h
   rw[xh h]at d;cases d
  have A:(⟨g,k,none⟩:Addr).add j=⟨g,k+j,none⟩:=by unfold Addr.add;split<;>simp_all
  rw[A,(m (k+j) b).1,zA];rw[zB b]at d⊢;simpa using d
 ·intro j b;rw[zT,(m j (by omega)).1];rfl
 intro j b;rw[zT];exact(m j (by omega)).2.1
def iO (b:UInt8):Bool:=decide (48<=b.toNat)&&decide (b.toNat<=57)
def fa (n:Nat)(b:UInt8):Nat:=if n<1000000 then 10*n+(b.toNat-48)else n
def gM :List UInt8->Nat->Nat×List UInt8
 | [],n=>(n,[])
 |b::r,n=>if iO b then gM r (fa n b)else(n,b::r)
def mw :List UInt8->Bool
 | []=>false
 |b::_=>iO b
def cc :List UInt8->Option (Nat×List UInt8)
 | []=>none
 |b::r=>if iO b=false then none else if b=48/\mw r=true then none else some (gM (b::r) 0)
theorem qR (b:UInt8)(r:List UInt8):cc (b::r)=if iO b=false then none else if b=48/\mw r=true then none else some (gM (b::r) 0):=rfl
def wS (acc:List Ty)(l:List UInt8):Option (List UInt8):=
 if acc= []then some l else match l with
  | []=>none
  |c::r=>if c=44 then some r else none
def tQ (l:List UInt8)(tl:Nat):Option (List UInt8×Nat):=match l with
 | []=>if 0<tl then none else some ([],tl)
 |c::r=>if c=63 then some (r,tl+1)else if 0<tl then none else some (c::r,tl)
def fg (p:List UInt8->Option (Ty×List UInt8)):Nat->List UInt8->List Ty->Nat->Option (Ty×List UInt8)
 |0,_,_,_=>none
 |_+1,[],_,_=>none
 |n+1,c::r,acc,tl=>
  if c=125 then some (.mk 5 0 acc tl,r)
  else match wS acc (c::r)with
   |none=>none
   |some l1=>match tQ l1 tl with
    |none=>none
    |some (l2,KA)=>match p l2 with
     |none=>none
     |some (y,r')=>fg p n r' (acc++ [y]) KA
def gC (x:Ty):List UInt8->Option (Ty×List UInt8)
 | []=>none
 |c::r=>if c=58 then(match cc r with
  |none=>none
  |some (_,[])=>none
  |some (n,d::r')=>if d=93 then some (.mk 4 n [x] 0,r')else none)else none
def aK :Nat->List UInt8->Option (Ty×List UInt8)
 |0,_=>none
 |_+1,[]=>none
 |f+1,c::r=>
  if c=117 then(match cc r with|none=>none|some (n,r')=>if n%8=0 then some (.mk 1 ((n/8:Nat):Int) [] 0,r')else none)
  else if c=98 then(match cc r with|none=>none|some (n,r')=>some (.mk 2 n [] 0,r'))
  else if c=115 then(match cc r with|none=>none|some (n,r')=>some (.mk 3 n [] 0,r'))
  else if c=91 then(match aK f r with|none=>none|some (x,r')=>gC x r')
  else if c=123 then fg (aK f) (r.length+1) r [] 0
  else none
def wT :Option (Nat×List UInt8)->Option (Ty×List UInt8)
 |none=>none
 |some (n,r)=>if n%8=0 then some (.mk 1 ((n/8:Nat):Int) [] 0,r)else none
def sW (k:Int):Option (Nat×List UInt8)->Option (Ty×List UInt8)
 |none=>none
 |some (n,r)=>some (.mk k n [] 0,r)
def uA (o:Option (Ty×List UInt8)):Option (Ty×List UInt8):=match o with
 |none=>none
 |some (x,r)=>gC x r
theorem JA (f:Nat)(r:List UInt8):aK (f+1) (117::r)=wT (cc r):=by
 simp only[aK,xO];cases cc r<;>rfl
theorem JB (f:Nat)(r:List UInt8):aK (f+1) (98::r)=sW 2 (cc r):=by
 simp only[aK,zj (show¬(98:UInt8)=117 by decide),xO];cases cc r<;>rfl
theorem JC (f:Nat)(r:List UInt8):aK (f+1) (115::r)=sW 3 (cc r):=by
 simp only[aK,zj (show¬(115:UInt8)=117 by decide),zj (show¬(115:UInt8)=98 by decide),xO];cases cc r<;>rfl
theorem JD (f:Nat)(r:List UInt8):aK (f+1) (91::r)=uA (aK f r):=by
 simp only[aK,zj (show¬(91:UInt8)=117 by decide),zj (show¬(91:UInt8)=98 by decide),zj (show¬(91:UInt8)=115 by decide),xO];cases aK f r<;>rfl
theorem JE (f:Nat)(r:List UInt8):aK (f+1) (123::r)=fg (aK f) (r.length+1) r [] 0:=by
 simp only[aK,zj (show¬(123:UInt8)=117 by decide),zj (show¬(123:UInt8)=98 by decide),zj (show¬(123:UInt8)=115 by decide),zj (show¬(123:UInt8)=91 by decide),xO]
theorem Er (f:Nat)(c:UInt8)(r:List UInt8)(i:c.toNat≠117)(l:c.toNat≠98)(j:c.toNat≠115)(d:c.toNat≠91)(b:c.toNat≠123):aK (f+1) (c::r)=none:=by
 have k:∀n:UInt8,c.toNat≠n.toNat->¬c=n:=fun n h e=>h (by rw[e])
 simp only[aK,zj (k 117 i),zj (k 98 l),zj (k 115 j),zj (k 91 d),zj (k 123 b)]
def iE (x:Ty):Option (Nat×List UInt8)->Option (Ty×List UInt8)
 |none=>none
 |some (_,[])=>none
 |some (n,d::r')=>if d.toNat=93 then some (.mk 4 n [x] 0,r')else none
theorem my (x:Ty)(r:List UInt8):gC x (58::r)=iE x (cc r):=by
 simp only[gC,xO];cases cc r with
 |none=>rfl
 |some z=>
  obtain⟨n,b⟩:=z;cases b with
  |nil=>rfl
  |cons d b=>
   simp only[iE];by_cases h:d=93
   ·subst h;rfl
   have c:¬d.toNat=93:=fun e=>h (zX.1 e)
   simp[h,c]
theorem uB (x:Ty)(c:UInt8)(r:List UInt8)(h:c.toNat≠58):gC x (c::r)=none:=by
 simp only[gC,zj (fun e:c=58=>h (by rw[e];rfl))]
def cI (l:List UInt8):Option Ty:=match aK 8 l with
 |some (x,[])=>if x.may then some x else none
 |_=>none
theorem pB :∀(l:List UInt8) (n m:Nat) (r:List UInt8),gM l n=(m,r)->r<:+l
 | [],n,m,r,h=>by simp[gM]at h;rw[<-h.2];exact ZJ _
 |b::l,n,m,r,h=>by
  unfold gM at h;split at h
  ·exact(pB l _ m r h).trans (xa b l)
  injection h with h1 h2;rw[<-h2];exact ZJ _
theorem uC (n:Nat)(b:UInt8)(h:n<=10000100)(c:b.toNat<=57):fa n b<=10000100:=by unfold fa;split<;>omega
theorem kI (b:UInt8):iO b=true↔48<=b.toNat/\b.toNat<=57:=by simp[iO]
theorem Es :∀(l:List UInt8) (n m:Nat) (r:List UInt8),gM l n=(m,r)->n<=10000100->m<=10000100
 | [],n,m,r,h,hn=>by simp[gM]at h;omega
 |b::l,n,m,r,h,hn=>by
  unfold gM at h;split at h
  ·rename_i hd
   exact Es l _ m r h (uC n b hn ((kI b).1 hd).2)
  injection h with h1 h2;omega
theorem qS {l:List UInt8}{n:Nat}{r:List UInt8}(h:cc l=some (n,r)):r<:+l/\r.length<l.length/\n<=10000100:=by
 match l,h with
 | [],h=>simp[cc]at h
 |b::l,h=>
  rw[qR]at h;split at h
  ·cases h
  rename_i d
  split at h
  ·cases h
  injection h with h;have e:=Es _ _ _ _ h (by omega);unfold gM at h;rw[zl (by simpa using d)]at h;have c:=pB _ _ _ _ h;refine⟨c.trans (xa b l), ?_,e⟩;have:=c.length_le;simp;omega
theorem Bl {acc:List Ty}{l r:List UInt8}(h:wS acc l=some r):r<:+l:=by
 unfold wS at h;split at h
 ·injection h with h;rw[h];exact ZJ _
 match l,h with
 |c::l,h=>
  simp only at h;split at h
  ·injection h with h;rw[<-h];exact xa c l
  cases h
theorem JF {l r:List UInt8}{b d:Nat}(h:tQ l b=some (r,d)):r<:+l:=by
 unfold tQ at h;match l,h with
 | [],h=>
  simp only at h;split at h
  ·cases h
  injection h with h;injection h with h _;rw[<-h];exact ZJ _
 |c::l,h=>
  simp only at h;split at h
  ·injection h with h;injection h with h _;rw[<-h];exact xa c l
  split at h
  ·cases h
  injection h with h;injection h with h _;rw[<-h];exact ZJ _
theorem Bm {p:List UInt8->Option (Ty×List UInt8)}(d:∀l y r,p l=some (y,r)->r<:+l/\r.length<l.length):∀n l acc b y r,fg p n l acc b=some (y,r)->r<:+l/\r.length<l.length
 |0,_,_,_,_,_,h=>by simp[fg]at h
 |n+1,[],_,_,_,_,h=>by simp[fg]at h
 |n+1,c::l,acc,b,y,r,h=>by
  unfold fg at h;split at h
  ·injection h with h;injection h with _ h;rw[<-h];exact⟨xa c l,by simp⟩
  split at h
  ·cases h
  rename_i s k
  split at h
  ·cases h
  rename_i u x o
  split at h
  ·cases h
  rename_i w q m
  have k1:=Bl k;have k2:=JF o;have e:=d _ _ _ m;have j:=Bm d n _ _ _ _ _ h;have i:=(j.1.trans e.1).trans (k2.trans k1);refine⟨i, ?_⟩;have:=(k2.trans k1).length_le;omega
theorem Bn {x y:Ty}{l r:List UInt8}(h:gC x l=some (y,r)):r<:+l/\r.length<l.length:=by
 unfold gC at h;match l,h with
 |c::l,h=>
  simp only at h;split at h
  ·split at h
   ·cases h
   ·cases h
   rename_i n d e b
   split at h
   ·injection h with h;injection h with _ h;subst h;have k1:=(qS b)
    refine⟨((xa d e).trans k1.1).trans (xa c l), ?_⟩;have:=k1.2.1;simp at this⊢;omega
   cases h
  cases h
theorem fX :∀(f:Nat) (l:List UInt8) (y:Ty) (r:List UInt8),aK f l=some (y,r)->r<:+l/\r.length<l.length
 |0,_,_,_,h=>by simp[aK]at h
 |f+1,[],_,_,h=>by simp[aK]at h
 |f+1,c::l,y,r,h=>by
  have key:∀{m:Nat} {d:List UInt8},cc l=some (m,d)->d<:+c::l/\d.length<(c::l).length:=fun b=>by
   have k:=qS b;exact⟨k.1.trans (xa c l),by have:=k.2.1;simp;omega⟩
  unfold aK at h;split at h
  ·split at h
   ·cases h
   rename_i b
   split at h
   ·injection h with h;injection h with _ h;subst h;exact key b
   cases h
  split at h
  ·split at h
   ·cases h
   rename_i b
   injection h with h;injection h with _ h;subst h;exact key b
  split at h
  ·split at h
   ·cases h
   rename_i b
   injection h with h;injection h with _ h;subst h;exact key b
  split at h
  ·split at h
   ·cases h
   rename_i x d b
   have k1:=fX f _ _ _ b;have k2:=Bn h;exact⟨(k2.1.trans k1.1).trans (xa c l),by have:=k1.2;have:=k2.2;simp;omega⟩
  split at h
  ·have k:=Bm (fX f) _ _ _ _ _ _ h;exact⟨k.1.trans (xa c l),by have:=k.2;simp;omega⟩
  cases h
theorem uD {s:ByteArray}{q:Nat}{r:List UInt8}(e:q<=s.size)(h:r<:+s.data.toList.drop q):s.data.toList.drop (s.size-r.length)=r/\q<=s.size-r.length:=by
 obtain⟨pre,b⟩:=h;have d:=xC List.length b;simp only[zp,zZ,aa]at d;have c:r=(s.data.toList.drop q).drop pre.length:=by rw[<-b,List.drop_left]
 rw[xR]at c;refine⟨?_,by omega⟩;rw[c];congr 1
 rw[zZ,aa];omega
def eD (f:Nat)(s:ByteArray)(R:Option (Ty×List UInt8))(p:Nat)(acc:List Ty)(tl:Nat):Prop:=∃n,fg (aK f) n (s.data.toList.drop p) acc tl=R/\(s.data.toList.drop p).length<n
def Oq (f:Nat)(s:ByteArray)(R:Option (Ty×List UInt8))(q:Nat)(acc:List Ty)(tl:Nat):Prop:=∃n,(match aK f (s.data.toList.drop q)with|none=>none|some (y,r')=>fg (aK f) n r' (acc++ [y]) tl)=R/\(s.data.toList.drop q).length<=n
theorem eD.stop {f:Nat}{s:ByteArray}{R:Option (Ty×List UInt8)}{p:Nat}{acc:List Ty}{c:Nat}(h:eD f s R p acc c)(d:s.size<=p):R=none:=by
 obtain⟨n,b,_⟩:=h;rw[zV (by simpa using d)]at b;cases n<;>simp[fg]at b<;>exact b.symm
theorem eD.ends {f:Nat}{s:ByteArray}{R:Option (Ty×List UInt8)}{p:Nat}{acc:List Ty}{c:Nat}(h:eD f s R p acc c)(e:p<s.size)(d:s[p].toNat=125):R=some (.mk 5 0 acc c,s.data.toList.drop (p+1)):=by
 obtain⟨n,b,i⟩:=h;rw[drop_cons s p e,show s[p]=125 from zX.1 d]at b;cases n with
 |zero=>omega
 |succ n=>simp[fg]at b;exact b.symm
theorem eD.open_ {f:Nat}{s:ByteArray}{R:Option (Ty×List UInt8)}{p:Nat}{acc:List Ty}{c:Nat}(h:eD f s R p acc c)(k:p<s.size)(j:s[p].toNat≠125):
 ∃n,(match wS acc (s.data.toList.drop p)with
  |none=>none
  |some l1=>match tQ l1 c with
   |none=>none
   |some (l2,KA)=>match aK f l2 with
    |none=>none
    |some (y,r')=>fg (aK f) n r' (acc++ [y]) KA)=R/\(s.data.toList.drop p).length<=n:=by
 obtain⟨n,b,d⟩:=h;have i:s[p]≠125:=fun e=>j (by rw[e];rfl)
 match n,b,d with
 |n+1,b,d=>
  refine⟨n, ?_,by omega⟩;rw[drop_cons s p k]at b⊢;simpa only[fg,zj i]using b
theorem eD.bad {f:Nat}{s:ByteArray}{R:Option (Ty×List UInt8)}{p:Nat}{acc:List Ty}{i:Nat}(h:eD f s R p acc i)(c:p<s.size)(j:s[p].toNat≠125)(k:s[p].toNat≠44)(l:acc≠ []):R=none:=by
 obtain⟨n,b,_⟩:=h.open_ c j;have d:s[p]≠44:=fun e=>k (by rw[e];rfl)
 rw[show wS acc (s.data.toList.drop p)=none by rw[drop_cons s p c];simp[wS,l,d]]at b;exact b.symm
def qT (f:Nat)(s:ByteArray)(R:Option (Ty×List UInt8))(q:Nat)(acc:List Ty)(tl:Nat):Prop:=
 ∃n,(match tQ (s.data.toList.drop q) tl with
  |none=>none
  |some (l2,KA)=>match aK f l2 with
   |none=>none
   |some (y,r')=>fg (aK f) n r' (acc++ [y]) KA)=R/\(s.data.toList.drop q).length<=n
theorem eD.first {f:Nat}{s:ByteArray}{R:Option (Ty×List UInt8)}{p:Nat}{b:Nat}(h:eD f s R p [] b)(e:p<s.size)(d:s[p].toNat≠125):qT f s R p [] b:=by
 obtain⟨n,c,i⟩:=h.open_ e d;rw[show wS [] (s.data.toList.drop p)=some (s.data.toList.drop p)by simp[wS]]at c;exact⟨n,c,i⟩
theorem eD.more {f:Nat}{s:ByteArray}{R:Option (Ty×List UInt8)}{p:Nat}{acc:List Ty}{c:Nat}(h:eD f s R p acc c)(b:p<s.size)(j:s[p].toNat=44)(k:acc≠ []):qT f s R (p+1) acc c:=by
 obtain⟨n,d,e⟩:=h.open_ b (by omega);have i:s[p]=44:=zX.1 j;rw[show wS acc (s.data.toList.drop p)=some (s.data.toList.drop (p+1))by rw[drop_cons s p b];simp[wS,k,i]]at d;rw[drop_cons s p b]at e;exact⟨n,d,by simp at e⊢;omega⟩
theorem qT.mark {f:Nat}{s:ByteArray}{R:Option (Ty×List UInt8)}{q:Nat}{acc:List Ty}{b:Nat}(h:qT f s R q acc b)(c:q<s.size)(j:s[q].toNat=63):Oq f s R (q+1) acc (b+1):=by
 obtain⟨n,d,e⟩:=h;have i:s[q]=63:=zX.1 j;rw[show tQ (s.data.toList.drop q) b=some (s.data.toList.drop (q+1),b+1)by rw[drop_cons s q c];simp[tQ,i]]at d;rw[drop_cons s q c]at e;exact⟨n,d,by simp at e⊢;omega⟩
theorem qT.none_ {f:Nat}{s:ByteArray}{R:Option (Ty×List UInt8)}{q:Nat}{acc:List Ty}{b:Nat}(h:qT f s R q acc b)(k:∀c:q<s.size,s[q].toNat≠63)(i:0<b):R=none:=by
 obtain⟨n,d,l⟩:=h;rw[show tQ (s.data.toList.drop q) b=none by
  by_cases c:q<s.size
  ·have j:s[q]≠63:=fun e=>k c (by rw[e];rfl)
   rw[drop_cons s q c];simp[tQ,j,i]
  rw[zV (by simp;omega)];simp[tQ,i]]at d
 exact d.symm
theorem qT.plain {f:Nat}{s:ByteArray}{R:Option (Ty×List UInt8)}{q:Nat}{acc:List Ty}(h:qT f s R q acc 0)(i:∀b:q<s.size,s[q].toNat≠63):Oq f s R q acc 0:=by
 obtain⟨n,c,j⟩:=h;rw[show tQ (s.data.toList.drop q) 0=some (s.data.toList.drop q,0)by
  by_cases b:q<s.size
  ·have d:s[q]≠63:=fun e=>i b (by rw[e];rfl)
   rw[drop_cons s q b];simp[tQ,d]
  rw[zV (by simp;omega)];simp[tQ]]at c
 exact⟨n,c,j⟩
theorem Oq.none {f:Nat}{s:ByteArray}{R:Option (Ty×List UInt8)}{q:Nat}{acc:List Ty}{d:Nat}(h:Oq f s R q acc d)(c:aK f (s.data.toList.drop q)=none):R=none:=by
 obtain⟨n,b,_⟩:=h;rw[c]at b;exact b.symm
theorem Oq.some {f:Nat}{s:ByteArray}{R:Option (Ty×List UInt8)}{q:Nat}{acc:List Ty}{b:Nat}{y:Ty}{r:List UInt8}(h:Oq f s R q acc b)(j:q<=s.size)(c:aK f (s.data.toList.drop q)=some (y,r)):
 eD f s R (s.size-r.length) (acc++ [y]) b/\q<s.size-r.length/\s.size-r.length<=s.size:=by
 obtain⟨n,e,k⟩:=h;obtain⟨k1,k2⟩:=fX _ _ _ _ c;have i:(s.data.toList.drop q).length=s.size-q:=by simp
 rw[i]at k k2;rw[c]at e;have d:=(uD j k1).1;exact⟨⟨n,by rw[d];exact e,by rw[d];omega⟩,by omega,by omega⟩
def kJ (s:ByteArray)(at_ k m:Nat):Prop:=gM (s.data.toList.drop at_) 0=gM (s.data.toList.drop k) m/\∀j,at_<=j->j<k->∃h:j<s.size,iO s[j]=true
theorem kJ.start (s:ByteArray)(at_:Nat):kJ s at_ at_ 0:=⟨rfl,by omega⟩
theorem kJ.next {s:ByteArray}{at_ k m:Nat}(h:kJ s at_ k m)(b:k<s.size)(hd:iO s[k]=true):kJ s at_ (k+1) (fa m s[k]):=by
 refine⟨?_,fun j c d=> ?_⟩
 ·rw[h.1,drop_cons s k b,gM,zl hd]
 by_cases e:j=k
 ·subst e;exact⟨b,hd⟩
 exact h.2 j c (by omega)
theorem nw {s:ByteArray}{at_:Nat}(b:∀h:at_<s.size,iO s[at_]=false):cc (s.data.toList.drop at_)=none:=by
 by_cases h:at_<s.size
 ·rw[drop_cons s at_ h];simp[cc,b h]
 rw[zV (by simp;omega)];rfl
theorem ny {s:ByteArray}{at_ k m:Nat}(h:kJ s at_ k m)(d:at_+1<k)(hz:∀h:at_<s.size,s[at_].toNat=48):cc (s.data.toList.drop at_)=none:=by
 obtain⟨b,d1⟩:=h.2 at_ (by omega) (by omega);obtain⟨e,d2⟩:=h.2 (at_+1) (by omega) d;have c:s[at_]=48:=zX.1 (hz b);rw[drop_cons s at_ b,drop_cons s (at_+1) e];simp[cc,c,mw,d2]
theorem jV {s:ByteArray}{at_ k m:Nat}(h:kJ s at_ k m)(n:at_<k)(j:∀h:k<s.size,iO s[k]=false)(hz:at_+1<k->∀h:at_<s.size,s[at_].toNat≠48):cc (s.data.toList.drop at_)=some (m,s.data.toList.drop k):=by
 obtain⟨l,d1⟩:=h.2 at_ (by omega) n;have e:gM (s.data.toList.drop k) m=(m,s.data.toList.drop k):=by
  by_cases d:k<s.size
  ·rw[drop_cons s k d,gM,zj (by rw[j d];simp)]
  rw[zV (by simp;omega)];rfl
 have i:=h.1;rw[e]at i;rw[drop_cons s at_ l]at i⊢;rw[qR,zj (by simp[d1]),zj,i];rintro⟨c,hd⟩;have b:at_+1<k\/k=at_+1:=by omega
 rcases b with b|b
 ·exact hz b l (by rw[c];rfl)
 subst b;by_cases d:at_+1<s.size
 ·rw[drop_cons s (at_+1) d]at hd;simp[mw,j d]at hd
 rw[zV (by simp;omega)]at hd;simp[mw]at hd
theorem pC {s:ByteArray}{q n:Nat}{r:List UInt8}(b:q<=s.size)(h:cc (s.data.toList.drop q)=some (n,r)):s.data.toList.drop (s.size-r.length)=r/\q<s.size-r.length/\s.size-r.length<=s.size/\n<=10000100:=by
 obtain⟨c,e,d⟩:=qS h;obtain⟨k1,k2⟩:=uD b c;simp at e;exact⟨k1,by omega,by omega,d⟩
def fY :List UInt8->Bool
 | []=>false
 |b::_=>b==0
def Ty.at (t:Ty)(i:Nat):Ty:=(t.sub[if t.kind=4 then 0 else i]?).getD (.mk 0 0 [] 0)
def nN (t:Ty)(tx:ByteArray)(l:Bool)(m:Nat):Bool:=
 if t.kind=1 then !l&&decide ((tx.size:Int)<=t.size)&& !fY tx.data.toList
 else if t.kind=2 then !l&&decide ((tx.size:Int)=t.size)
 else if t.kind=3 then !l&&decide ((tx.size:Int)<=t.size)
 else if t.kind=4 then l&&decide ((m:Int)<=t.size)
 else l&&decide (m<=t.sub.length)&&decide ((t.sub.length:Int)-t.tail<=m)
mutual
def It.cX :It->Ty->Bool
 | .mk tx l s,t=>nN t tx l s.length&&cO s t 0
def cO :List It->Ty->Nat->Bool
 | [],_,_=>true
 |x::xs,t,i=>x.cX (t.at i)&&cO xs t (i+1)
end
theorem pD (a b:List It)(t:Ty)(i:Nat):cO (a++b) t i=(cO a t i&&cO b t (i+a.length)):=by
 induction a generalizing i with
 |nil=>simp[cO]
 |cons x xs ih=>simp only[ya,cO,ih,zD,Bool.and_assoc];rw[show i+1+xs.length=i+(xs.length+1)from by omega]
theorem oB {s:List It}{k:Nat}{t:Ty}(h:k<s.length):cO (s.take (k+1)) t 0=(cO (s.take k) t 0&&s[k].cX (t.at k)):=by
 rw[gw s k h,pD];simp[cO,yK (Ys h)]
theorem sj {s:List It}{k:Nat}{t:Ty}(h:k<s.length)(c:s[k].cX (t.at k)=false):cO s t 0=false:=by
 have b:=pD (s.take (k+1)) (s.drop (k+1)) t 0;rw[zN,oB h,c]at b;simpa using b
def Sy (n:Nat):ByteArray:=⟨(List.replicate n 0).toArray⟩
mutual
def Ty.zero :Ty->It
 | .mk k s l t=>if k=2 then .mk (Sy s.toNat) false []else if k=4 then .mk ⟨#[]⟩ true []else if k=5 then .mk ⟨#[]⟩ true (Un l ((l.length:Int)-t).toNat)else .mk ⟨#[]⟩ false []
def Un :List Ty->Nat->List It
 | [],_=> []
 |_::_,0=> []
 |x::xs,n+1=>x.zero::Un xs n
end
def Ty.kept (t:Ty):Nat:=if t.kind=5 then((t.sub.length:Int)-t.tail).toNat else 0
theorem Ot {t:Ty}(h:t.may=true):t.count<=64/\t.deep<=8/\t.right=true:=by
 unfold Ty.may at h;simp only[zF,yj]at h;exact⟨h.1.1,h.1.2,h.2⟩
theorem jr {k s:Int}{l:List Ty}{t:Int}(h:(Ty.mk k s l t).right=true):fK k s l.length t=true/\bL l=true:=by
 simpa only[Ty.right,zF]using h
theorem lk {k s:Int}{n:Nat}{t:Int}(h:fK k s n t=true):
 (k=1/\(s=1\/s=2\/s=4\/s=8)/\n=0/\t=0)\/(k=2/\1<=s/\s<=65536/\n=0/\t=0)\/(k=3/\0<=s/\s<=65536/\n=0/\t=0)\/(k=4/\0<=s/\s<=1024/\n=1/\t=0)\/(k=5/\s=0/\n<=16/\0<=t/\t<=n):=by
 unfold fK at h;split at h
 ·exact .inl ⟨by assumption,by simpa using h⟩
 split at h
 ·exact .inr (.inl ⟨by assumption,by simpa using h⟩)
 split at h
 ·exact .inr (.inr (.inl ⟨by assumption,by simpa using h⟩))
 split at h
 ·exact .inr (.inr (.inr (.inl ⟨by assumption,by simpa using h⟩)))
 split at h
 ·exact .inr (.inr (.inr (.inr ⟨by assumption,by simpa using h⟩)))
 cases h
mutual
def Ty.wide :Ty->Bool
 | .mk k s l _=>(decide (k=2)&&decide (3000<s))||Uo l
def Uo :List Ty->Bool
 | []=>false
 |x::xs=>x.wide||Uo xs
end
def eB (ty:Ty)(x:It):Int:=if ty.may&&x.may then(if x.cX ty then 0 else 12)else 1
mutual
def It.gL :It->Nat->Nat->Nat->Bool×Nat×Nat
 | .mk t l s,lv,c,d=>if 16<lv\/c=1024\/formed t l s.length=false then(false,c,d)else fN s (lv+1) (c+1) (max d lv)
def fN :List It->Nat->Nat->Nat->Bool×Nat×Nat
 | [],_,c,d=>(true,c,d)
 |x::xs,lv,c,d=>if(x.gL lv c d).1 then fN xs lv (x.gL lv c d).2.1 (x.gL lv c d).2.2 else(false,(x.gL lv c d).2.1,(x.gL lv c d).2.2)
end
theorem sk (a b:List It)(e c d:Nat):fN (a++b) e c d=if(fN a e c d).1 then fN b e (fN a e c d).2.1 (fN a e c d).2.2 else(false,(fN a e c d).2.1,(fN a e c d).2.2):=by
 induction a generalizing c d with
 |nil=>simp[fN]
 |cons x xs ih=>
  by_cases h:(x.gL e c d).1=true
  ·simp only[ya,fN,h,xO,ih]
  simp[fN,h]
theorem Bo {s:List It}{k e c d i j:Nat}(h:k<s.length)(l:fN (s.take k) e c d=(true,i,j)):fN (s.take (k+1)) e c d=s[k].gL e i j:=by
 rw[gw s k h,sk,l];simp only[xO,fN];by_cases b:(s[k].gL e i j).1=true
 ·rw[zl b,<-b]
 rw[zj b];simp only[Bool.not_eq_true]at b;rw[<-b]
theorem Lw {s:List It}{k b c d e m i l:Nat}(h:k<s.length)(o:fN (s.take k) b c d=(true,e,m))(n:s[k].gL b e m=(false,i,l)):fN s b c d=(false,i,l):=by
 have j:=sk (s.take (k+1)) (s.drop (k+1)) b c d;rw[zN,Bo h o,n]at j;simpa using j
def Ou (x:It):Prop:=∀lv c d,1<=lv->c<=1024->(((x.gL lv c d).1=true↔x.right=true/\lv+x.deep<=17/\c+x.count<=1024)/\((x.gL lv c d).1=true->(x.gL lv c d).2=(c+x.count,max d (lv-1+x.deep)))/\(x.gL lv c d).2.1<=1024/\(x.gL lv c d).2.2<=max d 16)
theorem Sz (s:List It)(m:∀x∈s,Ou x):∀h c d,1<=h->c<=1024->(((fN s h c d).1=true↔cW s=true/\(s= []\/h+cC s<=17)/\c+aG s<=1024)/\((fN s h c d).1=true->(fN s h c d).2=(c+aG s,if s= []then d else max d (h-1+cC s)))/\(fN s h c d).2.1<=1024/\(fN s h c d).2.2<=max d 16):=by
 induction s with
 |nil=>intro h c d k j;simp[fN,cW,aG,j];omega
 |cons x xs F1=>
  intro h c d k j;obtain⟨o,z,w,u⟩:=m x (by simp) h c d k j;by_cases i:(x.gL h c d).1=true
  ·have p:=z i;have n:=o.1 i;obtain⟨g1,g2,g3,g4⟩:=F1 (fun y q=>m y (by simp[q])) h (c+x.count) (max d (h-1+x.deep)) k n.2.2;simp only[fN,i,xO,p];simp only[cW,aG,cC,zF,n.1,true_and];refine⟨?_, ?_,g3,by omega⟩
   ·rw[g1];constructor
    ·rintro⟨a,b,e⟩;refine⟨a,.inr ?_,by omega⟩;rcases b with rfl|b
     ·simp[cC];omega
     omega
    rintro⟨a,b,e⟩;refine⟨a, ?_,by omega⟩;rcases b with b|b
    ·cases b
    exact .inr (by omega)
   intro r;rw[g2 r];by_cases l:xs= []
   ·subst l;simp[cC,aG]
   simp only[l,Zr];simp;omega
  simp only[fN,i];refine⟨?_,by simp,by simpa using w,by simpa using u⟩;simp only[Bool.false_eq_true,Zr,false_iff];rintro⟨a,b,e⟩;simp only[cW,aG,cC,zF]at a b e;exact i (o.2 ⟨a.1,by rcases b with b|b;cases b;omega,by omega⟩)
theorem G4 (x:It):Ou x:=by
 induction x using It.ind with
 |h t l s ih=>
  intro j c d p n;by_cases i:16<j\/c=1024\/formed t l s.length=false
  ·simp only[It.gL,zl i,It.right,It.deep,It.count];refine⟨?_,by simp,n,by omega⟩;simp only[Bool.false_eq_true,false_iff,zF];rintro⟨⟨a,_⟩,b,e⟩;rcases i with h|h|h
   ·omega
   ·omega
   rw[h]at a;cases a
  obtain⟨n1,n2,m⟩:¬16<j/\¬c=1024/\¬formed t l s.length=false:=by
   refine⟨fun h=>i (.inl h),fun h=>i (.inr (.inl h)),fun h=>i (.inr (.inr h))⟩
  obtain⟨g1,g2,g3,g4⟩:=Sz s ih (j+1) (c+1) (max d j) (by omega) (by omega);simp only[It.gL,zj i,It.right,It.deep,It.count];simp only[Bool.not_eq_false]at m;refine⟨?_, ?_,g3,by omega⟩
  ·rw[g1,m];simp only[Bool.true_and];constructor
   ·rintro⟨a,b,e⟩;refine⟨a, ?_,by omega⟩;rcases b with rfl|b
    ·simp[cC];omega
    omega
   rintro⟨a,b,e⟩;exact⟨a,.inr (by omega),by omega⟩
  intro o;rw[g2 o];by_cases k:s= []
  ·subst k;simp[cC,aG];omega
  simp only[k,Zr];simp;omega
theorem SA (x:It):(x.gL 1 0 0).1=x.may:=by
 have h:=(G4 x 1 0 0 (by omega) (by omega)).1;rw[yX,h];simp only[It.may,zF,yj,zT];constructor
 ·rintro⟨a,b,c⟩;exact⟨⟨a,by omega⟩,c⟩
 rintro⟨⟨a,b⟩,c⟩;exact⟨a,by omega,c⟩
def fz (x:It)(D M:Int):Int:=if x.may=false then 1 else if D<x.deep then 6 else if M<x.count then 4 else 0
theorem mz {b:ByteArray}{l:Bool}{s:List It}(h:(It.mk b l s).right=true):formed b l s.length=true/\cW s=true:=by
 simpa only[It.right,zF]using h
theorem js {t:ByteArray}{l:Bool}{s:List It}(h:(It.mk t l s).right=true)(k:Nat)(b:k<s.length):s[k].right=true:=by
 simp only[It.right,zF]at h;have:∀s:List It,cW s=true->∀(k:Nat) (b:k<s.length),s[k].right=true:=by
  intro s;induction s with
  |nil=>intro _ k b;simp at b
  |cons x xs ih=>
   intro h k b;simp only[cW,zF]at h;cases k with
   |zero=>exact h.1
   |succ k=>simpa using ih h.2 k (by simpa using b)
 exact this s h.2 k b
def hxd (n:Nat):UInt8:=if n<10 then UInt8.ofNat (48+n)else UInt8.ofNat (87+n)
def hx (b:UInt8):List UInt8:= [hxd (b.toNat/16),hxd (b.toNat%16)]
mutual
def It.total :It->Nat
 | .mk t _ s=>t.size+ll s
def ll :List It->Nat
 | []=>0
 |x::xs=>x.total+ll xs
end
theorem Et (s:List It)(b:∀x∈s,x.ow=min x.total 10000):∀n,n<=10000->gx s n=min (n+ll s) 10000:=by
 induction s with
 |nil=>intro n c;simp[gx,ll];omega
 |cons x xs F1=>
  intro n c;have e:=b x (by simp);simp only[gx,ll];rw[F1 (fun y d=>b y (by simp[d])) _ (by omega),e];omega
theorem G5 (x:It):x.ow=min x.total 10000:=by
 induction x using It.ind with
 |h t l s ih=>
  simp only[It.ow,It.total];rw[Et s ih _ (by omega)];omega
def dR (L:Nat)(t:Ty):Prop:=t.right=false\/L<t.count
theorem Bp {p:List UInt8->Option (Ty×List UInt8)}:∀(n:Nat) (l:List UInt8) (acc:List Ty) (b:Nat) (t:Ty) (r:List UInt8),fg p n l acc b=some (t,r)->∃(more:List Ty) (d:Nat),t= .mk 5 0 (acc++more) d
 |0,_,_,_,_,_,h=>by simp[fg]at h
 |n+1,[],_,_,_,_,h=>by simp[fg]at h
 |n+1,c::l,acc,b,t,r,h=>by
  unfold fg at h;split at h
  ·injection h with h;injection h with h _;exact⟨[],b,by rw[<-h,xq]⟩
  split at h
  ·cases h
  split at h
  ·cases h
  rename_i k d _
  split at h
  ·cases h
  rename_i y j _
  obtain⟨more,i,e⟩:=Bp n _ _ _ _ _ h;exact⟨y::more,i,by rw[e,zI,ZG]⟩
theorem uE {s:List Ty}(h:bL s=true):∀x∈s,x.right=true:=fun x hx=>by
 obtain⟨j,b,rfl⟩:=yZ hx;exact dI h j b
theorem uF {k z:Int}{l:List Ty}{b:Int}(h:(Ty.mk k z l b).right=true):bL l=true:=by
 simp only[Ty.right,zF]at h;exact h.2
theorem dR.sub {L:Nat}{y:Ty}(h:dR L y)(acc more:List Ty)(b:Int):dR (1+aZ acc+L) (.mk 5 0 (acc++ [y]++more) b):=by
 rcases h with h|h
 ·left;rw[ZE];intro c;have:=uE (uF c) y (by simp);rw[h]at this;cases this
 right;simp only[Ty.count,fy,aZ];omega
theorem dR.list {L:Nat}{x:Ty}(h:dR L x)(n:Int):dR (1+L) (.mk 4 n [x] 0):=by
 rcases h with h|h
 ·left;rw[ZE];intro b;have:=uE (uF b) x (by simp);rw[h]at this;cases this
 right;simp only[Ty.count,aZ];omega
theorem dR.mono {L L':Nat}{t:Ty}(h:dR L t)(b:L'<=L):dR L' t:=h.imp id (fun h=>Nat.lt_of_le_of_lt b h)
theorem dR.may {t:Ty}(h:dR 64 t):t.may=false:=by
 rw[ZE];intro b;simp only[Ty.may,zF,yj]at b;rcases h with h|h
 ·rw[h]at b;exact absurd b.2 (by simp)
 omega
theorem G6 (n:Nat)(b:UInt8):n<=fa n b:=by unfold fa;split<;>omega
theorem Eu :∀(l:List UInt8) (n:Nat),n<=(gM l n).1
 | [],n=>zf _
 |b::l,n=>by
  unfold gM;split
  ·exact zK (G6 n b) (Eu l _)
  exact zf _
theorem Lx {s:ByteArray}{at_ k m:Nat}(h:kJ s at_ k m)(n:Nat)(r:List UInt8)(c:cc (s.data.toList.drop at_)=some (n,r)):m<=n:=by
 have e:gM (s.data.toList.drop at_) 0=(n,r):=by
  generalize s.data.toList.drop at_=l at*;match l,c with
  | [],c=>simp[cc]at c
  |b::l,c=>
   rw[qR]at c;split at c
   ·cases c
   split at c
   ·cases c
   injection c
 rw[h.1]at e;have:=Eu (s.data.toList.drop k) m;rw[e]at this;exact this
def nV (most:Nat)(s:ByteArray)(p:Nat)(n:Nat)(ok:Bool)(q:Nat):Prop:=
 (ok=true->cc (s.data.toList.drop p)=some (n,s.data.toList.drop q)/\n<=most/\p<q)/\(ok=false->∀n' r,cc (s.data.toList.drop p)=some (n',r)->most<n')/\q<=s.size/\n<=most
theorem Ev {most:Nat}{s:ByteArray}{p n q:Nat}(h:∀b r,cc (s.data.toList.drop p)=some (b,r)->most<b)(c:q<=s.size)(d:n<=most):nV most s p n false q:=⟨(by intro h;cases h),fun _=>h,c,d⟩
theorem uG {most:Nat}{s:ByteArray}{p n q:Nat}(h:cc (s.data.toList.drop p)=none)(d:q<=s.size)(c:n<=most):nV most s p n false q:=Ev (by intro e r b;rw[h]at b;cases b) d c
theorem Bq {most:Nat}{s:ByteArray}{p n q:Nat}(h:cc (s.data.toList.drop p)=some (n,s.data.toList.drop q))(b:n<=most)(c:p<q)(d:q<=s.size):nV most s p n true q:=⟨fun _=>⟨h,b,c⟩,(by intro h;cases h),d,b⟩
theorem pE {k z:Int}{l:List Ty}{b:Int}(L:Nat)(h:fK k z l.length b=false):dR L (.mk k z l b):=by
 left;simp[Ty.right,h]
theorem aa0 {l:List UInt8}(h:∀c r,cc l=some (c,r)->64<c)(L:Nat)(t:Ty)(r:List UInt8)(b:wT (cc l)=some (t,r)):dR L t:=by
 cases hn:cc l with
 |none=>rw[hn]at b;cases b
 |some z=>
  obtain⟨n,d⟩:=z;have e:=h n d hn;rw[hn,wT]at b;split at b
  ·injection b with b;injection b with b _;subst b;refine pE L ?_;unfold fK;simp only[xO];simp;omega
  cases b
theorem aa1 {l:List UInt8}(h:∀c r,cc l=some (c,r)->65536<c)(L:Nat)(t:Ty)(r:List UInt8)(b:sW 2 (cc l)=some (t,r)):dR L t:=by
 cases hn:cc l with
 |none=>rw[hn]at b;cases b
 |some z=>
  obtain⟨n,d⟩:=z;have e:=h n d hn;rw[hn,sW]at b;injection b with b;injection b with b _;subst b;refine pE L ?_;unfold fK;simp;omega
theorem aa2 {l:List UInt8}(h:∀c r,cc l=some (c,r)->65536<c)(L:Nat)(t:Ty)(r:List UInt8)(b:sW 3 (cc l)=some (t,r)):dR L t:=by
 cases hn:cc l with
 |none=>rw[hn]at b;cases b
 |some z=>
  obtain⟨n,d⟩:=z;have e:=h n d hn;rw[hn,sW]at b;injection b with b;injection b with b _;subst b;refine pE L ?_;unfold fK;simp;omega
theorem Ly {l:List UInt8}(h:∀e r,cc l=some (e,r)->1024<e)(L:Nat)(x t:Ty)(r:List UInt8)(b:iE x (cc l)=some (t,r)):dR L t:=by
 cases hn:cc l with
 |none=>rw[hn]at b;cases b
 |some z=>
  obtain⟨n,c⟩:=z;have i:=h n c hn;rw[hn]at b;cases c with
  |nil=>cases b
  |cons d c=>
   rw[iE]at b;split at b
   ·injection b with b;injection b with b _;subst b;refine pE L ?_;unfold fK;simp;omega
   cases b
theorem G7 {x:Ty}{o:Option (Nat×List UInt8)}{t:Ty}{r:List UInt8}(h:iE x o=some (t,r)):∃n:Nat,t= .mk 4 n [x] 0:=by
 match o,h with
 |some (n,d::r'),h=>
  rw[iE]at h;split at h
  ·injection h with h;injection h with h _;exact⟨n,h.symm⟩
  cases h
theorem Lz {x:Ty}{l:List UInt8}{t:Ty}{r:List UInt8}(h:gC x l=some (t,r)):∃n:Nat,t= .mk 4 n [x] 0:=by
 match l,h with
 |c::l,h=>
  by_cases b:c=58
  ·subst b;rw[my]at h;exact G7 h
  rw[uB x c l (fun e=>b (zX.1 e))]at h;cases h
def sX (f L:Nat)(s:ByteArray)(p:Nat)(t:Ty)(ok:Bool)(q L':Nat):Prop:=
 (ok=true->aK f (s.data.toList.drop p)=some (t,s.data.toList.drop q)/\L'+t.count=L/\p<q)/\(ok=false->∀t' r,aK f (s.data.toList.drop p)=some (t',r)->dR L t')/\q<=s.size
def Ov (L:Nat)(s:ByteArray)(R:Option (Ty×List UInt8))(t:Ty)(ok:Bool)(q L':Nat):Prop:=
 (ok=true->R=some (t,s.data.toList.drop q)/\L'+t.count=L)/\(ok=false->∀t' r,R=some (t',r)->dR L t')/\q<=s.size
theorem SB {f:Nat}{s:ByteArray}{R:Option (Ty×List UInt8)}{q L:Nat}{acc:List Ty}{i:Nat}(h:Oq f s R q acc i)(e:∀b r,aK f (s.data.toList.drop q)=some (b,r)->dR L b):∀b r,R=some (b,r)->dR (1+aZ acc+L) b:=by
 intro b r d;obtain⟨n,c,_⟩:=h;cases hi:aK f (s.data.toList.drop q)with
 |none=>rw[hi,d]at c;cases c
 |some z=>
  obtain⟨y,j⟩:=z;rw[hi,d]at c;obtain⟨more,k,rfl⟩:=Bp _ _ _ _ _ _ c;exact(e y j hi).sub acc more k
