/- A buffer of bytes: copy within it, slices.Clone. -/
import Derived.Test.YtdbmifjankgfpaaGreatDoorProg
import Derived.Test.YtdbmifjankgfpaaGreatDoorKA1
import Derived.Lib.BufferMore
import Derived.Laws.CopyOwn
set_option linter.all false
set_option maxRecDepth 100000
set_option maxHeartbeats 1000000
open Go.Proofs.Tryz
namespace Go.Proofs.YtdbmifjankgfpaaGreatDoor
open Go.RowKit
variable {s:ByteArray}{f q k p n d m L i j most e:Nat}{l r:List UInt8}{t z:Int}
def zr:=@underlying31
def zQ:=@UInt8.toNat_inj
def zS:=@List.length_drop
def yG:=@info_parts
def yS:=@List.getElem_of_mem
def yV:=@List.append_nil
def yY:=@List.suffix_cons
def xx:=@List.getElem?_drop
def Zq:=@Bool.eq_false_iff
def Zs:=@List.singleton_append
def Zv:=@List.suffix_refl
def Yh:=@Nat.le_of_lt
theorem uW :(prog.info? 5).map (fun i=>(i.zero,i.size,i.bytes))=some (some (.int .u8 0),1,1):=by kernel_rfl
theorem o8 :(prog.info? 5).map (·.size)=some 1:=by kernel_rfl
theorem bP.blank (w:World)(base:Nat)(E:TypeId)(b:base<=w.heap.size):bP (w.alloc (.cells #[] E)) base E (.slice (some ⟨w.heap.size,0,none⟩) 0 0) []:=
 ⟨_,0,rfl,by simp,by simp,.inr ⟨w.heap.size,#[],(0,0),rfl,b,yP w _,rfl,by simp[cb],.inl rfl⟩⟩
theorem EO (base g n cap:Nat)(l:List UInt8)(w:World)(B:n=l.length)(h:bP w base 5 (.slice (some ⟨g,0,none⟩) n cap) l)(C:l.length<=1000000):
 Calls prog 95 #[.slice (some ⟨g,0,none⟩) n cap] w fun e w'=>(∃d,e= .returned d/\bP w' w.heap.size 5 d l/\∃k,d.ownBlock=some k)/\Below w.heap.size w w':=by
 obtain⟨i0,hi,z,u,x⟩:=yG uW;have D:=fun(w:World) (a:Addr) (n c:Nat)=>Lib.run_eql_slice_some_nil (P:=prog) w a n c zr
 have A:=za (h.alloc (.cells #[] 5));have m:=za (bP.blank w w.heap.size 5 (zg _));clear h;go_enter func95,ntmps95
 go_wp2_with (
  at_builtin
  refine cz (by rfl) (.tmp 5) (.tmp 6) 31 31 (by rfl) w.heap.size 5 i0 zr hi z u x (by rfl) m.out _ l (by rfl) (Kt zr A.out) (by simp) (by simp;omega) ?_;intro j i p w' o b;have s:Hid (bP w' w.heap.size 5 (.slice j i p) l):=za (by simpa using o);have y:Hid (∃k,(Value.slice j i p).ownBlock=some k):=za (by rcases b.own with e|⟨k,e,_⟩;exact⟨_,e⟩;exact⟨k,e⟩);have r:Hid (Below w.heap.size w w'):=za (mH.below ((zl _ w).alloc (zg _) (.cells #[] 5)) b (by simp) (fun k q=>(m.out.ge k q).1));clear o b)
 go_ret;exact⟨⟨_,rfl,s.out,y.out⟩,r.out⟩
theorem bP.WS {w:World}{base g cap:Nat}(h:bP w base 5 (.slice (some ⟨g,0,none⟩) n cap) l)(H:k<=l.length):
 ∃W,w.setCells g 0 (cb (l.drop k))=W/\bP W base 5 (.slice (some ⟨g,0,none⟩) (l.length-k) cap) (l.drop k)/\mH w W (.slice (some ⟨g,0,none⟩) n cap) (.slice (some ⟨g,0,none⟩) (l.length-k) cap)/\
  (∀j v,(cb (l.drop k))[j]?=some v->w.cell? ((⟨g,k,none⟩:Addr).add j)=some v)/\(∀j,j<(cb (l.drop k)).length->(w.cell? ⟨g,0+j,none⟩).isSome=true)/\∀j,j<(cb (l.drop k)).length->w.frozen? ⟨g,0+j,none⟩=false:=by
 have o:=fun j (b:j<l.length)=>h.at_ (k:=j) b
 obtain⟨L,K,C,F,x,m⟩:=h;injection C with c hn hc;subst c;subst hc;subst hn;rcases m with⟨m,_⟩|⟨I,D,B,c,u,y,M,G,A⟩
 ·cases m
 injection c with c;injection c with c;subst c;have i:(l.drop k).length=l.length-k:=zS;have z:(cb (l.drop k)).length=l.length-k:=by rw[bs,i]
 obtain⟨s,q,J,p⟩:=iz (cb (l.drop k)) 0 w D y (by omega);refine⟨_,rfl,⟨_,cap,by rw[i],by rw[i];omega,x,.inr ⟨g,s,B,rfl,u,q,by omega, ?_,A⟩⟩,⟨⟨World.os_setCells _ _ _ _,kH _ _ _ _,Yo _ _ _ _,by rw[iA];exact zg _,fun j b E=>ZV w g 0 _ b (fun e=>E (by subst e;rfl))⟩,.inl rfl⟩, ?_, ?_, ?_⟩
 ·rw[zG,z]at p;rw[i,p];simp
 ·intro j v d;rw[EH,xx]at d;have b:k+j<l.length:=by
   rcases xG (k+j) l.length with h|h
   ·exact h
   rw[xa h]at d;cases d
  have r:(⟨g,k,none⟩:Addr).add j=⟨g,k+j,none⟩:=by unfold Addr.add;split<;>simp_all
  rw[r,(o (k+j) b).1,zw];rw[zx b]at d⊢;simpa using d
 ·intro j b;rw[zG,(o j (by omega)).1];rfl
 intro j b;rw[zG];exact(o j (by omega)).2.1
def je (b:UInt8):Bool:=decide (48<=b.toNat)&&decide (b.toNat<=57)
def fw (n:Nat)(b:UInt8):Nat:=if n<1000000 then 10*n+(b.toNat-48)else n
def hC :List UInt8->Nat->Nat×List UInt8
 | [],n=>(n,[])
 |b::r,n=>if je b then hC r (fw n b)else(n,b::r)
def mT :List UInt8->Bool
 | []=>false
 |b::_=>je b
def cx :List UInt8->Option (Nat×List UInt8)
 | []=>none
 |b::r=>if je b=false then none else if b=48/\mT r=true then none else some (hC (b::r) 0)
theorem rB (b:UInt8)(r:List UInt8):cx (b::r)=if je b=false then none else if b=48/\mT r=true then none else some (hC (b::r) 0):=rfl
def AG (acc:List Ty)(l:List UInt8):Option (List UInt8):=
 if acc= []then some l else match l with
  | []=>none
  |c::r=>if c=44 then some r else none
def tQ (l:List UInt8)(tl:Nat):Option (List UInt8×Nat):=match l with
 | []=>if 0<tl then none else some ([],tl)
 |c::r=>if c=63 then some (r,tl+1)else if 0<tl then none else some (c::r,tl)
def fB (p:List UInt8->Option (Ty×List UInt8)):Nat->List UInt8->List Ty->Nat->Option (Ty×List UInt8)
 |0,_,_,_=>none
 |_+1,[],_,_=>none
 |n+1,c::r,acc,tl=>
  if c=125 then some (.mk 5 0 acc tl,r)
  else match AG acc (c::r)with
   |none=>none
   |some l1=>match tQ l1 tl with
    |none=>none
    |some (l2,LI)=>match p l2 with
     |none=>none
     |some (y,r')=>fB p n r' (acc++ [y]) LI
def gL (x:Ty):List UInt8->Option (Ty×List UInt8)
 | []=>none
 |c::r=>if c=58 then(match cx r with
  |none=>none
  |some (_,[])=>none
  |some (n,d::r')=>if d=93 then some (.mk 4 n [x] 0,r')else none)else none
def aL :Nat->List UInt8->Option (Ty×List UInt8)
 |0,_=>none
 |_+1,[]=>none
 |f+1,c::r=>
  if c=117 then(match cx r with|none=>none|some (n,r')=>if n%8=0 then some (.mk 1 ((n/8:Nat):Int) [] 0,r')else none)
  else if c=98 then(match cx r with|none=>none|some (n,r')=>some (.mk 2 n [] 0,r'))
  else if c=115 then(match cx r with|none=>none|some (n,r')=>some (.mk 3 n [] 0,r'))
  else if c=91 then(match aL f r with|none=>none|some (x,r')=>gL x r')
  else if c=123 then fB (aL f) (r.length+1) r [] 0
  else none
def AH :Option (Nat×List UInt8)->Option (Ty×List UInt8)
 |none=>none
 |some (n,r)=>if n%8=0 then some (.mk 1 ((n/8:Nat):Int) [] 0,r)else none
def tD (k:Int):Option (Nat×List UInt8)->Option (Ty×List UInt8)
 |none=>none
 |some (n,r)=>some (.mk k n [] 0,r)
def uX (o:Option (Ty×List UInt8)):Option (Ty×List UInt8):=match o with
 |none=>none
 |some (x,r)=>gL x r
theorem Ku (f:Nat)(r:List UInt8):aL (f+1) (117::r)=AH (cx r):=by
 simp only[aL,xK];cases cx r<;>rfl
theorem Kv (f:Nat)(r:List UInt8):aL (f+1) (98::r)=tD 2 (cx r):=by
 simp only[aL,zh (show¬(98:UInt8)=117 by decide),xK];cases cx r<;>rfl
theorem Kw (f:Nat)(r:List UInt8):aL (f+1) (115::r)=tD 3 (cx r):=by
 simp only[aL,zh (show¬(115:UInt8)=117 by decide),zh (show¬(115:UInt8)=98 by decide),xK];cases cx r<;>rfl
theorem Kx (f:Nat)(r:List UInt8):aL (f+1) (91::r)=uX (aL f r):=by
 simp only[aL,zh (show¬(91:UInt8)=117 by decide),zh (show¬(91:UInt8)=98 by decide),zh (show¬(91:UInt8)=115 by decide),xK];cases aL f r<;>rfl
theorem Ky (f:Nat)(r:List UInt8):aL (f+1) (123::r)=fB (aL f) (r.length+1) r [] 0:=by
 simp only[aL,zh (show¬(123:UInt8)=117 by decide),zh (show¬(123:UInt8)=98 by decide),zh (show¬(123:UInt8)=115 by decide),zh (show¬(123:UInt8)=91 by decide),xK]
theorem EP (f:Nat)(c:UInt8)(r:List UInt8)(i:c.toNat≠117)(j:c.toNat≠98)(l:c.toNat≠115)(b:c.toNat≠91)(d:c.toNat≠123):aL (f+1) (c::r)=none:=by
 have k:∀n:UInt8,c.toNat≠n.toNat->¬c=n:=fun n h e=>h (by rw[e])
 simp only[aL,zh (k 117 i),zh (k 98 j),zh (k 115 l),zh (k 91 b),zh (k 123 d)]
def iX (x:Ty):Option (Nat×List UInt8)->Option (Ty×List UInt8)
 |none=>none
 |some (_,[])=>none
 |some (n,d::r')=>if d.toNat=93 then some (.mk 4 n [x] 0,r')else none
theorem mU (x:Ty)(r:List UInt8):gL x (58::r)=iX x (cx r):=by
 simp only[gL,xK];cases cx r with
 |none=>rfl
 |some z=>
  obtain⟨n,b⟩:=z;cases b with
  |nil=>rfl
  |cons d b=>
   simp only[iX];by_cases h:d=93
   ·subst h;rfl
   have c:¬d.toNat=93:=fun e=>h (zQ.1 e)
   simp[h,c]
theorem uY (x:Ty)(c:UInt8)(r:List UInt8)(h:c.toNat≠58):gL x (c::r)=none:=by
 simp only[gL,zh (fun e:c=58=>h (by rw[e];rfl))]
def cT (l:List UInt8):Option Ty:=match aL 8 l with
 |some (x,[])=>if x.may then some x else none
 |_=>none
theorem qi :∀(l:List UInt8) (n m:Nat) (r:List UInt8),hC l n=(m,r)->r<:+l
 | [],n,m,r,h=>by simp[hC]at h;rw[<-h.2];exact Zv _
 |b::l,n,m,r,h=>by
  unfold hC at h;split at h
  ·exact(qi l _ m r h).trans (yY b l)
  injection h with h1 h2;rw[<-h2];exact Zv _
theorem uZ (n:Nat)(b:UInt8)(h:n<=10000100)(c:b.toNat<=57):fw n b<=10000100:=by unfold fw;split<;>omega
theorem k6 (b:UInt8):je b=true↔48<=b.toNat/\b.toNat<=57:=by simp[je]
theorem ER :∀(l:List UInt8) (n m:Nat) (r:List UInt8),hC l n=(m,r)->n<=10000100->m<=10000100
 | [],n,m,r,h,hn=>by simp[hC]at h;omega
 |b::l,n,m,r,h,hn=>by
  unfold hC at h;split at h
  ·rename_i hd
   exact ER l _ m r h (uZ n b hn ((k6 b).1 hd).2)
  injection h with h1 h2;omega
theorem rC (h:cx l=some (n,r)):r<:+l/\r.length<l.length/\n<=10000100:=by
 match l,h with
 | [],h=>simp[cx]at h
 |b::l,h=>
  rw[rB]at h;split at h
  ·cases h
  rename_i e
  split at h
  ·cases h
  injection h with h;have d:=ER _ _ _ _ h (by omega);unfold hC at h;rw[zi (by simpa using e)]at h;have c:=qi _ _ _ _ h;refine⟨c.trans (yY b l), ?_,d⟩;have:=c.length_le;simp;omega
theorem BI {acc:List Ty}(h:AG acc l=some r):r<:+l:=by
 unfold AG at h;split at h
 ·injection h with h;rw[h];exact Zv _
 match l,h with
 |c::l,h=>
  simp only at h;split at h
  ·injection h with h;rw[<-h];exact yY c l
  cases h
theorem Kz {b:Nat}(h:tQ l b=some (r,d)):r<:+l:=by
 unfold tQ at h;match l,h with
 | [],h=>
  simp only at h;split at h
  ·cases h
  injection h with h;injection h with h _;rw[<-h];exact Zv _
 |c::l,h=>
  simp only at h;split at h
  ·injection h with h;injection h with h _;rw[<-h];exact yY c l
  split at h
  ·cases h
  injection h with h;injection h with h _;rw[<-h];exact Zv _
theorem BJ {p:List UInt8->Option (Ty×List UInt8)}(d:∀l y r,p l=some (y,r)->r<:+l/\r.length<l.length):∀n l acc b y r,fB p n l acc b=some (y,r)->r<:+l/\r.length<l.length
 |0,_,_,_,_,_,h=>by simp[fB]at h
 |n+1,[],_,_,_,_,h=>by simp[fB]at h
 |n+1,c::l,acc,b,y,r,h=>by
  unfold fB at h;split at h
  ·injection h with h;injection h with _ h;rw[<-h];exact⟨yY c l,by simp⟩
  split at h
  ·cases h
  rename_i q i
  split at h
  ·cases h
  rename_i u w k
  split at h
  ·cases h
  rename_i s x e
  have k1:=BI i;have k2:=Kz k;have o:=d _ _ _ e;have m:=BJ d n _ _ _ _ _ h;have j:=(m.1.trans o.1).trans (k2.trans k1);refine⟨j, ?_⟩;have:=(k2.trans k1).length_le;omega
theorem BK {x y:Ty}(h:gL x l=some (y,r)):r<:+l/\r.length<l.length:=by
 unfold gL at h;match l,h with
 |c::l,h=>
  simp only at h;split at h
  ·split at h
   ·cases h
   ·cases h
   rename_i n d e b
   split at h
   ·injection h with h;injection h with _ h;subst h;have k1:=(rC b)
    refine⟨((yY d e).trans k1.1).trans (yY c l), ?_⟩;have:=k1.2.1;simp at this⊢;omega
   cases h
  cases h
theorem gu :∀(f:Nat) (l:List UInt8) (y:Ty) (r:List UInt8),aL f l=some (y,r)->r<:+l/\r.length<l.length
 |0,_,_,_,h=>by simp[aL]at h
 |f+1,[],_,_,h=>by simp[aL]at h
 |f+1,c::l,y,r,h=>by
  have key:∀{m:Nat} {d:List UInt8},cx l=some (m,d)->d<:+c::l/\d.length<(c::l).length:=fun b=>by
   have k:=rC b;exact⟨k.1.trans (yY c l),by have:=k.2.1;simp;omega⟩
  unfold aL at h;split at h
  ·split at h
   ·cases h
   rename_i b
   split at h
   ·injection h with h;injection h with _ h;subst h;exact key b
   cases h
  split at h
  ·split at h
   ·cases h
   rename_i b
   injection h with h;injection h with _ h;subst h;exact key b
  split at h
  ·split at h
   ·cases h
   rename_i b
   injection h with h;injection h with _ h;subst h;exact key b
  split at h
  ·split at h
   ·cases h
   rename_i x d b
   have k1:=gu f _ _ _ b;have k2:=BK h;exact⟨(k2.1.trans k1.1).trans (yY c l),by have:=k1.2;have:=k2.2;simp;omega⟩
  split at h
  ·have k:=BJ (gu f) _ _ _ _ _ _ h;exact⟨k.1.trans (yY c l),by have:=k.2;simp;omega⟩
  cases h
theorem u9 (e:q<=s.size)(h:r<:+s.data.toList.drop q):s.data.toList.drop (s.size-r.length)=r/\q<=s.size-r.length:=by
 obtain⟨pre,c⟩:=h;have d:=xu List.length c;simp only[zj,zS,aa]at d;have b:r=(s.data.toList.drop q).drop pre.length:=by rw[<-c,List.drop_left]
 rw[xO]at b;refine⟨?_,by omega⟩;rw[b];congr 1
 rw[zS,aa];omega
def eT (f:Nat)(s:ByteArray)(R:Option (Ty×List UInt8))(p:Nat)(acc:List Ty)(tl:Nat):Prop:=∃n,fB (aL f) n (s.data.toList.drop p) acc tl=R/\(s.data.toList.drop p).length<n
def Po (f:Nat)(s:ByteArray)(R:Option (Ty×List UInt8))(q:Nat)(acc:List Ty)(tl:Nat):Prop:=∃n,(match aL f (s.data.toList.drop q)with|none=>none|some (y,r')=>fB (aL f) n r' (acc++ [y]) tl)=R/\(s.data.toList.drop q).length<=n
theorem eT.stop {R:Option (Ty×List UInt8)}{acc:List Ty}{c:Nat}(h:eT f s R p acc c)(d:s.size<=p):R=none:=by
 obtain⟨n,b,_⟩:=h;rw[zI (by simpa using d)]at b;cases n<;>simp[fB]at b<;>exact b.symm
theorem eT.ends {R:Option (Ty×List UInt8)}{acc:List Ty}{c:Nat}(h:eT f s R p acc c)(e:p<s.size)(d:s[p].toNat=125):R=some (.mk 5 0 acc c,s.data.toList.drop (p+1)):=by
 obtain⟨n,b,i⟩:=h;rw[drop_cons s p e,show s[p]=125 from zQ.1 d]at b;cases n with
 |zero=>omega
 |succ n=>simp[fB]at b;exact b.symm
theorem eT.open_ {R:Option (Ty×List UInt8)}{acc:List Ty}(h:eT f s R p acc d)(k:p<s.size)(i:s[p].toNat≠125):
 ∃n,(match AG acc (s.data.toList.drop p)with
  |none=>none
  |some l1=>match tQ l1 d with
   |none=>none
   |some (l2,LI)=>match aL f l2 with
    |none=>none
    |some (y,r')=>fB (aL f) n r' (acc++ [y]) LI)=R/\(s.data.toList.drop p).length<=n:=by
 obtain⟨n,b,c⟩:=h;have j:s[p]≠125:=fun e=>i (by rw[e];rfl)
 match n,b,c with
 |n+1,b,c=>
  refine⟨n, ?_,by omega⟩;rw[drop_cons s p k]at b⊢;simpa only[fB,zh j]using b
theorem eT.bad {R:Option (Ty×List UInt8)}{acc:List Ty}(h:eT f s R p acc i)(c:p<s.size)(j:s[p].toNat≠125)(d:s[p].toNat≠44)(l:acc≠ []):R=none:=by
 obtain⟨n,b,_⟩:=h.open_ c j;have k:s[p]≠44:=fun e=>d (by rw[e];rfl)
 rw[show AG acc (s.data.toList.drop p)=none by rw[drop_cons s p c];simp[AG,l,k]]at b;exact b.symm
def rD (f:Nat)(s:ByteArray)(R:Option (Ty×List UInt8))(q:Nat)(acc:List Ty)(tl:Nat):Prop:=
 ∃n,(match tQ (s.data.toList.drop q) tl with
  |none=>none
  |some (l2,LI)=>match aL f l2 with
   |none=>none
   |some (y,r')=>fB (aL f) n r' (acc++ [y]) LI)=R/\(s.data.toList.drop q).length<=n
theorem eT.first {R:Option (Ty×List UInt8)}{c:Nat}(h:eT f s R p [] c)(i:p<s.size)(e:s[p].toNat≠125):rD f s R p [] c:=by
 obtain⟨n,b,d⟩:=h.open_ i e;rw[show AG [] (s.data.toList.drop p)=some (s.data.toList.drop p)by simp[AG]]at b;exact⟨n,b,d⟩
theorem eT.more {R:Option (Ty×List UInt8)}{acc:List Ty}(h:eT f s R p acc e)(b:p<s.size)(i:s[p].toNat=44)(k:acc≠ []):rD f s R (p+1) acc e:=by
 obtain⟨n,c,d⟩:=h.open_ b (by omega);have j:s[p]=44:=zQ.1 i;rw[show AG acc (s.data.toList.drop p)=some (s.data.toList.drop (p+1))by rw[drop_cons s p b];simp[AG,k,j]]at c;rw[drop_cons s p b]at d;exact⟨n,c,by simp at d⊢;omega⟩
theorem rD.mark {R:Option (Ty×List UInt8)}{acc:List Ty}{b:Nat}(h:rD f s R q acc b)(e:q<s.size)(i:s[q].toNat=63):Po f s R (q+1) acc (b+1):=by
 obtain⟨n,c,d⟩:=h;have j:s[q]=63:=zQ.1 i;rw[show tQ (s.data.toList.drop q) b=some (s.data.toList.drop (q+1),b+1)by rw[drop_cons s q e];simp[tQ,j]]at c;rw[drop_cons s q e]at d;exact⟨n,c,by simp at d⊢;omega⟩
theorem rD.none_ {R:Option (Ty×List UInt8)}{acc:List Ty}{c:Nat}(h:rD f s R q acc c)(j:∀b:q<s.size,s[q].toNat≠63)(i:0<c):R=none:=by
 obtain⟨n,d,l⟩:=h;rw[show tQ (s.data.toList.drop q) c=none by
  by_cases b:q<s.size
  ·have k:s[q]≠63:=fun e=>j b (by rw[e];rfl)
   rw[drop_cons s q b];simp[tQ,k,i]
  rw[zI (by simp;omega)];simp[tQ,i]]at d
 exact d.symm
theorem rD.plain {R:Option (Ty×List UInt8)}{acc:List Ty}(h:rD f s R q acc 0)(i:∀b:q<s.size,s[q].toNat≠63):Po f s R q acc 0:=by
 obtain⟨n,c,d⟩:=h;rw[show tQ (s.data.toList.drop q) 0=some (s.data.toList.drop q,0)by
  by_cases b:q<s.size
  ·have j:s[q]≠63:=fun e=>i b (by rw[e];rfl)
   rw[drop_cons s q b];simp[tQ,j]
  rw[zI (by simp;omega)];simp[tQ]]at c
 exact⟨n,c,d⟩
theorem Po.none {R:Option (Ty×List UInt8)}{acc:List Ty}{c:Nat}(h:Po f s R q acc c)(d:aL f (s.data.toList.drop q)=none):R=none:=by
 obtain⟨n,b,_⟩:=h;rw[d]at b;exact b.symm
theorem Po.some {R:Option (Ty×List UInt8)}{acc:List Ty}{y:Ty}(h:Po f s R q acc d)(k:q<=s.size)(c:aL f (s.data.toList.drop q)=some (y,r)):
 eT f s R (s.size-r.length) (acc++ [y]) d/\q<s.size-r.length/\s.size-r.length<=s.size:=by
 obtain⟨n,b,j⟩:=h;obtain⟨k1,k2⟩:=gu _ _ _ _ c;have i:(s.data.toList.drop q).length=s.size-q:=by simp
 rw[i]at j k2;rw[c]at b;have e:=(u9 k k1).1;exact⟨⟨n,by rw[e];exact b,by rw[e];omega⟩,by omega,by omega⟩
def k7 (s:ByteArray)(at_ k m:Nat):Prop:=hC (s.data.toList.drop at_) 0=hC (s.data.toList.drop k) m/\∀j,at_<=j->j<k->∃h:j<s.size,je s[j]=true
theorem k7.start (s:ByteArray)(at_:Nat):k7 s at_ at_ 0:=⟨rfl,by omega⟩
theorem k7.next {at_:Nat}(h:k7 s at_ k m)(b:k<s.size)(hd:je s[k]=true):k7 s at_ (k+1) (fw m s[k]):=by
 refine⟨?_,fun j c d=> ?_⟩
 ·rw[h.1,drop_cons s k b,hC,zi hd]
 by_cases e:j=k
 ·subst e;exact⟨b,hd⟩
 exact h.2 j c (by omega)
theorem nT {at_:Nat}(b:∀h:at_<s.size,je s[at_]=false):cx (s.data.toList.drop at_)=none:=by
 by_cases h:at_<s.size
 ·rw[drop_cons s at_ h];simp[cx,b h]
 rw[zI (by simp;omega)];rfl
theorem nU {at_:Nat}(h:k7 s at_ k m)(d:at_+1<k)(hz:∀h:at_<s.size,s[at_].toNat=48):cx (s.data.toList.drop at_)=none:=by
 obtain⟨b,d1⟩:=h.2 at_ (by omega) (by omega);obtain⟨c,d2⟩:=h.2 (at_+1) (by omega) d;have e:s[at_]=48:=zQ.1 (hz b);rw[drop_cons s at_ b,drop_cons s (at_+1) c];simp[cx,e,mT,d2]
theorem kg {at_:Nat}(h:k7 s at_ k m)(n:at_<k)(l:∀h:k<s.size,je s[k]=false)(hz:at_+1<k->∀h:at_<s.size,s[at_].toNat≠48):cx (s.data.toList.drop at_)=some (m,s.data.toList.drop k):=by
 obtain⟨j,d1⟩:=h.2 at_ (by omega) n;have e:hC (s.data.toList.drop k) m=(m,s.data.toList.drop k):=by
  by_cases d:k<s.size
  ·rw[drop_cons s k d,hC,zh (by rw[l d];simp)]
  rw[zI (by simp;omega)];rfl
 have i:=h.1;rw[e]at i;rw[drop_cons s at_ j]at i⊢;rw[rB,zh (by simp[d1]),zh,i];rintro⟨c,hd⟩;have b:at_+1<k\/k=at_+1:=by omega
 rcases b with b|b
 ·exact hz b j (by rw[c];rfl)
 subst b;by_cases d:at_+1<s.size
 ·rw[drop_cons s (at_+1) d]at hd;simp[mT,l d]at hd
 rw[zI (by simp;omega)]at hd;simp[mT]at hd
theorem qj (d:q<=s.size)(h:cx (s.data.toList.drop q)=some (n,r)):s.data.toList.drop (s.size-r.length)=r/\q<s.size-r.length/\s.size-r.length<=s.size/\n<=10000100:=by
 obtain⟨b,c,e⟩:=rC h;obtain⟨k1,k2⟩:=u9 d b;simp at c;exact⟨k1,by omega,by omega,e⟩
def fC :List UInt8->Bool
 | []=>false
 |b::_=>b==0
def Ty.at (t:Ty)(i:Nat):Ty:=(t.sub[if t.kind=4 then 0 else i]?).getD (.mk 0 0 [] 0)
def k8 (t:Ty)(tx:ByteArray)(l:Bool)(m:Nat):Bool:=
 if t.kind=1 then !l&&decide ((tx.size:Int)<=t.size)&& !fC tx.data.toList
 else if t.kind=2 then !l&&decide ((tx.size:Int)=t.size)
 else if t.kind=3 then !l&&decide ((tx.size:Int)<=t.size)
 else if t.kind=4 then l&&decide ((m:Int)<=t.size)
 else l&&decide (m<=t.sub.length)&&decide ((t.sub.length:Int)-t.tail<=m)
mutual
def It.cI :It->Ty->Bool
 | .mk tx l s,t=>k8 t tx l s.length&&bN s t 0
def bN :List It->Ty->Nat->Bool
 | [],_,_=>true
 |x::xs,t,i=>x.cI (t.at i)&&bN xs t (i+1)
end
theorem qk (a b:List It)(t:Ty)(i:Nat):bN (a++b) t i=(bN a t i&&bN b t (i+a.length)):=by
 induction a generalizing i with
 |nil=>simp[bN]
 |cons x xs ih=>simp only[zP,bN,ih,zy,Bool.and_assoc];rw[show i+1+xs.length=i+(xs.length+1)from by omega]
theorem jF {s:List It}{t:Ty}(h:k<s.length):bN (s.take (k+1)) t 0=(bN (s.take k) t 0&&s[k].cI (t.at k)):=by
 rw[dD s k h,qk];simp[bN,yD (Yh h)]
theorem kh {s:List It}{t:Ty}(h:k<s.length)(c:s[k].cI (t.at k)=false):bN s t 0=false:=by
 have b:=qk (s.take (k+1)) (s.drop (k+1)) t 0;rw[zC,jF h,c]at b;simpa using b
def Tt (n:Nat):ByteArray:=⟨(List.replicate n 0).toArray⟩
mutual
def Ty.zero :Ty->It
 | .mk k s l t=>if k=2 then .mk (Tt s.toNat) false []else if k=4 then .mk ⟨#[]⟩ true []else if k=5 then .mk ⟨#[]⟩ true (Vp l ((l.length:Int)-t).toNat)else .mk ⟨#[]⟩ false []
def Vp :List Ty->Nat->List It
 | [],_=> []
 |_::_,0=> []
 |x::xs,n+1=>x.zero::Vp xs n
end
def Ty.kept (t:Ty):Nat:=if t.kind=5 then((t.sub.length:Int)-t.tail).toNat else 0
theorem Ig {t:Ty}(h:t.may=true):t.count<=64/\t.deep<=8/\t.right=true:=by
 unfold Ty.may at h;simp only[zz,zY]at h;exact⟨h.1.1,h.1.2,h.2⟩
theorem iI {k s:Int}{l:List Ty}(h:(Ty.mk k s l t).right=true):fW k s l.length t=true/\bR l=true:=by
 simpa only[Ty.right,zz]using h
theorem km {k s:Int}(h:fW k s n t=true):
 (k=1/\(s=1\/s=2\/s=4\/s=8)/\n=0/\t=0)\/(k=2/\1<=s/\s<=65536/\n=0/\t=0)\/(k=3/\0<=s/\s<=65536/\n=0/\t=0)\/(k=4/\0<=s/\s<=1024/\n=1/\t=0)\/(k=5/\s=0/\n<=16/\0<=t/\t<=n):=by
 unfold fW at h;split at h
 ·exact .inl ⟨by assumption,by simpa using h⟩
 split at h
 ·exact .inr (.inl ⟨by assumption,by simpa using h⟩)
 split at h
 ·exact .inr (.inr (.inl ⟨by assumption,by simpa using h⟩))
 split at h
 ·exact .inr (.inr (.inr (.inl ⟨by assumption,by simpa using h⟩)))
 split at h
 ·exact .inr (.inr (.inr (.inr ⟨by assumption,by simpa using h⟩)))
 cases h
mutual
def Ty.wide :Ty->Bool
 | .mk k s l _=>(decide (k=2)&&decide (3000<s))||Vq l
def Vq :List Ty->Bool
 | []=>false
 |x::xs=>x.wide||Vq xs
end
def cU (ty:Ty)(x:It):Int:=if ty.may&&x.may then(if x.cI ty then 0 else 12)else 1
mutual
def It.gY :It->Nat->Nat->Nat->Bool×Nat×Nat
 | .mk t l s,lv,c,d=>if 16<lv\/c=1024\/formed t l s.length=false then(false,c,d)else fY s (lv+1) (c+1) (max d lv)
def fY :List It->Nat->Nat->Nat->Bool×Nat×Nat
 | [],_,c,d=>(true,c,d)
 |x::xs,lv,c,d=>if(x.gY lv c d).1 then fY xs lv (x.gY lv c d).2.1 (x.gY lv c d).2.2 else(false,(x.gY lv c d).2.1,(x.gY lv c d).2.2)
end
theorem sL (a b:List It)(e c d:Nat):fY (a++b) e c d=if(fY a e c d).1 then fY b e (fY a e c d).2.1 (fY a e c d).2.2 else(false,(fY a e c d).2.1,(fY a e c d).2.2):=by
 induction a generalizing c d with
 |nil=>simp[fY]
 |cons x xs ih=>
  by_cases h:(x.gY e c d).1=true
  ·simp only[zP,fY,h,xK,ih]
  simp[fY,h]
theorem BL {s:List It}{c:Nat}(h:k<s.length)(l:fY (s.take k) e c d=(true,i,j)):fY (s.take (k+1)) e c d=s[k].gY e i j:=by
 rw[dD s k h,sL,l];simp only[xK,fY];by_cases b:(s[k].gY e i j).1=true
 ·rw[zi b,<-b]
 rw[zh b];simp only[Bool.not_eq_true]at b;rw[<-b]
theorem MB {s:List It}{b c l:Nat}(h:k<s.length)(o:fY (s.take k) b c d=(true,i,l))(n:s[k].gY b i l=(false,m,j)):fY s b c d=(false,m,j):=by
 have e:=sL (s.take (k+1)) (s.drop (k+1)) b c d;rw[zC,BL h o,n]at e;simpa using e
def Pp (x:It):Prop:=∀lv c d,1<=lv->c<=1024->(((x.gY lv c d).1=true↔x.right=true/\lv+x.deep<=17/\c+x.count<=1024)/\((x.gY lv c d).1=true->(x.gY lv c d).2=(c+x.count,max d (lv-1+x.deep)))/\(x.gY lv c d).2.1<=1024/\(x.gY lv c d).2.2<=max d 16)
theorem Tu (s:List It)(l:∀x∈s,Pp x):∀h c d,1<=h->c<=1024->(((fY s h c d).1=true↔bH s=true/\(s= []\/h+bA s<=17)/\c+ay s<=1024)/\((fY s h c d).1=true->(fY s h c d).2=(c+ay s,if s= []then d else max d (h-1+bA s)))/\(fY s h c d).2.1<=1024/\(fY s h c d).2.2<=max d 16):=by
 induction s with
 |nil=>intro h c d k j;simp[fY,bH,ay,j];omega
 |cons x xs GC=>
  intro h c d k j;obtain⟨m,u,z,p⟩:=l x (by simp) h c d k j;by_cases i:(x.gY h c d).1=true
  ·have q:=u i;have o:=m.1 i;obtain⟨g1,g2,g3,g4⟩:=GC (fun y w=>l y (by simp[w])) h (c+x.count) (max d (h-1+x.deep)) k o.2.2;simp only[fY,i,xK,q];simp only[bH,ay,bA,zz,o.1,true_and];refine⟨?_, ?_,g3,by omega⟩
   ·rw[g1];constructor
    ·rintro⟨a,b,e⟩;refine⟨a,.inr ?_,by omega⟩;rcases b with rfl|b
     ·simp[bA];omega
     omega
    rintro⟨a,b,e⟩;refine⟨a, ?_,by omega⟩;rcases b with b|b
    ·cases b
    exact .inr (by omega)
   intro r;rw[g2 r];by_cases n:xs= []
   ·subst n;simp[bA,ay]
   simp only[n,xM];simp;omega
  simp only[fY,i];refine⟨?_,by simp,by simpa using z,by simpa using p⟩;simp only[Bool.false_eq_true,xM,false_iff];rintro⟨a,b,e⟩;simp only[bH,ay,bA,zz]at a b e;exact i (m.2 ⟨a.1,by rcases b with b|b;cases b;omega,by omega⟩)
theorem Ih (x:It):Pp x:=by
 induction x using It.ind with
 |h t l s ih=>
  intro j c d p n;by_cases i:16<j\/c=1024\/formed t l s.length=false
  ·simp only[It.gY,zi i,It.right,It.deep,It.count];refine⟨?_,by simp,n,by omega⟩;simp only[Bool.false_eq_true,false_iff,zz];rintro⟨⟨a,_⟩,b,e⟩;rcases i with h|h|h
   ·omega
   ·omega
   rw[h]at a;cases a
  obtain⟨n1,n2,m⟩:¬16<j/\¬c=1024/\¬formed t l s.length=false:=by
   refine⟨fun h=>i (.inl h),fun h=>i (.inr (.inl h)),fun h=>i (.inr (.inr h))⟩
  obtain⟨g1,g2,g3,g4⟩:=Tu s ih (j+1) (c+1) (max d j) (by omega) (by omega);simp only[It.gY,zh i,It.right,It.deep,It.count];simp only[Bool.not_eq_false]at m;refine⟨?_, ?_,g3,by omega⟩
  ·rw[g1,m];simp only[Bool.true_and];constructor
   ·rintro⟨a,b,e⟩;refine⟨a, ?_,by omega⟩;rcases b with rfl|b
    ·simp[bA];omega
    omega
   rintro⟨a,b,e⟩;exact⟨a,.inr (by omega),by omega⟩
  intro o;rw[g2 o];by_cases k:s= []
  ·subst k;simp[bA,ay];omega
  simp only[k,xM];simp;omega
theorem Tv (x:It):(x.gY 1 0 0).1=x.may:=by
 have h:=(Ih x 1 0 0 (by omega) (by omega)).1;rw[yE,h];simp only[It.may,zz,zY,zG];constructor
 ·rintro⟨a,b,c⟩;exact⟨⟨a,by omega⟩,c⟩
 rintro⟨⟨a,b⟩,c⟩;exact⟨a,by omega,c⟩
def fD (x:It)(D M:Int):Int:=if x.may=false then 1 else if D<x.deep then 6 else if M<x.count then 4 else 0
theorem mV {b:ByteArray}{l:Bool}{s:List It}(h:(It.mk b l s).right=true):formed b l s.length=true/\bH s=true:=by
 simpa only[It.right,zz]using h
theorem fZ {t:ByteArray}{l:Bool}{s:List It}(h:(It.mk t l s).right=true)(k:Nat)(b:k<s.length):s[k].right=true:=by
 simp only[It.right,zz]at h;have:∀s:List It,bH s=true->∀(k:Nat) (b:k<s.length),s[k].right=true:=by
  intro s;induction s with
  |nil=>intro _ k b;simp at b
  |cons x xs ih=>
   intro h k b;simp only[bH,zz]at h;cases k with
   |zero=>exact h.1
   |succ k=>simpa using ih h.2 k (by simpa using b)
 exact this s h.2 k b
def hxd (n:Nat):UInt8:=if n<10 then UInt8.ofNat (48+n)else UInt8.ofNat (87+n)
def hx (b:UInt8):List UInt8:= [hxd (b.toNat/16),hxd (b.toNat%16)]
mutual
def It.total :It->Nat
 | .mk t _ s=>t.size+lO s
def lO :List It->Nat
 | []=>0
 |x::xs=>x.total+lO xs
end
theorem ES (s:List It)(b:∀x∈s,x.o5=min x.total 10000):∀n,n<=10000->gJ s n=min (n+lO s) 10000:=by
 induction s with
 |nil=>intro n d;simp[gJ,lO];omega
 |cons x xs GC=>
  intro n d;have c:=b x (by simp);simp only[gJ,lO];rw[GC (fun y e=>b y (by simp[e])) _ (by omega),c];omega
theorem Ii (x:It):x.o5=min x.total 10000:=by
 induction x using It.ind with
 |h t l s ih=>
  simp only[It.o5,It.total];rw[ES s ih _ (by omega)];omega
def ei (L:Nat)(t:Ty):Prop:=t.right=false\/L<t.count
theorem BM {p:List UInt8->Option (Ty×List UInt8)}:∀(n:Nat) (l:List UInt8) (acc:List Ty) (b:Nat) (t:Ty) (r:List UInt8),fB p n l acc b=some (t,r)->∃(more:List Ty) (d:Nat),t= .mk 5 0 (acc++more) d
 |0,_,_,_,_,_,h=>by simp[fB]at h
 |n+1,[],_,_,_,_,h=>by simp[fB]at h
 |n+1,c::l,acc,b,t,r,h=>by
  unfold fB at h;split at h
  ·injection h with h;injection h with h _;exact⟨[],b,by rw[<-h,yV]⟩
  split at h
  ·cases h
  split at h
  ·cases h
  rename_i j d _
  split at h
  ·cases h
  rename_i y k _
  obtain⟨more,i,e⟩:=BM n _ _ _ _ _ h;exact⟨y::more,i,by rw[e,zB,Zs]⟩
theorem u' {s:List Ty}(h:bR s=true):∀x∈s,x.right=true:=fun x hx=>by
 obtain⟨j,b,rfl⟩:=yS hx;exact dk h j b
theorem va {k:Int}{l:List Ty}{b:Int}(h:(Ty.mk k z l b).right=true):bR l=true:=by
 simp only[Ty.right,zz]at h;exact h.2
theorem ei.sub {y:Ty}(h:ei L y)(acc more:List Ty)(b:Int):ei (1+ba acc+L) (.mk 5 0 (acc++ [y]++more) b):=by
 rcases h with h|h
 ·left;rw[Zq];intro c;have:=u' (va c) y (by simp);rw[h]at this;cases this
 right;simp only[Ty.count,fN,ba];omega
theorem ei.list {x:Ty}(h:ei L x)(n:Int):ei (1+L) (.mk 4 n [x] 0):=by
 rcases h with h|h
 ·left;rw[Zq];intro b;have:=u' (va b) x (by simp);rw[h]at this;cases this
 right;simp only[Ty.count,ba];omega
theorem ei.mono {L':Nat}{t:Ty}(h:ei L t)(b:L'<=L):ei L' t:=h.imp id (fun h=>Nat.lt_of_le_of_lt b h)
theorem ei.may {t:Ty}(h:ei 64 t):t.may=false:=by
 rw[Zq];intro b;simp only[Ty.may,zz,zY]at b;rcases h with h|h
 ·rw[h]at b;exact absurd b.2 (by simp)
 omega
theorem Ij (n:Nat)(b:UInt8):n<=fw n b:=by unfold fw;split<;>omega
theorem ET :∀(l:List UInt8) (n:Nat),n<=(hC l n).1
 | [],n=>zg _
 |b::l,n=>by
  unfold hC;split
  ·exact zK (Ij n b) (ET l _)
  exact zg _
theorem MC {at_:Nat}(h:k7 s at_ k m)(n:Nat)(r:List UInt8)(c:cx (s.data.toList.drop at_)=some (n,r)):m<=n:=by
 have e:hC (s.data.toList.drop at_) 0=(n,r):=by
  generalize s.data.toList.drop at_=l at*;match l,c with
  | [],c=>simp[cx]at c
  |b::l,c=>
   rw[rB]at c;split at c
   ·cases c
   split at c
   ·cases c
   injection c
 rw[h.1]at e;have:=ET (s.data.toList.drop k) m;rw[e]at this;exact this
def oH (most:Nat)(s:ByteArray)(p:Nat)(n:Nat)(ok:Bool)(q:Nat):Prop:=
 (ok=true->cx (s.data.toList.drop p)=some (n,s.data.toList.drop q)/\n<=most/\p<q)/\(ok=false->∀n' r,cx (s.data.toList.drop p)=some (n',r)->most<n')/\q<=s.size/\n<=most
theorem EU (h:∀b r,cx (s.data.toList.drop p)=some (b,r)->most<b)(c:q<=s.size)(d:n<=most):oH most s p n false q:=⟨(by intro h;cases h),fun _=>h,c,d⟩
theorem vc (h:cx (s.data.toList.drop p)=none)(d:q<=s.size)(c:n<=most):oH most s p n false q:=EU (by intro e r b;rw[h]at b;cases b) d c
theorem BN (h:cx (s.data.toList.drop p)=some (n,s.data.toList.drop q))(b:n<=most)(d:p<q)(c:q<=s.size):oH most s p n true q:=⟨fun _=>⟨h,b,d⟩,(by intro h;cases h),c,b⟩
theorem ql {k:Int}{l:List Ty}{b:Int}(L:Nat)(h:fW k z l.length b=false):ei L (.mk k z l b):=by
 left;simp[Ty.right,h]
theorem ab6 (h:∀c r,cx l=some (c,r)->64<c)(L:Nat)(t:Ty)(r:List UInt8)(b:AH (cx l)=some (t,r)):ei L t:=by
 cases hn:cx l with
 |none=>rw[hn]at b;cases b
 |some z=>
  obtain⟨n,d⟩:=z;have e:=h n d hn;rw[hn,AH]at b;split at b
  ·injection b with b;injection b with b _;subst b;refine ql L ?_;unfold fW;simp only[xK];simp;omega
  cases b
theorem ab7 (h:∀c r,cx l=some (c,r)->65536<c)(L:Nat)(t:Ty)(r:List UInt8)(b:tD 2 (cx l)=some (t,r)):ei L t:=by
 cases hn:cx l with
 |none=>rw[hn]at b;cases b
 |some z=>
  obtain⟨n,d⟩:=z;have e:=h n d hn;rw[hn,tD]at b;injection b with b;injection b with b _;subst b;refine ql L ?_;unfold fW;simp;omega
theorem ab8 (h:∀c r,cx l=some (c,r)->65536<c)(L:Nat)(t:Ty)(r:List UInt8)(b:tD 3 (cx l)=some (t,r)):ei L t:=by
 cases hn:cx l with
 |none=>rw[hn]at b;cases b
 |some z=>
  obtain⟨n,d⟩:=z;have e:=h n d hn;rw[hn,tD]at b;injection b with b;injection b with b _;subst b;refine ql L ?_;unfold fW;simp;omega
theorem MD (h:∀e r,cx l=some (e,r)->1024<e)(L:Nat)(x t:Ty)(r:List UInt8)(b:iX x (cx l)=some (t,r)):ei L t:=by
 cases hn:cx l with
 |none=>rw[hn]at b;cases b
 |some z=>
  obtain⟨n,c⟩:=z;have i:=h n c hn;rw[hn]at b;cases c with
  |nil=>cases b
  |cons d c=>
   rw[iX]at b;split at b
   ·injection b with b;injection b with b _;subst b;refine ql L ?_;unfold fW;simp;omega
   cases b
theorem Ik {x:Ty}{o:Option (Nat×List UInt8)}{t:Ty}(h:iX x o=some (t,r)):∃n:Nat,t= .mk 4 n [x] 0:=by
 match o,h with
 |some (n,d::r'),h=>
  rw[iX]at h;split at h
  ·injection h with h;injection h with h _;exact⟨n,h.symm⟩
  cases h
theorem ME {x:Ty}{t:Ty}(h:gL x l=some (t,r)):∃n:Nat,t= .mk 4 n [x] 0:=by
 match l,h with
 |c::l,h=>
  by_cases b:c=58
  ·subst b;rw[mU]at h;exact Ik h
  rw[uY x c l (fun e=>b (zQ.1 e))]at h;cases h
def tE (f L:Nat)(s:ByteArray)(p:Nat)(t:Ty)(ok:Bool)(q L':Nat):Prop:=
 (ok=true->aL f (s.data.toList.drop p)=some (t,s.data.toList.drop q)/\L'+t.count=L/\p<q)/\(ok=false->∀t' r,aL f (s.data.toList.drop p)=some (t',r)->ei L t')/\q<=s.size
def Pq (L:Nat)(s:ByteArray)(R:Option (Ty×List UInt8))(t:Ty)(ok:Bool)(q L':Nat):Prop:=
 (ok=true->R=some (t,s.data.toList.drop q)/\L'+t.count=L)/\(ok=false->∀t' r,R=some (t',r)->ei L t')/\q<=s.size
theorem Tw {R:Option (Ty×List UInt8)}{acc:List Ty}(h:Po f s R q acc j)(i:∀b r,aL f (s.data.toList.drop q)=some (b,r)->ei L b):∀b r,R=some (b,r)->ei (1+ba acc+L) b:=by
 intro b r d;obtain⟨n,c,_⟩:=h;cases hi:aL f (s.data.toList.drop q)with
 |none=>rw[hi,d]at c;cases c
 |some z=>
  obtain⟨y,k⟩:=z;rw[hi,d]at c;obtain⟨more,e,rfl⟩:=BM _ _ _ _ _ _ c;exact(i y k hi).sub acc more e
