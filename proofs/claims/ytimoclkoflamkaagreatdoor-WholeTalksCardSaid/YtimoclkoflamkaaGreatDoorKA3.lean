/- A buffer of bytes: copy within it, slices.Clone. -/
import Derived.Test.YtimoclkoflamkaaGreatDoorProg
import Derived.Test.YtimoclkoflamkaaGreatDoorKA2
import Derived.Lib.BufferMore
import Derived.Laws.CopyOwn
set_option linter.all false
set_option maxRecDepth 100000
set_option maxHeartbeats 1000000
open Go.Proofs.Tryz
namespace Go.Proofs.YtimoclkoflamkaaGreatDoor
open Go.RowKit
variable {s:ByteArray}{f q k p n d m e L most j:Nat}{l r:List UInt8}{t z:Int}
def zm:=@underlying75
def zN:=@List.length_drop
def zP:=@UInt8.toNat_inj
def yv:=@info_parts
def yO:=@List.append_nil
def yS:=@List.getElem_of_mem
def yU:=@List.suffix_cons
def y8:=@List.getElem?_drop
def xJ:=@Bool.eq_false_iff
def ZH:=@List.singleton_append
def ZN:=@List.suffix_refl
def Yy:=@Nat.le_of_lt
theorem pG :(prog.info? 5).map (fun i=>(i.zero,i.size,i.bytes))=some (some (.int .u8 0),1,1):=by kernel_rfl
theorem pH :(prog.info? 5).map (·.size)=some 1:=by kernel_rfl
theorem bR.blank (w:World)(base:Nat)(E:TypeId)(b:base<=w.heap.size):bR (w.alloc (.cells #[] E)) base E (.slice (some (w.heap.size,0)) 0 0) []:=
 ⟨_,0,rfl,by simp,by simp,.inr ⟨w.heap.size,#[],(0,0),rfl,b,yK w _,rfl,by simp[cb],.inl rfl⟩⟩
theorem F0 (base g n cap:Nat)(l:List UInt8)(w:World)(C:n=l.length)(h:bR w base 5 (.slice (some (g,0)) n cap) l)(D:l.length<=100000000):
 Calls prog 105 #[.slice (some (g,0)) n cap] w fun e w'=>(∃d,e= .returned d/\bR w' w.heap.size 5 d l/\∃k,d.ownBlock=some k)/\(w,w'):=by
 obtain⟨i0,hi,q,A,u⟩:=yv pG;have B:=fun(w:World) (a:Addr) (n c:Nat)=>Lib.run_eql_slice_some_nil (P:=prog) w a n c zm
 have z:=za (h.alloc (.cells #[] 5));have i:=za (bR.blank w w.heap.size 5 (ze _));clear h;go_enter func105,ntmps105
 go_wp2_with (
  at_builtin
  refine cx (by rfl) (.tmp 5) (.tmp 6) 75 75 (by rfl) w.heap.size 5 i0 zm hi q A u (by rfl) i.out _ l (by rfl) (LD zm z.out) (by simp) (by simp;omega) ?_;intro m j p w' o b;have s:Hid (bR w' w.heap.size 5 (.slice m j p) l):=za (by simpa using o);have y:Hid (∃k,(Value.slice m j p).ownBlock=some k):=za (by rcases b.own with e|⟨k,e,_⟩;exact⟨_,e⟩;exact⟨k,e⟩);have x:Hid (w,w'):=za (lP.below ((zi _ w).alloc (ze _) (.cells #[] 5)) b (by simp) (fun k r=>(i.out.ge k r).1));clear o b)
 go_ret;exact⟨⟨_,rfl,s.out,y.out⟩,x.out⟩
theorem bR.aac {w:World}{base g cap:Nat}(h:bR w base 5 (.slice (some (g,0)) n cap) l)(I:k<=l.length):
 ∃W,w.setCells g 0 (cb (l.drop k))=W/\bR W base 5 (.slice (some (g,0)) (l.length-k) cap) (l.drop k)/\lP w W (.slice (some (g,0)) n cap) (.slice (some (g,0)) (l.length-k) cap)/\
  (∀j v,(cb (l.drop k))[j]?=some v->w.cell? (((g,k):Addr).add j)=some v)/\(∀j,j<(cb (l.drop k)).length->(w.cell? (g,0+j)).isSome=true)/\∀j,j<(cb (l.drop k)).length->w.frozen? (g,0+j)=false:=by
 have o:=fun j (b:j<l.length)=>h.at_ (k:=j) b
 obtain⟨G,H,u,M,r,m⟩:=h;injection u with c hn hc;subst c;subst hc;subst hn;rcases m with⟨m,_⟩|⟨F,x,B,c,D,C,K,J,s⟩
 ·cases m
 injection c with c;injection c with c;subst c;have i:(l.drop k).length=l.length-k:=zN;have z:(cb (l.drop k)).length=l.length-k:=by rw[aO,i]
 obtain⟨y,E,L,p⟩:=fM (cb (l.drop k)) 0 w x C (by omega);refine⟨_,rfl,⟨_,cap,by rw[i],by rw[i];omega,r,.inr ⟨g,y,B,rfl,D,E,by omega, ?_,s⟩⟩,⟨⟨Yc _ _ _ _,iD _ _ _ _,ZC _ _ _ _,by rw[fN];exact ze _,fun j b q=>Zi w g 0 _ b (fun e=>q (by subst e;rfl))⟩,.inl rfl⟩, ?_, ?_, ?_⟩
 ·rw[zK,z]at p;rw[i,p];simp
 ·intro j v d;rw[FT,y8]at d;have b:k+j<l.length:=by
   rcases xp (k+j) l.length with h|h
   ·exact h
   rw[yZ h]at d;cases d
  have A:((g,k):Addr).add j=⟨g,k+j,none⟩:=by unfold Addr.add;split<;>simp_all
  rw[A,(o (k+j) b).1,zu];rw[zr b]at d⊢;simpa using d
 ·intro j b;rw[zK,(o j (by omega)).1];rfl
 intro j b;rw[zK];exact(o j (by omega)).2.1
def jd (b:UInt8):Bool:=decide (48<=b.toNat)&&decide (b.toNat<=57)
def fp (n:Nat)(b:UInt8):Nat:=if n<1000000 then 10*n+(b.toNat-48)else n
def hZ :List UInt8->Nat->Nat×List UInt8
 | [],n=>(n,[])
 |b::r,n=>if jd b then hZ r (fp n b)else(n,b::r)
def ng :List UInt8->Bool
 | []=>false
 |b::_=>jd b
def cq :List UInt8->Option (Nat×List UInt8)
 | []=>none
 |b::r=>if jd b=false then none else if b=48/\ng r=true then none else some (hZ (b::r) 0)
theorem sA (b:UInt8)(r:List UInt8):cq (b::r)=if jd b=false then none else if b=48/\ng r=true then none else some (hZ (b::r) 0):=rfl
def BH (acc:List Ty)(l:List UInt8):Option (List UInt8):=
 if acc= []then some l else match l with
  | []=>none
  |c::r=>if c=44 then some r else none
def tQ (l:List UInt8)(tl:Nat):Option (List UInt8×Nat):=match l with
 | []=>if 0<tl then none else some ([],tl)
 |c::r=>if c=63 then some (r,tl+1)else if 0<tl then none else some (c::r,tl)
def fA (p:List UInt8->Option (Ty×List UInt8)):Nat->List UInt8->List Ty->Nat->Option (Ty×List UInt8)
 |0,_,_,_=>none
 |_+1,[],_,_=>none
 |n+1,c::r,acc,tl=>
  if c=125 then some (.mk 5 0 acc tl,r)
  else match BH acc (c::r)with
   |none=>none
   |some l1=>match tQ l1 tl with
    |none=>none
    |some (l2,MZ)=>match p l2 with
     |none=>none
     |some (y,r')=>fA p n r' (acc++ [y]) MZ
def gN (x:Ty):List UInt8->Option (Ty×List UInt8)
 | []=>none
 |c::r=>if c=58 then(match cq r with
  |none=>none
  |some (_,[])=>none
  |some (n,d::r')=>if d=93 then some (.mk 4 n [x] 0,r')else none)else none
def aN :Nat->List UInt8->Option (Ty×List UInt8)
 |0,_=>none
 |_+1,[]=>none
 |f+1,c::r=>
  if c=117 then(match cq r with|none=>none|some (n,r')=>if n%8=0 then some (.mk 1 ((n/8:Nat):Int) [] 0,r')else none)
  else if c=98 then(match cq r with|none=>none|some (n,r')=>some (.mk 2 n [] 0,r'))
  else if c=115 then(match cq r with|none=>none|some (n,r')=>some (.mk 3 n [] 0,r'))
  else if c=91 then(match aN f r with|none=>none|some (x,r')=>gN x r')
  else if c=123 then fA (aN f) (r.length+1) r [] 0
  else none
def BI :Option (Nat×List UInt8)->Option (Ty×List UInt8)
 |none=>none
 |some (n,r)=>if n%8=0 then some (.mk 1 ((n/8:Nat):Int) [] 0,r)else none
def uH (k:Int):Option (Nat×List UInt8)->Option (Ty×List UInt8)
 |none=>none
 |some (n,r)=>some (.mk k n [] 0,r)
def wa (o:Option (Ty×List UInt8)):Option (Ty×List UInt8):=match o with
 |none=>none
 |some (x,r)=>gN x r
theorem LF (f:Nat)(r:List UInt8):aN (f+1) (117::r)=BI (cq r):=by
 simp only[aN,xM];cases cq r<;>rfl
theorem LG (f:Nat)(r:List UInt8):aN (f+1) (98::r)=uH 2 (cq r):=by
 simp only[aN,zf (show¬(98:UInt8)=117 by decide),xM];cases cq r<;>rfl
theorem LH (f:Nat)(r:List UInt8):aN (f+1) (115::r)=uH 3 (cq r):=by
 simp only[aN,zf (show¬(115:UInt8)=117 by decide),zf (show¬(115:UInt8)=98 by decide),xM];cases cq r<;>rfl
theorem LI (f:Nat)(r:List UInt8):aN (f+1) (91::r)=wa (aN f r):=by
 simp only[aN,zf (show¬(91:UInt8)=117 by decide),zf (show¬(91:UInt8)=98 by decide),zf (show¬(91:UInt8)=115 by decide),xM];cases aN f r<;>rfl
theorem LJ (f:Nat)(r:List UInt8):aN (f+1) (123::r)=fA (aN f) (r.length+1) r [] 0:=by
 simp only[aN,zf (show¬(123:UInt8)=117 by decide),zf (show¬(123:UInt8)=98 by decide),zf (show¬(123:UInt8)=115 by decide),zf (show¬(123:UInt8)=91 by decide),xM]
theorem F1 (f:Nat)(c:UInt8)(r:List UInt8)(i:c.toNat≠117)(j:c.toNat≠98)(b:c.toNat≠115)(l:c.toNat≠91)(d:c.toNat≠123):aN (f+1) (c::r)=none:=by
 have k:∀n:UInt8,c.toNat≠n.toNat->¬c=n:=fun n h e=>h (by rw[e])
 simp only[aN,zf (k 117 i),zf (k 98 j),zf (k 115 b),zf (k 91 l),zf (k 123 d)]
def i' (x:Ty):Option (Nat×List UInt8)->Option (Ty×List UInt8)
 |none=>none
 |some (_,[])=>none
 |some (n,d::r')=>if d.toNat=93 then some (.mk 4 n [x] 0,r')else none
theorem nh (x:Ty)(r:List UInt8):gN x (58::r)=i' x (cq r):=by
 simp only[gN,xM];cases cq r with
 |none=>rfl
 |some z=>
  obtain⟨n,b⟩:=z;cases b with
  |nil=>rfl
  |cons d b=>
   simp only[i'];by_cases h:d=93
   ·subst h;rfl
   have c:¬d.toNat=93:=fun e=>h (zP.1 e)
   simp[h,c]
theorem we (x:Ty)(c:UInt8)(r:List UInt8)(h:c.toNat≠58):gN x (c::r)=none:=by
 simp only[gN,zf (fun e:c=58=>h (by rw[e];rfl))]
def cO (l:List UInt8):Option Ty:=match aN 8 l with
 |some (x,[])=>if x.may then some x else none
 |_=>none
theorem qx :∀(l:List UInt8) (n m:Nat) (r:List UInt8),hZ l n=(m,r)->r<:+l
 | [],n,m,r,h=>by simp[hZ]at h;rw[<-h.2];exact ZN _
 |b::l,n,m,r,h=>by
  unfold hZ at h;split at h
  ·exact(qx l _ m r h).trans (yU b l)
  injection h with h1 h2;rw[<-h2];exact ZN _
theorem wg (n:Nat)(b:UInt8)(h:n<=10000100)(c:b.toNat<=57):fp n b<=10000100:=by unfold fp;split<;>omega
theorem kX (b:UInt8):jd b=true↔48<=b.toNat/\b.toNat<=57:=by simp[jd]
theorem F2 :∀(l:List UInt8) (n m:Nat) (r:List UInt8),hZ l n=(m,r)->n<=10000100->m<=10000100
 | [],n,m,r,h,hn=>by simp[hZ]at h;omega
 |b::l,n,m,r,h,hn=>by
  unfold hZ at h;split at h
  ·rename_i hd
   exact F2 l _ m r h (wg n b hn ((kX b).1 hd).2)
  injection h with h1 h2;omega
theorem sB (h:cq l=some (n,r)):r<:+l/\r.length<l.length/\n<=10000100:=by
 match l,h with
 | [],h=>simp[cq]at h
 |b::l,h=>
  rw[sA]at h;split at h
  ·cases h
  rename_i d
  split at h
  ·cases h
  injection h with h;have e:=F2 _ _ _ _ h (by omega);unfold hZ at h;rw[zg (by simpa using d)]at h;have c:=qx _ _ _ _ h;refine⟨c.trans (yU b l), ?_,e⟩;have:=c.length_le;simp;omega
theorem CF {acc:List Ty}(h:BH acc l=some r):r<:+l:=by
 unfold BH at h;split at h
 ·injection h with h;rw[h];exact ZN _
 match l,h with
 |c::l,h=>
  simp only at h;split at h
  ·injection h with h;rw[<-h];exact yU c l
  cases h
theorem LK {b:Nat}(h:tQ l d=some (r,b)):r<:+l:=by
 unfold tQ at h;match l,h with
 | [],h=>
  simp only at h;split at h
  ·cases h
  injection h with h;injection h with h _;rw[<-h];exact ZN _
 |c::l,h=>
  simp only at h;split at h
  ·injection h with h;injection h with h _;rw[<-h];exact yU c l
  split at h
  ·cases h
  injection h with h;injection h with h _;rw[<-h];exact ZN _
theorem CG {p:List UInt8->Option (Ty×List UInt8)}(b:∀l y r,p l=some (y,r)->r<:+l/\r.length<l.length):∀n l acc d y r,fA p n l acc d=some (y,r)->r<:+l/\r.length<l.length
 |0,_,_,_,_,_,h=>by simp[fA]at h
 |n+1,[],_,_,_,_,h=>by simp[fA]at h
 |n+1,c::l,acc,d,y,r,h=>by
  unfold fA at h;split at h
  ·injection h with h;injection h with _ h;rw[<-h];exact⟨yU c l,by simp⟩
  split at h
  ·cases h
  rename_i u i
  split at h
  ·cases h
  rename_i q w j
  split at h
  ·cases h
  rename_i s x e
  have k1:=CF i;have k2:=LK j;have k:=b _ _ _ e;have m:=CG b n _ _ _ _ _ h;have o:=(m.1.trans k.1).trans (k2.trans k1);refine⟨o, ?_⟩;have:=(k2.trans k1).length_le;omega
theorem CH {x y:Ty}(h:gN x l=some (y,r)):r<:+l/\r.length<l.length:=by
 unfold gN at h;match l,h with
 |c::l,h=>
  simp only at h;split at h
  ·split at h
   ·cases h
   ·cases h
   rename_i n d e b
   split at h
   ·injection h with h;injection h with _ h;subst h;have k1:=(sB b)
    refine⟨((yU d e).trans k1.1).trans (yU c l), ?_⟩;have:=k1.2.1;simp at this⊢;omega
   cases h
  cases h
theorem gB :∀(f:Nat) (l:List UInt8) (y:Ty) (r:List UInt8),aN f l=some (y,r)->r<:+l/\r.length<l.length
 |0,_,_,_,h=>by simp[aN]at h
 |f+1,[],_,_,h=>by simp[aN]at h
 |f+1,c::l,y,r,h=>by
  have key:∀{m:Nat} {d:List UInt8},cq l=some (m,d)->d<:+c::l/\d.length<(c::l).length:=fun b=>by
   have k:=sB b;exact⟨k.1.trans (yU c l),by have:=k.2.1;simp;omega⟩
  unfold aN at h;split at h
  ·split at h
   ·cases h
   rename_i b
   split at h
   ·injection h with h;injection h with _ h;subst h;exact key b
   cases h
  split at h
  ·split at h
   ·cases h
   rename_i b
   injection h with h;injection h with _ h;subst h;exact key b
  split at h
  ·split at h
   ·cases h
   rename_i b
   injection h with h;injection h with _ h;subst h;exact key b
  split at h
  ·split at h
   ·cases h
   rename_i x d b
   have k1:=gB f _ _ _ b;have k2:=CH h;exact⟨(k2.1.trans k1.1).trans (yU c l),by have:=k1.2;have:=k2.2;simp;omega⟩
  split at h
  ·have k:=CG (gB f) _ _ _ _ _ _ h;exact⟨k.1.trans (yU c l),by have:=k.2;simp;omega⟩
  cases h
theorem wh (e:q<=s.size)(h:r<:+s.data.toList.drop q):s.data.toList.drop (s.size-r.length)=r/\q<=s.size-r.length:=by
 obtain⟨pre,b⟩:=h;have d:=yi List.length b;simp only[zh,zN,aa]at d;have c:r=(s.data.toList.drop q).drop pre.length:=by rw[<-b,List.drop_left]
 rw[xx]at c;refine⟨?_,by omega⟩;rw[c];congr 1
 rw[zN,aa];omega
def fO (f:Nat)(s:ByteArray)(R:Option (Ty×List UInt8))(p:Nat)(acc:List Ty)(tl:Nat):Prop:=∃n,fA (aN f) n (s.data.toList.drop p) acc tl=R/\(s.data.toList.drop p).length<n
def Qc (f:Nat)(s:ByteArray)(R:Option (Ty×List UInt8))(q:Nat)(acc:List Ty)(tl:Nat):Prop:=∃n,(match aN f (s.data.toList.drop q)with|none=>none|some (y,r')=>fA (aN f) n r' (acc++ [y]) tl)=R/\(s.data.toList.drop q).length<=n
theorem fO.stop {R:Option (Ty×List UInt8)}{acc:List Ty}(h:fO f s R p acc d)(c:s.size<=p):R=none:=by
 obtain⟨n,b,_⟩:=h;rw[zL (by simpa using c)]at b;cases n<;>simp[fA]at b<;>exact b.symm
theorem fO.ends {R:Option (Ty×List UInt8)}{acc:List Ty}{c:Nat}(h:fO f s R p acc c)(d:p<s.size)(e:s[p].toNat=125):R=some (.mk 5 0 acc c,s.data.toList.drop (p+1)):=by
 obtain⟨n,b,i⟩:=h;rw[drop_cons s p d,show s[p]=125 from zP.1 e]at b;cases n with
 |zero=>omega
 |succ n=>simp[fA]at b;exact b.symm
theorem fO.open_ {R:Option (Ty×List UInt8)}{acc:List Ty}(h:fO f s R p acc d)(i:p<s.size)(j:s[p].toNat≠125):
 ∃n,(match BH acc (s.data.toList.drop p)with
  |none=>none
  |some l1=>match tQ l1 d with
   |none=>none
   |some (l2,MZ)=>match aN f l2 with
    |none=>none
    |some (y,r')=>fA (aN f) n r' (acc++ [y]) MZ)=R/\(s.data.toList.drop p).length<=n:=by
 obtain⟨n,b,c⟩:=h;have k:s[p]≠125:=fun e=>j (by rw[e];rfl)
 match n,b,c with
 |n+1,b,c=>
  refine⟨n, ?_,by omega⟩;rw[drop_cons s p i]at b⊢;simpa only[fA,zf k]using b
theorem fO.bad {R:Option (Ty×List UInt8)}{acc:List Ty}{l:Nat}(h:fO f s R p acc l)(b:p<s.size)(k:s[p].toNat≠125)(j:s[p].toNat≠44)(i:acc≠ []):R=none:=by
 obtain⟨n,c,_⟩:=h.open_ b k;have d:s[p]≠44:=fun e=>j (by rw[e];rfl)
 rw[show BH acc (s.data.toList.drop p)=none by rw[drop_cons s p b];simp[BH,i,d]]at c;exact c.symm
def qy (f:Nat)(s:ByteArray)(R:Option (Ty×List UInt8))(q:Nat)(acc:List Ty)(tl:Nat):Prop:=
 ∃n,(match tQ (s.data.toList.drop q) tl with
  |none=>none
  |some (l2,MZ)=>match aN f l2 with
   |none=>none
   |some (y,r')=>fA (aN f) n r' (acc++ [y]) MZ)=R/\(s.data.toList.drop q).length<=n
theorem fO.first {R:Option (Ty×List UInt8)}{c:Nat}(h:fO f s R p [] c)(d:p<s.size)(i:s[p].toNat≠125):qy f s R p [] c:=by
 obtain⟨n,b,e⟩:=h.open_ d i;rw[show BH [] (s.data.toList.drop p)=some (s.data.toList.drop p)by simp[BH]]at b;exact⟨n,b,e⟩
theorem fO.more {R:Option (Ty×List UInt8)}{acc:List Ty}(h:fO f s R p acc e)(b:p<s.size)(k:s[p].toNat=44)(j:acc≠ []):qy f s R (p+1) acc e:=by
 obtain⟨n,c,d⟩:=h.open_ b (by omega);have i:s[p]=44:=zP.1 k;rw[show BH acc (s.data.toList.drop p)=some (s.data.toList.drop (p+1))by rw[drop_cons s p b];simp[BH,j,i]]at c;rw[drop_cons s p b]at d;exact⟨n,c,by simp at d⊢;omega⟩
theorem qy.mark {R:Option (Ty×List UInt8)}{acc:List Ty}{b:Nat}(h:qy f s R q acc b)(e:q<s.size)(j:s[q].toNat=63):Qc f s R (q+1) acc (b+1):=by
 obtain⟨n,c,d⟩:=h;have i:s[q]=63:=zP.1 j;rw[show tQ (s.data.toList.drop q) b=some (s.data.toList.drop (q+1),b+1)by rw[drop_cons s q e];simp[tQ,i]]at c;rw[drop_cons s q e]at d;exact⟨n,c,by simp at d⊢;omega⟩
theorem qy.none_ {R:Option (Ty×List UInt8)}{acc:List Ty}{c:Nat}(h:qy f s R q acc c)(k:∀b:q<s.size,s[q].toNat≠63)(d:0<c):R=none:=by
 obtain⟨n,i,l⟩:=h;rw[show tQ (s.data.toList.drop q) c=none by
  by_cases b:q<s.size
  ·have j:s[q]≠63:=fun e=>k b (by rw[e];rfl)
   rw[drop_cons s q b];simp[tQ,j,d]
  rw[zL (by simp;omega)];simp[tQ,d]]at i
 exact i.symm
theorem qy.plain {R:Option (Ty×List UInt8)}{acc:List Ty}(h:qy f s R q acc 0)(j:∀b:q<s.size,s[q].toNat≠63):Qc f s R q acc 0:=by
 obtain⟨n,c,i⟩:=h;rw[show tQ (s.data.toList.drop q) 0=some (s.data.toList.drop q,0)by
  by_cases b:q<s.size
  ·have d:s[q]≠63:=fun e=>j b (by rw[e];rfl)
   rw[drop_cons s q b];simp[tQ,d]
  rw[zL (by simp;omega)];simp[tQ]]at c
 exact⟨n,c,i⟩
theorem Qc.none {R:Option (Ty×List UInt8)}{acc:List Ty}(h:Qc f s R q acc d)(c:aN f (s.data.toList.drop q)=none):R=none:=by
 obtain⟨n,b,_⟩:=h;rw[c]at b;exact b.symm
theorem Qc.some {R:Option (Ty×List UInt8)}{acc:List Ty}{y:Ty}(h:Qc f s R q acc e)(j:q<=s.size)(d:aN f (s.data.toList.drop q)=some (y,r)):
 fO f s R (s.size-r.length) (acc++ [y]) e/\q<s.size-r.length/\s.size-r.length<=s.size:=by
 obtain⟨n,c,i⟩:=h;obtain⟨k1,k2⟩:=gB _ _ _ _ d;have k:(s.data.toList.drop q).length=s.size-q:=by simp
 rw[k]at i k2;rw[d]at c;have b:=(wh j k1).1;exact⟨⟨n,by rw[b];exact c,by rw[b];omega⟩,by omega,by omega⟩
def kY (s:ByteArray)(at_ k m:Nat):Prop:=hZ (s.data.toList.drop at_) 0=hZ (s.data.toList.drop k) m/\∀j,at_<=j->j<k->∃h:j<s.size,jd s[j]=true
theorem kY.start (s:ByteArray)(at_:Nat):kY s at_ at_ 0:=⟨rfl,by omega⟩
theorem kY.next {at_:Nat}(h:kY s at_ k m)(b:k<s.size)(hd:jd s[k]=true):kY s at_ (k+1) (fp m s[k]):=by
 refine⟨?_,fun j c d=> ?_⟩
 ·rw[h.1,drop_cons s k b,hZ,zg hd]
 by_cases e:j=k
 ·subst e;exact⟨b,hd⟩
 exact h.2 j c (by omega)
theorem ou {at_:Nat}(b:∀h:at_<s.size,jd s[at_]=false):cq (s.data.toList.drop at_)=none:=by
 by_cases h:at_<s.size
 ·rw[drop_cons s at_ h];simp[cq,b h]
 rw[zL (by simp;omega)];rfl
theorem ow {at_:Nat}(h:kY s at_ k m)(d:at_+1<k)(hz:∀h:at_<s.size,s[at_].toNat=48):cq (s.data.toList.drop at_)=none:=by
 obtain⟨b,d1⟩:=h.2 at_ (by omega) (by omega);obtain⟨e,d2⟩:=h.2 (at_+1) (by omega) d;have c:s[at_]=48:=zP.1 (hz b);rw[drop_cons s at_ b,drop_cons s (at_+1) e];simp[cq,c,ng,d2]
theorem ko {at_:Nat}(h:kY s at_ k m)(n:at_<k)(l:∀h:k<s.size,jd s[k]=false)(hz:at_+1<k->∀h:at_<s.size,s[at_].toNat≠48):cq (s.data.toList.drop at_)=some (m,s.data.toList.drop k):=by
 obtain⟨j,d1⟩:=h.2 at_ (by omega) n;have e:hZ (s.data.toList.drop k) m=(m,s.data.toList.drop k):=by
  by_cases b:k<s.size
  ·rw[drop_cons s k b,hZ,zf (by rw[l b];simp)]
  rw[zL (by simp;omega)];rfl
 have i:=h.1;rw[e]at i;rw[drop_cons s at_ j]at i⊢;rw[sA,zf (by simp[d1]),zf,i];rintro⟨c,hd⟩;have d:at_+1<k\/k=at_+1:=by omega
 rcases d with d|d
 ·exact hz d j (by rw[c];rfl)
 subst d;by_cases b:at_+1<s.size
 ·rw[drop_cons s (at_+1) b]at hd;simp[ng,l b]at hd
 rw[zL (by simp;omega)]at hd;simp[ng]at hd
theorem qz (b:q<=s.size)(h:cq (s.data.toList.drop q)=some (n,r)):s.data.toList.drop (s.size-r.length)=r/\q<s.size-r.length/\s.size-r.length<=s.size/\n<=10000100:=by
 obtain⟨c,e,d⟩:=sB h;obtain⟨k1,k2⟩:=wh b c;simp at e;exact⟨k1,by omega,by omega,d⟩
def ia :List UInt8->Bool
 | []=>false
 |b::_=>b==0
def Ty.at (t:Ty)(i:Nat):Ty:=(t.sub[if t.kind=4 then 0 else i]?).getD (.mk 0 0 [] 0)
def rU (t:Ty)(tx:ByteArray)(l:Bool)(m:Nat):Bool:=
 if t.kind=1 then !l&&decide ((tx.size:Int)<=t.size)&& !ia tx.data.toList
 else if t.kind=2 then !l&&decide ((tx.size:Int)=t.size)
 else if t.kind=3 then !l&&decide ((tx.size:Int)<=t.size)
 else if t.kind=4 then l&&decide ((m:Int)<=t.size)
 else l&&decide (m<=t.sub.length)&&decide ((t.sub.length:Int)-t.tail<=m)
mutual
def It.dF :It->Ty->Bool
 | .mk tx l s,t=>rU t tx l s.length&&dS s t 0
def dS :List It->Ty->Nat->Bool
 | [],_,_=>true
 |x::xs,t,i=>x.dF (t.at i)&&dS xs t (i+1)
end
theorem qA (a b:List It)(t:Ty)(i:Nat):dS (a++b) t i=(dS a t i&&dS b t (i+a.length)):=by
 induction a generalizing i with
 |nil=>simp[dS]
 |cons x xs ih=>simp only[zT,dS,ih,zx,Bool.and_assoc];rw[show i+1+xs.length=i+(xs.length+1)from by omega]
theorem wj {s:List It}{t:Ty}(h:k<s.length):dS (s.take (k+1)) t 0=(dS (s.take k) t 0&&s[k].dF (t.at k)):=by
 rw[fo s k h,qA];simp[dS,yF (Yy h)]
theorem F3 {s:List It}{t:Ty}(h:k<s.length)(c:s[k].dF (t.at k)=false):dS s t 0=false:=by
 have b:=qA (s.take (k+1)) (s.drop (k+1)) t 0;rw[zE,wj h,c]at b;simpa using b
def U8 (n:Nat):ByteArray:=⟨(List.replicate n 0).toArray⟩
mutual
def Ty.zero :Ty->It
 | .mk k s l t=>if k=2 then .mk (U8 s.toNat) false []else if k=4 then .mk ⟨#[]⟩ true []else if k=5 then .mk ⟨#[]⟩ true (Xu l ((l.length:Int)-t).toNat)else .mk ⟨#[]⟩ false []
def Xu :List Ty->Nat->List It
 | [],_=> []
 |_::_,0=> []
 |x::xs,n+1=>x.zero::Xu xs n
end
def Ty.kept (t:Ty):Nat:=if t.kind=5 then((t.sub.length:Int)-t.tail).toNat else 0
theorem QV {t:Ty}(h:t.may=true):t.count<=64/\t.deep<=8/\t.right=true:=by
 unfold Ty.may at h;simp only[zv,zU]at h;exact⟨h.1.1,h.1.2,h.2⟩
theorem jJ {k s:Int}{l:List Ty}(h:(Ty.mk k s l t).right=true):fK k s l.length t=true/\bS l=true:=by
 simpa only[Ty.right,zv]using h
theorem kq {k s:Int}(h:fK k s n t=true):
 (k=1/\(s=1\/s=2\/s=4\/s=8)/\n=0/\t=0)\/(k=2/\1<=s/\s<=65536/\n=0/\t=0)\/(k=3/\0<=s/\s<=65536/\n=0/\t=0)\/(k=4/\0<=s/\s<=1024/\n=1/\t=0)\/(k=5/\s=0/\n<=16/\0<=t/\t<=n):=by
 unfold fK at h;split at h
 ·exact .inl ⟨by assumption,by simpa using h⟩
 split at h
 ·exact .inr (.inl ⟨by assumption,by simpa using h⟩)
 split at h
 ·exact .inr (.inr (.inl ⟨by assumption,by simpa using h⟩))
 split at h
 ·exact .inr (.inr (.inr (.inl ⟨by assumption,by simpa using h⟩)))
 split at h
 ·exact .inr (.inr (.inr (.inr ⟨by assumption,by simpa using h⟩)))
 cases h
mutual
def Ty.wide :Ty->Bool
 | .mk k s l _=>(decide (k=2)&&decide (3000<s))||Xv l
def Xv :List Ty->Bool
 | []=>false
 |x::xs=>x.wide||Xv xs
end
def ep (ty:Ty)(x:It):Int:=if ty.may&&x.may then(if x.dF ty then 0 else 12)else 1
mutual
def It.gY :It->Nat->Nat->Nat->Bool×Nat×Nat
 | .mk t l s,lv,c,d=>if 16<lv\/c=1024\/formed t l s.length=false then(false,c,d)else gb s (lv+1) (c+1) (max d lv)
def gb :List It->Nat->Nat->Nat->Bool×Nat×Nat
 | [],_,c,d=>(true,c,d)
 |x::xs,lv,c,d=>if(x.gY lv c d).1 then gb xs lv (x.gY lv c d).2.1 (x.gY lv c d).2.2 else(false,(x.gY lv c d).2.1,(x.gY lv c d).2.2)
end
theorem tE (a b:List It)(e c d:Nat):gb (a++b) e c d=if(gb a e c d).1 then gb b e (gb a e c d).2.1 (gb a e c d).2.2 else(false,(gb a e c d).2.1,(gb a e c d).2.2):=by
 induction a generalizing c d with
 |nil=>simp[gb]
 |cons x xs ih=>
  by_cases h:(x.gY e c d).1=true
  ·simp only[zT,gb,h,xM,ih]
  simp[gb,h]
theorem CI {s:List It}{c i:Nat}(h:k<s.length)(l:gb (s.take k) e c d=(true,i,j)):gb (s.take (k+1)) e c d=s[k].gY e i j:=by
 rw[fo s k h,tE,l];simp only[xM,gb];by_cases b:(s[k].gY e i j).1=true
 ·rw[zg b,<-b]
 rw[zf b];simp only[Bool.not_eq_true]at b;rw[<-b]
theorem NW {s:List It}{b c l:Nat}(h:k<s.length)(n:gb (s.take k) b c d=(true,m,j))(o:s[k].gY b m j=(false,e,l)):gb s b c d=(false,e,l):=by
 have i:=tE (s.take (k+1)) (s.drop (k+1)) b c d;rw[zE,CI h n,o]at i;simpa using i
def QW (x:It):Prop:=∀lv c d,1<=lv->c<=1024->(((x.gY lv c d).1=true↔x.right=true/\lv+x.deep<=17/\c+x.count<=1024)/\((x.gY lv c d).1=true->(x.gY lv c d).2=(c+x.count,max d (lv-1+x.deep)))/\(x.gY lv c d).2.1<=1024/\(x.gY lv c d).2.2<=max d 16)
theorem U9 (s:List It)(o:∀x∈s,QW x):∀h c d,1<=h->c<=1024->(((gb s h c d).1=true↔dj s=true/\(s= []\/h+cK s<=17)/\c+aC s<=1024)/\((gb s h c d).1=true->(gb s h c d).2=(c+aC s,if s= []then d else max d (h-1+cK s)))/\(gb s h c d).2.1<=1024/\(gb s h c d).2.2<=max d 16):=by
 induction s with
 |nil=>intro h c d j k;simp[gb,dj,aC,k];omega
 |cons x xs Ir=>
  intro h c d j k;obtain⟨m,u,p,w⟩:=o x (by simp) h c d j k;by_cases i:(x.gY h c d).1=true
  ·have q:=u i;have l:=m.1 i;obtain⟨g1,g2,g3,g4⟩:=Ir (fun y z=>o y (by simp[z])) h (c+x.count) (max d (h-1+x.deep)) j l.2.2;simp only[gb,i,xM,q];simp only[dj,aC,cK,zv,l.1,true_and];refine⟨?_, ?_,g3,by omega⟩
   ·rw[g1];constructor
    ·rintro⟨a,b,e⟩;refine⟨a,.inr ?_,by omega⟩;rcases b with rfl|b
     ·simp[cK];omega
     omega
    rintro⟨a,b,e⟩;refine⟨a, ?_,by omega⟩;rcases b with b|b
    ·cases b
    exact .inr (by omega)
   intro r;rw[g2 r];by_cases n:xs= []
   ·subst n;simp[cK,aC]
   simp only[n,xO];simp;omega
  simp only[gb,i];refine⟨?_,by simp,by simpa using p,by simpa using w⟩;simp only[Bool.false_eq_true,xO,false_iff];rintro⟨a,b,e⟩;simp only[dj,aC,cK,zv]at a b e;exact i (m.2 ⟨a.1,by rcases b with b|b;cases b;omega,by omega⟩)
theorem Jv (x:It):QW x:=by
 induction x using It.ind with
 |h t l s ih=>
  intro j c d p o;by_cases i:16<j\/c=1024\/formed t l s.length=false
  ·simp only[It.gY,zg i,It.right,It.deep,It.count];refine⟨?_,by simp,o,by omega⟩;simp only[Bool.false_eq_true,false_iff,zv];rintro⟨⟨a,_⟩,b,e⟩;rcases i with h|h|h
   ·omega
   ·omega
   rw[h]at a;cases a
  obtain⟨n1,n2,m⟩:¬16<j/\¬c=1024/\¬formed t l s.length=false:=by
   refine⟨fun h=>i (.inl h),fun h=>i (.inr (.inl h)),fun h=>i (.inr (.inr h))⟩
  obtain⟨g1,g2,g3,g4⟩:=U9 s ih (j+1) (c+1) (max d j) (by omega) (by omega);simp only[It.gY,zf i,It.right,It.deep,It.count];simp only[Bool.not_eq_false]at m;refine⟨?_, ?_,g3,by omega⟩
  ·rw[g1,m];simp only[Bool.true_and];constructor
   ·rintro⟨a,b,e⟩;refine⟨a, ?_,by omega⟩;rcases b with rfl|b
    ·simp[cK];omega
    omega
   rintro⟨a,b,e⟩;exact⟨a,.inr (by omega),by omega⟩
  intro n;rw[g2 n];by_cases k:s= []
  ·subst k;simp[cK,aC];omega
  simp only[k,xO];simp;omega
theorem U' (x:It):(x.gY 1 0 0).1=x.may:=by
 have h:=(Jv x 1 0 0 (by omega) (by omega)).1;rw[yP,h];simp only[It.may,zv,zU,zK];constructor
 ·rintro⟨a,b,c⟩;exact⟨⟨a,by omega⟩,c⟩
 rintro⟨⟨a,b⟩,c⟩;exact⟨a,by omega,c⟩
def fP (x:It)(D M:Int):Int:=if x.may=false then 1 else if D<x.deep then 6 else if M<x.count then 4 else 0
theorem ni {b:ByteArray}{l:Bool}{s:List It}(h:(It.mk b l s).right=true):formed b l s.length=true/\dj s=true:=by
 simpa only[It.right,zv]using h
theorem lQ {t:ByteArray}{l:Bool}{s:List It}(h:(It.mk t l s).right=true)(k:Nat)(b:k<s.length):s[k].right=true:=by
 simp only[It.right,zv]at h;have:∀s:List It,dj s=true->∀(k:Nat) (b:k<s.length),s[k].right=true:=by
  intro s;induction s with
  |nil=>intro _ k b;simp at b
  |cons x xs ih=>
   intro h k b;simp only[dj,zv]at h;cases k with
   |zero=>exact h.1
   |succ k=>simpa using ih h.2 k (by simpa using b)
 exact this s h.2 k b
def hxd (n:Nat):UInt8:=if n<10 then UInt8.ofNat (48+n)else UInt8.ofNat (87+n)
def hx (b:UInt8):List UInt8:= [hxd (b.toNat/16),hxd (b.toNat%16)]
mutual
def It.total :It->Nat
 | .mk t _ s=>t.size+lR s
def lR :List It->Nat
 | []=>0
 |x::xs=>x.total+lR xs
end
theorem F4 (s:List It)(b:∀x∈s,x.pD=min x.total 10000):∀n,n<=10000->gL s n=min (n+lR s) 10000:=by
 induction s with
 |nil=>intro n d;simp[gL,lR];omega
 |cons x xs Ir=>
  intro n d;have c:=b x (by simp);simp only[gL,lR];rw[Ir (fun y e=>b y (by simp[e])) _ (by omega),c];omega
theorem Jw (x:It):x.pD=min x.total 10000:=by
 induction x using It.ind with
 |h t l s ih=>
  simp only[It.pD,It.total];rw[F4 s ih _ (by omega)];omega
def ef (L:Nat)(t:Ty):Prop:=t.right=false\/L<t.count
theorem CJ {p:List UInt8->Option (Ty×List UInt8)}:∀(n:Nat) (l:List UInt8) (acc:List Ty) (b:Nat) (t:Ty) (r:List UInt8),fA p n l acc b=some (t,r)->∃(more:List Ty) (d:Nat),t= .mk 5 0 (acc++more) d
 |0,_,_,_,_,_,h=>by simp[fA]at h
 |n+1,[],_,_,_,_,h=>by simp[fA]at h
 |n+1,c::l,acc,b,t,r,h=>by
  unfold fA at h;split at h
  ·injection h with h;injection h with h _;exact⟨[],b,by rw[<-h,yO]⟩
  split at h
  ·cases h
  split at h
  ·cases h
  rename_i j d _
  split at h
  ·cases h
  rename_i y k _
  obtain⟨more,i,e⟩:=CJ n _ _ _ _ _ h;exact⟨y::more,i,by rw[e,zB,ZH]⟩
theorem wm {s:List Ty}(h:bS s=true):∀x∈s,x.right=true:=fun x hx=>by
 obtain⟨j,b,rfl⟩:=yS hx;exact eK h j b
theorem wu {k:Int}{l:List Ty}{b:Int}(h:(Ty.mk k z l b).right=true):bS l=true:=by
 simp only[Ty.right,zv]at h;exact h.2
theorem ef.sub {y:Ty}(h:ef L y)(acc more:List Ty)(c:Int):ef (1+ba acc+L) (.mk 5 0 (acc++ [y]++more) c):=by
 rcases h with h|h
 ·left;rw[xJ];intro b;have:=wm (wu b) y (by simp);rw[h]at this;cases this
 right;simp only[Ty.count,fL,ba];omega
theorem ef.list {x:Ty}(h:ef L x)(n:Int):ef (1+L) (.mk 4 n [x] 0):=by
 rcases h with h|h
 ·left;rw[xJ];intro b;have:=wm (wu b) x (by simp);rw[h]at this;cases this
 right;simp only[Ty.count,ba];omega
theorem ef.mono {L':Nat}{t:Ty}(h:ef L t)(b:L'<=L):ef L' t:=h.imp id (fun h=>Nat.lt_of_le_of_lt b h)
theorem ef.may {t:Ty}(h:ef 64 t):t.may=false:=by
 rw[xJ];intro b;simp only[Ty.may,zv,zU]at b;rcases h with h|h
 ·rw[h]at b;exact absurd b.2 (by simp)
 omega
theorem Jx (n:Nat)(b:UInt8):n<=fp n b:=by unfold fp;split<;>omega
theorem F5 :∀(l:List UInt8) (n:Nat),n<=(hZ l n).1
 | [],n=>ze _
 |b::l,n=>by
  unfold hZ;split
  ·exact zz (Jx n b) (F5 l _)
  exact ze _
theorem NX {at_:Nat}(h:kY s at_ k m)(n:Nat)(r:List UInt8)(c:cq (s.data.toList.drop at_)=some (n,r)):m<=n:=by
 have e:hZ (s.data.toList.drop at_) 0=(n,r):=by
  generalize s.data.toList.drop at_=l at*;match l,c with
  | [],c=>simp[cq]at c
  |b::l,c=>
   rw[sA]at c;split at c
   ·cases c
   split at c
   ·cases c
   injection c
 rw[h.1]at e;have:=F5 (s.data.toList.drop k) m;rw[e]at this;exact this
def oZ (most:Nat)(s:ByteArray)(p:Nat)(n:Nat)(ok:Bool)(q:Nat):Prop:=
 (ok=true->cq (s.data.toList.drop p)=some (n,s.data.toList.drop q)/\n<=most/\p<q)/\(ok=false->∀n' r,cq (s.data.toList.drop p)=some (n',r)->most<n')/\q<=s.size/\n<=most
theorem F6 (h:∀b r,cq (s.data.toList.drop p)=some (b,r)->most<b)(c:q<=s.size)(d:n<=most):oZ most s p n false q:=⟨(by intro h;cases h),fun _=>h,c,d⟩
theorem wv (h:cq (s.data.toList.drop p)=none)(c:q<=s.size)(d:n<=most):oZ most s p n false q:=F6 (by intro e r b;rw[h]at b;cases b) c d
theorem CK (h:cq (s.data.toList.drop p)=some (n,s.data.toList.drop q))(b:n<=most)(c:p<q)(d:q<=s.size):oZ most s p n true q:=⟨fun _=>⟨h,b,c⟩,(by intro h;cases h),d,b⟩
theorem qB {k:Int}{l:List Ty}{b:Int}(L:Nat)(h:fK k z l.length b=false):ef L (.mk k z l b):=by
 left;simp[Ty.right,h]
theorem aeg (h:∀c r,cq l=some (c,r)->64<c)(L:Nat)(t:Ty)(r:List UInt8)(b:BI (cq l)=some (t,r)):ef L t:=by
 cases hn:cq l with
 |none=>rw[hn]at b;cases b
 |some z=>
  obtain⟨n,d⟩:=z;have e:=h n d hn;rw[hn,BI]at b;split at b
  ·injection b with b;injection b with b _;subst b;refine qB L ?_;unfold fK;simp only[xM];simp;omega
  cases b
theorem aeh (h:∀c r,cq l=some (c,r)->65536<c)(L:Nat)(t:Ty)(r:List UInt8)(b:uH 2 (cq l)=some (t,r)):ef L t:=by
 cases hn:cq l with
 |none=>rw[hn]at b;cases b
 |some z=>
  obtain⟨n,d⟩:=z;have e:=h n d hn;rw[hn,uH]at b;injection b with b;injection b with b _;subst b;refine qB L ?_;unfold fK;simp;omega
theorem aei (h:∀c r,cq l=some (c,r)->65536<c)(L:Nat)(t:Ty)(r:List UInt8)(b:uH 3 (cq l)=some (t,r)):ef L t:=by
 cases hn:cq l with
 |none=>rw[hn]at b;cases b
 |some z=>
  obtain⟨n,d⟩:=z;have e:=h n d hn;rw[hn,uH]at b;injection b with b;injection b with b _;subst b;refine qB L ?_;unfold fK;simp;omega
theorem NY (h:∀e r,cq l=some (e,r)->1024<e)(L:Nat)(x t:Ty)(r:List UInt8)(b:i' x (cq l)=some (t,r)):ef L t:=by
 cases hn:cq l with
 |none=>rw[hn]at b;cases b
 |some z=>
  obtain⟨n,c⟩:=z;have i:=h n c hn;rw[hn]at b;cases c with
  |nil=>cases b
  |cons d c=>
   rw[i']at b;split at b
   ·injection b with b;injection b with b _;subst b;refine qB L ?_;unfold fK;simp;omega
   cases b
theorem Jy {x:Ty}{o:Option (Nat×List UInt8)}{t:Ty}(h:i' x o=some (t,r)):∃n:Nat,t= .mk 4 n [x] 0:=by
 match o,h with
 |some (n,d::r'),h=>
  rw[i']at h;split at h
  ·injection h with h;injection h with h _;exact⟨n,h.symm⟩
  cases h
theorem NZ {x:Ty}{t:Ty}(h:gN x l=some (t,r)):∃n:Nat,t= .mk 4 n [x] 0:=by
 match l,h with
 |c::l,h=>
  by_cases b:c=58
  ·subst b;rw[nh]at h;exact Jy h
  rw[we x c l (fun e=>b (zP.1 e))]at h;cases h
def uI (f L:Nat)(s:ByteArray)(p:Nat)(t:Ty)(ok:Bool)(q L':Nat):Prop:=
 (ok=true->aN f (s.data.toList.drop p)=some (t,s.data.toList.drop q)/\L'+t.count=L/\p<q)/\(ok=false->∀t' r,aN f (s.data.toList.drop p)=some (t',r)->ef L t')/\q<=s.size
def QX (L:Nat)(s:ByteArray)(R:Option (Ty×List UInt8))(t:Ty)(ok:Bool)(q L':Nat):Prop:=
 (ok=true->R=some (t,s.data.toList.drop q)/\L'+t.count=L)/\(ok=false->∀t' r,R=some (t',r)->ef L t')/\q<=s.size
theorem Va {R:Option (Ty×List UInt8)}{acc:List Ty}(h:Qc f s R q acc k)(e:∀b r,aN f (s.data.toList.drop q)=some (b,r)->ef L b):∀b r,R=some (b,r)->ef (1+ba acc+L) b:=by
 intro b r d;obtain⟨n,c,_⟩:=h;cases hi:aN f (s.data.toList.drop q)with
 |none=>rw[hi,d]at c;cases c
 |some z=>
  obtain⟨y,j⟩:=z;rw[hi,d]at c;obtain⟨more,i,rfl⟩:=CJ _ _ _ _ _ _ c;exact(e y j hi).sub acc more i
