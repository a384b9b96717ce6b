/- A buffer of bytes: copy within it, slices.Clone. -/
import Derived.Test.YtdbmifjankgfpaaGreatDoorProg
import Derived.Test.YtdbmifjankgfpaaGreatDoorKA1
import Derived.Lib.BufferMore
import Derived.Laws.CopyOwn
set_option linter.all false
set_option maxRecDepth 100000
set_option maxHeartbeats 1000000
namespace Go.Proofs.YtdbmifjankgfpaaGreatDoor
open Tryz
open Go.RowKit
def zr:=@underlying31
def yE:=@info_parts
def yO:=@List.append_nil
def yW:=@List.getElem_of_mem
def xq:=@List.getElem?_drop
def Zv:=@Bool.eq_false_iff
def Zz:=@List.singleton_append
theorem vo :(prog.info? 5).map (fun i=>(i.zero,i.size,i.bytes))=some (some (.int .u8 0),1,1):=by kernel_rfl
theorem pf :(prog.info? 5).map (·.size)=some 1:=by kernel_rfl
theorem bL.blank (w:World)(base:Nat)(E:TypeId)(b:base<=w.heap.size):bL (w.alloc (.cells #[] E)) base E (.slice (some ⟨w.heap.size,0,none⟩) 0 0) []:=
 ⟨_,0,rfl,by simp,by simp,.inr ⟨w.heap.size,#[],(0,0),rfl,b,yM w _,rfl,by simp[cb],.inl rfl⟩⟩
theorem EZ (base g n cap:Nat)(l:List UInt8)(w:World)(D:n=l.length)(h:bL w base 5 (.slice (some ⟨g,0,none⟩) n cap) l)(B:l.length<=1000000):
 Calls prog 95 #[.slice (some ⟨g,0,none⟩) n cap] w fun e w'=>(∃d,e= .returned d/\bL w' w.heap.size 5 d l/\∃k,d.ownBlock=some k)/\Below w.heap.size w w':=by
 obtain⟨i0,hi,r,x,u⟩:=yE vo;have C:=fun(w:World) (a:Addr) (n c:Nat)=>Lib.run_eql_slice_some_nil (P:=prog) w a n c zr
 have z:=za (h.alloc (.cells #[] 5));have p:=za (bL.blank w w.heap.size 5 (zd _));clear h;go_enter func95,ntmps95
 go_wp2_with (
  at_builtin
  refine cx (by rfl) (.tmp 5) (.tmp 6) 31 31 (by rfl) w.heap.size 5 i0 zr hi r x u (by rfl) p.out _ l (by rfl) (Ks zr z.out) (by simp) (by simp;omega) ?_;intro i o j w' m b;have q:Hid (bL w' w.heap.size 5 (.slice i o j) l):=za (by simpa using m);have y:Hid (∃k,(Value.slice i o j).ownBlock=some k):=za (by rcases b.own with e|⟨k,e,_⟩;exact⟨_,e⟩;exact⟨k,e⟩);have A:Hid (Below w.heap.size w w'):=za (mP.below ((zl _ w).alloc (zd _) (.cells #[] 5)) b (by simp) (fun k s=>(p.out.ge k s).1));clear m b)
 go_ret;exact⟨⟨_,rfl,q.out,y.out⟩,A.out⟩
theorem bL.WS {w:World}{base g n cap k:Nat}{l:List UInt8}(h:bL w base 5 (.slice (some ⟨g,0,none⟩) n cap) l)(K:k<=l.length):
 ∃W,w.setCells g 0 (cb (l.drop k))=W/\bL W base 5 (.slice (some ⟨g,0,none⟩) (l.length-k) cap) (l.drop k)/\mP w W (.slice (some ⟨g,0,none⟩) n cap) (.slice (some ⟨g,0,none⟩) (l.length-k) cap)/\
  (∀j v,(cb (l.drop k))[j]?=some v->w.cell? ((⟨g,k,none⟩:Addr).add j)=some v)/\(∀j,j<(cb (l.drop k)).length->(w.cell? ⟨g,0+j,none⟩).isSome=true)/\∀j,j<(cb (l.drop k)).length->w.frozen? ⟨g,0+j,none⟩=false:=by
 have o:=fun j (b:j<l.length)=>h.at_ (k:=j) b
 obtain⟨F,M,E,H,u,m⟩:=h;injection E with c hn hc;subst c;subst hc;subst hn;rcases m with⟨m,_⟩|⟨L,z,x,c,A,r,G,J,q⟩
 ·cases m
 injection c with c;injection c with c;subst c;have i:(l.drop k).length=l.length-k:=zR;have D:(cb (l.drop k)).length=l.length-k:=by rw[bs,i]
 obtain⟨y,C,I,p⟩:=iE (cb (l.drop k)) 0 w z r (by omega);refine⟨_,rfl,⟨_,cap,by rw[i],by rw[i];omega,u,.inr ⟨g,y,x,rfl,A,C,by omega, ?_,q⟩⟩,⟨⟨World.os_setCells _ _ _ _,kL _ _ _ _,Yn _ _ _ _,by rw[iF];exact zd _,fun j b B=>ZY w g 0 _ b (fun e=>B (by subst e;rfl))⟩,.inl rfl⟩, ?_, ?_, ?_⟩
 ·rw[zM,D]at p;rw[i,p];simp
 ·intro j v d;rw[ET,xq]at d;have b:k+j<l.length:=by
   rcases xC (k+j) l.length with h|h
   ·exact h
   rw[yY h]at d;cases d
  have s:(⟨g,k,none⟩:Addr).add j=⟨g,k+j,none⟩:=by unfold Addr.add;split<;>simp_all
  rw[s,(o (k+j) b).1,zv];rw[zA b]at d⊢;simpa using d
 ·intro j b;rw[zM,(o j (by omega)).1];rfl
 intro j b;rw[zM];exact(o j (by omega)).2.1
mutual
def It.gZ :It->Nat->Nat->Nat->Bool×Nat×Nat
 | .mk t l s,lv,c,d=>if 16<lv\/c=1024\/formed t l s.length=false then(false,c,d)else gh s (lv+1) (c+1) (max d lv)
def gh :List It->Nat->Nat->Nat->Bool×Nat×Nat
 | [],_,c,d=>(true,c,d)
 |x::xs,lv,c,d=>if(x.gZ lv c d).1 then gh xs lv (x.gZ lv c d).2.1 (x.gZ lv c d).2.2 else(false,(x.gZ lv c d).2.1,(x.gZ lv c d).2.2)
end
theorem sT (a b:List It)(e c d:Nat):gh (a++b) e c d=if(gh a e c d).1 then gh b e (gh a e c d).2.1 (gh a e c d).2.2 else(false,(gh a e c d).2.1,(gh a e c d).2.2):=by
 induction a generalizing c d with
 |nil=>simp[gh]
 |cons x xs ih=>
  by_cases h:(x.gZ e c d).1=true
  ·simp only[zV,gh,h,xA,ih]
  simp[gh,h]
theorem BZ {s:List It}{k e c d j i:Nat}(h:k<s.length)(l:gh (s.take k) e c d=(true,j,i)):gh (s.take (k+1)) e c d=s[k].gZ e j i:=by
 rw[lS s k h,sT,l];simp only[xA,gh];by_cases b:(s[k].gZ e j i).1=true
 ·rw[zi b,<-b]
 rw[zh b];simp only[Bool.not_eq_true]at b;rw[<-b]
theorem Mt {s:List It}{k b c d i e j l:Nat}(h:k<s.length)(n:gh (s.take k) b c d=(true,i,e))(o:s[k].gZ b i e=(false,j,l)):gh s b c d=(false,j,l):=by
 have m:=sT (s.take (k+1)) (s.drop (k+1)) b c d;rw[zJ,BZ h n,o]at m;simpa using m
def O' (x:It):Prop:=∀lv c d,1<=lv->c<=1024->(((x.gZ lv c d).1=true↔x.right=true/\lv+x.deep<=17/\c+x.count<=1024)/\((x.gZ lv c d).1=true->(x.gZ lv c d).2=(c+x.count,max d (lv-1+x.deep)))/\(x.gZ lv c d).2.1<=1024/\(x.gZ lv c d).2.2<=max d 16)
theorem Tx (s:List It)(l:∀x∈s,O' x):∀h c d,1<=h->c<=1024->(((gh s h c d).1=true↔dh s=true/\(s= []\/h+cJ s<=17)/\c+aM s<=1024)/\((gh s h c d).1=true->(gh s h c d).2=(c+aM s,if s= []then d else max d (h-1+cJ s)))/\(gh s h c d).2.1<=1024/\(gh s h c d).2.2<=max d 16):=by
 induction s with
 |nil=>intro h c d j k;simp[gh,dh,aM,k];omega
 |cons x xs Ly=>
  intro h c d j k;obtain⟨o,q,z,w⟩:=l x (by simp) h c d j k;by_cases i:(x.gZ h c d).1=true
  ·have p:=q i;have m:=o.1 i;obtain⟨g1,g2,g3,g4⟩:=Ly (fun y u=>l y (by simp[u])) h (c+x.count) (max d (h-1+x.deep)) j m.2.2;simp only[gh,i,xA,p];simp only[dh,aM,cJ,zx,m.1,true_and];refine⟨?_, ?_,g3,by omega⟩
   ·rw[g1];constructor
    ·rintro⟨a,b,e⟩;refine⟨a,.inr ?_,by omega⟩;rcases b with rfl|b
     ·simp[cJ];omega
     omega
    rintro⟨a,b,e⟩;refine⟨a, ?_,by omega⟩;rcases b with b|b
    ·cases b
    exact .inr (by omega)
   intro r;rw[g2 r];by_cases n:xs= []
   ·subst n;simp[cJ,aM]
   simp only[n,xG];simp;omega
  simp only[gh,i];refine⟨?_,by simp,by simpa using z,by simpa using w⟩;simp only[Bool.false_eq_true,xG,false_iff];rintro⟨a,b,e⟩;simp only[dh,aM,cJ,zx]at a b e;exact i (o.2 ⟨a.1,by rcases b with b|b;cases b;omega,by omega⟩)
theorem Ic (x:It):O' x:=by
 induction x using It.ind with
 |h t l s ih=>
  intro j c d p n;by_cases i:16<j\/c=1024\/formed t l s.length=false
  ·simp only[It.gZ,zi i,It.right,It.deep,It.count];refine⟨?_,by simp,n,by omega⟩;simp only[Bool.false_eq_true,false_iff,zx];rintro⟨⟨a,_⟩,b,e⟩;rcases i with h|h|h
   ·omega
   ·omega
   rw[h]at a;cases a
  obtain⟨n1,n2,k⟩:¬16<j/\¬c=1024/\¬formed t l s.length=false:=by
   refine⟨fun h=>i (.inl h),fun h=>i (.inr (.inl h)),fun h=>i (.inr (.inr h))⟩
  obtain⟨g1,g2,g3,g4⟩:=Tx s ih (j+1) (c+1) (max d j) (by omega) (by omega);simp only[It.gZ,zh i,It.right,It.deep,It.count];simp only[Bool.not_eq_false]at k;refine⟨?_, ?_,g3,by omega⟩
  ·rw[g1,k];simp only[Bool.true_and];constructor
   ·rintro⟨a,b,e⟩;refine⟨a, ?_,by omega⟩;rcases b with rfl|b
    ·simp[cJ];omega
    omega
   rintro⟨a,b,e⟩;exact⟨a,.inr (by omega),by omega⟩
  intro o;rw[g2 o];by_cases m:s= []
  ·subst m;simp[cJ,aM];omega
  simp only[m,xG];simp;omega
theorem Tz (x:It):(x.gZ 1 0 0).1=x.may:=by
 have h:=(Ic x 1 0 0 (by omega) (by omega)).1;rw[yP,h];simp only[It.may,zx,zY,zM];constructor
 ·rintro⟨a,b,c⟩;exact⟨⟨a,by omega⟩,c⟩
 rintro⟨⟨a,b⟩,c⟩;exact⟨a,by omega,c⟩
def fO (x:It)(D M:Int):Int:=if x.may=false then 1 else if D<x.deep then 6 else if M<x.count then 4 else 0
theorem nt {b:ByteArray}{l:Bool}{s:List It}(h:(It.mk b l s).right=true):formed b l s.length=true/\dh s=true:=by
 simpa only[It.right,zx]using h
theorem jN {t:ByteArray}{l:Bool}{s:List It}(h:(It.mk t l s).right=true)(k:Nat)(b:k<s.length):s[k].right=true:=by
 simp only[It.right,zx]at h;have:∀s:List It,dh s=true->∀(k:Nat) (b:k<s.length),s[k].right=true:=by
  intro s;induction s with
  |nil=>intro _ k b;simp at b
  |cons x xs ih=>
   intro h k b;simp only[dh,zx]at h;cases k with
   |zero=>exact h.1
   |succ k=>simpa using ih h.2 k (by simpa using b)
 exact this s h.2 k b
def hxd (n:Nat):UInt8:=if n<10 then UInt8.ofNat (48+n)else UInt8.ofNat (87+n)
def hx (b:UInt8):List UInt8:= [hxd (b.toNat/16),hxd (b.toNat%16)]
def eh (L:Nat)(t:Ty):Prop:=t.right=false\/L<t.count
theorem B3 {p:List UInt8->Option (Ty×List UInt8)}:∀(n:Nat) (l:List UInt8) (acc:List Ty) (b:Nat) (t:Ty) (r:List UInt8),fC p n l acc b=some (t,r)->∃(more:List Ty) (d:Nat),t= .mk 5 0 (acc++more) d
 |0,_,_,_,_,_,h=>by simp[fC]at h
 |n+1,[],_,_,_,_,h=>by simp[fC]at h
 |n+1,c::l,acc,b,t,r,h=>by
  unfold fC at h;split at h
  ·injection h with h;injection h with h _;exact⟨[],b,by rw[<-h,yO]⟩
  split at h
  ·cases h
  split at h
  ·cases h
  rename_i j d _
  split at h
  ·cases h
  rename_i y k _
  obtain⟨more,i,e⟩:=B3 n _ _ _ _ _ h;exact⟨y::more,i,by rw[e,zB,Zz]⟩
theorem vq {s:List Ty}(h:bM s=true):∀x∈s,x.right=true:=fun x hx=>by
 obtain⟨j,b,rfl⟩:=yW hx;exact dQ h j b
theorem vr {k z:Int}{l:List Ty}{b:Int}(h:(Ty.mk k z l b).right=true):bM l=true:=by
 simp only[Ty.right,zx]at h;exact h.2
theorem eh.sub {L:Nat}{y:Ty}(h:eh L y)(acc more:List Ty)(c:Int):eh (1+bc acc+L) (.mk 5 0 (acc++ [y]++more) c):=by
 rcases h with h|h
 ·left;rw[Zv];intro b;have:=vq (vr b) y (by simp);rw[h]at this;cases this
 right;simp only[Ty.count,fN,bc];omega
theorem eh.list {L:Nat}{x:Ty}(h:eh L x)(n:Int):eh (1+L) (.mk 4 n [x] 0):=by
 rcases h with h|h
 ·left;rw[Zv];intro b;have:=vq (vr b) x (by simp);rw[h]at this;cases this
 right;simp only[Ty.count,bc];omega
theorem eh.mono {L L':Nat}{t:Ty}(h:eh L t)(b:L'<=L):eh L' t:=h.imp id (fun h=>Nat.lt_of_le_of_lt b h)
theorem eh.may {t:Ty}(h:eh 64 t):t.may=false:=by
 rw[Zv];intro b;simp only[Ty.may,zx,zY]at b;rcases h with h|h
 ·rw[h]at b;exact absurd b.2 (by simp)
 omega
theorem Ie (n:Nat)(b:UInt8):n<=fu n b:=by unfold fu;split<;>omega
theorem E3 :∀(l:List UInt8) (n:Nat),n<=(hZ l n).1
 | [],n=>zd _
 |b::l,n=>by
  unfold hZ;split
  ·exact zF (Ie n b) (E3 l _)
  exact zd _
theorem Mu {s:ByteArray}{at_ k m:Nat}(h:lf s at_ k m)(n:Nat)(r:List UInt8)(c:cw (s.data.toList.drop at_)=some (n,r)):m<=n:=by
 have e:hZ (s.data.toList.drop at_) 0=(n,r):=by
  generalize s.data.toList.drop at_=l at*;match l,c with
  | [],c=>simp[cw]at c
  |b::l,c=>
   rw[rH]at c;split at c
   ·cases c
   split at c
   ·cases c
   injection c
 rw[h.1]at e;have:=E3 (s.data.toList.drop k) m;rw[e]at this;exact this
def oR (most:Nat)(s:ByteArray)(p:Nat)(n:Nat)(ok:Bool)(q:Nat):Prop:=
 (ok=true->cw (s.data.toList.drop p)=some (n,s.data.toList.drop q)/\n<=most/\p<q)/\(ok=false->∀n' r,cw (s.data.toList.drop p)=some (n',r)->most<n')/\q<=s.size/\n<=most
theorem E4 {most:Nat}{s:ByteArray}{p n q:Nat}(h:∀b r,cw (s.data.toList.drop p)=some (b,r)->most<b)(d:q<=s.size)(c:n<=most):oR most s p n false q:=⟨(by intro h;cases h),fun _=>h,d,c⟩
theorem vt {most:Nat}{s:ByteArray}{p n q:Nat}(h:cw (s.data.toList.drop p)=none)(d:q<=s.size)(c:n<=most):oR most s p n false q:=E4 (by intro e r b;rw[h]at b;cases b) d c
theorem B4 {most:Nat}{s:ByteArray}{p n q:Nat}(h:cw (s.data.toList.drop p)=some (n,s.data.toList.drop q))(b:n<=most)(d:p<q)(c:q<=s.size):oR most s p n true q:=⟨fun _=>⟨h,b,d⟩,(by intro h;cases h),c,b⟩
theorem qm {k z:Int}{l:List Ty}{b:Int}(L:Nat)(h:ga k z l.length b=false):eh L (.mk k z l b):=by
 left;simp[Ty.right,h]
theorem aca {l:List UInt8}(h:∀c r,cw l=some (c,r)->64<c)(L:Nat)(t:Ty)(r:List UInt8)(b:AT (cw l)=some (t,r)):eh L t:=by
 cases hn:cw l with
 |none=>rw[hn]at b;cases b
 |some z=>
  obtain⟨n,d⟩:=z;have e:=h n d hn;rw[hn,AT]at b;split at b
  ·injection b with b;injection b with b _;subst b;refine qm L ?_;unfold ga;simp only[xA];simp;omega
  cases b
theorem acb {l:List UInt8}(h:∀c r,cw l=some (c,r)->65536<c)(L:Nat)(t:Ty)(r:List UInt8)(b:tE 2 (cw l)=some (t,r)):eh L t:=by
 cases hn:cw l with
 |none=>rw[hn]at b;cases b
 |some z=>
  obtain⟨n,d⟩:=z;have e:=h n d hn;rw[hn,tE]at b;injection b with b;injection b with b _;subst b;refine qm L ?_;unfold ga;simp;omega
theorem acd {l:List UInt8}(h:∀c r,cw l=some (c,r)->65536<c)(L:Nat)(t:Ty)(r:List UInt8)(b:tE 3 (cw l)=some (t,r)):eh L t:=by
 cases hn:cw l with
 |none=>rw[hn]at b;cases b
 |some z=>
  obtain⟨n,d⟩:=z;have e:=h n d hn;rw[hn,tE]at b;injection b with b;injection b with b _;subst b;refine qm L ?_;unfold ga;simp;omega
theorem Mv {l:List UInt8}(h:∀e r,cw l=some (e,r)->1024<e)(L:Nat)(x t:Ty)(r:List UInt8)(b:je x (cw l)=some (t,r)):eh L t:=by
 cases hn:cw l with
 |none=>rw[hn]at b;cases b
 |some z=>
  obtain⟨n,c⟩:=z;have i:=h n c hn;rw[hn]at b;cases c with
  |nil=>cases b
  |cons d c=>
   rw[je]at b;split at b
   ·injection b with b;injection b with b _;subst b;refine qm L ?_;unfold ga;simp;omega
   cases b
theorem Ig {x:Ty}{o:Option (Nat×List UInt8)}{t:Ty}{r:List UInt8}(h:je x o=some (t,r)):∃n:Nat,t= .mk 4 n [x] 0:=by
 match o,h with
 |some (n,d::r'),h=>
  rw[je]at h;split at h
  ·injection h with h;injection h with h _;exact⟨n,h.symm⟩
  cases h
theorem Mw {x:Ty}{l:List UInt8}{t:Ty}{r:List UInt8}(h:gP x l=some (t,r)):∃n:Nat,t= .mk 4 n [x] 0:=by
 match l,h with
 |c::l,h=>
  by_cases b:c=58
  ·subst b;rw[nh]at h;exact Ig h
  rw[u' x c l (fun e=>b (zO.1 e))]at h;cases h
def tF (f L:Nat)(s:ByteArray)(p:Nat)(t:Ty)(ok:Bool)(q L':Nat):Prop:=
 (ok=true->aJ f (s.data.toList.drop p)=some (t,s.data.toList.drop q)/\L'+t.count=L/\p<q)/\(ok=false->∀t' r,aJ f (s.data.toList.drop p)=some (t',r)->eh L t')/\q<=s.size
def Pa (L:Nat)(s:ByteArray)(R:Option (Ty×List UInt8))(t:Ty)(ok:Bool)(q L':Nat):Prop:=
 (ok=true->R=some (t,s.data.toList.drop q)/\L'+t.count=L)/\(ok=false->∀t' r,R=some (t',r)->eh L t')/\q<=s.size
theorem TA {f:Nat}{s:ByteArray}{R:Option (Ty×List UInt8)}{q L:Nat}{acc:List Ty}{j:Nat}(h:O3 f s R q acc j)(e:∀b r,aJ f (s.data.toList.drop q)=some (b,r)->eh L b):∀b r,R=some (b,r)->eh (1+bc acc+L) b:=by
 intro b r d;obtain⟨n,c,_⟩:=h;cases hi:aJ f (s.data.toList.drop q)with
 |none=>rw[hi,d]at c;cases c
 |some z=>
  obtain⟨y,k⟩:=z;rw[hi,d]at c;obtain⟨more,i,rfl⟩:=B3 _ _ _ _ _ _ c;exact(e y k hi).sub acc more i
