/- Items in memory that a call itself has made: in which blocks they may lie; a list of them that grows. Own text; no program in sight but the type's number. -/
import Derived.Test.YtimoclkoflamkaaGreatDoorKA7
set_option linter.all false
set_option maxRecDepth 100000
set_option maxHeartbeats 1000000
open Go.Proofs.Tryz
namespace Go.Proofs.YtimoclkoflamkaaGreatDoor
open Go.RowKit
variable {w w' W:World}{S S':Nat->Prop}{v d e i l j h:Value}{acc:List Ms}{L:List Nat}{A:Option Addr}{n g B k:Nat}{x:It}{t:TypeId}{m:Ms}{ops:Array Oper}{o:Oper}{a:Act}{Q:Exit->Act->World->Prop}{s y:ByteArray}{z:Int}
def y7:=@wpList_append_lies
def y9:=@ntmps202
def xg:=@underlying42
def xm:=@func202
def ZK:=@step_append_lies
def ZV:=@wpList_make_own
mutual
def fV (w:World)(S:Nat->Prop):It->Value->Value->Value->Prop
 | .mk t l s,c0,c1,c2=>c0= .string t/\c1= .bool l/\t.size<=9223372036854775807/\s.length<=9223372036854775807/\∃A cap,c2= .slice A s.length cap/\s.length<=cap/\cap<=9223372036854775807/\lX w S s A 0
def lX (w:World)(S:Nat->Prop):List It->Option Addr->Nat->Prop
 | [],_,_=>True
 |x::xs,A,i=>(∃b o c0 c1 c2,A=some ⟨b,o,none⟩/\S b/\(w,b,o+i*3,c0)/\(w,b,o+i*3+1,c1)/\(w,b,o+i*3+2,c2)/\fV w S x c0 c1 c2)/\lX w S xs A (i+1)
end
theorem lX.at_ :∀{s:List It} {i:Nat},lX w S s A i->∀(j:Nat) (h:j<s.length),∃b o d e c,A=some ⟨b,o,none⟩/\S b/\(w,b,o+(i+j)*3,d)/\(w,b,o+(i+j)*3+1,e)/\(w,b,o+(i+j)*3+2,c)/\fV w S s[j] d e c
 | [],_,_,j,h=>by simp at h
 |x::xs,i,hi,0,_=>by simpa[lX]using hi.1
 |x::xs,i,hi,j+1,h=>by
  have:=lX.at_ hi.2 j (by simpa using h);rw[show i+1+j=i+(j+1)from by omega]at this;simpa using this
theorem lX.uK :∀{s:List It} {i:Nat},(∀(j:Nat) (h:j<s.length),∃b o d e c,A=some ⟨b,o,none⟩/\S b/\(w,b,o+(i+j)*3,d)/\(w,b,o+(i+j)*3+1,e)/\(w,b,o+(i+j)*3+2,c)/\fV w S s[j] d e c)->lX w S s A i
 | [],_,_=>by simp[lX]
 |x::xs,i,h=>by
  refine⟨h 0 (Yf _),lX.uK fun j k=> ?_⟩;have:=h (j+1) (by simpa using k);rw[show i+(j+1)=i+1+j from by omega]at this;simpa using this
theorem fV.ah (hS:∀k,k<w.heap.size->S k->S' k)(i:∀p:Addr,p.block<w.heap.size->S p.block->w'.cell? p=w.cell? p):∀(x:It) {e n m:Value},fV w S x e n m->fV w' S' x e n m:=by
 intro x;induction x using It.ind with
 |h t l s ih=>
  intro e n m h;obtain⟨F,y,C,E,A,cap,I,G,z,u⟩:=h;refine⟨F,y,C,E,A,cap,I,G,z,lX.uK fun j r=> ?_⟩;obtain⟨b,o,d0,d1,d2,B,c,q,D,H,hi⟩:=u.at_ j r;have d:=lt_of_cell q;exact⟨b,o,d0,d1,d2,B,hS _ d c,(i _ d c).trans q,(i _ d c).trans D,(i _ d c).trans H,ih _ (zA r) hi⟩
theorem fV.eG {c b:Value}(h:fV w S x c d b)(hS:∀k,k<w.heap.size->S k->S' k):fV w S' x c d b:=fV.ah hS (fun _ _ _=>rfl) x h
theorem fV.only {b c:Value}(h:fV w S x b d c)(i:ae L w w')(m:∀k,k∈L->¬S k)(hS:∀k,k<w.heap.size->S k->S' k):fV w' S' x b d c:=
 fV.ah hS (fun p e j=>i.cell e fun l=>m _ l j) x h
theorem fV.below {b c:Value}(h:fV w S x b d c)(i:Below w.heap.size w w'):fV w' S x b d c:=fV.ah (fun _ _ h=>h) (fun _ e _=>i.cell e) x h
theorem fV.uL :∀(x:It) {c e d:Value},fV w S x c e d->bH w w.heap.size x c e d:=by
 intro x;induction x using It.ind with
 |h t l s ih=>
  intro c e d h;obtain⟨C,u,q,B,A,cap,y,D,z,n⟩:=h;refine⟨C,u,q,B,A,cap,y,D,z,bN.uK fun j k=> ?_⟩;obtain⟨b,o,d0,d1,d2,p,E,i,r,m,hi⟩:=n.at_ j k;exact⟨b,o,d0,d1,d2,p,lt_of_cell i,i,r,m,ih _ (zA k) hi⟩
theorem bH.toS :∀(x:It) {c e d:Value},bH w B x c e d->fV w (· <B) x c e d:=by
 intro x;induction x using It.ind with
 |h t l s ih=>
  intro c e d h;obtain⟨E,u,q,D,A,cap,y,F,z,n⟩:=h;refine⟨E,u,q,D,A,cap,y,F,z,lX.uK fun j i=> ?_⟩;obtain⟨b,o,d0,d1,d2,p,C,k,r,m,hi⟩:=n.at_ j i;exact⟨b,o,d0,d1,d2,p,C,k,r,m,ih _ (zA i) hi⟩
theorem fV.open_ {b c:Value}(h:fV w S x b d c):∃A cap,b= .string x.text/\d= .bool x.list/\c= .slice A x.sub.length cap/\x.text.size<=9223372036854775807/\x.sub.length<=cap/\cap<=9223372036854775807/\lX w S x.sub A 0:=by
 cases x with
 |mk t l s=>
  obtain⟨m,j,i,p,A,cap,k,n,o,e⟩:=h;exact⟨A,cap,m,j,k,i,n,o,e⟩
theorem fV.text {t:ByteArray}(l:Bool)(b:t.size<=9223372036854775807):fV w S (.mk t l []) t l nS:=⟨rfl,rfl,b,by simp,none,0,rfl,by simp,by simp,trivial⟩
def fW (w:World)(S:Nat->Prop):List It->List Value->Prop
 | [],cs=>cs= []
 |x::xs,cs=>∃c0 c1 c2 ds,cs=c0::c1::c2::ds/\fV w S x c0 c1 c2/\fW w S xs ds
theorem fW.ah (hS:∀k,k<w.heap.size->S k->S' k)(c:∀p:Addr,p.block<w.heap.size->S p.block->w'.cell? p=w.cell? p):∀{s:List It} {b:List Value},fW w S s b->fW w' S' s b
 | [],b,h=>h
 |x::xs,b,h=>by
  obtain⟨d,m,e,l,rfl,i,j⟩:=h;exact⟨d,m,e,l,rfl,fV.ah hS c x i,j.ah hS c⟩
theorem fW.snoc {y:It}{c:Value}(i:fV w S y c e d):∀{s:List It} {b:List Value},fW w S s b->fW w S (s++ [y]) (b++ [c,e,d])
 | [],b,h=>by
  have h:b= []:=h;subst h;exact⟨c,e,d,[],rfl,i,rfl⟩
 |x::xs,b,h=>by
  obtain⟨j,l,k,o,rfl,m,n⟩:=h;exact⟨j,l,k,o++ [c,e,d],by simp,m,n.snoc i⟩
theorem lX.dU {b o:Nat}(k:S b):∀{s:List It} {i:Nat} {c:List Value},fW w S s c->(∀j u,c[j]?=some u->w.cell? (b,o+i*3+j)=some u)->lX w S s (some (b,o)) i
 | [],_,_,_,_=>trivial
 |x::xs,i,c,h,hc=>by
  obtain⟨d,l,e,p,rfl,m,n⟩:=h;refine⟨⟨b,o,d,l,e,rfl,k,by simpa using hc 0 d (by simp),hc 1 l (by simp),hc 2 e (by simp),m⟩,lX.dU k n fun j u hu=> ?_⟩;have:=hc (j+3) u (by simpa using hu);rw[show o+(i+1)*3+j=o+i*3+(j+3)from by omega];exact this
def Acc (w:World)(lo:Nat)(acc:List It)(v:Value):Prop:=∃cs,w.ownsRow lo 28 3 v acc.length cs/\fW w (fun k=>lo<=k/\v.ownBlock≠some k) acc cs
theorem Acc.nil (w:World)(b:Nat):Acc w b [] nS:=⟨[],⟨by simp,.inl ⟨rfl,rfl⟩⟩,rfl⟩
theorem Acc.form {c:Nat}{acc:List It}(h:Acc w c acc v):∃A cap,v= .slice A acc.length cap/\acc.length<=cap/\cap<=9223372036854775807:=by
 obtain⟨m,i,l⟩:=h;rcases i.2 with⟨e,b⟩|⟨g,cap,n,d,_,_,j,k,_⟩
 ·exact⟨none,0,by rw[e,b],by omega,by simp⟩
 exact⟨_,cap,d,j,by simpa[maxLen]using k⟩
theorem Acc.bK {c:Nat}{acc:List It}(h:Acc w c acc v):∃A n cap,v= .slice A n cap/\Hid (n=acc.length)/\n<=cap/\cap<=9223372036854775807:=by
 obtain⟨A,cap,b,e,d⟩:=h.form;exact⟨A,_,cap,b,za rfl,e,d⟩
theorem Acc.ge {c:Nat}{acc:List It}(h:Acc w c acc v):∀g,v.ownBlock=some g->c<=g/\g<w.heap.size:=by
 obtain⟨o,k,n⟩:=h;intro g b;rcases k.2 with⟨j,m⟩|⟨e,cap,p,d,l,i,_⟩
 ·rw[j]at b;cases b
 rw[d]at b;have:e=g:=by simpa[Value.ownBlock]using b
 subst this;exact⟨l,yp i⟩
theorem af.grown {b:Array Value}{row:Option Nat}(h:af w g t b)(d:w.grownBy w' row)(c:row≠some g):af w' g t b:=(d.block g h.lt (fun e=>c e.symm)).trans h
theorem Acc.ah {b:Nat}{acc:List It}(h:Acc w b acc v)(c:∀k,b<=k->k<w.heap.size->w'.heap[k]?=w.heap[k]?):Acc w' b acc v:=by
 obtain⟨l,d,i⟩:=h;refine⟨l,⟨d.1, ?_⟩,i.ah (fun _ _ h=>h) fun p e j=>zy (c _ j.1 e)⟩;rcases d.2 with h3|⟨g,cap,cur,hv,hg,hh,r⟩
 ·exact .inl h3
 exact .inr ⟨g,cap,cur,hv,hg,(c g hg (yp hh)).trans hh,r⟩
theorem Acc.only {b:Nat}{acc:List It}(h:Acc w b acc v)(c:ae L w w')(i:∀g,g∈L->g<b):Acc w' b acc v:=
 h.ah fun k j d=>c.block k d fun e=>by have:=i k e;omega
theorem Acc.below {b:Nat}{acc:List It}(h:Acc w b acc v)(c:Below w.heap.size w w'):Acc w' b acc v:=h.ah fun k _ d=>c.block k d
theorem Acc.list {c:Nat}{acc:List It}(h:Acc w c acc v)(n:acc.length<=9223372036854775807):fV w (c<= ·) (.mk ⟨#[]⟩ true acc) eS true v:=by
 obtain⟨A,cap,rfl,k,l⟩:=h.form;obtain⟨q,b,m⟩:=h;refine⟨rfl,rfl,ya _,n,A,cap,rfl,k,l, ?_⟩;rcases b.2 with⟨d,e⟩|⟨g,s,r,i,o,p,_⟩
 ·obtain rfl:acc= []:=zk e;trivial
 injection i with hA _ hc;subst hA;subst hc;refine lX.dU o (m.ah (fun _ _ h=>h.1) (fun _ _ _=>rfl)) fun j u hu=> ?_
 have:=b.cells rfl j u hu;have d:((g,0):Addr).add j=⟨g,j,none⟩:=by unfold Addr.add;split<;>simp_all
 rw[d]at this;simpa using this
theorem aiD {y:It}{c b:Value}(h:fV w S y c d b):∀u∈ [c,d,b],u.oneCell'=true:=by
 obtain⟨A,cap,rfl,rfl,rfl,_⟩:=h.open_;intro u hu;simp at hu;rcases hu with rfl|rfl|rfl<;>rfl
def nC (w:World)(S:Nat->Prop)(m:Ms)(c0 c1 c2 c3:Value):Prop:=c0= .string m.name/\m.name.size<=9223372036854775807/\fV w S m.x c1 c2 c3
theorem nC.ah (hS:∀k,k<w.heap.size->S k->S' k)(i:∀p:Addr,p.block<w.heap.size->S p.block->w'.cell? p=w.cell? p)(m:Ms){b c:Value}(h:nC w S m b e c d):nC w' S' m b e c d:=⟨h.1,h.2.1,fV.ah hS i _ h.2.2⟩
theorem nC.below {b c:Value}(h:nC w S m b e c d)(j:Below w.heap.size w w'):nC w' S m b e c d:=nC.ah (fun _ _ h=>h) (fun _ i _=>j.cell i) m h
theorem nC.eG {b c:Value}(h:nC w S m d e b c)(hS:∀k,k<w.heap.size->S k->S' k):nC w S' m d e b c:=nC.ah hS (fun _ _ _=>rfl) m h
theorem nC.only {b c:Value}(h:nC w S m b e c d)(j:ae L w w')(o:∀k,k∈L->¬S k)(hS:∀k,k<w.heap.size->S k->S' k):nC w' S' m b e c d:=
 nC.ah hS (fun p i l=>j.cell i fun n=>o _ n l) m h
theorem nC.open_ {b c:Value}(h:nC w S m b e c d):∃A cap,b= .string m.name/\e= .string m.x.text/\c= .bool m.x.list/\d= .slice A m.x.sub.length cap/\m.name.size<=9223372036854775807/\m.x.text.size<=9223372036854775807/\m.x.sub.length<=cap/\cap<=9223372036854775807:=by
 obtain⟨p,n,hi⟩:=h;obtain⟨A,cap,k,l,i,j,q,o,_⟩:=hi.open_;exact⟨A,cap,p,k,l,i,n,j,q,o⟩
theorem qO :(prog.info? 30).map (fun i=>(i.zero,i.size,i.bytes))=some (some (.agg #[eS,eS,false,nS]),4,64):=by kernel_rfl
def pN (w:World)(S:Nat->Prop):List Ms->Option Addr->Nat->Prop
 | [],_,_=>True
 |x::xs,A,i=>(∃b o c0 c1 c2 c3,A=some ⟨b,o,none⟩/\S b/\(w,b,o+i*4,c0)/\(w,b,o+i*4+1,c1)/\(w,b,o+i*4+2,c2)/\(w,b,o+i*4+3,c3)/\nC w S x c0 c1 c2 c3)/\pN w S xs A (i+1)
theorem pN.at_ :∀{s:List Ms} {i:Nat},pN w S s A i->∀(j:Nat) (h:j<s.length),∃b o e k c d,A=some ⟨b,o,none⟩/\S b/\(w,b,o+(i+j)*4,e)/\(w,b,o+(i+j)*4+1,k)/\(w,b,o+(i+j)*4+2,c)/\(w,b,o+(i+j)*4+3,d)/\nC w S s[j] e k c d
 | [],_,_,j,h=>by simp at h
 |x::xs,i,hi,0,_=>by simpa[pN]using hi.1
 |x::xs,i,hi,j+1,h=>by
  have:=pN.at_ hi.2 j (by simpa using h);rw[show i+1+j=i+(j+1)from by omega]at this;simpa using this
theorem pN.ah (hS:∀k,k<w.heap.size->S k->S' k)(c:∀p:Addr,p.block<w.heap.size->S p.block->w'.cell? p=w.cell? p):∀{s:List Ms} {i:Nat},pN w S s A i->pN w' S' s A i
 | [],_,_=>trivial
 |x::xs,i,h=>by
  obtain⟨⟨b,o,m,B,u,n,q,d,j,r,l,y,hi⟩,z⟩:=h;have e:=lt_of_cell j;exact⟨⟨b,o,m,B,u,n,q,hS _ e d,(c _ e d).trans j,(c _ e d).trans r,(c _ e d).trans l,(c _ e d).trans y,hi.ah hS c⟩,z.ah hS c⟩
def fG (w:World)(S:Nat->Prop):List Ms->List Value->Prop
 | [],cs=>cs= []
 |x::xs,cs=>∃c0 c1 c2 c3 ds,cs=c0::c1::c2::c3::ds/\nC w S x c0 c1 c2 c3/\fG w S xs ds
theorem fG.ah (hS:∀k,k<w.heap.size->S k->S' k)(c:∀p:Addr,p.block<w.heap.size->S p.block->w'.cell? p=w.cell? p):∀{s:List Ms} {b:List Value},fG w S s b->fG w' S' s b
 | [],b,h=>h
 |x::xs,b,h=>by
  obtain⟨d,n,e,m,l,rfl,i,j⟩:=h;exact⟨d,n,e,m,l,rfl,nC.ah hS c x i,j.ah hS c⟩
theorem fG.snoc {y:Ms}{c:Value}(j:nC w S y c i d e):∀{s:List Ms} {b:List Value},fG w S s b->fG w S (s++ [y]) (b++ [c,i,d,e])
 | [],b,h=>by
  have h:b= []:=h;subst h;exact⟨c,i,d,e,[],rfl,j,rfl⟩
 |x::xs,b,h=>by
  obtain⟨k,m,l,o,q,rfl,n,p⟩:=h;exact⟨k,m,l,o,q++ [c,i,d,e],by simp,n,p.snoc j⟩
theorem pN.dU {b o:Nat}(k:S b):∀{s:List Ms} {i:Nat} {c:List Value},fG w S s c->(∀j u,c[j]?=some u->w.cell? (b,o+i*4+j)=some u)->pN w S s (some (b,o)) i
 | [],_,_,_,_=>trivial
 |x::xs,i,c,h,hc=>by
  obtain⟨d,m,e,l,q,rfl,n,p⟩:=h;refine⟨⟨b,o,d,m,e,l,rfl,k,by simpa using hc 0 d (by simp),hc 1 m (by simp),hc 2 e (by simp),hc 3 l (by simp),n⟩,pN.dU k p fun j u hu=> ?_⟩;have:=hc (j+4) u (by simpa using hu);rw[show o+(i+1)*4+j=o+i*4+(j+4)from by omega];exact this
def bA (w:World)(S0:Nat->Prop)(lo:Nat)(acc:List Ms)(v:Value):Prop:=∃cs,w.ownsRow lo 30 4 v acc.length cs/\fG w (fun k=>S0 k/\v.ownBlock≠some k) acc cs
abbrev wU (w:World)(lo:Nat)(acc:List Ms)(v:Value):Prop:=bA w (lo<= ·) lo acc v
theorem bA.nil (w:World)(b:Nat->Prop)(c:Nat):bA w b c [] nS:=⟨[],⟨by simp,.inl ⟨rfl,rfl⟩⟩,rfl⟩
theorem wU.nil (w:World)(b:Nat):wU w b [] nS:=bA.nil _ _ _
theorem bA.form {i:Nat->Prop}{c:Nat}(h:bA w i c acc v):∃A cap,v= .slice A acc.length cap/\acc.length<=cap/\cap<=9223372036854775807:=by
 obtain⟨n,j,m⟩:=h;rcases j.2 with⟨e,b⟩|⟨g,cap,o,d,_,_,k,l,_⟩
 ·exact⟨none,0,by rw[e,b],by omega,by simp⟩
 exact⟨_,cap,d,k,by simpa[maxLen]using l⟩
theorem bA.bK {d:Nat->Prop}{b:Nat}(h:bA w d b acc v):∃A n cap,v= .slice A n cap/\Hid (n=acc.length)/\n<=cap/\cap<=9223372036854775807:=by
 obtain⟨A,cap,e,i,c⟩:=h.form;exact⟨A,_,cap,e,za rfl,i,c⟩
theorem bA.ge {k:Nat->Prop}{c:Nat}(h:bA w k c acc v):∀g,v.ownBlock=some g->c<=g/\g<w.heap.size:=by
 obtain⟨p,l,o⟩:=h;intro g b;rcases l.2 with⟨j,n⟩|⟨e,cap,q,d,m,i,_⟩
 ·rw[j]at b;cases b
 rw[d]at b;have:e=g:=by simpa[Value.ownBlock]using b
 subst this;exact⟨m,yp i⟩
theorem bA.typed {l:Nat->Prop}{e:Nat}(h:bA w l e acc v):∀k,v.ownBlock=some k->e<=k/\k<w.heap.size/\∃d,af w k 30 d:=by
 obtain⟨p,m,o⟩:=h;intro k b;rcases m.2 with⟨c,_⟩|⟨n,q,d,c,j,i,_⟩
 ·rw[c]at b;cases b
 rw[c]at b;have:n=k:=by simpa[Value.ownBlock]using b
 subst this;exact⟨j,yp i,d,i⟩
theorem bA.ah {b:Nat->Prop}{c:Nat}(h:bA w b c acc v)(d:∀k,k<w.heap.size->b k\/v.ownBlock=some k->w'.heap[k]?=w.heap[k]?):bA w' b c acc v:=by
 obtain⟨m,e,j⟩:=h;refine⟨m,⟨e.1, ?_⟩,j.ah (fun _ _ h=>h) fun p i l=>zy (d _ i (.inl l.1))⟩;rcases e.2 with h3|⟨g,cap,cur,hv,hg,hh,r⟩
 ·exact .inl h3
 exact .inr ⟨g,cap,cur,hv,hg,(d g (yp hh) (.inr (by rw[hv];rfl))).trans hh,r⟩
theorem bA.only {c:Nat->Prop}{d:Nat}(h:bA w c d acc v)(j:ae L w w')(i:∀g,g∈L->¬c g)(l:∀g,g∈L->v.ownBlock≠some g):bA w' c d acc v:=
 h.ah fun k m b=>j.block k m fun e=>by
  rcases b with b|b
  ·exact i k e b
  exact l k e b
theorem bA.below {b:Nat->Prop}{c:Nat}(h:bA w b c acc v)(d:Below w.heap.size w w'):bA w' b c acc v:=h.ah fun k e _=>d.block k e
theorem bA.eG {c S1:Nat->Prop}{b lo':Nat}(h:bA w c b acc v)(hS:∀k,k<w.heap.size->c k->S1 k)(j:lo'<=b):bA w S1 lo' acc v:=by
 obtain⟨l,e,i⟩:=h;exact⟨l,e.mono j,i.ah (fun k d h=>⟨hS k d h.1,h.2⟩) fun _ _ _=>rfl⟩
theorem wU.only {c:Nat}(h:wU w c acc v)(i:ae L w w')(d:∀g,g∈L->g<c):wU w' c acc v:=
 bA.only h i (fun g b=>by have:=d g b;omega) (fun g b e=>by have:=d g b;have:=(bA.ge h g e).1;omega)
theorem wU.reads {c:Nat}(h:wU w c acc v):∃A cap,v= .slice A acc.length cap/\acc.length<=cap/\cap<=9223372036854775807/\pN w (c<= ·) acc A 0:=by
 obtain⟨A,cap,rfl,k,l⟩:=bA.form h;obtain⟨p,b,m⟩:=h;refine⟨A,cap,rfl,k,l, ?_⟩;rcases b.2 with⟨d,e⟩|⟨g,r,q,i,n,o,_⟩
 ·obtain rfl:acc= []:=zk e;trivial
 injection i with hA _ hc;subst hA;subst hc;refine pN.dU n (m.ah (fun _ _ h=>h.1) (fun _ _ _=>rfl)) fun j u hu=> ?_
 have:=b.cells rfl j u hu;have d:((g,0):Addr).add j=⟨g,j,none⟩:=by unfold Addr.add;split<;>simp_all
 rw[d]at this;simpa using this
theorem Ma {y:Ms}{b c:Value}(h:nC w S y b e c d):∀u∈ [b,e,c,d],u.oneCell'=true:=by
 obtain⟨A,cap,rfl,rfl,rfl,rfl,_⟩:=h.open_;intro u hu;simp at hu;rcases hu with rfl|rfl|rfl|rfl<;>rfl
theorem qP {rest:List Oper}(H:o.guard=none)(s x:Operand)
 (K:o.op= .call {callee:= .builtin .append,args:= #[s,x],argTypes:= #[42,42]}) (q:Nat->Prop) (c:Nat) (acc:List Ms)  (L:a.eval s=v) (D:bA w q c acc v) (y:Ms) {m:Value}
 (B:nC w (fun k=>q k/\v.ownBlock≠some k) y d m l h) (g:Nat) (hx:a.eval x= .slice (some (g,0)) 1 1) (X:w.cell? (g,0)=some d) (I:w.cell? (g,1)=some m) (C:w.cell? (g,2)=some l) (R:w.cell? (g,3)=some h)
 (aa:acc.length<=100000000) (F:c<=w.heap.size)
 (U:∀b n cap w',Hid (n=acc.length+1)->bA w' q c (acc++ [y]) (.slice (some (b,0)) n cap)->w.grownBy w' v.ownBlock->c<=b->wpList prog ops Q rest (a.put o.dst (.slice (some (b,0)) n cap)) w'):wpList prog ops Q (o::rest) a w:=by
 obtain⟨i0,hi,M,W,O⟩:=yv qO;obtain⟨z,E,S⟩:=D;refine y7 w H s x 42 K c 30 i0 _ 4 64 xg hi M W O rfl (by decide) v acc.length z L E (g,0) 1 1 [d,m,l,h] hx rfl ?_ (Ma B) (by decide) (by simp only[maxLen];omega) (by omega) F w.heap.size rfl ?_
 ·intro j u hu;have J:∀j,((g,0):Addr).add j=⟨g,j,none⟩:=by intro j;unfold Addr.add;split<;>simp_all
  rw[J];match j,hu with
  |0,hu=>simp at hu;subst hu;exact X
  |1,hu=>simp at hu;subst hu;exact I
  |2,hu=>simp at hu;subst hu;exact C
  |3,hu=>simp at hu;subst hu;exact R
 intro b cap w' r A i Y;have G:=D6 r b rfl;refine U b _ cap w' (za rfl) ⟨z++ [d,m,l,h],by rw[zh];exact r, ?_⟩ A G;refine((S.snoc B).ah (fun k Z hS=>⟨hS.1, ?_⟩) fun p N hS=>zy (A.block _ N (fun e=>hS.2 e.symm)));intro e;have e:b=k:=by simpa[Value.ownBlock]using e
 rcases i with i|i
 ·exact hS.2 (by rw[i,e])
 omega
theorem Oo :(prog.info? 70).map (fun i=>(i.zero,i.size,i.bytes))=some (some (.agg #[(0:Int),(0:Int),nS,(0:Int)]),4,48):=by kernel_rfl
mutual
def gd (w:World)(S:Nat->Prop):Ty->Value->Value->Value->Value->Prop
 | .mk k s l t,c0,c1,c2,c3=>c0= .int .i64 k/\c1= .int .i64 s/\c3= .int .i64 t/\mM k/\mM s/\mM t/\l.length<=9223372036854775807/\∃A cap,c2= .slice A l.length cap/\l.length<=cap/\cap<=9223372036854775807/\nD w S l A 0
def nD (w:World)(S:Nat->Prop):List Ty->Option Addr->Nat->Prop
 | [],_,_=>True
 |x::xs,A,i=>(∃b o c0 c1 c2 c3,A=some ⟨b,o,none⟩/\S b/\(w,b,o+i*4,c0)/\(w,b,o+i*4+1,c1)/\(w,b,o+i*4+2,c2)/\(w,b,o+i*4+3,c3)/\gd w S x c0 c1 c2 c3)/\nD w S xs A (i+1)
end
theorem nD.at_ :∀{s:List Ty} {i:Nat},nD w S s A i->∀(j:Nat) (h:j<s.length),∃b o e k c d,A=some ⟨b,o,none⟩/\S b/\(w,b,o+(i+j)*4,e)/\(w,b,o+(i+j)*4+1,k)/\(w,b,o+(i+j)*4+2,c)/\(w,b,o+(i+j)*4+3,d)/\gd w S s[j] e k c d
 | [],_,_,j,h=>by simp at h
 |x::xs,i,hi,0,_=>by simpa[nD]using hi.1
 |x::xs,i,hi,j+1,h=>by
  have:=nD.at_ hi.2 j (by simpa using h);rw[show i+1+j=i+(j+1)from by omega]at this;simpa using this
theorem nD.uK :∀{s:List Ty} {i:Nat},(∀(j:Nat) (h:j<s.length),∃b o c k d e,A=some ⟨b,o,none⟩/\S b/\(w,b,o+(i+j)*4,c)/\(w,b,o+(i+j)*4+1,k)/\(w,b,o+(i+j)*4+2,d)/\(w,b,o+(i+j)*4+3,e)/\gd w S s[j] c k d e)->nD w S s A i
 | [],_,_=>by simp[nD]
 |x::xs,i,h=>by
  refine⟨h 0 (Yf _),nD.uK fun j l=> ?_⟩;have:=h (j+1) (by simpa using l);rw[show i+(j+1)=i+1+j from by omega]at this;simpa using this
theorem gd.ah (hS:∀k,k<w.heap.size->S k->S' k)(e:∀p:Addr,p.block<w.heap.size->S p.block->w'.cell? p=w.cell? p):∀(x:Ty) {i q n m:Value},gd w S x i q n m->gd w' S' x i q n m:=by
 intro x;induction x using Ty.ind with
 |h k s l t ih=>
  intro i q n m h;obtain⟨I,B,z,k1,k2,F,H,A,cap,L,J,D,y⟩:=h;refine⟨I,B,z,k1,k2,F,H,A,cap,L,J,D,nD.uK fun j u=> ?_⟩;obtain⟨b,o,d0,d1,d2,d3,E,c,r,G,K,C,hi⟩:=y.at_ j u;have d:=lt_of_cell r;exact⟨b,o,d0,d1,d2,d3,E,hS _ d c,(e _ d c).trans r,(e _ d c).trans G,(e _ d c).trans K,(e _ d c).trans C,ih _ (zA u) hi⟩
theorem gd.eG {x:Ty}{b c:Value}(h:gd w S x d e b c)(hS:∀k,k<w.heap.size->S k->S' k):gd w S' x d e b c:=gd.ah hS (fun _ _ _=>rfl) x h
theorem gd.only {x:Ty}{b c:Value}(h:gd w S x b e c d)(j:ae L w w')(n:∀k,k∈L->¬S k)(hS:∀k,k<w.heap.size->S k->S' k):gd w' S' x b e c d:=
 gd.ah hS (fun p i l=>j.cell i fun m=>n _ m l) x h
theorem gd.below {x:Ty}{b c:Value}(h:gd w S x b e c d)(j:Below w.heap.size w w'):gd w' S x b e c d:=gd.ah (fun _ _ h=>h) (fun _ i _=>j.cell i) x h
theorem gd.uL :∀(x:Ty) {c i e d:Value},gd w S x c i e d->cz w w.heap.size x c i e d:=by
 intro x;induction x using Ty.ind with
 |h k s l t ih=>
  intro c i e d h;obtain⟨E,r,q,k1,k2,B,D,A,cap,H,F,y,p⟩:=h;refine⟨E,r,q,k1,k2,B,D,A,cap,H,F,y,eZ.uK fun j n=> ?_⟩;obtain⟨b,o,d0,d1,d2,d3,z,I,m,C,G,u,hi⟩:=p.at_ j n;exact⟨b,o,d0,d1,d2,d3,z,lt_of_cell m,m,C,G,u,ih _ (zA n) hi⟩
theorem cz.toS :∀(x:Ty) {c i e d:Value},cz w B x c i e d->gd w (· <B) x c i e d:=by
 intro x;induction x using Ty.ind with
 |h k s l t ih=>
  intro c i e d h;obtain⟨G,q,p,k1,k2,D,F,A,cap,J,H,u,n⟩:=h;refine⟨G,q,p,k1,k2,D,F,A,cap,J,H,u,nD.uK fun j m=> ?_⟩;obtain⟨b,o,d0,d1,d2,d3,C,y,z,E,I,r,hi⟩:=n.at_ j m;exact⟨b,o,d0,d1,d2,d3,C,y,z,E,I,r,ih _ (zA m) hi⟩
theorem gd.open_ {x:Ty}{b c:Value}(h:gd w S x b e c d):∃A cap,b= .int .i64 x.kind/\e= .int .i64 x.size/\c= .slice A x.sub.length cap/\d= .int .i64 x.tail/\mM x.kind/\mM x.size/\mM x.tail/\x.sub.length<=cap/\cap<=9223372036854775807/\nD w S x.sub A 0:=by
 cases x with
 |mk k s l t=>
  obtain⟨u,n,i,j,r,m,z,A,cap,o,y,q,p⟩:=h;exact⟨A,cap,u,n,o,i,j,r,m,y,q,p⟩
def jr (w:World)(S:Nat->Prop):List Ty->List Value->Prop
 | [],cs=>cs= []
 |x::xs,cs=>∃c0 c1 c2 c3 ds,cs=c0::c1::c2::c3::ds/\gd w S x c0 c1 c2 c3/\jr w S xs ds
theorem jr.ah (hS:∀k,k<w.heap.size->S k->S' k)(c:∀p:Addr,p.block<w.heap.size->S p.block->w'.cell? p=w.cell? p):∀{s:List Ty} {b:List Value},jr w S s b->jr w' S' s b
 | [],b,h=>h
 |x::xs,b,h=>by
  obtain⟨d,n,e,m,l,rfl,i,j⟩:=h;exact⟨d,n,e,m,l,rfl,gd.ah hS c x i,j.ah hS c⟩
theorem jr.snoc {y:Ty}{c:Value}(j:gd w S y c i d e):∀{s:List Ty} {b:List Value},jr w S s b->jr w S (s++ [y]) (b++ [c,i,d,e])
 | [],b,h=>by
  have h:b= []:=h;subst h;exact⟨c,i,d,e,[],rfl,j,rfl⟩
 |x::xs,b,h=>by
  obtain⟨k,m,l,o,q,rfl,n,p⟩:=h;exact⟨k,m,l,o,q++ [c,i,d,e],by simp,n,p.snoc j⟩
theorem nD.dU {b o:Nat}(k:S b):∀{s:List Ty} {i:Nat} {c:List Value},jr w S s c->(∀j u,c[j]?=some u->w.cell? (b,o+i*4+j)=some u)->nD w S s (some (b,o)) i
 | [],_,_,_,_=>trivial
 |x::xs,i,c,h,hc=>by
  obtain⟨d,m,e,l,q,rfl,n,p⟩:=h;refine⟨⟨b,o,d,m,e,l,rfl,k,by simpa using hc 0 d (by simp),hc 1 m (by simp),hc 2 e (by simp),hc 3 l (by simp),n⟩,nD.dU k p fun j u hu=> ?_⟩;have:=hc (j+4) u (by simpa using hu);rw[show o+(i+1)*4+j=o+i*4+(j+4)from by omega];exact this
def gG (w:World)(lo:Nat)(acc:List Ty)(v:Value):Prop:=∃cs,w.ownsRow lo 70 4 v acc.length cs/\jr w (fun k=>lo<=k/\v.ownBlock≠some k) acc cs
theorem gG.nil (w:World)(b:Nat):gG w b [] nS:=⟨[],⟨by simp,.inl ⟨rfl,rfl⟩⟩,rfl⟩
theorem gG.form {c:Nat}{acc:List Ty}(h:gG w c acc v):∃A cap,v= .slice A acc.length cap/\acc.length<=cap/\cap<=9223372036854775807:=by
 obtain⟨m,i,l⟩:=h;rcases i.2 with⟨e,b⟩|⟨g,cap,n,d,_,_,j,k,_⟩
 ·exact⟨none,0,by rw[e,b],by omega,by simp⟩
 exact⟨_,cap,d,j,by simpa[maxLen]using k⟩
theorem gG.bK {c:Nat}{acc:List Ty}(h:gG w c acc v):∃A n cap,v= .slice A n cap/\Hid (n=acc.length)/\n<=cap/\cap<=9223372036854775807:=by
 obtain⟨A,cap,b,e,d⟩:=h.form;exact⟨A,_,cap,b,za rfl,e,d⟩
theorem gG.ge {c:Nat}{acc:List Ty}(h:gG w c acc v):∀g,v.ownBlock=some g->c<=g/\g<w.heap.size:=by
 obtain⟨o,k,n⟩:=h;intro g b;rcases k.2 with⟨j,m⟩|⟨e,cap,p,d,l,i,_⟩
 ·rw[j]at b;cases b
 rw[d]at b;have:e=g:=by simpa[Value.ownBlock]using b
 subst this;exact⟨l,yp i⟩
theorem gG.ah {b:Nat}{acc:List Ty}(h:gG w b acc v)(c:∀k,b<=k->k<w.heap.size->w'.heap[k]?=w.heap[k]?):gG w' b acc v:=by
 obtain⟨l,d,i⟩:=h;refine⟨l,⟨d.1, ?_⟩,i.ah (fun _ _ h=>h) fun p e j=>zy (c _ j.1 e)⟩;rcases d.2 with h3|⟨g,cap,cur,hv,hg,hh,r⟩
 ·exact .inl h3
 exact .inr ⟨g,cap,cur,hv,hg,(c g hg (yp hh)).trans hh,r⟩
theorem gG.only {b:Nat}{acc:List Ty}(h:gG w b acc v)(c:ae L w w')(i:∀g,g∈L->g<b):gG w' b acc v:=
 h.ah fun k j d=>c.block k d fun e=>by have:=i k e;omega
theorem gG.below {b:Nat}{acc:List Ty}(h:gG w b acc v)(c:Below w.heap.size w w'):gG w' b acc v:=h.ah fun k _ d=>c.block k d
theorem gG.ty {c:Nat}{acc:List Ty}(h:gG w c acc v)(q:acc.length<=9223372036854775807){k t:Int}(l:mM k)(hz:mM z)(m:mM t):gd w (c<= ·) (.mk k z acc t) k z v t:=by
 obtain⟨A,cap,rfl,n,o⟩:=h.form;obtain⟨x,b,p⟩:=h;refine⟨rfl,rfl,rfl,l,hz,m,q,A,cap,rfl,n,o, ?_⟩;rcases b.2 with⟨d,e⟩|⟨g,B,y,i,r,s,_⟩
 ·obtain rfl:acc= []:=zk e;trivial
 injection i with hA _ hc;subst hA;subst hc;refine nD.dU r (p.ah (fun _ _ h=>h.1) (fun _ _ _=>rfl)) fun j u hu=> ?_
 have:=b.cells rfl j u hu;have d:((g,0):Addr).add j=⟨g,j,none⟩:=by unfold Addr.add;split<;>simp_all
 rw[d]at this;simpa using this
theorem aiE {y:Ty}{b c:Value}(h:gd w S y b e c d):∀u∈ [b,e,c,d],u.oneCell'=true:=by
 obtain⟨A,cap,rfl,rfl,rfl,rfl,_⟩:=h.open_;intro u hu;simp at hu;rcases hu with rfl|rfl|rfl|rfl<;>rfl
theorem gh {rest:List Oper}(G:o.guard=none)(s x:Operand)
 (J:o.op= .call {callee:= .builtin .append,args:= #[s,x],argTypes:= #[68,68]}) (c:Nat) (acc:List Ty)  (K:a.eval s=v) (C:gG w c acc v) (y:Ty) {m:Value}
 (A:gd w (fun k=>c<=k/\v.ownBlock≠some k) y d m l h) (g:Nat) (hx:a.eval x= .slice (some (g,0)) 1 1) (W:w.cell? (g,0)=some d) (H:w.cell? (g,1)=some m) (B:w.cell? (g,2)=some l) (O:w.cell? (g,3)=some h)
 (Z:acc.length<=1000000) (E:c<=w.heap.size)
 (S:∀b n cap w',Hid (n=acc.length+1)->gG w' c (acc++ [y]) (.slice (some (b,0)) n cap)->w.grownBy w' v.ownBlock->c<=b->wpList prog ops Q rest (a.put o.dst (.slice (some (b,0)) n cap)) w'):wpList prog ops Q (o::rest) a w:=by
 obtain⟨i0,hi,L,U,N⟩:=yv Oo;obtain⟨r,D,R⟩:=C;refine y7 w G s x 68 J c 70 i0 _ 4 48 underlying68 hi L U N rfl (by decide) v acc.length r K D (g,0) 1 1 [d,m,l,h] hx rfl ?_ (aiE A) (by decide) (by simp only[maxLen];omega) (by omega) E w.heap.size rfl ?_
 ·intro j u hu;have I:∀j,((g,0):Addr).add j=⟨g,j,none⟩:=by intro j;unfold Addr.add;split<;>simp_all
  rw[I];match j,hu with
  |0,hu=>simp at hu;subst hu;exact W
  |1,hu=>simp at hu;subst hu;exact H
  |2,hu=>simp at hu;subst hu;exact B
  |3,hu=>simp at hu;subst hu;exact O
 intro b cap w' q z i X;have F:=D6 q b rfl;refine S b _ cap w' (za rfl) ⟨r++ [d,m,l,h],by rw[zh];exact q, ?_⟩ z F;refine((R.snoc A).ah (fun k Y hS=>⟨hS.1, ?_⟩) fun p M hS=>zy (z.block _ M (fun e=>hS.2 e.symm)));intro e;have e:b=k:=by simpa[Value.ownBlock]using e
 rcases i with i|i
 ·exact hS.2 (by rw[i,e])
 omega
theorem gd.leaf {k t:Int}(b:mM k)(hz:mM z)(c:mM t):gd w S (.mk k z [] t) k z nS t:=⟨rfl,rfl,rfl,b,hz,c,by simp,none,0,rfl,by simp,by simp,trivial⟩
theorem aA {i:Int}(b:0<=i)(c:i<=100000000):mM i:=by unfold mM;omega
theorem fG.append {t:List Ms}{c:List Value}(d:fG w S t c):∀{s:List Ms} {b:List Value},fG w S s b->fG w S (s++t) (b++c)
 | [],b,h=>by
  have h:b= []:=h;subst h;exact d
 |x::xs,b,h=>by
  obtain⟨e,j,i,l,es,rfl,k,m⟩:=h;exact⟨e,j,i,l,es++c,by simp,k,d.append m⟩
theorem fG.one :∀{s:List Ms} {b:List Value},fG w S s b->∀u∈b,u.oneCell'=true
 | [],b,h=>by
  have h:b= []:=h;subst h;simp
 |x::xs,b,h=>by
  obtain⟨d,i,e,k,es,rfl,j,l⟩:=h;intro u hu;have c:=Ma j;rcases(by simpa using hu:u=d\/u=i\/u=e\/u=k\/u∈es)with rfl|rfl|rfl|rfl|h
  ·exact c _ (by simp)
  ·exact c _ (by simp)
  ·exact c _ (by simp)
  ·exact c _ (by simp)
  exact l.one u h
theorem pO {rest:List Oper}(H:o.guard=none)(s x:Operand)
 (J:o.op= .call {callee:= .builtin .append,args:= #[s,x],argTypes:= #[42,42]}) (D S1:Nat->Prop) (q S:Nat) (acc b:List Ms)  (K:a.eval s=v) (y:bA w D q acc v) (hx:a.eval x=l) (Fp:bA w S1 S b l)
 (UA:∀k,S1 k->D k) (E:∀k,v.ownBlock=some k->¬S1 k) (aa:acc.length+b.length<=1000000) (W:q<=w.heap.size)
 (N:∀m d cap w',Hid (d=(acc++b).length)->bA w' D q (acc++b) (.slice m d cap)->w.grownBy w' v.ownBlock->((Value.slice m d cap).ownBlock=v.ownBlock\/∃k,(Value.slice m d cap).ownBlock=some k/\w.heap.size<=k)->wpList prog ops Q rest (a.put o.dst (.slice m d cap)) w'):wpList prog ops Q (o::rest) a w:=by
 obtain⟨i0,hi,dB,cg,cC⟩:=yv qO;obtain⟨M,f1,f2⟩:=Fp;by_cases z:b= []
 ·subst z;obtain⟨A,n,cap,rfl,U,PC,_⟩:=bA.bK y;have O:Src prog i0.size 42 l 0 [] w:=by
   rcases f1.2 with⟨c,_⟩|⟨F,I,Y,c,_⟩
   ·rw[c];exact Src.ofNil w xg 0
   rw[c];exact Src.ofSlice w xg _ _ _ [] (by simp) (by simp) (by simp)
  have jV:=ZI (P:=prog) w 42 42 o.type 30 i0 xg hi A n cap PC l O;refine Yq H fun ab Wv=> ?_
  unfold Oper.wp;simp[execOp,J,resolve,invoke,builtin,K,hx,jV,Result.andThen];exact Wv _ _ (N A n cap w (by simpa using U) (by simpa using y) (World.grownBy.refl _ _) (.inl rfl))
 rcases f1.2 with⟨c,e2⟩|⟨F,I,Y,c,lK,hh,_⟩
 ·exact absurd (zk e2) z
 subst c;have h0:0<b.length:=List.length_pos_iff.2 z;obtain⟨L,R,h2⟩:=y;refine y7 w H s x 42 J q 30 i0 _ 4 64 xg hi dB cg cC rfl (by decide) v acc.length L K R (F,0) b.length I M hx f1.1 (fun j u hu=>f1.cells rfl j u hu) f2.one h0 (by simp only[maxLen];omega) (by omega) W w.heap.size rfl ?_;intro g2 cap2 w' X B i aD;have e:(acc++b).length=acc.length+b.length:=by simp
 refine N _ _ cap2 w' (za e.symm) ⟨L++M,by rw[e];exact X, ?_⟩ B (by
  rcases i with h|h
  ·exact .inl h.symm
  exact .inr ⟨g2,rfl,by omega⟩)
 have G:∀k,k<w.heap.size->v.ownBlock≠some k->(Value.slice (some (g2,0)) (acc.length+b.length) cap2).ownBlock≠some k:=by
  intro k r Z e;have e:g2=k:=by simpa[Value.ownBlock]using e
  rcases i with i|i
  ·exact Z (by rw[i,e])
  omega
 refine fG.append ?_ ?_
 ·exact f2.ah (fun k r hS=>⟨UA k hS.1,G k r (fun e=>E k e hS.1)⟩) fun p C hS=>zy (B.block _ C (fun e=>E _ e.symm hS.1))
 exact h2.ah (fun k r hS=>⟨hS.1,G k r hS.2⟩) fun p C hS=>zy (B.block _ C (fun e=>hS.2 e.symm))
theorem jO (n sz:Nat)(w:World)(c:n<2^(8*sz))(m:1<=sz)(b:sz<=8):
 Calls prog 126 #[.int .u64 n,sz] w fun e w'=>e= .returned (.tuple #[.string ⟨(jz n sz).toArray⟩,(0:Int)])/\(w,w'):=by
 have i:=le_pow sz b;have k:=za (Vu n sz w c m b);have j:=za (Gz n sz w (by omega) b);clear c i;go_enter func126,ntmps126
 go_wp2_with fail
 refine k.out.mono ?_;rintro e w' ⟨rfl,rfl⟩;go_wp2_with fail
 refine j.out.mono ?_;rintro e w' ⟨rfl,d,h⟩;have o:=bR.str (P:=prog) (l:=jz n sz) (A:=some (w.heap.size,0)) (cap:=sz) zm ym zH (by rw[bd];exact d);rw[bd]at o;have p:=h.below;clear d h;go_wp2;go_ret2
 exact⟨rfl,p⟩
theorem GB {a:Int}{b c:Nat}(h:a=(b:Int))(d:b=c):Ending.returned (.tuple #[.int .u64 a,(0:Int)])= .returned (.tuple #[.int .u64 c,(0:Int)]):=by
 subst h;subst d;rfl
theorem Vv (n b k:Nat)(e:b<256)(i:k<8)(c:n<2^(8*k)):
 bits .or .u64 (n:Int) (IntKind.u64.wrap (IntKind.u64.wrap (b:Int)*2^(8*k)))=((n+b*2^(8*k):Nat):Int):=by
 have j:=le_step n b k e c;have h:=le_pow (k+1) (by omega);have d:(b:Int)*2^(8*k)=((b*2^(8*k):Nat):Int):=by simp
 rw[xy (b:Int) (by omega),d,xy _ (by omega),u64_or_nat _ _ (by omega) (by omega),Xr _ _ _ c]
theorem fa (s:ByteArray)(w:World)(o:0<s.size)(l:s.size<=8):
 Calls prog 104 #[s] w fun e w'=>e= .returned (.tuple #[.int .u64 (dg s.data.toList),(0:Int)])/\w=w':=by
 have hz:((s.size:Int)==0)=false:=zl.2 (by omega);go_enter func104,ntmps104
 go_wp2;go_loop [5,15] (fun n i=>∃k m:Nat,k<=s.size/\Hid (m=dg (s.data.toList.take k))/\n= .int .u64 m/\i= .int .i64 k) (fun _ i=>s.size-(intOf i).toNat)
 case atStart=>exact⟨0,0,by omega,rfl,rfl,rfl⟩
 case round=>
  obtain⟨k,m,c,b,rfl,rfl⟩:=hrel;by_cases j:k<s.size
  ·go_wp2;have h:=s[k].toNat_lt;have d:=jG (s.data.toList.take k);rw[length_take s k c,<-b.out]at d;have e:=Vv m s[k].toNat k h (by omega) d;go_round
   case rel=>
    refine⟨k+1,_,by omega,za rfl, ?_,by go_num⟩;rw[jw s k j,QF,length_take s k c,<-b.out,<-e]
   case measure=>simp[intOf];omega
  go_wp2;go_ret2
  exact⟨GB rfl (by rw[b.out,zw (by simp;omega)]),rfl⟩
theorem nE (s:ByteArray)(w:World)(b:s.size=0):
 Calls prog 104 #[s] w fun e w'=>e= .returned (.tuple #[.int .u64 0,(1:Int)])/\w=w':=by
 go_enter func104,ntmps104
 go_wp2;go_ret2
 exact⟨rfl,rfl⟩
def aW (w:World):Prop:=(w,0,0,(2:Int))/\(w,0,1,(4:Int))/\(w,0,2,(8:Int))
theorem aW.pos (h:aW w):0<w.heap.size:=lt_of_cell h.1
theorem aW.same (h:aW w)(b:w'.heap[0]?=w.heap[0]?):aW w':=
 ⟨(zy b).trans h.1,(zy b).trans h.2.1,(zy b).trans h.2.2⟩
theorem aW.below (h:aW w)(c:Below B w w')(b:0<B):aW w':=h.same (c.block 0 b)
theorem aW.only (h:aW w)(b:ae L w w')(c:0∉L):aW w':=h.same (b.block 0 h.pos c)
theorem Mb (n:Nat):(n<253/\bz n=n)\/(¬n<253/\n<65536/\bz n=253)\/(¬n<253/\¬n<65536/\n<4294967296/\bz n=254)\/(¬n<253/\¬n<65536/\¬n<4294967296/\bz n=255):=by
 unfold bz;split
 ·exact .inl ⟨‹_›,rfl⟩
 split
 ·exact .inr (.inl ⟨‹_›,‹_›,rfl⟩)
 split
 ·exact .inr (.inr (.inl ⟨‹_›,‹_›,‹_›,rfl⟩))
 exact .inr (.inr (.inr ⟨‹_›,‹_›,‹_›,rfl⟩))
theorem oB (n:Nat)(w:World)(k:n<18446744073709551616):
 Calls prog 200 #[.int .u64 n] w fun e w'=>e= .returned (.int .u8 (bz n))/\w=w':=by
 rcases Mb n with⟨b,e⟩|⟨b,h,e⟩|⟨b,h,i,e⟩|⟨b,h,i,e⟩
 ·rw[e];clear e;have c:decide ((n:Int)<253)=true:=zD (by omega);go_enter func200,ntmps200
  go_wp2;go_ret;exact⟨by go_num,rfl⟩
 ·rw[e];clear e;have c:decide ((n:Int)<253)=false:=zt (by omega);have d:decide ((n:Int)<65536)=true:=zD (by omega);go_enter func200,ntmps200
  go_wp2;go_ret;exact⟨by go_num,rfl⟩
 ·rw[e];clear e;have c:decide ((n:Int)<253)=false:=zt (by omega);have d:decide ((n:Int)<65536)=false:=zt (by omega);have j:decide ((n:Int)<4294967296)=true:=zD (by omega);go_enter func200,ntmps200
  go_wp2;go_ret;exact⟨by go_num,rfl⟩
 rw[e];clear e;have c:decide ((n:Int)<253)=false:=zt (by omega);have d:decide ((n:Int)<65536)=false:=zt (by omega);have j:decide ((n:Int)<4294967296)=false:=zt (by omega);go_enter func200,ntmps200
 go_wp2;go_ret;exact⟨by go_num,rfl⟩
theorem GC (h:n<253):dx n= [ub n]:=by unfold dx;rw[zg h]
theorem nF {f:Nat}(h:¬n<253)(c:bz n=f)(b:bo f=k):(⟨#[ub f]⟩++⟨(jz n k).toArray⟩:ByteArray)=⟨(dx n).toArray⟩:=
 aE (by rw[aX];unfold dx;rw[zf h,c,b];rfl)
theorem Mc (n:Nat)(w:World)(d:n<18446744073709551616)(m:aW w):
 Calls prog 159 #[.int .u64 n] w fun e w'=>e= .returned (.string ⟨(dx n).toArray⟩)/\(w,w'):=by
 have u:=m.pos;obtain⟨s,r,p⟩:=m;have c:=za (oB n w d);have k1:=fun(w:World) (a:Int)=>QS zm ym zH w a
 rcases Mb n with⟨b,e⟩|⟨b,l,e⟩|⟨b,l,q,e⟩|⟨b,l,q,e⟩
 ·have h:=za (GC b);rw[e]at c;clear e d s r p;go_enter func159,ntmps159
  go_wp2_with fail
  refine c.out.mono ?_;rintro e w' ⟨rfl,rfl⟩;go_wp2;go_ret;exact⟨ot (by rw[h.out]),bQ⟩
 ·have i:=za (fun w=>jO n 2 w (by have:=vt b d;rw[e]at this;simpa[bo]using this) (by omega) (by omega));have h:=za (nF (k:=2) b e (by decide));have o:(⟨(jz n 2).toArray⟩:ByteArray).size=2:=by rw[bJ,bd]
  generalize (⟨(jz n 2).toArray⟩:ByteArray)=T at*;rw[e]at c;clear e d;go_enter func159,ntmps159
  go_wp2_with fail
  refine c.out.mono ?_;rintro e w' ⟨rfl,rfl⟩;go_wp2_with fail
  refine(i.out _).mono ?_;rintro e w' ⟨rfl,j⟩;go_wp2;go_ret;exact⟨ot (by rw[<-h.out];rfl),((zi w.heap.size w).alloc (ze _) _).trans (j.mono (by simp))⟩
 ·have i:=za (fun w=>jO n 4 w (by have:=vt b d;rw[e]at this;simpa[bo]using this) (by omega) (by omega));have h:=za (nF (k:=4) b e (by decide));have o:(⟨(jz n 4).toArray⟩:ByteArray).size=4:=by rw[bJ,bd]
  generalize (⟨(jz n 4).toArray⟩:ByteArray)=T at*;rw[e]at c;clear e d;go_enter func159,ntmps159
  go_wp2_with fail
  refine c.out.mono ?_;rintro e w' ⟨rfl,rfl⟩;go_wp2_with fail
  refine(i.out _).mono ?_;rintro e w' ⟨rfl,j⟩;go_wp2;go_ret;exact⟨ot (by rw[<-h.out];rfl),((zi w.heap.size w).alloc (ze _) _).trans (j.mono (by simp))⟩
 have i:=za (fun w=>jO n 8 w (by have:=vt b d;rw[e]at this;simpa[bo]using this) (by omega) (by omega));have h:=za (nF (k:=8) b e (by decide));have o:(⟨(jz n 8).toArray⟩:ByteArray).size=8:=by rw[bJ,bd]
 generalize (⟨(jz n 8).toArray⟩:ByteArray)=T at*;rw[e]at c;clear e d;go_enter func159,ntmps159
 go_wp2_with fail
 refine c.out.mono ?_;rintro e w' ⟨rfl,rfl⟩;go_wp2_with fail
 refine(i.out _).mono ?_;rintro e w' ⟨rfl,j⟩;go_wp2;go_ret;exact⟨ot (by rw[<-h.out];rfl),((zi w.heap.size w).alloc (ze _) _).trans (j.mono (by simp))⟩
def C2 (N:Nat×Nat×Int):Ending:= .returned (.tuple #[.int .u64 N.1,N.2.1,N.2.2])
theorem nG (s:ByteArray)(k:Nat):(s.extract 1 (1+k)).data.toList=(s.data.toList.drop 1).take k:=by
 simp[ByteArray.extract,ByteArray.copySlice,Array.toList_extract]
theorem RC (s:ByteArray)(w:World)(B:s.size<=9223372036854775807)(z:aW w):
 Calls prog 202 #[s] w fun e w'=>e=C2 (au s.data.toList)/\w=w':=by
 obtain⟨A,E,C⟩:=z;unfold C2;rcases fZ s with⟨x,rfl⟩|⟨x,G,D⟩
 ·go_enter xm,y9
  go_wp2;go_ret3
  exact⟨rfl,rfl⟩
 have y:0<s.size:=by omega
 have i:=drop_cons s 0 y;rw[zG]at i;have o:=s[0].toNat_lt;by_cases u:s[0].toNat<253
 ·have c:Hid (au s.data.toList=(s[0].toNat,1,0)):=za (by rw[i];simp only[au,zg u]);generalize au s.data.toList=N at*;clear i;go_enter xm,y9
  go_wp2;go_ret3
  exact⟨by rw[c.out];rfl,rfl⟩
 rcases(show s[0].toNat=253\/s[0].toNat=254\/s[0].toNat=255 by omega)with o|o|o
 ·have p:s[0].toNat=253:=o;have b:Hid (au s.data.toList=if(s.data.toList.drop 1).length<2 then(0,0,2)else if bz (dg ((s.data.toList.drop 1).take 2))=253 then(dg ((s.data.toList.drop 1).take 2),1+2,0)else(0,0,3)):=za (by
   rw[i];simp only[au,p];rfl)
  rw[zN,aa]at b;generalize au s.data.toList=N at*;by_cases r:s.size<1+2
  ·have c:Hid (N=(0,0,2)):=za (by rw[b.out,zg (by omega)]);clear b i;go_enter xm,y9
   go_wp2;go_ret3
   exact⟨by rw[c.out];rfl,rfl⟩
  have d:(s.extract 1 (1+2)).data.toList=(s.data.toList.drop 1).take 2:=nG s 2;have k:(s.extract 1 (1+2)).size=2:=by rw[ar s 1 (1+2) (by omega)]
  have l:=za (fa (s.extract 1 (1+2)) w (by omega) (by omega));rw[d]at l;have j:=jG ((s.data.toList.drop 1).take 2);rw[<-d,aa,k]at j;rw[d]at j;rw[zf (by omega)]at b;generalize dg ((s.data.toList.drop 1).take 2)=m at*;have n:=za (oB m w (by omega));by_cases h:bz m=253
  ·have c:Hid (N=(m,1+2,0)):=za (by rw[b.out,zg h]);rw[h]at n;clear b i d k j h;go_enter xm,y9
   go_wp2_with fail
   refine l.out.mono ?_;rintro e w' ⟨rfl,rfl⟩;go_wp2_with fail
   refine n.out.mono ?_;rintro e w' ⟨rfl,rfl⟩;go_wp2;go_ret3
   exact⟨by rw[c.out];rfl,rfl⟩
  have c:Hid (N=(0,0,3)):=za (by rw[b.out,zf h]);have q:((bz m:Int) !=253)=true:=by rw[yL];omega
  generalize bz m=F at*;clear b i d k j h;go_enter xm,y9
  go_wp2_with fail
  refine l.out.mono ?_;rintro e w' ⟨rfl,rfl⟩;go_wp2_with fail
  refine n.out.mono ?_;rintro e w' ⟨rfl,rfl⟩;go_wp2;go_ret3
  exact⟨by rw[c.out];rfl,rfl⟩
 ·have p:s[0].toNat=254:=o;have b:Hid (au s.data.toList=if(s.data.toList.drop 1).length<4 then(0,0,2)else if bz (dg ((s.data.toList.drop 1).take 4))=254 then(dg ((s.data.toList.drop 1).take 4),1+4,0)else(0,0,3)):=za (by
   rw[i];simp only[au,p];rfl)
  rw[zN,aa]at b;generalize au s.data.toList=N at*;by_cases r:s.size<1+4
  ·have c:Hid (N=(0,0,2)):=za (by rw[b.out,zg (by omega)]);clear b i;go_enter xm,y9
   go_wp2;go_ret3
   exact⟨by rw[c.out];rfl,rfl⟩
  have d:(s.extract 1 (1+4)).data.toList=(s.data.toList.drop 1).take 4:=nG s 4;have k:(s.extract 1 (1+4)).size=4:=by rw[ar s 1 (1+4) (by omega)]
  have l:=za (fa (s.extract 1 (1+4)) w (by omega) (by omega));rw[d]at l;have j:=jG ((s.data.toList.drop 1).take 4);rw[<-d,aa,k]at j;rw[d]at j;rw[zf (by omega)]at b;generalize dg ((s.data.toList.drop 1).take 4)=m at*;have n:=za (oB m w (by omega));by_cases h:bz m=254
  ·have c:Hid (N=(m,1+4,0)):=za (by rw[b.out,zg h]);rw[h]at n;clear b i d k j h;go_enter xm,y9
   go_wp2_with fail
   refine l.out.mono ?_;rintro e w' ⟨rfl,rfl⟩;go_wp2_with fail
   refine n.out.mono ?_;rintro e w' ⟨rfl,rfl⟩;go_wp2;go_ret3
   exact⟨by rw[c.out];rfl,rfl⟩
  have c:Hid (N=(0,0,3)):=za (by rw[b.out,zf h]);have q:((bz m:Int) !=254)=true:=by rw[yL];omega
  generalize bz m=F at*;clear b i d k j h;go_enter xm,y9
  go_wp2_with fail
  refine l.out.mono ?_;rintro e w' ⟨rfl,rfl⟩;go_wp2_with fail
  refine n.out.mono ?_;rintro e w' ⟨rfl,rfl⟩;go_wp2;go_ret3
  exact⟨by rw[c.out];rfl,rfl⟩
 have p:s[0].toNat=255:=o;have b:Hid (au s.data.toList=if(s.data.toList.drop 1).length<8 then(0,0,2)else if bz (dg ((s.data.toList.drop 1).take 8))=255 then(dg ((s.data.toList.drop 1).take 8),1+8,0)else(0,0,3)):=za (by
  rw[i];simp only[au,p];rfl)
 rw[zN,aa]at b;generalize au s.data.toList=N at*;by_cases r:s.size<1+8
 ·have c:Hid (N=(0,0,2)):=za (by rw[b.out,zg (by omega)]);clear b i;go_enter xm,y9
  go_wp2;go_ret3
  exact⟨by rw[c.out];rfl,rfl⟩
 have d:(s.extract 1 (1+8)).data.toList=(s.data.toList.drop 1).take 8:=nG s 8;have k:(s.extract 1 (1+8)).size=8:=by rw[ar s 1 (1+8) (by omega)]
 have l:=za (fa (s.extract 1 (1+8)) w (by omega) (by omega));rw[d]at l;have j:=jG ((s.data.toList.drop 1).take 8);rw[<-d,aa,k]at j;rw[d]at j;rw[zf (by omega)]at b;generalize dg ((s.data.toList.drop 1).take 8)=m at*;have n:=za (oB m w (by omega));by_cases h:bz m=255
 ·have c:Hid (N=(m,1+8,0)):=za (by rw[b.out,zg h]);rw[h]at n;clear b i d k j h;go_enter xm,y9
  go_wp2_with fail
  refine l.out.mono ?_;rintro e w' ⟨rfl,rfl⟩;go_wp2_with fail
  refine n.out.mono ?_;rintro e w' ⟨rfl,rfl⟩;go_wp2;go_ret3
  exact⟨by rw[c.out];rfl,rfl⟩
 have c:Hid (N=(0,0,3)):=za (by rw[b.out,zf h]);have q:((bz m:Int) !=255)=true:=by rw[yL];omega
 generalize bz m=F at*;clear b i d k j h;go_enter xm,y9
 go_wp2_with fail
 refine l.out.mono ?_;rintro e w' ⟨rfl,rfl⟩;go_wp2_with fail
 refine n.out.mono ?_;rintro e w' ⟨rfl,rfl⟩;go_wp2;go_ret3
 exact⟨by rw[c.out];rfl,rfl⟩
theorem qQ {K:Act->World->Prop}{S:Prop}(F:o.guard=none)(s x:Operand)
 (I:o.op= .call {callee:= .builtin .append,args:= #[s,x],argTypes:= #[26,26]}) (c:Nat) (acc:List It)  (J:a.eval s=v) (B:Acc w c acc v) (y:It) 
 (z:fV w (fun k=>c<=k/\v.ownBlock≠some k) y d l i) (g:Nat) (hx:a.eval x= .slice (some (g,0)) 1 1) (U:w.cell? (g,0)=some d) (G:w.cell? (g,1)=some l) (A:w.cell? (g,2)=some i)
 (Z:acc.length<=1000000) (D:c<=w.heap.size)
 (R:∀b m cap w',Hid (m=acc.length+1)->Acc w' c (acc++ [y]) (.slice (some (b,0)) m cap)->w.grownBy w' v.ownBlock->c<=b->K (a.put o.dst (.slice (some (b,0)) m cap)) w'):
 if Region.wanted o (yielded ops a.tmps)=true then Oper.wp prog o a w K Q else S:=by
 obtain⟨i0,hi,L,W,N⟩:=yv sK;obtain⟨q,C,O⟩:=B;refine ZK w F s x 26 I c 28 i0 _ 3 48 xU hi L W N rfl (by decide) v acc.length q J C (g,0) 1 1 [d,l,i] hx rfl ?_ (aiD z) (by decide) (by simp only[maxLen];omega) (by omega) D w.heap.size rfl ?_
 ·intro j u hu;have H:∀j,((g,0):Addr).add j=⟨g,j,none⟩:=by intro j;unfold Addr.add;split<;>simp_all
  rw[H];match j,hu with
  |0,hu=>simp at hu;subst hu;exact U
  |1,hu=>simp at hu;subst hu;exact G
  |2,hu=>simp at hu;subst hu;exact A
 intro b cap w' n r h X;have E:=D6 n b rfl;refine R b _ cap w' (za rfl) ⟨q++ [d,l,i],by rw[zh];exact n, ?_⟩ r E;refine((O.snoc z).ah (fun k Y hS=>⟨hS.1, ?_⟩) fun p M hS=>zy (r.block _ M (fun e=>hS.2 e.symm)));intro e;have e:b=k:=by simpa[Value.ownBlock]using e
 rcases h with h|h
 ·exact hS.2 (by rw[h,e])
 omega
theorem kt {a b c:Value}(h:af w g t #[a,b,c]):(w,g,0,a)/\(w,g,1,b)/\(w,g,2,c):=⟨h.cell 0,h.cell 1,h.cell 2⟩
theorem aep {t3 b c:Value}(h:(w.alloc (.cells #[i,e,d,t3] 70)).alloc (.cells #[b,j,c] 28)=W):
 W.heap.size=w.heap.size+2/\(w,W)/\af W w.heap.size 70 #[i,e,d,t3]/\af W (w.heap.size+1) 28 #[b,j,c]:=by
 subst h;exact⟨by simp,((zi _ w).alloc (ze _) _).alloc (by simp) _,(af.new w _ _).alloc _,af.at_ (by simp)⟩
def wV (w w':World)(x:It)(er:Int)(e:Ending):Prop:=
 (w,w')/\∃c0 c1 c2,e= .returned (.tuple #[.agg #[c0,c1,c2],er])/\fV w' (w.heap.size<= ·) x c0 c1 c2
theorem nH (w:World)(S:Nat->Prop):fV w S kG eS false nS:=fV.text false (by simp[ByteArray.size])
theorem aiF {b c:Value}(h:W=w.alloc (.cells #[b,c,d] 28)):(w,W)/\W.heap.size=w.heap.size+1/\af W w.heap.size 28 #[b,c,d]:=by
 subst h;exact⟨(zi _ _).alloc (ze _) _,by simp,af.new w _ _⟩
theorem gZ (h:af w g t #[j,e,i])(c b d:Value):af (((w.setCell (g,0) c).setCell (g,1) b).setCell (g,2) d) g t #[c,b,d]:=((h.set 0 c).set 1 b).set 2 d
theorem fw (h:af w g t #[j,e,i])(b c d:Value):((w.setCell (g,0) b),g,0,b)/\(((w.setCell (g,0) b).setCell (g,1) c),g,1,c)/\((((w.setCell (g,0) b).setCell (g,1) c).setCell (g,2) d),g,2,d):=
 ⟨by have:=(h.set 0 b).cell 0;simpa using this,by have:=((h.set 0 b).set 1 c).cell 1;simpa using this,by have:=(((h.set 0 b).set 1 c).set 2 d).cell 2;simpa using this⟩
theorem RD (w:World)(B:Nat)(t:ByteArray)(l:Bool)(h:t.size<=9223372036854775807):bH w B (.mk t l []) t l nS:=⟨rfl,rfl,h,by simp,none,0,rfl,by simp,by simp,trivial⟩
def GD (w:World)(R:Option Ty)(e:Ending)(w':World):Prop:=
 (w,w')/\match R with
  |none=>e= .returned (.tuple #[.agg #[(0:Int),(0:Int),nS,(0:Int)],(3:Int)])
  |some x=>∃c0 c1 c2 c3,e= .returned (.tuple #[.agg #[c0,c1,c2,c3],(0:Int)])/\gd w' (w.heap.size<= ·) x c0 c1 c2 c3
theorem Oq (l:List UInt8):ss (l++ [0])=ss l:=by simp[ss]
theorem Ot (l:List UInt8)(b:UInt8)(h:b≠0):ss (l++ [b])=l++ [b]:=by simp[ss,h]
theorem GF (y:ByteArray)(k:Nat)(h:y.size=k+1):y.data.toList=(y.extract 0 k).data.toList++ [y[k]]:=by
 rw[aq,zG,<-jw y k (by omega),<-h,cQ]
theorem Ou (h:y.size=k+1)(b:cY y=cY s)(c:(y[k].toNat:Int)=0):cY (y.extract 0 k)=cY s:=by
 rw[<-b];unfold cY;rw[GF y k h];have:y[k]=0:=by
  apply zP.1;have:y[k].toNat=0:=by omega
  simpa using this
 rw[this,Oq]
theorem Ov (h:y.size=k+1)(d:cY y=cY s)(i:(y[k].toNat:Int)≠0):y=cY s:=by
 rw[<-d];unfold cY;have c:=GF y k h;have b:y[k]≠0:=by
  intro e;apply i;rw[e];rfl
 apply aE;rw[c,Ot _ _ b]
theorem RE (h:y.size=0)(b:cY y=cY s):y=cY s:=by
 rw[<-b];have:y.data.toList= []:=zk (by simpa using h);apply aE;unfold cY;rw[this];rfl
theorem JV (s:ByteArray)(w:World)(j:s.size<=9223372036854775807):
 Calls prog 209 #[s,.int .u8 0] w fun e w'=>e= .returned (.string (cY s))/\w=w':=by
 go_enter func209,ntmps209
 go_wp2;go_loop [0] (fun x=>∃(y:ByteArray),Hid (cY y=cY s)/\y.size<=9223372036854775807/\x= .string y) (fun x=>strOf x)
 case atStart=>exact⟨s,za rfl,j,rfl⟩
 case round=>
  obtain⟨y,c,hz,rfl⟩:=hrel;rcases Zt y.size with h0|h0
  ·have i:=za h0;have m:y.size<=0:=by omega
   clear h0;go_wp2;go_ret;exact⟨ot (RE i.out c.out).symm,rfl⟩
  obtain⟨k,b⟩:∃k,y.size=k+1:=⟨y.size-1,by omega⟩
  have d:=za b;have n:k<y.size:=by omega
  have l:(y.size:Int)-1=k:=by omega
  rcases xd ((y[k].toNat:Int)==0)with h|h
  ·clear b;go_wp2;go_round
   case rel=>exact⟨y.extract 0 k,za (Ou d.out c.out (by simpa using h)),by rw[ar _ _ _ (by omega)];omega,rfl⟩
   case measure=>simp[ar];omega
  clear b;go_wp2;go_ret;exact⟨ot (Ov d.out c.out (by simpa using h)).symm,rfl⟩
theorem RF :(prog.info? 5).map (·.size)=some 1:=by kernel_rfl
def z12 :Array Value:= #[.int .u8 0,.int .u8 0,.int .u8 0,.int .u8 0,.int .u8 0,.int .u8 0,.int .u8 0,.int .u8 0,.int .u8 0,.int .u8 0,.int .u8 0,.int .u8 0]
theorem RG :z12.toList=cb (List.replicate 12 0):=rfl
theorem aap (w:World)(ty t:TypeId)(s:ByteArray)(b:s.size<=12):
 (Builtin.copy_ #[75,9] ty #[.slice (some (w.heap.size,0)) 12 12,s]).run prog (w.alloc (.cells z12 t))= .ok (goInt s.size) (w.alloc (.cells (cb (eV s).data.toList).toArray t)):=by
 have h:=Lib.run_copy_row_string (P:=prog) (w.alloc (.cells z12 t)) 75 9 ty 5 w.heap.size 0 12 12 s z12 t zm RF (yK w _) b (by simpa[z12]using b);rw[h,World.setRow_alloc_new];have e:(z12.toList.take 0++Lib.byteCells s.data.toList++z12.toList.drop (0+s.size))=cb (eV s).data.toList:=by
  rw[lN,eL,RG,yq,yo,zK,<-U4,List.drop_replicate];rfl
 rw[e]
theorem aaq (w:World)(t:TypeId)(s:ByteArray)(b:s.size<=12):
 (convert 75 9 (.slice (some (w.heap.size,0)) 12 12)).run prog (w.alloc (.cells (cb (eV s).data.toList).toArray t))= .ok (.string (eV s)) (w.alloc (.cells (cb (eV s).data.toList).toArray t)):=by
 have c:(eV s).data.toList.length=12:=by rw[aa];exact ij s b
 have:=vo (P:=prog) (w.alloc (.cells (cb (eV s).data.toList).toArray t)) 75 9 5 zm ym zH (w.heap.size,0) 12 (eV s).data.toList (fun j u hu=>ZZ (yK w (.cells (cb (eV s).data.toList).toArray t)) j u (by simpa using hu));rw[c,jD]at this;exact this
theorem Ow (s:ByteArray)(w:World)(c:s.size<=9223372036854775807)(b:ca s=false):
 Calls prog 125 #[s] w fun e w'=>e= .returned (.tuple #[ByteArray.empty,(11:Int)])/\w=w':=by
 have H:=qN s w c;rw[b]at H;have d:=za H;clear H b;go_enter func125,ntmps125
 go_wp2_with fail
 refine d.out.mono ?_;rintro e w' ⟨rfl,rfl⟩;go_wp2;go_ret2
 exact⟨rfl,rfl⟩
theorem GG (s:ByteArray)(w:World)(b:ca s=true):
 Calls prog 125 #[s] w fun e w'=>e= .returned (.tuple #[.string (eV s),(0:Int)])/\(w,w'):=by
 have hz:=dE b;have H:=qN s w (by omega);rw[b]at H;have d:=za H;clear H b;have k1:=fun(ty t:TypeId)=>aap w ty t s hz.2
 have k2:=fun(t:TypeId)=>aaq w t s hz.2
 have c:=fun t=>(zi w.heap.size w).alloc (ze _) (.cells (cb (eV s).data.toList).toArray t)
 have h:=za c;clear c;simp only[z12]at k1;go_enter func125,ntmps125
 go_wp2_with fail
 refine d.out.mono ?_;rintro e w' ⟨rfl,rfl⟩;go_wp2;go_ret2
 exact⟨rfl,h.out _⟩
theorem tO (s:ByteArray)(w:World)(c:s.size<=9223372036854775807):
 Calls prog 173 #[s,.string ⟨#[0]⟩] w fun e w'=>e= .returned (.string (cY s))/\w=w':=by
 rcases fZ s with⟨b,rfl⟩|⟨b,h,d⟩
 ·clear b;go_enter func173,ntmps173
  go_wp2_with fail
  go_ret;exact⟨rfl,rfl⟩
 clear b;go_enter func173,ntmps173
 go_wp2_with fail
 refine(JV s w c).mono ?_;rintro e w' ⟨rfl,rfl⟩;go_wp2;go_ret;exact⟨rfl,rfl⟩
theorem RH (s:ByteArray):(cY s).size<=s.size:=by
 obtain⟨n,b⟩:=Cy s.data.toList;have:=yi List.length b;rw[cY,bJ];simp only[zh,aa]at this;omega
theorem RI (s:ByteArray)(w:World)(d:s.size<=9223372036854775807):
 Calls prog 134 #[s] w fun e w'=>e= .returned (.tuple #[.string (cZ s).2,.int .i64 (cZ s).1])/\w=w':=by
 have hz:=RH s;by_cases b:s.size=12
 ·have j:((s.size:Int) !=12)=false:=by simp[b]
  have i:=za (qN (cY s) w (by omega));have c:=za (show cZ s=if ca (cY s)=true then(0,cY s)else(3,ByteArray.empty)by unfold cZ;simp[b]);clear b hz;rcases xd (ca (cY s))with h|h;all_goals
   rw[h]at i c;go_enter func134,ntmps134
   go_wp2_with fail
   refine(tO s w d).mono ?_;rintro e w' ⟨rfl,rfl⟩;go_wp2_with fail
   refine i.out.mono ?_;rintro e w' ⟨rfl,rfl⟩;go_wp2;go_ret2
   exact⟨by rw[c.out];rfl,rfl⟩
 have j:((s.size:Int) !=12)=true:=yL.2 (by omega);have c:=za (FN s b);clear b hz;go_enter func134,ntmps134
 go_wp2_with fail
 refine(tO s w d).mono ?_;rintro e w' ⟨rfl,rfl⟩;go_wp2;go_ret2
 exact⟨by rw[c.out];rfl,rfl⟩
theorem sN :(prog.info? 5).map (fun i=>(i.zero,i.size,i.bytes))=some (some (.int .u8 0),1,1):=by kernel_rfl
theorem aeq :∀x:Fin 256,x.val|||128=x.val%128+128:=by decide+kernel
theorem aar (m:Nat):bits .or .u8 ((m:Int)%256) 128=((m%128+128:Nat):Int):=by
 have h:=u8_or_nat (m%256) 128 (by omega) (by omega);have b:=aeq ⟨m%256,by omega⟩;simp only at b;rw[b,show m%256%128=m%128 from by omega]at h;rw[<-h];rfl
theorem qR {m:Nat}{pre:List UInt8}(h:pre++aR m=aR n)(b:128<=m):(pre++ [ub (m%128+128:Nat)])++aR (m/128)=aR n:=by
 rw[<-h,jy (n:=m) (by omega)];simp
theorem D7 {m:Nat}{pre:List UInt8}(h:pre++aR m=aR n)(b:¬128<=m):pre++ [ub (m:Nat)]=aR n:=by
 rw[<-h,il (n:=m) (by omega)]
theorem JW {m:Nat}{pre:List UInt8}(h:pre++aR m=aR n)(c:n<18446744073709551616):pre.length<10:=by
 have d:=bC 10 n (by omega) (by omega);have e:=FW m;have b:=yi List.length h;simp only[zh]at b;omega
def aas (n:Nat)(w:World)(b:Value)(x:Value)(wr:World):Prop:=
 ∃(m:Nat) (pre:List UInt8),pre++aR m=aR n/\m<18446744073709551616/\pre.length<10/\x= .int .u64 m/\bR wr w.heap.size 5 b pre/\Kept 5 w.heap.size w wr
theorem wW (n:Nat)(w:World)(s:n<18446744073709551616):
 Calls prog 140 #[.int .u64 n] w fun e w'=>e= .returned (.string ⟨(aR n).toArray⟩)/\(w,w'):=by
 obtain⟨i0,hi,k,p,l⟩:=yv sN;go_enter func140,ntmps140
 go_wp2_with (at_make;refine ZV _ rfl _ _ 75 rfl w.heap.size 5 i0 (.int .u8 0) 1 zm hi k p .i64 .i64 _ 10 rfl rfl (by omega) (by rw[l];omega) (by simp only[maxLen];omega) (by omega) ?_;intro C r y)
 have B:bR C w.heap.size 5 (.slice (some (w.heap.size,0)) 0 10) []:=bR.own r;have z:Kept 5 w.heap.size w C:=Kept.LC y (ze _);clear r y;go_loopw [3,0] (fun b x wr=>aas n w b x wr) (fun _ x _=>(intOf x).toNat)
 case atStart=>exact⟨n,[],rfl,s,by simp,rfl,B,z⟩
 case round=>
  obtain⟨m,pre,u,N,M,rfl,o,h⟩:=hrel;have q:=za u;have L:=h.size;obtain⟨A,cap,rfl,I,J⟩:=o.form;clear u B z;by_cases j:128<=m
  ·go_wp2_with (at_builtin;refine aP (by rfl) (.tmp 7) (.tmp 11) 75 75 (by rfl) w.heap.size 5 i0 zm hi k p l (by rfl) (o.alloc _) _ [ub (m%128+128:Nat)] (by rfl) (kh zm wr 5 _ [ub (m%128+128:Nat)] 1 (pE (aar m) (by omega))) (by rw[zp];omega) (by simp only[zx,zM];omega) ?_)
   intro E G F H c d;have D:=za c;have i:=za ((h.alloc (by omega) _).trans d);clear c d;go_wp2;go_roundw
   case rel=>exact⟨m/128,_,qR q.out j,by omega,JW (qR q.out j) s,by go_num,D.out,i.out⟩
   case measure=>simp[intOf];omega
  go_wp2_with (at_builtin;refine aP (by rfl) (.tmp 15) (.tmp 18) 75 75 (by rfl) w.heap.size 5 i0 zm hi k p l (by rfl) (o.alloc _) _ [ub (m:Nat)] (by rfl) (kh zm wr 5 _ [ub (m:Nat)] 1 (pE rfl (by omega))) (by rw[zp];omega) (by simp only[zx,zM];omega) ?_)
  intro E G F H c d;rw[D7 q.out j]at c;have i:=za ((h.alloc (by omega) _).trans d);have K:=c.Jt (P:=prog) zm ym zH;clear d c;go_wp2;go_ret;exact⟨rfl,i.out.below⟩
