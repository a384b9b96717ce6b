/- Items in memory that a call itself has made: in which blocks they may lie; a list of them that grows. Own text; no program in sight but the type's number. -/
import Derived.Test.YtimoclkoflamkaaGreatDoorKA7
set_option linter.all false
set_option maxRecDepth 100000
set_option maxHeartbeats 1000000
open Go.Proofs.Tryz
namespace Go.Proofs.YtimoclkoflamkaaGreatDoor
open Go.RowKit
variable {w w' W:World}{S S':Nat->Prop}{v d e i l h j:Value}{acc:List Ms}{L:List Nat}{A:Option Addr}{n g B k:Nat}{x:It}{t:TypeId}{m:Ms}{ops:Array Oper}{o:Oper}{a:Act}{Q:Exit->Act->World->Prop}{s y:ByteArray}{z:Int}
def y9:=@wpList_append_lies
def xd:=@ntmps202
def xm:=@func202
def xT:=@underlying42
def ZM:=@wpList_make_own
mutual
def fR (w:World)(S:Nat->Prop):It->Value->Value->Value->Prop
 | .mk t l s,c0,c1,c2=>c0= .string t/\c1= .bool l/\t.size<=9223372036854775807/\s.length<=9223372036854775807/\∃A cap,c2= .slice A s.length cap/\s.length<=cap/\cap<=9223372036854775807/\lM w S s A 0
def lM (w:World)(S:Nat->Prop):List It->Option Addr->Nat->Prop
 | [],_,_=>True
 |x::xs,A,i=>(∃b o c0 c1 c2,A=some ⟨b,o,none⟩/\S b/\(w,b,o+i*3,c0)/\(w,b,o+i*3+1,c1)/\(w,b,o+i*3+2,c2)/\fR w S x c0 c1 c2)/\lM w S xs A (i+1)
end
theorem lM.at_ :∀{s:List It} {i:Nat},lM w S s A i->∀(j:Nat) (h:j<s.length),∃b o e c d,A=some ⟨b,o,none⟩/\S b/\(w,b,o+(i+j)*3,e)/\(w,b,o+(i+j)*3+1,c)/\(w,b,o+(i+j)*3+2,d)/\fR w S s[j] e c d
 | [],_,_,j,h=>by simp at h
 |x::xs,i,hi,0,_=>by simpa[lM]using hi.1
 |x::xs,i,hi,j+1,h=>by
  have:=lM.at_ hi.2 j (by simpa using h);rw[show i+1+j=i+(j+1)from by omega]at this;simpa using this
theorem lM.tI :∀{s:List It} {i:Nat},(∀(j:Nat) (h:j<s.length),∃b o e c d,A=some ⟨b,o,none⟩/\S b/\(w,b,o+(i+j)*3,e)/\(w,b,o+(i+j)*3+1,c)/\(w,b,o+(i+j)*3+2,d)/\fR w S s[j] e c d)->lM w S s A i
 | [],_,_=>by simp[lM]
 |x::xs,i,h=>by
  refine⟨h 0 (Z5 _),lM.tI fun j k=> ?_⟩;have:=h (j+1) (by simpa using k);rw[show i+(j+1)=i+1+j from by omega]at this;simpa using this
theorem fR.ah (hS:∀k,k<w.heap.size->S k->S' k)(m:∀p:Addr,p.block<w.heap.size->S p.block->w'.cell? p=w.cell? p):∀(x:It) {n i e:Value},fR w S x n i e->fR w' S' x n i e:=by
 intro x;induction x using It.ind with
 |h t l s ih=>
  intro n i e h;obtain⟨G,D,y,C,A,cap,u,I,B,H⟩:=h;refine⟨G,D,y,C,A,cap,u,I,B,lM.tI fun j r=> ?_⟩;obtain⟨b,o,d0,d1,d2,F,d,q,E,z,hi⟩:=H.at_ j r;have c:=lt_of_cell q;exact⟨b,o,d0,d1,d2,F,hS _ c d,(m _ c d).trans q,(m _ c d).trans E,(m _ c d).trans z,ih _ (zD r) hi⟩
theorem fR.ef {b c:Value}(h:fR w S x d b c)(hS:∀k,k<w.heap.size->S k->S' k):fR w S' x d b c:=fR.ah hS (fun _ _ _=>rfl) x h
theorem fR.only {b c:Value}(h:fR w S x b d c)(e:ae L w w')(i:∀k,k∈L->¬S k)(hS:∀k,k<w.heap.size->S k->S' k):fR w' S' x b d c:=
 fR.ah hS (fun p m l=>e.cell m fun j=>i _ j l) x h
theorem fR.below {b c:Value}(h:fR w S x b d c)(e:Below w.heap.size w w'):fR w' S x b d c:=fR.ah (fun _ _ h=>h) (fun _ i _=>e.cell i) x h
theorem fR.tJ :∀(x:It) {c e d:Value},fR w S x c e d->bI w w.heap.size x c e d:=by
 intro x;induction x using It.ind with
 |h t l s ih=>
  intro c e d h;obtain⟨q,z,r,y,A,cap,m,C,u,B⟩:=h;refine⟨q,z,r,y,A,cap,m,C,u,bK.tI fun j i=> ?_⟩;obtain⟨b,o,d0,d1,d2,p,E,k,D,n,hi⟩:=B.at_ j i;exact⟨b,o,d0,d1,d2,p,lt_of_cell k,k,D,n,ih _ (zD i) hi⟩
theorem bI.toS :∀(x:It) {c e d:Value},bI w B x c e d->fR w (· <B) x c e d:=by
 intro x;induction x using It.ind with
 |h t l s ih=>
  intro c e d h;obtain⟨q,C,r,z,A,cap,k,E,y,D⟩:=h;refine⟨q,C,r,z,A,cap,k,E,y,lM.tI fun j i=> ?_⟩;obtain⟨b,o,d0,d1,d2,p,m,u,F,n,hi⟩:=D.at_ j i;exact⟨b,o,d0,d1,d2,p,m,u,F,n,ih _ (zD i) hi⟩
theorem fR.open_ {b c:Value}(h:fR w S x b d c):∃A cap,b= .string x.text/\d= .bool x.list/\c= .slice A x.sub.length cap/\x.text.size<=9223372036854775807/\x.sub.length<=cap/\cap<=9223372036854775807/\lM w S x.sub A 0:=by
 cases x with
 |mk t l s=>
  obtain⟨i,m,j,p,A,cap,e,o,k,n⟩:=h;exact⟨A,cap,i,m,e,j,o,k,n⟩
theorem fR.text {t:ByteArray}(l:Bool)(b:t.size<=9223372036854775807):fR w S (.mk t l []) t l nS:=⟨rfl,rfl,b,by simp,none,0,rfl,by simp,by simp,trivial⟩
def fS (w:World)(S:Nat->Prop):List It->List Value->Prop
 | [],cs=>cs= []
 |x::xs,cs=>∃c0 c1 c2 ds,cs=c0::c1::c2::ds/\fR w S x c0 c1 c2/\fS w S xs ds
theorem fS.ah (hS:∀k,k<w.heap.size->S k->S' k)(c:∀p:Addr,p.block<w.heap.size->S p.block->w'.cell? p=w.cell? p):∀{s:List It} {b:List Value},fS w S s b->fS w' S' s b
 | [],b,h=>h
 |x::xs,b,h=>by
  obtain⟨j,m,l,i,rfl,e,d⟩:=h;exact⟨j,m,l,i,rfl,fR.ah hS c x e,d.ah hS c⟩
theorem fS.snoc {y:It}{c:Value}(i:fR w S y c e d):∀{s:List It} {b:List Value},fS w S s b->fS w S (s++ [y]) (b++ [c,e,d])
 | [],b,h=>by
  have h:b= []:=h;subst h;exact⟨c,e,d,[],rfl,i,rfl⟩
 |x::xs,b,h=>by
  obtain⟨l,o,k,m,rfl,n,j⟩:=h;exact⟨l,o,k,m++ [c,e,d],by simp,n,j.snoc i⟩
theorem lM.dN {b o:Nat}(d:S b):∀{s:List It} {i:Nat} {c:List Value},fS w S s c->(∀j u,c[j]?=some u->w.cell? (b,o+i*3+j)=some u)->lM w S s (some (b,o)) i
 | [],_,_,_,_=>trivial
 |x::xs,i,c,h,hc=>by
  obtain⟨e,l,k,p,rfl,n,m⟩:=h;refine⟨⟨b,o,e,l,k,rfl,d,by simpa using hc 0 e (by simp),hc 1 l (by simp),hc 2 k (by simp),n⟩,lM.dN d m fun j u hu=> ?_⟩;have:=hc (j+3) u (by simpa using hu);rw[show o+(i+1)*3+j=o+i*3+(j+3)from by omega];exact this
def Acc (w:World)(lo:Nat)(acc:List It)(v:Value):Prop:=∃cs,w.ownsRow lo 28 3 v acc.length cs/\fS w (fun k=>lo<=k/\v.ownBlock≠some k) acc cs
theorem Acc.nil (w:World)(b:Nat):Acc w b [] nS:=⟨[],⟨by simp,.inl ⟨rfl,rfl⟩⟩,rfl⟩
theorem Acc.form {d:Nat}{acc:List It}(h:Acc w d acc v):∃A cap,v= .slice A acc.length cap/\acc.length<=cap/\cap<=9223372036854775807:=by
 obtain⟨n,i,l⟩:=h;rcases i.2 with⟨j,b⟩|⟨g,cap,m,k,_,_,c,e,_⟩
 ·exact⟨none,0,by rw[j,b],by omega,by simp⟩
 exact⟨_,cap,k,c,by simpa[maxLen]using e⟩
theorem Acc.cy {c:Nat}{acc:List It}(h:Acc w c acc v):∃A n cap,v= .slice A n cap/\Hid (n=acc.length)/\n<=cap/\cap<=9223372036854775807:=by
 obtain⟨A,cap,d,b,e⟩:=h.form;exact⟨A,_,cap,d,za rfl,b,e⟩
theorem Acc.ge {c:Nat}{acc:List It}(h:Acc w c acc v):∀g,v.ownBlock=some g->c<=g/\g<w.heap.size:=by
 obtain⟨p,j,m⟩:=h;intro g b;rcases j.2 with⟨k,o⟩|⟨e,cap,n,l,d,i,_⟩
 ·rw[k]at b;cases b
 rw[l]at b;have:e=g:=by simpa[Value.ownBlock]using b
 subst this;exact⟨d,yJ i⟩
theorem ag.grown {b:Array Value}{row:Option Nat}(h:ag w g t b)(c:w.grownBy w' row)(d:row≠some g):ag w' g t b:=(c.block g h.lt (fun e=>d e.symm)).trans h
theorem Acc.ah {b:Nat}{acc:List It}(h:Acc w b acc v)(c:∀k,b<=k->k<w.heap.size->w'.heap[k]?=w.heap[k]?):Acc w' b acc v:=by
 obtain⟨l,d,e⟩:=h;refine⟨l,⟨d.1, ?_⟩,e.ah (fun _ _ h=>h) fun p j i=>zB (c _ i.1 j)⟩;rcases d.2 with h3|⟨g,cap,cur,hv,hg,hh,r⟩
 ·exact .inl h3
 exact .inr ⟨g,cap,cur,hv,hg,(c g hg (yJ hh)).trans hh,r⟩
theorem Acc.only {b:Nat}{acc:List It}(h:Acc w b acc v)(d:ae L w w')(e:∀g,g∈L->g<b):Acc w' b acc v:=
 h.ah fun k j c=>d.block k c fun i=>by have:=e k i;omega
theorem Acc.below {b:Nat}{acc:List It}(h:Acc w b acc v)(c:Below w.heap.size w w'):Acc w' b acc v:=h.ah fun k _ d=>c.block k d
theorem Acc.list {b:Nat}{acc:List It}(h:Acc w b acc v)(k:acc.length<=9223372036854775807):fR w (b<= ·) (.mk ⟨#[]⟩ true acc) eS true v:=by
 obtain⟨A,cap,rfl,l,e⟩:=h.form;obtain⟨s,c,o⟩:=h;refine⟨rfl,rfl,yb _,k,A,cap,rfl,l,e, ?_⟩;rcases c.2 with⟨d,i⟩|⟨g,r,p,n,m,q,_⟩
 ·obtain rfl:acc= []:=zo i;trivial
 injection n with hA _ hc;subst hA;subst hc;refine lM.dN m (o.ah (fun _ _ h=>h.1) (fun _ _ _=>rfl)) fun j u hu=> ?_
 have:=c.cells rfl j u hu;have d:((g,0):Addr).add j=⟨g,j,none⟩:=by unfold Addr.add;split<;>simp_all
 rw[d]at this;simpa using this
theorem agq {y:It}{c b:Value}(h:fR w S y d c b):∀u∈ [d,c,b],u.oneCell'=true:=by
 obtain⟨A,cap,rfl,rfl,rfl,_⟩:=h.open_;intro u hu;simp at hu;rcases hu with rfl|rfl|rfl<;>rfl
def oB (w:World)(S:Nat->Prop)(m:Ms)(c0 c1 c2 c3:Value):Prop:=c0= .string m.name/\m.name.size<=9223372036854775807/\fR w S m.x c1 c2 c3
theorem oB.ah (hS:∀k,k<w.heap.size->S k->S' k)(i:∀p:Addr,p.block<w.heap.size->S p.block->w'.cell? p=w.cell? p)(m:Ms){c b:Value}(h:oB w S m c e d b):oB w' S' m c e d b:=⟨h.1,h.2.1,fR.ah hS i _ h.2.2⟩
theorem oB.below {c b:Value}(h:oB w S m c e d b)(i:Below w.heap.size w w'):oB w' S m c e d b:=oB.ah (fun _ _ h=>h) (fun _ j _=>i.cell j) m h
theorem oB.ef {b c:Value}(h:oB w S m e b c d)(hS:∀k,k<w.heap.size->S k->S' k):oB w S' m e b c d:=oB.ah hS (fun _ _ _=>rfl) m h
theorem oB.only {c b:Value}(h:oB w S m c e d b)(i:ae L w w')(j:∀k,k∈L->¬S k)(hS:∀k,k<w.heap.size->S k->S' k):oB w' S' m c e d b:=
 oB.ah hS (fun p o n=>i.cell o fun l=>j _ l n) m h
theorem oB.open_ {c b:Value}(h:oB w S m c e d b):∃A cap,c= .string m.name/\e= .string m.x.text/\d= .bool m.x.list/\b= .slice A m.x.sub.length cap/\m.name.size<=9223372036854775807/\m.x.text.size<=9223372036854775807/\m.x.sub.length<=cap/\cap<=9223372036854775807:=by
 obtain⟨j,l,hi⟩:=h;obtain⟨A,cap,o,i,p,k,q,n,_⟩:=hi.open_;exact⟨A,cap,j,o,i,p,l,k,q,n⟩
theorem vH :(prog.info? 30).map (fun i=>(i.zero,i.size,i.bytes))=some (some (.agg #[eS,eS,false,nS]),4,64):=by kernel_rfl
def pf (w:World)(S:Nat->Prop):List Ms->Option Addr->Nat->Prop
 | [],_,_=>True
 |x::xs,A,i=>(∃b o c0 c1 c2 c3,A=some ⟨b,o,none⟩/\S b/\(w,b,o+i*4,c0)/\(w,b,o+i*4+1,c1)/\(w,b,o+i*4+2,c2)/\(w,b,o+i*4+3,c3)/\oB w S x c0 c1 c2 c3)/\pf w S xs A (i+1)
theorem pf.at_ :∀{s:List Ms} {i:Nat},pf w S s A i->∀(j:Nat) (h:j<s.length),∃b o k c d e,A=some ⟨b,o,none⟩/\S b/\(w,b,o+(i+j)*4,k)/\(w,b,o+(i+j)*4+1,c)/\(w,b,o+(i+j)*4+2,d)/\(w,b,o+(i+j)*4+3,e)/\oB w S s[j] k c d e
 | [],_,_,j,h=>by simp at h
 |x::xs,i,hi,0,_=>by simpa[pf]using hi.1
 |x::xs,i,hi,j+1,h=>by
  have:=pf.at_ hi.2 j (by simpa using h);rw[show i+1+j=i+(j+1)from by omega]at this;simpa using this
theorem pf.ah (hS:∀k,k<w.heap.size->S k->S' k)(c:∀p:Addr,p.block<w.heap.size->S p.block->w'.cell? p=w.cell? p):∀{s:List Ms} {i:Nat},pf w S s A i->pf w' S' s A i
 | [],_,_=>trivial
 |x::xs,i,h=>by
  obtain⟨⟨b,o,u,B,z,q,n,d,j,y,m,r,hi⟩,l⟩:=h;have e:=lt_of_cell j;exact⟨⟨b,o,u,B,z,q,n,hS _ e d,(c _ e d).trans j,(c _ e d).trans y,(c _ e d).trans m,(c _ e d).trans r,hi.ah hS c⟩,l.ah hS c⟩
def fC (w:World)(S:Nat->Prop):List Ms->List Value->Prop
 | [],cs=>cs= []
 |x::xs,cs=>∃c0 c1 c2 c3 ds,cs=c0::c1::c2::c3::ds/\oB w S x c0 c1 c2 c3/\fC w S xs ds
theorem fC.ah (hS:∀k,k<w.heap.size->S k->S' k)(c:∀p:Addr,p.block<w.heap.size->S p.block->w'.cell? p=w.cell? p):∀{s:List Ms} {b:List Value},fC w S s b->fC w' S' s b
 | [],b,h=>h
 |x::xs,b,h=>by
  obtain⟨l,n,m,e,j,rfl,i,d⟩:=h;exact⟨l,n,m,e,j,rfl,oB.ah hS c x i,d.ah hS c⟩
theorem fC.snoc {y:Ms}{c:Value}(j:oB w S y d i e c):∀{s:List Ms} {b:List Value},fC w S s b->fC w S (s++ [y]) (b++ [d,i,e,c])
 | [],b,h=>by
  have h:b= []:=h;subst h;exact⟨d,i,e,c,[],rfl,j,rfl⟩
 |x::xs,b,h=>by
  obtain⟨m,q,l,o,n,rfl,p,k⟩:=h;exact⟨m,q,l,o,n++ [d,i,e,c],by simp,p,k.snoc j⟩
theorem pf.dN {b o:Nat}(d:S b):∀{s:List Ms} {i:Nat} {c:List Value},fC w S s c->(∀j u,c[j]?=some u->w.cell? (b,o+i*4+j)=some u)->pf w S s (some (b,o)) i
 | [],_,_,_,_=>trivial
 |x::xs,i,c,h,hc=>by
  obtain⟨k,m,l,e,q,rfl,p,n⟩:=h;refine⟨⟨b,o,k,m,l,e,rfl,d,by simpa using hc 0 k (by simp),hc 1 m (by simp),hc 2 l (by simp),hc 3 e (by simp),p⟩,pf.dN d n fun j u hu=> ?_⟩;have:=hc (j+4) u (by simpa using hu);rw[show o+(i+1)*4+j=o+i*4+(j+4)from by omega];exact this
def bL (w:World)(S0:Nat->Prop)(lo:Nat)(acc:List Ms)(v:Value):Prop:=∃cs,w.ownsRow lo 30 4 v acc.length cs/\fC w (fun k=>S0 k/\v.ownBlock≠some k) acc cs
abbrev tK (w:World)(lo:Nat)(acc:List Ms)(v:Value):Prop:=bL w (lo<= ·) lo acc v
theorem bL.nil (w:World)(c:Nat->Prop)(b:Nat):bL w c b [] nS:=⟨[],⟨by simp,.inl ⟨rfl,rfl⟩⟩,rfl⟩
theorem tK.nil (w:World)(b:Nat):tK w b [] nS:=bL.nil _ _ _
theorem bL.form {d:Nat->Prop}{c:Nat}(h:bL w d c acc v):∃A cap,v= .slice A acc.length cap/\acc.length<=cap/\cap<=9223372036854775807:=by
 obtain⟨o,j,m⟩:=h;rcases j.2 with⟨k,b⟩|⟨g,cap,n,l,_,_,e,i,_⟩
 ·exact⟨none,0,by rw[k,b],by omega,by simp⟩
 exact⟨_,cap,l,e,by simpa[maxLen]using i⟩
theorem bL.cy {d:Nat->Prop}{c:Nat}(h:bL w d c acc v):∃A n cap,v= .slice A n cap/\Hid (n=acc.length)/\n<=cap/\cap<=9223372036854775807:=by
 obtain⟨A,cap,e,b,i⟩:=h.form;exact⟨A,_,cap,e,za rfl,b,i⟩
theorem bL.ge {j:Nat->Prop}{c:Nat}(h:bL w j c acc v):∀g,v.ownBlock=some g->c<=g/\g<w.heap.size:=by
 obtain⟨q,k,n⟩:=h;intro g b;rcases k.2 with⟨l,p⟩|⟨e,cap,o,m,d,i,_⟩
 ·rw[l]at b;cases b
 rw[m]at b;have:e=g:=by simpa[Value.ownBlock]using b
 subst this;exact⟨d,yJ i⟩
theorem bL.typed {l:Nat->Prop}{i:Nat}(h:bL w l i acc v):∀k,v.ownBlock=some k->i<=k/\k<w.heap.size/\∃c,ag w k 30 c:=by
 obtain⟨q,n,o⟩:=h;intro k b;rcases n.2 with⟨d,_⟩|⟨j,p,c,d,m,e,_⟩
 ·rw[d]at b;cases b
 rw[d]at b;have:j=k:=by simpa[Value.ownBlock]using b
 subst this;exact⟨m,yJ e,c,e⟩
theorem bL.ah {b:Nat->Prop}{d:Nat}(h:bL w b d acc v)(c:∀k,k<w.heap.size->b k\/v.ownBlock=some k->w'.heap[k]?=w.heap[k]?):bL w' b d acc v:=by
 obtain⟨m,e,i⟩:=h;refine⟨m,⟨e.1, ?_⟩,i.ah (fun _ _ h=>h) fun p l j=>zB (c _ l (.inl j.1))⟩;rcases e.2 with h3|⟨g,cap,cur,hv,hg,hh,r⟩
 ·exact .inl h3
 exact .inr ⟨g,cap,cur,hv,hg,(c g (yJ hh) (.inr (by rw[hv];rfl))).trans hh,r⟩
theorem bL.only {c:Nat->Prop}{d:Nat}(h:bL w c d acc v)(j:ae L w w')(l:∀g,g∈L->¬c g)(i:∀g,g∈L->v.ownBlock≠some g):bL w' c d acc v:=
 h.ah fun k m b=>j.block k m fun e=>by
  rcases b with b|b
  ·exact l k e b
  exact i k e b
theorem bL.below {c:Nat->Prop}{b:Nat}(h:bL w c b acc v)(d:Below w.heap.size w w'):bL w' c b acc v:=h.ah fun k e _=>d.block k e
theorem bL.ef {c S1:Nat->Prop}{b lo':Nat}(h:bL w c b acc v)(hS:∀k,k<w.heap.size->c k->S1 k)(i:lo'<=b):bL w S1 lo' acc v:=by
 obtain⟨l,j,d⟩:=h;exact⟨l,j.mono i,d.ah (fun k e h=>⟨hS k e h.1,h.2⟩) fun _ _ _=>rfl⟩
theorem tK.only {c:Nat}(h:tK w c acc v)(i:ae L w w')(d:∀g,g∈L->g<c):tK w' c acc v:=
 bL.only h i (fun g b=>by have:=d g b;omega) (fun g b e=>by have:=d g b;have:=(bL.ge h g e).1;omega)
theorem tK.reads {b:Nat}(h:tK w b acc v):∃A cap,v= .slice A acc.length cap/\acc.length<=cap/\cap<=9223372036854775807/\pf w (b<= ·) acc A 0:=by
 obtain⟨A,cap,rfl,k,e⟩:=bL.form h;obtain⟨r,c,n⟩:=h;refine⟨A,cap,rfl,k,e, ?_⟩;rcases c.2 with⟨d,i⟩|⟨g,q,o,m,l,p,_⟩
 ·obtain rfl:acc= []:=zo i;trivial
 injection m with hA _ hc;subst hA;subst hc;refine pf.dN l (n.ah (fun _ _ h=>h.1) (fun _ _ _=>rfl)) fun j u hu=> ?_
 have:=c.cells rfl j u hu;have d:((g,0):Addr).add j=⟨g,j,none⟩:=by unfold Addr.add;split<;>simp_all
 rw[d]at this;simpa using this
theorem Pv {y:Ms}{c b:Value}(h:oB w S y c e d b):∀u∈ [c,e,d,b],u.oneCell'=true:=by
 obtain⟨A,cap,rfl,rfl,rfl,rfl,_⟩:=h.open_;intro u hu;simp at hu;rcases hu with rfl|rfl|rfl|rfl<;>rfl
theorem qo {rest:List Oper}(I:o.guard=none)(s x:Operand)
 (D:o.op= .call {callee:= .builtin .append,args:= #[s,x],argTypes:= #[42,42]}) (n:Nat->Prop) (c:Nat) (acc:List Ms)  (M:a.eval s=v) (R:bL w n c acc v) (y:Ms) 
 (A:oB w (fun k=>n k/\v.ownBlock≠some k) y l i h d) (g:Nat) (hx:a.eval x= .slice (some (g,0)) 1 1) (L:w.cell? (g,0)=some l) (K:w.cell? (g,1)=some i) (S:w.cell? (g,2)=some h) (W:w.cell? (g,3)=some d)
 (Z:acc.length<=100000000) (F:c<=w.heap.size)
 (J:∀b q cap w',Hid (q=acc.length+1)->bL w' n c (acc++ [y]) (.slice (some (b,0)) q cap)->w.grownBy w' v.ownBlock->c<=b->wpList prog ops Q rest (a.put o.dst (.slice (some (b,0)) q cap)) w'):wpList prog ops Q (o::rest) a w:=by
 obtain⟨i0,hi,X,E,G⟩:=yz vH;obtain⟨B,N,C⟩:=R;refine y9 w I s x 42 D c 30 i0 _ 4 64 xT hi X E G rfl (by decide) v acc.length B M N (g,0) 1 1 [l,i,h,d] hx rfl ?_ (Pv A) (by decide) (by simp only[maxLen];omega) (by omega) F w.heap.size rfl ?_
 ·intro j u hu;have O:∀j,((g,0):Addr).add j=⟨g,j,none⟩:=by intro j;unfold Addr.add;split<;>simp_all
  rw[O];match j,hu with
  |0,hu=>simp at hu;subst hu;exact L
  |1,hu=>simp at hu;subst hu;exact K
  |2,hu=>simp at hu;subst hu;exact S
  |3,hu=>simp at hu;subst hu;exact W
 intro b cap w' z r m aD;have U:=C0 z b rfl;refine J b _ cap w' (za rfl) ⟨B++ [l,i,h,d],by rw[zk];exact z, ?_⟩ r U;refine((C.snoc A).ah (fun k Y hS=>⟨hS.1, ?_⟩) fun p H hS=>zB (r.block _ H (fun e=>hS.2 e.symm)));intro e;have e:b=k:=by simpa[Value.ownBlock]using e
 rcases m with m|m
 ·exact hS.2 (by rw[m,e])
 omega
theorem MA :(prog.info? 70).map (fun i=>(i.zero,i.size,i.bytes))=some (some (.agg #[(0:Int),(0:Int),nS,(0:Int)]),4,48):=by kernel_rfl
mutual
def fX (w:World)(S:Nat->Prop):Ty->Value->Value->Value->Value->Prop
 | .mk k s l t,c0,c1,c2,c3=>c0= .int .i64 k/\c1= .int .i64 s/\c3= .int .i64 t/\mu k/\mu s/\mu t/\l.length<=9223372036854775807/\∃A cap,c2= .slice A l.length cap/\l.length<=cap/\cap<=9223372036854775807/\mY w S l A 0
def mY (w:World)(S:Nat->Prop):List Ty->Option Addr->Nat->Prop
 | [],_,_=>True
 |x::xs,A,i=>(∃b o c0 c1 c2 c3,A=some ⟨b,o,none⟩/\S b/\(w,b,o+i*4,c0)/\(w,b,o+i*4+1,c1)/\(w,b,o+i*4+2,c2)/\(w,b,o+i*4+3,c3)/\fX w S x c0 c1 c2 c3)/\mY w S xs A (i+1)
end
theorem mY.at_ :∀{s:List Ty} {i:Nat},mY w S s A i->∀(j:Nat) (h:j<s.length),∃b o k c d e,A=some ⟨b,o,none⟩/\S b/\(w,b,o+(i+j)*4,k)/\(w,b,o+(i+j)*4+1,c)/\(w,b,o+(i+j)*4+2,d)/\(w,b,o+(i+j)*4+3,e)/\fX w S s[j] k c d e
 | [],_,_,j,h=>by simp at h
 |x::xs,i,hi,0,_=>by simpa[mY]using hi.1
 |x::xs,i,hi,j+1,h=>by
  have:=mY.at_ hi.2 j (by simpa using h);rw[show i+1+j=i+(j+1)from by omega]at this;simpa using this
theorem mY.tI :∀{s:List Ty} {i:Nat},(∀(j:Nat) (h:j<s.length),∃b o d k e c,A=some ⟨b,o,none⟩/\S b/\(w,b,o+(i+j)*4,d)/\(w,b,o+(i+j)*4+1,k)/\(w,b,o+(i+j)*4+2,e)/\(w,b,o+(i+j)*4+3,c)/\fX w S s[j] d k e c)->mY w S s A i
 | [],_,_=>by simp[mY]
 |x::xs,i,h=>by
  refine⟨h 0 (Z5 _),mY.tI fun j l=> ?_⟩;have:=h (j+1) (by simpa using l);rw[show i+(j+1)=i+1+j from by omega]at this;simpa using this
theorem fX.ah (hS:∀k,k<w.heap.size->S k->S' k)(e:∀p:Addr,p.block<w.heap.size->S p.block->w'.cell? p=w.cell? p):∀(x:Ty) {q n m i:Value},fX w S x q n m i->fX w' S' x q n m i:=by
 intro x;induction x using Ty.ind with
 |h k s l t ih=>
  intro q n m i h;obtain⟨I,D,H,k1,k2,L,C,A,cap,y,K,B,J⟩:=h;refine⟨I,D,H,k1,k2,L,C,A,cap,y,K,B,mY.tI fun j u=> ?_⟩;obtain⟨b,o,d0,d1,d2,d3,G,d,r,F,z,E,hi⟩:=J.at_ j u;have c:=lt_of_cell r;exact⟨b,o,d0,d1,d2,d3,G,hS _ c d,(e _ c d).trans r,(e _ c d).trans F,(e _ c d).trans z,(e _ c d).trans E,ih _ (zD u) hi⟩
theorem fX.ef {x:Ty}{b c:Value}(h:fX w S x e b c d)(hS:∀k,k<w.heap.size->S k->S' k):fX w S' x e b c d:=fX.ah hS (fun _ _ _=>rfl) x h
theorem fX.only {x:Ty}{c b:Value}(h:fX w S x c e d b)(i:ae L w w')(j:∀k,k∈L->¬S k)(hS:∀k,k<w.heap.size->S k->S' k):fX w' S' x c e d b:=
 fX.ah hS (fun p n m=>i.cell n fun l=>j _ l m) x h
theorem fX.below {x:Ty}{c b:Value}(h:fX w S x c e d b)(i:Below w.heap.size w w'):fX w' S x c e d b:=fX.ah (fun _ _ h=>h) (fun _ j _=>i.cell j) x h
theorem fX.tJ :∀(x:Ty) {i e d c:Value},fX w S x i e d c->cq w w.heap.size x i e d c:=by
 intro x;induction x using Ty.ind with
 |h k s l t ih=>
  intro i e d c h;obtain⟨E,y,D,k1,k2,H,u,A,cap,p,G,r,F⟩:=h;refine⟨E,y,D,k1,k2,H,u,A,cap,p,G,r,eW.tI fun j n=> ?_⟩;obtain⟨b,o,d0,d1,d2,d3,C,I,m,B,q,z,hi⟩:=F.at_ j n;exact⟨b,o,d0,d1,d2,d3,C,lt_of_cell m,m,B,q,z,ih _ (zD n) hi⟩
theorem cq.toS :∀(x:Ty) {i e d c:Value},cq w B x i e d c->fX w (· <B) x i e d c:=by
 intro x;induction x using Ty.ind with
 |h k s l t ih=>
  intro i e d c h;obtain⟨G,y,E,k1,k2,J,u,A,cap,n,I,r,H⟩:=h;refine⟨G,y,E,k1,k2,J,u,A,cap,n,I,r,mY.tI fun j m=> ?_⟩;obtain⟨b,o,d0,d1,d2,d3,D,F,p,C,q,z,hi⟩:=H.at_ j m;exact⟨b,o,d0,d1,d2,d3,D,F,p,C,q,z,ih _ (zD m) hi⟩
theorem fX.open_ {x:Ty}{c b:Value}(h:fX w S x c d e b):∃A cap,c= .int .i64 x.kind/\d= .int .i64 x.size/\e= .slice A x.sub.length cap/\b= .int .i64 x.tail/\mu x.kind/\mu x.size/\mu x.tail/\x.sub.length<=cap/\cap<=9223372036854775807/\mY w S x.sub A 0:=by
 cases x with
 |mk k s l t=>
  obtain⟨j,q,r,n,p,m,z,A,cap,i,u,o,y⟩:=h;exact⟨A,cap,j,q,i,r,n,p,m,u,o,y⟩
def jj (w:World)(S:Nat->Prop):List Ty->List Value->Prop
 | [],cs=>cs= []
 |x::xs,cs=>∃c0 c1 c2 c3 ds,cs=c0::c1::c2::c3::ds/\fX w S x c0 c1 c2 c3/\jj w S xs ds
theorem jj.ah (hS:∀k,k<w.heap.size->S k->S' k)(c:∀p:Addr,p.block<w.heap.size->S p.block->w'.cell? p=w.cell? p):∀{s:List Ty} {b:List Value},jj w S s b->jj w' S' s b
 | [],b,h=>h
 |x::xs,b,h=>by
  obtain⟨l,n,m,e,j,rfl,i,d⟩:=h;exact⟨l,n,m,e,j,rfl,fX.ah hS c x i,d.ah hS c⟩
theorem jj.snoc {y:Ty}{c:Value}(j:fX w S y d i e c):∀{s:List Ty} {b:List Value},jj w S s b->jj w S (s++ [y]) (b++ [d,i,e,c])
 | [],b,h=>by
  have h:b= []:=h;subst h;exact⟨d,i,e,c,[],rfl,j,rfl⟩
 |x::xs,b,h=>by
  obtain⟨m,q,l,o,n,rfl,p,k⟩:=h;exact⟨m,q,l,o,n++ [d,i,e,c],by simp,p,k.snoc j⟩
theorem mY.dN {b o:Nat}(d:S b):∀{s:List Ty} {i:Nat} {c:List Value},jj w S s c->(∀j u,c[j]?=some u->w.cell? (b,o+i*4+j)=some u)->mY w S s (some (b,o)) i
 | [],_,_,_,_=>trivial
 |x::xs,i,c,h,hc=>by
  obtain⟨k,m,l,e,q,rfl,p,n⟩:=h;refine⟨⟨b,o,k,m,l,e,rfl,d,by simpa using hc 0 k (by simp),hc 1 m (by simp),hc 2 l (by simp),hc 3 e (by simp),p⟩,mY.dN d n fun j u hu=> ?_⟩;have:=hc (j+4) u (by simpa using hu);rw[show o+(i+1)*4+j=o+i*4+(j+4)from by omega];exact this
def gA (w:World)(lo:Nat)(acc:List Ty)(v:Value):Prop:=∃cs,w.ownsRow lo 70 4 v acc.length cs/\jj w (fun k=>lo<=k/\v.ownBlock≠some k) acc cs
theorem gA.nil (w:World)(b:Nat):gA w b [] nS:=⟨[],⟨by simp,.inl ⟨rfl,rfl⟩⟩,rfl⟩
theorem gA.form {d:Nat}{acc:List Ty}(h:gA w d acc v):∃A cap,v= .slice A acc.length cap/\acc.length<=cap/\cap<=9223372036854775807:=by
 obtain⟨n,i,l⟩:=h;rcases i.2 with⟨j,b⟩|⟨g,cap,m,k,_,_,c,e,_⟩
 ·exact⟨none,0,by rw[j,b],by omega,by simp⟩
 exact⟨_,cap,k,c,by simpa[maxLen]using e⟩
theorem gA.cy {c:Nat}{acc:List Ty}(h:gA w c acc v):∃A n cap,v= .slice A n cap/\Hid (n=acc.length)/\n<=cap/\cap<=9223372036854775807:=by
 obtain⟨A,cap,d,b,e⟩:=h.form;exact⟨A,_,cap,d,za rfl,b,e⟩
theorem gA.ge {c:Nat}{acc:List Ty}(h:gA w c acc v):∀g,v.ownBlock=some g->c<=g/\g<w.heap.size:=by
 obtain⟨p,j,m⟩:=h;intro g b;rcases j.2 with⟨k,o⟩|⟨e,cap,n,l,d,i,_⟩
 ·rw[k]at b;cases b
 rw[l]at b;have:e=g:=by simpa[Value.ownBlock]using b
 subst this;exact⟨d,yJ i⟩
theorem gA.ah {b:Nat}{acc:List Ty}(h:gA w b acc v)(c:∀k,b<=k->k<w.heap.size->w'.heap[k]?=w.heap[k]?):gA w' b acc v:=by
 obtain⟨l,d,e⟩:=h;refine⟨l,⟨d.1, ?_⟩,e.ah (fun _ _ h=>h) fun p j i=>zB (c _ i.1 j)⟩;rcases d.2 with h3|⟨g,cap,cur,hv,hg,hh,r⟩
 ·exact .inl h3
 exact .inr ⟨g,cap,cur,hv,hg,(c g hg (yJ hh)).trans hh,r⟩
theorem gA.only {b:Nat}{acc:List Ty}(h:gA w b acc v)(d:ae L w w')(e:∀g,g∈L->g<b):gA w' b acc v:=
 h.ah fun k j c=>d.block k c fun i=>by have:=e k i;omega
theorem gA.below {b:Nat}{acc:List Ty}(h:gA w b acc v)(c:Below w.heap.size w w'):gA w' b acc v:=h.ah fun k _ d=>c.block k d
theorem gA.ty {b:Nat}{acc:List Ty}(h:gA w b acc v)(m:acc.length<=9223372036854775807){k t:Int}(n:mu k)(hz:mu z)(l:mu t):fX w (b<= ·) (.mk k z acc t) k z v t:=by
 obtain⟨A,cap,rfl,o,e⟩:=h.form;obtain⟨B,c,r⟩:=h;refine⟨rfl,rfl,rfl,n,hz,l,m,A,cap,rfl,o,e, ?_⟩;rcases c.2 with⟨d,i⟩|⟨g,y,s,q,p,x,_⟩
 ·obtain rfl:acc= []:=zo i;trivial
 injection q with hA _ hc;subst hA;subst hc;refine mY.dN p (r.ah (fun _ _ h=>h.1) (fun _ _ _=>rfl)) fun j u hu=> ?_
 have:=c.cells rfl j u hu;have d:((g,0):Addr).add j=⟨g,j,none⟩:=by unfold Addr.add;split<;>simp_all
 rw[d]at this;simpa using this
theorem agr {y:Ty}{c b:Value}(h:fX w S y c e d b):∀u∈ [c,e,d,b],u.oneCell'=true:=by
 obtain⟨A,cap,rfl,rfl,rfl,rfl,_⟩:=h.open_;intro u hu;simp at hu;rcases hu with rfl|rfl|rfl|rfl<;>rfl
theorem fY {rest:List Oper}(H:o.guard=none)(s x:Operand)
 (C:o.op= .call {callee:= .builtin .append,args:= #[s,x],argTypes:= #[68,68]}) (c:Nat) (acc:List Ty)  (L:a.eval s=v) (O:gA w c acc v) (y:Ty) 
 (z:fX w (fun k=>c<=k/\v.ownBlock≠some k) y l i h d) (g:Nat) (hx:a.eval x= .slice (some (g,0)) 1 1) (K:w.cell? (g,0)=some l) (J:w.cell? (g,1)=some i) (R:w.cell? (g,2)=some h) (U:w.cell? (g,3)=some d)
 (Y:acc.length<=1000000) (E:c<=w.heap.size)
 (I:∀b n cap w',Hid (n=acc.length+1)->gA w' c (acc++ [y]) (.slice (some (b,0)) n cap)->w.grownBy w' v.ownBlock->c<=b->wpList prog ops Q rest (a.put o.dst (.slice (some (b,0)) n cap)) w'):wpList prog ops Q (o::rest) a w:=by
 obtain⟨i0,hi,W,D,F⟩:=yz MA;obtain⟨A,M,B⟩:=O;refine y9 w H s x 68 C c 70 i0 _ 4 48 underlying68 hi W D F rfl (by decide) v acc.length A L M (g,0) 1 1 [l,i,h,d] hx rfl ?_ (agr z) (by decide) (by simp only[maxLen];omega) (by omega) E w.heap.size rfl ?_
 ·intro j u hu;have N:∀j,((g,0):Addr).add j=⟨g,j,none⟩:=by intro j;unfold Addr.add;split<;>simp_all
  rw[N];match j,hu with
  |0,hu=>simp at hu;subst hu;exact K
  |1,hu=>simp at hu;subst hu;exact J
  |2,hu=>simp at hu;subst hu;exact R
  |3,hu=>simp at hu;subst hu;exact U
 intro b cap w' r q m Z;have S:=C0 r b rfl;refine I b _ cap w' (za rfl) ⟨A++ [l,i,h,d],by rw[zk];exact r, ?_⟩ q S;refine((B.snoc z).ah (fun k X hS=>⟨hS.1, ?_⟩) fun p G hS=>zB (q.block _ G (fun e=>hS.2 e.symm)));intro e;have e:b=k:=by simpa[Value.ownBlock]using e
 rcases m with m|m
 ·exact hS.2 (by rw[m,e])
 omega
theorem fX.leaf {k t:Int}(b:mu k)(hz:mu z)(c:mu t):fX w S (.mk k z [] t) k z nS t:=⟨rfl,rfl,rfl,b,hz,c,by simp,none,0,rfl,by simp,by simp,trivial⟩
theorem aA {i:Int}(c:0<=i)(b:i<=100000000):mu i:=by unfold mu;omega
theorem fC.append {t:List Ms}{c:List Value}(d:fC w S t c):∀{s:List Ms} {b:List Value},fC w S s b->fC w S (s++t) (b++c)
 | [],b,h=>by
  have h:b= []:=h;subst h;exact d
 |x::xs,b,h=>by
  obtain⟨j,m,i,k,es,rfl,l,e⟩:=h;exact⟨j,m,i,k,es++c,by simp,l,d.append e⟩
theorem fC.one :∀{s:List Ms} {b:List Value},fC w S s b->∀u∈b,u.oneCell'=true
 | [],b,h=>by
  have h:b= []:=h;subst h;simp
 |x::xs,b,h=>by
  obtain⟨i,l,e,k,es,rfl,j,d⟩:=h;intro u hu;have c:=Pv j;rcases(by simpa using hu:u=i\/u=l\/u=e\/u=k\/u∈es)with rfl|rfl|rfl|rfl|h
  ·exact c _ (by simp)
  ·exact c _ (by simp)
  ·exact c _ (by simp)
  ·exact c _ (by simp)
  exact d.one u h
theorem pg {rest:List Oper}(G:o.guard=none)(s x:Operand)
 (E:o.op= .call {callee:= .builtin .append,args:= #[s,x],argTypes:= #[42,42]}) (y S1:Nat->Prop) (m Yz:Nat) (acc b:List Ms)  (L:a.eval s=v) (C:bL w y m acc v) (hx:a.eval x=l) (D7:bL w S1 Yz b l)
 (SA:∀k,S1 k->y k) (F:∀k,v.ownBlock=some k->¬S1 k) (ab:acc.length+b.length<=1000000) (W:m<=w.heap.size)
 (I:∀q d cap w',Hid (d=(acc++b).length)->bL w' y m (acc++b) (.slice q d cap)->w.grownBy w' v.ownBlock->((Value.slice q d cap).ownBlock=v.ownBlock\/∃k,(Value.slice q d cap).ownBlock=some k/\w.heap.size<=k)->wpList prog ops Q rest (a.put o.dst (.slice q d cap)) w'):wpList prog ops Q (o::rest) a w:=by
 obtain⟨i0,hi,dF,S,X⟩:=yz vH;obtain⟨H,f1,f2⟩:=D7;by_cases D:b= []
 ·subst D;obtain⟨A,n,cap,rfl,Z,SB,_⟩:=bL.cy C;have Uy:Src prog i0.size 42 l 0 [] w:=by
   rcases f1.2 with⟨c,_⟩|⟨M,K,R,c,_⟩
   ·rw[c];exact Src.ofNil w xT 0
   rw[c];exact Src.ofSlice w xT _ _ _ [] (by simp) (by simp) (by simp)
  have U:=ZB (P:=prog) w 42 42 o.type 30 i0 xT hi A n cap SB l Uy;refine Ye G fun aa Ut=> ?_
  unfold Oper.wp;simp[execOp,E,resolve,invoke,builtin,L,hx,U,Result.andThen];exact Ut _ _ (I A n cap w (by simpa using Z) (by simpa using C) (World.grownBy.refl _ _) (.inl rfl))
 rcases f1.2 with⟨c,Y⟩|⟨M,K,R,c,ma,hh,_⟩
 ·exact absurd (zo Y) D
 subst c;have h0:0<b.length:=List.length_pos_iff.2 D;obtain⟨N,h1,O⟩:=C;refine y9 w G s x 42 E m 30 i0 _ 4 64 xT hi dF S X rfl (by decide) v acc.length N L h1 (M,0) b.length K H hx f1.1 (fun j u hu=>f1.cells rfl j u hu) f2.one h0 (by simp only[maxLen];omega) (by omega) W w.heap.size rfl ?_;intro g2 cap2 w' Ci B i aD;have e:(acc++b).length=acc.length+b.length:=by simp
 refine I _ _ cap2 w' (za e.symm) ⟨N++H,by rw[e];exact Ci, ?_⟩ B (by
  rcases i with h|h
  ·exact .inl h.symm
  exact .inr ⟨g2,rfl,by omega⟩)
 have J:∀k,k<w.heap.size->v.ownBlock≠some k->(Value.slice (some (g2,0)) (acc.length+b.length) cap2).ownBlock≠some k:=by
  intro k r hv e;have e:g2=k:=by simpa[Value.ownBlock]using e
  rcases i with i|i
  ·exact hv (by rw[i,e])
  omega
 refine fC.append ?_ ?_
 ·exact f2.ah (fun k r hS=>⟨SA k hS.1,J k r (fun e=>F k e hS.1)⟩) fun p z hS=>zB (B.block _ z (fun e=>F _ e.symm hS.1))
 exact O.ah (fun k r hS=>⟨hS.1,J k r hS.2⟩) fun p z hS=>zB (B.block _ z (fun e=>hS.2 e.symm))
theorem jG (n sz:Nat)(w:World)(h:n<2^(8*sz))(m:1<=sz)(b:sz<=8):
 Calls prog 126 #[.int .u64 n,sz] w fun e w'=>e= .returned (.tuple #[.string ⟨(jr n sz).toArray⟩,(0:Int)])/\(w,w'):=by
 have o:=le_pow sz b;have i:=za (Tu n sz w h m b);have p:=za (Fs n sz w (by omega) b);clear h o;go_enter func126,ntmps126
 go_wp2_with fail
 refine i.out.mono ?_;rintro e w' ⟨rfl,rfl⟩;go_wp2_with fail
 refine p.out.mono ?_;rintro e w' ⟨rfl,d,c⟩;have k:=bP.str (P:=prog) (l:=jr n sz) (A:=some (w.heap.size,0)) (cap:=sz) zq yt zM (by rw[bc];exact d);rw[bc]at k;have j:=c.below;clear d c;go_wp2;go_ret2
 exact⟨rfl,j⟩
theorem Fu {a:Int}{b c:Nat}(h:a=(b:Int))(d:b=c):Ending.returned (.tuple #[.int .u64 a,(0:Int)])= .returned (.tuple #[.int .u64 c,(0:Int)]):=by
 subst h;subst d;rfl
theorem Tv (n b k:Nat)(d:b<256)(h:k<8)(c:n<2^(8*k)):
 bits .or .u64 (n:Int) (IntKind.u64.wrap (IntKind.u64.wrap (b:Int)*2^(8*k)))=((n+b*2^(8*k):Nat):Int):=by
 have i:=le_step n b k d c;have j:=le_pow (k+1) (by omega);have e:(b:Int)*2^(8*k)=((b*2^(8*k):Nat):Int):=by simp
 rw[xx (b:Int) (by omega),e,xx _ (by omega),u64_or_nat _ _ (by omega) (by omega),Vf _ _ _ c]
theorem eX (s:ByteArray)(w:World)(l:0<s.size)(o:s.size<=8):
 Calls prog 104 #[s] w fun e w'=>e= .returned (.tuple #[.int .u64 (da s.data.toList),(0:Int)])/\w=w':=by
 have hz:((s.size:Int)==0)=false:=zp.2 (by omega);go_enter func104,ntmps104
 go_wp2;go_loop [5,15] (fun n i=>∃k m:Nat,k<=s.size/\Hid (m=da (s.data.toList.take k))/\n= .int .u64 m/\i= .int .i64 k) (fun _ i=>s.size-(intOf i).toNat)
 case atStart=>exact⟨0,0,by omega,rfl,rfl,rfl⟩
 case round=>
  obtain⟨k,m,c,b,rfl,rfl⟩:=hrel;by_cases j:k<s.size
  ·go_wp2;have h:=s[k].toNat_lt;have d:=jy (s.data.toList.take k);rw[length_take s k c,<-b.out]at d;have e:=Tv m s[k].toNat k h (by omega) d;go_round
   case rel=>
    refine⟨k+1,_,by omega,za rfl, ?_,by go_num⟩;rw[jn s k j,OE,length_take s k c,<-b.out,<-e]
   case measure=>simp[intOf];omega
  go_wp2;go_ret2
  exact⟨Fu rfl (by rw[b.out,zx (by simp;omega)]),rfl⟩
theorem mZ (s:ByteArray)(w:World)(b:s.size=0):
 Calls prog 104 #[s] w fun e w'=>e= .returned (.tuple #[.int .u64 0,(1:Int)])/\w=w':=by
 go_enter func104,ntmps104
 go_wp2;go_ret2
 exact⟨rfl,rfl⟩
def ba (w:World):Prop:=(w,0,0,(2:Int))/\(w,0,1,(4:Int))/\(w,0,2,(8:Int))
theorem ba.pos (h:ba w):0<w.heap.size:=lt_of_cell h.1
theorem ba.same (h:ba w)(b:w'.heap[0]?=w.heap[0]?):ba w':=
 ⟨(zB b).trans h.1,(zB b).trans h.2.1,(zB b).trans h.2.2⟩
theorem ba.below (h:ba w)(b:Below B w w')(c:0<B):ba w':=h.same (b.block 0 c)
theorem ba.only (h:ba w)(c:ae L w w')(b:0∉L):ba w':=h.same (c.block 0 h.pos b)
theorem Kz (n:Nat):(n<253/\bu n=n)\/(¬n<253/\n<65536/\bu n=253)\/(¬n<253/\¬n<65536/\n<4294967296/\bu n=254)\/(¬n<253/\¬n<65536/\¬n<4294967296/\bu n=255):=by
 unfold bu;split
 ·exact .inl ⟨‹_›,rfl⟩
 split
 ·exact .inr (.inl ⟨‹_›,‹_›,rfl⟩)
 split
 ·exact .inr (.inr (.inl ⟨‹_›,‹_›,‹_›,rfl⟩))
 exact .inr (.inr (.inr ⟨‹_›,‹_›,‹_›,rfl⟩))
theorem nU (n:Nat)(w:World)(k:n<18446744073709551616):
 Calls prog 200 #[.int .u64 n] w fun e w'=>e= .returned (.int .u8 (bu n))/\w=w':=by
 rcases Kz n with⟨c,e⟩|⟨c,d,e⟩|⟨c,d,j,e⟩|⟨c,d,j,e⟩
 ·rw[e];clear e;have b:decide ((n:Int)<253)=true:=zF (by omega);go_enter func200,ntmps200
  go_wp2;go_ret;exact⟨by go_num,rfl⟩
 ·rw[e];clear e;have b:decide ((n:Int)<253)=false:=zv (by omega);have h:decide ((n:Int)<65536)=true:=zF (by omega);go_enter func200,ntmps200
  go_wp2;go_ret;exact⟨by go_num,rfl⟩
 ·rw[e];clear e;have b:decide ((n:Int)<253)=false:=zv (by omega);have h:decide ((n:Int)<65536)=false:=zv (by omega);have i:decide ((n:Int)<4294967296)=true:=zF (by omega);go_enter func200,ntmps200
  go_wp2;go_ret;exact⟨by go_num,rfl⟩
 rw[e];clear e;have b:decide ((n:Int)<253)=false:=zv (by omega);have h:decide ((n:Int)<65536)=false:=zv (by omega);have i:decide ((n:Int)<4294967296)=false:=zv (by omega);go_enter func200,ntmps200
 go_wp2;go_ret;exact⟨by go_num,rfl⟩
theorem Fv (h:n<253):dr n= [ub n]:=by unfold dr;rw[zj h]
theorem nf {f:Nat}(h:¬n<253)(c:bu n=f)(b:bo f=k):(⟨#[ub f]⟩++⟨(jr n k).toArray⟩:ByteArray)=⟨(dr n).toArray⟩:=
 aF (by rw[aW];unfold dr;rw[zi h,c,b];rfl)
theorem KA (n:Nat)(w:World)(d:n<18446744073709551616)(m:ba w):
 Calls prog 159 #[.int .u64 n] w fun e w'=>e= .returned (.string ⟨(dr n).toArray⟩)/\(w,w'):=by
 have u:=m.pos;obtain⟨r,p,q⟩:=m;have c:=za (nU n w d);have k1:=fun(w:World) (a:Int)=>OR zq yt zM w a
 rcases Kz n with⟨b,e⟩|⟨b,l,e⟩|⟨b,l,s,e⟩|⟨b,l,s,e⟩
 ·have h:=za (Fv b);rw[e]at c;clear e d r p q;go_enter func159,ntmps159
  go_wp2_with fail
  refine c.out.mono ?_;rintro e w' ⟨rfl,rfl⟩;go_wp2;go_ret;exact⟨nN (by rw[h.out]),bO⟩
 ·have j:=za (fun w=>jG n 2 w (by have:=uq b d;rw[e]at this;simpa[bo]using this) (by omega) (by omega));have h:=za (nf (k:=2) b e (by decide));have o:(⟨(jr n 2).toArray⟩:ByteArray).size=2:=by rw[bG,bc]
  generalize (⟨(jr n 2).toArray⟩:ByteArray)=T at*;rw[e]at c;clear e d;go_enter func159,ntmps159
  go_wp2_with fail
  refine c.out.mono ?_;rintro e w' ⟨rfl,rfl⟩;go_wp2_with fail
  refine(j.out _).mono ?_;rintro e w' ⟨rfl,i⟩;go_wp2;go_ret;exact⟨nN (by rw[<-h.out];rfl),((zm w.heap.size w).alloc (zd _) _).trans (i.mono (by simp))⟩
 ·have j:=za (fun w=>jG n 4 w (by have:=uq b d;rw[e]at this;simpa[bo]using this) (by omega) (by omega));have h:=za (nf (k:=4) b e (by decide));have o:(⟨(jr n 4).toArray⟩:ByteArray).size=4:=by rw[bG,bc]
  generalize (⟨(jr n 4).toArray⟩:ByteArray)=T at*;rw[e]at c;clear e d;go_enter func159,ntmps159
  go_wp2_with fail
  refine c.out.mono ?_;rintro e w' ⟨rfl,rfl⟩;go_wp2_with fail
  refine(j.out _).mono ?_;rintro e w' ⟨rfl,i⟩;go_wp2;go_ret;exact⟨nN (by rw[<-h.out];rfl),((zm w.heap.size w).alloc (zd _) _).trans (i.mono (by simp))⟩
 have j:=za (fun w=>jG n 8 w (by have:=uq b d;rw[e]at this;simpa[bo]using this) (by omega) (by omega));have h:=za (nf (k:=8) b e (by decide));have o:(⟨(jr n 8).toArray⟩:ByteArray).size=8:=by rw[bG,bc]
 generalize (⟨(jr n 8).toArray⟩:ByteArray)=T at*;rw[e]at c;clear e d;go_enter func159,ntmps159
 go_wp2_with fail
 refine c.out.mono ?_;rintro e w' ⟨rfl,rfl⟩;go_wp2_with fail
 refine(j.out _).mono ?_;rintro e w' ⟨rfl,i⟩;go_wp2;go_ret;exact⟨nN (by rw[<-h.out];rfl),((zm w.heap.size w).alloc (zd _) _).trans (i.mono (by simp))⟩
def BX (N:Nat×Nat×Int):Ending:= .returned (.tuple #[.int .u64 N.1,N.2.1,N.2.2])
theorem ng (s:ByteArray)(k:Nat):(s.extract 1 (1+k)).data.toList=(s.data.toList.drop 1).take k:=by
 simp[ByteArray.extract,ByteArray.copySlice,Array.toList_extract]
theorem Pw (s:ByteArray)(w:World)(C:s.size<=9223372036854775807)(u:ba w):
 Calls prog 202 #[s] w fun e w'=>e=BX (au s.data.toList)/\w=w':=by
 obtain⟨G,D,E⟩:=u;unfold BX;rcases fU s with⟨z,rfl⟩|⟨z,A,B⟩
 ·go_enter xm,xd
  go_wp2;go_ret3
  exact⟨rfl,rfl⟩
 have x:0<s.size:=by omega
 have i:=drop_cons s 0 x;rw[zL]at i;have o:=s[0].toNat_lt;by_cases y:s[0].toNat<253
 ·have c:Hid (au s.data.toList=(s[0].toNat,1,0)):=za (by rw[i];simp only[au,zj y]);generalize au s.data.toList=N at*;clear i;go_enter xm,xd
  go_wp2;go_ret3
  exact⟨by rw[c.out];rfl,rfl⟩
 rcases(show s[0].toNat=253\/s[0].toNat=254\/s[0].toNat=255 by omega)with o|o|o
 ·have p:s[0].toNat=253:=o;have b:Hid (au s.data.toList=if(s.data.toList.drop 1).length<2 then(0,0,2)else if bu (da ((s.data.toList.drop 1).take 2))=253 then(da ((s.data.toList.drop 1).take 2),1+2,0)else(0,0,3)):=za (by
   rw[i];simp only[au,p];rfl)
  rw[zP,aa]at b;generalize au s.data.toList=N at*;by_cases r:s.size<1+2
  ·have c:Hid (N=(0,0,2)):=za (by rw[b.out,zj (by omega)]);clear b i;go_enter xm,xd
   go_wp2;go_ret3
   exact⟨by rw[c.out];rfl,rfl⟩
  have h:(s.extract 1 (1+2)).data.toList=(s.data.toList.drop 1).take 2:=ng s 2;have l:(s.extract 1 (1+2)).size=2:=by rw[ar s 1 (1+2) (by omega)]
  have n:=za (eX (s.extract 1 (1+2)) w (by omega) (by omega));rw[h]at n;have j:=jy ((s.data.toList.drop 1).take 2);rw[<-h,aa,l]at j;rw[h]at j;rw[zi (by omega)]at b;generalize da ((s.data.toList.drop 1).take 2)=m at*;have k:=za (nU m w (by omega));by_cases d:bu m=253
  ·have c:Hid (N=(m,1+2,0)):=za (by rw[b.out,zj d]);rw[d]at k;clear b i h l j d;go_enter xm,xd
   go_wp2_with fail
   refine n.out.mono ?_;rintro e w' ⟨rfl,rfl⟩;go_wp2_with fail
   refine k.out.mono ?_;rintro e w' ⟨rfl,rfl⟩;go_wp2;go_ret3
   exact⟨by rw[c.out];rfl,rfl⟩
  have c:Hid (N=(0,0,3)):=za (by rw[b.out,zi d]);have q:((bu m:Int) !=253)=true:=by rw[yN];omega
  generalize bu m=F at*;clear b i h l j d;go_enter xm,xd
  go_wp2_with fail
  refine n.out.mono ?_;rintro e w' ⟨rfl,rfl⟩;go_wp2_with fail
  refine k.out.mono ?_;rintro e w' ⟨rfl,rfl⟩;go_wp2;go_ret3
  exact⟨by rw[c.out];rfl,rfl⟩
 ·have p:s[0].toNat=254:=o;have b:Hid (au s.data.toList=if(s.data.toList.drop 1).length<4 then(0,0,2)else if bu (da ((s.data.toList.drop 1).take 4))=254 then(da ((s.data.toList.drop 1).take 4),1+4,0)else(0,0,3)):=za (by
   rw[i];simp only[au,p];rfl)
  rw[zP,aa]at b;generalize au s.data.toList=N at*;by_cases r:s.size<1+4
  ·have c:Hid (N=(0,0,2)):=za (by rw[b.out,zj (by omega)]);clear b i;go_enter xm,xd
   go_wp2;go_ret3
   exact⟨by rw[c.out];rfl,rfl⟩
  have h:(s.extract 1 (1+4)).data.toList=(s.data.toList.drop 1).take 4:=ng s 4;have l:(s.extract 1 (1+4)).size=4:=by rw[ar s 1 (1+4) (by omega)]
  have n:=za (eX (s.extract 1 (1+4)) w (by omega) (by omega));rw[h]at n;have j:=jy ((s.data.toList.drop 1).take 4);rw[<-h,aa,l]at j;rw[h]at j;rw[zi (by omega)]at b;generalize da ((s.data.toList.drop 1).take 4)=m at*;have k:=za (nU m w (by omega));by_cases d:bu m=254
  ·have c:Hid (N=(m,1+4,0)):=za (by rw[b.out,zj d]);rw[d]at k;clear b i h l j d;go_enter xm,xd
   go_wp2_with fail
   refine n.out.mono ?_;rintro e w' ⟨rfl,rfl⟩;go_wp2_with fail
   refine k.out.mono ?_;rintro e w' ⟨rfl,rfl⟩;go_wp2;go_ret3
   exact⟨by rw[c.out];rfl,rfl⟩
  have c:Hid (N=(0,0,3)):=za (by rw[b.out,zi d]);have q:((bu m:Int) !=254)=true:=by rw[yN];omega
  generalize bu m=F at*;clear b i h l j d;go_enter xm,xd
  go_wp2_with fail
  refine n.out.mono ?_;rintro e w' ⟨rfl,rfl⟩;go_wp2_with fail
  refine k.out.mono ?_;rintro e w' ⟨rfl,rfl⟩;go_wp2;go_ret3
  exact⟨by rw[c.out];rfl,rfl⟩
 have p:s[0].toNat=255:=o;have b:Hid (au s.data.toList=if(s.data.toList.drop 1).length<8 then(0,0,2)else if bu (da ((s.data.toList.drop 1).take 8))=255 then(da ((s.data.toList.drop 1).take 8),1+8,0)else(0,0,3)):=za (by
  rw[i];simp only[au,p];rfl)
 rw[zP,aa]at b;generalize au s.data.toList=N at*;by_cases r:s.size<1+8
 ·have c:Hid (N=(0,0,2)):=za (by rw[b.out,zj (by omega)]);clear b i;go_enter xm,xd
  go_wp2;go_ret3
  exact⟨by rw[c.out];rfl,rfl⟩
 have h:(s.extract 1 (1+8)).data.toList=(s.data.toList.drop 1).take 8:=ng s 8;have l:(s.extract 1 (1+8)).size=8:=by rw[ar s 1 (1+8) (by omega)]
 have n:=za (eX (s.extract 1 (1+8)) w (by omega) (by omega));rw[h]at n;have j:=jy ((s.data.toList.drop 1).take 8);rw[<-h,aa,l]at j;rw[h]at j;rw[zi (by omega)]at b;generalize da ((s.data.toList.drop 1).take 8)=m at*;have k:=za (nU m w (by omega));by_cases d:bu m=255
 ·have c:Hid (N=(m,1+8,0)):=za (by rw[b.out,zj d]);rw[d]at k;clear b i h l j d;go_enter xm,xd
  go_wp2_with fail
  refine n.out.mono ?_;rintro e w' ⟨rfl,rfl⟩;go_wp2_with fail
  refine k.out.mono ?_;rintro e w' ⟨rfl,rfl⟩;go_wp2;go_ret3
  exact⟨by rw[c.out];rfl,rfl⟩
 have c:Hid (N=(0,0,3)):=za (by rw[b.out,zi d]);have q:((bu m:Int) !=255)=true:=by rw[yN];omega
 generalize bu m=F at*;clear b i h l j d;go_enter xm,xd
 go_wp2_with fail
 refine n.out.mono ?_;rintro e w' ⟨rfl,rfl⟩;go_wp2_with fail
 refine k.out.mono ?_;rintro e w' ⟨rfl,rfl⟩;go_wp2;go_ret3
 exact⟨by rw[c.out];rfl,rfl⟩
theorem qp {K:Act->World->Prop}{B:Prop}(H:o.guard=none)(s x:Operand)
 (C:o.op= .call {callee:= .builtin .append,args:= #[s,x],argTypes:= #[26,26]}) (c:Nat) (acc:List It)  (M:a.eval s=v) (R:Acc w c acc v) (y:It) 
 (r:fR w (fun k=>c<=k/\v.ownBlock≠some k) y i h d) (g:Nat) (hx:a.eval x= .slice (some (g,0)) 1 1) (L:w.cell? (g,0)=some i) (J:w.cell? (g,1)=some h) (S:w.cell? (g,2)=some d)
 (Y:acc.length<=1000000) (E:c<=w.heap.size)
 (I:∀b m cap w',Hid (m=acc.length+1)->Acc w' c (acc++ [y]) (.slice (some (b,0)) m cap)->w.grownBy w' v.ownBlock->c<=b->K (a.put o.dst (.slice (some (b,0)) m cap)) w'):
 if Region.wanted o (yielded ops a.tmps)=true then Oper.wp prog o a w K Q else B:=by
 obtain⟨i0,hi,W,D,F⟩:=yz rN;obtain⟨z,N,A⟩:=R;refine step_append_lies w H s x 26 C c 28 i0 _ 3 48 xU hi W D F rfl (by decide) v acc.length z M N (g,0) 1 1 [i,h,d] hx rfl ?_ (agq r) (by decide) (by simp only[maxLen];omega) (by omega) E w.heap.size rfl ?_
 ·intro j u hu;have O:∀j,((g,0):Addr).add j=⟨g,j,none⟩:=by intro j;unfold Addr.add;split<;>simp_all
  rw[O];match j,hu with
  |0,hu=>simp at hu;subst hu;exact L
  |1,hu=>simp at hu;subst hu;exact J
  |2,hu=>simp at hu;subst hu;exact S
 intro b cap w' q n l Z;have U:=C0 q b rfl;refine I b _ cap w' (za rfl) ⟨z++ [i,h,d],by rw[zk];exact q, ?_⟩ n U;refine((A.snoc r).ah (fun k X hS=>⟨hS.1, ?_⟩) fun p G hS=>zB (n.block _ G (fun e=>hS.2 e.symm)));intro e;have e:b=k:=by simpa[Value.ownBlock]using e
 rcases l with l|l
 ·exact hS.2 (by rw[l,e])
 omega
theorem kf {a b c:Value}(h:ag w g t #[a,b,c]):(w,g,0,a)/\(w,g,1,b)/\(w,g,2,c):=⟨h.cell 0,h.cell 1,h.cell 2⟩
theorem acd {b c t3:Value}(h:(w.alloc (.cells #[b,c,i,t3] 70)).alloc (.cells #[d,j,e] 28)=W):
 W.heap.size=w.heap.size+2/\(w,W)/\ag W w.heap.size 70 #[b,c,i,t3]/\ag W (w.heap.size+1) 28 #[d,j,e]:=by
 subst h;exact⟨by simp,((zm _ w).alloc (zd _) _).alloc (by simp) _,(ag.new w _ _).alloc _,ag.at_ (by simp)⟩
def vI (w w':World)(x:It)(er:Int)(e:Ending):Prop:=
 (w,w')/\∃c0 c1 c2,e= .returned (.tuple #[.agg #[c0,c1,c2],er])/\fR w' (w.heap.size<= ·) x c0 c1 c2
theorem nh (w:World)(S:Nat->Prop):fR w S kx eS false nS:=fR.text false (by simp[ByteArray.size])
theorem ags {c b:Value}(h:W=w.alloc (.cells #[c,b,d] 28)):(w,W)/\W.heap.size=w.heap.size+1/\ag W w.heap.size 28 #[c,b,d]:=by
 subst h;exact⟨(zm _ _).alloc (zd _) _,by simp,ag.new w _ _⟩
theorem gS (h:ag w g t #[i,e,j])(d c b:Value):ag (((w.setCell (g,0) d).setCell (g,1) c).setCell (g,2) b) g t #[d,c,b]:=((h.set 0 d).set 1 c).set 2 b
theorem fp (h:ag w g t #[i,e,j])(b c d:Value):((w.setCell (g,0) b),g,0,b)/\(((w.setCell (g,0) b).setCell (g,1) c),g,1,c)/\((((w.setCell (g,0) b).setCell (g,1) c).setCell (g,2) d),g,2,d):=
 ⟨by have:=(h.set 0 b).cell 0;simpa using this,by have:=((h.set 0 b).set 1 c).cell 1;simpa using this,by have:=(((h.set 0 b).set 1 c).set 2 d).cell 2;simpa using this⟩
theorem Px (w:World)(B:Nat)(t:ByteArray)(l:Bool)(h:t.size<=9223372036854775807):bI w B (.mk t l []) t l nS:=⟨rfl,rfl,h,by simp,none,0,rfl,by simp,by simp,trivial⟩
def Fw (w:World)(R:Option Ty)(e:Ending)(w':World):Prop:=
 (w,w')/\match R with
  |none=>e= .returned (.tuple #[.agg #[(0:Int),(0:Int),nS,(0:Int)],(3:Int)])
  |some x=>∃c0 c1 c2 c3,e= .returned (.tuple #[.agg #[c0,c1,c2,c3],(0:Int)])/\fX w' (w.heap.size<= ·) x c0 c1 c2 c3
theorem MB (l:List UInt8):ry (l++ [0])=ry l:=by simp[ry]
theorem MC (l:List UInt8)(b:UInt8)(h:b≠0):ry (l++ [b])=l++ [b]:=by simp[ry,h]
theorem Fx (y:ByteArray)(k:Nat)(h:y.size=k+1):y.data.toList=(y.extract 0 k).data.toList++ [y[k]]:=by
 rw[aq,zL,<-jn y k (by omega),<-h,cP]
theorem MD (h:y.size=k+1)(b:cW y=cW s)(c:(y[k].toNat:Int)=0):cW (y.extract 0 k)=cW s:=by
 rw[<-b];unfold cW;rw[Fx y k h];have:y[k]=0:=by
  apply zT.1;have:y[k].toNat=0:=by omega
  simpa using this
 rw[this,MB]
theorem ME (h:y.size=k+1)(i:cW y=cW s)(b:(y[k].toNat:Int)≠0):y=cW s:=by
 rw[<-i];unfold cW;have c:=Fx y k h;have d:y[k]≠0:=by
  intro e;apply b;rw[e];rfl
 apply aF;rw[c,MC _ _ d]
theorem Py (h:y.size=0)(b:cW y=cW s):y=cW s:=by
 rw[<-b];have:y.data.toList= []:=zo (by simpa using h);apply aF;unfold cW;rw[this];rfl
theorem IF (s:ByteArray)(w:World)(j:s.size<=9223372036854775807):
 Calls prog 209 #[s,.int .u8 0] w fun e w'=>e= .returned (.string (cW s))/\w=w':=by
 go_enter func209,ntmps209
 go_wp2;go_loop [0] (fun x=>∃(y:ByteArray),Hid (cW y=cW s)/\y.size<=9223372036854775807/\x= .string y) (fun x=>strOf x)
 case atStart=>exact⟨s,za rfl,j,rfl⟩
 case round=>
  obtain⟨y,b,hz,rfl⟩:=hrel;rcases Zp y.size with h0|h0
  ·have i:=za h0;have l:y.size<=0:=by omega
   clear h0;go_wp2;go_ret;exact⟨nN (Py i.out b.out).symm,rfl⟩
  obtain⟨k,c⟩:∃k,y.size=k+1:=⟨y.size-1,by omega⟩
  have d:=za c;have n:k<y.size:=by omega
  have m:(y.size:Int)-1=k:=by omega
  rcases xf ((y[k].toNat:Int)==0)with h|h
  ·clear c;go_wp2;go_round
   case rel=>exact⟨y.extract 0 k,za (MD d.out b.out (by simpa using h)),by rw[ar _ _ _ (by omega)];omega,rfl⟩
   case measure=>simp[ar];omega
  clear c;go_wp2;go_ret;exact⟨nN (ME d.out b.out (by simpa using h)).symm,rfl⟩
theorem Pz :(prog.info? 5).map (·.size)=some 1:=by kernel_rfl
def z12 :Array Value:= #[.int .u8 0,.int .u8 0,.int .u8 0,.int .u8 0,.int .u8 0,.int .u8 0,.int .u8 0,.int .u8 0,.int .u8 0,.int .u8 0,.int .u8 0,.int .u8 0]
theorem PA :z12.toList=cb (List.replicate 12 0):=rfl
theorem WU (w:World)(ty t:TypeId)(s:ByteArray)(b:s.size<=12):
 (Builtin.copy_ #[75,9] ty #[.slice (some (w.heap.size,0)) 12 12,s]).run prog (w.alloc (.cells z12 t))= .ok (goInt s.size) (w.alloc (.cells (cb (eQ s).data.toList).toArray t)):=by
 have h:=Lib.run_copy_row_string (P:=prog) (w.alloc (.cells z12 t)) 75 9 ty 5 w.heap.size 0 12 12 s z12 t zq Pz (yM w _) b (by simpa[z12]using b);rw[h,World.setRow_alloc_new];have e:(z12.toList.take 0++Lib.byteCells s.data.toList++z12.toList.drop (0+s.size))=cb (eQ s).data.toList:=by
  rw[lC,eG,PA,yv,yo,zJ,<-S4,List.drop_replicate];rfl
 rw[e]
theorem WV (w:World)(t:TypeId)(s:ByteArray)(b:s.size<=12):
 (convert 75 9 (.slice (some (w.heap.size,0)) 12 12)).run prog (w.alloc (.cells (cb (eQ s).data.toList).toArray t))= .ok (.string (eQ s)) (w.alloc (.cells (cb (eQ s).data.toList).toArray t)):=by
 have c:(eQ s).data.toList.length=12:=by rw[aa];exact ib s b
 have:=ui (P:=prog) (w.alloc (.cells (cb (eQ s).data.toList).toArray t)) 75 9 5 zq yt zM (w.heap.size,0) 12 (eQ s).data.toList (fun j u hu=>ZP (yM w (.cells (cb (eQ s).data.toList).toArray t)) j u (by simpa using hu));rw[c,jv]at this;exact this
theorem MF (s:ByteArray)(w:World)(d:s.size<=9223372036854775807)(b:b8 s=false):
 Calls prog 125 #[s] w fun e w'=>e= .returned (.tuple #[ByteArray.empty,(11:Int)])/\w=w':=by
 have H:=qm s w d;rw[b]at H;have c:=za H;clear H b;go_enter func125,ntmps125
 go_wp2_with fail
 refine c.out.mono ?_;rintro e w' ⟨rfl,rfl⟩;go_wp2;go_ret2
 exact⟨rfl,rfl⟩
theorem Fy (s:ByteArray)(w:World)(b:b8 s=true):
 Calls prog 125 #[s] w fun e w'=>e= .returned (.tuple #[.string (eQ s),(0:Int)])/\(w,w'):=by
 have hz:=dx b;have H:=qm s w (by omega);rw[b]at H;have h:=za H;clear H b;have k1:=fun(ty t:TypeId)=>WU w ty t s hz.2
 have k2:=fun(t:TypeId)=>WV w t s hz.2
 have c:=fun t=>(zm w.heap.size w).alloc (zd _) (.cells (cb (eQ s).data.toList).toArray t)
 have d:=za c;clear c;simp only[z12]at k1;go_enter func125,ntmps125
 go_wp2_with fail
 refine h.out.mono ?_;rintro e w' ⟨rfl,rfl⟩;go_wp2;go_ret2
 exact⟨rfl,d.out _⟩
theorem sR (s:ByteArray)(w:World)(c:s.size<=9223372036854775807):
 Calls prog 173 #[s,.string ⟨#[0]⟩] w fun e w'=>e= .returned (.string (cW s))/\w=w':=by
 rcases fU s with⟨b,rfl⟩|⟨b,d,h⟩
 ·clear b;go_enter func173,ntmps173
  go_wp2_with fail
  go_ret;exact⟨rfl,rfl⟩
 clear b;go_enter func173,ntmps173
 go_wp2_with fail
 refine(IF s w c).mono ?_;rintro e w' ⟨rfl,rfl⟩;go_wp2;go_ret;exact⟨rfl,rfl⟩
theorem PC (s:ByteArray):(cW s).size<=s.size:=by
 obtain⟨n,b⟩:=Bs s.data.toList;have:=yp List.length b;rw[cW,bG];simp only[zk,aa]at this;omega
theorem PD (s:ByteArray)(w:World)(d:s.size<=9223372036854775807):
 Calls prog 134 #[s] w fun e w'=>e= .returned (.tuple #[.string (cX s).2,.int .i64 (cX s).1])/\w=w':=by
 have hz:=PC s;by_cases b:s.size=12
 ·have j:((s.size:Int) !=12)=false:=by simp[b]
  have i:=za (qm (cW s) w (by omega));have c:=za (show cX s=if b8 (cW s)=true then(0,cW s)else(3,ByteArray.empty)by unfold cX;simp[b]);clear b hz;rcases xf (b8 (cW s))with h|h;all_goals
   rw[h]at i c;go_enter func134,ntmps134
   go_wp2_with fail
   refine(sR s w d).mono ?_;rintro e w' ⟨rfl,rfl⟩;go_wp2_with fail
   refine i.out.mono ?_;rintro e w' ⟨rfl,rfl⟩;go_wp2;go_ret2
   exact⟨by rw[c.out];rfl,rfl⟩
 have j:((s.size:Int) !=12)=true:=yN.2 (by omega);have c:=za (Ex s b);clear b hz;go_enter func134,ntmps134
 go_wp2_with fail
 refine(sR s w d).mono ?_;rintro e w' ⟨rfl,rfl⟩;go_wp2;go_ret2
 exact⟨by rw[c.out];rfl,rfl⟩
theorem rQ :(prog.info? 5).map (fun i=>(i.zero,i.size,i.bytes))=some (some (.int .u8 0),1,1):=by kernel_rfl
theorem ace :∀x:Fin 256,x.val|||128=x.val%128+128:=by decide+kernel
theorem WW (m:Nat):bits .or .u8 ((m:Int)%256) 128=((m%128+128:Nat):Int):=by
 have h:=u8_or_nat (m%256) 128 (by omega) (by omega);have b:=ace ⟨m%256,by omega⟩;simp only at b;rw[b,show m%256%128=m%128 from by omega]at h;rw[<-h];rfl
theorem qq {m:Nat}{pre:List UInt8}(h:pre++aR m=aR n)(b:128<=m):(pre++ [ub (m%128+128:Nat)])++aR (m/128)=aR n:=by
 rw[<-h,jq (n:=m) (by omega)];simp
theorem C1 {m:Nat}{pre:List UInt8}(h:pre++aR m=aR n)(b:¬128<=m):pre++ [ub (m:Nat)]=aR n:=by
 rw[<-h,ie (n:=m) (by omega)]
theorem IG {m:Nat}{pre:List UInt8}(h:pre++aR m=aR n)(d:n<18446744073709551616):pre.length<10:=by
 have e:=bw 10 n (by omega) (by omega);have c:=EF m;have b:=yp List.length h;simp only[zk]at b;omega
def WX (n:Nat)(w:World)(b:Value)(x:Value)(wr:World):Prop:=
 ∃(m:Nat) (pre:List UInt8),pre++aR m=aR n/\m<18446744073709551616/\pre.length<10/\x= .int .u64 m/\bP wr w.heap.size 5 b pre/\Kept 5 w.heap.size w wr
theorem vJ (n:Nat)(w:World)(s:n<18446744073709551616):
 Calls prog 140 #[.int .u64 n] w fun e w'=>e= .returned (.string ⟨(aR n).toArray⟩)/\(w,w'):=by
 obtain⟨i0,hi,p,i,j⟩:=yz rQ;go_enter func140,ntmps140
 go_wp2_with (at_make;refine ZM _ rfl _ _ 75 rfl w.heap.size 5 i0 (.int .u8 0) 1 zq hi p i .i64 .i64 _ 10 rfl rfl (by omega) (by rw[j];omega) (by simp only[maxLen];omega) (by omega) ?_;intro C z B)
 have r:bP C w.heap.size 5 (.slice (some (w.heap.size,0)) 0 10) []:=bP.own z;have y:Kept 5 w.heap.size w C:=Kept.J' B (zd _);clear z B;go_loopw [3,0] (fun b x wr=>WX n w b x wr) (fun _ x _=>(intOf x).toNat)
 case atStart=>exact⟨n,[],rfl,s,by simp,rfl,r,y⟩
 case round=>
  obtain⟨m,pre,u,K,I,rfl,k,h⟩:=hrel;have q:=za u;have L:=h.size;obtain⟨A,cap,rfl,N,M⟩:=k.form;clear u r y;by_cases l:128<=m
  ·go_wp2_with (at_builtin;refine aP (by rfl) (.tmp 7) (.tmp 11) 75 75 (by rfl) w.heap.size 5 i0 zq hi p i j (by rfl) (k.alloc _) _ [ub (m%128+128:Nat)] (by rfl) (j6 zq wr 5 _ [ub (m%128+128:Nat)] 1 (oZ (WW m) (by omega))) (by rw[zt];omega) (by simp only[zz,zO];omega) ?_)
   intro G H E D c d;have F:=za c;have o:=za ((h.alloc (by omega) _).trans d);clear c d;go_wp2;go_roundw
   case rel=>exact⟨m/128,_,qq q.out l,by omega,IG (qq q.out l) s,by go_num,F.out,o.out⟩
   case measure=>simp[intOf];omega
  go_wp2_with (at_builtin;refine aP (by rfl) (.tmp 15) (.tmp 18) 75 75 (by rfl) w.heap.size 5 i0 zq hi p i j (by rfl) (k.alloc _) _ [ub (m:Nat)] (by rfl) (j6 zq wr 5 _ [ub (m:Nat)] 1 (oZ rfl (by omega))) (by rw[zt];omega) (by simp only[zz,zO];omega) ?_)
  intro G H E D c d;rw[C1 q.out l]at c;have o:=za ((h.alloc (by omega) _).trans d);have J:=c.H' (P:=prog) zq yt zM;clear d c;go_wp2;go_ret;exact⟨rfl,o.out.below⟩
