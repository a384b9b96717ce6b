/- slices.Clone at items, item.List, item.Text. -/
import Derived.WalkSpells
import Derived.Test.YtpjgigllldipiaaGreatDoorKA6
import Derived.Lib.BufferWrite
import Derived.Deep.WholeRow
set_option linter.all false
set_option maxRecDepth 100000
set_option maxHeartbeats 1000000
namespace Go.Proofs.YtpjgigllldipiaaGreatDoor
open Tryz
open Go.RowKit
def zo:=@bodyPost_ret
def zO:=@underlying9
def yC:=@underlying5
def yQ:=@bne_iff_ne
def xB:=@wpList_append_lies
theorem BE :(prog.info? 28).map (fun i=>(i.zero,i.size,i.bytes))=some (some (.agg #[.string ⟨#[]⟩,.bool false,.slice none 0 0]),3,48):=by kernel_rfl
theorem oI (s:ByteArray)(w:World):
 Calls prog 164 #[.string s] w fun e w'=>e= .returned (.agg #[.string s,.bool false,.slice none 0 0])/\Below w.heap.size w w':=by
 go_enter func164,ntmps164
 go_wp2;refine zo (v:= .agg #[.string s,.bool false,.slice none 0 0]) (by simp[results,results164,go_sem]) rfl ⟨rfl, ?_⟩;exact bN
theorem Hv {w:World}{base cap n:Nat}{A:Option Addr}{c:List Value}{e:TypeId}{k:Nat}(i:w.ownsRow base e k (.slice A n cap) n c):∀g,(Value.slice A n cap).ownBlock=some g->base<=g:=by
 intro g b;rcases i.2 with⟨j,p⟩|⟨d,m,o,h,l,_⟩
 ·rw[j]at b;cases b
 rw[h]at b;have:d=g:=by simpa[Value.ownBlock]using b
 omega
mutual
def fO (w:World)(S:Nat->Prop):It->Value->Value->Value->Prop
 | .mk t l s,c0,c1,c2=>c0= .string t/\c1= .bool l/\t.size<=9223372036854775807/\s.length<=9223372036854775807/\∃A cap,c2= .slice A s.length cap/\s.length<=cap/\cap<=9223372036854775807/\mJ w S s A 0
def mJ (w:World)(S:Nat->Prop):List It->Option Addr->Nat->Prop
 | [],_,_=>True
 |x::xs,A,i=>(∃b o c0 c1 c2,A=some ⟨b,o,none⟩/\S b/\w.cell? ⟨b,o+i*3,none⟩=some c0/\w.cell? ⟨b,o+i*3+1,none⟩=some c1/\w.cell? ⟨b,o+i*3+2,none⟩=some c2/\fO w S x c0 c1 c2)/\mJ w S xs A (i+1)
end
theorem mJ.at_ {w:World}{S:Nat->Prop}{A:Option Addr}:∀{s:List It} {i:Nat},mJ w S s A i->∀(j:Nat) (h:j<s.length),∃b o c d e,A=some ⟨b,o,none⟩/\S b/\w.cell? ⟨b,o+(i+j)*3,none⟩=some c/\w.cell? ⟨b,o+(i+j)*3+1,none⟩=some d/\w.cell? ⟨b,o+(i+j)*3+2,none⟩=some e/\fO w S s[j] c d e
 | [],_,_,j,h=>by simp at h
 |x::xs,i,hi,0,_=>by simpa[mJ]using hi.1
 |x::xs,i,hi,j+1,h=>by
  have:=mJ.at_ hi.2 j (by simpa using h);rw[show i+1+j=i+(j+1)from by omega]at this;simpa using this
theorem mJ.Eg {w:World}{S:Nat->Prop}{A:Option Addr}:∀{s:List It} {i:Nat},(∀(j:Nat) (h:j<s.length),∃b o c d e,A=some ⟨b,o,none⟩/\S b/\w.cell? ⟨b,o+(i+j)*3,none⟩=some c/\w.cell? ⟨b,o+(i+j)*3+1,none⟩=some d/\w.cell? ⟨b,o+(i+j)*3+2,none⟩=some e/\fO w S s[j] c d e)->mJ w S s A i
 | [],_,_=>by simp[mJ]
 |x::xs,i,h=>by
  refine⟨h 0 (ZI _),mJ.Eg fun j k=> ?_⟩;have:=h (j+1) (by simpa using k);rw[show i+(j+1)=i+1+j from by omega]at this;simpa using this
theorem fO.ah {w w':World}{S S':Nat->Prop}(hS:∀k,k<w.heap.size->S k->S' k)(i:∀p:Addr,p.block<w.heap.size->S p.block->w'.cell? p=w.cell? p):∀(x:It) {m e n:Value},fO w S x m e n->fO w' S' x m e n:=by
 intro x;induction x using It.ind with
 |h t l s ih=>
  intro m e n h;obtain⟨D,I,z,y,A,cap,C,G,F,E⟩:=h;refine⟨D,I,z,y,A,cap,C,G,F,mJ.Eg fun j r=> ?_⟩;obtain⟨b,o,d0,d1,d2,B,c,q,H,u,hi⟩:=E.at_ j r;have d:=lt_of_cell q;exact⟨b,o,d0,d1,d2,B,hS _ d c,(i _ d c).trans q,(i _ d c).trans H,(i _ d c).trans u,ih _ (zM r) hi⟩
theorem fO.gh {w:World}{S S':Nat->Prop}{x:It}{b c d:Value}(h:fO w S x b c d)(hS:∀k,k<w.heap.size->S k->S' k):fO w S' x b c d:=fO.ah hS (fun _ _ _=>rfl) x h
theorem fO.only {w w':World}{S S':Nat->Prop}{L:List Nat}{x:It}{b c d:Value}(h:fO w S x b c d)(j:ae L w w')(i:∀k,k∈L->¬S k)(hS:∀k,k<w.heap.size->S k->S' k):fO w' S' x b c d:=
 fO.ah hS (fun p m l=>j.cell m fun e=>i _ e l) x h
theorem fO.below {w w':World}{S:Nat->Prop}{x:It}{b c d:Value}(h:fO w S x b c d)(e:Below w.heap.size w w'):fO w' S x b c d:=fO.ah (fun _ _ h=>h) (fun _ i _=>e.cell i) x h
theorem fO.wY {w:World}{S:Nat->Prop}:∀(x:It) {d c e:Value},fO w S x d c e->bZ w w.heap.size x d c e:=by
 intro x;induction x using It.ind with
 |h t l s ih=>
  intro d c e h;obtain⟨n,y,C,z,A,cap,D,q,p,B⟩:=h;refine⟨n,y,C,z,A,cap,D,q,p,bU.Eg fun j k=> ?_⟩;obtain⟨b,o,d0,d1,d2,m,E,i,r,u,hi⟩:=B.at_ j k;exact⟨b,o,d0,d1,d2,m,lt_of_cell i,i,r,u,ih _ (zM k) hi⟩
theorem fO.open_ {w:World}{S:Nat->Prop}{x:It}{d b c:Value}(h:fO w S x d b c):∃A cap,d= .string x.text/\b= .bool x.list/\c= .slice A x.sub.length cap/\x.text.size<=9223372036854775807/\x.sub.length<=cap/\cap<=9223372036854775807/\mJ w S x.sub A 0:=by
 cases x with
 |mk t l s=>
  obtain⟨i,k,n,p,A,cap,o,j,e,m⟩:=h;exact⟨A,cap,i,k,o,n,j,e,m⟩
theorem fO.text {w:World}{S:Nat->Prop}{t:ByteArray}(l:Bool)(b:t.size<=9223372036854775807):fO w S (.mk t l []) (.string t) (.bool l) (.slice none 0 0):=⟨rfl,rfl,b,by simp,none,0,rfl,by simp,by simp,trivial⟩
def fH (w:World)(S:Nat->Prop):List It->List Value->Prop
 | [],cs=>cs= []
 |x::xs,cs=>∃c0 c1 c2 ds,cs=c0::c1::c2::ds/\fO w S x c0 c1 c2/\fH w S xs ds
theorem fH.ah {w w':World}{S S':Nat->Prop}(hS:∀k,k<w.heap.size->S k->S' k)(c:∀p:Addr,p.block<w.heap.size->S p.block->w'.cell? p=w.cell? p):∀{s:List It} {b:List Value},fH w S s b->fH w' S' s b
 | [],b,h=>h
 |x::xs,b,h=>by
  obtain⟨d,e,i,j,rfl,l,m⟩:=h;exact⟨d,e,i,j,rfl,fO.ah hS c x l,m.ah hS c⟩
theorem fH.snoc {w:World}{S:Nat->Prop}{y:It}{e c d:Value}(i:fO w S y e c d):∀{s:List It} {b:List Value},fH w S s b->fH w S (s++ [y]) (b++ [e,c,d])
 | [],b,h=>by
  have h:b= []:=h;subst h;exact⟨e,c,d,[],rfl,i,rfl⟩
 |x::xs,b,h=>by
  obtain⟨j,l,m,k,rfl,n,o⟩:=h;exact⟨j,l,m,k++ [e,c,d],by simp,n,o.snoc i⟩
theorem mJ.eL {w:World}{S:Nat->Prop}{b o:Nat}(e:S b):∀{s:List It} {i:Nat} {c:List Value},fH w S s c->(∀j u,c[j]?=some u->w.cell? ⟨b,o+i*3+j,none⟩=some u)->mJ w S s (some ⟨b,o,none⟩) i
 | [],_,_,_,_=>trivial
 |x::xs,i,c,h,hc=>by
  obtain⟨d,k,l,p,rfl,m,n⟩:=h;refine⟨⟨b,o,d,k,l,rfl,e,by simpa using hc 0 d (by simp),hc 1 k (by simp),hc 2 l (by simp),m⟩,mJ.eL e n fun j u hu=> ?_⟩;have:=hc (j+3) u (by simpa using hu);rw[show o+(i+1)*3+j=o+i*3+(j+3)from by omega];exact this
def Acc (w:World)(lo:Nat)(acc:List It)(v:Value):Prop:=∃cs,w.ownsRow lo 28 3 v acc.length cs/\fH w (fun k=>lo<=k/\v.ownBlock≠some k) acc cs
theorem Acc.nil (w:World)(b:Nat):Acc w b [] (.slice none 0 0):=⟨[],⟨by simp,.inl ⟨rfl,rfl⟩⟩,rfl⟩
theorem Acc.form {w:World}{b:Nat}{acc:List It}{v:Value}(h:Acc w b acc v):∃A cap,v= .slice A acc.length cap/\acc.length<=cap/\cap<=9223372036854775807:=by
 obtain⟨l,k,n⟩:=h;rcases k.2 with⟨i,j⟩|⟨g,cap,m,c,_,_,e,d,_⟩
 ·exact⟨none,0,by rw[i,j],by omega,by simp⟩
 exact⟨_,cap,c,e,by simpa[maxLen]using d⟩
theorem Acc.dk {w:World}{c:Nat}{acc:List It}{v:Value}(h:Acc w c acc v):∃A n cap,v= .slice A n cap/\Hid (n=acc.length)/\n<=cap/\cap<=9223372036854775807:=by
 obtain⟨A,cap,b,e,d⟩:=h.form;exact⟨A,_,cap,b,za rfl,e,d⟩
theorem Acc.ge {w:World}{c:Nat}{acc:List It}{v:Value}(h:Acc w c acc v):∀g,v.ownBlock=some g->c<=g/\g<w.heap.size:=by
 obtain⟨m,l,p⟩:=h;intro g b;rcases l.2 with⟨j,o⟩|⟨d,cap,n,e,i,k,_⟩
 ·rw[j]at b;cases b
 rw[e]at b;have:d=g:=by simpa[Value.ownBlock]using b
 subst this;exact⟨i,y9 k⟩
theorem af.grown {w w':World}{g:Nat}{t:TypeId}{b:Array Value}{row:Option Nat}(h:af w g t b)(c:w.grownBy w' row)(d:row≠some g):af w' g t b:=(c.block g h.lt (fun e=>d e.symm)).trans h
theorem Acc.ah {w w':World}{b:Nat}{acc:List It}{v:Value}(h:Acc w b acc v)(d:∀k,b<=k->k<w.heap.size->w'.heap[k]?=w.heap[k]?):Acc w' b acc v:=by
 obtain⟨e,c,l⟩:=h;refine⟨e,⟨c.1, ?_⟩,l.ah (fun _ _ h=>h) fun p j i=>zL (d _ i.1 j)⟩;rcases c.2 with h3|⟨g,cap,cur,hv,hg,hh,r⟩
 ·exact .inl h3
 exact .inr ⟨g,cap,cur,hv,hg,(d g hg (y9 hh)).trans hh,r⟩
theorem Acc.only {w w':World}{b:Nat}{acc:List It}{v:Value}{L:List Nat}(h:Acc w b acc v)(e:ae L w w')(d:∀g,g∈L->g<b):Acc w' b acc v:=
 h.ah fun k j i=>e.block k i fun c=>by have:=d k c;omega
theorem Acc.below {w w':World}{b:Nat}{acc:List It}{v:Value}(h:Acc w b acc v)(c:Below w.heap.size w w'):Acc w' b acc v:=h.ah fun k _ d=>c.block k d
theorem Acc.list {w:World}{b:Nat}{acc:List It}{v:Value}(h:Acc w b acc v)(m:acc.length<=9223372036854775807):fO w (b<= ·) (.mk ⟨#[]⟩ true acc) (.string ⟨#[]⟩) (.bool true) v:=by
 obtain⟨A,cap,rfl,n,o⟩:=h.form;obtain⟨p,d,k⟩:=h;refine⟨rfl,rfl,ym _,m,A,cap,rfl,n,o, ?_⟩;rcases d.2 with⟨c,l⟩|⟨g,r,s,i,e,q,_⟩
 ·obtain rfl:acc= []:=zw l;trivial
 injection i with hA _ hc;subst hA;subst hc;refine mJ.eL e (k.ah (fun _ _ h=>h.1) (fun _ _ _=>rfl)) fun j u hu=> ?_
 have:=d.cells rfl j u hu;have c:(⟨g,0,none⟩:Addr).add j=⟨g,j,none⟩:=by unfold Addr.add;split<;>simp_all
 rw[c]at this;simpa using this
theorem aff {w:World}{S:Nat->Prop}{y:It}{d b c:Value}(h:fO w S y d b c):∀u∈ [d,b,c],u.oneCell'=true:=by
 obtain⟨A,cap,rfl,rfl,rfl,_⟩:=h.open_;intro u hu;simp at hu;rcases hu with rfl|rfl|rfl<;>rfl
def oJ (w:World)(S:Nat->Prop)(m:Ms)(c0 c1 c2 c3:Value):Prop:=c0= .string m.name/\m.name.size<=9223372036854775807/\fO w S m.x c1 c2 c3
theorem oJ.ah {w w':World}{S S':Nat->Prop}(hS:∀k,k<w.heap.size->S k->S' k)(i:∀p:Addr,p.block<w.heap.size->S p.block->w'.cell? p=w.cell? p)(m:Ms){b c d e:Value}(h:oJ w S m b c d e):oJ w' S' m b c d e:=⟨h.1,h.2.1,fO.ah hS i _ h.2.2⟩
theorem oJ.below {w w':World}{S:Nat->Prop}{m:Ms}{b c d e:Value}(h:oJ w S m b c d e)(i:Below w.heap.size w w'):oJ w' S m b c d e:=oJ.ah (fun _ _ h=>h) (fun _ j _=>i.cell j) m h
theorem oJ.gh {w:World}{S S':Nat->Prop}{m:Ms}{b c d e:Value}(h:oJ w S m b c d e)(hS:∀k,k<w.heap.size->S k->S' k):oJ w S' m b c d e:=oJ.ah hS (fun _ _ _=>rfl) m h
theorem oJ.only {w w':World}{S S':Nat->Prop}{L:List Nat}{m:Ms}{c b d e:Value}(h:oJ w S m c b d e)(l:ae L w w')(j:∀k,k∈L->¬S k)(hS:∀k,k<w.heap.size->S k->S' k):oJ w' S' m c b d e:=
 oJ.ah hS (fun p o n=>l.cell o fun i=>j _ i n) m h
theorem oJ.open_ {w:World}{S:Nat->Prop}{m:Ms}{c b d e:Value}(h:oJ w S m c b d e):∃A cap,c= .string m.name/\b= .string m.x.text/\d= .bool m.x.list/\e= .slice A m.x.sub.length cap/\m.name.size<=9223372036854775807/\m.x.text.size<=9223372036854775807/\m.x.sub.length<=cap/\cap<=9223372036854775807:=by
 obtain⟨j,l,hi⟩:=h;obtain⟨A,cap,n,q,o,p,k,i,_⟩:=hi.open_;exact⟨A,cap,j,n,q,o,l,p,k,i⟩
theorem OQ :(prog.info? 30).map (fun i=>(i.zero,i.size,i.bytes))=some (some (.agg #[.string ⟨#[]⟩,.string ⟨#[]⟩,.bool false,.slice none 0 0]),4,64):=by kernel_rfl
def qZ (w:World)(S:Nat->Prop):List Ms->Option Addr->Nat->Prop
 | [],_,_=>True
 |x::xs,A,i=>(∃b o c0 c1 c2 c3,A=some ⟨b,o,none⟩/\S b/\w.cell? ⟨b,o+i*4,none⟩=some c0/\w.cell? ⟨b,o+i*4+1,none⟩=some c1/\w.cell? ⟨b,o+i*4+2,none⟩=some c2/\w.cell? ⟨b,o+i*4+3,none⟩=some c3/\oJ w S x c0 c1 c2 c3)/\qZ w S xs A (i+1)
theorem qZ.at_ {w:World}{S:Nat->Prop}{A:Option Addr}:∀{s:List Ms} {i:Nat},qZ w S s A i->∀(j:Nat) (h:j<s.length),∃b o c d e k,A=some ⟨b,o,none⟩/\S b/\w.cell? ⟨b,o+(i+j)*4,none⟩=some c/\w.cell? ⟨b,o+(i+j)*4+1,none⟩=some d/\w.cell? ⟨b,o+(i+j)*4+2,none⟩=some e/\w.cell? ⟨b,o+(i+j)*4+3,none⟩=some k/\oJ w S s[j] c d e k
 | [],_,_,j,h=>by simp at h
 |x::xs,i,hi,0,_=>by simpa[qZ]using hi.1
 |x::xs,i,hi,j+1,h=>by
  have:=qZ.at_ hi.2 j (by simpa using h);rw[show i+1+j=i+(j+1)from by omega]at this;simpa using this
theorem qZ.ah {w w':World}{S S':Nat->Prop}(hS:∀k,k<w.heap.size->S k->S' k)(c:∀p:Addr,p.block<w.heap.size->S p.block->w'.cell? p=w.cell? p){A:Option Addr}:∀{s:List Ms} {i:Nat},qZ w S s A i->qZ w' S' s A i
 | [],_,_=>trivial
 |x::xs,i,h=>by
  obtain⟨⟨b,o,m,l,q,u,n,d,j,r,y,z,hi⟩,B⟩:=h;have e:=lt_of_cell j;exact⟨⟨b,o,m,l,q,u,n,hS _ e d,(c _ e d).trans j,(c _ e d).trans r,(c _ e d).trans y,(c _ e d).trans z,hi.ah hS c⟩,B.ah hS c⟩
def gW (w:World)(S:Nat->Prop):List Ms->List Value->Prop
 | [],cs=>cs= []
 |x::xs,cs=>∃c0 c1 c2 c3 ds,cs=c0::c1::c2::c3::ds/\oJ w S x c0 c1 c2 c3/\gW w S xs ds
theorem gW.ah {w w':World}{S S':Nat->Prop}(hS:∀k,k<w.heap.size->S k->S' k)(c:∀p:Addr,p.block<w.heap.size->S p.block->w'.cell? p=w.cell? p):∀{s:List Ms} {b:List Value},gW w S s b->gW w' S' s b
 | [],b,h=>h
 |x::xs,b,h=>by
  obtain⟨d,e,i,l,j,rfl,m,n⟩:=h;exact⟨d,e,i,l,j,rfl,oJ.ah hS c x m,n.ah hS c⟩
theorem gW.snoc {w:World}{S:Nat->Prop}{y:Ms}{e c d i:Value}(j:oJ w S y e c d i):∀{s:List Ms} {b:List Value},gW w S s b->gW w S (s++ [y]) (b++ [e,c,d,i])
 | [],b,h=>by
  have h:b= []:=h;subst h;exact⟨e,c,d,i,[],rfl,j,rfl⟩
 |x::xs,b,h=>by
  obtain⟨k,m,o,p,l,rfl,n,q⟩:=h;exact⟨k,m,o,p,l++ [e,c,d,i],by simp,n,q.snoc j⟩
theorem qZ.eL {w:World}{S:Nat->Prop}{b o:Nat}(e:S b):∀{s:List Ms} {i:Nat} {c:List Value},gW w S s c->(∀j u,c[j]?=some u->w.cell? ⟨b,o+i*4+j,none⟩=some u)->qZ w S s (some ⟨b,o,none⟩) i
 | [],_,_,_,_=>trivial
 |x::xs,i,c,h,hc=>by
  obtain⟨d,k,l,m,q,rfl,n,p⟩:=h;refine⟨⟨b,o,d,k,l,m,rfl,e,by simpa using hc 0 d (by simp),hc 1 k (by simp),hc 2 l (by simp),hc 3 m (by simp),n⟩,qZ.eL e p fun j u hu=> ?_⟩;have:=hc (j+4) u (by simpa using hu);rw[show o+(i+1)*4+j=o+i*4+(j+4)from by omega];exact this
def dM (w:World)(S0:Nat->Prop)(lo:Nat)(acc:List Ms)(v:Value):Prop:=∃cs,w.ownsRow lo 30 4 v acc.length cs/\gW w (fun k=>S0 k/\v.ownBlock≠some k) acc cs
abbrev wZ (w:World)(lo:Nat)(acc:List Ms)(v:Value):Prop:=dM w (lo<= ·) lo acc v
theorem dM.nil (w:World)(c:Nat->Prop)(b:Nat):dM w c b [] (.slice none 0 0):=⟨[],⟨by simp,.inl ⟨rfl,rfl⟩⟩,rfl⟩
theorem wZ.nil (w:World)(b:Nat):wZ w b [] (.slice none 0 0):=dM.nil _ _ _
theorem dM.form {w:World}{j:Nat->Prop}{b:Nat}{acc:List Ms}{v:Value}(h:dM w j b acc v):∃A cap,v= .slice A acc.length cap/\acc.length<=cap/\cap<=9223372036854775807:=by
 obtain⟨m,l,o⟩:=h;rcases l.2 with⟨i,k⟩|⟨g,cap,n,c,_,_,e,d,_⟩
 ·exact⟨none,0,by rw[i,k],by omega,by simp⟩
 exact⟨_,cap,c,e,by simpa[maxLen]using d⟩
theorem dM.dk {w:World}{c:Nat->Prop}{b:Nat}{acc:List Ms}{v:Value}(h:dM w c b acc v):∃A n cap,v= .slice A n cap/\Hid (n=acc.length)/\n<=cap/\cap<=9223372036854775807:=by
 obtain⟨A,cap,d,i,e⟩:=h.form;exact⟨A,_,cap,d,za rfl,i,e⟩
theorem dM.ge {w:World}{k:Nat->Prop}{c:Nat}{acc:List Ms}{v:Value}(h:dM w k c acc v):∀g,v.ownBlock=some g->c<=g/\g<w.heap.size:=by
 obtain⟨n,m,q⟩:=h;intro g b;rcases m.2 with⟨j,p⟩|⟨d,cap,o,e,i,l,_⟩
 ·rw[j]at b;cases b
 rw[e]at b;have:d=g:=by simpa[Value.ownBlock]using b
 subst this;exact⟨i,y9 l⟩
theorem dM.ah {w w':World}{b:Nat->Prop}{c:Nat}{acc:List Ms}{v:Value}(h:dM w b c acc v)(e:∀k,k<w.heap.size->b k\/v.ownBlock=some k->w'.heap[k]?=w.heap[k]?):dM w' b c acc v:=by
 obtain⟨i,d,m⟩:=h;refine⟨i,⟨d.1, ?_⟩,m.ah (fun _ _ h=>h) fun p l j=>zL (e _ l (.inl j.1))⟩;rcases d.2 with h3|⟨g,cap,cur,hv,hg,hh,r⟩
 ·exact .inl h3
 exact .inr ⟨g,cap,cur,hv,hg,(e g (y9 hh) (.inr (by rw[hv];rfl))).trans hh,r⟩
theorem dM.only {w w':World}{c:Nat->Prop}{d:Nat}{acc:List Ms}{v:Value}{L:List Nat}(h:dM w c d acc v)(i:ae L w w')(j:∀g,g∈L->¬c g)(m:∀g,g∈L->v.ownBlock≠some g):dM w' c d acc v:=
 h.ah fun k l b=>i.block k l fun e=>by
  rcases b with b|b
  ·exact j k e b
  exact m k e b
theorem dM.below {w w':World}{c:Nat->Prop}{b:Nat}{acc:List Ms}{v:Value}(h:dM w c b acc v)(e:Below w.heap.size w w'):dM w' c b acc v:=h.ah fun k d _=>e.block k d
theorem dM.gh {w:World}{c S1:Nat->Prop}{b lo':Nat}{acc:List Ms}{v:Value}(h:dM w c b acc v)(hS:∀k,k<w.heap.size->c k->S1 k)(e:lo'<=b):dM w S1 lo' acc v:=by
 obtain⟨d,i,l⟩:=h;exact⟨d,i.mono e,l.ah (fun k j h=>⟨hS k j h.1,h.2⟩) fun _ _ _=>rfl⟩
theorem wZ.only {w w':World}{b:Nat}{acc:List Ms}{v:Value}{L:List Nat}(h:wZ w b acc v)(i:ae L w w')(d:∀g,g∈L->g<b):wZ w' b acc v:=
 dM.only h i (fun g c=>by have:=d g c;omega) (fun g c e=>by have:=d g c;have:=(dM.ge h g e).1;omega)
theorem wZ.reads {w:World}{b:Nat}{acc:List Ms}{v:Value}(h:wZ w b acc v):∃A cap,v= .slice A acc.length cap/\acc.length<=cap/\cap<=9223372036854775807/\qZ w (b<= ·) acc A 0:=by
 obtain⟨A,cap,rfl,m,n⟩:=dM.form h;obtain⟨o,d,k⟩:=h;refine⟨A,cap,rfl,m,n, ?_⟩;rcases d.2 with⟨c,l⟩|⟨g,q,r,i,e,p,_⟩
 ·obtain rfl:acc= []:=zw l;trivial
 injection i with hA _ hc;subst hA;subst hc;refine qZ.eL e (k.ah (fun _ _ h=>h.1) (fun _ _ _=>rfl)) fun j u hu=> ?_
 have:=d.cells rfl j u hu;have c:(⟨g,0,none⟩:Addr).add j=⟨g,j,none⟩:=by unfold Addr.add;split<;>simp_all
 rw[c]at this;simpa using this
theorem aa4 {w:World}{S:Nat->Prop}{y:Ms}{d b c e:Value}(h:oJ w S y d b c e):∀u∈ [d,b,c,e],u.oneCell'=true:=by
 obtain⟨A,cap,rfl,rfl,rfl,rfl,_⟩:=h.open_;intro u hu;simp at hu;rcases hu with rfl|rfl|rfl|rfl<;>rfl
theorem pK {w:World}{ops:Array Oper}{rest:List Oper}{o:Oper}{a:Act}{Q:Exit->Act->World->Prop}(U:o.guard=none)(s x:Operand)
 (D:o.op= .call {callee:= .builtin .append,args:= #[s,x],argTypes:= #[43,43]}) (q:Nat->Prop) (c:Nat) (acc:List Ms) {v:Value} (J:a.eval s=v) (I:dM w q c acc v) (y:Ms) {i h l m:Value}
 (A:oJ w (fun k=>q k/\v.ownBlock≠some k) y i h l m) (g:Nat) (hx:a.eval x= .slice (some ⟨g,0,none⟩) 1 1) (C:w.cell? ⟨g,0,none⟩=some i) (M:w.cell? ⟨g,1,none⟩=some h) (G:w.cell? ⟨g,2,none⟩=some l) (O:w.cell? ⟨g,3,none⟩=some m)
 (Z:acc.length<=1000000) (S:c<=w.heap.size)
 (H:∀b n cap w',Hid (n=acc.length+1)->dM w' q c (acc++ [y]) (.slice (some ⟨b,0,none⟩) n cap)->w.grownBy w' v.ownBlock->c<=b->wpList prog ops Q rest (a.put o.dst (.slice (some ⟨b,0,none⟩) n cap)) w'):wpList prog ops Q (o::rest) a w:=by
 obtain⟨i0,hi,F,R,L⟩:=yT OQ;obtain⟨r,X,N⟩:=I;refine xB w U s x 43 D c 30 i0 _ 4 64 underlying43 hi F R L rfl (by decide) v acc.length r J X ⟨g,0,none⟩ 1 1 [i,h,l,m] hx rfl ?_ (aa4 A) (by decide) (by simp only[maxLen];omega) (by omega) S w.heap.size rfl ?_
 ·intro j u hu;have W:∀j,(⟨g,0,none⟩:Addr).add j=⟨g,j,none⟩:=by intro j;unfold Addr.add;split<;>simp_all
  rw[W];match j,hu with
  |0,hu=>simp at hu;subst hu;exact C
  |1,hu=>simp at hu;subst hu;exact M
  |2,hu=>simp at hu;subst hu;exact G
  |3,hu=>simp at hu;subst hu;exact O
 intro b cap w' B z d aC;have E:=Hv B b rfl;refine H b _ cap w' (za rfl) ⟨r++ [i,h,l,m],by rw[zp];exact B, ?_⟩ z E;refine((N.snoc A).ah (fun k Y hS=>⟨hS.1, ?_⟩) fun p K hS=>zL (z.block _ K (fun e=>hS.2 e.symm)));intro e;have e:b=k:=by simpa[Value.ownBlock]using e
 rcases d with d|d
 ·exact hS.2 (by rw[d,e])
 omega
theorem LR :(prog.info? 64).map (fun i=>(i.zero,i.size,i.bytes))=some (some (.agg #[.int .i64 0,.int .i64 0,.slice none 0 0,.int .i64 0]),4,48):=by kernel_rfl
mutual
def fh (w:World)(S:Nat->Prop):Ty->Value->Value->Value->Value->Prop
 | .mk k s l t,c0,c1,c2,c3=>c0= .int .i64 k/\c1= .int .i64 s/\c3= .int .i64 t/\l7 k/\l7 s/\l7 t/\l.length<=9223372036854775807/\∃A cap,c2= .slice A l.length cap/\l.length<=cap/\cap<=9223372036854775807/\nP w S l A 0
def nP (w:World)(S:Nat->Prop):List Ty->Option Addr->Nat->Prop
 | [],_,_=>True
 |x::xs,A,i=>(∃b o c0 c1 c2 c3,A=some ⟨b,o,none⟩/\S b/\w.cell? ⟨b,o+i*4,none⟩=some c0/\w.cell? ⟨b,o+i*4+1,none⟩=some c1/\w.cell? ⟨b,o+i*4+2,none⟩=some c2/\w.cell? ⟨b,o+i*4+3,none⟩=some c3/\fh w S x c0 c1 c2 c3)/\nP w S xs A (i+1)
end
theorem nP.at_ {w:World}{S:Nat->Prop}{A:Option Addr}:∀{s:List Ty} {i:Nat},nP w S s A i->∀(j:Nat) (h:j<s.length),∃b o c d e k,A=some ⟨b,o,none⟩/\S b/\w.cell? ⟨b,o+(i+j)*4,none⟩=some c/\w.cell? ⟨b,o+(i+j)*4+1,none⟩=some d/\w.cell? ⟨b,o+(i+j)*4+2,none⟩=some e/\w.cell? ⟨b,o+(i+j)*4+3,none⟩=some k/\fh w S s[j] c d e k
 | [],_,_,j,h=>by simp at h
 |x::xs,i,hi,0,_=>by simpa[nP]using hi.1
 |x::xs,i,hi,j+1,h=>by
  have:=nP.at_ hi.2 j (by simpa using h);rw[show i+1+j=i+(j+1)from by omega]at this;simpa using this
theorem nP.Eg {w:World}{S:Nat->Prop}{A:Option Addr}:∀{s:List Ty} {i:Nat},(∀(j:Nat) (h:j<s.length),∃b o c d e k,A=some ⟨b,o,none⟩/\S b/\w.cell? ⟨b,o+(i+j)*4,none⟩=some c/\w.cell? ⟨b,o+(i+j)*4+1,none⟩=some d/\w.cell? ⟨b,o+(i+j)*4+2,none⟩=some e/\w.cell? ⟨b,o+(i+j)*4+3,none⟩=some k/\fh w S s[j] c d e k)->nP w S s A i
 | [],_,_=>by simp[nP]
 |x::xs,i,h=>by
  refine⟨h 0 (ZI _),nP.Eg fun j l=> ?_⟩;have:=h (j+1) (by simpa using l);rw[show i+(j+1)=i+1+j from by omega]at this;simpa using this
theorem fh.ah {w w':World}{S S':Nat->Prop}(hS:∀k,k<w.heap.size->S k->S' k)(e:∀p:Addr,p.block<w.heap.size->S p.block->w'.cell? p=w.cell? p):∀(x:Ty) {m i n q:Value},fh w S x m i n q->fh w' S' x m i n q:=by
 intro x;induction x using Ty.ind with
 |h k s l t ih=>
  intro m i n q h;obtain⟨F,L,z,k1,k2,y,C,A,cap,E,I,H,G⟩:=h;refine⟨F,L,z,k1,k2,y,C,A,cap,E,I,H,nP.Eg fun j u=> ?_⟩;obtain⟨b,o,d0,d1,d2,d3,D,c,r,K,B,J,hi⟩:=G.at_ j u;have d:=lt_of_cell r;exact⟨b,o,d0,d1,d2,d3,D,hS _ d c,(e _ d c).trans r,(e _ d c).trans K,(e _ d c).trans B,(e _ d c).trans J,ih _ (zM u) hi⟩
theorem fh.gh {w:World}{S S':Nat->Prop}{x:Ty}{b c d e:Value}(h:fh w S x b c d e)(hS:∀k,k<w.heap.size->S k->S' k):fh w S' x b c d e:=fh.ah hS (fun _ _ _=>rfl) x h
theorem fh.only {w w':World}{S S':Nat->Prop}{L:List Nat}{x:Ty}{c b d e:Value}(h:fh w S x c b d e)(l:ae L w w')(j:∀k,k∈L->¬S k)(hS:∀k,k<w.heap.size->S k->S' k):fh w' S' x c b d e:=
 fh.ah hS (fun p n m=>l.cell n fun i=>j _ i m) x h
theorem fh.below {w w':World}{S:Nat->Prop}{x:Ty}{b c d e:Value}(h:fh w S x b c d e)(i:Below w.heap.size w w'):fh w' S x b c d e:=fh.ah (fun _ _ h=>h) (fun _ j _=>i.cell j) x h
theorem fh.wY {w:World}{S:Nat->Prop}:∀(x:Ty) {d c e i:Value},fh w S x d c e i->cx w w.heap.size x d c e i:=by
 intro x;induction x using Ty.ind with
 |h k s l t ih=>
  intro d c e i h;obtain⟨B,H,q,k1,k2,p,u,A,cap,z,E,D,C⟩:=h;refine⟨B,H,q,k1,k2,p,u,A,cap,z,E,D,eN.Eg fun j n=> ?_⟩;obtain⟨b,o,d0,d1,d2,d3,y,I,m,G,r,F,hi⟩:=C.at_ j n;exact⟨b,o,d0,d1,d2,d3,y,lt_of_cell m,m,G,r,F,ih _ (zM n) hi⟩
theorem fh.open_ {w:World}{S:Nat->Prop}{x:Ty}{c b d e:Value}(h:fh w S x c b d e):∃A cap,c= .int .i64 x.kind/\b= .int .i64 x.size/\d= .slice A x.sub.length cap/\e= .int .i64 x.tail/\l7 x.kind/\l7 x.size/\l7 x.tail/\x.sub.length<=cap/\cap<=9223372036854775807/\nP w S x.sub A 0:=by
 cases x with
 |mk k s l t=>
  obtain⟨j,p,o,r,q,u,z,A,cap,y,m,i,n⟩:=h;exact⟨A,cap,j,p,y,o,r,q,u,m,i,n⟩
def iY (w:World)(S:Nat->Prop):List Ty->List Value->Prop
 | [],cs=>cs= []
 |x::xs,cs=>∃c0 c1 c2 c3 ds,cs=c0::c1::c2::c3::ds/\fh w S x c0 c1 c2 c3/\iY w S xs ds
theorem iY.ah {w w':World}{S S':Nat->Prop}(hS:∀k,k<w.heap.size->S k->S' k)(c:∀p:Addr,p.block<w.heap.size->S p.block->w'.cell? p=w.cell? p):∀{s:List Ty} {b:List Value},iY w S s b->iY w' S' s b
 | [],b,h=>h
 |x::xs,b,h=>by
  obtain⟨d,e,i,l,j,rfl,m,n⟩:=h;exact⟨d,e,i,l,j,rfl,fh.ah hS c x m,n.ah hS c⟩
theorem iY.snoc {w:World}{S:Nat->Prop}{y:Ty}{e c d i:Value}(j:fh w S y e c d i):∀{s:List Ty} {b:List Value},iY w S s b->iY w S (s++ [y]) (b++ [e,c,d,i])
 | [],b,h=>by
  have h:b= []:=h;subst h;exact⟨e,c,d,i,[],rfl,j,rfl⟩
 |x::xs,b,h=>by
  obtain⟨k,m,o,p,l,rfl,n,q⟩:=h;exact⟨k,m,o,p,l++ [e,c,d,i],by simp,n,q.snoc j⟩
theorem nP.eL {w:World}{S:Nat->Prop}{b o:Nat}(e:S b):∀{s:List Ty} {i:Nat} {c:List Value},iY w S s c->(∀j u,c[j]?=some u->w.cell? ⟨b,o+i*4+j,none⟩=some u)->nP w S s (some ⟨b,o,none⟩) i
 | [],_,_,_,_=>trivial
 |x::xs,i,c,h,hc=>by
  obtain⟨d,k,l,m,q,rfl,n,p⟩:=h;refine⟨⟨b,o,d,k,l,m,rfl,e,by simpa using hc 0 d (by simp),hc 1 k (by simp),hc 2 l (by simp),hc 3 m (by simp),n⟩,nP.eL e p fun j u hu=> ?_⟩;have:=hc (j+4) u (by simpa using hu);rw[show o+(i+1)*4+j=o+i*4+(j+4)from by omega];exact this
def eC (w:World)(lo:Nat)(acc:List Ty)(v:Value):Prop:=∃cs,w.ownsRow lo 64 4 v acc.length cs/\iY w (fun k=>lo<=k/\v.ownBlock≠some k) acc cs
theorem eC.nil (w:World)(b:Nat):eC w b [] (.slice none 0 0):=⟨[],⟨by simp,.inl ⟨rfl,rfl⟩⟩,rfl⟩
theorem eC.form {w:World}{b:Nat}{acc:List Ty}{v:Value}(h:eC w b acc v):∃A cap,v= .slice A acc.length cap/\acc.length<=cap/\cap<=9223372036854775807:=by
 obtain⟨l,k,n⟩:=h;rcases k.2 with⟨i,j⟩|⟨g,cap,m,c,_,_,e,d,_⟩
 ·exact⟨none,0,by rw[i,j],by omega,by simp⟩
 exact⟨_,cap,c,e,by simpa[maxLen]using d⟩
theorem eC.dk {w:World}{c:Nat}{acc:List Ty}{v:Value}(h:eC w c acc v):∃A n cap,v= .slice A n cap/\Hid (n=acc.length)/\n<=cap/\cap<=9223372036854775807:=by
 obtain⟨A,cap,b,e,d⟩:=h.form;exact⟨A,_,cap,b,za rfl,e,d⟩
theorem eC.ge {w:World}{c:Nat}{acc:List Ty}{v:Value}(h:eC w c acc v):∀g,v.ownBlock=some g->c<=g/\g<w.heap.size:=by
 obtain⟨m,l,p⟩:=h;intro g b;rcases l.2 with⟨j,o⟩|⟨d,cap,n,e,i,k,_⟩
 ·rw[j]at b;cases b
 rw[e]at b;have:d=g:=by simpa[Value.ownBlock]using b
 subst this;exact⟨i,y9 k⟩
theorem eC.ah {w w':World}{b:Nat}{acc:List Ty}{v:Value}(h:eC w b acc v)(d:∀k,b<=k->k<w.heap.size->w'.heap[k]?=w.heap[k]?):eC w' b acc v:=by
 obtain⟨e,c,l⟩:=h;refine⟨e,⟨c.1, ?_⟩,l.ah (fun _ _ h=>h) fun p j i=>zL (d _ i.1 j)⟩;rcases c.2 with h3|⟨g,cap,cur,hv,hg,hh,r⟩
 ·exact .inl h3
 exact .inr ⟨g,cap,cur,hv,hg,(d g hg (y9 hh)).trans hh,r⟩
theorem eC.only {w w':World}{b:Nat}{acc:List Ty}{v:Value}{L:List Nat}(h:eC w b acc v)(e:ae L w w')(d:∀g,g∈L->g<b):eC w' b acc v:=
 h.ah fun k j i=>e.block k i fun c=>by have:=d k c;omega
theorem eC.below {w w':World}{b:Nat}{acc:List Ty}{v:Value}(h:eC w b acc v)(c:Below w.heap.size w w'):eC w' b acc v:=h.ah fun k _ d=>c.block k d
theorem eC.ty {w:World}{b:Nat}{acc:List Ty}{v:Value}(h:eC w b acc v)(n:acc.length<=9223372036854775807){k z t:Int}(p:l7 k)(hz:l7 z)(q:l7 t):fh w (b<= ·) (.mk k z acc t) (.int .i64 k) (.int .i64 z) v (.int .i64 t):=by
 obtain⟨A,cap,rfl,o,r⟩:=h.form;obtain⟨s,d,l⟩:=h;refine⟨rfl,rfl,rfl,p,hz,q,n,A,cap,rfl,o,r, ?_⟩;rcases d.2 with⟨c,m⟩|⟨g,y,B,i,e,x,_⟩
 ·obtain rfl:acc= []:=zw m;trivial
 injection i with hA _ hc;subst hA;subst hc;refine nP.eL e (l.ah (fun _ _ h=>h.1) (fun _ _ _=>rfl)) fun j u hu=> ?_
 have:=d.cells rfl j u hu;have c:(⟨g,0,none⟩:Addr).add j=⟨g,j,none⟩:=by unfold Addr.add;split<;>simp_all
 rw[c]at this;simpa using this
theorem afg {w:World}{S:Nat->Prop}{y:Ty}{d b c e:Value}(h:fh w S y d b c e):∀u∈ [d,b,c,e],u.oneCell'=true:=by
 obtain⟨A,cap,rfl,rfl,rfl,rfl,_⟩:=h.open_;intro u hu;simp at hu;rcases hu with rfl|rfl|rfl|rfl<;>rfl
theorem cn {w:World}{ops:Array Oper}{rest:List Oper}{o:Oper}{a:Act}{Q:Exit->Act->World->Prop}(S:o.guard=none)(s x:Operand)
 (C:o.op= .call {callee:= .builtin .append,args:= #[s,x],argTypes:= #[62,62]}) (c:Nat) (acc:List Ty) {v:Value} (I:a.eval s=v) (H:eC w c acc v) (y:Ty) {i h l m:Value}
 (z:fh w (fun k=>c<=k/\v.ownBlock≠some k) y i h l m) (g:Nat) (hx:a.eval x= .slice (some ⟨g,0,none⟩) 1 1) (B:w.cell? ⟨g,0,none⟩=some i) (L:w.cell? ⟨g,1,none⟩=some h) (F:w.cell? ⟨g,2,none⟩=some l) (N:w.cell? ⟨g,3,none⟩=some m)
 (Y:acc.length<=1000000) (R:c<=w.heap.size)
 (G:∀b n cap w',Hid (n=acc.length+1)->eC w' c (acc++ [y]) (.slice (some ⟨b,0,none⟩) n cap)->w.grownBy w' v.ownBlock->c<=b->wpList prog ops Q rest (a.put o.dst (.slice (some ⟨b,0,none⟩) n cap)) w'):wpList prog ops Q (o::rest) a w:=by
 obtain⟨i0,hi,E,O,K⟩:=yT LR;obtain⟨q,W,M⟩:=H;refine xB w S s x 62 C c 64 i0 _ 4 48 underlying62 hi E O K rfl (by decide) v acc.length q I W ⟨g,0,none⟩ 1 1 [i,h,l,m] hx rfl ?_ (afg z) (by decide) (by simp only[maxLen];omega) (by omega) R w.heap.size rfl ?_
 ·intro j u hu;have U:∀j,(⟨g,0,none⟩:Addr).add j=⟨g,j,none⟩:=by intro j;unfold Addr.add;split<;>simp_all
  rw[U];match j,hu with
  |0,hu=>simp at hu;subst hu;exact B
  |1,hu=>simp at hu;subst hu;exact L
  |2,hu=>simp at hu;subst hu;exact F
  |3,hu=>simp at hu;subst hu;exact N
 intro b cap w' A r d Z;have D:=Hv A b rfl;refine G b _ cap w' (za rfl) ⟨q++ [i,h,l,m],by rw[zp];exact A, ?_⟩ r D;refine((M.snoc z).ah (fun k X hS=>⟨hS.1, ?_⟩) fun p J hS=>zL (r.block _ J (fun e=>hS.2 e.symm)));intro e;have e:b=k:=by simpa[Value.ownBlock]using e
 rcases d with d|d
 ·exact hS.2 (by rw[d,e])
 omega
theorem fh.leaf {w:World}{S:Nat->Prop}{k z t:Int}(b:l7 k)(hz:l7 z)(c:l7 t):fh w S (.mk k z [] t) (.int .i64 k) (.int .i64 z) (.slice none 0 0) (.int .i64 t):=⟨rfl,rfl,rfl,b,hz,c,by simp,none,0,rfl,by simp,by simp,trivial⟩
theorem ay {i:Int}(b:0<=i)(c:i<=100000000):l7 i:=by unfold l7;omega
theorem kN {s:ByteArray}{k:Nat}(c:k<s.size)(h:im (s.data.toList.take k)=true)(b:nT s[k].toNat=true):im (s.data.toList.take (k+1))=true:=by
 rw[ja s k c,uc,h,b];rfl
theorem mK {s:ByteArray}{k:Nat}(b:k<s.size)(c:nT s[k].toNat=false):b8 s=false:=by
 have:im (s.data.toList.take (k+1))=false:=by rw[ja s k b,uc,c];simp
 rw[b8,wQ _ _ this];rfl
theorem JV {s:ByteArray}{k:Nat}(d:¬k<s.size)(b:1<=s.size)(c:s.size<=12)(h:im (s.data.toList.take k)=true):b8 s=true:=by
 rw[zC (by simp;omega)]at h;rw[N8 b c,h]
theorem pL (s:ByteArray)(w:World)(x:s.size<=9223372036854775807):
 Calls prog 62 #[.string s] w fun e w'=>e= .returned (.bool (b8 s))/\w=w':=by
 by_cases o:1<=s.size
 ·by_cases q:s.size<=12
  ·go_enter func62,ntmps62
   go_wp2;go_loop [15] (fun i=>∃k:Nat,k<=s.size/\Hid (im (s.data.toList.take k)=true)/\i= .int .i64 k) (fun i=>s.size-(intOf i).toNat)
   case atStart=>exact⟨0,by omega,za (by simp[im]),rfl⟩
   case round=>
    obtain⟨k,y,j,rfl⟩:=hrel;by_cases d:k<s.size
    ·rcases A9 s[k].toNat s[k].toNat_lt with⟨b,m,p⟩|⟨b,m⟩
     ·have c:=za b;have n:(((s[k].toNat:Nat):Int) !=95)=true:=yQ.2 (by omega);clear b p;rcases m with h|⟨h,l⟩|⟨h,l⟩|h;all_goals
       go_wp2;go_ret;exact⟨aT (mK d c.out),rfl⟩
     have c:=za b;clear b;rcases m with⟨h,l⟩|h|⟨h,l⟩
     ·go_wp2;go_round
      case rel=>exact⟨k+1,by omega,za (kN d j.out c.out),by go_num⟩
      case measure=>simp[intOf];omega
     ·have n:(((s[k].toNat:Nat):Int) !=95)=false:=by simp[h]
      have r:94<s[k].toNat:=by omega
      have u:s[k].toNat<96:=by omega
      clear h;go_wp2;go_round
      case rel=>exact⟨k+1,by omega,za (kN d j.out c.out),by go_num⟩
      case measure=>simp[intOf];omega
     go_wp2;go_round
     case rel=>exact⟨k+1,by omega,za (kN d j.out c.out),by go_num⟩
     case measure=>simp[intOf];omega
    go_wp2;go_ret;exact⟨aT (JV d o q j.out),rfl⟩
  go_enter func62,ntmps62
  go_wp2;go_ret;exact⟨aT (po (by omega)),rfl⟩
 go_enter func62,ntmps62
 go_wp2;go_ret;exact⟨aT (po (by omega)),rfl⟩
theorem LS (s:ByteArray)(w:World)(z:s.size<=9223372036854775807):
 Calls prog 23 #[.string s] w fun e w'=>e= .returned (.bool (b8 s))/\w=w':=by
 go_enter func23,ntmps23
 go_wp2;go_loop [3] (fun i=>∃k:Nat,k<=s.size/\Hid (im (s.data.toList.take k)=true)/\i= .int .i64 k) (fun i=>s.size-(intOf i).toNat)
 case atStart=>exact⟨0,by omega,za (by simp[im]),rfl⟩
 case round=>
  obtain⟨k,A,j,rfl⟩:=hrel;by_cases c:k<s.size
  ·rcases A9 s[k].toNat s[k].toNat_lt with⟨d,n,r⟩|⟨d,n⟩
   ·have b:=za d;have o:(((s[k].toNat:Nat):Int)==95)=false:=zr.2 (by omega);clear d r;rcases n with h|⟨h,m⟩|⟨h,m⟩|h
    ·go_wp2;go_ret;exact⟨aT (mK c b.out),rfl⟩
    ·have l:decide (((s[k].toNat:Nat):Int)<=57)=false:=zz (by omega);go_wp2;go_ret;exact⟨aT (mK c b.out),rfl⟩
    ·have l:decide (((s[k].toNat:Nat):Int)<=57)=false:=zz (by omega);go_wp2;go_ret;exact⟨aT (mK c b.out),rfl⟩
    have l:decide (((s[k].toNat:Nat):Int)<=57)=false:=zz (by omega);have u:decide (((s[k].toNat:Nat):Int)<=122)=false:=zz (by omega);go_wp2;go_ret;exact⟨aT (mK c b.out),rfl⟩
   have b:=za d;clear d;rcases n with⟨h,m⟩|h|⟨h,m⟩
   ·go_wp2;go_round
    case rel=>exact⟨k+1,by omega,za (kN c j.out b.out),by go_num⟩
    case measure=>simp[intOf];omega
   ·have o:(((s[k].toNat:Nat):Int)==95)=true:=by simp[h]
    have x:94<s[k].toNat:=by omega
    have y:s[k].toNat<96:=by omega
    clear h;go_wp2;go_round
    case rel=>exact⟨k+1,by omega,za (kN c j.out b.out),by go_num⟩
    case measure=>simp[intOf];omega
   go_wp2;go_round
   case rel=>exact⟨k+1,by omega,za (kN c j.out b.out),by go_num⟩
   case measure=>simp[intOf];omega
  by_cases p:1<=s.size
  ·by_cases q:s.size<=12
   ·have l:decide ((s.size:Int)<=12)=true:=zH (by omega);go_wp2;go_ret;exact⟨aT (JV c p q j.out),rfl⟩
   have l:decide ((s.size:Int)<=12)=false:=zz (by omega);go_wp2;go_ret;exact⟨aT (po (by omega)),rfl⟩
  go_wp2;go_ret;exact⟨aT (po (by omega)),rfl⟩
theorem LU (l:List UInt8):qN (l++ [0])=qN l:=by simp[qN]
theorem LV (l:List UInt8)(b:UInt8)(h:b≠0):qN (l++ [b])=l++ [b]:=by simp[qN,h]
theorem ER (y:ByteArray)(k:Nat)(h:y.size=k+1):y.data.toList=(y.extract 0 k).data.toList++ [y[k]]:=by
 rw[aq,zQ,<-ja y k (by omega),<-h,dh]
theorem LW {s y:ByteArray}{k:Nat}(h:y.size=k+1)(b:cR y=cR s)(c:(y[k].toNat:Int)=0):cR (y.extract 0 k)=cR s:=by
 rw[<-b];unfold cR;rw[ER y k h];have:y[k]=0:=by
  apply zW.1;have:y[k].toNat=0:=by omega
  simpa using this
 rw[this,LU]
theorem LY {s y:ByteArray}{k:Nat}(h:y.size=k+1)(c:cR y=cR s)(b:(y[k].toNat:Int)≠0):y=cR s:=by
 rw[<-c];unfold cR;have d:=ER y k h;have i:y[k]≠0:=by
  intro e;apply b;rw[e];rfl
 apply aL;rw[d,LV _ _ i]
theorem OR {s y:ByteArray}(h:y.size=0)(b:cR y=cR s):y=cR s:=by
 rw[<-b];have:y.data.toList= []:=zw (by simpa using h);apply aL;unfold cR;rw[this];rfl
theorem Hw (s:ByteArray)(w:World)(j:s.size<=9223372036854775807):
 Calls prog 191 #[.string s,.int .u8 0] w fun e w'=>e= .returned (.string (cR s))/\w=w':=by
 go_enter func191,ntmps191
 go_wp2;go_loop [0] (fun x=>∃(y:ByteArray),Hid (cR y=cR s)/\y.size<=9223372036854775807/\x= .string y) (fun x=>strOf x)
 case atStart=>exact⟨s,za rfl,j,rfl⟩
 case round=>
  obtain⟨y,b,hz,rfl⟩:=hrel;rcases Zv y.size with h0|h0
  ·have i:=za h0;have m:y.size<=0:=by omega
   clear h0;go_wp2;go_ret;exact⟨nt (OR i.out b.out).symm,rfl⟩
  obtain⟨k,c⟩:∃k,y.size=k+1:=⟨y.size-1,by omega⟩
  have d:=za c;have n:k<y.size:=by omega
  have l:(y.size:Int)-1=k:=by omega
  rcases xk ((y[k].toNat:Int)==0)with h|h
  ·clear c;go_wp2;go_round
   case rel=>exact⟨y.extract 0 k,za (LW d.out b.out (by simpa using h)),by rw[an _ _ _ (by omega)];omega,rfl⟩
   case measure=>simp[an];omega
  clear c;go_wp2;go_ret;exact⟨nt (LY d.out b.out (by simpa using h)).symm,rfl⟩
theorem OS :(prog.info? 5).map (·.size)=some 1:=by kernel_rfl
def z12 :Array Value:= #[.int .u8 0,.int .u8 0,.int .u8 0,.int .u8 0,.int .u8 0,.int .u8 0,.int .u8 0,.int .u8 0,.int .u8 0,.int .u8 0,.int .u8 0,.int .u8 0]
theorem OT :z12.toList=cb (List.replicate 12 0):=rfl
theorem VU (w:World)(ty t:TypeId)(s:ByteArray)(b:s.size<=12):
 (Builtin.copy_ #[31,9] ty #[.slice (some ⟨w.heap.size,0,none⟩) 12 12,.string s]).run prog (w.alloc (.cells z12 t))= .ok (goInt s.size) (w.alloc (.cells (cb (eK s).data.toList).toArray t)):=by
 have h:=Lib.run_copy_row_string (P:=prog) (w.alloc (.cells z12 t)) 31 9 ty 5 w.heap.size 0 12 12 s z12 t zx OS (yW w _) b (by simpa[z12]using b);rw[h,World.setRow_alloc_new];have e:(z12.toList.take 0++Lib.byteCells s.data.toList++z12.toList.drop (0+s.size))=cb (eK s).data.toList:=by
  rw[lg,fV,OT,yB,yE,zT,<-So,List.drop_replicate];rfl
 rw[e]
theorem VV (w:World)(t:TypeId)(s:ByteArray)(b:s.size<=12):
 (convert 31 9 (.slice (some ⟨w.heap.size,0,none⟩) 12 12)).run prog (w.alloc (.cells (cb (eK s).data.toList).toArray t))= .ok (.string (eK s)) (w.alloc (.cells (cb (eK s).data.toList).toArray t)):=by
 have c:(eK s).data.toList.length=12:=by rw[aa];exact gR s b
 have:=Cp (P:=prog) (w.alloc (.cells (cb (eK s).data.toList).toArray t)) 31 9 5 zx yC zO ⟨w.heap.size,0,none⟩ 12 (eK s).data.toList (fun j u hu=>ZS (yW w (.cells (cb (eK s).data.toList).toArray t)) j u (by simpa using hu));rw[c,ig]at this;exact this
theorem LZ (s:ByteArray)(w:World)(c:s.size<=9223372036854775807)(b:b8 s=false):
 Calls prog 103 #[.string s] w fun e w'=>e= .returned (.tuple #[.string ByteArray.empty,.int .i64 11])/\w=w':=by
 have H:=pL s w c;rw[b]at H;have d:=za H;clear H b;go_enter func103,ntmps103
 go_wp2_with fail
 refine d.out.mono ?_;rintro e w' ⟨rfl,rfl⟩;go_wp2;go_ret2
 exact⟨rfl,rfl⟩
theorem ES (s:ByteArray)(w:World)(b:b8 s=true):
 Calls prog 103 #[.string s] w fun e w'=>e= .returned (.tuple #[.string (eK s),.int .i64 0])/\Below w.heap.size w w':=by
 have hz:=dW b;have H:=pL s w (by omega);rw[b]at H;have h:=za H;clear H b;have k1:=fun(ty t:TypeId)=>VU w ty t s hz.2
 have k2:=fun(t:TypeId)=>VV w t s hz.2
 have c:=fun t=>(zq w.heap.size w).alloc (zf _) (.cells (cb (eK s).data.toList).toArray t)
 have d:=za c;clear c;simp only[z12]at k1;go_enter func103,ntmps103
 go_wp2_with fail
 refine h.out.mono ?_;rintro e w' ⟨rfl,rfl⟩;go_wp2;go_ret2
 exact⟨rfl,d.out _⟩
theorem ss (s:ByteArray)(w:World)(c:s.size<=9223372036854775807):
 Calls prog 154 #[.string s,.string ⟨#[0]⟩] w fun e w'=>e= .returned (.string (cR s))/\w=w':=by
 rcases fJ s with⟨b,rfl⟩|⟨b,d,h⟩
 ·clear b;go_enter func154,ntmps154
  go_wp2_with fail
  go_ret;exact⟨rfl,rfl⟩
 clear b;go_enter func154,ntmps154
 go_wp2_with fail
 refine(Hw s w c).mono ?_;rintro e w' ⟨rfl,rfl⟩;go_wp2;go_ret;exact⟨rfl,rfl⟩
theorem OU (s:ByteArray):(cR s).size<=s.size:=by
 obtain⟨n,b⟩:=Ba s.data.toList;have:=xC List.length b;rw[cR,bH];simp only[zp,aa]at this;omega
theorem OV (s:ByteArray)(w:World)(d:s.size<=9223372036854775807):
 Calls prog 112 #[.string s] w fun e w'=>e= .returned (.tuple #[.string (cS s).2,.int .i64 (cS s).1])/\w=w':=by
 have hz:=OU s;by_cases b:s.size=12
 ·have j:((s.size:Int) !=12)=false:=by simp[b]
  have i:=za (pL (cR s) w (by omega));have c:=za (show cS s=if b8 (cR s)=true then(0,cR s)else(3,ByteArray.empty)by unfold cS;simp[b]);clear b hz;rcases xk (b8 (cR s))with h|h;all_goals
   rw[h]at i c;go_enter func112,ntmps112
   go_wp2_with fail
   refine(ss s w d).mono ?_;rintro e w' ⟨rfl,rfl⟩;go_wp2_with fail
   refine i.out.mono ?_;rintro e w' ⟨rfl,rfl⟩;go_wp2;go_ret2
   exact⟨by rw[c.out];rfl,rfl⟩
 have j:((s.size:Int) !=12)=true:=yQ.2 (by omega);have c:=za (D8 s b);clear b hz;go_enter func112,ntmps112
 go_wp2_with fail
 refine(ss s w d).mono ?_;rintro e w' ⟨rfl,rfl⟩;go_wp2;go_ret2
 exact⟨by rw[c.out];rfl,rfl⟩
theorem oK :(prog.info? 5).map (fun i=>(i.zero,i.size,i.bytes))=some (some (.int .u8 0),1,1):=by kernel_rfl
def VW (n sz:Nat)(w:World)(i:Value)(wr:World):Prop:=
 ∃k:Nat,k<=sz/\i= .int .i64 k/\bJ wr w.heap.size 5 (.slice (some ⟨w.heap.size,0,none⟩) sz sz) (je n k++List.replicate (sz-k) 0)/\Kept 5 w.heap.size w wr
theorem ET (n sz:Nat)(w:World)(D:n<18446744073709551616)(A:sz<=8):
 Calls prog 152 #[.int .u64 n,.int .i64 sz] w fun e w'=>e= .returned (.slice (some ⟨w.heap.size,0,none⟩) sz sz)/\bJ w' w.heap.size 5 (.slice (some ⟨w.heap.size,0,none⟩) sz sz) (je n sz)/\Kept 5 w.heap.size w w':=by
 obtain⟨i0,hi,r,x,s⟩:=yT oK;go_enter func152,ntmps152
 go_wp2_with (at_make;refine wpList_make_full _ rfl _ _ 31 rfl w.heap.size 5 i0 (.int .u8 0) 1 zx hi r x .i64 .i64 _ _ sz rfl rfl (by omega) (by omega) (by rw[s];omega) (by simp only[maxLen];omega) (by omega) ?_;intro h c j)
 have o:bJ h w.heap.size 5 (.slice (some ⟨w.heap.size,0,none⟩) sz sz) (List.replicate sz 0):=by
  rw[ug]at c;have:=bJ.own (l:=List.replicate sz 0) (by simpa using c);simpa using this
 have q:Kept 5 w.heap.size w h:=Kept.Jx j (zf _);clear c j;go_loopw [10] (fun i wr=>VW n sz w i wr) (fun i _=>sz-(intOf i).toNat)
 case atStart=>exact⟨0,by omega,rfl,by simpa[je]using o,q⟩
 case round=>
  obtain⟨k,C,rfl,b,d⟩:=hrel;clear o q;by_cases z:k<sz
  ·have u:(je n k++List.replicate (sz-k) (0:UInt8)).length=sz:=by rw[zp,bc,xG];omega
   obtain⟨B,f1,g1,g2⟩:=b.at_ (k:=k) (by omega);have m:=za (b.set (k:=k) (by omega) (ub (n/2^(8*k)%256:Nat)));rw[Oe z]at m;obtain⟨F,E,p,_⟩:=b.block;have y:=za (fun v=>d.store (k:=k) p (zf _) v);clear u p b d;go_wp2;go_roundw
   case rel=>
    rw[Su];exact⟨k+1,by omega,by go_num,m.out,y.out _⟩
   case measure=>simp[intOf];omega
  go_wp2;go_ret;obtain rfl:sz=k:=by omega
  exact⟨rfl,by simpa using b,d⟩
theorem SO (n sz:Nat)(w:World)(b:n<2^(8*sz))(c:1<=sz)(d:sz<=8):
 Calls prog 151 #[.int .u64 n,.int .i64 sz] w fun e w'=>e= .returned (.int .i64 0)/\w=w':=by
 have h:(n:Int)/2^(8*sz)=0:=by
  have:((n/2^(8*sz):Nat):Int)=0:=by rw[Nat.div_eq_of_lt b];rfl
  simpa using this
 clear b;go_enter func151,ntmps151
 go_wp2;go_ret;exact⟨rfl,rfl⟩
theorem EU {a:Int}{b c:Nat}(h:a=(b:Int))(d:b=c):Ending.returned (.tuple #[.int .u64 a,.int .i64 0])= .returned (.tuple #[.int .u64 c,.int .i64 0]):=by
 subst h;subst d;rfl
def rv (l:List UInt8):Nat->List UInt8
 |0=>l
 |k+1=>((rv l k).set k ((rv l k).getD (l.length-1-k) 0)).set (l.length-1-k) ((rv l k).getD k 0)
theorem ra (l:List UInt8)(k:Nat):(rv l k).length=l.length:=by
 induction k with
 |zero=>rfl
 |succ k ih=>simp[rv,ih]
theorem aa5 (l:List UInt8)(k:Nat):2*k<=l.length+1->∀j,j<l.length->(rv l k)[j]?=if j<k\/l.length-k<=j then l[l.length-1-j]? else l[j]?:=by
 induction k with
 |zero=>intro _ j b;rw[zj (by omega)];rfl
 |succ k ih=>
  intro o j b;have d:=ih (by omega);have i:=d k (by omega);have n:=d (l.length-1-k) (by omega);have m:=ra l k;simp only[rv,List.getElem?_set,zA,Zu,m];by_cases e:l.length-1-k=j
  ·subst e;rw[zl rfl,zl b,zl (by omega),i];by_cases c:k=l.length-1-k
   ·rw[zj (by omega),<-c,zB (by omega),];simp only[Option.getD_some];rw[show l.length-1-k=k from by omega,zB (by omega)]
   rw[zj (by omega),show l.length-1-(l.length-1-k)=k from by omega,zB (by omega)];rfl
  rw[zj e];by_cases h:k=j
  ·subst h;rw[zl rfl,zl b,zl (by omega),n,zj (by omega),zB (by omega)];rfl
  rw[zj h,d j b];by_cases c:j<k\/l.length-k<=j
  ·rw[zl c,zl (by omega)]
  rw[zj c,zj (by omega)]
theorem VX (l:List UInt8)(k:Nat)(h:l.length<=2*k+1)(d:2*k<=l.length+1):rv l k=l.reverse:=by
 apply List.ext_getElem?;intro j;by_cases b:j<l.length
 ·rw[aa5 l k d j b,List.getElem?_reverse b];by_cases c:j<k\/l.length-k<=j
  ·rw[zl c]
  rw[zj c,show l.length-1-j=j from by omega]
 rw[xh (by rw[ra];omega),xh (by simp;omega)]
theorem L3 (base g cap:Nat)(l:List UInt8)(w:World)(h:bJ w base 5 (.slice (some ⟨g,0,none⟩) l.length cap) l)(u:l.length<=1099511627776):
 Calls prog 202 #[.slice (some ⟨g,0,none⟩) l.length cap] w fun e w'=>e= .returned (.tuple #[])/\bJ w' base 5 (.slice (some ⟨g,0,none⟩) l.length cap) l.reverse/\Kept 5 base w w':=by
 obtain⟨n,o⟩:∃n,l.length=n:=⟨_,rfl⟩
 rw[o]at h u⊢;have c:=za o;clear o;go_enter func202,ntmps202
 go_wp2;go_loopw [2,3] (fun i j wr=>∃k:Nat,2*k<=n+1/\i= .int .i64 k/\j= .int .i64 ((n:Int)-1-k)/\bJ wr base 5 (.slice (some ⟨g,0,none⟩) n cap) (rv l k)/\Kept 5 base w wr) (fun i _ _=>n-(intOf i).toNat)
 case atStart=>exact⟨0,by omega,rfl,by go_num,h,Kept.refl _ _ _⟩
 case round=>
  obtain⟨k,F,rfl,rfl,b,m⟩:=hrel;clear h;by_cases J:2*k+1<n
  ·have z:(rv l k).length=n:=by rw[ra,c.out]
   obtain⟨d,hd⟩:∃d:Nat,n-1-k=d:=⟨_,rfl⟩
   have s:(n:Int)-1-k=d:=by omega
   obtain⟨E,f1,g1,g2⟩:=b.at_ (k:=k) (by omega);obtain⟨I,f2,_,_⟩:=b.at_ (k:=d) (by omega);have q:=za ((b.set (k:=k) (by omega) ((rv l k).getD d 0)).set (k:=d) (by rw[Zu];omega) ((rv l k).getD k 0));obtain⟨H,G,p,r⟩:=b.block;have B:=za (((m.store (k:=k) p r (.int .u8 ((rv l k).getD d 0).toNat))).store (k:=d) (iR _ p) r (.int .u8 ((rv l k).getD k 0).toNat));have A:Hid (((rv l k).set k ((rv l k).getD d 0)).set d ((rv l k).getD k 0)=rv l (k+1)):=za (by simp only[rv];rw[c.out,hd]);rw[A.out]at q;have K:(⟨g,d,none⟩:Addr)≠⟨g,k,none⟩:=fun e=>by have:=xC Addr.off e;simp at this;omega
   rw[s];generalize ((rv l k).getD d 0).toNat=y at*;generalize ((rv l k).getD k 0).toNat=x at*;have D:k<d:=by omega
   have C:d<n:=by omega
   clear p b m z hd;go_wp2;go_region
   all_goals
    go_wp2;go_roundw
    case rel=>exact⟨k+1,by omega,by go_num,by go_num,q.out.drew,B.out.drew⟩
    case measure=>simp[intOf];omega
  have e:rv l k=l.reverse:=VX l k (by rw[c.out];omega) (by rw[c.out];omega);rw[e]at b;go_wp2;go_end0
  exact⟨rfl,b,m⟩
theorem L5 (base g cap:Nat)(l:List UInt8)(w:World)(d:bJ w base 5 (.slice (some ⟨g,0,none⟩) l.length cap) l)(j:l.length<=1099511627776):
 Calls prog 176 #[.slice (some ⟨g,0,none⟩) l.length cap] w fun e w'=>e= .returned (.string ⟨l.reverse.toArray⟩)/\Kept 5 base w w':=by
 have i:=za (L3 base g cap l w d j);clear d;go_enter func176,ntmps176
 go_wp2_with fail
 refine i.out.mono ?_;rintro e o ⟨rfl,c,h⟩;have m:=c.Ef (P:=prog) zx yC zO;have k:=za h;clear c h;obtain⟨X,b⟩:∃X,Hid ((⟨l.reverse.toArray⟩:ByteArray)=X):=⟨_,za rfl⟩
 rw[b.out]at m;generalize l.length=n at*;go_wp2;go_ret;exact⟨by rw[b.out];rfl,k.out⟩
