/- slices.Clone at items, item.List, item.Text. -/
import Derived.WalkSpells
import Derived.Test.YtpjgigllldipiaaGreatDoorKA6
import Derived.Lib.BufferWrite
import Derived.Deep.WholeRow
set_option linter.all false
set_option maxRecDepth 100000
set_option maxHeartbeats 1000000
namespace Go.Proofs.YtpjgigllldipiaaGreatDoor
open Go.RowKit
def zp:=@bodyPost_ret
def zT:=@Tryz.underlying9
def yB:=@Tryz.underlying5
def yP:=@bne_iff_ne
def xm:=@wpList_append_lies
def Zy:=@Tryz.underlying43
theorem BO :(Tryz.prog.info? 28).map (fun i=>(i.zero,i.size,i.bytes))=some (some (.agg #[.string ⟨#[]⟩,.bool false,.slice none 0 0]),3,48):=by kernel_rfl
theorem oM (s:ByteArray)(w:World):
 Calls Tryz.prog 164 #[.string s] w fun e w'=>e= .returned (.agg #[.string s,.bool false,.slice none 0 0])/\Below w.heap.size w w':=by
 go_enter Tryz.func164,Tryz.ntmps164
 go_wp2;refine zp (v:= .agg #[.string s,.bool false,.slice none 0 0]) (by simp[results,Tryz.results164,go_sem]) rfl ⟨rfl, ?_⟩;exact bM
theorem Ik {w:World}{base cap n:Nat}{A:Option Addr}{c:List Value}{e:TypeId}{k:Nat}(j:w.ownsRow base e k (.slice A n cap) n c):∀g,(Value.slice A n cap).ownBlock=some g->base<=g:=by
 intro g b;rcases j.2 with⟨i,l⟩|⟨h,o,p,d,m,_⟩
 ·rw[i]at b;cases b
 rw[d]at b;have:h=g:=by simpa[Value.ownBlock]using b
 omega
mutual
def fV (w:World)(S:Nat->Prop):It->Value->Value->Value->Prop
 | .mk t l s,c0,c1,c2=>c0= .string t/\c1= .bool l/\t.size<=9223372036854775807/\s.length<=9223372036854775807/\∃A cap,c2= .slice A s.length cap/\s.length<=cap/\cap<=9223372036854775807/\mO w S s A 0
def mO (w:World)(S:Nat->Prop):List It->Option Addr->Nat->Prop
 | [],_,_=>True
 |x::xs,A,i=>(∃b o c0 c1 c2,A=some ⟨b,o,none⟩/\S b/\w.cell? ⟨b,o+i*3,none⟩=some c0/\w.cell? ⟨b,o+i*3+1,none⟩=some c1/\w.cell? ⟨b,o+i*3+2,none⟩=some c2/\fV w S x c0 c1 c2)/\mO w S xs A (i+1)
end
theorem mO.at_ {w:World}{S:Nat->Prop}{A:Option Addr}:∀{s:List It} {i:Nat},mO w S s A i->∀(j:Nat) (h:j<s.length),∃b o e d c,A=some ⟨b,o,none⟩/\S b/\w.cell? ⟨b,o+(i+j)*3,none⟩=some e/\w.cell? ⟨b,o+(i+j)*3+1,none⟩=some d/\w.cell? ⟨b,o+(i+j)*3+2,none⟩=some c/\fV w S s[j] e d c
 | [],_,_,j,h=>by simp at h
 |x::xs,i,hi,0,_=>by simpa[mO]using hi.1
 |x::xs,i,hi,j+1,h=>by
  have:=mO.at_ hi.2 j (by simpa using h);rw[show i+1+j=i+(j+1)from by omega]at this;simpa using this
theorem mO.En {w:World}{S:Nat->Prop}{A:Option Addr}:∀{s:List It} {i:Nat},(∀(j:Nat) (h:j<s.length),∃b o e c d,A=some ⟨b,o,none⟩/\S b/\w.cell? ⟨b,o+(i+j)*3,none⟩=some e/\w.cell? ⟨b,o+(i+j)*3+1,none⟩=some c/\w.cell? ⟨b,o+(i+j)*3+2,none⟩=some d/\fV w S s[j] e c d)->mO w S s A i
 | [],_,_=>by simp[mO]
 |x::xs,i,h=>by
  refine⟨h 0 (ZH _),mO.En fun j k=> ?_⟩;have:=h (j+1) (by simpa using k);rw[show i+(j+1)=i+1+j from by omega]at this;simpa using this
theorem fV.ag {w w':World}{S S':Nat->Prop}(hS:∀k,k<w.heap.size->S k->S' k)(e:∀p:Addr,p.block<w.heap.size->S p.block->w'.cell? p=w.cell? p):∀(x:It) {n m i:Value},fV w S x n m i->fV w' S' x n m i:=by
 intro x;induction x using It.ind with
 |h t l s ih=>
  intro n m i h;obtain⟨H,D,u,y,A,cap,G,F,B,E⟩:=h;refine⟨H,D,u,y,A,cap,G,F,B,mO.En fun j r=> ?_⟩;obtain⟨b,o,d0,d1,d2,z,c,q,C,I,hi⟩:=E.at_ j r;have d:=lt_of_cell q;exact⟨b,o,d0,d1,d2,z,hS _ d c,(e _ d c).trans q,(e _ d c).trans C,(e _ d c).trans I,ih _ (zM r) hi⟩
theorem fV.fW {w:World}{S S':Nat->Prop}{x:It}{d c b:Value}(h:fV w S x d c b)(hS:∀k,k<w.heap.size->S k->S' k):fV w S' x d c b:=fV.ag hS (fun _ _ _=>rfl) x h
theorem fV.only {w w':World}{S S':Nat->Prop}{L:List Nat}{x:It}{b c d:Value}(h:fV w S x b c d)(l:ae L w w')(j:∀k,k∈L->¬S k)(hS:∀k,k<w.heap.size->S k->S' k):fV w' S' x b c d:=
 fV.ag hS (fun p m e=>l.cell m fun i=>j _ i e) x h
theorem fV.below {w w':World}{S:Nat->Prop}{x:It}{c b d:Value}(h:fV w S x c b d)(e:Below w.heap.size w w'):fV w' S x c b d:=fV.ag (fun _ _ h=>h) (fun _ i _=>e.cell i) x h
theorem fV.Aj {w:World}{S:Nat->Prop}:∀(x:It) {d c e:Value},fV w S x d c e->bW w w.heap.size x d c e:=by
 intro x;induction x using It.ind with
 |h t l s ih=>
  intro d c e h;obtain⟨p,B,r,u,A,cap,m,D,y,C⟩:=h;refine⟨p,B,r,u,A,cap,m,D,y,bU.En fun j k=> ?_⟩;obtain⟨b,o,d0,d1,d2,z,E,i,n,q,hi⟩:=C.at_ j k;exact⟨b,o,d0,d1,d2,z,lt_of_cell i,i,n,q,ih _ (zM k) hi⟩
theorem fV.open_ {w:World}{S:Nat->Prop}{x:It}{c b d:Value}(h:fV w S x c b d):∃A cap,c= .string x.text/\b= .bool x.list/\d= .slice A x.sub.length cap/\x.text.size<=9223372036854775807/\x.sub.length<=cap/\cap<=9223372036854775807/\mO w S x.sub A 0:=by
 cases x with
 |mk t l s=>
  obtain⟨i,m,k,p,A,cap,e,o,j,n⟩:=h;exact⟨A,cap,i,m,e,k,o,j,n⟩
theorem fV.text {w:World}{S:Nat->Prop}{t:ByteArray}(l:Bool)(b:t.size<=9223372036854775807):fV w S (.mk t l []) (.string t) (.bool l) (.slice none 0 0):=⟨rfl,rfl,b,by simp,none,0,rfl,by simp,by simp,trivial⟩
def fO (w:World)(S:Nat->Prop):List It->List Value->Prop
 | [],cs=>cs= []
 |x::xs,cs=>∃c0 c1 c2 ds,cs=c0::c1::c2::ds/\fV w S x c0 c1 c2/\fO w S xs ds
theorem fO.ag {w w':World}{S S':Nat->Prop}(hS:∀k,k<w.heap.size->S k->S' k)(c:∀p:Addr,p.block<w.heap.size->S p.block->w'.cell? p=w.cell? p):∀{s:List It} {b:List Value},fO w S s b->fO w' S' s b
 | [],b,h=>h
 |x::xs,b,h=>by
  obtain⟨l,j,m,e,rfl,i,d⟩:=h;exact⟨l,j,m,e,rfl,fV.ag hS c x i,d.ag hS c⟩
theorem fO.snoc {w:World}{S:Nat->Prop}{y:It}{d c e:Value}(i:fV w S y d c e):∀{s:List It} {b:List Value},fO w S s b->fO w S (s++ [y]) (b++ [d,c,e])
 | [],b,h=>by
  have h:b= []:=h;subst h;exact⟨d,c,e,[],rfl,i,rfl⟩
 |x::xs,b,h=>by
  obtain⟨m,k,l,n,rfl,o,j⟩:=h;exact⟨m,k,l,n++ [d,c,e],by simp,o,j.snoc i⟩
theorem mO.eT {w:World}{S:Nat->Prop}{b o:Nat}(d:S b):∀{s:List It} {i:Nat} {c:List Value},fO w S s c->(∀j u,c[j]?=some u->w.cell? ⟨b,o+i*3+j,none⟩=some u)->mO w S s (some ⟨b,o,none⟩) i
 | [],_,_,_,_=>trivial
 |x::xs,i,c,h,hc=>by
  obtain⟨k,e,l,p,rfl,n,m⟩:=h;refine⟨⟨b,o,k,e,l,rfl,d,by simpa using hc 0 k (by simp),hc 1 e (by simp),hc 2 l (by simp),n⟩,mO.eT d m fun j u hu=> ?_⟩;have:=hc (j+3) u (by simpa using hu);rw[show o+(i+1)*3+j=o+i*3+(j+3)from by omega];exact this
def Acc (w:World)(lo:Nat)(acc:List It)(v:Value):Prop:=∃cs,w.ownsRow lo 28 3 v acc.length cs/\fO w (fun k=>lo<=k/\v.ownBlock≠some k) acc cs
theorem Acc.nil (w:World)(b:Nat):Acc w b [] (.slice none 0 0):=⟨[],⟨by simp,.inl ⟨rfl,rfl⟩⟩,rfl⟩
theorem Acc.form {w:World}{d:Nat}{acc:List It}{v:Value}(h:Acc w d acc v):∃A cap,v= .slice A acc.length cap/\acc.length<=cap/\cap<=9223372036854775807:=by
 obtain⟨m,k,l⟩:=h;rcases k.2 with⟨c,e⟩|⟨g,cap,n,j,_,_,b,i,_⟩
 ·exact⟨none,0,by rw[c,e],by omega,by simp⟩
 exact⟨_,cap,j,b,by simpa[maxLen]using i⟩
theorem Acc.df {w:World}{e:Nat}{acc:List It}{v:Value}(h:Acc w e acc v):∃A n cap,v= .slice A n cap/\Hid (n=acc.length)/\n<=cap/\cap<=9223372036854775807:=by
 obtain⟨A,cap,d,c,b⟩:=h.form;exact⟨A,_,cap,d,za rfl,c,b⟩
theorem Acc.ge {w:World}{c:Nat}{acc:List It}{v:Value}(h:Acc w c acc v):∀g,v.ownBlock=some g->c<=g/\g<w.heap.size:=by
 obtain⟨o,k,m⟩:=h;intro g b;rcases k.2 with⟨d,n⟩|⟨j,cap,p,i,e,l,_⟩
 ·rw[d]at b;cases b
 rw[i]at b;have:j=g:=by simpa[Value.ownBlock]using b
 subst this;exact⟨e,y7 l⟩
theorem af.grown {w w':World}{g:Nat}{t:TypeId}{b:Array Value}{row:Option Nat}(h:af w g t b)(c:w.grownBy w' row)(d:row≠some g):af w' g t b:=(c.block g h.lt (fun e=>d e.symm)).trans h
theorem Acc.ag {w w':World}{b:Nat}{acc:List It}{v:Value}(h:Acc w b acc v)(d:∀k,b<=k->k<w.heap.size->w'.heap[k]?=w.heap[k]?):Acc w' b acc v:=by
 obtain⟨i,c,e⟩:=h;refine⟨i,⟨c.1, ?_⟩,e.ag (fun _ _ h=>h) fun p l j=>zK (d _ j.1 l)⟩;rcases c.2 with h3|⟨g,cap,cur,hv,hg,hh,r⟩
 ·exact .inl h3
 exact .inr ⟨g,cap,cur,hv,hg,(d g hg (y7 hh)).trans hh,r⟩
theorem Acc.only {w w':World}{b:Nat}{acc:List It}{v:Value}{L:List Nat}(h:Acc w b acc v)(i:ae L w w')(e:∀g,g∈L->g<b):Acc w' b acc v:=
 h.ag fun k j c=>i.block k c fun d=>by have:=e k d;omega
theorem Acc.below {w w':World}{b:Nat}{acc:List It}{v:Value}(h:Acc w b acc v)(d:Below w.heap.size w w'):Acc w' b acc v:=h.ag fun k _ c=>d.block k c
theorem Acc.list {w:World}{c:Nat}{acc:List It}{v:Value}(h:Acc w c acc v)(o:acc.length<=9223372036854775807):fV w (c<= ·) (.mk ⟨#[]⟩ true acc) (.string ⟨#[]⟩) (.bool true) v:=by
 obtain⟨A,cap,rfl,m,i⟩:=h.form;obtain⟨p,d,e⟩:=h;refine⟨rfl,rfl,yo _,o,A,cap,rfl,m,i, ?_⟩;rcases d.2 with⟨b,k⟩|⟨g,q,r,l,n,s,_⟩
 ·obtain rfl:acc= []:=zt k;trivial
 injection l with hA _ hc;subst hA;subst hc;refine mO.eT n (e.ag (fun _ _ h=>h.1) (fun _ _ _=>rfl)) fun j u hu=> ?_
 have:=d.cells rfl j u hu;have b:(⟨g,0,none⟩:Addr).add j=⟨g,j,none⟩:=by unfold Addr.add;split<;>simp_all
 rw[b]at this;simpa using this
theorem afB {w:World}{S:Nat->Prop}{y:It}{d c b:Value}(h:fV w S y d c b):∀u∈ [d,c,b],u.oneCell'=true:=by
 obtain⟨A,cap,rfl,rfl,rfl,_⟩:=h.open_;intro u hu;simp at hu;rcases hu with rfl|rfl|rfl<;>rfl
def oN (w:World)(S:Nat->Prop)(m:Ms)(c0 c1 c2 c3:Value):Prop:=c0= .string m.name/\m.name.size<=9223372036854775807/\fV w S m.x c1 c2 c3
theorem oN.ag {w w':World}{S S':Nat->Prop}(hS:∀k,k<w.heap.size->S k->S' k)(i:∀p:Addr,p.block<w.heap.size->S p.block->w'.cell? p=w.cell? p)(m:Ms){c b d e:Value}(h:oN w S m c b d e):oN w' S' m c b d e:=⟨h.1,h.2.1,fV.ag hS i _ h.2.2⟩
theorem oN.below {w w':World}{S:Nat->Prop}{m:Ms}{c b d e:Value}(h:oN w S m c b d e)(i:Below w.heap.size w w'):oN w' S m c b d e:=oN.ag (fun _ _ h=>h) (fun _ j _=>i.cell j) m h
theorem oN.fW {w:World}{S S':Nat->Prop}{m:Ms}{e c b d:Value}(h:oN w S m e c b d)(hS:∀k,k<w.heap.size->S k->S' k):oN w S' m e c b d:=oN.ag hS (fun _ _ _=>rfl) m h
theorem oN.only {w w':World}{S S':Nat->Prop}{L:List Nat}{m:Ms}{b c d e:Value}(h:oN w S m b c d e)(n:ae L w w')(l:∀k,k∈L->¬S k)(hS:∀k,k<w.heap.size->S k->S' k):oN w' S' m b c d e:=
 oN.ag hS (fun p o i=>n.cell o fun j=>l _ j i) m h
theorem oN.open_ {w:World}{S:Nat->Prop}{m:Ms}{c b d e:Value}(h:oN w S m c b d e):∃A cap,c= .string m.name/\b= .string m.x.text/\d= .bool m.x.list/\e= .slice A m.x.sub.length cap/\m.name.size<=9223372036854775807/\m.x.text.size<=9223372036854775807/\m.x.sub.length<=cap/\cap<=9223372036854775807:=by
 obtain⟨k,j,hi⟩:=h;obtain⟨A,cap,o,i,p,l,q,n,_⟩:=hi.open_;exact⟨A,cap,k,o,i,p,j,l,q,n⟩
theorem E3 :(Tryz.prog.info? 30).map (fun i=>(i.zero,i.size,i.bytes))=some (some (.agg #[.string ⟨#[]⟩,.string ⟨#[]⟩,.bool false,.slice none 0 0]),4,64):=by kernel_rfl
def rk (w:World)(S:Nat->Prop):List Ms->Option Addr->Nat->Prop
 | [],_,_=>True
 |x::xs,A,i=>(∃b o c0 c1 c2 c3,A=some ⟨b,o,none⟩/\S b/\w.cell? ⟨b,o+i*4,none⟩=some c0/\w.cell? ⟨b,o+i*4+1,none⟩=some c1/\w.cell? ⟨b,o+i*4+2,none⟩=some c2/\w.cell? ⟨b,o+i*4+3,none⟩=some c3/\oN w S x c0 c1 c2 c3)/\rk w S xs A (i+1)
theorem rk.at_ {w:World}{S:Nat->Prop}{A:Option Addr}:∀{s:List Ms} {i:Nat},rk w S s A i->∀(j:Nat) (h:j<s.length),∃b o k d c e,A=some ⟨b,o,none⟩/\S b/\w.cell? ⟨b,o+(i+j)*4,none⟩=some k/\w.cell? ⟨b,o+(i+j)*4+1,none⟩=some d/\w.cell? ⟨b,o+(i+j)*4+2,none⟩=some c/\w.cell? ⟨b,o+(i+j)*4+3,none⟩=some e/\oN w S s[j] k d c e
 | [],_,_,j,h=>by simp at h
 |x::xs,i,hi,0,_=>by simpa[rk]using hi.1
 |x::xs,i,hi,j+1,h=>by
  have:=rk.at_ hi.2 j (by simpa using h);rw[show i+1+j=i+(j+1)from by omega]at this;simpa using this
theorem rk.ag {w w':World}{S S':Nat->Prop}(hS:∀k,k<w.heap.size->S k->S' k)(c:∀p:Addr,p.block<w.heap.size->S p.block->w'.cell? p=w.cell? p){A:Option Addr}:∀{s:List Ms} {i:Nat},rk w S s A i->rk w' S' s A i
 | [],_,_=>trivial
 |x::xs,i,h=>by
  obtain⟨⟨b,o,y,u,z,B,q,d,j,m,n,r,hi⟩,l⟩:=h;have e:=lt_of_cell j;exact⟨⟨b,o,y,u,z,B,q,hS _ e d,(c _ e d).trans j,(c _ e d).trans m,(c _ e d).trans n,(c _ e d).trans r,hi.ag hS c⟩,l.ag hS c⟩
def fD (w:World)(S:Nat->Prop):List Ms->List Value->Prop
 | [],cs=>cs= []
 |x::xs,cs=>∃c0 c1 c2 c3 ds,cs=c0::c1::c2::c3::ds/\oN w S x c0 c1 c2 c3/\fD w S xs ds
theorem fD.ag {w w':World}{S S':Nat->Prop}(hS:∀k,k<w.heap.size->S k->S' k)(c:∀p:Addr,p.block<w.heap.size->S p.block->w'.cell? p=w.cell? p):∀{s:List Ms} {b:List Value},fD w S s b->fD w' S' s b
 | [],b,h=>h
 |x::xs,b,h=>by
  obtain⟨l,j,m,n,e,rfl,i,d⟩:=h;exact⟨l,j,m,n,e,rfl,oN.ag hS c x i,d.ag hS c⟩
theorem fD.snoc {w:World}{S:Nat->Prop}{y:Ms}{d c e i:Value}(j:oN w S y d c e i):∀{s:List Ms} {b:List Value},fD w S s b->fD w S (s++ [y]) (b++ [d,c,e,i])
 | [],b,h=>by
  have h:b= []:=h;subst h;exact⟨d,c,e,i,[],rfl,j,rfl⟩
 |x::xs,b,h=>by
  obtain⟨n,l,m,p,o,rfl,q,k⟩:=h;exact⟨n,l,m,p,o++ [d,c,e,i],by simp,q,k.snoc j⟩
theorem rk.eT {w:World}{S:Nat->Prop}{b o:Nat}(d:S b):∀{s:List Ms} {i:Nat} {c:List Value},fD w S s c->(∀j u,c[j]?=some u->w.cell? ⟨b,o+i*4+j,none⟩=some u)->rk w S s (some ⟨b,o,none⟩) i
 | [],_,_,_,_=>trivial
 |x::xs,i,c,h,hc=>by
  obtain⟨k,e,l,m,q,rfl,p,n⟩:=h;refine⟨⟨b,o,k,e,l,m,rfl,d,by simpa using hc 0 k (by simp),hc 1 e (by simp),hc 2 l (by simp),hc 3 m (by simp),p⟩,rk.eT d n fun j u hu=> ?_⟩;have:=hc (j+4) u (by simpa using hu);rw[show o+(i+1)*4+j=o+i*4+(j+4)from by omega];exact this
def cP (w:World)(S0:Nat->Prop)(lo:Nat)(acc:List Ms)(v:Value):Prop:=∃cs,w.ownsRow lo 30 4 v acc.length cs/\fD w (fun k=>S0 k/\v.ownBlock≠some k) acc cs
abbrev CJ (w:World)(lo:Nat)(acc:List Ms)(v:Value):Prop:=cP w (lo<= ·) lo acc v
theorem cP.nil (w:World)(b:Nat->Prop)(c:Nat):cP w b c [] (.slice none 0 0):=⟨[],⟨by simp,.inl ⟨rfl,rfl⟩⟩,rfl⟩
theorem CJ.nil (w:World)(b:Nat):CJ w b [] (.slice none 0 0):=cP.nil _ _ _
theorem cP.form {w:World}{i:Nat->Prop}{d:Nat}{acc:List Ms}{v:Value}(h:cP w i d acc v):∃A cap,v= .slice A acc.length cap/\acc.length<=cap/\cap<=9223372036854775807:=by
 obtain⟨n,l,m⟩:=h;rcases l.2 with⟨c,e⟩|⟨g,cap,o,k,_,_,b,j,_⟩
 ·exact⟨none,0,by rw[c,e],by omega,by simp⟩
 exact⟨_,cap,k,b,by simpa[maxLen]using j⟩
theorem cP.df {w:World}{d:Nat->Prop}{c:Nat}{acc:List Ms}{v:Value}(h:cP w d c acc v):∃A n cap,v= .slice A n cap/\Hid (n=acc.length)/\n<=cap/\cap<=9223372036854775807:=by
 obtain⟨A,cap,e,b,i⟩:=h.form;exact⟨A,_,cap,e,za rfl,b,i⟩
theorem cP.ge {w:World}{e:Nat->Prop}{c:Nat}{acc:List Ms}{v:Value}(h:cP w e c acc v):∀g,v.ownBlock=some g->c<=g/\g<w.heap.size:=by
 obtain⟨p,l,n⟩:=h;intro g b;rcases l.2 with⟨d,o⟩|⟨k,cap,q,j,i,m,_⟩
 ·rw[d]at b;cases b
 rw[j]at b;have:k=g:=by simpa[Value.ownBlock]using b
 subst this;exact⟨i,y7 m⟩
theorem cP.typed {w:World}{l:Nat->Prop}{e:Nat}{acc:List Ms}{v:Value}(h:cP w l e acc v):∀k,v.ownBlock=some k->e<=k/\k<w.heap.size/\∃d,af w k 30 d:=by
 obtain⟨p,n,o⟩:=h;intro k b;rcases n.2 with⟨c,_⟩|⟨m,q,d,c,j,i,_⟩
 ·rw[c]at b;cases b
 rw[c]at b;have:m=k:=by simpa[Value.ownBlock]using b
 subst this;exact⟨j,y7 i,d,i⟩
theorem cP.ag {w w':World}{b:Nat->Prop}{c:Nat}{acc:List Ms}{v:Value}(h:cP w b c acc v)(e:∀k,k<w.heap.size->b k\/v.ownBlock=some k->w'.heap[k]?=w.heap[k]?):cP w' b c acc v:=by
 obtain⟨j,d,i⟩:=h;refine⟨j,⟨d.1, ?_⟩,i.ag (fun _ _ h=>h) fun p m l=>zK (e _ m (.inl l.1))⟩;rcases d.2 with h3|⟨g,cap,cur,hv,hg,hh,r⟩
 ·exact .inl h3
 exact .inr ⟨g,cap,cur,hv,hg,(e g (y7 hh) (.inr (by rw[hv];rfl))).trans hh,r⟩
theorem cP.only {w w':World}{c:Nat->Prop}{d:Nat}{acc:List Ms}{v:Value}{L:List Nat}(h:cP w c d acc v)(l:ae L w w')(j:∀g,g∈L->¬c g)(i:∀g,g∈L->v.ownBlock≠some g):cP w' c d acc v:=
 h.ag fun k m b=>l.block k m fun e=>by
  rcases b with b|b
  ·exact j k e b
  exact i k e b
theorem cP.below {w w':World}{b:Nat->Prop}{c:Nat}{acc:List Ms}{v:Value}(h:cP w b c acc v)(e:Below w.heap.size w w'):cP w' b c acc v:=h.ag fun k d _=>e.block k d
theorem cP.fW {w:World}{c S1:Nat->Prop}{b lo':Nat}{acc:List Ms}{v:Value}(h:cP w c b acc v)(hS:∀k,k<w.heap.size->c k->S1 k)(j:lo'<=b):cP w S1 lo' acc v:=by
 obtain⟨e,i,d⟩:=h;exact⟨e,i.mono j,d.ag (fun k l h=>⟨hS k l h.1,h.2⟩) fun _ _ _=>rfl⟩
theorem CJ.only {w w':World}{c:Nat}{acc:List Ms}{v:Value}{L:List Nat}(h:CJ w c acc v)(i:ae L w w')(d:∀g,g∈L->g<c):CJ w' c acc v:=
 cP.only h i (fun g b=>by have:=d g b;omega) (fun g b e=>by have:=d g b;have:=(cP.ge h g e).1;omega)
theorem CJ.reads {w:World}{c:Nat}{acc:List Ms}{v:Value}(h:CJ w c acc v):∃A cap,v= .slice A acc.length cap/\acc.length<=cap/\cap<=9223372036854775807/\rk w (c<= ·) acc A 0:=by
 obtain⟨A,cap,rfl,m,i⟩:=cP.form h;obtain⟨o,d,e⟩:=h;refine⟨A,cap,rfl,m,i, ?_⟩;rcases d.2 with⟨b,k⟩|⟨g,p,q,l,n,r,_⟩
 ·obtain rfl:acc= []:=zt k;trivial
 injection l with hA _ hc;subst hA;subst hc;refine rk.eT n (e.ag (fun _ _ h=>h.1) (fun _ _ _=>rfl)) fun j u hu=> ?_
 have:=d.cells rfl j u hu;have b:(⟨g,0,none⟩:Addr).add j=⟨g,j,none⟩:=by unfold Addr.add;split<;>simp_all
 rw[b]at this;simpa using this
theorem UN {w:World}{S:Nat->Prop}{y:Ms}{c b d e:Value}(h:oN w S y c b d e):∀u∈ [c,b,d,e],u.oneCell'=true:=by
 obtain⟨A,cap,rfl,rfl,rfl,rfl,_⟩:=h.open_;intro u hu;simp at hu;rcases hu with rfl|rfl|rfl|rfl<;>rfl
theorem pS {w:World}{ops:Array Oper}{rest:List Oper}{o:Oper}{a:Act}{Q:Exit->Act->World->Prop}(F:o.guard=none)(s x:Operand)
 (O:o.op= .call {callee:= .builtin .append,args:= #[s,x],argTypes:= #[43,43]}) (q:Nat->Prop) (c:Nat) (acc:List Ms) {v:Value} (D:a.eval s=v) (W:cP w q c acc v) (y:Ms) {m l i d:Value}
 (B:oN w (fun k=>q k/\v.ownBlock≠some k) y m l i d) (g:Nat) (hx:a.eval x= .slice (some ⟨g,0,none⟩) 1 1) (E:w.cell? ⟨g,0,none⟩=some m) (X:w.cell? ⟨g,1,none⟩=some l) (G:w.cell? ⟨g,2,none⟩=some i) (M:w.cell? ⟨g,3,none⟩=some d)
 (Y:acc.length<=1000000) (R:c<=w.heap.size)
 (I:∀b n cap w',Hid (n=acc.length+1)->cP w' q c (acc++ [y]) (.slice (some ⟨b,0,none⟩) n cap)->w.grownBy w' v.ownBlock->c<=b->wpList Tryz.prog ops Q rest (a.put o.dst (.slice (some ⟨b,0,none⟩) n cap)) w'):wpList Tryz.prog ops Q (o::rest) a w:=by
 obtain⟨i0,hi,S,H,C⟩:=yQ E3;obtain⟨A,N,U⟩:=W;refine xm w F s x 43 O c 30 i0 _ 4 64 Zy hi S H C rfl (by decide) v acc.length A D N ⟨g,0,none⟩ 1 1 [m,l,i,d] hx rfl ?_ (UN B) (by decide) (by simp only[maxLen];omega) (by omega) R w.heap.size rfl ?_
 ·intro j u hu;have L:∀j,(⟨g,0,none⟩:Addr).add j=⟨g,j,none⟩:=by intro j;unfold Addr.add;split<;>simp_all
  rw[L];match j,hu with
  |0,hu=>simp at hu;subst hu;exact E
  |1,hu=>simp at hu;subst hu;exact X
  |2,hu=>simp at hu;subst hu;exact G
  |3,hu=>simp at hu;subst hu;exact M
 intro b cap w' z r h aD;have K:=Ik z b rfl;refine I b _ cap w' (za rfl) ⟨A++ [m,l,i,d],by rw[zo];exact z, ?_⟩ r K;refine((U.snoc B).ag (fun k Z hS=>⟨hS.1, ?_⟩) fun p J hS=>zK (r.block _ J (fun e=>hS.2 e.symm)));intro e;have e:b=k:=by simpa[Value.ownBlock]using e
 rcases h with h|h
 ·exact hS.2 (by rw[h,e])
 omega
theorem Mi :(Tryz.prog.info? 64).map (fun i=>(i.zero,i.size,i.bytes))=some (some (.agg #[.int .i64 0,.int .i64 0,.slice none 0 0,.int .i64 0]),4,48):=by kernel_rfl
mutual
def fy (w:World)(S:Nat->Prop):Ty->Value->Value->Value->Value->Prop
 | .mk k s l t,c0,c1,c2,c3=>c0= .int .i64 k/\c1= .int .i64 s/\c3= .int .i64 t/\l9 k/\l9 s/\l9 t/\l.length<=9223372036854775807/\∃A cap,c2= .slice A l.length cap/\l.length<=cap/\cap<=9223372036854775807/\nT w S l A 0
def nT (w:World)(S:Nat->Prop):List Ty->Option Addr->Nat->Prop
 | [],_,_=>True
 |x::xs,A,i=>(∃b o c0 c1 c2 c3,A=some ⟨b,o,none⟩/\S b/\w.cell? ⟨b,o+i*4,none⟩=some c0/\w.cell? ⟨b,o+i*4+1,none⟩=some c1/\w.cell? ⟨b,o+i*4+2,none⟩=some c2/\w.cell? ⟨b,o+i*4+3,none⟩=some c3/\fy w S x c0 c1 c2 c3)/\nT w S xs A (i+1)
end
theorem nT.at_ {w:World}{S:Nat->Prop}{A:Option Addr}:∀{s:List Ty} {i:Nat},nT w S s A i->∀(j:Nat) (h:j<s.length),∃b o k d c e,A=some ⟨b,o,none⟩/\S b/\w.cell? ⟨b,o+(i+j)*4,none⟩=some k/\w.cell? ⟨b,o+(i+j)*4+1,none⟩=some d/\w.cell? ⟨b,o+(i+j)*4+2,none⟩=some c/\w.cell? ⟨b,o+(i+j)*4+3,none⟩=some e/\fy w S s[j] k d c e
 | [],_,_,j,h=>by simp at h
 |x::xs,i,hi,0,_=>by simpa[nT]using hi.1
 |x::xs,i,hi,j+1,h=>by
  have:=nT.at_ hi.2 j (by simpa using h);rw[show i+1+j=i+(j+1)from by omega]at this;simpa using this
theorem nT.En {w:World}{S:Nat->Prop}{A:Option Addr}:∀{s:List Ty} {i:Nat},(∀(j:Nat) (h:j<s.length),∃b o d c e k,A=some ⟨b,o,none⟩/\S b/\w.cell? ⟨b,o+(i+j)*4,none⟩=some d/\w.cell? ⟨b,o+(i+j)*4+1,none⟩=some c/\w.cell? ⟨b,o+(i+j)*4+2,none⟩=some e/\w.cell? ⟨b,o+(i+j)*4+3,none⟩=some k/\fy w S s[j] d c e k)->nT w S s A i
 | [],_,_=>by simp[nT]
 |x::xs,i,h=>by
  refine⟨h 0 (ZH _),nT.En fun j l=> ?_⟩;have:=h (j+1) (by simpa using l);rw[show i+(j+1)=i+1+j from by omega]at this;simpa using this
theorem fy.ag {w w':World}{S S':Nat->Prop}(hS:∀k,k<w.heap.size->S k->S' k)(e:∀p:Addr,p.block<w.heap.size->S p.block->w'.cell? p=w.cell? p):∀(x:Ty) {q n m i:Value},fy w S x q n m i->fy w' S' x q n m i:=by
 intro x;induction x using Ty.ind with
 |h k s l t ih=>
  intro q n m i h;obtain⟨J,F,L,k1,k2,D,y,A,cap,I,H,C,G⟩:=h;refine⟨J,F,L,k1,k2,D,y,A,cap,I,H,C,nT.En fun j u=> ?_⟩;obtain⟨b,o,d0,d1,d2,d3,z,c,r,E,K,B,hi⟩:=G.at_ j u;have d:=lt_of_cell r;exact⟨b,o,d0,d1,d2,d3,z,hS _ d c,(e _ d c).trans r,(e _ d c).trans E,(e _ d c).trans K,(e _ d c).trans B,ih _ (zM u) hi⟩
theorem fy.fW {w:World}{S S':Nat->Prop}{x:Ty}{e c b d:Value}(h:fy w S x e c b d)(hS:∀k,k<w.heap.size->S k->S' k):fy w S' x e c b d:=fy.ag hS (fun _ _ _=>rfl) x h
theorem fy.only {w w':World}{S S':Nat->Prop}{L:List Nat}{x:Ty}{b c d e:Value}(h:fy w S x b c d e)(m:ae L w w')(l:∀k,k∈L->¬S k)(hS:∀k,k<w.heap.size->S k->S' k):fy w' S' x b c d e:=
 fy.ag hS (fun p n i=>m.cell n fun j=>l _ j i) x h
theorem fy.below {w w':World}{S:Nat->Prop}{x:Ty}{c b d e:Value}(h:fy w S x c b d e)(i:Below w.heap.size w w'):fy w' S x c b d e:=fy.ag (fun _ _ h=>h) (fun _ j _=>i.cell j) x h
theorem fy.Aj {w:World}{S:Nat->Prop}:∀(x:Ty) {i e d c:Value},fy w S x i e d c->cw w w.heap.size x i e d c:=by
 intro x;induction x using Ty.ind with
 |h k s l t ih=>
  intro i e d c h;obtain⟨F,B,H,k1,k2,y,p,A,cap,E,D,u,C⟩:=h;refine⟨F,B,H,k1,k2,y,p,A,cap,E,D,u,eU.En fun j n=> ?_⟩;obtain⟨b,o,d0,d1,d2,d3,q,I,m,z,G,r,hi⟩:=C.at_ j n;exact⟨b,o,d0,d1,d2,d3,q,lt_of_cell m,m,z,G,r,ih _ (zM n) hi⟩
theorem fy.open_ {w:World}{S:Nat->Prop}{x:Ty}{c b d e:Value}(h:fy w S x c b d e):∃A cap,c= .int .i64 x.kind/\b= .int .i64 x.size/\d= .slice A x.sub.length cap/\e= .int .i64 x.tail/\l9 x.kind/\l9 x.size/\l9 x.tail/\x.sub.length<=cap/\cap<=9223372036854775807/\nT w S x.sub A 0:=by
 cases x with
 |mk k s l t=>
  obtain⟨m,q,u,r,n,o,z,A,cap,j,y,p,i⟩:=h;exact⟨A,cap,m,q,j,u,r,n,o,y,p,i⟩
def jd (w:World)(S:Nat->Prop):List Ty->List Value->Prop
 | [],cs=>cs= []
 |x::xs,cs=>∃c0 c1 c2 c3 ds,cs=c0::c1::c2::c3::ds/\fy w S x c0 c1 c2 c3/\jd w S xs ds
theorem jd.ag {w w':World}{S S':Nat->Prop}(hS:∀k,k<w.heap.size->S k->S' k)(c:∀p:Addr,p.block<w.heap.size->S p.block->w'.cell? p=w.cell? p):∀{s:List Ty} {b:List Value},jd w S s b->jd w' S' s b
 | [],b,h=>h
 |x::xs,b,h=>by
  obtain⟨l,j,m,n,e,rfl,i,d⟩:=h;exact⟨l,j,m,n,e,rfl,fy.ag hS c x i,d.ag hS c⟩
theorem jd.snoc {w:World}{S:Nat->Prop}{y:Ty}{d c e i:Value}(j:fy w S y d c e i):∀{s:List Ty} {b:List Value},jd w S s b->jd w S (s++ [y]) (b++ [d,c,e,i])
 | [],b,h=>by
  have h:b= []:=h;subst h;exact⟨d,c,e,i,[],rfl,j,rfl⟩
 |x::xs,b,h=>by
  obtain⟨n,l,m,p,o,rfl,q,k⟩:=h;exact⟨n,l,m,p,o++ [d,c,e,i],by simp,q,k.snoc j⟩
theorem nT.eT {w:World}{S:Nat->Prop}{b o:Nat}(d:S b):∀{s:List Ty} {i:Nat} {c:List Value},jd w S s c->(∀j u,c[j]?=some u->w.cell? ⟨b,o+i*4+j,none⟩=some u)->nT w S s (some ⟨b,o,none⟩) i
 | [],_,_,_,_=>trivial
 |x::xs,i,c,h,hc=>by
  obtain⟨k,e,l,m,q,rfl,p,n⟩:=h;refine⟨⟨b,o,k,e,l,m,rfl,d,by simpa using hc 0 k (by simp),hc 1 e (by simp),hc 2 l (by simp),hc 3 m (by simp),p⟩,nT.eT d n fun j u hu=> ?_⟩;have:=hc (j+4) u (by simpa using hu);rw[show o+(i+1)*4+j=o+i*4+(j+4)from by omega];exact this
def eJ (w:World)(lo:Nat)(acc:List Ty)(v:Value):Prop:=∃cs,w.ownsRow lo 64 4 v acc.length cs/\jd w (fun k=>lo<=k/\v.ownBlock≠some k) acc cs
theorem eJ.nil (w:World)(b:Nat):eJ w b [] (.slice none 0 0):=⟨[],⟨by simp,.inl ⟨rfl,rfl⟩⟩,rfl⟩
theorem eJ.form {w:World}{d:Nat}{acc:List Ty}{v:Value}(h:eJ w d acc v):∃A cap,v= .slice A acc.length cap/\acc.length<=cap/\cap<=9223372036854775807:=by
 obtain⟨m,k,l⟩:=h;rcases k.2 with⟨c,e⟩|⟨g,cap,n,j,_,_,b,i,_⟩
 ·exact⟨none,0,by rw[c,e],by omega,by simp⟩
 exact⟨_,cap,j,b,by simpa[maxLen]using i⟩
theorem eJ.df {w:World}{e:Nat}{acc:List Ty}{v:Value}(h:eJ w e acc v):∃A n cap,v= .slice A n cap/\Hid (n=acc.length)/\n<=cap/\cap<=9223372036854775807:=by
 obtain⟨A,cap,d,c,b⟩:=h.form;exact⟨A,_,cap,d,za rfl,c,b⟩
theorem eJ.ge {w:World}{c:Nat}{acc:List Ty}{v:Value}(h:eJ w c acc v):∀g,v.ownBlock=some g->c<=g/\g<w.heap.size:=by
 obtain⟨o,k,m⟩:=h;intro g b;rcases k.2 with⟨d,n⟩|⟨j,cap,p,i,e,l,_⟩
 ·rw[d]at b;cases b
 rw[i]at b;have:j=g:=by simpa[Value.ownBlock]using b
 subst this;exact⟨e,y7 l⟩
theorem eJ.ag {w w':World}{b:Nat}{acc:List Ty}{v:Value}(h:eJ w b acc v)(d:∀k,b<=k->k<w.heap.size->w'.heap[k]?=w.heap[k]?):eJ w' b acc v:=by
 obtain⟨i,c,e⟩:=h;refine⟨i,⟨c.1, ?_⟩,e.ag (fun _ _ h=>h) fun p l j=>zK (d _ j.1 l)⟩;rcases c.2 with h3|⟨g,cap,cur,hv,hg,hh,r⟩
 ·exact .inl h3
 exact .inr ⟨g,cap,cur,hv,hg,(d g hg (y7 hh)).trans hh,r⟩
theorem eJ.only {w w':World}{b:Nat}{acc:List Ty}{v:Value}{L:List Nat}(h:eJ w b acc v)(i:ae L w w')(e:∀g,g∈L->g<b):eJ w' b acc v:=
 h.ag fun k j c=>i.block k c fun d=>by have:=e k d;omega
theorem eJ.below {w w':World}{b:Nat}{acc:List Ty}{v:Value}(h:eJ w b acc v)(d:Below w.heap.size w w'):eJ w' b acc v:=h.ag fun k _ c=>d.block k c
theorem eJ.ty {w:World}{c:Nat}{acc:List Ty}{v:Value}(h:eJ w c acc v)(q:acc.length<=9223372036854775807){k z t:Int}(r:l9 k)(hz:l9 z)(m:l9 t):fy w (c<= ·) (.mk k z acc t) (.int .i64 k) (.int .i64 z) v (.int .i64 t):=by
 obtain⟨A,cap,rfl,o,i⟩:=h.form;obtain⟨s,d,e⟩:=h;refine⟨rfl,rfl,rfl,r,hz,m,q,A,cap,rfl,o,i, ?_⟩;rcases d.2 with⟨b,l⟩|⟨g,x,y,n,p,B,_⟩
 ·obtain rfl:acc= []:=zt l;trivial
 injection n with hA _ hc;subst hA;subst hc;refine nT.eT p (e.ag (fun _ _ h=>h.1) (fun _ _ _=>rfl)) fun j u hu=> ?_
 have:=d.cells rfl j u hu;have b:(⟨g,0,none⟩:Addr).add j=⟨g,j,none⟩:=by unfold Addr.add;split<;>simp_all
 rw[b]at this;simpa using this
theorem afC {w:World}{S:Nat->Prop}{y:Ty}{c b d e:Value}(h:fy w S y c b d e):∀u∈ [c,b,d,e],u.oneCell'=true:=by
 obtain⟨A,cap,rfl,rfl,rfl,rfl,_⟩:=h.open_;intro u hu;simp at hu;rcases hu with rfl|rfl|rfl|rfl<;>rfl
theorem cq {w:World}{ops:Array Oper}{rest:List Oper}{o:Oper}{a:Act}{Q:Exit->Act->World->Prop}(E:o.guard=none)(s x:Operand)
 (N:o.op= .call {callee:= .builtin .append,args:= #[s,x],argTypes:= #[62,62]}) (c:Nat) (acc:List Ty) {v:Value} (C:a.eval s=v) (U:eJ w c acc v) (y:Ty) {m l i d:Value}
 (A:fy w (fun k=>c<=k/\v.ownBlock≠some k) y m l i d) (g:Nat) (hx:a.eval x= .slice (some ⟨g,0,none⟩) 1 1) (D:w.cell? ⟨g,0,none⟩=some m) (W:w.cell? ⟨g,1,none⟩=some l) (F:w.cell? ⟨g,2,none⟩=some i) (L:w.cell? ⟨g,3,none⟩=some d)
 (X:acc.length<=1000000) (O:c<=w.heap.size)
 (H:∀b n cap w',Hid (n=acc.length+1)->eJ w' c (acc++ [y]) (.slice (some ⟨b,0,none⟩) n cap)->w.grownBy w' v.ownBlock->c<=b->wpList Tryz.prog ops Q rest (a.put o.dst (.slice (some ⟨b,0,none⟩) n cap)) w'):wpList Tryz.prog ops Q (o::rest) a w:=by
 obtain⟨i0,hi,R,G,B⟩:=yQ Mi;obtain⟨z,M,S⟩:=U;refine xm w E s x 62 N c 64 i0 _ 4 48 Tryz.underlying62 hi R G B rfl (by decide) v acc.length z C M ⟨g,0,none⟩ 1 1 [m,l,i,d] hx rfl ?_ (afC A) (by decide) (by simp only[maxLen];omega) (by omega) O w.heap.size rfl ?_
 ·intro j u hu;have K:∀j,(⟨g,0,none⟩:Addr).add j=⟨g,j,none⟩:=by intro j;unfold Addr.add;split<;>simp_all
  rw[K];match j,hu with
  |0,hu=>simp at hu;subst hu;exact D
  |1,hu=>simp at hu;subst hu;exact W
  |2,hu=>simp at hu;subst hu;exact F
  |3,hu=>simp at hu;subst hu;exact L
 intro b cap w' r q h Z;have J:=Ik r b rfl;refine H b _ cap w' (za rfl) ⟨z++ [m,l,i,d],by rw[zo];exact r, ?_⟩ q J;refine((S.snoc A).ag (fun k Y hS=>⟨hS.1, ?_⟩) fun p I hS=>zK (q.block _ I (fun e=>hS.2 e.symm)));intro e;have e:b=k:=by simpa[Value.ownBlock]using e
 rcases h with h|h
 ·exact hS.2 (by rw[h,e])
 omega
theorem fy.leaf {w:World}{S:Nat->Prop}{k z t:Int}(c:l9 k)(hz:l9 z)(b:l9 t):fy w S (.mk k z [] t) (.int .i64 k) (.int .i64 z) (.slice none 0 0) (.int .i64 t):=⟨rfl,rfl,rfl,c,hz,b,by simp,none,0,rfl,by simp,by simp,trivial⟩
theorem aA {i:Int}(c:0<=i)(b:i<=100000000):l9 i:=by unfold l9;omega
theorem kT {s:ByteArray}{k:Nat}(b:k<s.size)(h:iu (s.data.toList.take k)=true)(c:nY s[k].toNat=true):iu (s.data.toList.take (k+1))=true:=by
 rw[jh s k b,ur,h,c];rfl
theorem mP {s:ByteArray}{k:Nat}(b:k<s.size)(c:nY s[k].toNat=false):bY s=false:=by
 have:iu (s.data.toList.take (k+1))=false:=by rw[jh s k b,ur,c];simp
 rw[bY,Ab _ _ this];rfl
theorem Kh {s:ByteArray}{k:Nat}(d:¬k<s.size)(c:1<=s.size)(b:s.size<=12)(h:iu (s.data.toList.take k)=true):bY s=true:=by
 rw[zC (by simp;omega)]at h;rw[Ow c b,h]
theorem pT (s:ByteArray)(w:World)(x:s.size<=9223372036854775807):
 Calls Tryz.prog 62 #[.string s] w fun e w'=>e= .returned (.bool (bY s))/\w=w':=by
 by_cases p:1<=s.size
 ·by_cases n:s.size<=12
  ·go_enter Tryz.func62,Tryz.ntmps62
   go_wp2;go_loop [15] (fun i=>∃k:Nat,k<=s.size/\Hid (iu (s.data.toList.take k)=true)/\i= .int .i64 k) (fun i=>s.size-(intOf i).toNat)
   case atStart=>exact⟨0,by omega,za (by simp[iu]),rfl⟩
   case round=>
    obtain⟨k,y,j,rfl⟩:=hrel;by_cases d:k<s.size
    ·rcases Bg s[k].toNat s[k].toNat_lt with⟨b,m,q⟩|⟨b,m⟩
     ·have c:=za b;have o:(((s[k].toNat:Nat):Int) !=95)=true:=yP.2 (by omega);clear b q;rcases m with h|⟨h,l⟩|⟨h,l⟩|h;all_goals
       go_wp2;go_ret;exact⟨aV (mP d c.out),rfl⟩
     have c:=za b;clear b;rcases m with⟨h,l⟩|h|⟨h,l⟩
     ·go_wp2;go_round
      case rel=>exact⟨k+1,by omega,za (kT d j.out c.out),by go_num⟩
      case measure=>simp[intOf];omega
     ·have o:(((s[k].toNat:Nat):Int) !=95)=false:=by simp[h]
      have u:94<s[k].toNat:=by omega
      have r:s[k].toNat<96:=by omega
      clear h;go_wp2;go_round
      case rel=>exact⟨k+1,by omega,za (kT d j.out c.out),by go_num⟩
      case measure=>simp[intOf];omega
     go_wp2;go_round
     case rel=>exact⟨k+1,by omega,za (kT d j.out c.out),by go_num⟩
     case measure=>simp[intOf];omega
    go_wp2;go_ret;exact⟨aV (Kh d p n j.out),rfl⟩
  go_enter Tryz.func62,Tryz.ntmps62
  go_wp2;go_ret;exact⟨aV (pz (by omega)),rfl⟩
 go_enter Tryz.func62,Tryz.ntmps62
 go_wp2;go_ret;exact⟨aV (pz (by omega)),rfl⟩
theorem Mj (s:ByteArray)(w:World)(y:s.size<=9223372036854775807):
 Calls Tryz.prog 23 #[.string s] w fun e w'=>e= .returned (.bool (bY s))/\w=w':=by
 go_enter Tryz.func23,Tryz.ntmps23
 go_wp2;go_loop [3] (fun i=>∃k:Nat,k<=s.size/\Hid (iu (s.data.toList.take k)=true)/\i= .int .i64 k) (fun i=>s.size-(intOf i).toNat)
 case atStart=>exact⟨0,by omega,za (by simp[iu]),rfl⟩
 case round=>
  obtain⟨k,A,j,rfl⟩:=hrel;by_cases c:k<s.size
  ·rcases Bg s[k].toNat s[k].toNat_lt with⟨d,n,r⟩|⟨d,n⟩
   ·have b:=za d;have p:(((s[k].toNat:Nat):Int)==95)=false:=zr.2 (by omega);clear d r;rcases n with h|⟨h,m⟩|⟨h,m⟩|h
    ·go_wp2;go_ret;exact⟨aV (mP c b.out),rfl⟩
    ·have l:decide (((s[k].toNat:Nat):Int)<=57)=false:=zz (by omega);go_wp2;go_ret;exact⟨aV (mP c b.out),rfl⟩
    ·have l:decide (((s[k].toNat:Nat):Int)<=57)=false:=zz (by omega);go_wp2;go_ret;exact⟨aV (mP c b.out),rfl⟩
    have l:decide (((s[k].toNat:Nat):Int)<=57)=false:=zz (by omega);have z:decide (((s[k].toNat:Nat):Int)<=122)=false:=zz (by omega);go_wp2;go_ret;exact⟨aV (mP c b.out),rfl⟩
   have b:=za d;clear d;rcases n with⟨h,m⟩|h|⟨h,m⟩
   ·go_wp2;go_round
    case rel=>exact⟨k+1,by omega,za (kT c j.out b.out),by go_num⟩
    case measure=>simp[intOf];omega
   ·have p:(((s[k].toNat:Nat):Int)==95)=true:=by simp[h]
    have x:94<s[k].toNat:=by omega
    have u:s[k].toNat<96:=by omega
    clear h;go_wp2;go_round
    case rel=>exact⟨k+1,by omega,za (kT c j.out b.out),by go_num⟩
    case measure=>simp[intOf];omega
   go_wp2;go_round
   case rel=>exact⟨k+1,by omega,za (kT c j.out b.out),by go_num⟩
   case measure=>simp[intOf];omega
  by_cases q:1<=s.size
  ·by_cases o:s.size<=12
   ·have l:decide ((s.size:Int)<=12)=true:=zH (by omega);go_wp2;go_ret;exact⟨aV (Kh c q o j.out),rfl⟩
   have l:decide ((s.size:Int)<=12)=false:=zz (by omega);go_wp2;go_ret;exact⟨aV (pz (by omega)),rfl⟩
  go_wp2;go_ret;exact⟨aV (pz (by omega)),rfl⟩
theorem Mk (l:List UInt8):qT (l++ [0])=qT l:=by simp[qT]
theorem Ml (l:List UInt8)(b:UInt8)(h:b≠0):qT (l++ [b])=l++ [b]:=by simp[qT,h]
theorem E4 (y:ByteArray)(k:Nat)(h:y.size=k+1):y.data.toList=(y.extract 0 k).data.toList++ [y[k]]:=by
 rw[aj,zN,<-jh y k (by omega),<-h,cM]
theorem Mm {s y:ByteArray}{k:Nat}(h:y.size=k+1)(b:cV y=cV s)(c:(y[k].toNat:Int)=0):cV (y.extract 0 k)=cV s:=by
 rw[<-b];unfold cV;rw[E4 y k h];have:y[k]=0:=by
  apply zW.1;have:y[k].toNat=0:=by omega
  simpa using this
 rw[this,Mk]
theorem Mn {s y:ByteArray}{k:Nat}(h:y.size=k+1)(i:cV y=cV s)(b:(y[k].toNat:Int)≠0):y=cV s:=by
 rw[<-i];unfold cV;have c:=E4 y k h;have d:y[k]≠0:=by
  intro e;apply b;rw[e];rfl
 apply aG;rw[c,Ml _ _ d]
theorem O7 {s y:ByteArray}(h:y.size=0)(b:cV y=cV s):y=cV s:=by
 rw[<-b];have:y.data.toList= []:=zt (by simpa using h);apply aG;unfold cV;rw[this];rfl
theorem Il (s:ByteArray)(w:World)(i:s.size<=9223372036854775807):
 Calls Tryz.prog 191 #[.string s,.int .u8 0] w fun e w'=>e= .returned (.string (cV s))/\w=w':=by
 go_enter Tryz.func191,Tryz.ntmps191
 go_wp2;go_loop [0] (fun x=>∃(y:ByteArray),Hid (cV y=cV s)/\y.size<=9223372036854775807/\x= .string y) (fun x=>strOf x)
 case atStart=>exact⟨s,za rfl,i,rfl⟩
 case round=>
  obtain⟨y,b,hz,rfl⟩:=hrel;rcases Zv y.size with h0|h0
  ·have j:=za h0;have m:y.size<=0:=by omega
   clear h0;go_wp2;go_ret;exact⟨nC (O7 j.out b.out).symm,rfl⟩
  obtain⟨k,c⟩:∃k,y.size=k+1:=⟨y.size-1,by omega⟩
  have d:=za c;have n:k<y.size:=by omega
  have l:(y.size:Int)-1=k:=by omega
  rcases xr ((y[k].toNat:Int)==0)with h|h
  ·clear c;go_wp2;go_round
   case rel=>exact⟨y.extract 0 k,za (Mm d.out b.out (by simpa using h)),by rw[an _ _ _ (by omega)];omega,rfl⟩
   case measure=>simp[an];omega
  clear c;go_wp2;go_ret;exact⟨nC (Mn d.out b.out (by simpa using h)).symm,rfl⟩
theorem O8 :(Tryz.prog.info? 5).map (·.size)=some 1:=by kernel_rfl
def z12 :Array Value:= #[.int .u8 0,.int .u8 0,.int .u8 0,.int .u8 0,.int .u8 0,.int .u8 0,.int .u8 0,.int .u8 0,.int .u8 0,.int .u8 0,.int .u8 0,.int .u8 0]
theorem O9 :z12.toList=cb (List.replicate 12 0):=rfl
theorem Wi (w:World)(ty t:TypeId)(s:ByteArray)(b:s.size<=12):
 (Builtin.copy_ #[31,9] ty #[.slice (some ⟨w.heap.size,0,none⟩) 12 12,.string s]).run Tryz.prog (w.alloc (.cells z12 t))= .ok (goInt s.size) (w.alloc (.cells (cb (eS s).data.toList).toArray t)):=by
 have h:=Lib.run_copy_row_string (P:=Tryz.prog) (w.alloc (.cells z12 t)) 31 9 ty 5 w.heap.size 0 12 12 s z12 t zx O8 (yX w _) b (by simpa[z12]using b);rw[h,World.setRow_alloc_new];have e:(z12.toList.take 0++Lib.byteCells s.data.toList++z12.toList.drop (0+s.size))=cb (eS s).data.toList:=by
  rw[lp,gb,O9,yE,yD,zQ,<-SE,List.drop_replicate];rfl
 rw[e]
theorem Wj (w:World)(t:TypeId)(s:ByteArray)(b:s.size<=12):
 (convert 31 9 (.slice (some ⟨w.heap.size,0,none⟩) 12 12)).run Tryz.prog (w.alloc (.cells (cb (eS s).data.toList).toArray t))= .ok (.string (eS s)) (w.alloc (.cells (cb (eS s).data.toList).toArray t)):=by
 have c:(eS s).data.toList.length=12:=by rw[aa];exact gV s b
 have:=Cv (P:=Tryz.prog) (w.alloc (.cells (cb (eS s).data.toList).toArray t)) 31 9 5 zx yB zT ⟨w.heap.size,0,none⟩ 12 (eS s).data.toList (fun j u hu=>ZT (yX w (.cells (cb (eS s).data.toList).toArray t)) j u (by simpa using hu));rw[c,jo]at this;exact this
theorem Mo (s:ByteArray)(w:World)(c:s.size<=9223372036854775807)(b:bY s=false):
 Calls Tryz.prog 103 #[.string s] w fun e w'=>e= .returned (.tuple #[.string ByteArray.empty,.int .i64 11])/\w=w':=by
 have H:=pT s w c;rw[b]at H;have d:=za H;clear H b;go_enter Tryz.func103,Tryz.ntmps103
 go_wp2_with fail
 refine d.out.mono ?_;rintro e w' ⟨rfl,rfl⟩;go_wp2;go_ret2
 exact⟨rfl,rfl⟩
theorem E5 (s:ByteArray)(w:World)(b:bY s=true):
 Calls Tryz.prog 103 #[.string s] w fun e w'=>e= .returned (.tuple #[.string (eS s),.int .i64 0])/\Below w.heap.size w w':=by
 have hz:=dy b;have H:=pT s w (by omega);rw[b]at H;have d:=za H;clear H b;have k1:=fun(ty t:TypeId)=>Wi w ty t s hz.2
 have k2:=fun(t:TypeId)=>Wj w t s hz.2
 have c:=fun t=>(zq w.heap.size w).alloc (zi _) (.cells (cb (eS s).data.toList).toArray t)
 have h:=za c;clear c;simp only[z12]at k1;go_enter Tryz.func103,Tryz.ntmps103
 go_wp2_with fail
 refine d.out.mono ?_;rintro e w' ⟨rfl,rfl⟩;go_wp2;go_ret2
 exact⟨rfl,h.out _⟩
theorem sD (s:ByteArray)(w:World)(c:s.size<=9223372036854775807):
 Calls Tryz.prog 154 #[.string s,.string ⟨#[0]⟩] w fun e w'=>e= .returned (.string (cV s))/\w=w':=by
 rcases fR s with⟨b,rfl⟩|⟨b,d,h⟩
 ·clear b;go_enter Tryz.func154,Tryz.ntmps154
  go_wp2_with fail
  go_ret;exact⟨rfl,rfl⟩
 clear b;go_enter Tryz.func154,Tryz.ntmps154
 go_wp2_with fail
 refine(Il s w c).mono ?_;rintro e w' ⟨rfl,rfl⟩;go_wp2;go_ret;exact⟨rfl,rfl⟩
theorem O' (s:ByteArray):(cV s).size<=s.size:=by
 obtain⟨n,b⟩:=Bh s.data.toList;have:=xj List.length b;rw[cV,bD];simp only[zo,aa]at this;omega
theorem Pa (s:ByteArray)(w:World)(d:s.size<=9223372036854775807):
 Calls Tryz.prog 112 #[.string s] w fun e w'=>e= .returned (.tuple #[.string (cW s).2,.int .i64 (cW s).1])/\w=w':=by
 have hz:=O' s;by_cases b:s.size=12
 ·have j:((s.size:Int) !=12)=false:=by simp[b]
  have i:=za (pT (cV s) w (by omega));have c:=za (show cW s=if bY (cV s)=true then(0,cV s)else(3,ByteArray.empty)by unfold cW;simp[b]);clear b hz;rcases xr (bY (cV s))with h|h;all_goals
   rw[h]at i c;go_enter Tryz.func112,Tryz.ntmps112
   go_wp2_with fail
   refine(sD s w d).mono ?_;rintro e w' ⟨rfl,rfl⟩;go_wp2_with fail
   refine i.out.mono ?_;rintro e w' ⟨rfl,rfl⟩;go_wp2;go_ret2
   exact⟨by rw[c.out];rfl,rfl⟩
 have j:((s.size:Int) !=12)=true:=yP.2 (by omega);have c:=za (Eg s b);clear b hz;go_enter Tryz.func112,Tryz.ntmps112
 go_wp2_with fail
 refine(sD s w d).mono ?_;rintro e w' ⟨rfl,rfl⟩;go_wp2;go_ret2
 exact⟨by rw[c.out];rfl,rfl⟩
theorem oO :(Tryz.prog.info? 5).map (fun i=>(i.zero,i.size,i.bytes))=some (some (.int .u8 0),1,1):=by kernel_rfl
def Wk (n sz:Nat)(w:World)(i:Value)(wr:World):Prop:=
 ∃k:Nat,k<=sz/\i= .int .i64 k/\bJ wr w.heap.size 5 (.slice (some ⟨w.heap.size,0,none⟩) sz sz) (jk n k++List.replicate (sz-k) 0)/\Kept 5 w.heap.size w wr
theorem Fa (n sz:Nat)(w:World)(D:n<18446744073709551616)(B:sz<=8):
 Calls Tryz.prog 152 #[.int .u64 n,.int .i64 sz] w fun e w'=>e= .returned (.slice (some ⟨w.heap.size,0,none⟩) sz sz)/\bJ w' w.heap.size 5 (.slice (some ⟨w.heap.size,0,none⟩) sz sz) (jk n sz)/\Kept 5 w.heap.size w w':=by
 obtain⟨i0,hi,x,s,r⟩:=yQ oO;go_enter Tryz.func152,Tryz.ntmps152
 go_wp2_with (at_make;refine wpList_make_full _ rfl _ _ 31 rfl w.heap.size 5 i0 (.int .u8 0) 1 zx hi x s .i64 .i64 _ _ sz rfl rfl (by omega) (by omega) (by rw[r];omega) (by simp only[maxLen];omega) (by omega) ?_;intro q c j)
 have p:bJ q w.heap.size 5 (.slice (some ⟨w.heap.size,0,none⟩) sz sz) (List.replicate sz 0):=by
  rw[uy]at c;have:=bJ.own (l:=List.replicate sz 0) (by simpa using c);simpa using this
 have o:Kept 5 w.heap.size w q:=Kept.JU j (zi _);clear c j;go_loopw [10] (fun i wr=>Wk n sz w i wr) (fun i _=>sz-(intOf i).toNat)
 case atStart=>exact⟨0,by omega,rfl,by simpa[jk]using p,o⟩
 case round=>
  obtain⟨k,C,rfl,b,d⟩:=hrel;clear p o;by_cases y:k<sz
  ·have u:(jk n k++List.replicate (sz-k) (0:UInt8)).length=sz:=by rw[zo,bd,xJ];omega
   obtain⟨F,f1,g1,g2⟩:=b.at_ (k:=k) (by omega);have h:=za (b.set (k:=k) (by omega) (ub (n/2^(8*k)%256:Nat)));rw[OD y]at h;obtain⟨A,E,m,_⟩:=b.block;have z:=za (fun v=>d.store (k:=k) m (zi _) v);clear u m b d;go_wp2;go_roundw
   case rel=>
    rw[SK];exact⟨k+1,by omega,by go_num,h.out,z.out _⟩
   case measure=>simp[intOf];omega
  go_wp2;go_ret;obtain rfl:sz=k:=by omega
  exact⟨rfl,by simpa using b,d⟩
theorem S7 (n sz:Nat)(w:World)(b:n<2^(8*sz))(d:1<=sz)(c:sz<=8):
 Calls Tryz.prog 151 #[.int .u64 n,.int .i64 sz] w fun e w'=>e= .returned (.int .i64 0)/\w=w':=by
 have h:(n:Int)/2^(8*sz)=0:=by
  have:((n/2^(8*sz):Nat):Int)=0:=by rw[Nat.div_eq_of_lt b];rfl
  simpa using this
 clear b;go_enter Tryz.func151,Tryz.ntmps151
 go_wp2;go_ret;exact⟨rfl,rfl⟩
theorem Fb {a:Int}{b c:Nat}(h:a=(b:Int))(d:b=c):Ending.returned (.tuple #[.int .u64 a,.int .i64 0])= .returned (.tuple #[.int .u64 c,.int .i64 0]):=by
 subst h;subst d;rfl
def rv (l:List UInt8):Nat->List UInt8
 |0=>l
 |k+1=>((rv l k).set k ((rv l k).getD (l.length-1-k) 0)).set (l.length-1-k) ((rv l k).getD k 0)
theorem rl (l:List UInt8)(k:Nat):(rv l k).length=l.length:=by
 induction k with
 |zero=>rfl
 |succ k ih=>simp[rv,ih]
theorem abx (l:List UInt8)(k:Nat):2*k<=l.length+1->∀j,j<l.length->(rv l k)[j]?=if j<k\/l.length-k<=j then l[l.length-1-j]? else l[j]?:=by
 induction k with
 |zero=>intro _ j c;rw[zj (by omega)];rfl
 |succ k ih=>
  intro o j c;have d:=ih (by omega);have i:=d k (by omega);have m:=d (l.length-1-k) (by omega);have n:=rl l k;simp only[rv,List.getElem?_set,zA,Zu,n];by_cases h:l.length-1-k=j
  ·subst h;rw[zl rfl,zl c,zl (by omega),i];by_cases b:k=l.length-1-k
   ·rw[zj (by omega),<-b,zD (by omega),];simp only[Option.getD_some];rw[show l.length-1-k=k from by omega,zD (by omega)]
   rw[zj (by omega),show l.length-1-(l.length-1-k)=k from by omega,zD (by omega)];rfl
  rw[zj h];by_cases e:k=j
  ·subst e;rw[zl rfl,zl c,zl (by omega),m,zj (by omega),zD (by omega)];rfl
  rw[zj e,d j c];by_cases b:j<k\/l.length-k<=j
  ·rw[zl b,zl (by omega)]
  rw[zj b,zj (by omega)]
theorem Wl (l:List UInt8)(k:Nat)(h:l.length<=2*k+1)(d:2*k<=l.length+1):rv l k=l.reverse:=by
 apply List.ext_getElem?;intro j;by_cases c:j<l.length
 ·rw[abx l k d j c,List.getElem?_reverse c];by_cases b:j<k\/l.length-k<=j
  ·rw[zl b]
  rw[zj b,show l.length-1-j=j from by omega]
 rw[xk (by rw[rl];omega),xk (by simp;omega)]
theorem Mp (base g cap:Nat)(l:List UInt8)(w:World)(m:bJ w base 5 (.slice (some ⟨g,0,none⟩) l.length cap) l)(A:l.length<=1099511627776):
 Calls Tryz.prog 202 #[.slice (some ⟨g,0,none⟩) l.length cap] w fun e w'=>e= .returned (.tuple #[])/\bJ w' base 5 (.slice (some ⟨g,0,none⟩) l.length cap) l.reverse/\Kept 5 base w w':=by
 obtain⟨n,o⟩:∃n,l.length=n:=⟨_,rfl⟩
 rw[o]at m A⊢;have c:=za o;clear o;go_enter Tryz.func202,Tryz.ntmps202
 go_wp2;go_loopw [2,3] (fun i j wr=>∃k:Nat,2*k<=n+1/\i= .int .i64 k/\j= .int .i64 ((n:Int)-1-k)/\bJ wr base 5 (.slice (some ⟨g,0,none⟩) n cap) (rv l k)/\Kept 5 base w wr) (fun i _ _=>n-(intOf i).toNat)
 case atStart=>exact⟨0,by omega,rfl,by go_num,m,Kept.refl _ _ _⟩
 case round=>
  obtain⟨k,D,rfl,rfl,b,p⟩:=hrel;clear m;by_cases K:2*k+1<n
  ·have z:(rv l k).length=n:=by rw[rl,c.out]
   obtain⟨d,hd⟩:∃d:Nat,n-1-k=d:=⟨_,rfl⟩
   have u:(n:Int)-1-k=d:=by omega
   obtain⟨I,f1,g1,g2⟩:=b.at_ (k:=k) (by omega);obtain⟨E,f2,_,_⟩:=b.at_ (k:=d) (by omega);have q:=za ((b.set (k:=k) (by omega) ((rv l k).getD d 0)).set (k:=d) (by rw[Zu];omega) ((rv l k).getD k 0));obtain⟨C,G,h,r⟩:=b.block;have B:=za (((p.store (k:=k) h r (.int .u8 ((rv l k).getD d 0).toNat))).store (k:=d) (iX _ h) r (.int .u8 ((rv l k).getD k 0).toNat));have s:Hid (((rv l k).set k ((rv l k).getD d 0)).set d ((rv l k).getD k 0)=rv l (k+1)):=za (by simp only[rv];rw[c.out,hd]);rw[s.out]at q;have J:(⟨g,d,none⟩:Addr)≠⟨g,k,none⟩:=fun e=>by have:=xj Addr.off e;simp at this;omega
   rw[u];generalize ((rv l k).getD d 0).toNat=y at*;generalize ((rv l k).getD k 0).toNat=x at*;have F:k<d:=by omega
   have H:d<n:=by omega
   clear h b p z hd;go_wp2;go_region
   all_goals
    go_wp2;go_roundw
    case rel=>exact⟨k+1,by omega,by go_num,by go_num,q.out.drew,B.out.drew⟩
    case measure=>simp[intOf];omega
  have e:rv l k=l.reverse:=Wl l k (by rw[c.out];omega) (by rw[c.out];omega);rw[e]at b;go_wp2;go_end0
  exact⟨rfl,b,p⟩
theorem Mq (base g cap:Nat)(l:List UInt8)(w:World)(b:bJ w base 5 (.slice (some ⟨g,0,none⟩) l.length cap) l)(j:l.length<=1099511627776):
 Calls Tryz.prog 176 #[.slice (some ⟨g,0,none⟩) l.length cap] w fun e w'=>e= .returned (.string ⟨l.reverse.toArray⟩)/\Kept 5 base w w':=by
 have k:=za (Mp base g cap l w b j);clear b;go_enter Tryz.func176,Tryz.ntmps176
 go_wp2_with fail
 refine k.out.mono ?_;rintro e o ⟨rfl,d,h⟩;have i:=d.Ha (P:=Tryz.prog) zx yB zT;have m:=za h;clear d h;obtain⟨X,c⟩:∃X,Hid ((⟨l.reverse.toArray⟩:ByteArray)=X):=⟨_,za rfl⟩
 rw[c.out]at i;generalize l.length=n at*;go_wp2;go_ret;exact⟨by rw[c.out];rfl,m.out⟩
