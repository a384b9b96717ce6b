/- slices.Clone at items, item.List, item.Text. -/
import Derived.Test.YtdbmifjankgfpaaGreatDoorKA6
import Derived.WalkSpells
import Derived.Lib.BufferWrite
import Derived.Deep.WholeRow
set_option linter.all false
set_option maxRecDepth 100000
set_option maxHeartbeats 1000000
open Go.Proofs.Tryz
namespace Go.Proofs.YtdbmifjankgfpaaGreatDoor
open Go.RowKit
variable {w w':World}{S S':Nat->Prop}{v d e i l h:Value}{acc:List Ms}{A:Option Addr}{L:List Nat}{k o lo':Nat}{s y:ByteArray}{x:It}{m:Ms}{ops:Array Oper}{rest:List Oper}{a:Act}{Q:Exit->Act->World->Prop}{z t:Int}
def zj:=@bodyPost_ret
def zN:=@underlying9
def yw:=@underlying5
def yz:=@bne_iff_ne
theorem Ca :(prog.info? 28).map (fun i=>(i.zero,i.size,i.bytes))=some (some (.agg #[.string ⟨#[]⟩,.bool false,.slice none 0 0]),3,48):=by kernel_rfl
theorem pf (s:ByteArray)(w:World):
 Calls prog 197 #[.string s] w fun e w'=>e= .returned (.agg #[.string s,.bool false,.slice none 0 0])/\Below w.heap.size w w':=by
 go_enter func197,ntmps197
 go_wp2;refine zj (v:= .agg #[.string s,.bool false,.slice none 0 0]) (by simp[results,results197,go_sem]) rfl ⟨rfl, ?_⟩;exact bT
theorem IA {base cap n:Nat}{d:List Value}{e:TypeId}(i:w.ownsRow base e k (.slice A n cap) n d):∀g,(Value.slice A n cap).ownBlock=some g->base<=g:=by
 intro g b;rcases i.2 with⟨h,p⟩|⟨c,l,m,j,o,_⟩
 ·rw[h]at b;cases b
 rw[j]at b;have:c=g:=by simpa[Value.ownBlock]using b
 omega
mutual
def gz (w:World)(S:Nat->Prop):It->Value->Value->Value->Prop
 | .mk t l s,c0,c1,c2=>c0= .string t/\c1= .bool l/\t.size<=9223372036854775807/\s.length<=9223372036854775807/\∃A cap,c2= .slice A s.length cap/\s.length<=cap/\cap<=9223372036854775807/\nw w S s A 0
def nw (w:World)(S:Nat->Prop):List It->Option Addr->Nat->Prop
 | [],_,_=>True
 |x::xs,A,i=>(∃b o c0 c1 c2,A=some ⟨b,o,none⟩/\S b/\w.cell? ⟨b,o+i*3,none⟩=some c0/\w.cell? ⟨b,o+i*3+1,none⟩=some c1/\w.cell? ⟨b,o+i*3+2,none⟩=some c2/\gz w S x c0 c1 c2)/\nw w S xs A (i+1)
end
theorem nw.at_ :∀{s:List It} {i:Nat},nw w S s A i->∀(j:Nat) (h:j<s.length),∃b o e c d,A=some ⟨b,o,none⟩/\S b/\w.cell? ⟨b,o+(i+j)*3,none⟩=some e/\w.cell? ⟨b,o+(i+j)*3+1,none⟩=some c/\w.cell? ⟨b,o+(i+j)*3+2,none⟩=some d/\gz w S s[j] e c d
 | [],_,_,j,h=>by simp at h
 |x::xs,i,hi,0,_=>by simpa[nw]using hi.1
 |x::xs,i,hi,j+1,h=>by
  have:=nw.at_ hi.2 j (by simpa using h);rw[show i+1+j=i+(j+1)from by omega]at this;simpa using this
theorem nw.GM :∀{s:List It} {i:Nat},(∀(j:Nat) (h:j<s.length),∃b o e c d,A=some ⟨b,o,none⟩/\S b/\w.cell? ⟨b,o+(i+j)*3,none⟩=some e/\w.cell? ⟨b,o+(i+j)*3+1,none⟩=some c/\w.cell? ⟨b,o+(i+j)*3+2,none⟩=some d/\gz w S s[j] e c d)->nw w S s A i
 | [],_,_=>by simp[nw]
 |x::xs,i,h=>by
  refine⟨h 0 (Nat.zero_lt_succ _),nw.GM fun j k=> ?_⟩;have:=h (j+1) (by simpa using k);rw[show i+(j+1)=i+1+j from by omega]at this;simpa using this
theorem gz.ag (hS:∀k,k<w.heap.size->S k->S' k)(m:∀p:Addr,p.block<w.heap.size->S p.block->w'.cell? p=w.cell? p):∀(x:It) {n i e:Value},gz w S x n i e->gz w' S' x n i e:=by
 intro x;induction x using It.ind with
 |h t l s ih=>
  intro n i e h;obtain⟨y,F,E,z,A,cap,G,H,u,I⟩:=h;refine⟨y,F,E,z,A,cap,G,H,u,nw.GM fun j q=> ?_⟩;obtain⟨b,o,d0,d1,d2,B,c,r,C,D,hi⟩:=I.at_ j q;have d:=lt_of_cell r;exact⟨b,o,d0,d1,d2,B,hS _ d c,(m _ d c).trans r,(m _ d c).trans C,(m _ d c).trans D,ih _ (zR q) hi⟩
theorem gz.iz {b c:Value}(h:gz w S x d b c)(hS:∀k,k<w.heap.size->S k->S' k):gz w S' x d b c:=gz.ag hS (fun _ _ _=>rfl) x h
theorem gz.only {c b:Value}(h:gz w S x c d b)(l:ae L w w')(e:∀k,k∈L->¬S k)(hS:∀k,k<w.heap.size->S k->S' k):gz w' S' x c d b:=
 gz.ag hS (fun p m j=>l.cell m fun i=>e _ i j) x h
theorem gz.below {c b:Value}(h:gz w S x c d b)(i:Below w.heap.size w w'):gz w' S x c d b:=gz.ag (fun _ _ h=>h) (fun _ e _=>i.cell e) x h
theorem gz.Fg :∀(x:It) {d e c:Value},gz w S x d e c->dX w w.heap.size x d e c:=by
 intro x;induction x using It.ind with
 |h t l s ih=>
  intro d e c h;obtain⟨p,u,D,n,A,cap,y,C,m,B⟩:=h;refine⟨p,u,D,n,A,cap,y,C,m,cl.GM fun j k=> ?_⟩;obtain⟨b,o,d0,d1,d2,q,E,i,r,z,hi⟩:=B.at_ j k;exact⟨b,o,d0,d1,d2,q,lt_of_cell i,i,r,z,ih _ (zR k) hi⟩
theorem gz.open_ {c b:Value}(h:gz w S x c d b):∃A cap,c= .string x.text/\d= .bool x.list/\b= .slice A x.sub.length cap/\x.text.size<=9223372036854775807/\x.sub.length<=cap/\cap<=9223372036854775807/\nw w S x.sub A 0:=by
 cases x with
 |mk t l s=>
  obtain⟨m,i,o,p,A,cap,j,n,e,k⟩:=h;exact⟨A,cap,m,i,j,o,n,e,k⟩
theorem gz.text {t:ByteArray}(l:Bool)(b:t.size<=9223372036854775807):gz w S (.mk t l []) (.string t) (.bool l) (.slice none 0 0):=⟨rfl,rfl,b,by simp,none,0,rfl,by simp,by simp,trivial⟩
def gj (w:World)(S:Nat->Prop):List It->List Value->Prop
 | [],cs=>cs= []
 |x::xs,cs=>∃c0 c1 c2 ds,cs=c0::c1::c2::ds/\gz w S x c0 c1 c2/\gj w S xs ds
theorem gj.ag (hS:∀k,k<w.heap.size->S k->S' k)(c:∀p:Addr,p.block<w.heap.size->S p.block->w'.cell? p=w.cell? p):∀{s:List It} {b:List Value},gj w S s b->gj w' S' s b
 | [],b,h=>h
 |x::xs,b,h=>by
  obtain⟨e,j,d,i,rfl,l,m⟩:=h;exact⟨e,j,d,i,rfl,gz.ag hS c x l,m.ag hS c⟩
theorem gj.snoc {y:It}{c:Value}(i:gz w S y d e c):∀{s:List It} {b:List Value},gj w S s b->gj w S (s++ [y]) (b++ [d,e,c])
 | [],b,h=>by
  have h:b= []:=h;subst h;exact⟨d,e,c,[],rfl,i,rfl⟩
 |x::xs,b,h=>by
  obtain⟨k,l,o,j,rfl,m,n⟩:=h;exact⟨k,l,o,j++ [d,e,c],by simp,m,n.snoc i⟩
theorem nw.fj {b:Nat}(l:S b):∀{s:List It} {i:Nat} {c:List Value},gj w S s c->(∀j u,c[j]?=some u->w.cell? ⟨b,o+i*3+j,none⟩=some u)->nw w S s (some ⟨b,o,none⟩) i
 | [],_,_,_,_=>trivial
 |x::xs,i,c,h,hc=>by
  obtain⟨e,k,d,p,rfl,m,n⟩:=h;refine⟨⟨b,o,e,k,d,rfl,l,by simpa using hc 0 e (by simp),hc 1 k (by simp),hc 2 d (by simp),m⟩,nw.fj l n fun j u hu=> ?_⟩;have:=hc (j+3) u (by simpa using hu);rw[show o+(i+1)*3+j=o+i*3+(j+3)from by omega];exact this
def Acc (w:World)(lo:Nat)(acc:List It)(v:Value):Prop:=∃cs,w.ownsRow lo 28 3 v acc.length cs/\gj w (fun k=>lo<=k/\v.ownBlock≠some k) acc cs
theorem Acc.nil (w:World)(b:Nat):Acc w b [] (.slice none 0 0):=⟨[],⟨by simp,.inl ⟨rfl,rfl⟩⟩,rfl⟩
theorem Acc.form {e:Nat}{acc:List It}(h:Acc w e acc v):∃A cap,v= .slice A acc.length cap/\acc.length<=cap/\cap<=9223372036854775807:=by
 obtain⟨m,c,n⟩:=h;rcases c.2 with⟨d,i⟩|⟨g,cap,l,j,_,_,k,b,_⟩
 ·exact⟨none,0,by rw[d,i],by omega,by simp⟩
 exact⟨_,cap,j,k,by simpa[maxLen]using b⟩
theorem Acc.cF {b:Nat}{acc:List It}(h:Acc w b acc v):∃A n cap,v= .slice A n cap/\Hid (n=acc.length)/\n<=cap/\cap<=9223372036854775807:=by
 obtain⟨A,cap,c,d,e⟩:=h.form;exact⟨A,_,cap,c,za rfl,d,e⟩
theorem Acc.ge {c:Nat}{acc:List It}(h:Acc w c acc v):∀g,v.ownBlock=some g->c<=g/\g<w.heap.size:=by
 obtain⟨n,i,o⟩:=h;intro g b;rcases i.2 with⟨j,p⟩|⟨d,cap,m,k,e,l,_⟩
 ·rw[j]at b;cases b
 rw[k]at b;have:d=g:=by simpa[Value.ownBlock]using b
 subst this;exact⟨e,yP l⟩
theorem af.grown {g:Nat}{t:TypeId}{b:Array Value}{row:Option Nat}(h:af w g t b)(c:w.grownBy w' row)(d:row≠some g):af w' g t b:=(c.block g h.lt (fun e=>d e.symm)).trans h
theorem Acc.ag {b:Nat}{acc:List It}(h:Acc w b acc v)(d:∀k,b<=k->k<w.heap.size->w'.heap[k]?=w.heap[k]?):Acc w' b acc v:=by
 obtain⟨i,c,j⟩:=h;refine⟨i,⟨c.1, ?_⟩,j.ag (fun _ _ h=>h) fun p l e=>zG (d _ e.1 l)⟩;rcases c.2 with h3|⟨g,cap,cur,hv,hg,hh,r⟩
 ·exact .inl h3
 exact .inr ⟨g,cap,cur,hv,hg,(d g hg (yP hh)).trans hh,r⟩
theorem Acc.only {b:Nat}{acc:List It}(h:Acc w b acc v)(i:ae L w w')(c:∀g,g∈L->g<b):Acc w' b acc v:=
 h.ag fun k j e=>i.block k e fun d=>by have:=c k d;omega
theorem Acc.below {b:Nat}{acc:List It}(h:Acc w b acc v)(d:Below w.heap.size w w'):Acc w' b acc v:=h.ag fun k _ c=>d.block k c
theorem Acc.list {c:Nat}{acc:List It}(h:Acc w c acc v)(e:acc.length<=9223372036854775807):gz w (c<= ·) (.mk ⟨#[]⟩ true acc) (.string ⟨#[]⟩) (.bool true) v:=by
 obtain⟨A,cap,rfl,i,k⟩:=h.form;obtain⟨s,d,o⟩:=h;refine⟨rfl,rfl,yk _,e,A,cap,rfl,i,k, ?_⟩;rcases d.2 with⟨b,m⟩|⟨g,p,q,n,l,r,_⟩
 ·obtain rfl:acc= []:=zp m;trivial
 injection n with hA _ hc;subst hA;subst hc;refine nw.fj l (o.ag (fun _ _ h=>h.1) (fun _ _ _=>rfl)) fun j u hu=> ?_
 have:=d.cells rfl j u hu;have b:(⟨g,0,none⟩:Addr).add j=⟨g,j,none⟩:=by unfold Addr.add;split<;>simp_all
 rw[b]at this;simpa using this
theorem afB {y:It}{b c:Value}(h:gz w S y d b c):∀u∈ [d,b,c],u.oneCell'=true:=by
 obtain⟨A,cap,rfl,rfl,rfl,_⟩:=h.open_;intro u hu;simp at hu;rcases hu with rfl|rfl|rfl<;>rfl
def pg (w:World)(S:Nat->Prop)(m:Ms)(c0 c1 c2 c3:Value):Prop:=c0= .string m.name/\m.name.size<=9223372036854775807/\gz w S m.x c1 c2 c3
theorem pg.ag (hS:∀k,k<w.heap.size->S k->S' k)(i:∀p:Addr,p.block<w.heap.size->S p.block->w'.cell? p=w.cell? p)(m:Ms){c b:Value}(h:pg w S m c d b e):pg w' S' m c d b e:=⟨h.1,h.2.1,gz.ag hS i _ h.2.2⟩
theorem pg.below {c b:Value}(h:pg w S m c d b e)(j:Below w.heap.size w w'):pg w' S m c d b e:=pg.ag (fun _ _ h=>h) (fun _ i _=>j.cell i) m h
theorem pg.iz {b c:Value}(h:pg w S m e b d c)(hS:∀k,k<w.heap.size->S k->S' k):pg w S' m e b d c:=pg.ag hS (fun _ _ _=>rfl) m h
theorem pg.only {c b:Value}(h:pg w S m c d b e)(n:ae L w w')(j:∀k,k∈L->¬S k)(hS:∀k,k<w.heap.size->S k->S' k):pg w' S' m c d b e:=
 pg.ag hS (fun p o l=>n.cell o fun i=>j _ i l) m h
theorem pg.open_ {c b:Value}(h:pg w S m c d b e):∃A cap,c= .string m.name/\d= .string m.x.text/\b= .bool m.x.list/\e= .slice A m.x.sub.length cap/\m.name.size<=9223372036854775807/\m.x.text.size<=9223372036854775807/\m.x.sub.length<=cap/\cap<=9223372036854775807:=by
 obtain⟨o,j,hi⟩:=h;obtain⟨A,cap,k,l,n,q,p,i,_⟩:=hi.open_;exact⟨A,cap,o,k,l,n,j,q,p,i⟩
theorem PI :(prog.info? 30).map (fun i=>(i.zero,i.size,i.bytes))=some (some (.agg #[.string ⟨#[]⟩,.string ⟨#[]⟩,.bool false,.slice none 0 0]),4,64):=by kernel_rfl
def rN (w:World)(S:Nat->Prop):List Ms->Option Addr->Nat->Prop
 | [],_,_=>True
 |x::xs,A,i=>(∃b o c0 c1 c2 c3,A=some ⟨b,o,none⟩/\S b/\w.cell? ⟨b,o+i*4,none⟩=some c0/\w.cell? ⟨b,o+i*4+1,none⟩=some c1/\w.cell? ⟨b,o+i*4+2,none⟩=some c2/\w.cell? ⟨b,o+i*4+3,none⟩=some c3/\pg w S x c0 c1 c2 c3)/\rN w S xs A (i+1)
theorem rN.at_ :∀{s:List Ms} {i:Nat},rN w S s A i->∀(j:Nat) (h:j<s.length),∃b o k c e d,A=some ⟨b,o,none⟩/\S b/\w.cell? ⟨b,o+(i+j)*4,none⟩=some k/\w.cell? ⟨b,o+(i+j)*4+1,none⟩=some c/\w.cell? ⟨b,o+(i+j)*4+2,none⟩=some e/\w.cell? ⟨b,o+(i+j)*4+3,none⟩=some d/\pg w S s[j] k c e d
 | [],_,_,j,h=>by simp at h
 |x::xs,i,hi,0,_=>by simpa[rN]using hi.1
 |x::xs,i,hi,j+1,h=>by
  have:=rN.at_ hi.2 j (by simpa using h);rw[show i+1+j=i+(j+1)from by omega]at this;simpa using this
theorem rN.ag (hS:∀k,k<w.heap.size->S k->S' k)(c:∀p:Addr,p.block<w.heap.size->S p.block->w'.cell? p=w.cell? p):∀{s:List Ms} {i:Nat},rN w S s A i->rN w' S' s A i
 | [],_,_=>trivial
 |x::xs,i,h=>by
  obtain⟨⟨b,o,m,n,l,z,q,e,j,r,B,u,hi⟩,y⟩:=h;have d:=lt_of_cell j;exact⟨⟨b,o,m,n,l,z,q,hS _ d e,(c _ d e).trans j,(c _ d e).trans r,(c _ d e).trans B,(c _ d e).trans u,hi.ag hS c⟩,y.ag hS c⟩
def iA (w:World)(S:Nat->Prop):List Ms->List Value->Prop
 | [],cs=>cs= []
 |x::xs,cs=>∃c0 c1 c2 c3 ds,cs=c0::c1::c2::c3::ds/\pg w S x c0 c1 c2 c3/\iA w S xs ds
theorem iA.ag (hS:∀k,k<w.heap.size->S k->S' k)(c:∀p:Addr,p.block<w.heap.size->S p.block->w'.cell? p=w.cell? p):∀{s:List Ms} {b:List Value},iA w S s b->iA w' S' s b
 | [],b,h=>h
 |x::xs,b,h=>by
  obtain⟨e,j,d,n,i,rfl,l,m⟩:=h;exact⟨e,j,d,n,i,rfl,pg.ag hS c x l,m.ag hS c⟩
theorem iA.snoc {y:Ms}{c:Value}(j:pg w S y d e c i):∀{s:List Ms} {b:List Value},iA w S s b->iA w S (s++ [y]) (b++ [d,e,c,i])
 | [],b,h=>by
  have h:b= []:=h;subst h;exact⟨d,e,c,i,[],rfl,j,rfl⟩
 |x::xs,b,h=>by
  obtain⟨l,m,q,n,k,rfl,o,p⟩:=h;exact⟨l,m,q,n,k++ [d,e,c,i],by simp,o,p.snoc j⟩
theorem rN.fj {b:Nat}(m:S b):∀{s:List Ms} {i:Nat} {c:List Value},iA w S s c->(∀j u,c[j]?=some u->w.cell? ⟨b,o+i*4+j,none⟩=some u)->rN w S s (some ⟨b,o,none⟩) i
 | [],_,_,_,_=>trivial
 |x::xs,i,c,h,hc=>by
  obtain⟨e,k,d,l,q,rfl,n,p⟩:=h;refine⟨⟨b,o,e,k,d,l,rfl,m,by simpa using hc 0 e (by simp),hc 1 k (by simp),hc 2 d (by simp),hc 3 l (by simp),n⟩,rN.fj m p fun j u hu=> ?_⟩;have:=hc (j+4) u (by simpa using hu);rw[show o+(i+1)*4+j=o+i*4+(j+4)from by omega];exact this
def eB (w:World)(S0:Nat->Prop)(lo:Nat)(acc:List Ms)(v:Value):Prop:=∃cs,w.ownsRow lo 30 4 v acc.length cs/\iA w (fun k=>S0 k/\v.ownBlock≠some k) acc cs
abbrev vy (w:World)(lo:Nat)(acc:List Ms)(v:Value):Prop:=eB w (lo<= ·) lo acc v
theorem eB.nil (w:World)(c:Nat->Prop)(b:Nat):eB w c b [] (.slice none 0 0):=⟨[],⟨by simp,.inl ⟨rfl,rfl⟩⟩,rfl⟩
theorem vy.nil (w:World)(b:Nat):vy w b [] (.slice none 0 0):=eB.nil _ _ _
theorem eB.form {e:Nat->Prop}{i:Nat}(h:eB w e i acc v):∃A cap,v= .slice A acc.length cap/\acc.length<=cap/\cap<=9223372036854775807:=by
 obtain⟨n,c,o⟩:=h;rcases c.2 with⟨d,j⟩|⟨g,cap,m,k,_,_,l,b,_⟩
 ·exact⟨none,0,by rw[d,j],by omega,by simp⟩
 exact⟨_,cap,k,l,by simpa[maxLen]using b⟩
theorem eB.cF {d:Nat->Prop}{e:Nat}(h:eB w d e acc v):∃A n cap,v= .slice A n cap/\Hid (n=acc.length)/\n<=cap/\cap<=9223372036854775807:=by
 obtain⟨A,cap,b,c,i⟩:=h.form;exact⟨A,_,cap,b,za rfl,c,i⟩
theorem eB.ge {k:Nat->Prop}{c:Nat}(h:eB w k c acc v):∀g,v.ownBlock=some g->c<=g/\g<w.heap.size:=by
 obtain⟨o,i,p⟩:=h;intro g b;rcases i.2 with⟨j,q⟩|⟨d,cap,n,l,e,m,_⟩
 ·rw[j]at b;cases b
 rw[l]at b;have:d=g:=by simpa[Value.ownBlock]using b
 subst this;exact⟨e,yP m⟩
theorem eB.ag {b:Nat->Prop}{d:Nat}(h:eB w b d acc v)(e:∀k,k<w.heap.size->b k\/v.ownBlock=some k->w'.heap[k]?=w.heap[k]?):eB w' b d acc v:=by
 obtain⟨j,c,l⟩:=h;refine⟨j,⟨c.1, ?_⟩,l.ag (fun _ _ h=>h) fun p m i=>zG (e _ m (.inl i.1))⟩;rcases c.2 with h3|⟨g,cap,cur,hv,hg,hh,r⟩
 ·exact .inl h3
 exact .inr ⟨g,cap,cur,hv,hg,(e g (yP hh) (.inr (by rw[hv];rfl))).trans hh,r⟩
theorem eB.only {c:Nat->Prop}{e:Nat}(h:eB w c e acc v)(m:ae L w w')(j:∀g,g∈L->¬c g)(l:∀g,g∈L->v.ownBlock≠some g):eB w' c e acc v:=
 h.ag fun k i b=>m.block k i fun d=>by
  rcases b with b|b
  ·exact j k d b
  exact l k d b
theorem eB.below {c:Nat->Prop}{b:Nat}(h:eB w c b acc v)(d:Below w.heap.size w w'):eB w' c b acc v:=h.ag fun k e _=>d.block k e
theorem eB.iz {b S1:Nat->Prop}{c:Nat}(h:eB w b c acc v)(hS:∀k,k<w.heap.size->b k->S1 k)(d:lo'<=c):eB w S1 lo' acc v:=by
 obtain⟨e,i,j⟩:=h;exact⟨e,i.mono d,j.ag (fun k l h=>⟨hS k l h.1,h.2⟩) fun _ _ _=>rfl⟩
theorem vy.only {b:Nat}(h:vy w b acc v)(i:ae L w w')(d:∀g,g∈L->g<b):vy w' b acc v:=
 eB.only h i (fun g c=>by have:=d g c;omega) (fun g c e=>by have:=d g c;have:=(eB.ge h g e).1;omega)
theorem vy.lower {b:Nat}(h:vy w b acc v)(c:lo'<=b):vy w lo' acc v:=eB.iz h (fun k _ d=>zF c d) c
theorem vy.reads {c:Nat}(h:vy w c acc v):∃A cap,v= .slice A acc.length cap/\acc.length<=cap/\cap<=9223372036854775807/\rN w (c<= ·) acc A 0:=by
 obtain⟨A,cap,rfl,e,i⟩:=eB.form h;obtain⟨r,d,n⟩:=h;refine⟨A,cap,rfl,e,i, ?_⟩;rcases d.2 with⟨b,l⟩|⟨g,o,p,m,k,q,_⟩
 ·obtain rfl:acc= []:=zp l;trivial
 injection m with hA _ hc;subst hA;subst hc;refine rN.fj k (n.ag (fun _ _ h=>h.1) (fun _ _ _=>rfl)) fun j u hu=> ?_
 have:=d.cells rfl j u hu;have b:(⟨g,0,none⟩:Addr).add j=⟨g,j,none⟩:=by unfold Addr.add;split<;>simp_all
 rw[b]at this;simpa using this
theorem abK {y:Ms}{c b:Value}(h:pg w S y c d b e):∀u∈ [c,d,b,e],u.oneCell'=true:=by
 obtain⟨A,cap,rfl,rfl,rfl,rfl,_⟩:=h.open_;intro u hu;simp at hu;rcases hu with rfl|rfl|rfl|rfl<;>rfl
theorem qk {o:Oper}(L:o.guard=none)(s x:Operand)
 (R:o.op= .call {callee:= .builtin .append,args:= #[s,x],argTypes:= #[50,50]}) (n:Nat->Prop) (c:Nat) (acc:List Ms)  (N:a.eval s=v) (X:eB w n c acc v) (y:Ms) {m:Value}
 (A:pg w (fun k=>n k/\v.ownBlock≠some k) y l h d m) (g:Nat) (hx:a.eval x= .slice (some ⟨g,0,none⟩) 1 1) (G:w.cell? ⟨g,0,none⟩=some l) (U:w.cell? ⟨g,1,none⟩=some h) (F:w.cell? ⟨g,2,none⟩=some d) (M:w.cell? ⟨g,3,none⟩=some m)
 (Y:acc.length<=1000000) (E:c<=w.heap.size)
 (H:∀b q cap w',Hid (q=acc.length+1)->eB w' n c (acc++ [y]) (.slice (some ⟨b,0,none⟩) q cap)->w.grownBy w' v.ownBlock->c<=b->wpList prog ops Q rest (a.put o.dst (.slice (some ⟨b,0,none⟩) q cap)) w'):wpList prog ops Q (o::rest) a w:=by
 obtain⟨i0,hi,C,J,I⟩:=yH PI;obtain⟨z,S,W⟩:=X;refine y9 w L s x 50 R c 30 i0 _ 4 64 underlying50 hi C J I rfl (by decide) v acc.length z N S ⟨g,0,none⟩ 1 1 [l,h,d,m] hx rfl ?_ (abK A) (by decide) (by simp only[maxLen];omega) (by omega) E w.heap.size rfl ?_
 ·intro j u hu;have O:∀j,(⟨g,0,none⟩:Addr).add j=⟨g,j,none⟩:=by intro j;unfold Addr.add;split<;>simp_all
  rw[O];match j,hu with
  |0,hu=>simp at hu;subst hu;exact G
  |1,hu=>simp at hu;subst hu;exact U
  |2,hu=>simp at hu;subst hu;exact F
  |3,hu=>simp at hu;subst hu;exact M
 intro b cap w' B r i Z;have D:=IA B b rfl;refine H b _ cap w' (za rfl) ⟨z++ [l,h,d,m],by rw[zl];exact B, ?_⟩ r D;refine((W.snoc A).ag (fun k hk hS=>⟨hS.1, ?_⟩) fun p K hS=>zG (r.block _ K (fun e=>hS.2 e.symm)));intro e;have e:b=k:=by simpa[Value.ownBlock]using e
 rcases i with i|i
 ·exact hS.2 (by rw[i,e])
 omega
theorem ME :(prog.info? 43).map (fun i=>(i.zero,i.size,i.bytes))=some (some (.agg #[.int .i64 0,.int .i64 0,.slice none 0 0,.int .i64 0]),4,48):=by kernel_rfl
mutual
def fK (w:World)(S:Nat->Prop):Ty->Value->Value->Value->Value->Prop
 | .mk k s l t,c0,c1,c2,c3=>c0= .int .i64 k/\c1= .int .i64 s/\c3= .int .i64 t/\mL k/\mL s/\mL t/\l.length<=9223372036854775807/\∃A cap,c2= .slice A l.length cap/\l.length<=cap/\cap<=9223372036854775807/\oz w S l A 0
def oz (w:World)(S:Nat->Prop):List Ty->Option Addr->Nat->Prop
 | [],_,_=>True
 |x::xs,A,i=>(∃b o c0 c1 c2 c3,A=some ⟨b,o,none⟩/\S b/\w.cell? ⟨b,o+i*4,none⟩=some c0/\w.cell? ⟨b,o+i*4+1,none⟩=some c1/\w.cell? ⟨b,o+i*4+2,none⟩=some c2/\w.cell? ⟨b,o+i*4+3,none⟩=some c3/\fK w S x c0 c1 c2 c3)/\oz w S xs A (i+1)
end
theorem oz.at_ :∀{s:List Ty} {i:Nat},oz w S s A i->∀(j:Nat) (h:j<s.length),∃b o k c e d,A=some ⟨b,o,none⟩/\S b/\w.cell? ⟨b,o+(i+j)*4,none⟩=some k/\w.cell? ⟨b,o+(i+j)*4+1,none⟩=some c/\w.cell? ⟨b,o+(i+j)*4+2,none⟩=some e/\w.cell? ⟨b,o+(i+j)*4+3,none⟩=some d/\fK w S s[j] k c e d
 | [],_,_,j,h=>by simp at h
 |x::xs,i,hi,0,_=>by simpa[oz]using hi.1
 |x::xs,i,hi,j+1,h=>by
  have:=oz.at_ hi.2 j (by simpa using h);rw[show i+1+j=i+(j+1)from by omega]at this;simpa using this
theorem oz.GM :∀{s:List Ty} {i:Nat},(∀(j:Nat) (h:j<s.length),∃b o d e c k,A=some ⟨b,o,none⟩/\S b/\w.cell? ⟨b,o+(i+j)*4,none⟩=some d/\w.cell? ⟨b,o+(i+j)*4+1,none⟩=some e/\w.cell? ⟨b,o+(i+j)*4+2,none⟩=some c/\w.cell? ⟨b,o+(i+j)*4+3,none⟩=some k/\fK w S s[j] d e c k)->oz w S s A i
 | [],_,_=>by simp[oz]
 |x::xs,i,h=>by
  refine⟨h 0 (Nat.zero_lt_succ _),oz.GM fun j l=> ?_⟩;have:=h (j+1) (by simpa using l);rw[show i+(j+1)=i+1+j from by omega]at this;simpa using this
theorem fK.ag (hS:∀k,k<w.heap.size->S k->S' k)(e:∀p:Addr,p.block<w.heap.size->S p.block->w'.cell? p=w.cell? p):∀(x:Ty) {n m i q:Value},fK w S x n m i q->fK w' S' x n m i q:=by
 intro x;induction x using Ty.ind with
 |h k s l t ih=>
  intro n m i q h;obtain⟨C,J,F,k1,k2,I,D,A,cap,K,z,y,L⟩:=h;refine⟨C,J,F,k1,k2,I,D,A,cap,K,z,y,oz.GM fun j r=> ?_⟩;obtain⟨b,o,d0,d1,d2,d3,E,c,u,G,H,B,hi⟩:=L.at_ j r;have d:=lt_of_cell u;exact⟨b,o,d0,d1,d2,d3,E,hS _ d c,(e _ d c).trans u,(e _ d c).trans G,(e _ d c).trans H,(e _ d c).trans B,ih _ (zR r) hi⟩
theorem fK.iz {x:Ty}{b c:Value}(h:fK w S x e b d c)(hS:∀k,k<w.heap.size->S k->S' k):fK w S' x e b d c:=fK.ag hS (fun _ _ _=>rfl) x h
theorem fK.only {x:Ty}{c b:Value}(h:fK w S x c d b e)(m:ae L w w')(j:∀k,k∈L->¬S k)(hS:∀k,k<w.heap.size->S k->S' k):fK w' S' x c d b e:=
 fK.ag hS (fun p n l=>m.cell n fun i=>j _ i l) x h
theorem fK.below {x:Ty}{c b:Value}(h:fK w S x c d b e)(j:Below w.heap.size w w'):fK w' S x c d b e:=fK.ag (fun _ _ h=>h) (fun _ i _=>j.cell i) x h
theorem fK.Fg :∀(x:Ty) {e d c i:Value},fK w S x e d c i->cG w w.heap.size x e d c i:=by
 intro x;induction x using Ty.ind with
 |h k s l t ih=>
  intro e d c i h;obtain⟨r,E,z,k1,k2,D,u,A,cap,F,G,p,H⟩:=h;refine⟨r,E,z,k1,k2,D,u,A,cap,F,G,p,fk.GM fun j m=> ?_⟩;obtain⟨b,o,d0,d1,d2,d3,y,I,n,B,C,q,hi⟩:=H.at_ j m;exact⟨b,o,d0,d1,d2,d3,y,lt_of_cell n,n,B,C,q,ih _ (zR m) hi⟩
theorem fK.open_ {x:Ty}{c b:Value}(h:fK w S x c d b e):∃A cap,c= .int .i64 x.kind/\d= .int .i64 x.size/\b= .slice A x.sub.length cap/\e= .int .i64 x.tail/\mL x.kind/\mL x.size/\mL x.tail/\x.sub.length<=cap/\cap<=9223372036854775807/\oz w S x.sub A 0:=by
 cases x with
 |mk k s l t=>
  obtain⟨r,o,q,m,j,n,z,A,cap,p,u,i,y⟩:=h;exact⟨A,cap,r,o,p,q,m,j,n,u,i,y⟩
def jy (w:World)(S:Nat->Prop):List Ty->List Value->Prop
 | [],cs=>cs= []
 |x::xs,cs=>∃c0 c1 c2 c3 ds,cs=c0::c1::c2::c3::ds/\fK w S x c0 c1 c2 c3/\jy w S xs ds
theorem jy.ag (hS:∀k,k<w.heap.size->S k->S' k)(c:∀p:Addr,p.block<w.heap.size->S p.block->w'.cell? p=w.cell? p):∀{s:List Ty} {b:List Value},jy w S s b->jy w' S' s b
 | [],b,h=>h
 |x::xs,b,h=>by
  obtain⟨e,j,d,n,i,rfl,l,m⟩:=h;exact⟨e,j,d,n,i,rfl,fK.ag hS c x l,m.ag hS c⟩
theorem jy.snoc {y:Ty}{c:Value}(j:fK w S y d e c i):∀{s:List Ty} {b:List Value},jy w S s b->jy w S (s++ [y]) (b++ [d,e,c,i])
 | [],b,h=>by
  have h:b= []:=h;subst h;exact⟨d,e,c,i,[],rfl,j,rfl⟩
 |x::xs,b,h=>by
  obtain⟨l,m,q,n,k,rfl,o,p⟩:=h;exact⟨l,m,q,n,k++ [d,e,c,i],by simp,o,p.snoc j⟩
theorem oz.fj {b:Nat}(m:S b):∀{s:List Ty} {i:Nat} {c:List Value},jy w S s c->(∀j u,c[j]?=some u->w.cell? ⟨b,o+i*4+j,none⟩=some u)->oz w S s (some ⟨b,o,none⟩) i
 | [],_,_,_,_=>trivial
 |x::xs,i,c,h,hc=>by
  obtain⟨e,k,d,l,q,rfl,n,p⟩:=h;refine⟨⟨b,o,e,k,d,l,rfl,m,by simpa using hc 0 e (by simp),hc 1 k (by simp),hc 2 d (by simp),hc 3 l (by simp),n⟩,oz.fj m p fun j u hu=> ?_⟩;have:=hc (j+4) u (by simpa using hu);rw[show o+(i+1)*4+j=o+i*4+(j+4)from by omega];exact this
def eP (w:World)(lo:Nat)(acc:List Ty)(v:Value):Prop:=∃cs,w.ownsRow lo 43 4 v acc.length cs/\jy w (fun k=>lo<=k/\v.ownBlock≠some k) acc cs
theorem eP.nil (w:World)(b:Nat):eP w b [] (.slice none 0 0):=⟨[],⟨by simp,.inl ⟨rfl,rfl⟩⟩,rfl⟩
theorem eP.form {e:Nat}{acc:List Ty}(h:eP w e acc v):∃A cap,v= .slice A acc.length cap/\acc.length<=cap/\cap<=9223372036854775807:=by
 obtain⟨m,c,n⟩:=h;rcases c.2 with⟨d,i⟩|⟨g,cap,l,j,_,_,k,b,_⟩
 ·exact⟨none,0,by rw[d,i],by omega,by simp⟩
 exact⟨_,cap,j,k,by simpa[maxLen]using b⟩
theorem eP.cF {b:Nat}{acc:List Ty}(h:eP w b acc v):∃A n cap,v= .slice A n cap/\Hid (n=acc.length)/\n<=cap/\cap<=9223372036854775807:=by
 obtain⟨A,cap,c,d,e⟩:=h.form;exact⟨A,_,cap,c,za rfl,d,e⟩
theorem eP.ge {c:Nat}{acc:List Ty}(h:eP w c acc v):∀g,v.ownBlock=some g->c<=g/\g<w.heap.size:=by
 obtain⟨n,i,o⟩:=h;intro g b;rcases i.2 with⟨j,p⟩|⟨d,cap,m,k,e,l,_⟩
 ·rw[j]at b;cases b
 rw[k]at b;have:d=g:=by simpa[Value.ownBlock]using b
 subst this;exact⟨e,yP l⟩
theorem eP.ag {b:Nat}{acc:List Ty}(h:eP w b acc v)(d:∀k,b<=k->k<w.heap.size->w'.heap[k]?=w.heap[k]?):eP w' b acc v:=by
 obtain⟨i,c,j⟩:=h;refine⟨i,⟨c.1, ?_⟩,j.ag (fun _ _ h=>h) fun p l e=>zG (d _ e.1 l)⟩;rcases c.2 with h3|⟨g,cap,cur,hv,hg,hh,r⟩
 ·exact .inl h3
 exact .inr ⟨g,cap,cur,hv,hg,(d g hg (yP hh)).trans hh,r⟩
theorem eP.only {b:Nat}{acc:List Ty}(h:eP w b acc v)(i:ae L w w')(c:∀g,g∈L->g<b):eP w' b acc v:=
 h.ag fun k j e=>i.block k e fun d=>by have:=c k d;omega
theorem eP.below {b:Nat}{acc:List Ty}(h:eP w b acc v)(d:Below w.heap.size w w'):eP w' b acc v:=h.ag fun k _ c=>d.block k c
theorem eP.ty {c:Nat}{acc:List Ty}(h:eP w c acc v)(e:acc.length<=9223372036854775807){k:Int}(i:mL k)(hz:mL z)(l:mL t):fK w (c<= ·) (.mk k z acc t) (.int .i64 k) (.int .i64 z) v (.int .i64 t):=by
 obtain⟨A,cap,rfl,m,n⟩:=h.form;obtain⟨B,d,r⟩:=h;refine⟨rfl,rfl,rfl,i,hz,l,e,A,cap,rfl,m,n, ?_⟩;rcases d.2 with⟨b,p⟩|⟨g,s,x,q,o,y,_⟩
 ·obtain rfl:acc= []:=zp p;trivial
 injection q with hA _ hc;subst hA;subst hc;refine oz.fj o (r.ag (fun _ _ h=>h.1) (fun _ _ _=>rfl)) fun j u hu=> ?_
 have:=d.cells rfl j u hu;have b:(⟨g,0,none⟩:Addr).add j=⟨g,j,none⟩:=by unfold Addr.add;split<;>simp_all
 rw[b]at this;simpa using this
theorem afC {y:Ty}{c b:Value}(h:fK w S y c d b e):∀u∈ [c,d,b,e],u.oneCell'=true:=by
 obtain⟨A,cap,rfl,rfl,rfl,rfl,_⟩:=h.open_;intro u hu;simp at hu;rcases hu with rfl|rfl|rfl|rfl<;>rfl
theorem cA {o:Oper}(K:o.guard=none)(s x:Operand)
 (O:o.op= .call {callee:= .builtin .append,args:= #[s,x],argTypes:= #[41,41]}) (c:Nat) (acc:List Ty)  (M:a.eval s=v) (W:eP w c acc v) (y:Ty) {m:Value}
 (z:fK w (fun k=>c<=k/\v.ownBlock≠some k) y l h d m) (g:Nat) (hx:a.eval x= .slice (some ⟨g,0,none⟩) 1 1) (F:w.cell? ⟨g,0,none⟩=some l) (S:w.cell? ⟨g,1,none⟩=some h) (E:w.cell? ⟨g,2,none⟩=some d) (L:w.cell? ⟨g,3,none⟩=some m)
 (X:acc.length<=1000000) (D:c<=w.heap.size)
 (G:∀b n cap w',Hid (n=acc.length+1)->eP w' c (acc++ [y]) (.slice (some ⟨b,0,none⟩) n cap)->w.grownBy w' v.ownBlock->c<=b->wpList prog ops Q rest (a.put o.dst (.slice (some ⟨b,0,none⟩) n cap)) w'):wpList prog ops Q (o::rest) a w:=by
 obtain⟨i0,hi,B,I,H⟩:=yH ME;obtain⟨r,R,U⟩:=W;refine y9 w K s x 41 O c 43 i0 _ 4 48 underlying41 hi B I H rfl (by decide) v acc.length r M R ⟨g,0,none⟩ 1 1 [l,h,d,m] hx rfl ?_ (afC z) (by decide) (by simp only[maxLen];omega) (by omega) D w.heap.size rfl ?_
 ·intro j u hu;have N:∀j,(⟨g,0,none⟩:Addr).add j=⟨g,j,none⟩:=by intro j;unfold Addr.add;split<;>simp_all
  rw[N];match j,hu with
  |0,hu=>simp at hu;subst hu;exact F
  |1,hu=>simp at hu;subst hu;exact S
  |2,hu=>simp at hu;subst hu;exact E
  |3,hu=>simp at hu;subst hu;exact L
 intro b cap w' A q i Y;have C:=IA A b rfl;refine G b _ cap w' (za rfl) ⟨r++ [l,h,d,m],by rw[zl];exact A, ?_⟩ q C;refine((U.snoc z).ag (fun k Z hS=>⟨hS.1, ?_⟩) fun p J hS=>zG (q.block _ J (fun e=>hS.2 e.symm)));intro e;have e:b=k:=by simpa[Value.ownBlock]using e
 rcases i with i|i
 ·exact hS.2 (by rw[i,e])
 omega
theorem fK.leaf {k:Int}(c:mL k)(hz:mL z)(b:mL t):fK w S (.mk k z [] t) (.int .i64 k) (.int .i64 z) (.slice none 0 0) (.int .i64 t):=⟨rfl,rfl,rfl,c,hz,b,by simp,none,0,rfl,by simp,by simp,trivial⟩
theorem aC {i:Int}(b:0<=i)(c:i<=100000000):mL i:=by unfold mL;omega
theorem lh (c:k<s.size)(h:iT (s.data.toList.take k)=true)(b:oG s[k].toNat=true):iT (s.data.toList.take (k+1))=true:=by
 rw[jC s k c,uO,h,b];rfl
theorem ny (c:k<s.size)(b:oG s[k].toNat=false):cd s=false:=by
 have:iT (s.data.toList.take (k+1))=false:=by rw[jC s k c,uO,b];simp
 rw[cd,At _ _ this];rfl
theorem Kw (d:¬k<s.size)(b:1<=s.size)(c:s.size<=12)(h:iT (s.data.toList.take k)=true):cd s=true:=by
 rw[zz (by simp;omega)]at h;rw[OY b c,h]
theorem ql (s:ByteArray)(w:World)(u:s.size<=9223372036854775807):
 Calls prog 123 #[.string s] w fun e w'=>e= .returned (.bool (cd s))/\w=w':=by
 by_cases o:1<=s.size
 ·by_cases p:s.size<=12
  ·go_enter func123,ntmps123
   go_wp2;go_loop [15] (fun i=>∃k:Nat,k<=s.size/\Hid (iT (s.data.toList.take k)=true)/\i= .int .i64 k) (fun i=>s.size-(intOf i).toNat)
   case atStart=>exact⟨0,by omega,za (by simp[iT]),rfl⟩
   case round=>
    obtain⟨k,y,j,rfl⟩:=hrel;by_cases b:k<s.size
    ·rcases BE s[k].toNat s[k].toNat_lt with⟨d,m,q⟩|⟨d,m⟩
     ·have c:=za d;have n:(((s[k].toNat:Nat):Int) !=95)=true:=yz.2 (by omega);clear d q;rcases m with h|⟨h,l⟩|⟨h,l⟩|h;all_goals
       go_wp2;go_ret;exact⟨aV (ny b c.out),rfl⟩
     have c:=za d;clear d;rcases m with⟨h,l⟩|h|⟨h,l⟩
     ·go_wp2;go_round
      case rel=>exact⟨k+1,by omega,za (lh b j.out c.out),by go_num⟩
      case measure=>simp[intOf];omega
     ·have n:(((s[k].toNat:Nat):Int) !=95)=false:=by simp[h]
      have r:94<s[k].toNat:=by omega
      have x:s[k].toNat<96:=by omega
      clear h;go_wp2;go_round
      case rel=>exact⟨k+1,by omega,za (lh b j.out c.out),by go_num⟩
      case measure=>simp[intOf];omega
     go_wp2;go_round
     case rel=>exact⟨k+1,by omega,za (lh b j.out c.out),by go_num⟩
     case measure=>simp[intOf];omega
    go_wp2;go_ret;exact⟨aV (Kw b o p j.out),rfl⟩
  go_enter func123,ntmps123
  go_wp2;go_ret;exact⟨aV (pP (by omega)),rfl⟩
 go_enter func123,ntmps123
 go_wp2;go_ret;exact⟨aV (pP (by omega)),rfl⟩
theorem MF (s:ByteArray)(w:World)(x:s.size<=9223372036854775807):
 Calls prog 50 #[.string s] w fun e w'=>e= .returned (.bool (cd s))/\w=w':=by
 go_enter func50,ntmps50
 go_wp2;go_loop [3] (fun i=>∃k:Nat,k<=s.size/\Hid (iT (s.data.toList.take k)=true)/\i= .int .i64 k) (fun i=>s.size-(intOf i).toNat)
 case atStart=>exact⟨0,by omega,za (by simp[iT]),rfl⟩
 case round=>
  obtain⟨k,A,j,rfl⟩:=hrel;by_cases b:k<s.size
  ·rcases BE s[k].toNat s[k].toNat_lt with⟨d,n,r⟩|⟨d,n⟩
   ·have c:=za d;have o:(((s[k].toNat:Nat):Int)==95)=false:=zo.2 (by omega);clear d r;rcases n with h|⟨h,m⟩|⟨h,m⟩|h
    ·go_wp2;go_ret;exact⟨aV (ny b c.out),rfl⟩
    ·have l:decide (((s[k].toNat:Nat):Int)<=57)=false:=zv (by omega);go_wp2;go_ret;exact⟨aV (ny b c.out),rfl⟩
    ·have l:decide (((s[k].toNat:Nat):Int)<=57)=false:=zv (by omega);go_wp2;go_ret;exact⟨aV (ny b c.out),rfl⟩
    have l:decide (((s[k].toNat:Nat):Int)<=57)=false:=zv (by omega);have y:decide (((s[k].toNat:Nat):Int)<=122)=false:=zv (by omega);go_wp2;go_ret;exact⟨aV (ny b c.out),rfl⟩
   have c:=za d;clear d;rcases n with⟨h,m⟩|h|⟨h,m⟩
   ·go_wp2;go_round
    case rel=>exact⟨k+1,by omega,za (lh b j.out c.out),by go_num⟩
    case measure=>simp[intOf];omega
   ·have o:(((s[k].toNat:Nat):Int)==95)=true:=by simp[h]
    have u:94<s[k].toNat:=by omega
    have z:s[k].toNat<96:=by omega
    clear h;go_wp2;go_round
    case rel=>exact⟨k+1,by omega,za (lh b j.out c.out),by go_num⟩
    case measure=>simp[intOf];omega
   go_wp2;go_round
   case rel=>exact⟨k+1,by omega,za (lh b j.out c.out),by go_num⟩
   case measure=>simp[intOf];omega
  by_cases p:1<=s.size
  ·by_cases q:s.size<=12
   ·have l:decide ((s.size:Int)<=12)=true:=zD (by omega);go_wp2;go_ret;exact⟨aV (Kw b p q j.out),rfl⟩
   have l:decide ((s.size:Int)<=12)=false:=zv (by omega);go_wp2;go_ret;exact⟨aV (pP (by omega)),rfl⟩
  go_wp2;go_ret;exact⟨aV (pP (by omega)),rfl⟩
theorem MG (l:List UInt8):rC (l++ [0])=rC l:=by simp[rC]
theorem MH (l:List UInt8)(b:UInt8)(h:b≠0):rC (l++ [b])=l++ [b]:=by simp[rC,h]
theorem Fh (y:ByteArray)(k:Nat)(h:y.size=k+1):y.data.toList=(y.extract 0 k).data.toList++ [y[k]]:=by
 rw[ar,zL,<-jC y k (by omega),<-h,cT]
theorem MK (h:y.size=k+1)(b:dj y=dj s)(c:(y[k].toNat:Int)=0):dj (y.extract 0 k)=dj s:=by
 rw[<-b];unfold dj;rw[Fh y k h];have:y[k]=0:=by
  apply zS.1;have:y[k].toNat=0:=by omega
  simpa using this
 rw[this,MG]
theorem ML (h:y.size=k+1)(i:dj y=dj s)(d:(y[k].toNat:Int)≠0):y=dj s:=by
 rw[<-i];unfold dj;have b:=Fh y k h;have c:y[k]≠0:=by
  intro e;apply d;rw[e];rfl
 apply aM;rw[b,MH _ _ c]
theorem PJ (h:y.size=0)(b:dj y=dj s):y=dj s:=by
 rw[<-b];have:y.data.toList= []:=zp (by simpa using h);apply aM;unfold dj;rw[this];rfl
theorem IB (s:ByteArray)(w:World)(j:s.size<=9223372036854775807):
 Calls prog 160 #[.string s,.int .u8 0] w fun e w'=>e= .returned (.string (dj s))/\w=w':=by
 go_enter func160,ntmps160
 go_wp2;go_loop [0] (fun x=>∃(y:ByteArray),Hid (dj y=dj s)/\y.size<=9223372036854775807/\x= .string y) (fun x=>strOf x)
 case atStart=>exact⟨s,za rfl,j,rfl⟩
 case round=>
  obtain⟨y,b,hz,rfl⟩:=hrel;rcases Zi y.size with h0|h0
  ·have i:=za h0;have m:y.size<=0:=by omega
   clear h0;go_wp2;go_ret;exact⟨nU (PJ i.out b.out).symm,rfl⟩
  obtain⟨k,c⟩:∃k,y.size=k+1:=⟨y.size-1,by omega⟩
  have d:=za c;have l:k<y.size:=by omega
  have n:(y.size:Int)-1=k:=by omega
  rcases xf ((y[k].toNat:Int)==0)with h|h
  ·clear c;go_wp2;go_round
   case rel=>exact⟨y.extract 0 k,za (MK d.out b.out (by simpa using h)),by rw[an _ _ _ (by omega)];omega,rfl⟩
   case measure=>simp[an];omega
  clear c;go_wp2;go_ret;exact⟨nU (ML d.out b.out (by simpa using h)).symm,rfl⟩
theorem PK :(prog.info? 5).map (·.size)=some 1:=by kernel_rfl
def z12 :Array Value:= #[.int .u8 0,.int .u8 0,.int .u8 0,.int .u8 0,.int .u8 0,.int .u8 0,.int .u8 0,.int .u8 0,.int .u8 0,.int .u8 0,.int .u8 0,.int .u8 0]
theorem PL :z12.toList=cb (List.replicate 12 0):=rfl
theorem WO (w:World)(ty t:TypeId)(s:ByteArray)(b:s.size<=12):
 (Builtin.copy_ #[31,9] ty #[.slice (some ⟨w.heap.size,0,none⟩) 12 12,.string s]).run prog (w.alloc (.cells z12 t))= .ok (goInt s.size) (w.alloc (.cells (cb (fc s).data.toList).toArray t)):=by
 have h:=Lib.run_copy_row_string (P:=prog) (w.alloc (.cells z12 t)) 31 9 ty 5 w.heap.size 0 12 12 s z12 t zt PK (yR w _) b (by simpa[z12]using b);rw[h,World.setRow_alloc_new];have e:(z12.toList.take 0++Lib.byteCells s.data.toList++z12.toList.drop (0+s.size))=cb (fc s).data.toList:=by
  rw[lK,gE,PL,yC,yy,zQ,<-Tj,List.drop_replicate];rfl
 rw[e]
theorem WQ (w:World)(t:TypeId)(s:ByteArray)(b:s.size<=12):
 (convert 31 9 (.slice (some ⟨w.heap.size,0,none⟩) 12 12)).run prog (w.alloc (.cells (cb (fc s).data.toList).toArray t))= .ok (.string (fc s)) (w.alloc (.cells (cb (fc s).data.toList).toArray t)):=by
 have c:(fc s).data.toList.length=12:=by rw[aa];exact im s b
 have:=CJ (P:=prog) (w.alloc (.cells (cb (fc s).data.toList).toArray t)) 31 9 5 zt yw zN ⟨w.heap.size,0,none⟩ 12 (fc s).data.toList (fun j u hu=>ZF (yR w (.cells (cb (fc s).data.toList).toArray t)) j u (by simpa using hu));rw[c,iP]at this;exact this
theorem MM (s:ByteArray)(w:World)(c:s.size<=9223372036854775807)(b:cd s=false):
 Calls prog 96 #[.string s] w fun e w'=>e= .returned (.tuple #[.string ByteArray.empty,.int .i64 11])/\w=w':=by
 have H:=ql s w c;rw[b]at H;have d:=za H;clear H b;go_enter func96,ntmps96
 go_wp2_with fail
 refine d.out.mono ?_;rintro e w' ⟨rfl,rfl⟩;go_wp2;go_ret2
 exact⟨rfl,rfl⟩
theorem Fi (s:ByteArray)(w:World)(b:cd s=true):
 Calls prog 96 #[.string s] w fun e w'=>e= .returned (.tuple #[.string (fc s),.int .i64 0])/\Below w.heap.size w w':=by
 have hz:=dE b;have H:=ql s w (by omega);rw[b]at H;have h:=za H;clear H b;have k1:=fun(ty t:TypeId)=>WO w ty t s hz.2
 have k2:=fun(t:TypeId)=>WQ w t s hz.2
 have c:=fun t=>(zm w.heap.size w).alloc (zg _) (.cells (cb (fc s).data.toList).toArray t)
 have d:=za c;clear c;simp only[z12]at k1;go_enter func96,ntmps96
 go_wp2_with fail
 refine h.out.mono ?_;rintro e w' ⟨rfl,rfl⟩;go_wp2;go_ret2
 exact⟨rfl,d.out _⟩
theorem s6 (s:ByteArray)(w:World)(c:s.size<=9223372036854775807):
 Calls prog 130 #[.string s,.string ⟨#[0]⟩] w fun e w'=>e= .returned (.string (dj s))/\w=w':=by
 rcases gq s with⟨b,rfl⟩|⟨b,h,d⟩
 ·clear b;go_enter func130,ntmps130
  go_wp2_with fail
  go_ret;exact⟨rfl,rfl⟩
 clear b;go_enter func130,ntmps130
 go_wp2_with fail
 refine(IB s w c).mono ?_;rintro e w' ⟨rfl,rfl⟩;go_wp2;go_ret;exact⟨rfl,rfl⟩
theorem PM (s:ByteArray):(dj s).size<=s.size:=by
 obtain⟨n,b⟩:=BF s.data.toList;have:=xo List.length b;rw[dj,bP];simp only[zl,aa]at this;omega
theorem PN (s:ByteArray)(w:World)(d:s.size<=9223372036854775807):
 Calls prog 105 #[.string s] w fun e w'=>e= .returned (.tuple #[.string (da s).2,.int .i64 (da s).1])/\w=w':=by
 have hz:=PM s;by_cases b:s.size=12
 ·have j:((s.size:Int) !=12)=false:=by simp[b]
  have i:=za (ql (dj s) w (by omega));have c:=za (show da s=if cd (dj s)=true then(0,dj s)else(3,ByteArray.empty)by unfold da;simp[b]);clear b hz;rcases xf (cd (dj s))with h|h;all_goals
   rw[h]at i c;go_enter func105,ntmps105
   go_wp2_with fail
   refine(s6 s w d).mono ?_;rintro e w' ⟨rfl,rfl⟩;go_wp2_with fail
   refine i.out.mono ?_;rintro e w' ⟨rfl,rfl⟩;go_wp2;go_ret2
   exact⟨by rw[c.out];rfl,rfl⟩
 have j:((s.size:Int) !=12)=true:=yz.2 (by omega);have c:=za (Er s b);clear b hz;go_enter func105,ntmps105
 go_wp2_with fail
 refine(s6 s w d).mono ?_;rintro e w' ⟨rfl,rfl⟩;go_wp2;go_ret2
 exact⟨by rw[c.out];rfl,rfl⟩
theorem ph :(prog.info? 5).map (fun i=>(i.zero,i.size,i.bytes))=some (some (.int .u8 0),1,1):=by kernel_rfl
def WR (n sz:Nat)(w:World)(i:Value)(wr:World):Prop:=
 ∃k:Nat,k<=sz/\i= .int .i64 k/\bF wr w.heap.size 5 (.slice (some ⟨w.heap.size,0,none⟩) sz sz) (jF n k++List.replicate (sz-k) 0)/\Kept 5 w.heap.size w wr
theorem Fj (n sz:Nat)(w:World)(E:n<18446744073709551616)(B:sz<=8):
 Calls prog 128 #[.int .u64 n,.int .i64 sz] w fun e w'=>e= .returned (.slice (some ⟨w.heap.size,0,none⟩) sz sz)/\bF w' w.heap.size 5 (.slice (some ⟨w.heap.size,0,none⟩) sz sz) (jF n sz)/\Kept 5 w.heap.size w w':=by
 obtain⟨i0,hi,r,y,x⟩:=yH ph;go_enter func128,ntmps128
 go_wp2_with (at_make;refine wpList_make_full _ rfl _ _ 31 rfl w.heap.size 5 i0 (.int .u8 0) 1 zt hi r y .i64 .i64 _ _ sz rfl rfl (by omega) (by omega) (by rw[x];omega) (by simp only[maxLen];omega) (by omega) ?_;intro j c h)
 have p:bF j w.heap.size 5 (.slice (some ⟨w.heap.size,0,none⟩) sz sz) (List.replicate sz 0):=by
  rw[uQ]at c;have:=bF.own (l:=List.replicate sz 0) (by simpa using c);simpa using this
 have q:Kept 5 w.heap.size w j:=Kept.J8 h (zg _);clear c h;go_loopw [10] (fun i wr=>WR n sz w i wr) (fun i _=>sz-(intOf i).toNat)
 case atStart=>exact⟨0,by omega,rfl,by simpa[jF]using p,q⟩
 case round=>
  obtain⟨k,F,rfl,b,d⟩:=hrel;clear p q;by_cases u:k<sz
  ·have z:(jF n k++List.replicate (sz-k) (0:UInt8)).length=sz:=by rw[zl,bd,xA];omega
   obtain⟨A,f1,g1,g2⟩:=b.at_ (k:=k) (by omega);have m:=za (b.set (k:=k) (by omega) (ub (n/2^(8*k)%256:Nat)));rw[Pa u]at m;obtain⟨C,D,o,_⟩:=b.block;have s:=za (fun v=>d.store (k:=k) o (zg _) v);clear z o b d;go_wp2;go_roundw
   case rel=>
    rw[Ts];exact⟨k+1,by omega,by go_num,m.out,s.out _⟩
   case measure=>simp[intOf];omega
  go_wp2;go_ret;obtain rfl:sz=k:=by omega
  exact⟨rfl,by simpa using b,d⟩
theorem TN (n sz:Nat)(w:World)(b:n<2^(8*sz))(c:1<=sz)(h:sz<=8):
 Calls prog 127 #[.int .u64 n,.int .i64 sz] w fun e w'=>e= .returned (.int .i64 0)/\w=w':=by
 have d:(n:Int)/2^(8*sz)=0:=by
  have:((n/2^(8*sz):Nat):Int)=0:=by rw[Nat.div_eq_of_lt b];rfl
  simpa using this
 clear b;go_enter func127,ntmps127
 go_wp2;go_ret;exact⟨rfl,rfl⟩
theorem Fk {a:Int}{b c:Nat}(h:a=(b:Int))(d:b=c):Ending.returned (.tuple #[.int .u64 a,.int .i64 0])= .returned (.tuple #[.int .u64 c,.int .i64 0]):=by
 subst h;subst d;rfl
def rv (l:List UInt8):Nat->List UInt8
 |0=>l
 |k+1=>((rv l k).set k ((rv l k).getD (l.length-1-k) 0)).set (l.length-1-k) ((rv l k).getD k 0)
theorem rO (l:List UInt8)(k:Nat):(rv l k).length=l.length:=by
 induction k with
 |zero=>rfl
 |succ k ih=>simp[rv,ih]
theorem abL (l:List UInt8)(k:Nat):2*k<=l.length+1->∀j,j<l.length->(rv l k)[j]?=if j<k\/l.length-k<=j then l[l.length-1-j]? else l[j]?:=by
 induction k with
 |zero=>intro _ j b;rw[zh (by omega)];rfl
 |succ k ih=>
  intro o j b;have d:=ih (by omega);have m:=d k (by omega);have n:=d (l.length-1-k) (by omega);have i:=rO l k;simp only[rv,List.getElem?_set,zw,Zh,i];by_cases e:l.length-1-k=j
  ·subst e;rw[zi rfl,zi b,zi (by omega),m];by_cases c:k=l.length-1-k
   ·rw[zh (by omega),<-c,zB (by omega),];simp only[Option.getD_some];rw[show l.length-1-k=k from by omega,zB (by omega)]
   rw[zh (by omega),show l.length-1-(l.length-1-k)=k from by omega,zB (by omega)];rfl
  rw[zh e];by_cases h:k=j
  ·subst h;rw[zi rfl,zi b,zi (by omega),n,zh (by omega),zB (by omega)];rfl
  rw[zh h,d j b];by_cases c:j<k\/l.length-k<=j
  ·rw[zi c,zi (by omega)]
  rw[zh c,zh (by omega)]
theorem WS (l:List UInt8)(k:Nat)(h:l.length<=2*k+1)(d:2*k<=l.length+1):rv l k=l.reverse:=by
 apply List.ext_getElem?;intro j;by_cases c:j<l.length
 ·rw[abL l k d j c,List.getElem?_reverse c];by_cases b:j<k\/l.length-k<=j
  ·rw[zi b]
  rw[zh b,show l.length-1-j=j from by omega]
 rw[y8 (by rw[rO];omega),y8 (by simp;omega)]
theorem MN (base g cap:Nat)(l:List UInt8)(w:World)(p:bF w base 5 (.slice (some ⟨g,0,none⟩) l.length cap) l)(A:l.length<=1099511627776):
 Calls prog 234 #[.slice (some ⟨g,0,none⟩) l.length cap] w fun e w'=>e= .returned (.tuple #[])/\bF w' base 5 (.slice (some ⟨g,0,none⟩) l.length cap) l.reverse/\Kept 5 base w w':=by
 obtain⟨n,o⟩:∃n,l.length=n:=⟨_,rfl⟩
 rw[o]at p A⊢;have c:=za o;clear o;go_enter func234,ntmps234
 go_wp2;go_loopw [2,3] (fun i j wr=>∃k:Nat,2*k<=n+1/\i= .int .i64 k/\j= .int .i64 ((n:Int)-1-k)/\bF wr base 5 (.slice (some ⟨g,0,none⟩) n cap) (rv l k)/\Kept 5 base w wr) (fun i _ _=>n-(intOf i).toNat)
 case atStart=>exact⟨0,by omega,rfl,by go_num,p,Kept.refl _ _ _⟩
 case round=>
  obtain⟨k,K,rfl,rfl,b,m⟩:=hrel;clear p;by_cases E:2*k+1<n
  ·have z:(rv l k).length=n:=by rw[rO,c.out]
   obtain⟨d,hd⟩:∃d:Nat,n-1-k=d:=⟨_,rfl⟩
   have u:(n:Int)-1-k=d:=by omega
   obtain⟨D,f1,g1,g2⟩:=b.at_ (k:=k) (by omega);obtain⟨C,f2,_,_⟩:=b.at_ (k:=d) (by omega);have q:=za ((b.set (k:=k) (by omega) ((rv l k).getD d 0)).set (k:=d) (by rw[Zh];omega) ((rv l k).getD k 0));obtain⟨H,I,h,r⟩:=b.block;have s:=za (((m.store (k:=k) h r (.int .u8 ((rv l k).getD d 0).toNat))).store (k:=d) (jr _ h) r (.int .u8 ((rv l k).getD k 0).toNat));have B:Hid (((rv l k).set k ((rv l k).getD d 0)).set d ((rv l k).getD k 0)=rv l (k+1)):=za (by simp only[rv];rw[c.out,hd]);rw[B.out]at q;have G:(⟨g,d,none⟩:Addr)≠⟨g,k,none⟩:=fun e=>by have:=xo Addr.off e;simp at this;omega
   rw[u];generalize ((rv l k).getD d 0).toNat=y at*;generalize ((rv l k).getD k 0).toNat=x at*;have F:k<d:=by omega
   have J:d<n:=by omega
   clear h b m z hd;go_wp2;go_region
   all_goals
    go_wp2;go_roundw
    case rel=>exact⟨k+1,by omega,by go_num,by go_num,q.out.drew,s.out.drew⟩
    case measure=>simp[intOf];omega
  have e:rv l k=l.reverse:=WS l k (by rw[c.out];omega) (by rw[c.out];omega);rw[e]at b;go_wp2;go_end0
  exact⟨rfl,b,m⟩
theorem MO (base g cap:Nat)(l:List UInt8)(w:World)(c:bF w base 5 (.slice (some ⟨g,0,none⟩) l.length cap) l)(i:l.length<=1099511627776):
 Calls prog 209 #[.slice (some ⟨g,0,none⟩) l.length cap] w fun e w'=>e= .returned (.string ⟨l.reverse.toArray⟩)/\Kept 5 base w w':=by
 have k:=za (MN base g cap l w c i);clear c;go_enter func209,ntmps209
 go_wp2_with fail
 refine k.out.mono ?_;rintro e o ⟨rfl,d,h⟩;have m:=d.Ex (P:=prog) zt yw zN;have j:=za h;clear d h;obtain⟨X,b⟩:∃X,Hid ((⟨l.reverse.toArray⟩:ByteArray)=X):=⟨_,za rfl⟩
 rw[b.out]at m;generalize l.length=n at*;go_wp2;go_ret;exact⟨by rw[b.out];rfl,j.out⟩
