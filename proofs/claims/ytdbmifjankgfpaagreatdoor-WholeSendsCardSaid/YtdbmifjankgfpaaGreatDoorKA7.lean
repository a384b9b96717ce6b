/- slices.Clone at items, item.List, item.Text. -/
import Derived.Test.YtdbmifjankgfpaaGreatDoorKA6
import Derived.WalkSpells
import Derived.Lib.BufferWrite
import Derived.Deep.WholeRow
set_option linter.all false
set_option maxRecDepth 100000
set_option maxHeartbeats 1000000
open Go.Proofs.Tryz
namespace Go.Proofs.YtdbmifjankgfpaaGreatDoor
open Go.RowKit
variable {w w':World}{S S':Nat->Prop}{v d e i l h:Value}{acc:List Ms}{A:Option Addr}{L:List Nat}{k o:Nat}{s y:ByteArray}{x:It}{m:Ms}{ops:Array Oper}{rest:List Oper}{a:Act}{Q:Exit->Act->World->Prop}{z t:Int}
def zk:=@bodyPost_ret
def zM:=@underlying9
def yq:=@underlying5
def yO:=@bne_iff_ne
def Zl:=@underlying50
theorem B7 :(prog.info? 28).map (fun i=>(i.zero,i.size,i.bytes))=some (some (.agg #[.string ⟨#[]⟩,.bool false,.slice none 0 0]),3,48):=by kernel_rfl
theorem pf (s:ByteArray)(w:World):
 Calls prog 197 #[.string s] w fun e w'=>e= .returned (.agg #[.string s,.bool false,.slice none 0 0])/\Below w.heap.size w w':=by
 go_enter func197,ntmps197
 go_wp2;refine zk (v:= .agg #[.string s,.bool false,.slice none 0 0]) (by simp[results,results197,go_sem]) rfl ⟨rfl, ?_⟩;exact bD
theorem IU {base cap n:Nat}{i:List Value}{e:TypeId}(c:w.ownsRow base e k (.slice A n cap) n i):∀g,(Value.slice A n cap).ownBlock=some g->base<=g:=by
 intro g b;rcases c.2 with⟨h,o⟩|⟨j,p,m,d,l,_⟩
 ·rw[h]at b;cases b
 rw[d]at b;have:j=g:=by simpa[Value.ownBlock]using b
 omega
mutual
def ga (w:World)(S:Nat->Prop):It->Value->Value->Value->Prop
 | .mk t l s,c0,c1,c2=>c0= .string t/\c1= .bool l/\t.size<=9223372036854775807/\s.length<=9223372036854775807/\∃A cap,c2= .slice A s.length cap/\s.length<=cap/\cap<=9223372036854775807/\nk w S s A 0
def nk (w:World)(S:Nat->Prop):List It->Option Addr->Nat->Prop
 | [],_,_=>True
 |x::xs,A,i=>(∃b o c0 c1 c2,A=some ⟨b,o,none⟩/\S b/\w.cell? ⟨b,o+i*3,none⟩=some c0/\w.cell? ⟨b,o+i*3+1,none⟩=some c1/\w.cell? ⟨b,o+i*3+2,none⟩=some c2/\ga w S x c0 c1 c2)/\nk w S xs A (i+1)
end
theorem nk.at_ :∀{s:List It} {i:Nat},nk w S s A i->∀(j:Nat) (h:j<s.length),∃b o c d e,A=some ⟨b,o,none⟩/\S b/\w.cell? ⟨b,o+(i+j)*3,none⟩=some c/\w.cell? ⟨b,o+(i+j)*3+1,none⟩=some d/\w.cell? ⟨b,o+(i+j)*3+2,none⟩=some e/\ga w S s[j] c d e
 | [],_,_,j,h=>by simp at h
 |x::xs,i,hi,0,_=>by simpa[nk]using hi.1
 |x::xs,i,hi,j+1,h=>by
  have:=nk.at_ hi.2 j (by simpa using h);rw[show i+1+j=i+(j+1)from by omega]at this;simpa using this
theorem nk.Fv :∀{s:List It} {i:Nat},(∀(j:Nat) (h:j<s.length),∃b o c d e,A=some ⟨b,o,none⟩/\S b/\w.cell? ⟨b,o+(i+j)*3,none⟩=some c/\w.cell? ⟨b,o+(i+j)*3+1,none⟩=some d/\w.cell? ⟨b,o+(i+j)*3+2,none⟩=some e/\ga w S s[j] c d e)->nk w S s A i
 | [],_,_=>by simp[nk]
 |x::xs,i,h=>by
  refine⟨h 0 (Nat.zero_lt_succ _),nk.Fv fun j k=> ?_⟩;have:=h (j+1) (by simpa using k);rw[show i+(j+1)=i+1+j from by omega]at this;simpa using this
theorem ga.ag (hS:∀k,k<w.heap.size->S k->S' k)(i:∀p:Addr,p.block<w.heap.size->S p.block->w'.cell? p=w.cell? p):∀(x:It) {n e m:Value},ga w S x n e m->ga w' S' x n e m:=by
 intro x;induction x using It.ind with
 |h t l s ih=>
  intro n e m h;obtain⟨C,H,D,I,A,cap,y,G,F,E⟩:=h;refine⟨C,H,D,I,A,cap,y,G,F,nk.Fv fun j r=> ?_⟩;obtain⟨b,o,d0,d1,d2,u,d,q,z,B,hi⟩:=E.at_ j r;have c:=lt_of_cell q;exact⟨b,o,d0,d1,d2,u,hS _ c d,(i _ c d).trans q,(i _ c d).trans z,(i _ c d).trans B,ih _ (zE r) hi⟩
theorem ga.gQ {b c:Value}(h:ga w S x b c d)(hS:∀k,k<w.heap.size->S k->S' k):ga w S' x b c d:=ga.ag hS (fun _ _ _=>rfl) x h
theorem ga.only {b c:Value}(h:ga w S x b c d)(e:ae L w w')(i:∀k,k∈L->¬S k)(hS:∀k,k<w.heap.size->S k->S' k):ga w' S' x b c d:=
 ga.ag hS (fun p l m=>e.cell l fun j=>i _ j m) x h
theorem ga.below {b c:Value}(h:ga w S x b c d)(e:Below w.heap.size w w'):ga w' S x b c d:=ga.ag (fun _ _ h=>h) (fun _ i _=>e.cell i) x h
theorem ga.AM :∀(x:It) {c d e:Value},ga w S x c d e->bT w w.heap.size x c d e:=by
 intro x;induction x using It.ind with
 |h t l s ih=>
  intro c d e h;obtain⟨q,n,y,B,A,cap,r,z,u,D⟩:=h;refine⟨q,n,y,B,A,cap,r,z,u,ch.Fv fun j i=> ?_⟩;obtain⟨b,o,d0,d1,d2,m,E,k,C,p,hi⟩:=D.at_ j i;exact⟨b,o,d0,d1,d2,m,lt_of_cell k,k,C,p,ih _ (zE i) hi⟩
theorem ga.open_ {b c:Value}(h:ga w S x b c d):∃A cap,b= .string x.text/\c= .bool x.list/\d= .slice A x.sub.length cap/\x.text.size<=9223372036854775807/\x.sub.length<=cap/\cap<=9223372036854775807/\nk w S x.sub A 0:=by
 cases x with
 |mk t l s=>
  obtain⟨i,e,m,p,A,cap,j,n,k,o⟩:=h;exact⟨A,cap,i,e,j,m,n,k,o⟩
theorem ga.text {t:ByteArray}(l:Bool)(b:t.size<=9223372036854775807):ga w S (.mk t l []) (.string t) (.bool l) (.slice none 0 0):=⟨rfl,rfl,b,by simp,none,0,rfl,by simp,by simp,trivial⟩
def fU (w:World)(S:Nat->Prop):List It->List Value->Prop
 | [],cs=>cs= []
 |x::xs,cs=>∃c0 c1 c2 ds,cs=c0::c1::c2::ds/\ga w S x c0 c1 c2/\fU w S xs ds
theorem fU.ag (hS:∀k,k<w.heap.size->S k->S' k)(c:∀p:Addr,p.block<w.heap.size->S p.block->w'.cell? p=w.cell? p):∀{s:List It} {b:List Value},fU w S s b->fU w' S' s b
 | [],b,h=>h
 |x::xs,b,h=>by
  obtain⟨d,i,l,m,rfl,e,j⟩:=h;exact⟨d,i,l,m,rfl,ga.ag hS c x e,j.ag hS c⟩
theorem fU.snoc {y:It}{c:Value}(i:ga w S y c d e):∀{s:List It} {b:List Value},fU w S s b->fU w S (s++ [y]) (b++ [c,d,e])
 | [],b,h=>by
  have h:b= []:=h;subst h;exact⟨c,d,e,[],rfl,i,rfl⟩
 |x::xs,b,h=>by
  obtain⟨l,n,k,o,rfl,j,m⟩:=h;exact⟨l,n,k,o++ [c,d,e],by simp,j,m.snoc i⟩
theorem nk.fe {b:Nat}(e:S b):∀{s:List It} {i:Nat} {c:List Value},fU w S s c->(∀j u,c[j]?=some u->w.cell? ⟨b,o+i*3+j,none⟩=some u)->nk w S s (some ⟨b,o,none⟩) i
 | [],_,_,_,_=>trivial
 |x::xs,i,c,h,hc=>by
  obtain⟨d,k,l,p,rfl,m,n⟩:=h;refine⟨⟨b,o,d,k,l,rfl,e,by simpa using hc 0 d (by simp),hc 1 k (by simp),hc 2 l (by simp),m⟩,nk.fe e n fun j u hu=> ?_⟩;have:=hc (j+3) u (by simpa using hu);rw[show o+(i+1)*3+j=o+i*3+(j+3)from by omega];exact this
def Acc (w:World)(lo:Nat)(acc:List It)(v:Value):Prop:=∃cs,w.ownsRow lo 28 3 v acc.length cs/\fU w (fun k=>lo<=k/\v.ownBlock≠some k) acc cs
theorem Acc.nil (w:World)(b:Nat):Acc w b [] (.slice none 0 0):=⟨[],⟨by simp,.inl ⟨rfl,rfl⟩⟩,rfl⟩
theorem Acc.form {e:Nat}{acc:List It}(h:Acc w e acc v):∃A cap,v= .slice A acc.length cap/\acc.length<=cap/\cap<=9223372036854775807:=by
 obtain⟨l,c,n⟩:=h;rcases c.2 with⟨k,d⟩|⟨g,cap,m,b,_,_,i,j,_⟩
 ·exact⟨none,0,by rw[k,d],by omega,by simp⟩
 exact⟨_,cap,b,i,by simpa[maxLen]using j⟩
theorem Acc.cH {b:Nat}{acc:List It}(h:Acc w b acc v):∃A n cap,v= .slice A n cap/\Hid (n=acc.length)/\n<=cap/\cap<=9223372036854775807:=by
 obtain⟨A,cap,d,c,e⟩:=h.form;exact⟨A,_,cap,d,za rfl,c,e⟩
theorem Acc.ge {c:Nat}{acc:List It}(h:Acc w c acc v):∀g,v.ownBlock=some g->c<=g/\g<w.heap.size:=by
 obtain⟨n,e,p⟩:=h;intro g b;rcases e.2 with⟨l,m⟩|⟨k,cap,o,d,i,j,_⟩
 ·rw[l]at b;cases b
 rw[d]at b;have:k=g:=by simpa[Value.ownBlock]using b
 subst this;exact⟨i,yI j⟩
theorem af.grown {g:Nat}{t:TypeId}{b:Array Value}{row:Option Nat}(h:af w g t b)(c:w.grownBy w' row)(d:row≠some g):af w' g t b:=(c.block g h.lt (fun e=>d e.symm)).trans h
theorem Acc.ag {b:Nat}{acc:List It}(h:Acc w b acc v)(d:∀k,b<=k->k<w.heap.size->w'.heap[k]?=w.heap[k]?):Acc w' b acc v:=by
 obtain⟨e,c,i⟩:=h;refine⟨e,⟨c.1, ?_⟩,i.ag (fun _ _ h=>h) fun p j l=>zF (d _ l.1 j)⟩;rcases c.2 with h3|⟨g,cap,cur,hv,hg,hh,r⟩
 ·exact .inl h3
 exact .inr ⟨g,cap,cur,hv,hg,(d g hg (yI hh)).trans hh,r⟩
theorem Acc.only {b:Nat}{acc:List It}(h:Acc w b acc v)(c:ae L w w')(e:∀g,g∈L->g<b):Acc w' b acc v:=
 h.ag fun k j d=>c.block k d fun i=>by have:=e k i;omega
theorem Acc.below {b:Nat}{acc:List It}(h:Acc w b acc v)(d:Below w.heap.size w w'):Acc w' b acc v:=h.ag fun k _ c=>d.block k c
theorem Acc.list {b:Nat}{acc:List It}(h:Acc w b acc v)(m:acc.length<=9223372036854775807):ga w (b<= ·) (.mk ⟨#[]⟩ true acc) (.string ⟨#[]⟩) (.bool true) v:=by
 obtain⟨A,cap,rfl,k,o⟩:=h.form;obtain⟨q,d,e⟩:=h;refine⟨rfl,rfl,yh _,m,A,cap,rfl,k,o, ?_⟩;rcases d.2 with⟨c,l⟩|⟨g,s,r,i,n,p,_⟩
 ·obtain rfl:acc= []:=zo l;trivial
 injection i with hA _ hc;subst hA;subst hc;refine nk.fe n (e.ag (fun _ _ h=>h.1) (fun _ _ _=>rfl)) fun j u hu=> ?_
 have:=d.cells rfl j u hu;have c:(⟨g,0,none⟩:Addr).add j=⟨g,j,none⟩:=by unfold Addr.add;split<;>simp_all
 rw[c]at this;simpa using this
theorem agm {y:It}{b c:Value}(h:ga w S y b c d):∀u∈ [b,c,d],u.oneCell'=true:=by
 obtain⟨A,cap,rfl,rfl,rfl,_⟩:=h.open_;intro u hu;simp at hu;rcases hu with rfl|rfl|rfl<;>rfl
def pg (w:World)(S:Nat->Prop)(m:Ms)(c0 c1 c2 c3:Value):Prop:=c0= .string m.name/\m.name.size<=9223372036854775807/\ga w S m.x c1 c2 c3
theorem pg.ag (hS:∀k,k<w.heap.size->S k->S' k)(i:∀p:Addr,p.block<w.heap.size->S p.block->w'.cell? p=w.cell? p)(m:Ms){b c:Value}(h:pg w S m b c e d):pg w' S' m b c e d:=⟨h.1,h.2.1,ga.ag hS i _ h.2.2⟩
theorem pg.below {b c:Value}(h:pg w S m b c e d)(i:Below w.heap.size w w'):pg w' S m b c e d:=pg.ag (fun _ _ h=>h) (fun _ j _=>i.cell j) m h
theorem pg.gQ {c b:Value}(h:pg w S m c d e b)(hS:∀k,k<w.heap.size->S k->S' k):pg w S' m c d e b:=pg.ag hS (fun _ _ _=>rfl) m h
theorem pg.only {b c:Value}(h:pg w S m b c e d)(i:ae L w w')(j:∀k,k∈L->¬S k)(hS:∀k,k<w.heap.size->S k->S' k):pg w' S' m b c e d:=
 pg.ag hS (fun p n o=>i.cell n fun l=>j _ l o) m h
theorem pg.open_ {b c:Value}(h:pg w S m b c e d):∃A cap,b= .string m.name/\c= .string m.x.text/\e= .bool m.x.list/\d= .slice A m.x.sub.length cap/\m.name.size<=9223372036854775807/\m.x.text.size<=9223372036854775807/\m.x.sub.length<=cap/\cap<=9223372036854775807:=by
 obtain⟨k,j,hi⟩:=h;obtain⟨A,cap,i,l,q,o,p,n,_⟩:=hi.open_;exact⟨A,cap,k,i,l,q,j,o,p,n⟩
theorem Fz :(prog.info? 30).map (fun i=>(i.zero,i.size,i.bytes))=some (some (.agg #[.string ⟨#[]⟩,.string ⟨#[]⟩,.bool false,.slice none 0 0]),4,64):=by kernel_rfl
def rK (w:World)(S:Nat->Prop):List Ms->Option Addr->Nat->Prop
 | [],_,_=>True
 |x::xs,A,i=>(∃b o c0 c1 c2 c3,A=some ⟨b,o,none⟩/\S b/\w.cell? ⟨b,o+i*4,none⟩=some c0/\w.cell? ⟨b,o+i*4+1,none⟩=some c1/\w.cell? ⟨b,o+i*4+2,none⟩=some c2/\w.cell? ⟨b,o+i*4+3,none⟩=some c3/\pg w S x c0 c1 c2 c3)/\rK w S xs A (i+1)
theorem rK.at_ :∀{s:List Ms} {i:Nat},rK w S s A i->∀(j:Nat) (h:j<s.length),∃b o d e k c,A=some ⟨b,o,none⟩/\S b/\w.cell? ⟨b,o+(i+j)*4,none⟩=some d/\w.cell? ⟨b,o+(i+j)*4+1,none⟩=some e/\w.cell? ⟨b,o+(i+j)*4+2,none⟩=some k/\w.cell? ⟨b,o+(i+j)*4+3,none⟩=some c/\pg w S s[j] d e k c
 | [],_,_,j,h=>by simp at h
 |x::xs,i,hi,0,_=>by simpa[rK]using hi.1
 |x::xs,i,hi,j+1,h=>by
  have:=rK.at_ hi.2 j (by simpa using h);rw[show i+1+j=i+(j+1)from by omega]at this;simpa using this
theorem rK.ag (hS:∀k,k<w.heap.size->S k->S' k)(c:∀p:Addr,p.block<w.heap.size->S p.block->w'.cell? p=w.cell? p):∀{s:List Ms} {i:Nat},rK w S s A i->rK w' S' s A i
 | [],_,_=>trivial
 |x::xs,i,h=>by
  obtain⟨⟨b,o,m,q,z,r,l,d,j,B,n,y,hi⟩,u⟩:=h;have e:=lt_of_cell j;exact⟨⟨b,o,m,q,z,r,l,hS _ e d,(c _ e d).trans j,(c _ e d).trans B,(c _ e d).trans n,(c _ e d).trans y,hi.ag hS c⟩,u.ag hS c⟩
def fK (w:World)(S:Nat->Prop):List Ms->List Value->Prop
 | [],cs=>cs= []
 |x::xs,cs=>∃c0 c1 c2 c3 ds,cs=c0::c1::c2::c3::ds/\pg w S x c0 c1 c2 c3/\fK w S xs ds
theorem fK.ag (hS:∀k,k<w.heap.size->S k->S' k)(c:∀p:Addr,p.block<w.heap.size->S p.block->w'.cell? p=w.cell? p):∀{s:List Ms} {b:List Value},fK w S s b->fK w' S' s b
 | [],b,h=>h
 |x::xs,b,h=>by
  obtain⟨d,i,m,j,n,rfl,e,l⟩:=h;exact⟨d,i,m,j,n,rfl,pg.ag hS c x e,l.ag hS c⟩
theorem fK.snoc {y:Ms}{c:Value}(j:pg w S y c d i e):∀{s:List Ms} {b:List Value},fK w S s b->fK w S (s++ [y]) (b++ [c,d,i,e])
 | [],b,h=>by
  have h:b= []:=h;subst h;exact⟨c,d,i,e,[],rfl,j,rfl⟩
 |x::xs,b,h=>by
  obtain⟨m,p,l,o,q,rfl,k,n⟩:=h;exact⟨m,p,l,o,q++ [c,d,i,e],by simp,k,n.snoc j⟩
theorem rK.fe {b:Nat}(e:S b):∀{s:List Ms} {i:Nat} {c:List Value},fK w S s c->(∀j u,c[j]?=some u->w.cell? ⟨b,o+i*4+j,none⟩=some u)->rK w S s (some ⟨b,o,none⟩) i
 | [],_,_,_,_=>trivial
 |x::xs,i,c,h,hc=>by
  obtain⟨d,k,m,l,q,rfl,n,p⟩:=h;refine⟨⟨b,o,d,k,m,l,rfl,e,by simpa using hc 0 d (by simp),hc 1 k (by simp),hc 2 m (by simp),hc 3 l (by simp),n⟩,rK.fe e p fun j u hu=> ?_⟩;have:=hc (j+4) u (by simpa using hu);rw[show o+(i+1)*4+j=o+i*4+(j+4)from by omega];exact this
def cW (w:World)(S0:Nat->Prop)(lo:Nat)(acc:List Ms)(v:Value):Prop:=∃cs,w.ownsRow lo 30 4 v acc.length cs/\fK w (fun k=>S0 k/\v.ownBlock≠some k) acc cs
abbrev CZ (w:World)(lo:Nat)(acc:List Ms)(v:Value):Prop:=cW w (lo<= ·) lo acc v
theorem cW.nil (w:World)(c:Nat->Prop)(b:Nat):cW w c b [] (.slice none 0 0):=⟨[],⟨by simp,.inl ⟨rfl,rfl⟩⟩,rfl⟩
theorem CZ.nil (w:World)(b:Nat):CZ w b [] (.slice none 0 0):=cW.nil _ _ _
theorem cW.form {k:Nat->Prop}{e:Nat}(h:cW w k e acc v):∃A cap,v= .slice A acc.length cap/\acc.length<=cap/\cap<=9223372036854775807:=by
 obtain⟨m,c,o⟩:=h;rcases c.2 with⟨l,d⟩|⟨g,cap,n,b,_,_,i,j,_⟩
 ·exact⟨none,0,by rw[l,d],by omega,by simp⟩
 exact⟨_,cap,b,i,by simpa[maxLen]using j⟩
theorem cW.cH {e:Nat->Prop}{c:Nat}(h:cW w e c acc v):∃A n cap,v= .slice A n cap/\Hid (n=acc.length)/\n<=cap/\cap<=9223372036854775807:=by
 obtain⟨A,cap,b,d,i⟩:=h.form;exact⟨A,_,cap,b,za rfl,d,i⟩
theorem cW.ge {l:Nat->Prop}{c:Nat}(h:cW w l c acc v):∀g,v.ownBlock=some g->c<=g/\g<w.heap.size:=by
 obtain⟨o,e,q⟩:=h;intro g b;rcases e.2 with⟨m,n⟩|⟨k,cap,p,d,i,j,_⟩
 ·rw[m]at b;cases b
 rw[d]at b;have:k=g:=by simpa[Value.ownBlock]using b
 subst this;exact⟨i,yI j⟩
theorem cW.typed {n:Nat->Prop}{e:Nat}(h:cW w n e acc v):∀k,v.ownBlock=some k->e<=k/\k<w.heap.size/\∃c,af w k 30 c:=by
 obtain⟨o,j,p⟩:=h;intro k b;rcases j.2 with⟨d,_⟩|⟨m,q,c,d,l,i,_⟩
 ·rw[d]at b;cases b
 rw[d]at b;have:m=k:=by simpa[Value.ownBlock]using b
 subst this;exact⟨l,yI i,c,i⟩
theorem cW.ag {b:Nat->Prop}{d:Nat}(h:cW w b d acc v)(e:∀k,k<w.heap.size->b k\/v.ownBlock=some k->w'.heap[k]?=w.heap[k]?):cW w' b d acc v:=by
 obtain⟨i,c,j⟩:=h;refine⟨i,⟨c.1, ?_⟩,j.ag (fun _ _ h=>h) fun p l m=>zF (e _ l (.inl m.1))⟩;rcases c.2 with h3|⟨g,cap,cur,hv,hg,hh,r⟩
 ·exact .inl h3
 exact .inr ⟨g,cap,cur,hv,hg,(e g (yI hh) (.inr (by rw[hv];rfl))).trans hh,r⟩
theorem cW.only {c:Nat->Prop}{d:Nat}(h:cW w c d acc v)(i:ae L w w')(j:∀g,g∈L->¬c g)(l:∀g,g∈L->v.ownBlock≠some g):cW w' c d acc v:=
 h.ag fun k m b=>i.block k m fun e=>by
  rcases b with b|b
  ·exact j k e b
  exact l k e b
theorem cW.below {c:Nat->Prop}{b:Nat}(h:cW w c b acc v)(e:Below w.heap.size w w'):cW w' c b acc v:=h.ag fun k d _=>e.block k d
theorem cW.gQ {c S1:Nat->Prop}{b lo':Nat}(h:cW w c b acc v)(hS:∀k,k<w.heap.size->c k->S1 k)(i:lo'<=b):cW w S1 lo' acc v:=by
 obtain⟨e,d,j⟩:=h;exact⟨e,d.mono i,j.ag (fun k l h=>⟨hS k l h.1,h.2⟩) fun _ _ _=>rfl⟩
theorem CZ.only {b:Nat}(h:CZ w b acc v)(i:ae L w w')(d:∀g,g∈L->g<b):CZ w' b acc v:=
 cW.only h i (fun g c=>by have:=d g c;omega) (fun g c e=>by have:=d g c;have:=(cW.ge h g e).1;omega)
theorem CZ.reads {b:Nat}(h:CZ w b acc v):∃A cap,v= .slice A acc.length cap/\acc.length<=cap/\cap<=9223372036854775807/\rK w (b<= ·) acc A 0:=by
 obtain⟨A,cap,rfl,k,n⟩:=cW.form h;obtain⟨o,d,e⟩:=h;refine⟨A,cap,rfl,k,n, ?_⟩;rcases d.2 with⟨c,l⟩|⟨g,r,q,i,m,p,_⟩
 ·obtain rfl:acc= []:=zo l;trivial
 injection i with hA _ hc;subst hA;subst hc;refine rK.fe m (e.ag (fun _ _ h=>h.1) (fun _ _ _=>rfl)) fun j u hu=> ?_
 have:=d.cells rfl j u hu;have c:(⟨g,0,none⟩:Addr).add j=⟨g,j,none⟩:=by unfold Addr.add;split<;>simp_all
 rw[c]at this;simpa using this
theorem Vu {y:Ms}{b c:Value}(h:pg w S y b c e d):∀u∈ [b,c,e,d],u.oneCell'=true:=by
 obtain⟨A,cap,rfl,rfl,rfl,rfl,_⟩:=h.open_;intro u hu;simp at hu;rcases hu with rfl|rfl|rfl|rfl<;>rfl
theorem qx {o:Oper}(H:o.guard=none)(s x:Operand)
 (I:o.op= .call {callee:= .builtin .append,args:= #[s,x],argTypes:= #[50,50]}) (q:Nat->Prop) (c:Nat) (acc:List Ms)  (X:a.eval s=v) (G:cW w q c acc v) (y:Ms) 
 (z:pg w (fun k=>q k/\v.ownBlock≠some k) y l d i h) (g:Nat) (hx:a.eval x= .slice (some ⟨g,0,none⟩) 1 1) (N:w.cell? ⟨g,0,none⟩=some l) (K:w.cell? ⟨g,1,none⟩=some d) (F:w.cell? ⟨g,2,none⟩=some i) (L:w.cell? ⟨g,3,none⟩=some h)
 (Y:acc.length<=1000000) (S:c<=w.heap.size)
 (M:∀b n cap w',Hid (n=acc.length+1)->cW w' q c (acc++ [y]) (.slice (some ⟨b,0,none⟩) n cap)->w.grownBy w' v.ownBlock->c<=b->wpList prog ops Q rest (a.put o.dst (.slice (some ⟨b,0,none⟩) n cap)) w'):wpList prog ops Q (o::rest) a w:=by
 obtain⟨i0,hi,W,J,U⟩:=yG Fz;obtain⟨B,O,C⟩:=G;refine yW w H s x 50 I c 30 i0 _ 4 64 Zl hi W J U rfl (by decide) v acc.length B X O ⟨g,0,none⟩ 1 1 [l,d,i,h] hx rfl ?_ (Vu z) (by decide) (by simp only[maxLen];omega) (by omega) S w.heap.size rfl ?_
 ·intro j u hu;have E:∀j,(⟨g,0,none⟩:Addr).add j=⟨g,j,none⟩:=by intro j;unfold Addr.add;split<;>simp_all
  rw[E];match j,hu with
  |0,hu=>simp at hu;subst hu;exact N
  |1,hu=>simp at hu;subst hu;exact K
  |2,hu=>simp at hu;subst hu;exact F
  |3,hu=>simp at hu;subst hu;exact L
 intro b cap w' A r m Z;have R:=IU A b rfl;refine M b _ cap w' (za rfl) ⟨B++ [l,d,i,h],by rw[zj];exact A, ?_⟩ r R;refine((C.snoc z).ag (fun k hk hS=>⟨hS.1, ?_⟩) fun p D hS=>zF (r.block _ D (fun e=>hS.2 e.symm)));intro e;have e:b=k:=by simpa[Value.ownBlock]using e
 rcases m with m|m
 ·exact hS.2 (by rw[m,e])
 omega
theorem M8 :(prog.info? 43).map (fun i=>(i.zero,i.size,i.bytes))=some (some (.agg #[.int .i64 0,.int .i64 0,.slice none 0 0,.int .i64 0]),4,48):=by kernel_rfl
mutual
def fE (w:World)(S:Nat->Prop):Ty->Value->Value->Value->Value->Prop
 | .mk k s l t,c0,c1,c2,c3=>c0= .int .i64 k/\c1= .int .i64 s/\c3= .int .i64 t/\mD k/\mD s/\mD t/\l.length<=9223372036854775807/\∃A cap,c2= .slice A l.length cap/\l.length<=cap/\cap<=9223372036854775807/\oq w S l A 0
def oq (w:World)(S:Nat->Prop):List Ty->Option Addr->Nat->Prop
 | [],_,_=>True
 |x::xs,A,i=>(∃b o c0 c1 c2 c3,A=some ⟨b,o,none⟩/\S b/\w.cell? ⟨b,o+i*4,none⟩=some c0/\w.cell? ⟨b,o+i*4+1,none⟩=some c1/\w.cell? ⟨b,o+i*4+2,none⟩=some c2/\w.cell? ⟨b,o+i*4+3,none⟩=some c3/\fE w S x c0 c1 c2 c3)/\oq w S xs A (i+1)
end
theorem oq.at_ :∀{s:List Ty} {i:Nat},oq w S s A i->∀(j:Nat) (h:j<s.length),∃b o d e k c,A=some ⟨b,o,none⟩/\S b/\w.cell? ⟨b,o+(i+j)*4,none⟩=some d/\w.cell? ⟨b,o+(i+j)*4+1,none⟩=some e/\w.cell? ⟨b,o+(i+j)*4+2,none⟩=some k/\w.cell? ⟨b,o+(i+j)*4+3,none⟩=some c/\fE w S s[j] d e k c
 | [],_,_,j,h=>by simp at h
 |x::xs,i,hi,0,_=>by simpa[oq]using hi.1
 |x::xs,i,hi,j+1,h=>by
  have:=oq.at_ hi.2 j (by simpa using h);rw[show i+1+j=i+(j+1)from by omega]at this;simpa using this
theorem oq.Fv :∀{s:List Ty} {i:Nat},(∀(j:Nat) (h:j<s.length),∃b o c d k e,A=some ⟨b,o,none⟩/\S b/\w.cell? ⟨b,o+(i+j)*4,none⟩=some c/\w.cell? ⟨b,o+(i+j)*4+1,none⟩=some d/\w.cell? ⟨b,o+(i+j)*4+2,none⟩=some k/\w.cell? ⟨b,o+(i+j)*4+3,none⟩=some e/\fE w S s[j] c d k e)->oq w S s A i
 | [],_,_=>by simp[oq]
 |x::xs,i,h=>by
  refine⟨h 0 (Nat.zero_lt_succ _),oq.Fv fun j l=> ?_⟩;have:=h (j+1) (by simpa using l);rw[show i+(j+1)=i+1+j from by omega]at this;simpa using this
theorem fE.ag (hS:∀k,k<w.heap.size->S k->S' k)(e:∀p:Addr,p.block<w.heap.size->S p.block->w'.cell? p=w.cell? p):∀(x:Ty) {q i n m:Value},fE w S x q i n m->fE w' S' x q i n m:=by
 intro x;induction x using Ty.ind with
 |h k s l t ih=>
  intro q i n m h;obtain⟨E,K,C,k1,k2,H,L,A,cap,z,J,I,G⟩:=h;refine⟨E,K,C,k1,k2,H,L,A,cap,z,J,I,oq.Fv fun j u=> ?_⟩;obtain⟨b,o,d0,d1,d2,d3,y,d,r,B,D,F,hi⟩:=G.at_ j u;have c:=lt_of_cell r;exact⟨b,o,d0,d1,d2,d3,y,hS _ c d,(e _ c d).trans r,(e _ c d).trans B,(e _ c d).trans D,(e _ c d).trans F,ih _ (zE u) hi⟩
theorem fE.gQ {x:Ty}{c b:Value}(h:fE w S x c d e b)(hS:∀k,k<w.heap.size->S k->S' k):fE w S' x c d e b:=fE.ag hS (fun _ _ _=>rfl) x h
theorem fE.only {x:Ty}{b c:Value}(h:fE w S x b c e d)(i:ae L w w')(j:∀k,k∈L->¬S k)(hS:∀k,k<w.heap.size->S k->S' k):fE w' S' x b c e d:=
 fE.ag hS (fun p m n=>i.cell m fun l=>j _ l n) x h
theorem fE.below {x:Ty}{b c:Value}(h:fE w S x b c e d)(i:Below w.heap.size w w'):fE w' S x b c e d:=fE.ag (fun _ _ h=>h) (fun _ j _=>i.cell j) x h
theorem fE.AM :∀(x:Ty) {i c e d:Value},fE w S x i c e d->cC w w.heap.size x i c e d:=by
 intro x;induction x using Ty.ind with
 |h k s l t ih=>
  intro i c e d h;obtain⟨z,G,u,k1,k2,D,H,A,cap,q,F,E,C⟩:=h;refine⟨z,G,u,k1,k2,D,H,A,cap,q,F,E,ff.Fv fun j n=> ?_⟩;obtain⟨b,o,d0,d1,d2,d3,p,I,m,r,y,B,hi⟩:=C.at_ j n;exact⟨b,o,d0,d1,d2,d3,p,lt_of_cell m,m,r,y,B,ih _ (zE n) hi⟩
theorem fE.open_ {x:Ty}{b c:Value}(h:fE w S x b c e d):∃A cap,b= .int .i64 x.kind/\c= .int .i64 x.size/\e= .slice A x.sub.length cap/\d= .int .i64 x.tail/\mD x.kind/\mD x.size/\mD x.tail/\x.sub.length<=cap/\cap<=9223372036854775807/\oq w S x.sub A 0:=by
 cases x with
 |mk k s l t=>
  obtain⟨m,j,y,r,u,p,z,A,cap,n,q,o,i⟩:=h;exact⟨A,cap,m,j,n,y,r,u,p,q,o,i⟩
def jo (w:World)(S:Nat->Prop):List Ty->List Value->Prop
 | [],cs=>cs= []
 |x::xs,cs=>∃c0 c1 c2 c3 ds,cs=c0::c1::c2::c3::ds/\fE w S x c0 c1 c2 c3/\jo w S xs ds
theorem jo.ag (hS:∀k,k<w.heap.size->S k->S' k)(c:∀p:Addr,p.block<w.heap.size->S p.block->w'.cell? p=w.cell? p):∀{s:List Ty} {b:List Value},jo w S s b->jo w' S' s b
 | [],b,h=>h
 |x::xs,b,h=>by
  obtain⟨d,i,m,j,n,rfl,e,l⟩:=h;exact⟨d,i,m,j,n,rfl,fE.ag hS c x e,l.ag hS c⟩
theorem jo.snoc {y:Ty}{c:Value}(j:fE w S y c d i e):∀{s:List Ty} {b:List Value},jo w S s b->jo w S (s++ [y]) (b++ [c,d,i,e])
 | [],b,h=>by
  have h:b= []:=h;subst h;exact⟨c,d,i,e,[],rfl,j,rfl⟩
 |x::xs,b,h=>by
  obtain⟨m,p,l,o,q,rfl,k,n⟩:=h;exact⟨m,p,l,o,q++ [c,d,i,e],by simp,k,n.snoc j⟩
theorem oq.fe {b:Nat}(e:S b):∀{s:List Ty} {i:Nat} {c:List Value},jo w S s c->(∀j u,c[j]?=some u->w.cell? ⟨b,o+i*4+j,none⟩=some u)->oq w S s (some ⟨b,o,none⟩) i
 | [],_,_,_,_=>trivial
 |x::xs,i,c,h,hc=>by
  obtain⟨d,k,m,l,q,rfl,n,p⟩:=h;refine⟨⟨b,o,d,k,m,l,rfl,e,by simpa using hc 0 d (by simp),hc 1 k (by simp),hc 2 m (by simp),hc 3 l (by simp),n⟩,oq.fe e p fun j u hu=> ?_⟩;have:=hc (j+4) u (by simpa using hu);rw[show o+(i+1)*4+j=o+i*4+(j+4)from by omega];exact this
def eQ (w:World)(lo:Nat)(acc:List Ty)(v:Value):Prop:=∃cs,w.ownsRow lo 43 4 v acc.length cs/\jo w (fun k=>lo<=k/\v.ownBlock≠some k) acc cs
theorem eQ.nil (w:World)(b:Nat):eQ w b [] (.slice none 0 0):=⟨[],⟨by simp,.inl ⟨rfl,rfl⟩⟩,rfl⟩
theorem eQ.form {e:Nat}{acc:List Ty}(h:eQ w e acc v):∃A cap,v= .slice A acc.length cap/\acc.length<=cap/\cap<=9223372036854775807:=by
 obtain⟨l,c,n⟩:=h;rcases c.2 with⟨k,d⟩|⟨g,cap,m,b,_,_,i,j,_⟩
 ·exact⟨none,0,by rw[k,d],by omega,by simp⟩
 exact⟨_,cap,b,i,by simpa[maxLen]using j⟩
theorem eQ.cH {b:Nat}{acc:List Ty}(h:eQ w b acc v):∃A n cap,v= .slice A n cap/\Hid (n=acc.length)/\n<=cap/\cap<=9223372036854775807:=by
 obtain⟨A,cap,d,c,e⟩:=h.form;exact⟨A,_,cap,d,za rfl,c,e⟩
theorem eQ.ge {c:Nat}{acc:List Ty}(h:eQ w c acc v):∀g,v.ownBlock=some g->c<=g/\g<w.heap.size:=by
 obtain⟨n,e,p⟩:=h;intro g b;rcases e.2 with⟨l,m⟩|⟨k,cap,o,d,i,j,_⟩
 ·rw[l]at b;cases b
 rw[d]at b;have:k=g:=by simpa[Value.ownBlock]using b
 subst this;exact⟨i,yI j⟩
theorem eQ.ag {b:Nat}{acc:List Ty}(h:eQ w b acc v)(d:∀k,b<=k->k<w.heap.size->w'.heap[k]?=w.heap[k]?):eQ w' b acc v:=by
 obtain⟨e,c,i⟩:=h;refine⟨e,⟨c.1, ?_⟩,i.ag (fun _ _ h=>h) fun p j l=>zF (d _ l.1 j)⟩;rcases c.2 with h3|⟨g,cap,cur,hv,hg,hh,r⟩
 ·exact .inl h3
 exact .inr ⟨g,cap,cur,hv,hg,(d g hg (yI hh)).trans hh,r⟩
theorem eQ.only {b:Nat}{acc:List Ty}(h:eQ w b acc v)(c:ae L w w')(e:∀g,g∈L->g<b):eQ w' b acc v:=
 h.ag fun k j d=>c.block k d fun i=>by have:=e k i;omega
theorem eQ.below {b:Nat}{acc:List Ty}(h:eQ w b acc v)(d:Below w.heap.size w w'):eQ w' b acc v:=h.ag fun k _ c=>d.block k c
theorem eQ.ty {b:Nat}{acc:List Ty}(h:eQ w b acc v)(n:acc.length<=9223372036854775807){k:Int}(r:mD k)(hz:mD z)(q:mD t):fE w (b<= ·) (.mk k z acc t) (.int .i64 k) (.int .i64 z) v (.int .i64 t):=by
 obtain⟨A,cap,rfl,l,p⟩:=h.form;obtain⟨x,d,e⟩:=h;refine⟨rfl,rfl,rfl,r,hz,q,n,A,cap,rfl,l,p, ?_⟩;rcases d.2 with⟨c,m⟩|⟨g,B,y,i,o,s,_⟩
 ·obtain rfl:acc= []:=zo m;trivial
 injection i with hA _ hc;subst hA;subst hc;refine oq.fe o (e.ag (fun _ _ h=>h.1) (fun _ _ _=>rfl)) fun j u hu=> ?_
 have:=d.cells rfl j u hu;have c:(⟨g,0,none⟩:Addr).add j=⟨g,j,none⟩:=by unfold Addr.add;split<;>simp_all
 rw[c]at this;simpa using this
theorem agn {y:Ty}{b c:Value}(h:fE w S y b c e d):∀u∈ [b,c,e,d],u.oneCell'=true:=by
 obtain⟨A,cap,rfl,rfl,rfl,rfl,_⟩:=h.open_;intro u hu;simp at hu;rcases hu with rfl|rfl|rfl|rfl<;>rfl
theorem cD {o:Oper}(G:o.guard=none)(s x:Operand)
 (H:o.op= .call {callee:= .builtin .append,args:= #[s,x],argTypes:= #[41,41]}) (c:Nat) (acc:List Ty)  (W:a.eval s=v) (F:eQ w c acc v) (y:Ty) 
 (r:fE w (fun k=>c<=k/\v.ownBlock≠some k) y l d i h) (g:Nat) (hx:a.eval x= .slice (some ⟨g,0,none⟩) 1 1) (M:w.cell? ⟨g,0,none⟩=some l) (J:w.cell? ⟨g,1,none⟩=some d) (E:w.cell? ⟨g,2,none⟩=some i) (K:w.cell? ⟨g,3,none⟩=some h)
 (X:acc.length<=1000000) (R:c<=w.heap.size)
 (L:∀b n cap w',Hid (n=acc.length+1)->eQ w' c (acc++ [y]) (.slice (some ⟨b,0,none⟩) n cap)->w.grownBy w' v.ownBlock->c<=b->wpList prog ops Q rest (a.put o.dst (.slice (some ⟨b,0,none⟩) n cap)) w'):wpList prog ops Q (o::rest) a w:=by
 obtain⟨i0,hi,U,I,S⟩:=yG M8;obtain⟨A,N,B⟩:=F;refine yW w G s x 41 H c 43 i0 _ 4 48 underlying41 hi U I S rfl (by decide) v acc.length A W N ⟨g,0,none⟩ 1 1 [l,d,i,h] hx rfl ?_ (agn r) (by decide) (by simp only[maxLen];omega) (by omega) R w.heap.size rfl ?_
 ·intro j u hu;have D:∀j,(⟨g,0,none⟩:Addr).add j=⟨g,j,none⟩:=by intro j;unfold Addr.add;split<;>simp_all
  rw[D];match j,hu with
  |0,hu=>simp at hu;subst hu;exact M
  |1,hu=>simp at hu;subst hu;exact J
  |2,hu=>simp at hu;subst hu;exact E
  |3,hu=>simp at hu;subst hu;exact K
 intro b cap w' z q m Y;have O:=IU z b rfl;refine L b _ cap w' (za rfl) ⟨A++ [l,d,i,h],by rw[zj];exact z, ?_⟩ q O;refine((B.snoc r).ag (fun k Z hS=>⟨hS.1, ?_⟩) fun p C hS=>zF (q.block _ C (fun e=>hS.2 e.symm)));intro e;have e:b=k:=by simpa[Value.ownBlock]using e
 rcases m with m|m
 ·exact hS.2 (by rw[m,e])
 omega
theorem fE.leaf {k:Int}(b:mD k)(hz:mD z)(c:mD t):fE w S (.mk k z [] t) (.int .i64 k) (.int .i64 z) (.slice none 0 0) (.int .i64 t):=⟨rfl,rfl,rfl,b,hz,c,by simp,none,0,rfl,by simp,by simp,trivial⟩
theorem aD {i:Int}(c:0<=i)(b:i<=100000000):mD i:=by unfold mD;omega
theorem lk (b:k<s.size)(h:iH (s.data.toList.take k)=true)(c:oD s[k].toNat=true):iH (s.data.toList.take (k+1))=true:=by
 rw[jt s k b,uR,h,c];rfl
theorem nn (c:k<s.size)(b:oD s[k].toNat=false):bZ s=false:=by
 have:iH (s.data.toList.take (k+1))=false:=by rw[jt s k c,uR,b];simp
 rw[bZ,AD _ _ this];rfl
theorem KS (d:¬k<s.size)(c:1<=s.size)(b:s.size<=12)(h:iH (s.data.toList.take k)=true):bZ s=true:=by
 rw[zv (by simp;omega)]at h;rw[Pe c b,h]
theorem qy (s:ByteArray)(w:World)(y:s.size<=9223372036854775807):
 Calls prog 123 #[.string s] w fun e w'=>e= .returned (.bool (bZ s))/\w=w':=by
 by_cases n:1<=s.size
 ·by_cases o:s.size<=12
  ·go_enter func123,ntmps123
   go_wp2;go_loop [15] (fun i=>∃k:Nat,k<=s.size/\Hid (iH (s.data.toList.take k)=true)/\i= .int .i64 k) (fun i=>s.size-(intOf i).toNat)
   case atStart=>exact⟨0,by omega,za (by simp[iH]),rfl⟩
   case round=>
    obtain⟨k,x,j,rfl⟩:=hrel;by_cases d:k<s.size
    ·rcases Bz s[k].toNat s[k].toNat_lt with⟨b,l,q⟩|⟨b,l⟩
     ·have c:=za b;have p:(((s[k].toNat:Nat):Int) !=95)=true:=yO.2 (by omega);clear b q;rcases l with h|⟨h,m⟩|⟨h,m⟩|h;all_goals
       go_wp2;go_ret;exact⟨aT (nn d c.out),rfl⟩
     have c:=za b;clear b;rcases l with⟨h,m⟩|h|⟨h,m⟩
     ·go_wp2;go_round
      case rel=>exact⟨k+1,by omega,za (lk d j.out c.out),by go_num⟩
      case measure=>simp[intOf];omega
     ·have p:(((s[k].toNat:Nat):Int) !=95)=false:=by simp[h]
      have r:94<s[k].toNat:=by omega
      have u:s[k].toNat<96:=by omega
      clear h;go_wp2;go_round
      case rel=>exact⟨k+1,by omega,za (lk d j.out c.out),by go_num⟩
      case measure=>simp[intOf];omega
     go_wp2;go_round
     case rel=>exact⟨k+1,by omega,za (lk d j.out c.out),by go_num⟩
     case measure=>simp[intOf];omega
    go_wp2;go_ret;exact⟨aT (KS d n o j.out),rfl⟩
  go_enter func123,ntmps123
  go_wp2;go_ret;exact⟨aT (qa (by omega)),rfl⟩
 go_enter func123,ntmps123
 go_wp2;go_ret;exact⟨aT (qa (by omega)),rfl⟩
theorem M9 (s:ByteArray)(w:World)(A:s.size<=9223372036854775807):
 Calls prog 50 #[.string s] w fun e w'=>e= .returned (.bool (bZ s))/\w=w':=by
 go_enter func50,ntmps50
 go_wp2;go_loop [3] (fun i=>∃k:Nat,k<=s.size/\Hid (iH (s.data.toList.take k)=true)/\i= .int .i64 k) (fun i=>s.size-(intOf i).toNat)
 case atStart=>exact⟨0,by omega,za (by simp[iH]),rfl⟩
 case round=>
  obtain⟨k,u,j,rfl⟩:=hrel;by_cases c:k<s.size
  ·rcases Bz s[k].toNat s[k].toNat_lt with⟨d,m,r⟩|⟨d,m⟩
   ·have b:=za d;have q:(((s[k].toNat:Nat):Int)==95)=false:=zm.2 (by omega);clear d r;rcases m with h|⟨h,n⟩|⟨h,n⟩|h
    ·go_wp2;go_ret;exact⟨aT (nn c b.out),rfl⟩
    ·have l:decide (((s[k].toNat:Nat):Int)<=57)=false:=zu (by omega);go_wp2;go_ret;exact⟨aT (nn c b.out),rfl⟩
    ·have l:decide (((s[k].toNat:Nat):Int)<=57)=false:=zu (by omega);go_wp2;go_ret;exact⟨aT (nn c b.out),rfl⟩
    have l:decide (((s[k].toNat:Nat):Int)<=57)=false:=zu (by omega);have z:decide (((s[k].toNat:Nat):Int)<=122)=false:=zu (by omega);go_wp2;go_ret;exact⟨aT (nn c b.out),rfl⟩
   have b:=za d;clear d;rcases m with⟨h,n⟩|h|⟨h,n⟩
   ·go_wp2;go_round
    case rel=>exact⟨k+1,by omega,za (lk c j.out b.out),by go_num⟩
    case measure=>simp[intOf];omega
   ·have q:(((s[k].toNat:Nat):Int)==95)=true:=by simp[h]
    have x:94<s[k].toNat:=by omega
    have y:s[k].toNat<96:=by omega
    clear h;go_wp2;go_round
    case rel=>exact⟨k+1,by omega,za (lk c j.out b.out),by go_num⟩
    case measure=>simp[intOf];omega
   go_wp2;go_round
   case rel=>exact⟨k+1,by omega,za (lk c j.out b.out),by go_num⟩
   case measure=>simp[intOf];omega
  by_cases o:1<=s.size
  ·by_cases p:s.size<=12
   ·have l:decide ((s.size:Int)<=12)=true:=zD (by omega);go_wp2;go_ret;exact⟨aT (KS c o p j.out),rfl⟩
   have l:decide ((s.size:Int)<=12)=false:=zu (by omega);go_wp2;go_ret;exact⟨aT (qa (by omega)),rfl⟩
  go_wp2;go_ret;exact⟨aT (qa (by omega)),rfl⟩
theorem Na (l:List UInt8):ry (l++ [0])=ry l:=by simp[ry]
theorem Nb (l:List UInt8)(b:UInt8)(h:b≠0):ry (l++ [b])=l++ [b]:=by simp[ry,h]
theorem FA (y:ByteArray)(k:Nat)(h:y.size=k+1):y.data.toList=(y.extract 0 k).data.toList++ [y[k]]:=by
 rw[ar,zJ,<-jt y k (by omega),<-h,dq]
theorem Nc (h:y.size=k+1)(b:dr y=dr s)(c:(y[k].toNat:Int)=0):dr (y.extract 0 k)=dr s:=by
 rw[<-b];unfold dr;rw[FA y k h];have:y[k]=0:=by
  apply zQ.1;have:y[k].toNat=0:=by omega
  simpa using this
 rw[this,Na]
theorem Nd (h:y.size=k+1)(i:dr y=dr s)(c:(y[k].toNat:Int)≠0):y=dr s:=by
 rw[<-i];unfold dr;have b:=FA y k h;have d:y[k]≠0:=by
  intro e;apply c;rw[e];rfl
 apply aF;rw[b,Nb _ _ d]
theorem P4 (h:y.size=0)(b:dr y=dr s):y=dr s:=by
 rw[<-b];have:y.data.toList= []:=zo (by simpa using h);apply aF;unfold dr;rw[this];rfl
theorem IV (s:ByteArray)(w:World)(j:s.size<=9223372036854775807):
 Calls prog 160 #[.string s,.int .u8 0] w fun e w'=>e= .returned (.string (dr s))/\w=w':=by
 go_enter func160,ntmps160
 go_wp2;go_loop [0] (fun x=>∃(y:ByteArray),Hid (dr y=dr s)/\y.size<=9223372036854775807/\x= .string y) (fun x=>strOf x)
 case atStart=>exact⟨s,za rfl,j,rfl⟩
 case round=>
  obtain⟨y,b,hz,rfl⟩:=hrel;rcases Zi y.size with h0|h0
  ·have i:=za h0;have l:y.size<=0:=by omega
   clear h0;go_wp2;go_ret;exact⟨nS (P4 i.out b.out).symm,rfl⟩
  obtain⟨k,c⟩:∃k,y.size=k+1:=⟨y.size-1,by omega⟩
  have d:=za c;have n:k<y.size:=by omega
  have m:(y.size:Int)-1=k:=by omega
  rcases xg ((y[k].toNat:Int)==0)with h|h
  ·clear c;go_wp2;go_round
   case rel=>exact⟨y.extract 0 k,za (Nc d.out b.out (by simpa using h)),by rw[aq _ _ _ (by omega)];omega,rfl⟩
   case measure=>simp[aq];omega
  clear c;go_wp2;go_ret;exact⟨nS (Nd d.out b.out (by simpa using h)).symm,rfl⟩
theorem P5 :(prog.info? 5).map (·.size)=some 1:=by kernel_rfl
def z12 :Array Value:= #[.int .u8 0,.int .u8 0,.int .u8 0,.int .u8 0,.int .u8 0,.int .u8 0,.int .u8 0,.int .u8 0,.int .u8 0,.int .u8 0,.int .u8 0,.int .u8 0]
theorem P6 :z12.toList=cb (List.replicate 12 0):=rfl
theorem Xc (w:World)(ty t:TypeId)(s:ByteArray)(b:s.size<=12):
 (Builtin.copy_ #[31,9] ty #[.slice (some ⟨w.heap.size,0,none⟩) 12 12,.string s]).run prog (w.alloc (.cells z12 t))= .ok (goInt s.size) (w.alloc (.cells (cb (fa s).data.toList).toArray t)):=by
 have h:=Lib.run_copy_row_string (P:=prog) (w.alloc (.cells z12 t)) 31 9 ty 5 w.heap.size 0 12 12 s z12 t zr P5 (yP w _) b (by simpa[z12]using b);rw[h,World.setRow_alloc_new];have e:(z12.toList.take 0++Lib.byteCells s.data.toList++z12.toList.drop (0+s.size))=cb (fa s).data.toList:=by
  rw[lM,gq,P6,yu,yx,zG,<-Tn,List.drop_replicate];rfl
 rw[e]
theorem Xd (w:World)(t:TypeId)(s:ByteArray)(b:s.size<=12):
 (convert 31 9 (.slice (some ⟨w.heap.size,0,none⟩) 12 12)).run prog (w.alloc (.cells (cb (fa s).data.toList).toArray t))= .ok (.string (fa s)) (w.alloc (.cells (cb (fa s).data.toList).toArray t)):=by
 have c:(fa s).data.toList.length=12:=by rw[aa];exact ic s b
 have:=CK (P:=prog) (w.alloc (.cells (cb (fa s).data.toList).toArray t)) 31 9 5 zr yq zM ⟨w.heap.size,0,none⟩ 12 (fa s).data.toList (fun j u hu=>ZH (yP w (.cells (cb (fa s).data.toList).toArray t)) j u (by simpa using hu));rw[c,iC]at this;exact this
theorem Nf (s:ByteArray)(w:World)(d:s.size<=9223372036854775807)(b:bZ s=false):
 Calls prog 96 #[.string s] w fun e w'=>e= .returned (.tuple #[.string ByteArray.empty,.int .i64 11])/\w=w':=by
 have H:=qy s w d;rw[b]at H;have c:=za H;clear H b;go_enter func96,ntmps96
 go_wp2_with fail
 refine c.out.mono ?_;rintro e w' ⟨rfl,rfl⟩;go_wp2;go_ret2
 exact⟨rfl,rfl⟩
theorem FB (s:ByteArray)(w:World)(b:bZ s=true):
 Calls prog 96 #[.string s] w fun e w'=>e= .returned (.tuple #[.string (fa s),.int .i64 0])/\Below w.heap.size w w':=by
 have hz:=dH b;have H:=qy s w (by omega);rw[b]at H;have d:=za H;clear H b;have k1:=fun(ty t:TypeId)=>Xc w ty t s hz.2
 have k2:=fun(t:TypeId)=>Xd w t s hz.2
 have c:=fun t=>(zl w.heap.size w).alloc (zg _) (.cells (cb (fa s).data.toList).toArray t)
 have h:=za c;clear c;simp only[z12]at k1;go_enter func96,ntmps96
 go_wp2_with fail
 refine d.out.mono ?_;rintro e w' ⟨rfl,rfl⟩;go_wp2;go_ret2
 exact⟨rfl,h.out _⟩
theorem sU (s:ByteArray)(w:World)(c:s.size<=9223372036854775807):
 Calls prog 130 #[.string s,.string ⟨#[0]⟩] w fun e w'=>e= .returned (.string (dr s))/\w=w':=by
 rcases eu s with⟨b,rfl⟩|⟨b,d,h⟩
 ·clear b;go_enter func130,ntmps130
  go_wp2_with fail
  go_ret;exact⟨rfl,rfl⟩
 clear b;go_enter func130,ntmps130
 go_wp2_with fail
 refine(IV s w c).mono ?_;rintro e w' ⟨rfl,rfl⟩;go_wp2;go_ret;exact⟨rfl,rfl⟩
theorem P7 (s:ByteArray):(dr s).size<=s.size:=by
 obtain⟨n,b⟩:=BA s.data.toList;have:=xu List.length b;rw[dr,bI];simp only[zj,aa]at this;omega
theorem P8 (s:ByteArray)(w:World)(i:s.size<=9223372036854775807):
 Calls prog 105 #[.string s] w fun e w'=>e= .returned (.tuple #[.string (dt s).2,.int .i64 (dt s).1])/\w=w':=by
 have hz:=P7 s;by_cases b:s.size=12
 ·have j:((s.size:Int) !=12)=false:=by simp[b]
  have d:=za (qy (dr s) w (by omega));have c:=za (show dt s=if bZ (dr s)=true then(0,dr s)else(3,ByteArray.empty)by unfold dt;simp[b]);clear b hz;rcases xg (bZ (dr s))with h|h;all_goals
   rw[h]at d c;go_enter func105,ntmps105
   go_wp2_with fail
   refine(sU s w i).mono ?_;rintro e w' ⟨rfl,rfl⟩;go_wp2_with fail
   refine d.out.mono ?_;rintro e w' ⟨rfl,rfl⟩;go_wp2;go_ret2
   exact⟨by rw[c.out];rfl,rfl⟩
 have j:((s.size:Int) !=12)=true:=yO.2 (by omega);have c:=za (EA s b);clear b hz;go_enter func105,ntmps105
 go_wp2_with fail
 refine(sU s w i).mono ?_;rintro e w' ⟨rfl,rfl⟩;go_wp2;go_ret2
 exact⟨by rw[c.out];rfl,rfl⟩
theorem ph :(prog.info? 5).map (fun i=>(i.zero,i.size,i.bytes))=some (some (.int .u8 0),1,1):=by kernel_rfl
def Xe (n sz:Nat)(w:World)(i:Value)(wr:World):Prop:=
 ∃k:Nat,k<=sz/\i= .int .i64 k/\bP wr w.heap.size 5 (.slice (some ⟨w.heap.size,0,none⟩) sz sz) (jw n k++List.replicate (sz-k) 0)/\Kept 5 w.heap.size w wr
theorem FC (n sz:Nat)(w:World)(A:n<18446744073709551616)(C:sz<=8):
 Calls prog 128 #[.int .u64 n,.int .i64 sz] w fun e w'=>e= .returned (.slice (some ⟨w.heap.size,0,none⟩) sz sz)/\bP w' w.heap.size 5 (.slice (some ⟨w.heap.size,0,none⟩) sz sz) (jw n sz)/\Kept 5 w.heap.size w w':=by
 obtain⟨i0,hi,z,u,y⟩:=yG ph;go_enter func128,ntmps128
 go_wp2_with (at_make;refine wpList_make_full _ rfl _ _ 31 rfl w.heap.size 5 i0 (.int .u8 0) 1 zr hi z u .i64 .i64 _ _ sz rfl rfl (by omega) (by omega) (by rw[y];omega) (by simp only[maxLen];omega) (by omega) ?_;intro q d o)
 have m:bP q w.heap.size 5 (.slice (some ⟨w.heap.size,0,none⟩) sz sz) (List.replicate sz 0):=by
  rw[uV]at d;have:=bP.own (l:=List.replicate sz 0) (by simpa using d);simpa using this
 have h:Kept 5 w.heap.size w q:=Kept.Ks o (zg _);clear d o;go_loopw [10] (fun i wr=>Xe n sz w i wr) (fun i _=>sz-(intOf i).toNat)
 case atStart=>exact⟨0,by omega,rfl,by simpa[jw]using m,h⟩
 case round=>
  obtain⟨k,D,rfl,b,c⟩:=hrel;clear m h;by_cases s:k<sz
  ·have r:(jw n k++List.replicate (sz-k) (0:UInt8)).length=sz:=by rw[zj,bg,xA];omega
   obtain⟨B,f1,g1,g2⟩:=b.at_ (k:=k) (by omega);have j:=za (b.set (k:=k) (by omega) (ub (n/2^(8*k)%256:Nat)));rw[Pr s]at j;obtain⟨F,E,p,_⟩:=b.block;have x:=za (fun v=>c.store (k:=k) p (zg _) v);clear r p b c;go_wp2;go_roundw
   case rel=>
    rw[Tx];exact⟨k+1,by omega,by go_num,j.out,x.out _⟩
   case measure=>simp[intOf];omega
  go_wp2;go_ret;obtain rfl:sz=k:=by omega
  exact⟨rfl,by simpa using b,c⟩
theorem TP (n sz:Nat)(w:World)(b:n<2^(8*sz))(d:1<=sz)(c:sz<=8):
 Calls prog 127 #[.int .u64 n,.int .i64 sz] w fun e w'=>e= .returned (.int .i64 0)/\w=w':=by
 have h:(n:Int)/2^(8*sz)=0:=by
  have:((n/2^(8*sz):Nat):Int)=0:=by rw[Nat.div_eq_of_lt b];rfl
  simpa using this
 clear b;go_enter func127,ntmps127
 go_wp2;go_ret;exact⟨rfl,rfl⟩
theorem FD {a:Int}{b c:Nat}(h:a=(b:Int))(d:b=c):Ending.returned (.tuple #[.int .u64 a,.int .i64 0])= .returned (.tuple #[.int .u64 c,.int .i64 0]):=by
 subst h;subst d;rfl
def rv (l:List UInt8):Nat->List UInt8
 |0=>l
 |k+1=>((rv l k).set k ((rv l k).getD (l.length-1-k) 0)).set (l.length-1-k) ((rv l k).getD k 0)
theorem rL (l:List UInt8)(k:Nat):(rv l k).length=l.length:=by
 induction k with
 |zero=>rfl
 |succ k ih=>simp[rv,ih]
theorem aca (l:List UInt8)(k:Nat):2*k<=l.length+1->∀j,j<l.length->(rv l k)[j]?=if j<k\/l.length-k<=j then l[l.length-1-j]? else l[j]?:=by
 induction k with
 |zero=>intro _ j c;rw[zh (by omega)];rfl
 |succ k ih=>
  intro o j c;have d:=ih (by omega);have n:=d k (by omega);have i:=d (l.length-1-k) (by omega);have m:=rL l k;simp only[rv,List.getElem?_set,zw,Zh,m];by_cases e:l.length-1-k=j
  ·subst e;rw[zi rfl,zi c,zi (by omega),n];by_cases b:k=l.length-1-k
   ·rw[zh (by omega),<-b,zx (by omega),];simp only[Option.getD_some];rw[show l.length-1-k=k from by omega,zx (by omega)]
   rw[zh (by omega),show l.length-1-(l.length-1-k)=k from by omega,zx (by omega)];rfl
  rw[zh e];by_cases h:k=j
  ·subst h;rw[zi rfl,zi c,zi (by omega),i,zh (by omega),zx (by omega)];rfl
  rw[zh h,d j c];by_cases b:j<k\/l.length-k<=j
  ·rw[zi b,zi (by omega)]
  rw[zh b,zh (by omega)]
theorem Xf (l:List UInt8)(k:Nat)(h:l.length<=2*k+1)(d:2*k<=l.length+1):rv l k=l.reverse:=by
 apply List.ext_getElem?;intro j;by_cases b:j<l.length
 ·rw[aca l k d j b,List.getElem?_reverse b];by_cases c:j<k\/l.length-k<=j
  ·rw[zi c]
  rw[zh c,show l.length-1-j=j from by omega]
 rw[xa (by rw[rL];omega),xa (by simp;omega)]
theorem Ng (base g cap:Nat)(l:List UInt8)(w:World)(h:bP w base 5 (.slice (some ⟨g,0,none⟩) l.length cap) l)(s:l.length<=1099511627776):
 Calls prog 234 #[.slice (some ⟨g,0,none⟩) l.length cap] w fun e w'=>e= .returned (.tuple #[])/\bP w' base 5 (.slice (some ⟨g,0,none⟩) l.length cap) l.reverse/\Kept 5 base w w':=by
 obtain⟨n,m⟩:∃n,l.length=n:=⟨_,rfl⟩
 rw[m]at h s⊢;have c:=za m;clear m;go_enter func234,ntmps234
 go_wp2;go_loopw [2,3] (fun i j wr=>∃k:Nat,2*k<=n+1/\i= .int .i64 k/\j= .int .i64 ((n:Int)-1-k)/\bP wr base 5 (.slice (some ⟨g,0,none⟩) n cap) (rv l k)/\Kept 5 base w wr) (fun i _ _=>n-(intOf i).toNat)
 case atStart=>exact⟨0,by omega,rfl,by go_num,h,Kept.refl _ _ _⟩
 case round=>
  obtain⟨k,G,rfl,rfl,b,o⟩:=hrel;clear h;by_cases F:2*k+1<n
  ·have u:(rv l k).length=n:=by rw[rL,c.out]
   obtain⟨d,hd⟩:∃d:Nat,n-1-k=d:=⟨_,rfl⟩
   have z:(n:Int)-1-k=d:=by omega
   obtain⟨C,f1,g1,g2⟩:=b.at_ (k:=k) (by omega);obtain⟨H,f2,_,_⟩:=b.at_ (k:=d) (by omega);have r:=za ((b.set (k:=k) (by omega) ((rv l k).getD d 0)).set (k:=d) (by rw[Zh];omega) ((rv l k).getD k 0));obtain⟨J,I,p,q⟩:=b.block;have B:=za (((o.store (k:=k) p q (.int .u8 ((rv l k).getD d 0).toNat))).store (k:=d) (jh _ p) q (.int .u8 ((rv l k).getD k 0).toNat));have A:Hid (((rv l k).set k ((rv l k).getD d 0)).set d ((rv l k).getD k 0)=rv l (k+1)):=za (by simp only[rv];rw[c.out,hd]);rw[A.out]at r;have E:(⟨g,d,none⟩:Addr)≠⟨g,k,none⟩:=fun e=>by have:=xu Addr.off e;simp at this;omega
   rw[z];generalize ((rv l k).getD d 0).toNat=y at*;generalize ((rv l k).getD k 0).toNat=x at*;have K:k<d:=by omega
   have D:d<n:=by omega
   clear p b o u hd;go_wp2;go_region
   all_goals
    go_wp2;go_roundw
    case rel=>exact⟨k+1,by omega,by go_num,by go_num,r.out.drew,B.out.drew⟩
    case measure=>simp[intOf];omega
  have e:rv l k=l.reverse:=Xf l k (by rw[c.out];omega) (by rw[c.out];omega);rw[e]at b;go_wp2;go_end0
  exact⟨rfl,b,o⟩
theorem Nh (base g cap:Nat)(l:List UInt8)(w:World)(b:bP w base 5 (.slice (some ⟨g,0,none⟩) l.length cap) l)(j:l.length<=1099511627776):
 Calls prog 209 #[.slice (some ⟨g,0,none⟩) l.length cap] w fun e w'=>e= .returned (.string ⟨l.reverse.toArray⟩)/\Kept 5 base w w':=by
 have m:=za (Ng base g cap l w b j);clear b;go_enter func209,ntmps209
 go_wp2_with fail
 refine m.out.mono ?_;rintro e o ⟨rfl,c,h⟩;have k:=c.EJ (P:=prog) zr yq zM;have i:=za h;clear c h;obtain⟨X,d⟩:∃X,Hid ((⟨l.reverse.toArray⟩:ByteArray)=X):=⟨_,za rfl⟩
 rw[d.out]at k;generalize l.length=n at*;go_wp2;go_ret;exact⟨by rw[d.out];rfl,i.out⟩
