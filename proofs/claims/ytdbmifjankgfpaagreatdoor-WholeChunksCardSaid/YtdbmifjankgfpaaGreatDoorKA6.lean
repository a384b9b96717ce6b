/- slices.Clone at items, item.List, item.Text. -/
import Derived.Test.YtdbmifjankgfpaaGreatDoorKA5
import Derived.WalkSpells
import Derived.Lib.BufferWrite
import Derived.Deep.WholeRow
set_option linter.all false
set_option maxRecDepth 100000
set_option maxHeartbeats 4000000
namespace Go.Proofs.YtdbmifjankgfpaaGreatDoor
open Tryz
open Go.RowKit
def zk:=@bodyPost_ret
def zp:=@World.size_alloc
def zG:=@underlying9
def yb:=@underlying5
def yL:=@bne_iff_ne
def yN:=@beq_iff_eq
def y7:=@ntmps216
def xg:=@IntWalk.u64_in
def xj:=@wpList_append_lies
def xo:=@func216
def xr:=@Int.tmod_eq_emod_of_nonneg
def Zo:=@underlying50
def ZI:=@wpList_make_own
theorem Cl :(prog.info? 28).map (fun i=>(i.zero,i.size,i.bytes))=some (some (.agg #[.string ⟨#[]⟩,.bool false,.slice none 0 0]),3,48):=by kernel_rfl
theorem pr (s:ByteArray)(w:World):
 Calls prog 197 #[.string s] w fun e w'=>e= .returned (.agg #[.string s,.bool false,.slice none 0 0])/\Below w.heap.size w w':=by
 go_enter func197,ntmps197
 go_wp2;refine zk (v:= .agg #[.string s,.bool false,.slice none 0 0]) (by simp[results,results197,go_sem]) rfl ⟨rfl, ?_⟩;exact bQ
theorem IJ {w:World}{base cap n:Nat}{A:Option Addr}{c:List Value}{e:TypeId}{k:Nat}(j:w.ownsRow base e k (.slice A n cap) n c):∀g,(Value.slice A n cap).ownBlock=some g->base<=g:=by
 intro g b;rcases j.2 with⟨h,m⟩|⟨d,o,p,i,l,_⟩
 ·rw[h]at b;cases b
 rw[i]at b;have:d=g:=by simpa[Value.ownBlock]using b
 omega
mutual
def gq (w:World)(S:Nat->Prop):It->Value->Value->Value->Prop
 | .mk t l s,c0,c1,c2=>c0= .string t/\c1= .bool l/\t.size<=9223372036854775807/\s.length<=9223372036854775807/\∃A cap,c2= .slice A s.length cap/\s.length<=cap/\cap<=9223372036854775807/\nF w S s A 0
def nF (w:World)(S:Nat->Prop):List It->Option Addr->Nat->Prop
 | [],_,_=>True
 |x::xs,A,i=>(∃b o c0 c1 c2,A=some ⟨b,o,none⟩/\S b/\w.cell? ⟨b,o+i*3,none⟩=some c0/\w.cell? ⟨b,o+i*3+1,none⟩=some c1/\w.cell? ⟨b,o+i*3+2,none⟩=some c2/\gq w S x c0 c1 c2)/\nF w S xs A (i+1)
end
theorem nF.at_ {w:World}{S:Nat->Prop}{A:Option Addr}:∀{s:List It} {i:Nat},nF w S s A i->∀(j:Nat) (h:j<s.length),∃b o c e d,A=some ⟨b,o,none⟩/\S b/\w.cell? ⟨b,o+(i+j)*3,none⟩=some c/\w.cell? ⟨b,o+(i+j)*3+1,none⟩=some e/\w.cell? ⟨b,o+(i+j)*3+2,none⟩=some d/\gq w S s[j] c e d
 | [],_,_,j,h=>by simp at h
 |x::xs,i,hi,0,_=>by simpa[nF]using hi.1
 |x::xs,i,hi,j+1,h=>by
  have:=nF.at_ hi.2 j (by simpa using h);rw[show i+1+j=i+(j+1)from by omega]at this;simpa using this
theorem nF.G6 {w:World}{S:Nat->Prop}{A:Option Addr}:∀{s:List It} {i:Nat},(∀(j:Nat) (h:j<s.length),∃b o c e d,A=some ⟨b,o,none⟩/\S b/\w.cell? ⟨b,o+(i+j)*3,none⟩=some c/\w.cell? ⟨b,o+(i+j)*3+1,none⟩=some e/\w.cell? ⟨b,o+(i+j)*3+2,none⟩=some d/\gq w S s[j] c e d)->nF w S s A i
 | [],_,_=>by simp[nF]
 |x::xs,i,h=>by
  refine⟨h 0 (Nat.zero_lt_succ _),nF.G6 fun j k=> ?_⟩;have:=h (j+1) (by simpa using k);rw[show i+(j+1)=i+1+j from by omega]at this;simpa using this
theorem gq.ag {w w':World}{S S':Nat->Prop}(hS:∀k,k<w.heap.size->S k->S' k)(n:∀p:Addr,p.block<w.heap.size->S p.block->w'.cell? p=w.cell? p):∀(x:It) {e m i:Value},gq w S x e m i->gq w' S' x e m i:=by
 intro x;induction x using It.ind with
 |h t l s ih=>
  intro e m i h;obtain⟨C,I,E,B,A,cap,D,u,F,z⟩:=h;refine⟨C,I,E,B,A,cap,D,u,F,nF.G6 fun j r=> ?_⟩;obtain⟨b,o,d0,d1,d2,G,c,q,y,H,hi⟩:=z.at_ j r;have d:=lt_of_cell q;exact⟨b,o,d0,d1,d2,G,hS _ d c,(n _ d c).trans q,(n _ d c).trans y,(n _ d c).trans H,ih _ (zN r) hi⟩
theorem gq.fe {w:World}{S S':Nat->Prop}{x:It}{b d c:Value}(h:gq w S x b d c)(hS:∀k,k<w.heap.size->S k->S' k):gq w S' x b d c:=gq.ag hS (fun _ _ _=>rfl) x h
theorem gq.only {w w':World}{S S':Nat->Prop}{L:List Nat}{x:It}{b c d:Value}(h:gq w S x b c d)(m:ae L w w')(l:∀k,k∈L->¬S k)(hS:∀k,k<w.heap.size->S k->S' k):gq w' S' x b c d:=
 gq.ag hS (fun p j e=>m.cell j fun i=>l _ i e) x h
theorem gq.below {w w':World}{S:Nat->Prop}{x:It}{b c d:Value}(h:gq w S x b c d)(e:Below w.heap.size w w'):gq w' S x b c d:=gq.ag (fun _ _ h=>h) (fun _ i _=>e.cell i) x h
theorem gq.AZ {w:World}{S:Nat->Prop}:∀(x:It) {c d e:Value},gq w S x c d e->dg w w.heap.size x c d e:=by
 intro x;induction x using It.ind with
 |h t l s ih=>
  intro c d e h;obtain⟨r,z,n,p,A,cap,u,m,q,D⟩:=h;refine⟨r,z,n,p,A,cap,u,m,q,cc.G6 fun j k=> ?_⟩;obtain⟨b,o,d0,d1,d2,C,E,i,B,y,hi⟩:=D.at_ j k;exact⟨b,o,d0,d1,d2,C,lt_of_cell i,i,B,y,ih _ (zN k) hi⟩
theorem gq.open_ {w:World}{S:Nat->Prop}{x:It}{b c d:Value}(h:gq w S x b c d):∃A cap,b= .string x.text/\c= .bool x.list/\d= .slice A x.sub.length cap/\x.text.size<=9223372036854775807/\x.sub.length<=cap/\cap<=9223372036854775807/\nF w S x.sub A 0:=by
 cases x with
 |mk t l s=>
  obtain⟨k,n,i,p,A,cap,m,e,j,o⟩:=h;exact⟨A,cap,k,n,m,i,e,j,o⟩
theorem gq.text {w:World}{S:Nat->Prop}{t:ByteArray}(l:Bool)(b:t.size<=9223372036854775807):gq w S (.mk t l []) (.string t) (.bool l) (.slice none 0 0):=⟨rfl,rfl,b,by simp,none,0,rfl,by simp,by simp,trivial⟩
def fV (w:World)(S:Nat->Prop):List It->List Value->Prop
 | [],cs=>cs= []
 |x::xs,cs=>∃c0 c1 c2 ds,cs=c0::c1::c2::ds/\gq w S x c0 c1 c2/\fV w S xs ds
theorem fV.ag {w w':World}{S S':Nat->Prop}(hS:∀k,k<w.heap.size->S k->S' k)(c:∀p:Addr,p.block<w.heap.size->S p.block->w'.cell? p=w.cell? p):∀{s:List It} {b:List Value},fV w S s b->fV w' S' s b
 | [],b,h=>h
 |x::xs,b,h=>by
  obtain⟨e,d,j,l,rfl,m,i⟩:=h;exact⟨e,d,j,l,rfl,gq.ag hS c x m,i.ag hS c⟩
theorem fV.snoc {w:World}{S:Nat->Prop}{y:It}{c d e:Value}(i:gq w S y c d e):∀{s:List It} {b:List Value},fV w S s b->fV w S (s++ [y]) (b++ [c,d,e])
 | [],b,h=>by
  have h:b= []:=h;subst h;exact⟨c,d,e,[],rfl,i,rfl⟩
 |x::xs,b,h=>by
  obtain⟨k,o,l,m,rfl,n,j⟩:=h;exact⟨k,o,l,m++ [c,d,e],by simp,n,j.snoc i⟩
theorem nF.fa {w:World}{S:Nat->Prop}{b o:Nat}(d:S b):∀{s:List It} {i:Nat} {c:List Value},fV w S s c->(∀j u,c[j]?=some u->w.cell? ⟨b,o+i*3+j,none⟩=some u)->nF w S s (some ⟨b,o,none⟩) i
 | [],_,_,_,_=>trivial
 |x::xs,i,c,h,hc=>by
  obtain⟨k,e,l,p,rfl,n,m⟩:=h;refine⟨⟨b,o,k,e,l,rfl,d,by simpa using hc 0 k (by simp),hc 1 e (by simp),hc 2 l (by simp),n⟩,nF.fa d m fun j u hu=> ?_⟩;have:=hc (j+3) u (by simpa using hu);rw[show o+(i+1)*3+j=o+i*3+(j+3)from by omega];exact this
def Acc (w:World)(lo:Nat)(acc:List It)(v:Value):Prop:=∃cs,w.ownsRow lo 28 3 v acc.length cs/\fV w (fun k=>lo<=k/\v.ownBlock≠some k) acc cs
theorem Acc.nil (w:World)(lo:Nat):Acc w lo [] (.slice none 0 0):=⟨[],⟨by simp,.inl ⟨rfl,rfl⟩⟩,rfl⟩
theorem Acc.form {w:World}{lo:Nat}{acc:List It}{v:Value}(h:Acc w lo acc v):∃A cap,v= .slice A acc.length cap/\acc.length<=cap/\cap<=9223372036854775807:=by
 obtain⟨k,e,l⟩:=h;rcases e.2 with⟨i,c⟩|⟨g,cap,m,j,_,_,d,b,_⟩
 ·exact⟨none,0,by rw[i,c],by omega,by simp⟩
 exact⟨_,cap,j,d,by simpa[maxLen]using b⟩
theorem Acc.bT {w:World}{lo:Nat}{acc:List It}{v:Value}(h:Acc w lo acc v):∃A n cap,v= .slice A n cap/\Hid (n=acc.length)/\n<=cap/\cap<=9223372036854775807:=by
 obtain⟨A,cap,c,b,d⟩:=h.form;exact⟨A,_,cap,c,za rfl,b,d⟩
theorem Acc.ge {w:World}{lo:Nat}{acc:List It}{v:Value}(h:Acc w lo acc v):∀g,v.ownBlock=some g->lo<=g/\g<w.heap.size:=by
 obtain⟨l,i,m⟩:=h;intro g b;rcases i.2 with⟨j,n⟩|⟨d,cap,o,k,c,e,_⟩
 ·rw[j]at b;cases b
 rw[k]at b;have:d=g:=by simpa[Value.ownBlock]using b
 subst this;exact⟨c,yG e⟩
theorem af.grown {w w':World}{g:Nat}{t:TypeId}{b:Array Value}{row:Option Nat}(h:af w g t b)(d:w.grownBy w' row)(c:row≠some g):af w' g t b:=(d.block g h.lt (fun e=>c e.symm)).trans h
theorem Acc.ag {w w':World}{lo:Nat}{acc:List It}{v:Value}(h:Acc w lo acc v)(b:∀k,lo<=k->k<w.heap.size->w'.heap[k]?=w.heap[k]?):Acc w' lo acc v:=by
 obtain⟨e,c,j⟩:=h;refine⟨e,⟨c.1, ?_⟩,j.ag (fun _ _ h=>h) fun p i d=>zD (b _ d.1 i)⟩;rcases c.2 with h3|⟨g,cap,cur,hv,hg,hh,r⟩
 ·exact .inl h3
 exact .inr ⟨g,cap,cur,hv,hg,(b g hg (yG hh)).trans hh,r⟩
theorem Acc.only {w w':World}{lo:Nat}{acc:List It}{v:Value}{L:List Nat}(h:Acc w lo acc v)(e:ae L w w')(d:∀g,g∈L->g<lo):Acc w' lo acc v:=
 h.ag fun k i c=>e.block k c fun b=>by have:=d k b;omega
theorem Acc.below {w w':World}{lo:Nat}{acc:List It}{v:Value}(h:Acc w lo acc v)(b:Below w.heap.size w w'):Acc w' lo acc v:=h.ag fun k _ c=>b.block k c
theorem Acc.list {w:World}{lo:Nat}{acc:List It}{v:Value}(h:Acc w lo acc v)(d:acc.length<=9223372036854775807):gq w (lo<= ·) (.mk ⟨#[]⟩ true acc) (.string ⟨#[]⟩) (.bool true) v:=by
 obtain⟨A,cap,rfl,l,e⟩:=h.form;obtain⟨o,c,n⟩:=h;refine⟨rfl,rfl,yc _,d,A,cap,rfl,l,e, ?_⟩;rcases c.2 with⟨b,k⟩|⟨g,p,r,m,i,q,_⟩
 ·obtain rfl:acc= []:=zo k;trivial
 injection m with hA _ hc;subst hA;subst hc;refine nF.fa i (n.ag (fun _ _ h=>h.1) (fun _ _ _=>rfl)) fun j u hu=> ?_
 have:=c.cells rfl j u hu;have b:(⟨g,0,none⟩:Addr).add j=⟨g,j,none⟩:=by unfold Addr.add;split<;>simp_all
 rw[b]at this;simpa using this
theorem agD {w:World}{S:Nat->Prop}{y:It}{b d c:Value}(h:gq w S y b d c):∀u∈ [b,d,c],u.oneCell'=true:=by
 obtain⟨A,cap,rfl,rfl,rfl,_⟩:=h.open_;intro u hu;simp at hu;rcases hu with rfl|rfl|rfl<;>rfl
def pt (w:World)(S:Nat->Prop)(m:Ms)(c0 c1 c2 c3:Value):Prop:=c0= .string m.name/\m.name.size<=9223372036854775807/\gq w S m.x c1 c2 c3
theorem pt.ag {w w':World}{S S':Nat->Prop}(hS:∀k,k<w.heap.size->S k->S' k)(i:∀p:Addr,p.block<w.heap.size->S p.block->w'.cell? p=w.cell? p)(m:Ms){c b d e:Value}(h:pt w S m c b d e):pt w' S' m c b d e:=⟨h.1,h.2.1,gq.ag hS i _ h.2.2⟩
theorem pt.below {w w':World}{S:Nat->Prop}{m:Ms}{b c d e:Value}(h:pt w S m b c d e)(i:Below w.heap.size w w'):pt w' S m b c d e:=pt.ag (fun _ _ h=>h) (fun _ j _=>i.cell j) m h
theorem pt.fe {w:World}{S S':Nat->Prop}{m:Ms}{b e c d:Value}(h:pt w S m b e c d)(hS:∀k,k<w.heap.size->S k->S' k):pt w S' m b e c d:=pt.ag hS (fun _ _ _=>rfl) m h
theorem pt.only {w w':World}{S S':Nat->Prop}{L:List Nat}{m:Ms}{b c d e:Value}(h:pt w S m b c d e)(o:ae L w w')(n:∀k,k∈L->¬S k)(hS:∀k,k<w.heap.size->S k->S' k):pt w' S' m b c d e:=
 pt.ag hS (fun p l i=>o.cell l fun j=>n _ j i) m h
theorem pt.open_ {w:World}{S:Nat->Prop}{m:Ms}{b c d e:Value}(h:pt w S m b c d e):∃A cap,b= .string m.name/\c= .string m.x.text/\d= .bool m.x.list/\e= .slice A m.x.sub.length cap/\m.name.size<=9223372036854775807/\m.x.text.size<=9223372036854775807/\m.x.sub.length<=cap/\cap<=9223372036854775807:=by
 obtain⟨l,o,hi⟩:=h;obtain⟨A,cap,p,n,q,j,i,k,_⟩:=hi.open_;exact⟨A,cap,l,p,n,q,o,j,i,k⟩
theorem FC :(prog.info? 30).map (fun i=>(i.zero,i.size,i.bytes))=some (some (.agg #[.string ⟨#[]⟩,.string ⟨#[]⟩,.bool false,.slice none 0 0]),4,64):=by kernel_rfl
def rO (w:World)(S:Nat->Prop):List Ms->Option Addr->Nat->Prop
 | [],_,_=>True
 |x::xs,A,i=>(∃b o c0 c1 c2 c3,A=some ⟨b,o,none⟩/\S b/\w.cell? ⟨b,o+i*4,none⟩=some c0/\w.cell? ⟨b,o+i*4+1,none⟩=some c1/\w.cell? ⟨b,o+i*4+2,none⟩=some c2/\w.cell? ⟨b,o+i*4+3,none⟩=some c3/\pt w S x c0 c1 c2 c3)/\rO w S xs A (i+1)
theorem rO.at_ {w:World}{S:Nat->Prop}{A:Option Addr}:∀{s:List Ms} {i:Nat},rO w S s A i->∀(j:Nat) (h:j<s.length),∃b o c k d e,A=some ⟨b,o,none⟩/\S b/\w.cell? ⟨b,o+(i+j)*4,none⟩=some c/\w.cell? ⟨b,o+(i+j)*4+1,none⟩=some k/\w.cell? ⟨b,o+(i+j)*4+2,none⟩=some d/\w.cell? ⟨b,o+(i+j)*4+3,none⟩=some e/\pt w S s[j] c k d e
 | [],_,_,j,h=>by simp at h
 |x::xs,i,hi,0,_=>by simpa[rO]using hi.1
 |x::xs,i,hi,j+1,h=>by
  have:=rO.at_ hi.2 j (by simpa using h);rw[show i+1+j=i+(j+1)from by omega]at this;simpa using this
theorem rO.ag {w w':World}{S S':Nat->Prop}(hS:∀k,k<w.heap.size->S k->S' k)(c:∀p:Addr,p.block<w.heap.size->S p.block->w'.cell? p=w.cell? p){A:Option Addr}:∀{s:List Ms} {i:Nat},rO w S s A i->rO w' S' s A i
 | [],_,_=>trivial
 |x::xs,i,h=>by
  obtain⟨⟨b,o,m,n,r,B,z,d,j,y,u,l,hi⟩,q⟩:=h;have e:=lt_of_cell j;exact⟨⟨b,o,m,n,r,B,z,hS _ e d,(c _ e d).trans j,(c _ e d).trans y,(c _ e d).trans u,(c _ e d).trans l,hi.ag hS c⟩,q.ag hS c⟩
def fI (w:World)(S:Nat->Prop):List Ms->List Value->Prop
 | [],cs=>cs= []
 |x::xs,cs=>∃c0 c1 c2 c3 ds,cs=c0::c1::c2::c3::ds/\pt w S x c0 c1 c2 c3/\fI w S xs ds
theorem fI.ag {w w':World}{S S':Nat->Prop}(hS:∀k,k<w.heap.size->S k->S' k)(c:∀p:Addr,p.block<w.heap.size->S p.block->w'.cell? p=w.cell? p):∀{s:List Ms} {b:List Value},fI w S s b->fI w' S' s b
 | [],b,h=>h
 |x::xs,b,h=>by
  obtain⟨e,d,j,n,l,rfl,m,i⟩:=h;exact⟨e,d,j,n,l,rfl,pt.ag hS c x m,i.ag hS c⟩
theorem fI.snoc {w:World}{S:Nat->Prop}{y:Ms}{d c e i:Value}(j:pt w S y d c e i):∀{s:List Ms} {b:List Value},fI w S s b->fI w S (s++ [y]) (b++ [d,c,e,i])
 | [],b,h=>by
  have h:b= []:=h;subst h;exact⟨d,c,e,i,[],rfl,j,rfl⟩
 |x::xs,b,h=>by
  obtain⟨m,q,n,k,o,rfl,p,l⟩:=h;exact⟨m,q,n,k,o++ [d,c,e,i],by simp,p,l.snoc j⟩
theorem rO.fa {w:World}{S:Nat->Prop}{b o:Nat}(d:S b):∀{s:List Ms} {i:Nat} {c:List Value},fI w S s c->(∀j u,c[j]?=some u->w.cell? ⟨b,o+i*4+j,none⟩=some u)->rO w S s (some ⟨b,o,none⟩) i
 | [],_,_,_,_=>trivial
 |x::xs,i,c,h,hc=>by
  obtain⟨k,e,l,m,q,rfl,p,n⟩:=h;refine⟨⟨b,o,k,e,l,m,rfl,d,by simpa using hc 0 k (by simp),hc 1 e (by simp),hc 2 l (by simp),hc 3 m (by simp),p⟩,rO.fa d n fun j u hu=> ?_⟩;have:=hc (j+4) u (by simpa using hu);rw[show o+(i+1)*4+j=o+i*4+(j+4)from by omega];exact this
def cd (w:World)(S0:Nat->Prop)(lo:Nat)(acc:List Ms)(v:Value):Prop:=∃cs,w.ownsRow lo 30 4 v acc.length cs/\fI w (fun k=>S0 k/\v.ownBlock≠some k) acc cs
abbrev A7 (w:World)(lo:Nat)(acc:List Ms)(v:Value):Prop:=cd w (lo<= ·) lo acc v
theorem cd.nil (w:World)(b:Nat->Prop)(lo:Nat):cd w b lo [] (.slice none 0 0):=⟨[],⟨by simp,.inl ⟨rfl,rfl⟩⟩,rfl⟩
theorem A7.nil (w:World)(lo:Nat):A7 w lo [] (.slice none 0 0):=cd.nil _ _ _
theorem cd.form {w:World}{c:Nat->Prop}{lo:Nat}{acc:List Ms}{v:Value}(h:cd w c lo acc v):∃A cap,v= .slice A acc.length cap/\acc.length<=cap/\cap<=9223372036854775807:=by
 obtain⟨l,i,m⟩:=h;rcases i.2 with⟨j,d⟩|⟨g,cap,n,k,_,_,e,b,_⟩
 ·exact⟨none,0,by rw[j,d],by omega,by simp⟩
 exact⟨_,cap,k,e,by simpa[maxLen]using b⟩
theorem cd.bT {w:World}{e:Nat->Prop}{lo:Nat}{acc:List Ms}{v:Value}(h:cd w e lo acc v):∃A n cap,v= .slice A n cap/\Hid (n=acc.length)/\n<=cap/\cap<=9223372036854775807:=by
 obtain⟨A,cap,d,c,b⟩:=h.form;exact⟨A,_,cap,d,za rfl,c,b⟩
theorem cd.ge {w:World}{e:Nat->Prop}{lo:Nat}{acc:List Ms}{v:Value}(h:cd w e lo acc v):∀g,v.ownBlock=some g->lo<=g/\g<w.heap.size:=by
 obtain⟨m,j,n⟩:=h;intro g b;rcases j.2 with⟨k,o⟩|⟨d,cap,p,l,c,i,_⟩
 ·rw[k]at b;cases b
 rw[l]at b;have:d=g:=by simpa[Value.ownBlock]using b
 subst this;exact⟨c,yG i⟩
theorem cd.typed {w:World}{l:Nat->Prop}{lo:Nat}{acc:List Ms}{v:Value}(h:cd w l lo acc v):∀k,v.ownBlock=some k->lo<=k/\k<w.heap.size/\∃c,af w k 30 c:=by
 obtain⟨n,m,o⟩:=h;intro k b;rcases m.2 with⟨d,_⟩|⟨j,p,c,d,i,e,_⟩
 ·rw[d]at b;cases b
 rw[d]at b;have:j=k:=by simpa[Value.ownBlock]using b
 subst this;exact⟨i,yG e,c,e⟩
theorem cd.ag {w w':World}{b:Nat->Prop}{lo:Nat}{acc:List Ms}{v:Value}(h:cd w b lo acc v)(c:∀k,k<w.heap.size->b k\/v.ownBlock=some k->w'.heap[k]?=w.heap[k]?):cd w' b lo acc v:=by
 obtain⟨i,d,l⟩:=h;refine⟨i,⟨d.1, ?_⟩,l.ag (fun _ _ h=>h) fun p j e=>zD (c _ j (.inl e.1))⟩;rcases d.2 with h3|⟨g,cap,cur,hv,hg,hh,r⟩
 ·exact .inl h3
 exact .inr ⟨g,cap,cur,hv,hg,(c g (yG hh) (.inr (by rw[hv];rfl))).trans hh,r⟩
theorem cd.only {w w':World}{c:Nat->Prop}{lo:Nat}{acc:List Ms}{v:Value}{L:List Nat}(h:cd w c lo acc v)(l:ae L w w')(i:∀g,g∈L->¬c g)(e:∀g,g∈L->v.ownBlock≠some g):cd w' c lo acc v:=
 h.ag fun k j b=>l.block k j fun d=>by
  rcases b with b|b
  ·exact i k d b
  exact e k d b
theorem cd.below {w w':World}{b:Nat->Prop}{lo:Nat}{acc:List Ms}{v:Value}(h:cd w b lo acc v)(c:Below w.heap.size w w'):cd w' b lo acc v:=h.ag fun k d _=>c.block k d
theorem cd.fe {w:World}{b S1:Nat->Prop}{lo lo':Nat}{acc:List Ms}{v:Value}(h:cd w b lo acc v)(hS:∀k,k<w.heap.size->b k->S1 k)(c:lo'<=lo):cd w S1 lo' acc v:=by
 obtain⟨d,j,i⟩:=h;exact⟨d,j.mono c,i.ag (fun k e h=>⟨hS k e h.1,h.2⟩) fun _ _ _=>rfl⟩
theorem A7.only {w w':World}{lo:Nat}{acc:List Ms}{v:Value}{L:List Nat}(h:A7 w lo acc v)(d:ae L w w')(c:∀g,g∈L->g<lo):A7 w' lo acc v:=
 cd.only h d (fun g b=>by have:=c g b;omega) (fun g b e=>by have:=c g b;have:=(cd.ge h g e).1;omega)
theorem A7.reads {w:World}{lo:Nat}{acc:List Ms}{v:Value}(h:A7 w lo acc v):∃A cap,v= .slice A acc.length cap/\acc.length<=cap/\cap<=9223372036854775807/\rO w (lo<= ·) acc A 0:=by
 obtain⟨A,cap,rfl,k,d⟩:=cd.form h;obtain⟨n,c,m⟩:=h;refine⟨A,cap,rfl,k,d, ?_⟩;rcases c.2 with⟨b,i⟩|⟨g,o,q,l,e,p,_⟩
 ·obtain rfl:acc= []:=zo i;trivial
 injection l with hA _ hc;subst hA;subst hc;refine rO.fa e (m.ag (fun _ _ h=>h.1) (fun _ _ _=>rfl)) fun j u hu=> ?_
 have:=c.cells rfl j u hu;have b:(⟨g,0,none⟩:Addr).add j=⟨g,j,none⟩:=by unfold Addr.add;split<;>simp_all
 rw[b]at this;simpa using this
theorem Vs {w:World}{S:Nat->Prop}{y:Ms}{b c d e:Value}(h:pt w S y b c d e):∀u∈ [b,c,d,e],u.oneCell'=true:=by
 obtain⟨A,cap,rfl,rfl,rfl,rfl,_⟩:=h.open_;intro u hu;simp at hu;rcases hu with rfl|rfl|rfl|rfl<;>rfl
theorem qx {w:World}{ops:Array Oper}{rest:List Oper}{o:Oper}{a:Act}{Q:Exit->Act->World->Prop}(M:o.guard=none)(s x:Operand)
 (U:o.op= .call {callee:= .builtin .append,args:= #[s,x],argTypes:= #[50,50]}) (m:Nat->Prop) (lo:Nat) (acc:List Ms) {v:Value} (D:a.eval s=v) (K:cd w m lo acc v) (y:Ms) {c i d h:Value}
 (r:pt w (fun k=>m k/\v.ownBlock≠some k) y c i d h) (g:Nat) (hx:a.eval x= .slice (some ⟨g,0,none⟩) 1 1) (N:w.cell? ⟨g,0,none⟩=some c) (B:w.cell? ⟨g,1,none⟩=some i) (E:w.cell? ⟨g,2,none⟩=some d) (G:w.cell? ⟨g,3,none⟩=some h)
 (X:acc.length<=1000000) (W:lo<=w.heap.size)
 (L:∀b n cap w',Hid (n=acc.length+1)->cd w' m lo (acc++ [y]) (.slice (some ⟨b,0,none⟩) n cap)->w.grownBy w' v.ownBlock->lo<=b->wpList prog ops Q rest (a.put o.dst (.slice (some ⟨b,0,none⟩) n cap)) w'):wpList prog ops Q (o::rest) a w:=by
 obtain⟨i0,hi,F,S,O⟩:=yE FC;obtain⟨q,R,I⟩:=K;refine xj w M s x 50 U lo 30 i0 _ 4 64 Zo hi F S O rfl (by decide) v acc.length q D R ⟨g,0,none⟩ 1 1 [c,i,d,h] hx rfl ?_ (Vs r) (by decide) (by simp only[maxLen];omega) (by omega) W w.heap.size rfl ?_
 ·intro j u hu;have C:∀j,(⟨g,0,none⟩:Addr).add j=⟨g,j,none⟩:=by intro j;unfold Addr.add;split<;>simp_all
  rw[C];match j,hu with
  |0,hu=>simp at hu;subst hu;exact N
  |1,hu=>simp at hu;subst hu;exact B
  |2,hu=>simp at hu;subst hu;exact E
  |3,hu=>simp at hu;subst hu;exact G
 intro b cap w' z A l Y;have H:=IJ z b rfl;refine L b _ cap w' (za rfl) ⟨q++ [c,i,d,h],by rw[zj];exact z, ?_⟩ A H;refine((I.snoc r).ag (fun k Z hS=>⟨hS.1, ?_⟩) fun p J hS=>zD (A.block _ J (fun e=>hS.2 e.symm)));intro e;have e:b=k:=by simpa[Value.ownBlock]using e
 rcases l with l|l
 ·exact hS.2 (by rw[l,e])
 omega
theorem MP :(prog.info? 43).map (fun i=>(i.zero,i.size,i.bytes))=some (some (.agg #[.int .i64 0,.int .i64 0,.slice none 0 0,.int .i64 0]),4,48):=by kernel_rfl
mutual
def fD (w:World)(S:Nat->Prop):Ty->Value->Value->Value->Value->Prop
 | .mk k s l t,c0,c1,c2,c3=>c0= .int .i64 k/\c1= .int .i64 s/\c3= .int .i64 t/\mJ k/\mJ s/\mJ t/\l.length<=9223372036854775807/\∃A cap,c2= .slice A l.length cap/\l.length<=cap/\cap<=9223372036854775807/\oL w S l A 0
def oL (w:World)(S:Nat->Prop):List Ty->Option Addr->Nat->Prop
 | [],_,_=>True
 |x::xs,A,i=>(∃b o c0 c1 c2 c3,A=some ⟨b,o,none⟩/\S b/\w.cell? ⟨b,o+i*4,none⟩=some c0/\w.cell? ⟨b,o+i*4+1,none⟩=some c1/\w.cell? ⟨b,o+i*4+2,none⟩=some c2/\w.cell? ⟨b,o+i*4+3,none⟩=some c3/\fD w S x c0 c1 c2 c3)/\oL w S xs A (i+1)
end
theorem oL.at_ {w:World}{S:Nat->Prop}{A:Option Addr}:∀{s:List Ty} {i:Nat},oL w S s A i->∀(j:Nat) (h:j<s.length),∃b o c k d e,A=some ⟨b,o,none⟩/\S b/\w.cell? ⟨b,o+(i+j)*4,none⟩=some c/\w.cell? ⟨b,o+(i+j)*4+1,none⟩=some k/\w.cell? ⟨b,o+(i+j)*4+2,none⟩=some d/\w.cell? ⟨b,o+(i+j)*4+3,none⟩=some e/\fD w S s[j] c k d e
 | [],_,_,j,h=>by simp at h
 |x::xs,i,hi,0,_=>by simpa[oL]using hi.1
 |x::xs,i,hi,j+1,h=>by
  have:=oL.at_ hi.2 j (by simpa using h);rw[show i+1+j=i+(j+1)from by omega]at this;simpa using this
theorem oL.G6 {w:World}{S:Nat->Prop}{A:Option Addr}:∀{s:List Ty} {i:Nat},(∀(j:Nat) (h:j<s.length),∃b o c d e k,A=some ⟨b,o,none⟩/\S b/\w.cell? ⟨b,o+(i+j)*4,none⟩=some c/\w.cell? ⟨b,o+(i+j)*4+1,none⟩=some d/\w.cell? ⟨b,o+(i+j)*4+2,none⟩=some e/\w.cell? ⟨b,o+(i+j)*4+3,none⟩=some k/\fD w S s[j] c d e k)->oL w S s A i
 | [],_,_=>by simp[oL]
 |x::xs,i,h=>by
  refine⟨h 0 (Nat.zero_lt_succ _),oL.G6 fun j l=> ?_⟩;have:=h (j+1) (by simpa using l);rw[show i+(j+1)=i+1+j from by omega]at this;simpa using this
theorem fD.ag {w w':World}{S S':Nat->Prop}(hS:∀k,k<w.heap.size->S k->S' k)(e:∀p:Addr,p.block<w.heap.size->S p.block->w'.cell? p=w.cell? p):∀(x:Ty) {i q m n:Value},fD w S x i q m n->fD w' S' x i q m n:=by
 intro x;induction x using Ty.ind with
 |h k s l t ih=>
  intro i q m n h;obtain⟨E,L,H,k1,k2,z,D,A,cap,F,y,G,C⟩:=h;refine⟨E,L,H,k1,k2,z,D,A,cap,F,y,G,oL.G6 fun j u=> ?_⟩;obtain⟨b,o,d0,d1,d2,d3,I,c,r,B,K,J,hi⟩:=C.at_ j u;have d:=lt_of_cell r;exact⟨b,o,d0,d1,d2,d3,I,hS _ d c,(e _ d c).trans r,(e _ d c).trans B,(e _ d c).trans K,(e _ d c).trans J,ih _ (zN u) hi⟩
theorem fD.fe {w:World}{S S':Nat->Prop}{x:Ty}{b e c d:Value}(h:fD w S x b e c d)(hS:∀k,k<w.heap.size->S k->S' k):fD w S' x b e c d:=fD.ag hS (fun _ _ _=>rfl) x h
theorem fD.only {w w':World}{S S':Nat->Prop}{L:List Nat}{x:Ty}{b c d e:Value}(h:fD w S x b c d e)(n:ae L w w')(m:∀k,k∈L->¬S k)(hS:∀k,k<w.heap.size->S k->S' k):fD w' S' x b c d e:=
 fD.ag hS (fun p l i=>n.cell l fun j=>m _ j i) x h
theorem fD.below {w w':World}{S:Nat->Prop}{x:Ty}{b c d e:Value}(h:fD w S x b c d e)(i:Below w.heap.size w w'):fD w' S x b c d e:=fD.ag (fun _ _ h=>h) (fun _ j _=>i.cell j) x h
theorem fD.AZ {w:World}{S:Nat->Prop}:∀(x:Ty) {c i d e:Value},fD w S x c i d e->cD w w.heap.size x c i d e:=by
 intro x;induction x using Ty.ind with
 |h k s l t ih=>
  intro c i d e h;obtain⟨z,H,D,k1,k2,q,y,A,cap,B,p,C,u⟩:=h;refine⟨z,H,D,k1,k2,q,y,A,cap,B,p,C,fc.G6 fun j n=> ?_⟩;obtain⟨b,o,d0,d1,d2,d3,E,I,m,r,G,F,hi⟩:=u.at_ j n;exact⟨b,o,d0,d1,d2,d3,E,lt_of_cell m,m,r,G,F,ih _ (zN n) hi⟩
theorem fD.open_ {w:World}{S:Nat->Prop}{x:Ty}{b c d e:Value}(h:fD w S x b c d e):∃A cap,b= .int .i64 x.kind/\c= .int .i64 x.size/\d= .slice A x.sub.length cap/\e= .int .i64 x.tail/\mJ x.kind/\mJ x.size/\mJ x.tail/\x.sub.length<=cap/\cap<=9223372036854775807/\oL w S x.sub A 0:=by
 cases x with
 |mk k s l t=>
  obtain⟨p,r,y,o,m,j,z,A,cap,q,i,n,u⟩:=h;exact⟨A,cap,p,r,q,y,o,m,j,i,n,u⟩
def jz (w:World)(S:Nat->Prop):List Ty->List Value->Prop
 | [],cs=>cs= []
 |x::xs,cs=>∃c0 c1 c2 c3 ds,cs=c0::c1::c2::c3::ds/\fD w S x c0 c1 c2 c3/\jz w S xs ds
theorem jz.ag {w w':World}{S S':Nat->Prop}(hS:∀k,k<w.heap.size->S k->S' k)(c:∀p:Addr,p.block<w.heap.size->S p.block->w'.cell? p=w.cell? p):∀{s:List Ty} {b:List Value},jz w S s b->jz w' S' s b
 | [],b,h=>h
 |x::xs,b,h=>by
  obtain⟨e,d,j,n,l,rfl,m,i⟩:=h;exact⟨e,d,j,n,l,rfl,fD.ag hS c x m,i.ag hS c⟩
theorem jz.snoc {w:World}{S:Nat->Prop}{y:Ty}{d c e i:Value}(j:fD w S y d c e i):∀{s:List Ty} {b:List Value},jz w S s b->jz w S (s++ [y]) (b++ [d,c,e,i])
 | [],b,h=>by
  have h:b= []:=h;subst h;exact⟨d,c,e,i,[],rfl,j,rfl⟩
 |x::xs,b,h=>by
  obtain⟨m,q,n,k,o,rfl,p,l⟩:=h;exact⟨m,q,n,k,o++ [d,c,e,i],by simp,p,l.snoc j⟩
theorem oL.fa {w:World}{S:Nat->Prop}{b o:Nat}(d:S b):∀{s:List Ty} {i:Nat} {c:List Value},jz w S s c->(∀j u,c[j]?=some u->w.cell? ⟨b,o+i*4+j,none⟩=some u)->oL w S s (some ⟨b,o,none⟩) i
 | [],_,_,_,_=>trivial
 |x::xs,i,c,h,hc=>by
  obtain⟨k,e,l,m,q,rfl,p,n⟩:=h;refine⟨⟨b,o,k,e,l,m,rfl,d,by simpa using hc 0 k (by simp),hc 1 e (by simp),hc 2 l (by simp),hc 3 m (by simp),p⟩,oL.fa d n fun j u hu=> ?_⟩;have:=hc (j+4) u (by simpa using hu);rw[show o+(i+1)*4+j=o+i*4+(j+4)from by omega];exact this
def eP (w:World)(lo:Nat)(acc:List Ty)(v:Value):Prop:=∃cs,w.ownsRow lo 43 4 v acc.length cs/\jz w (fun k=>lo<=k/\v.ownBlock≠some k) acc cs
theorem eP.nil (w:World)(lo:Nat):eP w lo [] (.slice none 0 0):=⟨[],⟨by simp,.inl ⟨rfl,rfl⟩⟩,rfl⟩
theorem eP.form {w:World}{lo:Nat}{acc:List Ty}{v:Value}(h:eP w lo acc v):∃A cap,v= .slice A acc.length cap/\acc.length<=cap/\cap<=9223372036854775807:=by
 obtain⟨k,e,l⟩:=h;rcases e.2 with⟨i,c⟩|⟨g,cap,m,j,_,_,d,b,_⟩
 ·exact⟨none,0,by rw[i,c],by omega,by simp⟩
 exact⟨_,cap,j,d,by simpa[maxLen]using b⟩
theorem eP.bT {w:World}{lo:Nat}{acc:List Ty}{v:Value}(h:eP w lo acc v):∃A n cap,v= .slice A n cap/\Hid (n=acc.length)/\n<=cap/\cap<=9223372036854775807:=by
 obtain⟨A,cap,c,b,d⟩:=h.form;exact⟨A,_,cap,c,za rfl,b,d⟩
theorem eP.ge {w:World}{lo:Nat}{acc:List Ty}{v:Value}(h:eP w lo acc v):∀g,v.ownBlock=some g->lo<=g/\g<w.heap.size:=by
 obtain⟨l,i,m⟩:=h;intro g b;rcases i.2 with⟨j,n⟩|⟨d,cap,o,k,c,e,_⟩
 ·rw[j]at b;cases b
 rw[k]at b;have:d=g:=by simpa[Value.ownBlock]using b
 subst this;exact⟨c,yG e⟩
theorem eP.ag {w w':World}{lo:Nat}{acc:List Ty}{v:Value}(h:eP w lo acc v)(b:∀k,lo<=k->k<w.heap.size->w'.heap[k]?=w.heap[k]?):eP w' lo acc v:=by
 obtain⟨e,c,j⟩:=h;refine⟨e,⟨c.1, ?_⟩,j.ag (fun _ _ h=>h) fun p i d=>zD (b _ d.1 i)⟩;rcases c.2 with h3|⟨g,cap,cur,hv,hg,hh,r⟩
 ·exact .inl h3
 exact .inr ⟨g,cap,cur,hv,hg,(b g hg (yG hh)).trans hh,r⟩
theorem eP.only {w w':World}{lo:Nat}{acc:List Ty}{v:Value}{L:List Nat}(h:eP w lo acc v)(e:ae L w w')(d:∀g,g∈L->g<lo):eP w' lo acc v:=
 h.ag fun k i c=>e.block k c fun b=>by have:=d k b;omega
theorem eP.below {w w':World}{lo:Nat}{acc:List Ty}{v:Value}(h:eP w lo acc v)(b:Below w.heap.size w w'):eP w' lo acc v:=h.ag fun k _ c=>b.block k c
theorem eP.ty {w:World}{lo:Nat}{acc:List Ty}{v:Value}(h:eP w lo acc v)(d:acc.length<=9223372036854775807){k z t:Int}(i:mJ k)(hz:mJ z)(e:mJ t):fD w (lo<= ·) (.mk k z acc t) (.int .i64 k) (.int .i64 z) v (.int .i64 t):=by
 obtain⟨A,cap,rfl,o,l⟩:=h.form;obtain⟨r,c,q⟩:=h;refine⟨rfl,rfl,rfl,i,hz,e,d,A,cap,rfl,o,l, ?_⟩;rcases c.2 with⟨b,n⟩|⟨g,s,y,p,m,x,_⟩
 ·obtain rfl:acc= []:=zo n;trivial
 injection p with hA _ hc;subst hA;subst hc;refine oL.fa m (q.ag (fun _ _ h=>h.1) (fun _ _ _=>rfl)) fun j u hu=> ?_
 have:=c.cells rfl j u hu;have b:(⟨g,0,none⟩:Addr).add j=⟨g,j,none⟩:=by unfold Addr.add;split<;>simp_all
 rw[b]at this;simpa using this
theorem agE {w:World}{S:Nat->Prop}{y:Ty}{b c d e:Value}(h:fD w S y b c d e):∀u∈ [b,c,d,e],u.oneCell'=true:=by
 obtain⟨A,cap,rfl,rfl,rfl,rfl,_⟩:=h.open_;intro u hu;simp at hu;rcases hu with rfl|rfl|rfl|rfl<;>rfl
theorem cA {w:World}{ops:Array Oper}{rest:List Oper}{o:Oper}{a:Act}{Q:Exit->Act->World->Prop}(L:o.guard=none)(s x:Operand)
 (S:o.op= .call {callee:= .builtin .append,args:= #[s,x],argTypes:= #[41,41]}) (lo:Nat) (acc:List Ty) {v:Value} (C:a.eval s=v) (J:eP w lo acc v) (y:Ty) {c i d h:Value}
 (q:fD w (fun k=>lo<=k/\v.ownBlock≠some k) y c i d h) (g:Nat) (hx:a.eval x= .slice (some ⟨g,0,none⟩) 1 1) (M:w.cell? ⟨g,0,none⟩=some c) (A:w.cell? ⟨g,1,none⟩=some i) (D:w.cell? ⟨g,2,none⟩=some d) (F:w.cell? ⟨g,3,none⟩=some h)
 (W:acc.length<=1000000) (U:lo<=w.heap.size)
 (K:∀b m cap w',Hid (m=acc.length+1)->eP w' lo (acc++ [y]) (.slice (some ⟨b,0,none⟩) m cap)->w.grownBy w' v.ownBlock->lo<=b->wpList prog ops Q rest (a.put o.dst (.slice (some ⟨b,0,none⟩) m cap)) w'):wpList prog ops Q (o::rest) a w:=by
 obtain⟨i0,hi,E,R,N⟩:=yE MP;obtain⟨n,O,H⟩:=J;refine xj w L s x 41 S lo 43 i0 _ 4 48 underlying41 hi E R N rfl (by decide) v acc.length n C O ⟨g,0,none⟩ 1 1 [c,i,d,h] hx rfl ?_ (agE q) (by decide) (by simp only[maxLen];omega) (by omega) U w.heap.size rfl ?_
 ·intro j u hu;have B:∀j,(⟨g,0,none⟩:Addr).add j=⟨g,j,none⟩:=by intro j;unfold Addr.add;split<;>simp_all
  rw[B];match j,hu with
  |0,hu=>simp at hu;subst hu;exact M
  |1,hu=>simp at hu;subst hu;exact A
  |2,hu=>simp at hu;subst hu;exact D
  |3,hu=>simp at hu;subst hu;exact F
 intro b cap w' r z l X;have G:=IJ r b rfl;refine K b _ cap w' (za rfl) ⟨n++ [c,i,d,h],by rw[zj];exact r, ?_⟩ z G;refine((H.snoc q).ag (fun k Y hS=>⟨hS.1, ?_⟩) fun p I hS=>zD (z.block _ I (fun e=>hS.2 e.symm)));intro e;have e:b=k:=by simpa[Value.ownBlock]using e
 rcases l with l|l
 ·exact hS.2 (by rw[l,e])
 omega
theorem fD.leaf {w:World}{S:Nat->Prop}{k z t:Int}(c:mJ k)(hz:mJ z)(b:mJ t):fD w S (.mk k z [] t) (.int .i64 k) (.int .i64 z) (.slice none 0 0) (.int .i64 t):=⟨rfl,rfl,rfl,c,hz,b,by simp,none,0,rfl,by simp,by simp,trivial⟩
theorem aA {i:Int}(c:0<=i)(b:i<=100000000):mJ i:=by unfold mJ;omega
theorem lq {s:ByteArray}{k:Nat}(c:k<s.size)(h:iN (s.data.toList.take k)=true)(b:oP s[k].toNat=true):iN (s.data.toList.take (k+1))=true:=by
 rw[jC s k c,uY,h,b];rfl
theorem nG {s:ByteArray}{k:Nat}(c:k<s.size)(b:oP s[k].toNat=false):b8 s=false:=by
 have:iN (s.data.toList.take (k+1))=false:=by rw[jC s k c,uY,b];simp
 rw[b8,AQ _ _ this];rfl
theorem KI {s:ByteArray}{k:Nat}(d:¬k<s.size)(c:1<=s.size)(b:s.size<=12)(h:iN (s.data.toList.take k)=true):b8 s=true:=by
 rw[zy (by simp;omega)]at h;rw[O0 c b,h]
theorem qy (s:ByteArray)(w:World)(x:s.size<=9223372036854775807):
 Calls prog 123 #[.string s] w fun e w'=>e= .returned (.bool (b8 s))/\w=w':=by
 by_cases q:1<=s.size
 ·by_cases o:s.size<=12
  ·go_enter func123,ntmps123
   go_wp2;go_loop [15] (fun i=>∃k:Nat,k<=s.size/\Hid (iN (s.data.toList.take k)=true)/\i= .int .i64 k) (fun i=>s.size-(intOf i).toNat)
   case atStart=>exact⟨0,by omega,za (by simp[iN]),rfl⟩
   case round=>
    obtain⟨k,y,j,rfl⟩:=hrel;by_cases c:k<s.size
    ·rcases BO s[k].toNat s[k].toNat_lt with⟨b,l,n⟩|⟨b,l⟩
     ·have d:=za b;have p:(((s[k].toNat:Nat):Int) !=95)=true:=yL.2 (by omega);clear b n;rcases l with h|⟨h,m⟩|⟨h,m⟩|h;all_goals
       go_wp2;go_ret;exact⟨aY (nG c d.out),rfl⟩
     have d:=za b;clear b;rcases l with⟨h,m⟩|h|⟨h,m⟩
     ·go_wp2;go_round
      case rel=>exact⟨k+1,by omega,za (lq c j.out d.out),by go_num⟩
      case measure=>simp[intOf];omega
     ·have p:(((s[k].toNat:Nat):Int) !=95)=false:=by simp[h]
      have u:94<s[k].toNat:=by omega
      have r:s[k].toNat<96:=by omega
      clear h;go_wp2;go_round
      case rel=>exact⟨k+1,by omega,za (lq c j.out d.out),by go_num⟩
      case measure=>simp[intOf];omega
     go_wp2;go_round
     case rel=>exact⟨k+1,by omega,za (lq c j.out d.out),by go_num⟩
     case measure=>simp[intOf];omega
    go_wp2;go_ret;exact⟨aY (KI c q o j.out),rfl⟩
  go_enter func123,ntmps123
  go_wp2;go_ret;exact⟨aY (qd (by omega)),rfl⟩
 go_enter func123,ntmps123
 go_wp2;go_ret;exact⟨aY (qd (by omega)),rfl⟩
theorem MQ (s:ByteArray)(w:World)(y:s.size<=9223372036854775807):
 Calls prog 50 #[.string s] w fun e w'=>e= .returned (.bool (b8 s))/\w=w':=by
 go_enter func50,ntmps50
 go_wp2;go_loop [3] (fun i=>∃k:Nat,k<=s.size/\Hid (iN (s.data.toList.take k)=true)/\i= .int .i64 k) (fun i=>s.size-(intOf i).toNat)
 case atStart=>exact⟨0,by omega,za (by simp[iN]),rfl⟩
 case round=>
  obtain⟨k,z,l,rfl⟩:=hrel;by_cases b:k<s.size
  ·rcases BO s[k].toNat s[k].toNat_lt with⟨d,m,o⟩|⟨d,m⟩
   ·have c:=za d;have q:(((s[k].toNat:Nat):Int)==95)=false:=zm.2 (by omega);clear d o;rcases m with h|⟨h,n⟩|⟨h,n⟩|h
    ·go_wp2;go_ret;exact⟨aY (nG b c.out),rfl⟩
    ·have j:decide (((s[k].toNat:Nat):Int)<=57)=false:=zu (by omega);go_wp2;go_ret;exact⟨aY (nG b c.out),rfl⟩
    ·have j:decide (((s[k].toNat:Nat):Int)<=57)=false:=zu (by omega);go_wp2;go_ret;exact⟨aY (nG b c.out),rfl⟩
    have j:decide (((s[k].toNat:Nat):Int)<=57)=false:=zu (by omega);have A:decide (((s[k].toNat:Nat):Int)<=122)=false:=zu (by omega);go_wp2;go_ret;exact⟨aY (nG b c.out),rfl⟩
   have c:=za d;clear d;rcases m with⟨h,n⟩|h|⟨h,n⟩
   ·go_wp2;go_round
    case rel=>exact⟨k+1,by omega,za (lq b l.out c.out),by go_num⟩
    case measure=>simp[intOf];omega
   ·have q:(((s[k].toNat:Nat):Int)==95)=true:=by simp[h]
    have x:94<s[k].toNat:=by omega
    have u:s[k].toNat<96:=by omega
    clear h;go_wp2;go_round
    case rel=>exact⟨k+1,by omega,za (lq b l.out c.out),by go_num⟩
    case measure=>simp[intOf];omega
   go_wp2;go_round
   case rel=>exact⟨k+1,by omega,za (lq b l.out c.out),by go_num⟩
   case measure=>simp[intOf];omega
  by_cases r:1<=s.size
  ·by_cases p:s.size<=12
   ·have j:decide ((s.size:Int)<=12)=true:=zE (by omega);go_wp2;go_ret;exact⟨aY (KI b r p l.out),rfl⟩
   have j:decide ((s.size:Int)<=12)=false:=zu (by omega);go_wp2;go_ret;exact⟨aY (qd (by omega)),rfl⟩
  go_wp2;go_ret;exact⟨aY (qd (by omega)),rfl⟩
theorem MR (l:List UInt8):rF (l++ [0])=rF l:=by simp[rF]
theorem MT (l:List UInt8)(b:UInt8)(h:b≠0):rF (l++ [b])=l++ [b]:=by simp[rF,h]
theorem FD (y:ByteArray)(k:Nat)(h:y.size=k+1):y.data.toList=(y.extract 0 k).data.toList++ [y[k]]:=by
 rw[an,zK,<-jC y k (by omega),<-h,cQ]
theorem MU {s y:ByteArray}{k:Nat}(h:y.size=k+1)(b:da y=da s)(c:(y[k].toNat:Int)=0):da (y.extract 0 k)=da s:=by
 rw[<-b];unfold da;rw[FD y k h];have:y[k]=0:=by
  apply zO.1;have:y[k].toNat=0:=by omega
  simpa using this
 rw[this,MR]
theorem MV {s y:ByteArray}{k:Nat}(h:y.size=k+1)(c:da y=da s)(i:(y[k].toNat:Int)≠0):y=da s:=by
 rw[<-c];unfold da;have b:=FD y k h;have d:y[k]≠0:=by
  intro e;apply i;rw[e];rfl
 apply aB;rw[b,MT _ _ d]
theorem PF {s y:ByteArray}(h:y.size=0)(b:da y=da s):y=da s:=by
 rw[<-b];have:y.data.toList= []:=zo (by simpa using h);apply aB;unfold da;rw[this];rfl
theorem IK (s:ByteArray)(w:World)(i:s.size<=9223372036854775807):
 Calls prog 160 #[.string s,.int .u8 0] w fun e w'=>e= .returned (.string (da s))/\w=w':=by
 go_enter func160,ntmps160
 go_wp2;go_loop [0] (fun x=>∃(y:ByteArray),Hid (da y=da s)/\y.size<=9223372036854775807/\x= .string y) (fun x=>strOf x)
 case atStart=>exact⟨s,za rfl,i,rfl⟩
 case round=>
  obtain⟨y,c,hz,rfl⟩:=hrel;rcases Zj y.size with h0|h0
  ·have j:=za h0;have l:y.size<=0:=by omega
   clear h0;go_wp2;go_ret;exact⟨og (PF j.out c.out).symm,rfl⟩
  obtain⟨k,b⟩:∃k,y.size=k+1:=⟨y.size-1,by omega⟩
  have d:=za b;have m:k<y.size:=by omega
  have n:(y.size:Int)-1=k:=by omega
  rcases xa ((y[k].toNat:Int)==0)with h|h
  ·clear b;go_wp2;go_round
   case rel=>exact⟨y.extract 0 k,za (MU d.out c.out (by simpa using h)),by rw[aj _ _ _ (by omega)];omega,rfl⟩
   case measure=>simp[aj];omega
  clear b;go_wp2;go_ret;exact⟨og (MV d.out c.out (by simpa using h)).symm,rfl⟩
theorem PG :(prog.info? 5).map (·.size)=some 1:=by kernel_rfl
def z12 :Array Value:= #[.int .u8 0,.int .u8 0,.int .u8 0,.int .u8 0,.int .u8 0,.int .u8 0,.int .u8 0,.int .u8 0,.int .u8 0,.int .u8 0,.int .u8 0,.int .u8 0]
theorem PH :z12.toList=cb (List.replicate 12 0):=rfl
theorem Xc (w:World)(ty t:TypeId)(s:ByteArray)(b:s.size<=12):
 (Builtin.copy_ #[31,9] ty #[.slice (some ⟨w.heap.size,0,none⟩) 12 12,.string s]).run prog (w.alloc (.cells z12 t))= .ok (goInt s.size) (w.alloc (.cells (cb (eY s).data.toList).toArray t)):=by
 have h:=Lib.run_copy_row_string (P:=prog) (w.alloc (.cells z12 t)) 31 9 ty 5 w.heap.size 0 12 12 s z12 t zr PG (yM w _) b (by simpa[z12]using b);rw[h,World.setRow_alloc_new];have e:(z12.toList.take 0++Lib.byteCells s.data.toList++z12.toList.drop (0+s.size))=cb (eY s).data.toList:=by
  rw[lR,gC,PH,yz,yu,zM,<-Tp,List.drop_replicate];rfl
 rw[e]
theorem Xd (w:World)(t:TypeId)(s:ByteArray)(c:s.size<=12):
 (convert 31 9 (.slice (some ⟨w.heap.size,0,none⟩) 12 12)).run prog (w.alloc (.cells (cb (eY s).data.toList).toArray t))= .ok (.string (eY s)) (w.alloc (.cells (cb (eY s).data.toList).toArray t)):=by
 have b:(eY s).data.toList.length=12:=by rw[aa];exact ik s c
 have:=C0 (P:=prog) (w.alloc (.cells (cb (eY s).data.toList).toArray t)) 31 9 5 zr yb zG ⟨w.heap.size,0,none⟩ 12 (eY s).data.toList (fun j u hu=>ZM (yM w (.cells (cb (eY s).data.toList).toArray t)) j u (by simpa using hu));rw[b,iJ]at this;exact this
theorem MW (s:ByteArray)(w:World)(c:s.size<=9223372036854775807)(b:b8 s=false):
 Calls prog 96 #[.string s] w fun e w'=>e= .returned (.tuple #[.string ByteArray.empty,.int .i64 11])/\w=w':=by
 have H:=qy s w c;rw[b]at H;have d:=za H;clear H b;go_enter func96,ntmps96
 go_wp2_with fail
 refine d.out.mono ?_;rintro e w' ⟨rfl,rfl⟩;go_wp2;go_ret2
 exact⟨rfl,rfl⟩
theorem FE (s:ByteArray)(w:World)(b:b8 s=true):
 Calls prog 96 #[.string s] w fun e w'=>e= .returned (.tuple #[.string (eY s),.int .i64 0])/\Below w.heap.size w w':=by
 have hz:=dC b;have H:=qy s w (by omega);rw[b]at H;have h:=za H;clear H b;have k1:=fun(ty t:TypeId)=>Xc w ty t s hz.2
 have k2:=fun(t:TypeId)=>Xd w t s hz.2
 have c:=fun t=>(zl w.heap.size w).alloc (zd _) (.cells (cb (eY s).data.toList).toArray t)
 have d:=za c;clear c;simp only[z12]at k1;go_enter func96,ntmps96
 go_wp2_with fail
 refine h.out.mono ?_;rintro e w' ⟨rfl,rfl⟩;go_wp2;go_ret2
 exact⟨rfl,d.out _⟩
theorem s5 (s:ByteArray)(w:World)(c:s.size<=9223372036854775807):
 Calls prog 130 #[.string s,.string ⟨#[0]⟩] w fun e w'=>e= .returned (.string (da s))/\w=w':=by
 rcases fX s with⟨b,rfl⟩|⟨b,d,h⟩
 ·clear b;go_enter func130,ntmps130
  go_wp2_with fail
  go_ret;exact⟨rfl,rfl⟩
 clear b;go_enter func130,ntmps130
 go_wp2_with fail
 refine(IK s w c).mono ?_;rintro e w' ⟨rfl,rfl⟩;go_wp2;go_ret;exact⟨rfl,rfl⟩
theorem PI (s:ByteArray):(da s).size<=s.size:=by
 obtain⟨n,b⟩:=BP s.data.toList;have:=xi List.length b;rw[da,bB];simp only[zj,aa]at this;omega
theorem PJ (s:ByteArray)(w:World)(d:s.size<=9223372036854775807):
 Calls prog 105 #[.string s] w fun e w'=>e= .returned (.tuple #[.string (cI s).2,.int .i64 (cI s).1])/\w=w':=by
 have hz:=PI s;by_cases b:s.size=12
 ·have j:((s.size:Int) !=12)=false:=by simp[b]
  have i:=za (qy (da s) w (by omega));have c:=za (show cI s=if b8 (da s)=true then(0,da s)else(3,ByteArray.empty)by unfold cI;simp[b]);clear b hz;rcases xa (b8 (da s))with h|h;all_goals
   rw[h]at i c;go_enter func105,ntmps105
   go_wp2_with fail
   refine(s5 s w d).mono ?_;rintro e w' ⟨rfl,rfl⟩;go_wp2_with fail
   refine i.out.mono ?_;rintro e w' ⟨rfl,rfl⟩;go_wp2;go_ret2
   exact⟨by rw[c.out];rfl,rfl⟩
 have j:((s.size:Int) !=12)=true:=yL.2 (by omega);have c:=za (EN s b);clear b hz;go_enter func105,ntmps105
 go_wp2_with fail
 refine(s5 s w d).mono ?_;rintro e w' ⟨rfl,rfl⟩;go_wp2;go_ret2
 exact⟨by rw[c.out];rfl,rfl⟩
theorem pw :(prog.info? 5).map (fun i=>(i.zero,i.size,i.bytes))=some (some (.int .u8 0),1,1):=by kernel_rfl
def Xe (n sz:Nat)(w:World)(i:Value)(wr:World):Prop:=
 ∃k:Nat,k<=sz/\i= .int .i64 k/\bL wr w.heap.size 5 (.slice (some ⟨w.heap.size,0,none⟩) sz sz) (iq n k++List.replicate (sz-k) 0)/\Kept 5 w.heap.size w wr
theorem FF (n sz:Nat)(w:World)(F:n<18446744073709551616)(C:sz<=8):
 Calls prog 128 #[.int .u64 n,.int .i64 sz] w fun e w'=>e= .returned (.slice (some ⟨w.heap.size,0,none⟩) sz sz)/\bL w' w.heap.size 5 (.slice (some ⟨w.heap.size,0,none⟩) sz sz) (iq n sz)/\Kept 5 w.heap.size w w':=by
 obtain⟨i0,hi,s,z,x⟩:=yE pw;go_enter func128,ntmps128
 go_wp2_with (at_make;refine wpList_make_full _ rfl _ _ 31 rfl w.heap.size 5 i0 (.int .u8 0) 1 zr hi s z .i64 .i64 _ _ sz rfl rfl (by omega) (by omega) (by rw[x];omega) (by simp only[maxLen];omega) (by omega) ?_;intro p c j)
 have o:bL p w.heap.size 5 (.slice (some ⟨w.heap.size,0,none⟩) sz sz) (List.replicate sz 0):=by
  rw[vf]at c;have:=bL.own (l:=List.replicate sz 0) (by simpa using c);simpa using this
 have h:Kept 5 w.heap.size w p:=Kept.Kr j (zd _);clear c j;go_loopw [10] (fun i wr=>Xe n sz w i wr) (fun i _=>sz-(intOf i).toNat)
 case atStart=>exact⟨0,by omega,rfl,by simpa[iq]using o,h⟩
 case round=>
  obtain⟨k,E,rfl,b,d⟩:=hrel;clear o h;by_cases u:k<sz
  ·have r:(iq n k++List.replicate (sz-k) (0:UInt8)).length=sz:=by rw[zj,bh,xw];omega
   obtain⟨D,f1,g1,g2⟩:=b.at_ (k:=k) (by omega);have m:=za (b.set (k:=k) (by omega) (ub (n/2^(8*k)%256:Nat)));rw[O7 u]at m;obtain⟨B,A,q,_⟩:=b.block;have y:=za (fun v=>d.store (k:=k) q (zd _) v);clear r q b d;go_wp2;go_roundw
   case rel=>
    rw[Tv];exact⟨k+1,by omega,by go_num,m.out,y.out _⟩
   case measure=>simp[intOf];omega
  go_wp2;go_ret;obtain rfl:sz=k:=by omega
  exact⟨rfl,by simpa using b,d⟩
theorem TP (n sz:Nat)(w:World)(b:n<2^(8*sz))(d:1<=sz)(c:sz<=8):
 Calls prog 127 #[.int .u64 n,.int .i64 sz] w fun e w'=>e= .returned (.int .i64 0)/\w=w':=by
 have h:(n:Int)/2^(8*sz)=0:=by
  have:((n/2^(8*sz):Nat):Int)=0:=by rw[Nat.div_eq_of_lt b];rfl
  simpa using this
 clear b;go_enter func127,ntmps127
 go_wp2;go_ret;exact⟨rfl,rfl⟩
theorem jR (n sz:Nat)(w:World)(d:n<2^(8*sz))(o:1<=sz)(b:sz<=8):
 Calls prog 97 #[.int .u64 n,.int .i64 sz] w fun e w'=>e= .returned (.tuple #[.string ⟨(iq n sz).toArray⟩,.int .i64 0])/\Below w.heap.size w w':=by
 have k:=le_pow sz b;have p:=za (TP n sz w d o b);have m:=za (FF n sz w (by omega) b);clear d k;go_enter func97,ntmps97
 go_wp2_with fail
 refine p.out.mono ?_;rintro e w' ⟨rfl,rfl⟩;go_wp2_with fail
 refine m.out.mono ?_;rintro e w' ⟨rfl,c,h⟩;have j:=bL.str (P:=prog) (l:=iq n sz) (A:=some ⟨w.heap.size,0,none⟩) (cap:=sz) zr yb zG (by rw[bh];exact c);rw[bh]at j;have i:=h.below;clear c h;go_wp2;go_ret2
 exact⟨rfl,i⟩
theorem FG {a:Int}{b c:Nat}(h:a=(b:Int))(d:b=c):Ending.returned (.tuple #[.int .u64 a,.int .i64 0])= .returned (.tuple #[.int .u64 c,.int .i64 0]):=by
 subst h;subst d;rfl
theorem TQ (n b k:Nat)(d:b<256)(i:k<8)(c:n<2^(8*k)):
 bits .or .u64 (n:Int) (IntKind.u64.wrap (IntKind.u64.wrap (b:Int)*2^(8*k)))=((n+b*2^(8*k):Nat):Int):=by
 have h:=le_step n b k d c;have j:=le_pow (k+1) (by omega);have e:(b:Int)*2^(8*k)=((b*2^(8*k):Nat):Int):=by simp
 rw[xg (b:Int) (by omega),e,xg _ (by omega),u64_or_nat _ _ (by omega) (by omega),Vl _ _ _ c]
theorem ff (s:ByteArray)(w:World)(l:0<s.size)(o:s.size<=8):
 Calls prog 94 #[.string s] w fun e w'=>e= .returned (.tuple #[.int .u64 (cZ s.data.toList),.int .i64 0])/\w=w':=by
 have hz:((s.size:Int)==0)=false:=zm.2 (by omega);go_enter func94,ntmps94
 go_wp2;go_loop [5,15] (fun n i=>∃k m:Nat,k<=s.size/\Hid (m=cZ (s.data.toList.take k))/\n= .int .u64 m/\i= .int .i64 k) (fun _ i=>s.size-(intOf i).toNat)
 case atStart=>exact⟨0,0,by omega,rfl,rfl,rfl⟩
 case round=>
  obtain⟨k,m,c,b,rfl,rfl⟩:=hrel;by_cases j:k<s.size
  ·go_wp2;have h:=s[k].toNat_lt;have d:=jL (s.data.toList.take k);rw[length_take s k c,<-b.out]at d;have e:=TQ m s[k].toNat k h (by omega) d;go_round
   case rel=>
    refine⟨k+1,_,by omega,za rfl, ?_,by go_num⟩;rw[jC s k j,OR,length_take s k c,<-b.out,<-e]
   case measure=>simp[intOf];omega
  go_wp2;go_ret2
  exact⟨FG rfl (by rw[b.out,zy (by simp;omega)]),rfl⟩
theorem nH (s:ByteArray)(w:World)(b:s.size=0):
 Calls prog 94 #[.string s] w fun e w'=>e= .returned (.tuple #[.int .u64 0,.int .i64 1])/\w=w':=by
 go_enter func94,ntmps94
 go_wp2;go_ret2
 exact⟨rfl,rfl⟩
theorem PK (m k d:Nat)(h:8*k+d=56):(#[Value.int .u8 ((m:Int)/2^d%256)]:Array Value).toList=cb [UInt8.ofNat (m/2^(56-8*k))]:=by
 have hd:56-8*k=d:=by omega
 rw[hd];simp[cb]
theorem ach (n:Nat)(w:World)(hn:n<=100000):
 Calls prog 191 #[.int .i64 n] w fun e w'=>e= .returned (.tuple #[.string (iM n),.int .i64 0])/\Below w.heap.size w w':=by
 obtain⟨i0,hi,q,G,C⟩:=yE pw;have o:Hid (iM n=⟨((128::List.replicate (dP n) 0)++fF (n*8)).toArray⟩):=za rfl;have hz:=sJ n;have J:Hid (dP n=(64-(n+9)%64)%64):=za rfl;obtain⟨z,l⟩:∃z,dP n=z:=⟨_,rfl⟩
 have R:=za l;rw[l]at hz;obtain⟨m,u⟩:∃m,1+z=m:=⟨_,rfl⟩
 obtain⟨c,I⟩:∃c,m+8=c:=⟨_,rfl⟩
 have e1:(64-((n:Int)+9)%64)%64=(z:Int):=by have:=J.out;omega
 have e2:(1:Int)+(z:Int)=(m:Int):=by omega
 have e3:(m:Int)+8=(c:Int):=by omega
 have S:m<=c:=by omega
 have K:=za u;clear l u I;have d1:decide ((n:Int)<0)=false:=zu (by omega);have d2:decide ((1099511627776:Int)<n)=false:=zu (by omega);go_enter func191,ntmps191
 go_wp2_with (at_make;refine mu _ (by rfl) _ _ 31 (by rfl) w.heap.size 5 i0 zr hi q G C .i64 .i64 m c (by rfl) (by rfl) S (by omega) (zd _) ?_;intro W h r ab;obtain⟨M,f0,g0,g1⟩:=h.at_ (k:=0) (by simp;omega))
 have N:Hid (bL (W.setCell ⟨w.heap.size,0,none⟩ (.int .u8 128)) w.heap.size 5 (.slice (some ⟨w.heap.size,0,none⟩) m c) ((128::List.replicate z 0)++(fF (n*8)).take 0)):=za (by
  have:=h.set (k:=0) (by simp;omega) 128;have e:(List.replicate m (0:UInt8)).set 0 128=(128::List.replicate z 0)++(fF (n*8)).take 0:=by
   rw[<-K.out,Zs 1 z,ZN,ze];simp
  rw[e]at this;exact this)
 obtain⟨ad,fr,B,_⟩:=h.block;have Z:=za (r.store (k:=0) B (zd _) (.int .u8 128));rw[R.out]at o;clear B h r ab M f0;go_loopw [5,26] (fun v i wr=>∃k:Nat,k<=8/\i= .int .i64 k/\bL wr w.heap.size 5 v ((128::List.replicate z 0)++(fF (n*8)).take k)/\Kept 5 w.heap.size w wr) (fun _ i _=>8-(intOf i).toNat)
 case atStart=>exact⟨0,by omega,rfl,N.out,Z.out⟩
 case round=>
  obtain⟨k,hk,rfl,b,j⟩:=hrel;obtain⟨A,L,cap,rfl,hL,ae,qZ⟩:=b.bT;have F:=za j;have gF:=j.size;clear j;by_cases aa:k<8
  ·obtain⟨d,hd⟩:∃d,56-8*k=d:=⟨_,rfl⟩
   have Y:8*k+d=56:=by omega
   have e4:(56:Int)-8*(k:Int)=(d:Int):=by omega
   have E:=za (PK (n*8) k d Y);have Rb:((128::List.replicate z (0:UInt8))++(fF (n*8)).take k).length<=100:=by simp[iC];omega
   have O:Hid (((128::List.replicate z (0:UInt8))++(fF (n*8)).take k)++ [UInt8.ofNat (n*8/2^(56-8*k))]=(128::List.replicate z 0)++(fF (n*8)).take (k+1)):=za (by rw[EL _ _ aa,zB]);generalize ((128::List.replicate z (0:UInt8))++(fF (n*8)).take k)=LL at*;generalize UInt8.ofNat (n*8/2^(56-8*k))=p at*;simp only[Int.natCast_mul]at E;clear hd;go_wp2_with (at_builtin;refine aT (by rfl) (.tmp 29) (.tmp 38) 31 31 (by rfl) w.heap.size 5 i0 zr hi q G C (by rfl) (b.alloc _) _ [p] (by rfl) (ug zr _ 5 _ [p] 1 _ (by rfl) E.out) (by simp only[zp];omega) (by simp;omega) ?_;intro A3 n3 ra w3 x y;have ei:=za x;have U:=za ((F.out.alloc (by omega) _).trans y);clear x y b)
   go_roundw
   case rel=>exact⟨k+1,by omega,by go_num,by rw[<-O.out];exact ei.out,U.out⟩
   case measure=>simp[intOf];omega
  have D:(fF (n*8)).take k=fF (n*8):=zy (by rw[iC];omega);rw[D]at b;have H:=b.EV (P:=prog) zr yb zG;rw[<-o.out]at H;clear b D o;obtain⟨X,s⟩:∃X,Hid (iM n=X):=⟨_,za rfl⟩
  rw[s.out]at H;go_wp2;go_ret2
  exact⟨by rw[s.out];rfl,F.out.below⟩
theorem rP :(prog.info? 5).map (fun i=>(i.zero,i.size,i.bytes))=some (some (.int .u8 0),1,1):=by kernel_rfl
theorem aci :∀x:Fin 256,x.val|||128=x.val%128+128:=by decide+kernel
theorem Xf (m:Nat):bits .or .u8 ((m:Int)%256) 128=((m%128+128:Nat):Int):=by
 have h:=u8_or_nat (m%256) 128 (by omega) (by omega);have b:=aci ⟨m%256,by omega⟩;simp only at b;rw[b,show m%256%128=m%128 from by omega]at h;rw[<-h];rfl
theorem qz {n m:Nat}{pre:List UInt8}(h:pre++aQ m=aQ n)(b:128<=m):(pre++ [ub (m%128+128:Nat)])++aQ (m/128)=aQ n:=by
 rw[<-h,il (n:=m) (by omega)];simp
theorem De {n m:Nat}{pre:List UInt8}(h:pre++aQ m=aQ n)(b:¬128<=m):pre++ [ub (m:Nat)]=aQ n:=by
 rw[<-h,gd (n:=m) (by omega)]
theorem IL {n m:Nat}{pre:List UInt8}(h:pre++aQ m=aQ n)(c:n<18446744073709551616):pre.length<10:=by
 have e:=bo 10 n (by omega) (by omega);have d:=qj m;have b:=xi List.length h;simp only[zj]at b;omega
def Xg (n:Nat)(w:World)(b:Value)(x:Value)(wr:World):Prop:=
 ∃(m:Nat) (pre:List UInt8),pre++aQ m=aQ n/\m<18446744073709551616/\pre.length<10/\x= .int .u64 m/\bL wr w.heap.size 5 b pre/\Kept 5 w.heap.size w wr
theorem vJ (n:Nat)(w:World)(C:n<18446744073709551616):
 Calls prog 111 #[.int .u64 n] w fun e w'=>e= .returned (.string ⟨(aQ n).toArray⟩)/\Below w.heap.size w w':=by
 obtain⟨i0,hi,i,q,o⟩:=yE rP;go_enter func111,ntmps111
 go_wp2_with (at_make;refine ZI _ rfl _ _ 31 rfl w.heap.size 5 i0 (.int .u8 0) 1 zr hi i q .i64 .i64 _ 10 rfl rfl (by omega) (by rw[o];omega) (by simp only[maxLen];omega) (by omega) ?_;intro B r u)
 have z:bL B w.heap.size 5 (.slice (some ⟨w.heap.size,0,none⟩) 0 10) []:=bL.own r;have s:Kept 5 w.heap.size w B:=Kept.Kr u (zd _);clear r u;go_loopw [3,0] (fun b x wr=>Xg n w b x wr) (fun _ x _=>(intOf x).toNat)
 case atStart=>exact⟨n,[],rfl,C,by simp,rfl,z,s⟩
 case round=>
  obtain⟨m,pre,y,L,K,rfl,j,k⟩:=hrel;have h:=za y;have M:=k.size;obtain⟨A,cap,rfl,I,N⟩:=j.form;clear y z s;by_cases l:128<=m
  ·go_wp2_with (at_builtin;refine aT (by rfl) (.tmp 7) (.tmp 11) 31 31 (by rfl) w.heap.size 5 i0 zr hi i q o (by rfl) (j.alloc _) _ [ub (m%128+128:Nat)] (by rfl) (kr zr wr 5 _ [ub (m%128+128:Nat)] 1 (pc (Xf m) (by omega))) (by rw[zp];omega) (by simp only[zw,zL];omega) ?_)
   intro D E H G c d;have F:=za c;have p:=za ((k.alloc (by omega) _).trans d);clear c d;go_wp2;go_roundw
   case rel=>exact⟨m/128,_,qz h.out l,by omega,IL (qz h.out l) C,by go_num,F.out,p.out⟩
   case measure=>simp[intOf];omega
  go_wp2_with (at_builtin;refine aT (by rfl) (.tmp 15) (.tmp 18) 31 31 (by rfl) w.heap.size 5 i0 zr hi i q o (by rfl) (j.alloc _) _ [ub (m:Nat)] (by rfl) (kr zr wr 5 _ [ub (m:Nat)] 1 (pc rfl (by omega))) (by rw[zp];omega) (by simp only[zw,zL];omega) ?_)
  intro D E H G c d;rw[De h.out l]at c;have p:=za ((k.alloc (by omega) _).trans d);have J:=c.EV (P:=prog) zr yb zG;clear d c;go_wp2;go_ret;exact⟨rfl,p.out.below⟩
theorem PL (n:Nat):IntKind.u8.wrap (IntKind.u8.wrap ((n:Int).tmod 128)+128)=(n:Int)%128+128:=by
 rw[xr (by omega)];simp[IntKind.wrap,IntKind.signed,IntKind.bits];omega
theorem PM (n:Nat)(h:n<18446744073709551616):(n:Int).tdiv 128=(n:Int)/128/\IntKind.u64.wrap ((n:Int)/128)=(n:Int)/128:=
 ⟨Int.tdiv_eq_ediv_of_nonneg (by omega),xg _ (by omega)⟩
theorem vK (m b k:Nat)(e:b<256)(d:k<=9)(c:m<2^(7*k))(h:¬((k=9/\1<b)\/(0<k/\b=0))):
 bits .or .u64 (m:Int) (IntKind.u64.wrap (IntKind.u64.wrap (bits .and .u8 (b:Int) 127)*2^(7*k)))=((m+b%128*2^(7*k):Nat):Int):=by
 have j:bits .and .u8 (b:Int) 127=((b%128:Nat):Int):=by
  have:=u8_and_nat b 127 e (by omega);rw[nat_mask7]at this;exact this
 have l:=EF m b k d c h;have n:=Ki k d;have i:((b%128:Nat):Int)*2^(7*k)=((b%128*2^(7*k):Nat):Int):=by simp
 rw[j,xg ((b%128:Nat):Int) (by omega),i,xg _ (by omega),u64_or_nat _ _ (by omega) (by omega),WM _ _ _ c]
theorem uu {a b:Nat}{c:Int}{x:Nat×Nat×Int}{v:Int}(h:x=(a,b,c))(d:v=(a:Int)):Ending.returned (.tuple #[.int .u64 v,.int .i64 b,.int .i64 c])= .returned (.tuple #[.int .u64 x.1,.int .i64 x.2.1,.int .i64 x.2.2]):=by
 subst h;subst d;rfl
theorem PN {s:ByteArray}{k m:Nat}{x:Nat×Nat×Int}(e:k<s.size)(h:k<=8)(d:cq s (10-k) k m=x)(c:¬((k=9/\1<s[k].toNat)\/(0<k/\s[k].toNat=0)))(b:¬s[k].toNat<128):
 cq s (10-(k+1)) (k+1) (m+s[k].toNat%128*2^(7*k))=x:=by
 rw[<-d,show 10-k=(10-(k+1))+1 from by omega,ij s _ k m e c b]
theorem FH {s:ByteArray}{k m:Nat}{x:Nat×Nat×Int}(e:k<s.size)(h:k<=9)(d:cq s (10-k) k m=x)(c:¬((k=9/\1<s[k].toNat)\/(0<k/\s[k].toNat=0)))(b:s[k].toNat<128):
 x=(m+s[k].toNat%128*2^(7*k),k+1,0):=by
 rw[<-d,show 10-k=(9-k)+1 from by omega,ig s _ k m e c b]
theorem Xh {s:ByteArray}{k m:Nat}{x:Nat×Nat×Int}(b:k<s.size)(e:k<=9)(c:cq s (10-k) k m=x)(d:(k=9/\1<s[k].toNat)\/(0<k/\s[k].toNat=0)):x=(0,0,3):=by
 rw[<-c,show 10-k=(9-k)+1 from by omega,k9 s _ k m b d]
theorem PO {s:ByteArray}{k m:Nat}{x:Nat×Nat×Int}(e:k<=s.size)(c:¬(k<s.size/\k<10))(d:k<=10)(b:cq s (10-k) k m=x):x=(0,0,2):=by
 rw[<-b];rcases xC k 10 with h|h
 ·exact jD s _ k m (by omega)
 rw[show 10-k=0 from by omega];rfl
theorem PQ (k b:Nat)(c:k<10):
 (((k=9/\1<b)\/(0<k/\b=0))/\((((k:Int)==9)=true/\1<b)\/(((k:Int)==9)=true/\b<=1/\0<k/\((b:Int)==0)=true)\/(((k:Int)==9)=false/\0<k/\((b:Int)==0)=true)))\/
 ((¬((k=9/\1<b)\/(0<k/\b=0)))/\((((k:Int)==9)=true/\b<=1/\0<k/\((b:Int)==0)=false)\/(((k:Int)==9)=false/\0<k/\((b:Int)==0)=false/\k<=8)\/(((k:Int)==9)=false/\k<=0))):=by
 simp only[yN,zY,xH,zm,ne_eq];omega
theorem rQ (s:ByteArray)(w:World)(A:s.size<=9223372036854775807):
 Calls prog 115 #[.string s] w fun e w'=>e= .returned (.tuple #[.int .u64 (au s).1,.int .i64 (au s).2.1,.int .i64 (au s).2.2])/\w=w':=by
 by_cases B:s.size<=10;all_goals
  go_enter func115,ntmps115
  go_wp2;go_loop [5,11] (fun n i=>∃k m:Nat,k<=10/\k<=s.size/\Hid (m<2^(7*k))/\Hid (cq s (10-k) k m=au s)/\n= .int .u64 m/\i= .int .i64 k) (fun _ i=>10-(intOf i).toNat)
  case atStart=>exact⟨0,0,by omega,by omega,za (by simp),rfl,rfl,rfl⟩
  case round=>
   obtain⟨k,m,x,z,o,h,rfl,rfl⟩:=hrel;by_cases c:k<s.size/\k<10
   ·obtain⟨c,y⟩:=c;rcases PQ k s[k].toNat y with⟨d,r⟩|⟨d,r⟩
    ·have b:=za d;clear d;rcases r with⟨l,j⟩|⟨l,j,q,u⟩|⟨l,j,q⟩;all_goals
      go_wp2;go_ret3
      exact⟨uu (Xh c (by omega) h.out b.out) rfl,rfl⟩
    have b:=za d;clear d;have p:=za (s[k].toNat_lt);rcases r with⟨l,j,q,u⟩|⟨l,j,q,u⟩|⟨l,j⟩
    ·go_wp2;go_ret3
     exact⟨uu (FH c (by omega) h.out b.out (by omega)) (vK m _ k p.out (by omega) o.out b.out),rfl⟩
    all_goals
     go_wp2
     ·go_ret3
      exact⟨uu (FH c (by omega) h.out b.out (by omega)) (vK m _ k p.out (by omega) o.out b.out),rfl⟩
     go_round
     case rel=>exact⟨k+1,_,by omega,by omega,za (uR m s[k].toNat k o.out),za (PN c (by omega) h.out b.out (by omega)),by rw[vK m _ k p.out (by omega) o.out b.out],by go_num⟩
     case measure=>simp[intOf];omega
   go_wp2;go_ret3
   exact⟨uu (PO z c x h.out) rfl,rfl⟩
def ba (w:World):Prop:=w.cell? ⟨0,0,none⟩=some (.int .i64 2)/\w.cell? ⟨0,1,none⟩=some (.int .i64 4)/\w.cell? ⟨0,2,none⟩=some (.int .i64 8)
theorem ba.pos {w:World}(h:ba w):0<w.heap.size:=lt_of_cell h.1
theorem ba.same {w w':World}(h:ba w)(b:w'.heap[0]?=w.heap[0]?):ba w':=
 ⟨(zD b).trans h.1,(zD b).trans h.2.1,(zD b).trans h.2.2⟩
theorem ba.below {w w':World}{B:Nat}(h:ba w)(b:Below B w w')(c:0<B):ba w':=h.same (b.block 0 c)
theorem ba.only {w w':World}{L:List Nat}(h:ba w)(b:ae L w w')(c:0∉L):ba w':=h.same (b.block 0 h.pos c)
theorem KJ (n:Nat):(n<253/\bA n=n)\/(¬n<253/\n<65536/\bA n=253)\/(¬n<253/\¬n<65536/\n<4294967296/\bA n=254)\/(¬n<253/\¬n<65536/\¬n<4294967296/\bA n=255):=by
 unfold bA;split
 ·exact .inl ⟨‹_›,rfl⟩
 split
 ·exact .inr (.inl ⟨‹_›,‹_›,rfl⟩)
 split
 ·exact .inr (.inr (.inl ⟨‹_›,‹_›,‹_›,rfl⟩))
 exact .inr (.inr (.inr ⟨‹_›,‹_›,‹_›,rfl⟩))
theorem ot (n:Nat)(w:World)(k:n<18446744073709551616):
 Calls prog 215 #[.int .u64 n] w fun e w'=>e= .returned (.int .u8 (bA n))/\w=w':=by
 rcases KJ n with⟨c,e⟩|⟨c,d,e⟩|⟨c,d,j,e⟩|⟨c,d,j,e⟩
 ·rw[e];clear e;have b:decide ((n:Int)<253)=true:=zE (by omega);go_enter func215,ntmps215
  go_wp2;go_ret;exact⟨by go_num,rfl⟩
 ·rw[e];clear e;have b:decide ((n:Int)<253)=false:=zu (by omega);have h:decide ((n:Int)<65536)=true:=zE (by omega);go_enter func215,ntmps215
  go_wp2;go_ret;exact⟨by go_num,rfl⟩
 ·rw[e];clear e;have b:decide ((n:Int)<253)=false:=zu (by omega);have h:decide ((n:Int)<65536)=false:=zu (by omega);have i:decide ((n:Int)<4294967296)=true:=zE (by omega);go_enter func215,ntmps215
  go_wp2;go_ret;exact⟨by go_num,rfl⟩
 rw[e];clear e;have b:decide ((n:Int)<253)=false:=zu (by omega);have h:decide ((n:Int)<65536)=false:=zu (by omega);have i:decide ((n:Int)<4294967296)=false:=zu (by omega);go_enter func215,ntmps215
 go_wp2;go_ret;exact⟨by go_num,rfl⟩
theorem FI {n:Nat}(h:n<253):dy n= [ub n]:=by unfold dy;rw[zi h]
theorem nI {n f k:Nat}(h:¬n<253)(b:bA n=f)(c:bp f=k):(⟨#[ub f]⟩++⟨(iq n k).toArray⟩:ByteArray)=⟨(dy n).toArray⟩:=
 aB (by rw[aP];unfold dy;rw[zh h,b,c];rfl)
theorem KK (n:Nat)(w:World)(c:n<18446744073709551616)(m:ba w):
 Calls prog 180 #[.int .u64 n] w fun e w'=>e= .returned (.string ⟨(dy n).toArray⟩)/\Below w.heap.size w w':=by
 have u:=m.pos;obtain⟨p,r,q⟩:=m;have d:=za (ot n w c);have k1:=fun(w:World) (a:Int)=>ni zr yb zG w a
 rcases KJ n with⟨b,e⟩|⟨b,l,e⟩|⟨b,l,s,e⟩|⟨b,l,s,e⟩
 ·have h:=za (FI b);rw[e]at d;clear e c p r q;go_enter func180,ntmps180
  go_wp2_with fail
  refine d.out.mono ?_;rintro e w' ⟨rfl,rfl⟩;go_wp2;go_ret;exact⟨og (by rw[h.out]),bQ⟩
 ·have j:=za (fun w=>jR n 2 w (by have:=uj b c;rw[e]at this;simpa[bp]using this) (by omega) (by omega));have h:=za (nI (k:=2) b e (by decide));have o:(⟨(iq n 2).toArray⟩:ByteArray).size=2:=by rw[bB,bh]
  generalize (⟨(iq n 2).toArray⟩:ByteArray)=T at*;rw[e]at d;clear e c;go_enter func180,ntmps180
  go_wp2_with fail
  refine d.out.mono ?_;rintro e w' ⟨rfl,rfl⟩;go_wp2_with fail
  refine(j.out _).mono ?_;rintro e w' ⟨rfl,i⟩;go_wp2;go_ret;exact⟨og (by rw[<-h.out];rfl),((zl w.heap.size w).alloc (zd _) _).trans (i.mono (by simp))⟩
 ·have j:=za (fun w=>jR n 4 w (by have:=uj b c;rw[e]at this;simpa[bp]using this) (by omega) (by omega));have h:=za (nI (k:=4) b e (by decide));have o:(⟨(iq n 4).toArray⟩:ByteArray).size=4:=by rw[bB,bh]
  generalize (⟨(iq n 4).toArray⟩:ByteArray)=T at*;rw[e]at d;clear e c;go_enter func180,ntmps180
  go_wp2_with fail
  refine d.out.mono ?_;rintro e w' ⟨rfl,rfl⟩;go_wp2_with fail
  refine(j.out _).mono ?_;rintro e w' ⟨rfl,i⟩;go_wp2;go_ret;exact⟨og (by rw[<-h.out];rfl),((zl w.heap.size w).alloc (zd _) _).trans (i.mono (by simp))⟩
 have j:=za (fun w=>jR n 8 w (by have:=uj b c;rw[e]at this;simpa[bp]using this) (by omega) (by omega));have h:=za (nI (k:=8) b e (by decide));have o:(⟨(iq n 8).toArray⟩:ByteArray).size=8:=by rw[bB,bh]
 generalize (⟨(iq n 8).toArray⟩:ByteArray)=T at*;rw[e]at d;clear e c;go_enter func180,ntmps180
 go_wp2_with fail
 refine d.out.mono ?_;rintro e w' ⟨rfl,rfl⟩;go_wp2_with fail
 refine(j.out _).mono ?_;rintro e w' ⟨rfl,i⟩;go_wp2;go_ret;exact⟨og (by rw[<-h.out];rfl),((zl w.heap.size w).alloc (zd _) _).trans (i.mono (by simp))⟩
def Cm (N:Nat×Nat×Int):Ending:= .returned (.tuple #[.int .u64 N.1,.int .i64 N.2.1,.int .i64 N.2.2])
theorem nJ (s:ByteArray)(k:Nat):(s.extract 1 (1+k)).data.toList=(s.data.toList.drop 1).take k:=by
 simp[ByteArray.extract,ByteArray.copySlice,Array.toList_extract]
theorem PR (s:ByteArray)(w:World)(B:s.size<=9223372036854775807)(z:ba w):
 Calls prog 216 #[.string s] w fun e w'=>e=Cm (aw s.data.toList)/\w=w':=by
 obtain⟨A,D,C⟩:=z;unfold Cm;rcases fX s with⟨u,rfl⟩|⟨u,G,E⟩
 ·go_enter xo,y7
  go_wp2;go_ret3
  exact⟨rfl,rfl⟩
 have x:0<s.size:=by omega
 have i:=drop_cons s 0 x;rw[zK]at i;have o:=s[0].toNat_lt;by_cases y:s[0].toNat<253
 ·have c:Hid (aw s.data.toList=(s[0].toNat,1,0)):=za (by rw[i];simp only[aw,zi y]);generalize aw s.data.toList=N at*;clear i;go_enter xo,y7
  go_wp2;go_ret3
  exact⟨by rw[c.out];rfl,rfl⟩
 rcases(show s[0].toNat=253\/s[0].toNat=254\/s[0].toNat=255 by omega)with o|o|o
 ·have p:s[0].toNat=253:=o;have b:Hid (aw s.data.toList=if(s.data.toList.drop 1).length<2 then(0,0,2)else if bA (cZ ((s.data.toList.drop 1).take 2))=253 then(cZ ((s.data.toList.drop 1).take 2),1+2,0)else(0,0,3)):=za (by
   rw[i];simp only[aw,p];rfl)
  rw[zR,aa]at b;generalize aw s.data.toList=N at*;by_cases r:s.size<1+2
  ·have c:Hid (N=(0,0,2)):=za (by rw[b.out,zi (by omega)]);clear b i;go_enter xo,y7
   go_wp2;go_ret3
   exact⟨by rw[c.out];rfl,rfl⟩
  have d:(s.extract 1 (1+2)).data.toList=(s.data.toList.drop 1).take 2:=nJ s 2;have n:(s.extract 1 (1+2)).size=2:=by rw[aj s 1 (1+2) (by omega)]
  have k:=za (ff (s.extract 1 (1+2)) w (by omega) (by omega));rw[d]at k;have j:=jL ((s.data.toList.drop 1).take 2);rw[<-d,aa,n]at j;rw[d]at j;rw[zh (by omega)]at b;generalize cZ ((s.data.toList.drop 1).take 2)=m at*;have l:=za (ot m w (by omega));by_cases h:bA m=253
  ·have c:Hid (N=(m,1+2,0)):=za (by rw[b.out,zi h]);rw[h]at l;clear b i d n j h;go_enter xo,y7
   go_wp2_with fail
   refine k.out.mono ?_;rintro e w' ⟨rfl,rfl⟩;go_wp2_with fail
   refine l.out.mono ?_;rintro e w' ⟨rfl,rfl⟩;go_wp2;go_ret3
   exact⟨by rw[c.out];rfl,rfl⟩
  have c:Hid (N=(0,0,3)):=za (by rw[b.out,zh h]);have q:((bA m:Int) !=253)=true:=by rw[yL];omega
  generalize bA m=F at*;clear b i d n j h;go_enter xo,y7
  go_wp2_with fail
  refine k.out.mono ?_;rintro e w' ⟨rfl,rfl⟩;go_wp2_with fail
  refine l.out.mono ?_;rintro e w' ⟨rfl,rfl⟩;go_wp2;go_ret3
  exact⟨by rw[c.out];rfl,rfl⟩
 ·have p:s[0].toNat=254:=o;have b:Hid (aw s.data.toList=if(s.data.toList.drop 1).length<4 then(0,0,2)else if bA (cZ ((s.data.toList.drop 1).take 4))=254 then(cZ ((s.data.toList.drop 1).take 4),1+4,0)else(0,0,3)):=za (by
   rw[i];simp only[aw,p];rfl)
  rw[zR,aa]at b;generalize aw s.data.toList=N at*;by_cases r:s.size<1+4
  ·have c:Hid (N=(0,0,2)):=za (by rw[b.out,zi (by omega)]);clear b i;go_enter xo,y7
   go_wp2;go_ret3
   exact⟨by rw[c.out];rfl,rfl⟩
  have d:(s.extract 1 (1+4)).data.toList=(s.data.toList.drop 1).take 4:=nJ s 4;have n:(s.extract 1 (1+4)).size=4:=by rw[aj s 1 (1+4) (by omega)]
  have k:=za (ff (s.extract 1 (1+4)) w (by omega) (by omega));rw[d]at k;have j:=jL ((s.data.toList.drop 1).take 4);rw[<-d,aa,n]at j;rw[d]at j;rw[zh (by omega)]at b;generalize cZ ((s.data.toList.drop 1).take 4)=m at*;have l:=za (ot m w (by omega));by_cases h:bA m=254
  ·have c:Hid (N=(m,1+4,0)):=za (by rw[b.out,zi h]);rw[h]at l;clear b i d n j h;go_enter xo,y7
   go_wp2_with fail
   refine k.out.mono ?_;rintro e w' ⟨rfl,rfl⟩;go_wp2_with fail
   refine l.out.mono ?_;rintro e w' ⟨rfl,rfl⟩;go_wp2;go_ret3
   exact⟨by rw[c.out];rfl,rfl⟩
  have c:Hid (N=(0,0,3)):=za (by rw[b.out,zh h]);have q:((bA m:Int) !=254)=true:=by rw[yL];omega
  generalize bA m=F at*;clear b i d n j h;go_enter xo,y7
  go_wp2_with fail
  refine k.out.mono ?_;rintro e w' ⟨rfl,rfl⟩;go_wp2_with fail
  refine l.out.mono ?_;rintro e w' ⟨rfl,rfl⟩;go_wp2;go_ret3
  exact⟨by rw[c.out];rfl,rfl⟩
 have p:s[0].toNat=255:=o;have b:Hid (aw s.data.toList=if(s.data.toList.drop 1).length<8 then(0,0,2)else if bA (cZ ((s.data.toList.drop 1).take 8))=255 then(cZ ((s.data.toList.drop 1).take 8),1+8,0)else(0,0,3)):=za (by
  rw[i];simp only[aw,p];rfl)
 rw[zR,aa]at b;generalize aw s.data.toList=N at*;by_cases r:s.size<1+8
 ·have c:Hid (N=(0,0,2)):=za (by rw[b.out,zi (by omega)]);clear b i;go_enter xo,y7
  go_wp2;go_ret3
  exact⟨by rw[c.out];rfl,rfl⟩
 have d:(s.extract 1 (1+8)).data.toList=(s.data.toList.drop 1).take 8:=nJ s 8;have n:(s.extract 1 (1+8)).size=8:=by rw[aj s 1 (1+8) (by omega)]
 have k:=za (ff (s.extract 1 (1+8)) w (by omega) (by omega));rw[d]at k;have j:=jL ((s.data.toList.drop 1).take 8);rw[<-d,aa,n]at j;rw[d]at j;rw[zh (by omega)]at b;generalize cZ ((s.data.toList.drop 1).take 8)=m at*;have l:=za (ot m w (by omega));by_cases h:bA m=255
 ·have c:Hid (N=(m,1+8,0)):=za (by rw[b.out,zi h]);rw[h]at l;clear b i d n j h;go_enter xo,y7
  go_wp2_with fail
  refine k.out.mono ?_;rintro e w' ⟨rfl,rfl⟩;go_wp2_with fail
  refine l.out.mono ?_;rintro e w' ⟨rfl,rfl⟩;go_wp2;go_ret3
  exact⟨by rw[c.out];rfl,rfl⟩
 have c:Hid (N=(0,0,3)):=za (by rw[b.out,zh h]);have q:((bA m:Int) !=255)=true:=by rw[yL];omega
 generalize bA m=F at*;clear b i d n j h;go_enter xo,y7
 go_wp2_with fail
 refine k.out.mono ?_;rintro e w' ⟨rfl,rfl⟩;go_wp2_with fail
 refine l.out.mono ?_;rintro e w' ⟨rfl,rfl⟩;go_wp2;go_ret3
 exact⟨by rw[c.out];rfl,rfl⟩
def rv (l:List UInt8):Nat->List UInt8
 |0=>l
 |k+1=>((rv l k).set k ((rv l k).getD (l.length-1-k) 0)).set (l.length-1-k) ((rv l k).getD k 0)
theorem rR (l:List UInt8)(k:Nat):(rv l k).length=l.length:=by
 induction k with
 |zero=>rfl
 |succ k ih=>simp[rv,ih]
theorem acj (l:List UInt8)(k:Nat):2*k<=l.length+1->∀j,j<l.length->(rv l k)[j]?=if j<k\/l.length-k<=j then l[l.length-1-j]? else l[j]?:=by
 induction k with
 |zero=>intro _ j c;rw[zh (by omega)];rfl
 |succ k ih=>
  intro o j c;have d:=ih (by omega);have n:=d k (by omega);have m:=d (l.length-1-k) (by omega);have i:=rR l k;simp only[rv,List.getElem?_set,zv,Zg,i];by_cases h:l.length-1-k=j
  ·subst h;rw[zi rfl,zi c,zi (by omega),n];by_cases b:k=l.length-1-k
   ·rw[zh (by omega),<-b,zA (by omega),];simp only[Option.getD_some];rw[show l.length-1-k=k from by omega,zA (by omega)]
   rw[zh (by omega),show l.length-1-(l.length-1-k)=k from by omega,zA (by omega)];rfl
  rw[zh h];by_cases e:k=j
  ·subst e;rw[zi rfl,zi c,zi (by omega),m,zh (by omega),zA (by omega)];rfl
  rw[zh e,d j c];by_cases b:j<k\/l.length-k<=j
  ·rw[zi b,zi (by omega)]
  rw[zh b,zh (by omega)]
theorem Xi (l:List UInt8)(k:Nat)(h:l.length<=2*k+1)(d:2*k<=l.length+1):rv l k=l.reverse:=by
 apply List.ext_getElem?;intro j;by_cases b:j<l.length
 ·rw[acj l k d j b,List.getElem?_reverse b];by_cases c:j<k\/l.length-k<=j
  ·rw[zi c]
  rw[zh c,show l.length-1-j=j from by omega]
 rw[yY (by rw[rR];omega),yY (by simp;omega)]
theorem MX (base g cap:Nat)(l:List UInt8)(w:World)(h:bL w base 5 (.slice (some ⟨g,0,none⟩) l.length cap) l)(s:l.length<=1099511627776):
 Calls prog 234 #[.slice (some ⟨g,0,none⟩) l.length cap] w fun e w'=>e= .returned (.tuple #[])/\bL w' base 5 (.slice (some ⟨g,0,none⟩) l.length cap) l.reverse/\Kept 5 base w w':=by
 obtain⟨n,p⟩:∃n,l.length=n:=⟨_,rfl⟩
 rw[p]at h s⊢;have c:=za p;clear p;go_enter func234,ntmps234
 go_wp2;go_loopw [2,3] (fun i j wr=>∃k:Nat,2*k<=n+1/\i= .int .i64 k/\j= .int .i64 ((n:Int)-1-k)/\bL wr base 5 (.slice (some ⟨g,0,none⟩) n cap) (rv l k)/\Kept 5 base w wr) (fun i _ _=>n-(intOf i).toNat)
 case atStart=>exact⟨0,by omega,rfl,by go_num,h,Kept.refl _ _ _⟩
 case round=>
  obtain⟨k,J,rfl,rfl,b,m⟩:=hrel;clear h;by_cases F:2*k+1<n
  ·have A:(rv l k).length=n:=by rw[rR,c.out]
   obtain⟨d,hd⟩:∃d:Nat,n-1-k=d:=⟨_,rfl⟩
   have z:(n:Int)-1-k=d:=by omega
   obtain⟨I,f1,g1,g2⟩:=b.at_ (k:=k) (by omega);obtain⟨D,f2,_,_⟩:=b.at_ (k:=d) (by omega);have r:=za ((b.set (k:=k) (by omega) ((rv l k).getD d 0)).set (k:=d) (by rw[Zg];omega) ((rv l k).getD k 0));obtain⟨E,C,o,q⟩:=b.block;have B:=za (((m.store (k:=k) o q (.int .u8 ((rv l k).getD d 0).toNat))).store (k:=d) (js _ o) q (.int .u8 ((rv l k).getD k 0).toNat));have u:Hid (((rv l k).set k ((rv l k).getD d 0)).set d ((rv l k).getD k 0)=rv l (k+1)):=za (by simp only[rv];rw[c.out,hd]);rw[u.out]at r;have H:(⟨g,d,none⟩:Addr)≠⟨g,k,none⟩:=fun e=>by have:=xi Addr.off e;simp at this;omega
   rw[z];generalize ((rv l k).getD d 0).toNat=y at*;generalize ((rv l k).getD k 0).toNat=x at*;have G:k<d:=by omega
   have K:d<n:=by omega
   clear o b m A hd;go_wp2;go_region
   all_goals
    go_wp2;go_roundw
    case rel=>exact⟨k+1,by omega,by go_num,by go_num,r.out.drew,B.out.drew⟩
    case measure=>simp[intOf];omega
  have e:rv l k=l.reverse:=Xi l k (by rw[c.out];omega) (by rw[c.out];omega);rw[e]at b;go_wp2;go_end0
  exact⟨rfl,b,m⟩
theorem MZ (base g cap:Nat)(l:List UInt8)(w:World)(d:bL w base 5 (.slice (some ⟨g,0,none⟩) l.length cap) l)(i:l.length<=1099511627776):
 Calls prog 209 #[.slice (some ⟨g,0,none⟩) l.length cap] w fun e w'=>e= .returned (.string ⟨l.reverse.toArray⟩)/\Kept 5 base w w':=by
 have m:=za (MX base g cap l w d i);clear d;go_enter func209,ntmps209
 go_wp2_with fail
 refine m.out.mono ?_;rintro e o ⟨rfl,b,c⟩;have k:=b.EV (P:=prog) zr yb zG;have j:=za c;clear b c;obtain⟨X,h⟩:∃X,Hid ((⟨l.reverse.toArray⟩:ByteArray)=X):=⟨_,za rfl⟩
 rw[h.out]at k;generalize l.length=n at*;go_wp2;go_ret;exact⟨by rw[h.out];rfl,j.out⟩
