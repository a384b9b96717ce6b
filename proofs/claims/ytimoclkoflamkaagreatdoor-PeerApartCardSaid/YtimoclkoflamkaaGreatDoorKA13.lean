/- A region that draws its order, whose operations only read (or call what only reads) but for a forced tail: one walk of the lexical order, then the tail. Own law; no program in sight. -/
import Derived.StillTail
import Derived.BigQuiet
import Derived.Test.YtimoclkoflamkaaGreatDoorKA8
set_option linter.all false
namespace Go.Proofs.YtimoclkoflamkaaGreatDoor
open Go
variable {w V:World}{i n g id k:Nat}{listed:Array Bool}{Q Q':Exit->Act->World->Prop}{a:Act}{p:Addr}{l:List Oper}{t:ByteArray}
section
def yB:=@getD_replicate_false
def Zf:=@Ne.symm
def Zq:=@getD_both
def ZD:=@mem_ready
def ZV:=@List.mem_range
def Z2:=@World.cell?_setCell_other
def Yf:=@ready_mono
variable {P:Program} {ops:Array Oper} {md:Region.Mode} {C:World->Prop}
def qt (P:Program)(md:Region.Mode)(ops:Array Oper)(C:World->Prop)(n:Nat)(L:Array Bool->Act->Prop):Nat->Array Bool->Act->Prop
 |0,listed,a=>L listed a
 |f+1,listed,a=>
  Region.ready md ops listed≠ []/\∀i∈Region.ready md ops listed,i<n/\qOp P ops C i (qt P md ops C n L f (listed.setIfInBounds i true)) a
theorem jJ {L:Array Bool->Act->Prop}(c:∀b a w,C w->L b a->wpAny P md ops Q' g b a w):
 ∀(f:Nat) (b:Array Bool) (a:Act) (w:World),C w->qt P md ops C n L f b a->wpAny P md ops Q' (f+g) b a w
 |0,b,a,w,hw,h=>by rw[zJ];exact c _ _ _ hw h
 |f+1,b,a,w,hw,h=>by
  rw[show f+1+g=(f+g)+1 by omega];exact⟨fun j=>absurd j h.1,fun i hi=>wpOp_of_qOp hw (fun e w' k d=>jJ c f _ e w' k d) (h.2 i hi).2⟩
theorem AF {r:Oper}{v:Value}{L:Array Bool->Act->Prop}(hi:ops[i]?=some r)(I:∀(j:Nat) (o:Oper) s b,ops[j]?=some o->o.op≠ .select s b)
 (F:Region.sinkB md ops n=true) (K:Region.chainB md ops n=true) (D:n<ops.size) (A:i<n)
 (O:∀c a,L c a->∀j∈Region.ready md ops c,n<=j):
 ∀(f:Nat) (c:Array Bool) (a:Act),HeadInv md ops n c->
  (∀j p,ops[j]?=some p->j≠i->c.getD j true=false->(∀e∈p.after,Region.binds md e=true->e.on≠i)->r.apart ops p=true)->
  i∈Region.ready md ops c->YieldsIn P ops C r v a->
  qt P md ops C n L f (c.setIfInBounds i true) (a.put r.dst v)->qt P md ops C n L (f+1) c a:=by
 intro f;induction f with
 |zero=>
  intro c a x _ d y H;have q:=(ZD.1 d).1;refine⟨fun h=>(by rw[h]at d;cases d),fun j m=> ?_⟩;have w:j<n:=by
   rcases xp j n with h|h
   ·exact h
   exact absurd m (tail_waits F K D x _ i rfl A q j h)
  refine⟨w, ?_⟩;by_cases l:j=i
  ·subst l;exact y.qOp hi H
  have:=O _ _ H j (Yf m l);omega
 |succ f ih=>
  intro c a x E d y H;have q:=(ZD.1 d).1;refine⟨fun h=>(by rw[h]at d;cases d),fun j m=> ?_⟩;have w:j<n:=by
   rcases xp j n with h|h
   ·exact h
   exact absurd m (tail_waits F K D x _ i rfl A q j h)
  refine⟨w, ?_⟩;by_cases l:j=i
  ·subst l;exact y.qOp hi H
  have u:=(H.2 j (Yf m l)).2;obtain⟨B,p,z,Z⟩:=ZD.1 m;have Y:∀e∈p.after,Region.binds md e=true->e.on≠i:=fun e he X aa=>by
   have u:=Z e he X;rw[aa,Zq q]at u;cases u
  have M:=qOp_put z (E j p z l B Y) (fun s b=>I i r s b hi) (fun s b=>I j p s b z) y u;have N:∀k ok,ops[k]?=some ok->k≠i->(c.setIfInBounds j true).getD k true=false->
   (∀e∈ok.after,Region.binds md e=true->e.on≠i)->r.apart ops ok=true:=fun k ok U W q R=>by
   refine E k ok U W ?_ R;by_cases G:j=k
   ·subst G;exact B
   rw[getD_set_ne true G]at q;exact q
  refine qOp_mono (fun S J=>ih (c.setIfInBounds j true) S (x.set m w) N (Yf d (Zf l)) J.1 ?_) M;rw[Array.setIfInBounds_comm _ _ l];exact J.2
theorem nn {d:Act->Prop}(s:Region.noSelect ops=true)(q:Region.sinkB md ops n=true)(u:Region.chainB md ops n=true)(p:n<ops.size):
 ∀(l:List Oper) (k:Nat) (b:Array Bool) (a:Act),(∀j,j<l.length->l[j]?=ops[k+j]?)->k+l.length=n->HeadInv md ops n b->
 Region.lexHead md ops g l.length k b=true->wpQuiet P ops C d l a->
 qt P md ops C n (fun e i=>Region.seqB md ops g n e=true/\d i) l.length b a
 | [],k,b,a,_,hk,_,hB,h=>by
  have:k=n:=by simpa using hk
  subst this;exact⟨by simpa[Region.lexHead]using hB,h⟩
 |o::l,k,b,a,hl,hk,inv,hB,h=>by
  have c:ops[k]?=some o:=by simpa using(hl 0 (by simp)).symm
  simp only[zz,Region.lexHead,zy]at hB;obtain⟨⟨z,y⟩,A⟩:=hB;have m:k<n:=by simp only[zz]at hk;omega
  have r:k∈Region.ready md ops b:=by simpa using z
  have D:qOp P ops C k (wpQuiet P ops C d l) a:=by unfold qOp;simp only[c];exact h
  obtain⟨v,B,x⟩:=yieldsIn_of_qOp c D;exact AF c (Region.noSelect_spec s) q u p m (fun e i w=>seqB_ready w.1) l.length b a inv (Region.free_spec c y) r B
   (nn s q u p l (k+1) _ _ (fun j E=>by have:=hl (j+1) (by simp;omega);simpa[yg,Zw 1 j]using this) (by simp only[zz]at hk;omega) (inv.set r m) A x)
theorem cB (n:Nat)(r:P.follows .mixedOrders=true)(p:Region.lexTailB .any l.toArray n=true)
 (h:wpQuiet P l.toArray (fun w'=>∃k,w'=w.drewN k) (fun c=>∀k,wpList P l.toArray Q (l.drop n) c (w.drewN k)) (l.take n) a):(Code.region id l.toArray true).wp P Q a w:=by
 simp only[Region.lexTailB,zy,zY]at p;obtain⟨⟨⟨⟨A,m⟩,s⟩,B⟩,y⟩:=p;have D:n<l.length:=by simpa using m
 have b:(l.take n).length=n:=by simp;omega
 have d:(l.drop n).length=l.toArray.size-n:=by simp
 have x:HeadInv .any l.toArray n (Array.replicate l.toArray.size false):=
  ⟨by simp,fun j C _ o=>(by rw[yB]at o;cases o),fun t _ q=>getD_in (by simpa using q) (yB _ _)⟩
 have H:=nn (md:= .any) (g:=l.toArray.size-n) A s B m (l.take n) 0 _ a (fun j i=>by
  have z:j<n:=by rw[b]at i;exact i
  simp[z]) (by simpa using b) x (by rw[b];exact y) h
 refine wp_region_any r ?_;have:=jJ (Q':=Q) (g:=l.toArray.size-n) (fun listed c w' u e=>by
  obtain⟨k,rfl⟩:=u;have:=wpAny_of_seq (md:= .any) (Q':=Q) (l.drop n) n listed c (w.drewN k) (fun j=>by simp[xa]) (by rw[d];exact e.1) (e.2 k);rwa [d]at this) _ _ _ _ ⟨1,rfl⟩ H
 rw[b,show n+(l.toArray.size-n)=l.toArray.size by omega]at this;exact this
end
theorem FD :∀(n i:Nat) (p p':Nat->Bool),i<n->p i=true->p' i=false->(∀j,j≠i->p' j=p j)->(List.range n).countP p=(List.range n).countP p'+1
 |0,i,p,p',hi,_,_,_=>by omega
 |n+1,i,p,p',hi,h1,h2,h3=>by
  rw[List.range_succ,List.countP_append,List.countP_append];by_cases e:i=n
  ·subst e;have:(List.range i).countP p=(List.range i).countP p':=List.countP_congr fun x hx=>by rw[h3 x (by have:=ZV.1 hx;omega)]
   simp[this,h1,h2]
  rw[FD n i p p' (by omega) h1 h2 h3];have:p' n=p n:=h3 n (Zf e);simp[this];omega
section
variable {P:Program} {ops:Array Oper} {md:Region.Mode}
def Region.PK (md:Region.Mode)(ops:Array Oper):Bool:=
 (List.range ops.size).all fun i=>match ops[i]? with
  |some o=>o.after.all fun e=> !Region.binds md e||decide (e.on<i)
  |none=>false
theorem IK (r:Region.PK md ops=true)(u:listed.size=ops.size):∀(i:Nat),i<ops.size->listed.getD i true=false->∃j,j<ops.size/\j∈Region.ready md ops listed:=by
 intro i;induction i using Nat.strongRecOn with
 |ind i ih=>
  intro hi s;by_cases c:∃j,j<i/\listed.getD j true=false
  ·obtain⟨j,n,p⟩:=c;exact ih j n (by omega) p
  refine⟨i,hi, ?_⟩;have d:=ZH.1 r i (ZV.2 hi);have k:ops[i]?=some ops[i]:=Zi hi;rw[k]at d;refine ZD.2 ⟨s,ops[i],k,fun e o m=> ?_⟩;have b:=Array.all_eq_true'.1 d e o;rw[m]at b;have q:e.on<i:=by simpa using b
  have l:listed.getD e.on true=true:=by
   rcases xf (listed.getD e.on true)with h|h
   ·exact h
   exact absurd ⟨e.on,q,h⟩ c
  have:e.on<listed.size:=by omega
  simp[this]at l⊢;exact l
theorem qu {I:Array Bool->Act->World->Prop}(p:Region.PK md ops=true)
 (k:∀b a w i,i<ops.size->I b a w->i∈Region.ready md ops b->wpOp P ops Q' i (I (b.setIfInBounds i true)) a w)
 (n:∀b a w,(∀i,i<ops.size->b.getD i false=true)->I b a w->Q' .normal a w):
 ∀(f:Nat) (b:Array Bool) (a:Act) (w:World),(List.range ops.size).countP (fun i=> !b.getD i true)=f->b.size=ops.size->I b a w->wpAny P md ops Q' f b a w
 |0,b,a,w,qP,fa,hI=>by
  have r:∀i,i<ops.size->b.getD i true=true:=fun i hi=>by
   have:=List.countP_eq_zero.1 qP i (ZV.2 hi);simpa using this
  refine⟨?_,n _ _ _ (fun i hi=> ?_) hI⟩
  ·cases hr:Region.ready md ops b with
   |nil=>rfl
   |cons j l=>
    have e:j∈Region.ready md ops b:=by rw[hr];simp
    obtain⟨c,o,d,_⟩:=ZD.1 e;rw[r j (yd.1 d).1]at c;cases c
  have:=r i hi;have B:i<b.size:=by omega
  simp[B]at this⊢;exact this
 |f+1,b,a,w,qP,fa,hI=>by
  have z:∃i,i<ops.size/\b.getD i true=false:=by
   have:0<(List.range ops.size).countP (fun i=> !b.getD i true):=by omega
   obtain⟨i,hi,s⟩:=List.countP_pos_iff.1 this;exact⟨i,ZV.1 hi,by simpa using s⟩
  obtain⟨i0,A,y⟩:=z;obtain⟨D,C,q⟩:=IK p fa i0 A y;refine⟨fun h=>(by rw[h]at q;cases q),fun i hi=> ?_⟩;obtain⟨c,o,d,_⟩:=ZD.1 hi;have m:i<ops.size:=(yd.1 d).1;refine wpOp_mono (fun u w' x=>qu p k n f _ u w' ?_ (by simp[fa]) x) (k b a w i m hI hi);have:=FD ops.size i (fun i=> !b.getD i true) (fun j=> !(b.setIfInBounds i true).getD j true) m (by simp[c]) (by
   have:i<b.size:=by omega
   simp[this]) (fun j e=>by simp[Array.getElem?_setIfInBounds_ne (Zf e)])
  omega
theorem AG (j:P.follows .mixedOrders=true)(k:Region.PK .any l.toArray=true)(I:Array Bool->Act->World->Prop)
 (e:I (Array.replicate l.toArray.size false) a w.drew)
 (d:∀b a w i,i<l.toArray.size->I b a w->i∈Region.ready .any l.toArray b->wpOp P l.toArray Q i (I (b.setIfInBounds i true)) a w)
 (h:∀b a w,(∀i,i<l.toArray.size->b.getD i false=true)->I b a w->Q .normal a w):(Code.region id l.toArray true).wp P Q a w:=by
 have c:(List.range l.toArray.size).countP (fun i=> !(Array.replicate l.toArray.size false).getD i true)=l.toArray.size:=by
  have:(List.range l.toArray.size).countP (fun i=> !(Array.replicate l.toArray.size false).getD i true)=(List.range l.toArray.size).length:=by
   rw[List.countP_eq_length];intro i hi;have:=ZV.1 hi;simp[show i<l.length by simpa using this]
  simpa using this
 exact wp_region_any j (qu k d h _ _ a _ c (by simp) e)
end
theorem aS {P:Program}{ops:Array Oper}{K:Act->World->Prop}{o:Oper}(hi:ops[i]?=some o)(b:o.guard=none)(h:o.wp P a w K Q):wpOp P ops Q i K a w:=by
 unfold wpOp;simp only[hi];have c:Region.wanted o (yielded ops a.tmps)=true:=by simp[Region.wanted,b]
 rw[zj c];exact .inl h
theorem dk (h:(listed.setIfInBounds i true).getD k false=true):k=i\/listed.getD k false=true:=by
 by_cases e:i=k
 ·exact .inl e.symm
 rw[getD_set_ne false e]at h;exact .inr h
theorem IL (h:i<listed.size):(listed.setIfInBounds i true).getD i false=true:=by simp[h]
theorem bR (h:i≠k):(listed.setIfInBounds i true).getD k false=listed.getD k false:=getD_set_ne false h
open Go.RowKit
def FE (w V:World):Prop:=∀p:Addr,p.block<w.heap.size->(V.cell? p=w.cell? p\/∃t t',w.cell? p=some (.string t)/\V.cell? p=some (.string t'))/\V.frozen? p=w.frozen? p
theorem FE.ai (h:Below w.heap.size w V):FE w V:=fun _ b=>⟨.inl (h.cell b),Zt (h.block _ b)⟩
theorem FE.str (h:FE w V)(c:w.cell? p=some (.string t)):∃b,V.cell? p=some (.string b):=by
 rcases(h p (ke c)).1 with e|⟨_,b,_,e⟩
 ·exact⟨t,e.trans c⟩
 exact⟨b,e⟩
theorem FE.slice (h:FE w V){A:Option Addr}{c:Nat}(b:w.cell? p=some (.slice A n c)):V.cell? p=some (.slice A n c):=by
 rcases(h p (ke b)).1 with e|⟨t,_,e,_⟩
 ·exact e.trans b
 rw[b]at e;cases e
structure ApK (w6 w7 w8 V:World):Prop where
 b:Below w6.heap.size w6 V
 s:FE w7 V
 u:∀k,w7.heap.size<=k->k<w8.heap.size->V.heap[k]?=w8.heap[k]?
 z:w8.heap.size<=V.heap.size
theorem ApK.put {c b i:World}(h:ApK c b i V)(d:b.cell? p=some (.string t))(m:c.heap.size<=p.block)(s:ByteArray):ApK c b i (V.setCell p (.string s)):=by
 have u:=ke d;refine⟨h.b.setCell m _,fun q j=> ?_,fun k o l=>(zS V p _ k (by omega)).trans (h.u k o l),by simpa using h.z⟩;obtain⟨r,n⟩:=h.s.str d;refine⟨?_,by rw[World.frozen?_setCell];exact(h.s q j).2⟩;by_cases e:p=q
 ·subst e;exact .inr ⟨t,s,d,World.cell?_setCell_same (h:=n) ..⟩
 rw[Z2 (h:=e)];exact(h.s q j).1
