/- A region that draws its order, whose operations only read (or call what only reads) but for a forced tail: one walk of the lexical order, then the tail. Own law; no program in sight. -/
import Derived.StillTail
import Derived.BigQuiet
import Derived.Test.YtimoclkoflamkaaGreatDoorKA8
set_option linter.all false
namespace Go.Proofs.YtimoclkoflamkaaGreatDoor
open Go
variable {n id g:Nat}{w:World}{l:List Oper}
section
def yB:=@getD_replicate_false
def Zj:=@Ne.symm
def ZL:=@mem_ready
def Yr:=@ready_mono
variable {P:Program} {ops:Array Oper} {md:Region.Mode} {C:World->Prop}
def qU (P:Program)(md:Region.Mode)(ops:Array Oper)(C:World->Prop)(n:Nat)(L:Array Bool->Act->Prop):Nat->Array Bool->Act->Prop
 |0,listed,a=>L listed a
 |f+1,listed,a=>
  Region.ready md ops listed≠ []/\∀i∈Region.ready md ops listed,i<n/\qOp P ops C i (qU P md ops C n L f (listed.setIfInBounds i true)) a
theorem jQ {L:Array Bool->Act->Prop}{Q':Exit->Act->World->Prop}(c:∀b a w,C w->L b a->wpAny P md ops Q' g b a w):
 ∀(f:Nat) (b:Array Bool) (a:Act) (w:World),C w->qU P md ops C n L f b a->wpAny P md ops Q' (f+g) b a w
 |0,b,a,w,hw,h=>by rw[zK];exact c _ _ _ hw h
 |f+1,b,a,w,hw,h=>by
  rw[show f+1+g=(f+g)+1 by omega];exact⟨fun e=>absurd e h.1,fun i hi=>wpOp_of_qOp hw (fun j w' k d=>jQ c f _ j w' k d) (h.2 i hi).2⟩
theorem BN {i:Nat}{r:Oper}{v:Value}{L:Array Bool->Act->Prop}(hi:ops[i]?=some r)(D:∀(j:Nat) (o:Oper) s b,ops[j]?=some o->o.op≠ .select s b)
 (F:Region.sinkB md ops n=true) (G:Region.chainB md ops n=true) (B:n<ops.size) (J:i<n)
 (Ds:∀c a,L c a->∀j∈Region.ready md ops c,n<=j):
 ∀(f:Nat) (c:Array Bool) (a:Act),HeadInv md ops n c->
  (∀j m,ops[j]?=some m->j≠i->c.getD j true=false->(∀e∈m.after,Region.binds md e=true->e.on≠i)->r.apart ops m=true)->
  i∈Region.ready md ops c->YieldsIn P ops C r v a->
  qU P md ops C n L f (c.setIfInBounds i true) (a.put r.dst v)->qU P md ops C n L (f+1) c a:=by
 intro f;induction f with
 |zero=>
  intro c a y _ d w H;have q:=(ZL.1 d).1;refine⟨fun h=>(by rw[h]at d;cases d),fun j p=> ?_⟩;have x:j<n:=by
   rcases xp j n with h|h
   ·exact h
   exact absurd p (tail_waits F G B y _ i rfl J q j h)
  refine⟨x, ?_⟩;by_cases l:j=i
  ·subst l;exact w.qOp hi H
  have:=Ds _ _ H j (Yr p l);omega
 |succ f ih=>
  intro c a y K d w H;have q:=(ZL.1 d).1;refine⟨fun h=>(by rw[h]at d;cases d),fun j p=> ?_⟩;have x:j<n:=by
   rcases xp j n with h|h
   ·exact h
   exact absurd p (tail_waits F G B y _ i rfl J q j h)
  refine⟨x, ?_⟩;by_cases l:j=i
  ·subst l;exact w.qOp hi H
  have u:=(H.2 j (Yr p l)).2;obtain⟨E,m,z,W⟩:=ZL.1 p;have O:∀e∈m.after,Region.binds md e=true->e.on≠i:=fun e X N M=>by
   have u:=W e X N;rw[M,getD_both q]at u;cases u
  have Z:=qOp_put z (K j m z l E O) (fun s b=>D i r s b hi) (fun s b=>D j m s b z) w u;have Y:∀k ok,ops[k]?=some ok->k≠i->(c.setIfInBounds j true).getD k true=false->
   (∀e∈ok.after,Region.binds md e=true->e.on≠i)->r.apart ops ok=true:=fun k ok U S q R=>by
   refine K k ok U S ?_ R;by_cases I:j=k
   ·subst I;exact E
   rw[getD_set_ne true I]at q;exact q
  refine qOp_mono (fun a' A=>ih (c.setIfInBounds j true) a' (y.set p x) Y (Yr d (Zj l)) A.1 ?_) Z;rw[Array.setIfInBounds_comm _ _ l];exact A.2
theorem nL {d:Act->Prop}(i:Region.noSelect ops=true)(p:Region.sinkB md ops n=true)(q:Region.chainB md ops n=true)(e:n<ops.size):
 ∀(l:List Oper) (k:Nat) (b:Array Bool) (a:Act),(∀j,j<l.length->l[j]?=ops[k+j]?)->k+l.length=n->HeadInv md ops n b->
 Region.lexHead md ops g l.length k b=true->wpQuiet P ops C d l a->
 qU P md ops C n (fun r u=>Region.seqB md ops g n r=true/\d u) l.length b a
 | [],k,b,a,_,hk,_,hB,h=>by
  have:k=n:=by simpa using hk
  subst this;exact⟨by simpa[Region.lexHead]using hB,h⟩
 |o::l,k,b,a,hl,hk,inv,hB,h=>by
  have c:ops[k]?=some o:=by simpa using(hl 0 (by simp)).symm
  simp only[zx,Region.lexHead,zv]at hB;obtain⟨⟨z,y⟩,x⟩:=hB;have m:k<n:=by simp only[zx]at hk;omega
  have s:k∈Region.ready md ops b:=by simpa using z
  have w:qOp P ops C k (wpQuiet P ops C d l) a:=by unfold qOp;simp only[c];exact h
  obtain⟨v,A,B⟩:=yieldsIn_of_qOp c w;exact BN c (Region.noSelect_spec i) p q e m (fun r u D=>seqB_ready D.1) l.length b a inv (Region.free_spec c y) s A
   (nL i p q e l (k+1) _ _ (fun j E=>by have:=hl (j+1) (by simp;omega);simpa[yd,Zx 1 j]using this) (by simp only[zx]at hk;omega) (inv.set s m) x B)
theorem cG {Q:Exit->Act->World->Prop}{a:Act}(n:Nat)(r:P.follows .mixedOrders=true)(m:Region.lexTailB .any l.toArray n=true)
 (h:wpQuiet P l.toArray (fun w'=>∃k,w'=w.drewN k) (fun c=>∀k,wpList P l.toArray Q (l.drop n) c (w.drewN k)) (l.take n) a):(Code.region id l.toArray true).wp P Q a w:=by
 simp only[Region.lexTailB,zv,zU]at m;obtain⟨⟨⟨⟨u,d⟩,y⟩,z⟩,s⟩:=m;have C:n<l.length:=by simpa using d
 have b:(l.take n).length=n:=by simp;omega
 have e:(l.drop n).length=l.toArray.size-n:=by simp
 have q:HeadInv .any l.toArray n (Array.replicate l.toArray.size false):=
  ⟨by simp,fun j D _ i=>(by rw[yB]at i;cases i),fun t _ x=>getD_in (by simpa using x) (yB _ _)⟩
 have H:=nL (md:= .any) (g:=l.toArray.size-n) u y z d (l.take n) 0 _ a (fun j o=>by
  have A:j<n:=by rw[b]at o;exact o
  simp[A]) (by simpa using b) q (by rw[b];exact s) h
 refine wp_region_any r ?_;have:=jQ (Q':=Q) (g:=l.toArray.size-n) (fun listed c w' B p=>by
  obtain⟨k,rfl⟩:=B;have:=wpAny_of_seq (md:= .any) (Q':=Q) (l.drop n) n listed c (w.drewN k) (fun j=>by simp[y8]) (by rw[e];exact p.1) (p.2 k);rwa [e]at this) _ _ _ _ ⟨1,rfl⟩ H
 rw[b,show n+(l.toArray.size-n)=l.toArray.size by omega]at this;exact this
end
open Go Go.RowKit
section
variable {P:Program} {ops:Array Oper} {C:World->Prop} {Q:Act->Prop} {o:Oper} {rest:List Oper} {a:Act}
theorem tR (v:Value)(c:Region.wanted o (yielded ops a.tmps)=true)(h:∀w,C w->o.quietAt P a C w v)(b:wpQuiet P ops C Q rest (a.put o.dst v)):wpQuiet P ops C Q (o::rest) a:=by
 unfold wpQuiet;rw[zg c];exact⟨v,h,b⟩
theorem ag (v:Value)(c:Region.wanted o (yielded ops a.tmps)=true)(h:∀w,C w->(execOp a.eval o).run P w= .ok (.value v) w)(b:wpQuiet P ops C Q rest (a.put o.dst v)):wpQuiet P ops C Q (o::rest) a:=
 tR v c (fun w d=>by unfold Oper.quietAt;rw[h w d];exact⟨rfl,rfl⟩) b
theorem eN {W:World}(f:FuncId)(args:Array Value)(v:Value)(k:Region.wanted o (yielded ops a.tmps)=true)(d:∀w,(execOp a.eval o).run P w= .ok (.enter f args) w)
 (i:∀w,Below W.heap.size W w->Calls P f args w fun e w'=>e= .returned v/\Below w.heap.size w w') (h:wpQuiet P ops (fun w'=>Below W.heap.size W w') Q rest (a.put o.dst v)):wpQuiet P ops (fun w'=>Below W.heap.size W w') Q (o::rest) a:=
 tR v k (fun w b=>by
  unfold Oper.quietAt;rw[d w];exact⟨rfl,(i w b).mono fun e w' ⟨c,j⟩=>⟨c,b.trans (j.mono b.size)⟩⟩) h
theorem fX {Q:Exit->Act->World->Prop}{a:Act}(d:P.follows .mixedOrders=true)(c:Region.lexB .any l.toArray=true)
 (h:wpQuiet P l.toArray (fun w'=>Below w.heap.size w w') (fun b=>∀w',Below w.heap.size w w'->Q .normal b w') l a):(Code.region id l.toArray true).wp P Q a w:=
 wp_region_quiet (C:=fun w'=>Below w.heap.size w w') d c (zi _ _).drew (by simpa using h)
theorem nM {Q:Exit->Act->World->Prop}{a:Act}(n:Nat)(q:P.follows .mixedOrders=true)(k:Region.lexTailB .any l.toArray n=true)
 (h:wpQuiet P l.toArray (fun w'=>Below w.heap.size w w') (fun c=>∀w',Below w.heap.size w w'->wpList P l.toArray Q (l.drop n) c w') (l.take n) a):(Code.region id l.toArray true).wp P Q a w:=by
 simp only[Region.lexTailB,zv,zU]at k;obtain⟨⟨⟨⟨s,d⟩,x⟩,y⟩,r⟩:=k;have B:n<l.length:=by simpa using d
 have b:(l.take n).length=n:=by simp;omega
 have e:(l.drop n).length=l.toArray.size-n:=by simp
 have p:HeadInv .any l.toArray n (Array.replicate l.toArray.size false):=
  ⟨by simp,fun j C _ i=>(by rw[yB]at i;cases i),fun t _ u=>getD_in (by simpa using u) (yB _ _)⟩
 have H:=nL (md:= .any) (g:=l.toArray.size-n) s x y d (l.take n) 0 _ a (fun j m=>by
  have z:j<n:=by rw[b]at m;exact m
  simp[z]) (by simpa using b) p (by rw[b];exact r) h
 refine wp_region_any q ?_;have:=jQ (Q':=Q) (g:=l.toArray.size-n) (fun listed c w' A o=>by
  have:=wpAny_of_seq (md:= .any) (Q':=Q) (l.drop n) n listed c w' (fun j=>by simp[y8]) (by rw[e];exact o.1) (o.2 w' A);rwa [e]at this) _ _ _ _ ((zi _ _).drew) H
 rw[b,show n+(l.toArray.size-n)=l.toArray.size by omega]at this;exact this
end
open Go.RowKit
theorem J0 {P:Program}{ops:Array Oper}{C:World->Prop}{Q:Act->Prop}{o:Oper}{rest:List Oper}{a:Act}(b:Region.wanted o (yielded ops a.tmps)=false)(h:wpQuiet P ops C Q rest (a.put o.dst undef)):wpQuiet P ops C Q (o::rest) a:=by
 unfold wpQuiet;rw[zf (by rw[b];simp)];exact h
def Mf (ops:Array Oper):Nat->List Oper->Act->Bool
 |0,_,_=>true
 |_+1,[],_=>false
 |n+1,o::l,a=> !(Region.wanted o (yielded ops a.tmps))&&Mf ops n l (a.put o.dst undef)
def Mg :Nat->List Oper->Act->Act
 |0,_,a=>a
 |_+1,[],a=>a
 |n+1,o::l,a=>Mg n l (a.put o.dst undef)
theorem wpQuiet_skip {P:Program}{ops:Array Oper}{C:World->Prop}{Q:Act->Prop}:∀(n:Nat) (l:List Oper) (a:Act),Mf ops n l a=true->wpQuiet P ops C Q (l.drop n) (Mg n l a)->wpQuiet P ops C Q l a
 |0,_,_,_,h=>h
 |_+1,[],_,hs,_=>by cases hs
 |n+1,o::l,a,hs,h=>by
  simp only[Mf,zv,Bool.not_eq_true']at hs;exact J0 hs.1 (wpQuiet_skip n l _ hs.2 h)
theorem uN {P:Program}{ops:Array Oper}{C:World->Prop}{Q:Act->Prop}{o:Oper}{rest:List Oper}{a:Act}(v:Value)(n:Nat)(e:Region.wanted o (yielded ops a.tmps)=true)(h:∀w,C w->(execOp a.eval o).run P w= .ok (.value v) w)
 (d:Mf ops n rest (a.put o.dst v)=true) (c:∀r b,r=rest.drop n->b=Mg n rest (a.put o.dst v)->wpQuiet P ops C Q r b):wpQuiet P ops C Q (o::rest) a:=ag v e h (wpQuiet_skip n rest _ d (c _ _ rfl rfl))
