/- A region that draws its order, whose operations only read (or call what only reads) but for a forced tail: one walk of the lexical order, then the tail. Own law; no program in sight. -/
import Derived.StillTail
import Derived.BigQuiet
import Derived.Test.YtdbmifjankgfpaaGreatDoorKA6
set_option linter.all false
namespace Go.Proofs.YtdbmifjankgfpaaGreatDoor
open Tryz
open Go
section
def yx:=@getD_replicate_false
def Zh:=@Ne.symm
def Zk:=@getD_both
def Zt:=@List.mem_range
def ZB:=@mem_ready
def Yb:=@ready_mono
variable {P:Program} {ops:Array Oper} {md:Region.Mode} {C:World->Prop}
def qB (P:Program)(md:Region.Mode)(ops:Array Oper)(C:World->Prop)(n:Nat)(L:Array Bool->Act->Prop):Nat->Array Bool->Act->Prop
 |0,listed,a=>L listed a
 |f+1,listed,a=>
  Region.ready md ops listed≠ []/\∀i∈Region.ready md ops listed,i<n/\qOp P ops C i (qB P md ops C n L f (listed.setIfInBounds i true)) a
theorem jS {n g:Nat}{L:Array Bool->Act->Prop}{Q':Exit->Act->World->Prop}(c:∀b a w,C w->L b a->wpAny P md ops Q' g b a w):
 ∀(f:Nat) (b:Array Bool) (a:Act) (w:World),C w->qB P md ops C n L f b a->wpAny P md ops Q' (f+g) b a w
 |0,b,a,w,hw,h=>by rw[zM];exact c _ _ _ hw h
 |f+1,b,a,w,hw,h=>by
  rw[show f+1+g=(f+g)+1 by omega];exact⟨fun d=>absurd d h.1,fun i hi=>wpOp_of_qOp hw (fun k w' e j=>jS c f _ k w' e j) (h.2 i hi).2⟩
theorem A9 {n i:Nat}{r:Oper}{v:Value}{L:Array Bool->Act->Prop}(hi:ops[i]?=some r)(F:∀(j:Nat) (o:Oper) s b,ops[j]?=some o->o.op≠ .select s b)
 (E:Region.sinkB md ops n=true) (A:Region.chainB md ops n=true) (K:n<ops.size) (I:i<n)
 (N:∀c a,L c a->∀j∈Region.ready md ops c,n<=j):
 ∀(f:Nat) (c:Array Bool) (a:Act),HeadInv md ops n c->
  (∀j q,ops[j]?=some q->j≠i->c.getD j true=false->(∀e∈q.after,Region.binds md e=true->e.on≠i)->r.apart ops q=true)->
  i∈Region.ready md ops c->YieldsIn P ops C r v a->
  qB P md ops C n L f (c.setIfInBounds i true) (a.put r.dst v)->qB P md ops C n L (f+1) c a:=by
 intro f;induction f with
 |zero=>
  intro c a x _ d w H;have m:=(ZB.1 d).1;refine⟨fun h=>(by rw[h]at d;cases d),fun j p=> ?_⟩;have u:j<n:=by
   rcases xC j n with h|h
   ·exact h
   exact absurd p (tail_waits E A K x _ i rfl I m j h)
  refine⟨u, ?_⟩;by_cases l:j=i
  ·subst l;exact w.qOp hi H
  have:=N _ _ H j (Yb p l);omega
 |succ f ih=>
  intro c a x D d w H;have m:=(ZB.1 d).1;refine⟨fun h=>(by rw[h]at d;cases d),fun j p=> ?_⟩;have u:j<n:=by
   rcases xC j n with h|h
   ·exact h
   exact absurd p (tail_waits E A K x _ i rfl I m j h)
  refine⟨u, ?_⟩;by_cases l:j=i
  ·subst l;exact w.qOp hi H
  have y:=(H.2 j (Yb p l)).2;obtain⟨G,q,z,R⟩:=ZB.1 p;have W:∀e∈q.after,Region.binds md e=true->e.on≠i:=fun e M O Z=>by
   have y:=R e M O;rw[Z,Zk m]at y;cases y
  have U:=qOp_put z (D j q z l G W) (fun s b=>F i r s b hi) (fun s b=>F j q s b z) w y;have S:∀k ok,ops[k]?=some ok->k≠i->(c.setIfInBounds j true).getD k true=false->
   (∀e∈ok.after,Region.binds md e=true->e.on≠i)->r.apart ops ok=true:=fun k ok hk nZ m X=>by
   refine D k ok hk nZ ?_ X;by_cases J:j=k
   ·subst J;exact G
   rw[getD_set_ne true J]at m;exact m
  refine qOp_mono (fun Y B=>ih (c.setIfInBounds j true) Y (x.set p u) S (Yb d (Zh l)) B.1 ?_) U;rw[Array.setIfInBounds_comm _ _ l];exact B.2
theorem nL {n g:Nat}{d:Act->Prop}(q:Region.noSelect ops=true)(i:Region.sinkB md ops n=true)(e:Region.chainB md ops n=true)(s:n<ops.size):
 ∀(l:List Oper) (k:Nat) (b:Array Bool) (a:Act),(∀j,j<l.length->l[j]?=ops[k+j]?)->k+l.length=n->HeadInv md ops n b->
 Region.lexHead md ops g l.length k b=true->wpQuiet P ops C d l a->
 qB P md ops C n (fun u r=>Region.seqB md ops g n u=true/\d r) l.length b a
 | [],k,b,a,_,hk,_,hB,h=>by
  have:k=n:=by simpa using hk
  subst this;exact⟨by simpa[Region.lexHead]using hB,h⟩
 |o::l,k,b,a,hl,hk,inv,hB,h=>by
  have c:ops[k]?=some o:=by simpa using(hl 0 (by simp)).symm
  simp only[zw,Region.lexHead,zx]at hB;obtain⟨⟨w,A⟩,z⟩:=hB;have m:k<n:=by simp only[zw]at hk;omega
  have p:k∈Region.ready md ops b:=by simpa using w
  have D:qOp P ops C k (wpQuiet P ops C d l) a:=by unfold qOp;simp only[c];exact h
  obtain⟨v,x,y⟩:=yieldsIn_of_qOp c D;exact A9 c (Region.noSelect_spec q) i e s m (fun u r B=>seqB_ready B.1) l.length b a inv (Region.free_spec c A) p x
   (nL q i e s l (k+1) _ _ (fun j E=>by have:=hl (j+1) (by simp;omega);simpa[ym,Zs 1 j]using this) (by simp only[zw]at hk;omega) (inv.set p m) z y)
theorem cE {id:Nat}{Q:Exit->Act->World->Prop}{a:Act}{w:World}{l:List Oper}(n:Nat)(z:P.follows .mixedOrders=true)(m:Region.lexTailB .any l.toArray n=true)
 (h:wpQuiet P l.toArray (fun w'=>∃k,w'=w.drewN k) (fun c=>∀k,wpList P l.toArray Q (l.drop n) c (w.drewN k)) (l.take n) a):(Code.region id l.toArray true).wp P Q a w:=by
 simp only[Region.lexTailB,zx,zY]at m;obtain⟨⟨⟨⟨y,p⟩,s⟩,q⟩,u⟩:=m;have C:n<l.length:=by simpa using p
 have b:(l.take n).length=n:=by simp;omega
 have i:(l.drop n).length=l.toArray.size-n:=by simp
 have B:HeadInv .any l.toArray n (Array.replicate l.toArray.size false):=
  ⟨by simp,fun j D _ d=>(by rw[yx]at d;cases d),fun t _ x=>getD_in (by simpa using x) (yx _ _)⟩
 have H:=nL (md:= .any) (g:=l.toArray.size-n) y s q p (l.take n) 0 _ a (fun j e=>by
  have A:j<n:=by rw[b]at e;exact e
  simp[A]) (by simpa using b) B (by rw[b];exact u) h
 refine wp_region_any z ?_;have:=jS (Q':=Q) (g:=l.toArray.size-n) (fun listed c w' r o=>by
  obtain⟨k,rfl⟩:=r;have:=wpAny_of_seq (md:= .any) (Q':=Q) (l.drop n) n listed c (w.drewN k) (fun j=>by simp[xq]) (by rw[i];exact o.1) (o.2 k);rwa [i]at this) _ _ _ _ ⟨1,rfl⟩ H
 rw[b,show n+(l.toArray.size-n)=l.toArray.size by omega]at this;exact this
end
theorem FL :∀(n i:Nat) (p p':Nat->Bool),i<n->p i=true->p' i=false->(∀j,j≠i->p' j=p j)->(List.range n).countP p=(List.range n).countP p'+1
 |0,i,p,p',hi,_,_,_=>by omega
 |n+1,i,p,p',hi,h1,h2,h3=>by
  rw[List.range_succ,List.countP_append,List.countP_append];by_cases e:i=n
  ·subst e;have:(List.range i).countP p=(List.range i).countP p':=List.countP_congr fun x hx=>by rw[h3 x (by have:=Zt.1 hx;omega)]
   simp[this,h1,h2]
  rw[FL n i p p' (by omega) h1 h2 h3];have:p' n=p n:=h3 n (Zh e);simp[this];omega
section
variable {P:Program} {ops:Array Oper} {md:Region.Mode}
def Region.PV (md:Region.Mode)(ops:Array Oper):Bool:=
 (List.range ops.size).all fun i=>match ops[i]? with
  |some o=>o.after.all fun e=> !Region.binds md e||decide (e.on<i)
  |none=>false
theorem IN {listed:Array Bool}(n:Region.PV md ops=true)(u:listed.size=ops.size):∀(i:Nat),i<ops.size->listed.getD i true=false->∃j,j<ops.size/\j∈Region.ready md ops listed:=by
 intro i;induction i using Nat.strongRecOn with
 |ind i ih=>
  intro hi m;by_cases b:∃j,j<i/\listed.getD j true=false
  ·obtain⟨j,r,q⟩:=b;exact ih j r (by omega) q
  refine⟨i,hi, ?_⟩;have k:=Za.1 n i (Zt.2 hi);have c:ops[i]?=some ops[i]:=Z0 hi;rw[c]at k;refine ZB.2 ⟨m,ops[i],c,fun e o p=> ?_⟩;have d:=Array.all_eq_true'.1 k e o;rw[p]at d;have s:e.on<i:=by simpa using d
  have l:listed.getD e.on true=true:=by
   rcases xa (listed.getD e.on true)with h|h
   ·exact h
   exact absurd ⟨e.on,s,h⟩ b
  have:e.on<listed.size:=by omega
  simp[this]at l⊢;exact l
theorem qC {I:Array Bool->Act->World->Prop}{Q':Exit->Act->World->Prop}(q:Region.PV md ops=true)
 (p:∀b a w i,i<ops.size->I b a w->i∈Region.ready md ops b->wpOp P ops Q' i (I (b.setIfInBounds i true)) a w)
 (k:∀b a w,(∀i,i<ops.size->b.getD i false=true)->I b a w->Q' .normal a w):
 ∀(f:Nat) (b:Array Bool) (a:Act) (w:World),(List.range ops.size).countP (fun i=> !b.getD i true)=f->b.size=ops.size->I b a w->wpAny P md ops Q' f b a w
 |0,b,a,w,DU,gF,hI=>by
  have n:∀i,i<ops.size->b.getD i true=true:=fun i hi=>by
   have:=List.countP_eq_zero.1 DU i (Zt.2 hi);simpa using this
  refine⟨?_,k _ _ _ (fun i hi=> ?_) hI⟩
  ·cases hr:Region.ready md ops b with
   |nil=>rfl
   |cons j l=>
    have d:j∈Region.ready md ops b:=by rw[hr];simp
    obtain⟨c,o,e,_⟩:=ZB.1 d;rw[n j (yd.1 e).1]at c;cases c
  have:=n i hi;have y:i<b.size:=by omega
  simp[y]at this⊢;exact this
 |f+1,b,a,w,DU,gF,hI=>by
  have x:∃i,i<ops.size/\b.getD i true=false:=by
   have:0<(List.range ops.size).countP (fun i=> !b.getD i true):=by omega
   obtain⟨i,hi,s⟩:=List.countP_pos_iff.1 this;exact⟨i,Zt.1 hi,by simpa using s⟩
  obtain⟨i0,u,z⟩:=x;obtain⟨C,D,m⟩:=IN q gF i0 u z;refine⟨fun h=>(by rw[h]at m;cases m),fun i hi=> ?_⟩;obtain⟨c,o,e,_⟩:=ZB.1 hi;have r:i<ops.size:=(yd.1 e).1;refine wpOp_mono (fun B w' A=>qC q p k f _ B w' ?_ (by simp[gF]) A) (p b a w i r hI hi);have:=FL ops.size i (fun i=> !b.getD i true) (fun j=> !(b.setIfInBounds i true).getD j true) r (by simp[c]) (by
   have:i<b.size:=by omega
   simp[this]) (fun j d=>by simp[Array.getElem?_setIfInBounds_ne (Zh d)])
  omega
theorem Ba {id:Nat}{Q:Exit->Act->World->Prop}{a:Act}{w:World}{l:List Oper}(c:P.follows .mixedOrders=true)(k:Region.PV .any l.toArray=true)(I:Array Bool->Act->World->Prop)
 (e:I (Array.replicate l.toArray.size false) a w.drew)
 (d:∀b a w i,i<l.toArray.size->I b a w->i∈Region.ready .any l.toArray b->wpOp P l.toArray Q i (I (b.setIfInBounds i true)) a w)
 (h:∀b a w,(∀i,i<l.toArray.size->b.getD i false=true)->I b a w->Q .normal a w):(Code.region id l.toArray true).wp P Q a w:=by
 have j:(List.range l.toArray.size).countP (fun i=> !(Array.replicate l.toArray.size false).getD i true)=l.toArray.size:=by
  have:(List.range l.toArray.size).countP (fun i=> !(Array.replicate l.toArray.size false).getD i true)=(List.range l.toArray.size).length:=by
   rw[List.countP_eq_length];intro i hi;have:=Zt.1 hi;simp[show i<l.length by simpa using this]
  simpa using this
 exact wp_region_any c (qC k d h _ _ a _ j (by simp) e)
end
theorem aW {P:Program}{ops:Array Oper}{Q:Exit->Act->World->Prop}{i:Nat}{K:Act->World->Prop}{a:Act}{w:World}{o:Oper}(hi:ops[i]?=some o)(c:o.guard=none)(h:o.wp P a w K Q):wpOp P ops Q i K a w:=by
 unfold wpOp;simp only[hi];have b:Region.wanted o (yielded ops a.tmps)=true:=by simp[Region.wanted,c]
 rw[zi b];exact .inl h
theorem dr {listed:Array Bool}{i k:Nat}(h:(listed.setIfInBounds i true).getD k false=true):k=i\/listed.getD k false=true:=by
 by_cases e:i=k
 ·exact .inl e.symm
 rw[getD_set_ne false e]at h;exact .inr h
theorem IP {listed:Array Bool}{i:Nat}(h:i<listed.size):(listed.setIfInBounds i true).getD i false=true:=by simp[h]
theorem bN {listed:Array Bool}{i k:Nat}(h:i≠k):(listed.setIfInBounds i true).getD k false=listed.getD k false:=getD_set_ne false h
open Go Go.RowKit
section
variable {P:Program} {ops:Array Oper} {C:World->Prop} {Q:Act->Prop} {o:Oper} {rest:List Oper} {a:Act}
theorem s7 (v:Value)(c:Region.wanted o (yielded ops a.tmps)=true)(h:∀w,C w->o.quietAt P a C w v)(b:wpQuiet P ops C Q rest (a.put o.dst v)):wpQuiet P ops C Q (o::rest) a:=by
 unfold wpQuiet;rw[zi c];exact⟨v,h,b⟩
theorem aE (v:Value)(d:Region.wanted o (yielded ops a.tmps)=true)(h:∀w,C w->(execOp a.eval o).run P w= .ok (.value v) w)(b:wpQuiet P ops C Q rest (a.put o.dst v)):wpQuiet P ops C Q (o::rest) a:=
 s7 v d (fun w c=>by unfold Oper.quietAt;rw[h w c];exact⟨rfl,rfl⟩) b
theorem eK {W:World}(f:FuncId)(args:Array Value)(v:Value)(i:Region.wanted o (yielded ops a.tmps)=true)(k:∀w,(execOp a.eval o).run P w= .ok (.enter f args) w)
 (d:∀w,Below W.heap.size W w->Calls P f args w fun e w'=>e= .returned v/\Below w.heap.size w w') (j:wpQuiet P ops (fun w'=>Below W.heap.size W w') Q rest (a.put o.dst v)):wpQuiet P ops (fun w'=>Below W.heap.size W w') Q (o::rest) a:=
 s7 v i (fun w b=>by
  unfold Oper.quietAt;rw[k w];exact⟨rfl,(d w b).mono fun e w' ⟨h,c⟩=>⟨h,b.trans (c.mono b.size)⟩⟩) j
theorem jh {id:Nat}{Q:Exit->Act->World->Prop}{a:Act}{w:World}{l:List Oper}(d:P.follows .mixedOrders=true)(c:Region.lexB .any l.toArray=true)
 (h:wpQuiet P l.toArray (fun w'=>Below w.heap.size w w') (fun b=>∀w',Below w.heap.size w w'->Q .normal b w') l a):(Code.region id l.toArray true).wp P Q a w:=
 wp_region_quiet (C:=fun w'=>Below w.heap.size w w') d c (zl _ _).drew (by simpa using h)
theorem nM {id:Nat}{Q:Exit->Act->World->Prop}{a:Act}{w:World}{l:List Oper}(n:Nat)(y:P.follows .mixedOrders=true)(k:Region.lexTailB .any l.toArray n=true)
 (h:wpQuiet P l.toArray (fun w'=>Below w.heap.size w w') (fun c=>∀w',Below w.heap.size w w'->wpList P l.toArray Q (l.drop n) c w') (l.take n) a):(Code.region id l.toArray true).wp P Q a w:=by
 simp only[Region.lexTailB,zx,zY]at k;obtain⟨⟨⟨⟨x,o⟩,r⟩,p⟩,s⟩:=k;have B:n<l.length:=by simpa using o
 have b:(l.take n).length=n:=by simp;omega
 have i:(l.drop n).length=l.toArray.size-n:=by simp
 have A:HeadInv .any l.toArray n (Array.replicate l.toArray.size false):=
  ⟨by simp,fun j C _ d=>(by rw[yx]at d;cases d),fun t _ u=>getD_in (by simpa using u) (yx _ _)⟩
 have H:=nL (md:= .any) (g:=l.toArray.size-n) x r p o (l.take n) 0 _ a (fun j e=>by
  have z:j<n:=by rw[b]at e;exact e
  simp[z]) (by simpa using b) A (by rw[b];exact s) h
 refine wp_region_any y ?_;have:=jS (Q':=Q) (g:=l.toArray.size-n) (fun listed c w' q m=>by
  have:=wpAny_of_seq (md:= .any) (Q':=Q) (l.drop n) n listed c w' (fun j=>by simp[xq]) (by rw[i];exact m.1) (m.2 w' q);rwa [i]at this) _ _ _ _ ((zl _ _).drew) H
 rw[b,show n+(l.toArray.size-n)=l.toArray.size by omega]at this;exact this
end
open Go.RowKit
theorem qD {w:World}{ops:Array Oper}{o:Oper}{a:Act}{K:Act->World->Prop}{Q:Exit->Act->World->Prop}{A:Prop}(L:o.guard=none)(s x:Operand)
 (S:o.op= .call {callee:= .builtin .append,args:= #[s,x],argTypes:= #[26,26]}) (lo:Nat) (acc:List It) {v:Value} (C:a.eval s=v) (I:Acc w lo acc v) (y:It) {c i d:Value}
 (n:gq w (fun k=>lo<=k/\v.ownBlock≠some k) y c i d) (g:Nat) (hx:a.eval x= .slice (some ⟨g,0,none⟩) 1 1) (M:w.cell? ⟨g,0,none⟩=some c) (z:w.cell? ⟨g,1,none⟩=some i) (D:w.cell? ⟨g,2,none⟩=some d)
 (W:acc.length<=1000000) (U:lo<=w.heap.size)
 (J:∀b l cap w',Hid (l=acc.length+1)->Acc w' lo (acc++ [y]) (.slice (some ⟨b,0,none⟩) l cap)->w.grownBy w' v.ownBlock->lo<=b->K (a.put o.dst (.slice (some ⟨b,0,none⟩) l cap)) w'):
 if Region.wanted o (yielded ops a.tmps)=true then Oper.wp prog o a w K Q else A:=by
 obtain⟨i0,hi,E,R,N⟩:=yE Cl;obtain⟨m,O,H⟩:=I;refine step_append_lies w L s x 26 S lo 28 i0 _ 3 48 underlying26 hi E R N rfl (by decide) v acc.length m C O ⟨g,0,none⟩ 1 1 [c,i,d] hx rfl ?_ (agD n) (by decide) (by simp only[maxLen];omega) (by omega) U w.heap.size rfl ?_
 ·intro j u hu;have B:∀j,(⟨g,0,none⟩:Addr).add j=⟨g,j,none⟩:=by intro j;unfold Addr.add;split<;>simp_all
  rw[B];match j,hu with
  |0,hu=>simp at hu;subst hu;exact M
  |1,hu=>simp at hu;subst hu;exact z
  |2,hu=>simp at hu;subst hu;exact D
 intro b cap w' q r h X;have F:=IJ q b rfl;refine J b _ cap w' (za rfl) ⟨m++ [c,i,d],by rw[zj];exact q, ?_⟩ r F;refine((H.snoc n).ag (fun k Y hS=>⟨hS.1, ?_⟩) fun p G hS=>zD (r.block _ G (fun e=>hS.2 e.symm)));intro e;have e:b=k:=by simpa[Value.ownBlock]using e
 rcases h with h|h
 ·exact hS.2 (by rw[h,e])
 omega
theorem kz {w:World}{g:Nat}{t:TypeId}{a b c:Value}(h:af w g t #[a,b,c]):w.cell? ⟨g,0,none⟩=some a/\w.cell? ⟨g,1,none⟩=some b/\w.cell? ⟨g,2,none⟩=some c:=⟨h.cell 0,h.cell 1,h.cell 2⟩
theorem ack {w W:World}{j b i t3 c d e:Value}(h:(w.alloc (.cells #[j,b,i,t3] 43)).alloc (.cells #[c,d,e] 28)=W):
 W.heap.size=w.heap.size+2/\Below w.heap.size w W/\af W w.heap.size 43 #[j,b,i,t3]/\af W (w.heap.size+1) 28 #[c,d,e]:=by
 subst h;exact⟨by simp,((zl _ w).alloc (zd _) _).alloc (by simp) _,(af.new w _ _).alloc _,af.at_ (by simp)⟩
def vM (w w':World)(x:It)(er:Int)(e:Ending):Prop:=
 Below w.heap.size w w'/\∃c0 c1 c2,e= .returned (.tuple #[.agg #[c0,c1,c2],.int .i64 er])/\gq w' (w.heap.size<= ·) x c0 c1 c2
theorem nN (w:World)(S:Nat->Prop):gq w S jv (.string ⟨#[]⟩) (.bool false) (.slice none 0 0):=gq.text false (by simp[ByteArray.size])
theorem agG {w W:World}{c d b:Value}(h:W=w.alloc (.cells #[c,d,b] 28)):Below w.heap.size w W/\W.heap.size=w.heap.size+1/\af W w.heap.size 28 #[c,d,b]:=by
 subst h;exact⟨(zl _ _).alloc (zd _) _,by simp,af.new w _ _⟩
theorem ec {w:World}{g:Nat}{t:TypeId}{i e j:Value}(h:af w g t #[i,e,j])(b d c:Value):af (((w.setCell ⟨g,0,none⟩ b).setCell ⟨g,1,none⟩ d).setCell ⟨g,2,none⟩ c) g t #[b,d,c]:=((h.set 0 b).set 1 d).set 2 c
theorem fz {w:World}{g:Nat}{t:TypeId}{i e j:Value}(h:af w g t #[i,e,j])(b c d:Value):(w.setCell ⟨g,0,none⟩ b).cell? ⟨g,0,none⟩=some b/\((w.setCell ⟨g,0,none⟩ b).setCell ⟨g,1,none⟩ c).cell? ⟨g,1,none⟩=some c/\(((w.setCell ⟨g,0,none⟩ b).setCell ⟨g,1,none⟩ c).setCell ⟨g,2,none⟩ d).cell? ⟨g,2,none⟩=some d:=
 ⟨by have:=(h.set 0 b).cell 0;simpa using this,by have:=((h.set 0 b).set 1 c).cell 1;simpa using this,by have:=(((h.set 0 b).set 1 c).set 2 d).cell 2;simpa using this⟩
theorem PY (w:World)(B:Nat)(t:ByteArray)(l:Bool)(h:t.size<=9223372036854775807):dg w B (.mk t l []) (.string t) (.bool l) (.slice none 0 0):=⟨rfl,rfl,h,by simp,none,0,rfl,by simp,by simp,trivial⟩
def FM (w:World)(R:Option Ty)(e:Ending)(w':World):Prop:=
 Below w.heap.size w w'/\match R with
  |none=>e= .returned (.tuple #[.agg #[.int .i64 0,.int .i64 0,.slice none 0 0,.int .i64 0],.int .i64 3])
  |some x=>∃c0 c1 c2 c3,e= .returned (.tuple #[.agg #[c0,c1,c2,c3],.int .i64 0])/\fD w' (w.heap.size<= ·) x c0 c1 c2 c3
theorem fI.append {w:World}{S:Nat->Prop}{t:List Ms}{c:List Value}(d:fI w S t c):∀{s:List Ms} {b:List Value},fI w S s b->fI w S (s++t) (b++c)
 | [],b,h=>by
  have h:b= []:=h;subst h;exact d
 |x::xs,b,h=>by
  obtain⟨j,m,k,e,es,rfl,l,i⟩:=h;exact⟨j,m,k,e,es++c,by simp,l,d.append i⟩
theorem fI.one {w:World}{S:Nat->Prop}:∀{s:List Ms} {b:List Value},fI w S s b->∀u∈b,u.oneCell'=true
 | [],b,h=>by
  have h:b= []:=h;subst h;simp
 |x::xs,b,h=>by
  obtain⟨i,l,j,d,es,rfl,k,e⟩:=h;intro u hu;have c:=Vs k;rcases(by simpa using hu:u=i\/u=l\/u=j\/u=d\/u∈es)with rfl|rfl|rfl|rfl|h
  ·exact c _ (by simp)
  ·exact c _ (by simp)
  ·exact c _ (by simp)
  ·exact c _ (by simp)
  exact e.one u h
theorem px {w:World}{ops:Array Oper}{rest:List Oper}{o:Oper}{a:Act}{Q:Exit->Act->World->Prop}(J:o.guard=none)(s x:Operand)
 (N:o.op= .call {callee:= .builtin .append,args:= #[s,x],argTypes:= #[50,50]}) (r S1:Nat->Prop) (lo aa:Nat) (acc b:List Ms) {v m:Value} (H:a.eval s=v) (z:cd w r lo acc v) (hx:a.eval x=m) (LD:cd w S1 aa b m)
 (YB:∀k,S1 k->r k) (F:∀k,v.ownBlock=some k->¬S1 k) (ab:acc.length+b.length<=1000000) (lN:lo<=w.heap.size)
 (I:∀l d cap w',Hid (d=(acc++b).length)->cd w' r lo (acc++b) (.slice l d cap)->w.grownBy w' v.ownBlock->((Value.slice l d cap).ownBlock=v.ownBlock\/∃k,(Value.slice l d cap).ownBlock=some k/\w.heap.size<=k)->wpList prog ops Q rest (a.put o.dst (.slice l d cap)) w'):wpList prog ops Q (o::rest) a w:=by
 obtain⟨i0,hi,U,cl,cC⟩:=yE FC;obtain⟨M,f1,f2⟩:=LD;by_cases C:b= []
 ·subst C;obtain⟨A,n,cap,rfl,hn,Y,_⟩:=cd.bT z;have R:Src prog i0.size 50 m 0 [] w:=by
   rcases f1.2 with⟨c,_⟩|⟨K,L,Z,c,_⟩
   ·rw[c];exact Src.ofNil w Zo 0
   rw[c];exact Src.ofSlice w Zo _ _ _ [] (by simp) (by simp) (by simp)
  have oN:=Yo (P:=prog) w 50 50 o.type 30 i0 Zo hi A n cap Y m R;refine wpList_plain J fun ad O=> ?_
  unfold Oper.wp;simp[execOp,N,resolve,invoke,builtin,H,hx,oN,Result.andThen];exact O _ _ (I A n cap w (by simpa using hn) (by simpa using z) (World.grownBy.refl _ _) (.inl rfl))
 rcases f1.2 with⟨c,e2⟩|⟨K,L,Z,c,ke,hh,_⟩
 ·exact absurd (zo e2) C
 subst c;have W:0<b.length:=List.length_pos_iff.2 C;obtain⟨D,h1,X⟩:=z;refine xj w J s x 50 N lo 30 i0 _ 4 64 Zo hi U cl cC rfl (by decide) v acc.length D H h1 ⟨K,0,none⟩ b.length L M hx f1.1 (fun j u hu=>f1.cells rfl j u hu) f2.one W (by simp only[maxLen];omega) (by omega) lN w.heap.size rfl ?_;intro g2 G w' uE B i aD;have e:(acc++b).length=acc.length+b.length:=by simp
 refine I _ _ G w' (za e.symm) ⟨D++M,by rw[e];exact uE, ?_⟩ B (by
  rcases i with h|h
  ·exact .inl h.symm
  exact .inr ⟨g2,rfl,by omega⟩)
 have E:∀k,k<w.heap.size->v.ownBlock≠some k->(Value.slice (some ⟨g2,0,none⟩) (acc.length+b.length) G).ownBlock≠some k:=by
  intro k q S e;have e:g2=k:=by simpa[Value.ownBlock]using e
  rcases i with i|i
  ·exact S (by rw[i,e])
  omega
 refine fI.append ?_ ?_
 ·exact f2.ag (fun k q hS=>⟨YB k hS.1,E k q (fun e=>F k e hS.1)⟩) fun p y hS=>zD (B.block _ y (fun e=>F _ e.symm hS.1))
 exact X.ag (fun k q hS=>⟨hS.1,E k q hS.2⟩) fun p y hS=>zD (B.block _ y (fun e=>hS.2 e.symm))
