/- A region that draws its order, whose operations only read (or call what only reads) but for a forced tail: one walk of the lexical order, then the tail. Own law; no program in sight. -/
import Derived.StillTail
import Derived.BigQuiet
import Derived.Test.YtpjgigllldipiaaGreatDoorKA10
set_option linter.all false
namespace Go.Proofs.YtpjgigllldipiaaGreatDoor
open Go
section
def yU:=@getD_replicate_false
def ZC:=@List.mem_range
def Z4:=@Ne.symm
def Yc:=@getD_both
def Yy:=@mem_ready
variable {P:Program} {ops:Array Oper} {md:Region.Mode} {C:World->Prop}
def pX (P:Program)(md:Region.Mode)(ops:Array Oper)(C:World->Prop)(n:Nat)(L:Array Bool->Act->Prop):Nat->Array Bool->Act->Prop
 |0,listed,a=>L listed a
 |f+1,listed,a=>
  Region.ready md ops listed≠ []/\∀i∈Region.ready md ops listed,i<n/\qOp P ops C i (pX P md ops C n L f (listed.setIfInBounds i true)) a
theorem jB {n g:Nat}{L:Array Bool->Act->Prop}{Q':Exit->Act->World->Prop}(c:∀b a w,C w->L b a->wpAny P md ops Q' g b a w):
 ∀(f:Nat) (b:Array Bool) (a:Act) (w:World),C w->pX P md ops C n L f b a->wpAny P md ops Q' (f+g) b a w
 |0,b,a,w,hw,h=>by rw[zQ];exact c _ _ _ hw h
 |f+1,b,a,w,hw,h=>by
  rw[show f+1+g=(f+g)+1 by omega];exact⟨fun j=>absurd j h.1,fun i hi=>wpOp_of_qOp hw (fun d w' k e=>jB c f _ d w' k e) (h.2 i hi).2⟩
theorem Am {n i:Nat}{r:Oper}{v:Value}{L:Array Bool->Act->Prop}(hi:ops[i]?=some r)(D:∀(j:Nat) (o:Oper) s b,ops[j]?=some o->o.op≠ .select s b)
 (A:Region.sinkB md ops n=true) (G:Region.chainB md ops n=true) (J:n<ops.size) (B:i<n)
 (Ca:∀c a,L c a->∀j∈Region.ready md ops c,n<=j):
 ∀(f:Nat) (c:Array Bool) (a:Act),HeadInv md ops n c->
  (∀j m,ops[j]?=some m->j≠i->c.getD j true=false->(∀e∈m.after,Region.binds md e=true->e.on≠i)->r.apart ops m=true)->
  i∈Region.ready md ops c->YieldsIn P ops C r v a->
  pX P md ops C n L f (c.setIfInBounds i true) (a.put r.dst v)->pX P md ops C n L (f+1) c a:=by
 intro f;induction f with
 |zero=>
  intro c a y _ l w H;have q:=(Yy.1 l).1;refine⟨fun h=>(by rw[h]at l;cases l),fun j p=> ?_⟩;have x:j<n:=by
   rcases Zl j n with h|h
   ·exact h
   exact absurd p (tail_waits A G J y _ i rfl B q j h)
  refine⟨x, ?_⟩;by_cases d:j=i
  ·subst d;exact w.qOp hi H
  have:=Ca _ _ H j (ready_mono p d);omega
 |succ f ih=>
  intro c a y K l w H;have q:=(Yy.1 l).1;refine⟨fun h=>(by rw[h]at l;cases l),fun j p=> ?_⟩;have x:j<n:=by
   rcases Zl j n with h|h
   ·exact h
   exact absurd p (tail_waits A G J y _ i rfl B q j h)
  refine⟨x, ?_⟩;by_cases d:j=i
  ·subst d;exact w.qOp hi H
  have u:=(H.2 j (ready_mono p d)).2;obtain⟨E,m,z,N⟩:=Yy.1 p;have S:∀e∈m.after,Region.binds md e=true->e.on≠i:=fun e W M U=>by
   have u:=N e W M;rw[U,Yc q]at u;cases u
  have X:=qOp_put z (K j m z d E S) (fun s b=>D i r s b hi) (fun s b=>D j m s b z) w u;have Jl:∀k ok,ops[k]?=some ok->k≠i->(c.setIfInBounds j true).getD k true=false->
   (∀e∈ok.after,Region.binds md e=true->e.on≠i)->r.apart ops ok=true:=fun k ok O R q Z=>by
   refine K k ok O R ?_ Z;by_cases I:j=k
   ·subst I;exact E
   rw[getD_set_ne true I]at q;exact q
  refine qOp_mono (fun Y F=>ih (c.setIfInBounds j true) Y (y.set p x) Jl (ready_mono l (Z4 d)) F.1 ?_) X;rw[Array.setIfInBounds_comm _ _ d];exact F.2
theorem mV {n g:Nat}{d:Act->Prop}(i:Region.noSelect ops=true)(e:Region.sinkB md ops n=true)(r:Region.chainB md ops n=true)(u:n<ops.size):
 ∀(l:List Oper) (k:Nat) (b:Array Bool) (a:Act),(∀j,j<l.length->l[j]?=ops[k+j]?)->k+l.length=n->HeadInv md ops n b->
 Region.lexHead md ops g l.length k b=true->wpQuiet P ops C d l a->
 pX P md ops C n (fun q s=>Region.seqB md ops g n q=true/\d s) l.length b a
 | [],k,b,a,_,hk,_,hB,h=>by
  have:k=n:=by simpa using hk
  subst this;exact⟨by simpa[Region.lexHead]using hB,h⟩
 |o::l,k,b,a,hl,hk,inv,hB,h=>by
  have c:ops[k]?=some o:=by simpa using(hl 0 (by simp)).symm
  simp only[zB,Region.lexHead,zF]at hB;obtain⟨⟨D,w⟩,z⟩:=hB;have p:k<n:=by simp only[zB]at hk;omega
  have m:k∈Region.ready md ops b:=by simpa using D
  have A:qOp P ops C k (wpQuiet P ops C d l) a:=by unfold qOp;simp only[c];exact h
  obtain⟨v,B,x⟩:=yieldsIn_of_qOp c A;exact Am c (Region.noSelect_spec i) e r u p (fun q s y=>seqB_ready y.1) l.length b a inv (Region.free_spec c w) m B
   (mV i e r u l (k+1) _ _ (fun j E=>by have:=hl (j+1) (by simp;omega);simpa[yv,ZB 1 j]using this) (by simp only[zB]at hk;omega) (inv.set m p) z x)
theorem cy {id:Nat}{Q:Exit->Act->World->Prop}{a:Act}{w:World}{l:List Oper}(n:Nat)(u:P.follows .mixedOrders=true)(o:Region.lexTailB .any l.toArray n=true)
 (h:wpQuiet P l.toArray (fun w'=>∃k,w'=w.drewN k) (fun c=>∀k,wpList P l.toArray Q (l.drop n) c (w.drewN k)) (l.take n) a):(Code.region id l.toArray true).wp P Q a w:=by
 simp only[Region.lexTailB,zF,yk]at o;obtain⟨⟨⟨⟨s,p⟩,q⟩,B⟩,A⟩:=o;have D:n<l.length:=by simpa using p
 have b:(l.take n).length=n:=by simp;omega
 have d:(l.drop n).length=l.toArray.size-n:=by simp
 have x:HeadInv .any l.toArray n (Array.replicate l.toArray.size false):=
  ⟨by simp,fun j C _ m=>(by rw[yU]at m;cases m),fun t _ r=>getD_in (by simpa using r) (yU _ _)⟩
 have H:=mV (md:= .any) (g:=l.toArray.size-n) s q B p (l.take n) 0 _ a (fun j i=>by
  have z:j<n:=by rw[b]at i;exact i
  simp[z]) (by simpa using b) x (by rw[b];exact A) h
 refine wp_region_any u ?_;have:=jB (Q':=Q) (g:=l.toArray.size-n) (fun listed c w' y e=>by
  obtain⟨k,rfl⟩:=y;have:=wpAny_of_seq (md:= .any) (Q':=Q) (l.drop n) n listed c (w.drewN k) (fun j=>by simp[xH]) (by rw[d];exact e.1) (e.2 k);rwa [d]at this) _ _ _ _ ⟨1,rfl⟩ H
 rw[b,show n+(l.toArray.size-n)=l.toArray.size by omega]at this;exact this
end
theorem Fh :∀(n i:Nat) (p p':Nat->Bool),i<n->p i=true->p' i=false->(∀j,j≠i->p' j=p j)->(List.range n).countP p=(List.range n).countP p'+1
 |0,i,p,p',hi,_,_,_=>by omega
 |n+1,i,p,p',hi,h1,h2,h3=>by
  rw[List.range_succ,List.countP_append,List.countP_append];by_cases e:i=n
  ·subst e;have:(List.range i).countP p=(List.range i).countP p':=List.countP_congr fun x hx=>by rw[h3 x (by have:=ZC.1 hx;omega)]
   simp[this,h1,h2]
  rw[Fh n i p p' (by omega) h1 h2 h3];have:p' n=p n:=h3 n (Z4 e);simp[this];omega
section
variable {P:Program} {ops:Array Oper} {md:Region.Mode}
def Region.Pj (md:Region.Mode)(ops:Array Oper):Bool:=
 (List.range ops.size).all fun i=>match ops[i]? with
  |some o=>o.after.all fun e=> !Region.binds md e||decide (e.on<i)
  |none=>false
theorem Ip {listed:Array Bool}(o:Region.Pj md ops=true)(u:listed.size=ops.size):∀(i:Nat),i<ops.size->listed.getD i true=false->∃j,j<ops.size/\j∈Region.ready md ops listed:=by
 intro i;induction i using Nat.strongRecOn with
 |ind i ih=>
  intro hi m;by_cases k:∃j,j<i/\listed.getD j true=false
  ·obtain⟨j,p,q⟩:=k;exact ih j p (by omega) q
  refine⟨i,hi, ?_⟩;have d:=ZK.1 o i (ZC.2 hi);have l:ops[i]?=some ops[i]:=Yb hi;rw[l]at d;refine Yy.2 ⟨m,ops[i],l,fun e r n=> ?_⟩;have c:=Array.all_eq_true'.1 d e r;rw[n]at c;have s:e.on<i:=by simpa using c
  have b:listed.getD e.on true=true:=by
   rcases xr (listed.getD e.on true)with h|h
   ·exact h
   exact absurd ⟨e.on,s,h⟩ k
  have:e.on<listed.size:=by omega
  simp[this]at b⊢;exact b
theorem pY {I:Array Bool->Act->World->Prop}{Q':Exit->Act->World->Prop}(p:Region.Pj md ops=true)
 (n:∀b a w i,i<ops.size->I b a w->i∈Region.ready md ops b->wpOp P ops Q' i (I (b.setIfInBounds i true)) a w)
 (q:∀b a w,(∀i,i<ops.size->b.getD i false=true)->I b a w->Q' .normal a w):
 ∀(f:Nat) (b:Array Bool) (a:Act) (w:World),(List.range ops.size).countP (fun i=> !b.getD i true)=f->b.size=ops.size->I b a w->wpAny P md ops Q' f b a w
 |0,b,a,w,Dm,ej,hI=>by
  have r:∀i,i<ops.size->b.getD i true=true:=fun i hi=>by
   have:=List.countP_eq_zero.1 Dm i (ZC.2 hi);simpa using this
  refine⟨?_,q _ _ _ (fun i hi=> ?_) hI⟩
  ·cases hr:Region.ready md ops b with
   |nil=>rfl
   |cons j l=>
    have d:j∈Region.ready md ops b:=by rw[hr];simp
    obtain⟨c,o,e,_⟩:=Yy.1 d;rw[r j (yj.1 e).1]at c;cases c
  have:=r i hi;have B:i<b.size:=by omega
  simp[B]at this⊢;exact this
 |f+1,b,a,w,Dm,ej,hI=>by
  have s:∃i,i<ops.size/\b.getD i true=false:=by
   have:0<(List.range ops.size).countP (fun i=> !b.getD i true):=by omega
   obtain⟨i,hi,x⟩:=List.countP_pos_iff.1 this;exact⟨i,ZC.1 hi,by simpa using x⟩
  obtain⟨i0,y,u⟩:=s;obtain⟨C,D,k⟩:=Ip p ej i0 y u;refine⟨fun h=>(by rw[h]at k;cases k),fun i hi=> ?_⟩;obtain⟨c,o,e,_⟩:=Yy.1 hi;have m:i<ops.size:=(yj.1 e).1;refine wpOp_mono (fun z w' A=>pY p n q f _ z w' ?_ (by simp[ej]) A) (n b a w i m hI hi);have:=Fh ops.size i (fun i=> !b.getD i true) (fun j=> !(b.setIfInBounds i true).getD j true) m (by simp[c]) (by
   have:i<b.size:=by omega
   simp[this]) (fun j d=>by simp[Array.getElem?_setIfInBounds_ne (Z4 d)])
  omega
theorem An {id:Nat}{Q:Exit->Act->World->Prop}{a:Act}{w:World}{l:List Oper}(e:P.follows .mixedOrders=true)(j:Region.Pj .any l.toArray=true)(I:Array Bool->Act->World->Prop)
 (c:I (Array.replicate l.toArray.size false) a w.drew)
 (h:∀b a w i,i<l.toArray.size->I b a w->i∈Region.ready .any l.toArray b->wpOp P l.toArray Q i (I (b.setIfInBounds i true)) a w)
 (k:∀b a w,(∀i,i<l.toArray.size->b.getD i false=true)->I b a w->Q .normal a w):(Code.region id l.toArray true).wp P Q a w:=by
 have d:(List.range l.toArray.size).countP (fun i=> !(Array.replicate l.toArray.size false).getD i true)=l.toArray.size:=by
  have:(List.range l.toArray.size).countP (fun i=> !(Array.replicate l.toArray.size false).getD i true)=(List.range l.toArray.size).length:=by
   rw[List.countP_eq_length];intro i hi;have:=ZC.1 hi;simp[show i<l.length by simpa using this]
  simpa using this
 exact wp_region_any e (pY j h k _ _ a _ d (by simp) c)
end
theorem aP {P:Program}{ops:Array Oper}{Q:Exit->Act->World->Prop}{i:Nat}{K:Act->World->Prop}{a:Act}{w:World}{o:Oper}(hi:ops[i]?=some o)(b:o.guard=none)(h:o.wp P a w K Q):wpOp P ops Q i K a w:=by
 unfold wpOp;simp only[hi];have c:Region.wanted o (yielded ops a.tmps)=true:=by simp[Region.wanted,b]
 rw[zl c];exact .inl h
theorem dq {listed:Array Bool}{i k:Nat}(h:(listed.setIfInBounds i true).getD k false=true):k=i\/listed.getD k false=true:=by
 by_cases e:i=k
 ·exact .inl e.symm
 rw[getD_set_ne false e]at h;exact .inr h
theorem Iq {listed:Array Bool}{i:Nat}(h:i<listed.size):(listed.setIfInBounds i true).getD i false=true:=by simp[h]
theorem bL {listed:Array Bool}{i k:Nat}(h:i≠k):(listed.setIfInBounds i true).getD k false=listed.getD k false:=getD_set_ne false h
open Go Go.RowKit
section
variable {P:Program} {ops:Array Oper} {C:World->Prop} {Q:Act->Prop} {o:Oper} {rest:List Oper} {a:Act}
theorem sF (v:Value)(b:Region.wanted o (yielded ops a.tmps)=true)(h:∀w,C w->o.quietAt P a C w v)(c:wpQuiet P ops C Q rest (a.put o.dst v)):wpQuiet P ops C Q (o::rest) a:=by
 unfold wpQuiet;rw[zl b];exact⟨v,h,c⟩
theorem ar (v:Value)(b:Region.wanted o (yielded ops a.tmps)=true)(h:∀w,C w->(execOp a.eval o).run P w= .ok (.value v) w)(c:wpQuiet P ops C Q rest (a.put o.dst v)):wpQuiet P ops C Q (o::rest) a:=
 sF v b (fun w d=>by unfold Oper.quietAt;rw[h w d];exact⟨rfl,rfl⟩) c
theorem eE {W:World}(f:FuncId)(args:Array Value)(v:Value)(h:Region.wanted o (yielded ops a.tmps)=true)(i:∀w,(execOp a.eval o).run P w= .ok (.enter f args) w)
 (k:∀w,Below W.heap.size W w->Calls P f args w fun e w'=>e= .returned v/\Below w.heap.size w w') (c:wpQuiet P ops (fun w'=>Below W.heap.size W w') Q rest (a.put o.dst v)):wpQuiet P ops (fun w'=>Below W.heap.size W w') Q (o::rest) a:=
 sF v h (fun w b=>by
  unfold Oper.quietAt;rw[i w];exact⟨rfl,(k w b).mono fun e w' ⟨j,d⟩=>⟨j,b.trans (d.mono b.size)⟩⟩) c
theorem fP {id:Nat}{Q:Exit->Act->World->Prop}{a:Act}{w:World}{l:List Oper}(b:P.follows .mixedOrders=true)(d:Region.lexB .any l.toArray=true)
 (h:wpQuiet P l.toArray (fun w'=>Below w.heap.size w w') (fun c=>∀w',Below w.heap.size w w'->Q .normal c w') l a):(Code.region id l.toArray true).wp P Q a w:=
 wp_region_quiet (C:=fun w'=>Below w.heap.size w w') b d (zq _ _).drew (by simpa using h)
theorem mW {id:Nat}{Q:Exit->Act->World->Prop}{a:Act}{w:World}{l:List Oper}(n:Nat)(s:P.follows .mixedOrders=true)(m:Region.lexTailB .any l.toArray n=true)
 (h:wpQuiet P l.toArray (fun w'=>Below w.heap.size w w') (fun c=>∀w',Below w.heap.size w w'->wpList P l.toArray Q (l.drop n) c w') (l.take n) a):(Code.region id l.toArray true).wp P Q a w:=by
 simp only[Region.lexTailB,zF,yk]at m;obtain⟨⟨⟨⟨r,o⟩,p⟩,A⟩,z⟩:=m;have C:n<l.length:=by simpa using o
 have b:(l.take n).length=n:=by simp;omega
 have d:(l.drop n).length=l.toArray.size-n:=by simp
 have u:HeadInv .any l.toArray n (Array.replicate l.toArray.size false):=
  ⟨by simp,fun j B _ k=>(by rw[yU]at k;cases k),fun t _ q=>getD_in (by simpa using q) (yU _ _)⟩
 have H:=mV (md:= .any) (g:=l.toArray.size-n) r p A o (l.take n) 0 _ a (fun j i=>by
  have y:j<n:=by rw[b]at i;exact i
  simp[y]) (by simpa using b) u (by rw[b];exact z) h
 refine wp_region_any s ?_;have:=jB (Q':=Q) (g:=l.toArray.size-n) (fun listed c w' x e=>by
  have:=wpAny_of_seq (md:= .any) (Q':=Q) (l.drop n) n listed c w' (fun j=>by simp[xH]) (by rw[d];exact e.1) (e.2 w' x);rwa [d]at this) _ _ _ _ ((zq _ _).drew) H
 rw[b,show n+(l.toArray.size-n)=l.toArray.size by omega]at this;exact this
end
open Go.RowKit
theorem pZ {w:World}{ops:Array Oper}{o:Oper}{a:Act}{K:Act->World->Prop}{Q:Exit->Act->World->Prop}{F:Prop}(D:o.guard=none)(s x:Operand)
 (N:o.op= .call {callee:= .builtin .append,args:= #[s,x],argTypes:= #[26,26]}) (c:Nat) (acc:List It) {v:Value} (B:a.eval s=v) (U:Acc w c acc v) (y:It) {l i h:Value}
 (z:fV w (fun k=>c<=k/\v.ownBlock≠some k) y l i h) (g:Nat) (hx:a.eval x= .slice (some ⟨g,0,none⟩) 1 1) (C:w.cell? ⟨g,0,none⟩=some l) (W:w.cell? ⟨g,1,none⟩=some i) (E:w.cell? ⟨g,2,none⟩=some h)
 (X:acc.length<=1000000) (O:c<=w.heap.size)
 (H:∀b m cap w',Hid (m=acc.length+1)->Acc w' c (acc++ [y]) (.slice (some ⟨b,0,none⟩) m cap)->w.grownBy w' v.ownBlock->c<=b->K (a.put o.dst (.slice (some ⟨b,0,none⟩) m cap)) w'):
 if Region.wanted o (yielded ops a.tmps)=true then Oper.wp Tryz.prog o a w K Q else F:=by
 obtain⟨i0,hi,R,G,A⟩:=yQ BO;obtain⟨r,M,S⟩:=U;refine step_append_lies w D s x 26 N c 28 i0 _ 3 48 Tryz.underlying26 hi R G A rfl (by decide) v acc.length r B M ⟨g,0,none⟩ 1 1 [l,i,h] hx rfl ?_ (afB z) (by decide) (by simp only[maxLen];omega) (by omega) O w.heap.size rfl ?_
 ·intro j u hu;have L:∀j,(⟨g,0,none⟩:Addr).add j=⟨g,j,none⟩:=by intro j;unfold Addr.add;split<;>simp_all
  rw[L];match j,hu with
  |0,hu=>simp at hu;subst hu;exact C
  |1,hu=>simp at hu;subst hu;exact W
  |2,hu=>simp at hu;subst hu;exact E
 intro b cap w' q n d Z;have J:=Ik q b rfl;refine H b _ cap w' (za rfl) ⟨r++ [l,i,h],by rw[zo];exact q, ?_⟩ n J;refine((S.snoc z).ag (fun k Y hS=>⟨hS.1, ?_⟩) fun p I hS=>zK (n.block _ I (fun e=>hS.2 e.symm)));intro e;have e:b=k:=by simpa[Value.ownBlock]using e
 rcases d with d|d
 ·exact hS.2 (by rw[d,e])
 omega
theorem j7 {w:World}{g:Nat}{t:TypeId}{a b c:Value}(h:af w g t #[a,b,c]):w.cell? ⟨g,0,none⟩=some a/\w.cell? ⟨g,1,none⟩=some b/\w.cell? ⟨g,2,none⟩=some c:=⟨h.cell 0,h.cell 1,h.cell 2⟩
theorem abA {w W:World}{j i b t3 d c e:Value}(h:(w.alloc (.cells #[j,i,b,t3] 64)).alloc (.cells #[d,c,e] 28)=W):
 W.heap.size=w.heap.size+2/\Below w.heap.size w W/\af W w.heap.size 64 #[j,i,b,t3]/\af W (w.heap.size+1) 28 #[d,c,e]:=by
 subst h;exact⟨by simp,((zq _ w).alloc (zi _) _).alloc (by simp) _,(af.new w _ _).alloc _,af.at_ (by simp)⟩
def ve (w w':World)(x:It)(er:Int)(e:Ending):Prop:=
 Below w.heap.size w w'/\∃c0 c1 c2,e= .returned (.tuple #[.agg #[c0,c1,c2],.int .i64 er])/\fV w' (w.heap.size<= ·) x c0 c1 c2
theorem mX (w:World)(S:Nat->Prop):fV w S i' (.string ⟨#[]⟩) (.bool false) (.slice none 0 0):=fV.text false (by simp[ByteArray.size])
theorem afE {w W:World}{b c d:Value}(h:W=w.alloc (.cells #[b,c,d] 28)):Below w.heap.size w W/\W.heap.size=w.heap.size+1/\af W w.heap.size 28 #[b,c,d]:=by
 subst h;exact⟨(zq _ _).alloc (zi _) _,by simp,af.new w _ _⟩
theorem dV {w:World}{g:Nat}{t:TypeId}{j e i:Value}(h:af w g t #[j,e,i])(d c b:Value):af (((w.setCell ⟨g,0,none⟩ d).setCell ⟨g,1,none⟩ c).setCell ⟨g,2,none⟩ b) g t #[d,c,b]:=((h.set 0 d).set 1 c).set 2 b
theorem fq {w:World}{g:Nat}{t:TypeId}{j e i:Value}(h:af w g t #[j,e,i])(b c d:Value):(w.setCell ⟨g,0,none⟩ b).cell? ⟨g,0,none⟩=some b/\((w.setCell ⟨g,0,none⟩ b).setCell ⟨g,1,none⟩ c).cell? ⟨g,1,none⟩=some c/\(((w.setCell ⟨g,0,none⟩ b).setCell ⟨g,1,none⟩ c).setCell ⟨g,2,none⟩ d).cell? ⟨g,2,none⟩=some d:=
 ⟨by have:=(h.set 0 b).cell 0;simpa using this,by have:=((h.set 0 b).set 1 c).cell 1;simpa using this,by have:=(((h.set 0 b).set 1 c).set 2 d).cell 2;simpa using this⟩
theorem Pk (w:World)(B:Nat)(t:ByteArray)(l:Bool)(h:t.size<=9223372036854775807):bW w B (.mk t l []) (.string t) (.bool l) (.slice none 0 0):=⟨rfl,rfl,h,by simp,none,0,rfl,by simp,by simp,trivial⟩
def Fi (w:World)(R:Option Ty)(e:Ending)(w':World):Prop:=
 Below w.heap.size w w'/\match R with
  |none=>e= .returned (.tuple #[.agg #[.int .i64 0,.int .i64 0,.slice none 0 0,.int .i64 0],.int .i64 3])
  |some x=>∃c0 c1 c2 c3,e= .returned (.tuple #[.agg #[c0,c1,c2,c3],.int .i64 0])/\fy w' (w.heap.size<= ·) x c0 c1 c2 c3
theorem fD.append {w:World}{S:Nat->Prop}{t:List Ms}{c:List Value}(d:fD w S t c):∀{s:List Ms} {b:List Value},fD w S s b->fD w S (s++t) (b++c)
 | [],b,h=>by
  have h:b= []:=h;subst h;exact d
 |x::xs,b,h=>by
  obtain⟨k,i,j,l,es,rfl,m,e⟩:=h;exact⟨k,i,j,l,es++c,by simp,m,d.append e⟩
theorem fD.one {w:World}{S:Nat->Prop}:∀{s:List Ms} {b:List Value},fD w S s b->∀u∈b,u.oneCell'=true
 | [],b,h=>by
  have h:b= []:=h;subst h;simp
 |x::xs,b,h=>by
  obtain⟨j,e,i,k,es,rfl,l,d⟩:=h;intro u hu;have c:=UN l;rcases(by simpa using hu:u=j\/u=e\/u=i\/u=k\/u∈es)with rfl|rfl|rfl|rfl|h
  ·exact c _ (by simp)
  ·exact c _ (by simp)
  ·exact c _ (by simp)
  ·exact c _ (by simp)
  exact d.one u h
theorem jC {w:World}{ops:Array Oper}{rest:List Oper}{o:Oper}{a:Act}{Q:Exit->Act->World->Prop}(J:o.guard=none)(s x:Operand)
 (N:o.op= .call {callee:= .builtin .append,args:= #[s,x],argTypes:= #[43,43]}) (C S1:Nat->Prop) (q QK:Nat) (acc b:List Ms) {v l:Value} (F:a.eval s=v) (D:cP w C q acc v) (hx:a.eval x=l) (K7:cP w S1 QK b l)
 (U:∀k,S1 k->C k) (I:∀k,v.ownBlock=some k->¬S1 k) (ad:acc.length+b.length<=1000000) (pj:q<=w.heap.size)
 (K:∀r d cap w',Hid (d=(acc++b).length)->cP w' C q (acc++b) (.slice r d cap)->w.grownBy w' v.ownBlock->((Value.slice r d cap).ownBlock=v.ownBlock\/∃k,(Value.slice r d cap).ownBlock=some k/\w.heap.size<=k)->wpList Tryz.prog ops Q rest (a.put o.dst (.slice r d cap)) w'):wpList Tryz.prog ops Q (o::rest) a w:=by
 obtain⟨i0,hi,eo,W,R⟩:=yQ E3;obtain⟨G,f1,f2⟩:=K7;by_cases z:b= []
 ·subst z;obtain⟨A,n,cap,rfl,hn,aa,_⟩:=cP.df D;have Y:Src Tryz.prog i0.size 43 l 0 [] w:=by
   rcases f1.2 with⟨c,_⟩|⟨H,M,S,c,_⟩
   ·rw[c];exact Src.ofNil w Zy 0
   rw[c];exact Src.ofSlice w Zy _ _ _ [] (by simp) (by simp) (by simp)
  have nV:=YB (P:=Tryz.prog) w 43 43 o.type 30 i0 Zy hi A n cap aa l Y;refine wpList_plain J fun ab Xt=> ?_
  unfold Oper.wp;simp[execOp,N,resolve,invoke,builtin,F,hx,nV,Result.andThen];exact Xt _ _ (K A n cap w (by simpa using hn) (by simpa using D) (World.grownBy.refl _ _) (.inl rfl))
 rcases f1.2 with⟨c,e2⟩|⟨H,M,S,c,jP,hh,_⟩
 ·exact absurd (zt e2) z
 subst c;have h0:0<b.length:=List.length_pos_iff.2 z;obtain⟨O,Z,h2⟩:=D;refine xm w J s x 43 N q 30 i0 _ 4 64 Zy hi eo W R rfl (by decide) v acc.length O F Z ⟨H,0,none⟩ b.length M G hx f1.1 (fun j u hu=>f1.cells rfl j u hu) f2.one h0 (by simp only[maxLen];omega) (by omega) pj w.heap.size rfl ?_;intro g2 E w' GH y i aD;have e:(acc++b).length=acc.length+b.length:=by simp
 refine K _ _ E w' (za e.symm) ⟨O++G,by rw[e];exact GH, ?_⟩ y (by
  rcases i with h|h
  ·exact .inl h.symm
  exact .inr ⟨g2,rfl,by omega⟩)
 have L:∀k,k<w.heap.size->v.ownBlock≠some k->(Value.slice (some ⟨g2,0,none⟩) (acc.length+b.length) E).ownBlock≠some k:=by
  intro k m X e;have e:g2=k:=by simpa[Value.ownBlock]using e
  rcases i with i|i
  ·exact X (by rw[i,e])
  omega
 refine fD.append ?_ ?_
 ·exact f2.ag (fun k m hS=>⟨U k hS.1,L k m (fun e=>I k e hS.1)⟩) fun p B hS=>zK (y.block _ B (fun e=>I _ e.symm hS.1))
 exact h2.ag (fun k m hS=>⟨hS.1,L k m hS.2⟩) fun p B hS=>zK (y.block _ B (fun e=>hS.2 e.symm))
def rq (w:World)(B:Nat)(v:Value)(l:List bF):Prop:=∃A cap,v= .slice A l.length cap/\l.length<=cap/\cap<=9223372036854775807/\∀j (h:j<l.length),∃g o,A=some ⟨g,o,none⟩/\g<B/\w.cell? ⟨g,o+j*3,none⟩=some (.int .u64 l[j].id)/\w.cell? ⟨g,o+j*3+1,none⟩=some (.string l[j].name)/\w.cell? ⟨g,o+j*3+2,none⟩=some (.string l[j].ty)
theorem rq.ag {w w':World}{B d:Nat}{v:Value}{l:List bF}(h:rq w B v l)(x:B<=d)(c:∀p:Addr,p.block<B->w'.cell? p=w.cell? p):rq w' d v l:=by
 obtain⟨A,cap,r,i,u,e⟩:=h;refine⟨A,cap,r,i,u,fun j s=> ?_⟩;obtain⟨g,o,q,b,n,k,m⟩:=e j s;exact⟨g,o,q,by omega,(c _ b).trans n,(c _ b).trans k,(c _ b).trans m⟩
theorem rq.below {w w':World}{B:Nat}{v:Value}{l:List bF}(h:rq w B v l)(b:Below B w w'):rq w' B v l:=h.ag (zi _) (fun _ c=>b.cell c)
theorem rq.mono {w:World}{B b:Nat}{v:Value}{l:List bF}(h:rq w B v l)(c:B<=b):rq w b v l:=h.ag c (fun _ _=>rfl)
theorem rq.df {w:World}{B:Nat}{v:Value}{l:List bF}(h:rq w B v l):∃A n cap,v= .slice A n cap/\Hid (n=l.length)/\n<=cap/\cap<=9223372036854775807:=by
 obtain⟨A,cap,d,c,b,_⟩:=h;exact⟨A,_,cap,d,za rfl,c,b⟩
theorem rq.at_ {w:World}{B:Nat}{A:Option Addr}{n cap:Nat}{l:List bF}(h:rq w B (.slice A n cap) l){j:Nat}(d:j<l.length):∃g o,A=some ⟨g,o,none⟩/\g<B/\w.cell? ⟨g,o+j*3,none⟩=some (.int .u64 l[j].id)/\w.cell? ⟨g,o+j*3+1,none⟩=some (.string l[j].name)/\w.cell? ⟨g,o+j*3+2,none⟩=some (.string l[j].ty):=by
 obtain⟨i,k,c,e,m,b⟩:=h;injection c with hA _ _;subst hA;exact b j d
theorem rq.nil (w:World)(B:Nat):rq w B (.slice none 0 0) []:=⟨none,0,rfl,by simp,by simp,fun j b=>by simp at b⟩
def CS (w:World)(B:Nat)(v:Value)(l:List Nat):Prop:=∃A cap,v= .slice A l.length cap/\l.length<=cap/\cap<=9223372036854775807/\∀j (h:j<l.length),∃g o,A=some ⟨g,o,none⟩/\g<B/\w.cell? ⟨g,o+j,none⟩=some (.int .u8 (l[j]:Nat))
theorem CS.ag {w w':World}{B b:Nat}{v:Value}{l:List Nat}(h:CS w B v l)(s:B<=b)(q:∀p:Addr,p.block<B->w'.cell? p=w.cell? p):CS w' b v l:=by
 obtain⟨A,cap,k,d,r,c⟩:=h;refine⟨A,cap,k,d,r,fun j n=> ?_⟩;obtain⟨g,o,i,m,e⟩:=c j n;exact⟨g,o,i,by omega,(q _ m).trans e⟩
theorem CS.below {w w':World}{B:Nat}{v:Value}{l:List Nat}(h:CS w B v l)(b:Below B w w'):CS w' B v l:=h.ag (zi _) (fun _ c=>b.cell c)
theorem CS.df {w:World}{B:Nat}{v:Value}{l:List Nat}(h:CS w B v l):∃A n cap,v= .slice A n cap/\Hid (n=l.length)/\n<=cap/\cap<=9223372036854775807:=by
 obtain⟨A,cap,d,c,b,_⟩:=h;exact⟨A,_,cap,d,za rfl,c,b⟩
theorem CS.at_ {w:World}{B:Nat}{A:Option Addr}{n cap:Nat}{l:List Nat}(h:CS w B (.slice A n cap) l){j:Nat}(d:j<l.length):∃g o,A=some ⟨g,o,none⟩/\g<B/\w.cell? ⟨g,o+j,none⟩=some (.int .u8 (l[j]:Nat)):=by
 obtain⟨i,k,c,e,m,b⟩:=h;injection c with hA _ _;subst hA;exact b j d
theorem CS.nil (w:World)(B:Nat):CS w B (.slice none 0 0) []:=⟨none,0,rfl,by simp,by simp,fun j b=>by simp at b⟩
