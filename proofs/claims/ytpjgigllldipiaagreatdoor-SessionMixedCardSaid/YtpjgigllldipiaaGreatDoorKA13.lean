/- A region that draws its order, whose operations only read (or call what only reads) but for a forced tail: one walk of the lexical order, then the tail. Own law; no program in sight. -/
import Derived.StillTail
import Derived.BigQuiet
import Derived.Test.YtpjgigllldipiaaGreatDoorKA10
set_option linter.all false
namespace Go.Proofs.YtpjgigllldipiaaGreatDoor
open Go
section
def yS:=@getD_replicate_false
def ZB:=@List.mem_range
def Z4:=@Ne.symm
def Yc:=@getD_both
def Yx:=@mem_ready
variable {P:Program} {ops:Array Oper} {md:Region.Mode} {C:World->Prop}
def pP (P:Program)(md:Region.Mode)(ops:Array Oper)(C:World->Prop)(n:Nat)(L:Array Bool->Act->Prop):Nat->Array Bool->Act->Prop
 |0,listed,a=>L listed a
 |f+1,listed,a=>
  Region.ready md ops listed≠ []/\∀i∈Region.ready md ops listed,i<n/\qOp P ops C i (pP P md ops C n L f (listed.setIfInBounds i true)) a
theorem jA {n g:Nat}{L:Array Bool->Act->Prop}{Q':Exit->Act->World->Prop}(c:∀b a w,C w->L b a->wpAny P md ops Q' g b a w):
 ∀(f:Nat) (b:Array Bool) (a:Act) (w:World),C w->pP P md ops C n L f b a->wpAny P md ops Q' (f+g) b a w
 |0,b,a,w,hw,h=>by rw[zT];exact c _ _ _ hw h
 |f+1,b,a,w,hw,h=>by
  rw[show f+1+g=(f+g)+1 by omega];exact⟨fun d=>absurd d h.1,fun i hi=>wpOp_of_qOp hw (fun k w' j e=>jA c f _ k w' j e) (h.2 i hi).2⟩
theorem Ad {n i:Nat}{r:Oper}{v:Value}{L:Array Bool->Act->Prop}(hi:ops[i]?=some r)(F:∀(j:Nat) (o:Oper) s b,ops[j]?=some o->o.op≠ .select s b)
 (A:Region.sinkB md ops n=true) (K:Region.chainB md ops n=true) (G:n<ops.size) (D:i<n)
 (M:∀c a,L c a->∀j∈Region.ready md ops c,n<=j):
 ∀(f:Nat) (c:Array Bool) (a:Act),HeadInv md ops n c->
  (∀j m,ops[j]?=some m->j≠i->c.getD j true=false->(∀e∈m.after,Region.binds md e=true->e.on≠i)->r.apart ops m=true)->
  i∈Region.ready md ops c->YieldsIn P ops C r v a->
  pP P md ops C n L f (c.setIfInBounds i true) (a.put r.dst v)->pP P md ops C n L (f+1) c a:=by
 intro f;induction f with
 |zero=>
  intro c a y _ d w H;have p:=(Yx.1 d).1;refine⟨fun h=>(by rw[h]at d;cases d),fun j q=> ?_⟩;have u:j<n:=by
   rcases Zl j n with h|h
   ·exact h
   exact absurd q (tail_waits A K G y _ i rfl D p j h)
  refine⟨u, ?_⟩;by_cases l:j=i
  ·subst l;exact w.qOp hi H
  have:=M _ _ H j (ready_mono q l);omega
 |succ f ih=>
  intro c a y I d w H;have p:=(Yx.1 d).1;refine⟨fun h=>(by rw[h]at d;cases d),fun j q=> ?_⟩;have u:j<n:=by
   rcases Zl j n with h|h
   ·exact h
   exact absurd q (tail_waits A K G y _ i rfl D p j h)
  refine⟨u, ?_⟩;by_cases l:j=i
  ·subst l;exact w.qOp hi H
  have x:=(H.2 j (ready_mono q l)).2;obtain⟨E,m,z,N⟩:=Yx.1 q;have Z:∀e∈m.after,Region.binds md e=true->e.on≠i:=fun e he S aa=>by
   have x:=N e he S;rw[aa,Yc p]at x;cases x
  have X:=qOp_put z (I j m z l E Z) (fun s b=>F i r s b hi) (fun s b=>F j m s b z) w x;have Y:∀k ok,ops[k]?=some ok->k≠i->(c.setIfInBounds j true).getD k true=false->
   (∀e∈ok.after,Region.binds md e=true->e.on≠i)->r.apart ops ok=true:=fun k ok W U p O=>by
   refine I k ok W U ?_ O;by_cases B:j=k
   ·subst B;exact E
   rw[getD_set_ne true B]at p;exact p
  refine qOp_mono (fun R J=>ih (c.setIfInBounds j true) R (y.set q u) Y (ready_mono d (Z4 l)) J.1 ?_) X;rw[Array.setIfInBounds_comm _ _ l];exact J.2
theorem mQ {n g:Nat}{d:Act->Prop}(m:Region.noSelect ops=true)(i:Region.sinkB md ops n=true)(s:Region.chainB md ops n=true)(p:n<ops.size):
 ∀(l:List Oper) (k:Nat) (b:Array Bool) (a:Act),(∀j,j<l.length->l[j]?=ops[k+j]?)->k+l.length=n->HeadInv md ops n b->
 Region.lexHead md ops g l.length k b=true->wpQuiet P ops C d l a->
 pP P md ops C n (fun r e=>Region.seqB md ops g n r=true/\d e) l.length b a
 | [],k,b,a,_,hk,_,hB,h=>by
  have:k=n:=by simpa using hk
  subst this;exact⟨by simpa[Region.lexHead]using hB,h⟩
 |o::l,k,b,a,hl,hk,inv,hB,h=>by
  have c:ops[k]?=some o:=by simpa using(hl 0 (by simp)).symm
  simp only[zD,Region.lexHead,zF]at hB;obtain⟨⟨A,z⟩,x⟩:=hB;have q:k<n:=by simp only[zD]at hk;omega
  have u:k∈Region.ready md ops b:=by simpa using A
  have y:qOp P ops C k (wpQuiet P ops C d l) a:=by unfold qOp;simp only[c];exact h
  obtain⟨v,B,w⟩:=yieldsIn_of_qOp c y;exact Ad c (Region.noSelect_spec m) i s p q (fun r e D=>seqB_ready D.1) l.length b a inv (Region.free_spec c z) u B
   (mQ m i s p l (k+1) _ _ (fun j E=>by have:=hl (j+1) (by simp;omega);simpa[yw,ZA 1 j]using this) (by simp only[zD]at hk;omega) (inv.set u q) x w)
theorem cy {id:Nat}{Q:Exit->Act->World->Prop}{a:Act}{w:World}{l:List Oper}(n:Nat)(z:P.follows .mixedOrders=true)(p:Region.lexTailB .any l.toArray n=true)
 (h:wpQuiet P l.toArray (fun w'=>∃k,w'=w.drewN k) (fun c=>∀k,wpList P l.toArray Q (l.drop n) c (w.drewN k)) (l.take n) a):(Code.region id l.toArray true).wp P Q a w:=by
 simp only[Region.lexTailB,zF,yj]at p;obtain⟨⟨⟨⟨y,i⟩,r⟩,A⟩,u⟩:=p;have D:n<l.length:=by simpa using i
 have b:(l.take n).length=n:=by simp;omega
 have d:(l.drop n).length=l.toArray.size-n:=by simp
 have x:HeadInv .any l.toArray n (Array.replicate l.toArray.size false):=
  ⟨by simp,fun j C _ e=>(by rw[yS]at e;cases e),fun t _ s=>getD_in (by simpa using s) (yS _ _)⟩
 have H:=mQ (md:= .any) (g:=l.toArray.size-n) y r A i (l.take n) 0 _ a (fun j m=>by
  have B:j<n:=by rw[b]at m;exact m
  simp[B]) (by simpa using b) x (by rw[b];exact u) h
 refine wp_region_any z ?_;have:=jA (Q':=Q) (g:=l.toArray.size-n) (fun listed c w' q o=>by
  obtain⟨k,rfl⟩:=q;have:=wpAny_of_seq (md:= .any) (Q':=Q) (l.drop n) n listed c (w.drewN k) (fun j=>by simp[xE]) (by rw[d];exact o.1) (o.2 k);rwa [d]at this) _ _ _ _ ⟨1,rfl⟩ H
 rw[b,show n+(l.toArray.size-n)=l.toArray.size by omega]at this;exact this
end
theorem E4 :∀(n i:Nat) (p p':Nat->Bool),i<n->p i=true->p' i=false->(∀j,j≠i->p' j=p j)->(List.range n).countP p=(List.range n).countP p'+1
 |0,i,p,p',hi,_,_,_=>by omega
 |n+1,i,p,p',hi,h1,h2,h3=>by
  rw[List.range_succ,List.countP_append,List.countP_append];by_cases e:i=n
  ·subst e;have:(List.range i).countP p=(List.range i).countP p':=List.countP_congr fun x hx=>by rw[h3 x (by have:=ZB.1 hx;omega)]
   simp[this,h1,h2]
  rw[E4 n i p p' (by omega) h1 h2 h3];have:p' n=p n:=h3 n (Z4 e);simp[this];omega
section
variable {P:Program} {ops:Array Oper} {md:Region.Mode}
def Region.O4 (md:Region.Mode)(ops:Array Oper):Bool:=
 (List.range ops.size).all fun i=>match ops[i]? with
  |some o=>o.after.all fun e=> !Region.binds md e||decide (e.on<i)
  |none=>false
theorem H7 {listed:Array Bool}(m:Region.O4 md ops=true)(u:listed.size=ops.size):∀(i:Nat),i<ops.size->listed.getD i true=false->∃j,j<ops.size/\j∈Region.ready md ops listed:=by
 intro i;induction i using Nat.strongRecOn with
 |ind i ih=>
  intro hi s;by_cases c:∃j,j<i/\listed.getD j true=false
  ·obtain⟨j,q,o⟩:=c;exact ih j q (by omega) o
  refine⟨i,hi, ?_⟩;have k:=ZK.1 m i (ZB.2 hi);have l:ops[i]?=some ops[i]:=Ya hi;rw[l]at k;refine Yx.2 ⟨s,ops[i],l,fun e p n=> ?_⟩;have b:=Array.all_eq_true'.1 k e p;rw[n]at b;have r:e.on<i:=by simpa using b
  have d:listed.getD e.on true=true:=by
   rcases xk (listed.getD e.on true)with h|h
   ·exact h
   exact absurd ⟨e.on,r,h⟩ c
  have:e.on<listed.size:=by omega
  simp[this]at d⊢;exact d
theorem pQ {I:Array Bool->Act->World->Prop}{Q':Exit->Act->World->Prop}(q:Region.O4 md ops=true)
 (k:∀b a w i,i<ops.size->I b a w->i∈Region.ready md ops b->wpOp P ops Q' i (I (b.setIfInBounds i true)) a w)
 (m:∀b a w,(∀i,i<ops.size->b.getD i false=true)->I b a w->Q' .normal a w):
 ∀(f:Nat) (b:Array Bool) (a:Act) (w:World),(List.range ops.size).countP (fun i=> !b.getD i true)=f->b.size=ops.size->I b a w->wpAny P md ops Q' f b a w
 |0,b,a,w,De,fC,hI=>by
  have r:∀i,i<ops.size->b.getD i true=true:=fun i hi=>by
   have:=List.countP_eq_zero.1 De i (ZB.2 hi);simpa using this
  refine⟨?_,m _ _ _ (fun i hi=> ?_) hI⟩
  ·cases hr:Region.ready md ops b with
   |nil=>rfl
   |cons j l=>
    have e:j∈Region.ready md ops b:=by rw[hr];simp
    obtain⟨c,o,d,_⟩:=Yx.1 e;rw[r j (yl.1 d).1]at c;cases c
  have:=r i hi;have B:i<b.size:=by omega
  simp[B]at this⊢;exact this
 |f+1,b,a,w,De,fC,hI=>by
  have z:∃i,i<ops.size/\b.getD i true=false:=by
   have:0<(List.range ops.size).countP (fun i=> !b.getD i true):=by omega
   obtain⟨i,hi,u⟩:=List.countP_pos_iff.1 this;exact⟨i,ZB.1 hi,by simpa using u⟩
  obtain⟨i0,x,y⟩:=z;obtain⟨C,D,p⟩:=H7 q fC i0 x y;refine⟨fun h=>(by rw[h]at p;cases p),fun i hi=> ?_⟩;obtain⟨c,o,d,_⟩:=Yx.1 hi;have n:i<ops.size:=(yl.1 d).1;refine wpOp_mono (fun s w' A=>pQ q k m f _ s w' ?_ (by simp[fC]) A) (k b a w i n hI hi);have:=E4 ops.size i (fun i=> !b.getD i true) (fun j=> !(b.setIfInBounds i true).getD j true) n (by simp[c]) (by
   have:i<b.size:=by omega
   simp[this]) (fun j e=>by simp[Array.getElem?_setIfInBounds_ne (Z4 e)])
  omega
theorem Ae {id:Nat}{Q:Exit->Act->World->Prop}{a:Act}{w:World}{l:List Oper}(c:P.follows .mixedOrders=true)(j:Region.O4 .any l.toArray=true)(I:Array Bool->Act->World->Prop)
 (d:I (Array.replicate l.toArray.size false) a w.drew)
 (e:∀b a w i,i<l.toArray.size->I b a w->i∈Region.ready .any l.toArray b->wpOp P l.toArray Q i (I (b.setIfInBounds i true)) a w)
 (h:∀b a w,(∀i,i<l.toArray.size->b.getD i false=true)->I b a w->Q .normal a w):(Code.region id l.toArray true).wp P Q a w:=by
 have k:(List.range l.toArray.size).countP (fun i=> !(Array.replicate l.toArray.size false).getD i true)=l.toArray.size:=by
  have:(List.range l.toArray.size).countP (fun i=> !(Array.replicate l.toArray.size false).getD i true)=(List.range l.toArray.size).length:=by
   rw[List.countP_eq_length];intro i hi;have:=ZB.1 hi;simp[show i<l.length by simpa using this]
  simpa using this
 exact wp_region_any c (pQ j e h _ _ a _ k (by simp) d)
end
theorem aP {P:Program}{ops:Array Oper}{Q:Exit->Act->World->Prop}{i:Nat}{K:Act->World->Prop}{a:Act}{w:World}{o:Oper}(hi:ops[i]?=some o)(b:o.guard=none)(h:o.wp P a w K Q):wpOp P ops Q i K a w:=by
 unfold wpOp;simp only[hi];have c:Region.wanted o (yielded ops a.tmps)=true:=by simp[Region.wanted,b]
 rw[zl c];exact .inl h
theorem df {listed:Array Bool}{i k:Nat}(h:(listed.setIfInBounds i true).getD k false=true):k=i\/listed.getD k false=true:=by
 by_cases e:i=k
 ·exact .inl e.symm
 rw[getD_set_ne false e]at h;exact .inr h
theorem H' {listed:Array Bool}{i:Nat}(h:i<listed.size):(listed.setIfInBounds i true).getD i false=true:=by simp[h]
theorem bM {listed:Array Bool}{i k:Nat}(h:i≠k):(listed.setIfInBounds i true).getD k false=listed.getD k false:=getD_set_ne false h
open Go Go.RowKit
section
variable {P:Program} {ops:Array Oper} {C:World->Prop} {Q:Act->Prop} {o:Oper} {rest:List Oper} {a:Act}
theorem sw (v:Value)(c:Region.wanted o (yielded ops a.tmps)=true)(h:∀w,C w->o.quietAt P a C w v)(b:wpQuiet P ops C Q rest (a.put o.dst v)):wpQuiet P ops C Q (o::rest) a:=by
 unfold wpQuiet;rw[zl c];exact⟨v,h,b⟩
theorem aD (v:Value)(c:Region.wanted o (yielded ops a.tmps)=true)(h:∀w,C w->(execOp a.eval o).run P w= .ok (.value v) w)(b:wpQuiet P ops C Q rest (a.put o.dst v)):wpQuiet P ops C Q (o::rest) a:=
 sw v c (fun w d=>by unfold Oper.quietAt;rw[h w d];exact⟨rfl,rfl⟩) b
theorem ep {W:World}(f:FuncId)(args:Array Value)(v:Value)(c:Region.wanted o (yielded ops a.tmps)=true)(k:∀w,(execOp a.eval o).run P w= .ok (.enter f args) w)
 (h:∀w,Below W.heap.size W w->Calls P f args w fun e w'=>e= .returned v/\Below w.heap.size w w') (j:wpQuiet P ops (fun w'=>Below W.heap.size W w') Q rest (a.put o.dst v)):wpQuiet P ops (fun w'=>Below W.heap.size W w') Q (o::rest) a:=
 sw v c (fun w b=>by
  unfold Oper.quietAt;rw[k w];exact⟨rfl,(h w b).mono fun e w' ⟨i,d⟩=>⟨i,b.trans (d.mono b.size)⟩⟩) j
theorem iH {id:Nat}{Q:Exit->Act->World->Prop}{a:Act}{w:World}{l:List Oper}(b:P.follows .mixedOrders=true)(c:Region.lexB .any l.toArray=true)
 (h:wpQuiet P l.toArray (fun w'=>Below w.heap.size w w') (fun d=>∀w',Below w.heap.size w w'->Q .normal d w') l a):(Code.region id l.toArray true).wp P Q a w:=
 wp_region_quiet (C:=fun w'=>Below w.heap.size w w') b c (zq _ _).drew (by simpa using h)
theorem mR {id:Nat}{Q:Exit->Act->World->Prop}{a:Act}{w:World}{l:List Oper}(n:Nat)(y:P.follows .mixedOrders=true)(o:Region.lexTailB .any l.toArray n=true)
 (h:wpQuiet P l.toArray (fun w'=>Below w.heap.size w w') (fun c=>∀w',Below w.heap.size w w'->wpList P l.toArray Q (l.drop n) c w') (l.take n) a):(Code.region id l.toArray true).wp P Q a w:=by
 simp only[Region.lexTailB,zF,yj]at o;obtain⟨⟨⟨⟨x,i⟩,q⟩,z⟩,s⟩:=o;have C:n<l.length:=by simpa using i
 have b:(l.take n).length=n:=by simp;omega
 have d:(l.drop n).length=l.toArray.size-n:=by simp
 have u:HeadInv .any l.toArray n (Array.replicate l.toArray.size false):=
  ⟨by simp,fun j B _ e=>(by rw[yS]at e;cases e),fun t _ r=>getD_in (by simpa using r) (yS _ _)⟩
 have H:=mQ (md:= .any) (g:=l.toArray.size-n) x q z i (l.take n) 0 _ a (fun j k=>by
  have A:j<n:=by rw[b]at k;exact k
  simp[A]) (by simpa using b) u (by rw[b];exact s) h
 refine wp_region_any y ?_;have:=jA (Q':=Q) (g:=l.toArray.size-n) (fun listed c w' p m=>by
  have:=wpAny_of_seq (md:= .any) (Q':=Q) (l.drop n) n listed c w' (fun j=>by simp[xE]) (by rw[d];exact m.1) (m.2 w' p);rwa [d]at this) _ _ _ _ ((zq _ _).drew) H
 rw[b,show n+(l.toArray.size-n)=l.toArray.size by omega]at this;exact this
end
open Go.RowKit
theorem pR {w:World}{ops:Array Oper}{o:Oper}{a:Act}{K:Act->World->Prop}{Q:Exit->Act->World->Prop}{L:Prop}(S:o.guard=none)(s x:Operand)
 (B:o.op= .call {callee:= .builtin .append,args:= #[s,x],argTypes:= #[26,26]}) (c:Nat) (acc:List It) {v:Value} (H:a.eval s=v) (G:Acc w c acc v) (y:It) {i h l:Value}
 (r:fO w (fun k=>c<=k/\v.ownBlock≠some k) y i h l) (g:Nat) (hx:a.eval x= .slice (some ⟨g,0,none⟩) 1 1) (A:w.cell? ⟨g,0,none⟩=some i) (M:w.cell? ⟨g,1,none⟩=some h) (E:w.cell? ⟨g,2,none⟩=some l)
 (Y:acc.length<=1000000) (R:c<=w.heap.size)
 (F:∀b m cap w',Hid (m=acc.length+1)->Acc w' c (acc++ [y]) (.slice (some ⟨b,0,none⟩) m cap)->w.grownBy w' v.ownBlock->c<=b->K (a.put o.dst (.slice (some ⟨b,0,none⟩) m cap)) w'):
 if Region.wanted o (yielded ops a.tmps)=true then Oper.wp Tryz.prog o a w K Q else L:=by
 obtain⟨i0,hi,D,O,J⟩:=yT BE;obtain⟨n,W,N⟩:=G;refine step_append_lies w S s x 26 B c 28 i0 _ 3 48 Tryz.underlying26 hi D O J rfl (by decide) v acc.length n H W ⟨g,0,none⟩ 1 1 [i,h,l] hx rfl ?_ (aff r) (by decide) (by simp only[maxLen];omega) (by omega) R w.heap.size rfl ?_
 ·intro j u hu;have U:∀j,(⟨g,0,none⟩:Addr).add j=⟨g,j,none⟩:=by intro j;unfold Addr.add;split<;>simp_all
  rw[U];match j,hu with
  |0,hu=>simp at hu;subst hu;exact A
  |1,hu=>simp at hu;subst hu;exact M
  |2,hu=>simp at hu;subst hu;exact E
 intro b cap w' z q d Z;have C:=Hv z b rfl;refine F b _ cap w' (za rfl) ⟨n++ [i,h,l],by rw[zp];exact z, ?_⟩ q C;refine((N.snoc r).ah (fun k X hS=>⟨hS.1, ?_⟩) fun p I hS=>zL (q.block _ I (fun e=>hS.2 e.symm)));intro e;have e:b=k:=by simpa[Value.ownBlock]using e
 rcases d with d|d
 ·exact hS.2 (by rw[d,e])
 omega
theorem jY {w:World}{g:Nat}{t:TypeId}{a b c:Value}(h:af w g t #[a,b,c]):w.cell? ⟨g,0,none⟩=some a/\w.cell? ⟨g,1,none⟩=some b/\w.cell? ⟨g,2,none⟩=some c:=⟨h.cell 0,h.cell 1,h.cell 2⟩
theorem aa8 {w W:World}{e i j t3 b c d:Value}(h:(w.alloc (.cells #[e,i,j,t3] 64)).alloc (.cells #[b,c,d] 28)=W):
 W.heap.size=w.heap.size+2/\Below w.heap.size w W/\af W w.heap.size 64 #[e,i,j,t3]/\af W (w.heap.size+1) 28 #[b,c,d]:=by
 subst h;exact⟨by simp,((zq _ w).alloc (zf _) _).alloc (by simp) _,(af.new w _ _).alloc _,af.at_ (by simp)⟩
def uV (w w':World)(x:It)(er:Int)(e:Ending):Prop:=
 Below w.heap.size w w'/\∃c0 c1 c2,e= .returned (.tuple #[.agg #[c0,c1,c2],.int .i64 er])/\fO w' (w.heap.size<= ·) x c0 c1 c2
theorem mS (w:World)(S:Nat->Prop):fO w S iU (.string ⟨#[]⟩) (.bool false) (.slice none 0 0):=fO.text false (by simp[ByteArray.size])
theorem afi {w W:World}{c d b:Value}(h:W=w.alloc (.cells #[c,d,b] 28)):Below w.heap.size w W/\W.heap.size=w.heap.size+1/\af W w.heap.size 28 #[c,d,b]:=by
 subst h;exact⟨(zq _ _).alloc (zf _) _,by simp,af.new w _ _⟩
theorem dP {w:World}{g:Nat}{t:TypeId}{i j e:Value}(h:af w g t #[i,j,e])(b c d:Value):af (((w.setCell ⟨g,0,none⟩ b).setCell ⟨g,1,none⟩ c).setCell ⟨g,2,none⟩ d) g t #[b,c,d]:=((h.set 0 b).set 1 c).set 2 d
theorem fe {w:World}{g:Nat}{t:TypeId}{i j e:Value}(h:af w g t #[i,j,e])(b c d:Value):(w.setCell ⟨g,0,none⟩ b).cell? ⟨g,0,none⟩=some b/\((w.setCell ⟨g,0,none⟩ b).setCell ⟨g,1,none⟩ c).cell? ⟨g,1,none⟩=some c/\(((w.setCell ⟨g,0,none⟩ b).setCell ⟨g,1,none⟩ c).setCell ⟨g,2,none⟩ d).cell? ⟨g,2,none⟩=some d:=
 ⟨by have:=(h.set 0 b).cell 0;simpa using this,by have:=((h.set 0 b).set 1 c).cell 1;simpa using this,by have:=(((h.set 0 b).set 1 c).set 2 d).cell 2;simpa using this⟩
theorem O5 (w:World)(B:Nat)(t:ByteArray)(l:Bool)(h:t.size<=9223372036854775807):bZ w B (.mk t l []) (.string t) (.bool l) (.slice none 0 0):=⟨rfl,rfl,h,by simp,none,0,rfl,by simp,by simp,trivial⟩
def E5 (w:World)(R:Option Ty)(e:Ending)(w':World):Prop:=
 Below w.heap.size w w'/\match R with
  |none=>e= .returned (.tuple #[.agg #[.int .i64 0,.int .i64 0,.slice none 0 0,.int .i64 0],.int .i64 3])
  |some x=>∃c0 c1 c2 c3,e= .returned (.tuple #[.agg #[c0,c1,c2,c3],.int .i64 0])/\fh w' (w.heap.size<= ·) x c0 c1 c2 c3
theorem gW.append {w:World}{S:Nat->Prop}{t:List Ms}{c:List Value}(d:gW w S t c):∀{s:List Ms} {b:List Value},gW w S s b->gW w S (s++t) (b++c)
 | [],b,h=>by
  have h:b= []:=h;subst h;exact d
 |x::xs,b,h=>by
  obtain⟨e,i,k,l,es,rfl,j,m⟩:=h;exact⟨e,i,k,l,es++c,by simp,j,d.append m⟩
def rj (w:World)(B:Nat)(v:Value)(l:List bA):Prop:=∃A cap,v= .slice A l.length cap/\l.length<=cap/\cap<=9223372036854775807/\∀j (h:j<l.length),∃g o,A=some ⟨g,o,none⟩/\g<B/\w.cell? ⟨g,o+j*3,none⟩=some (.int .u64 l[j].id)/\w.cell? ⟨g,o+j*3+1,none⟩=some (.string l[j].name)/\w.cell? ⟨g,o+j*3+2,none⟩=some (.string l[j].ty)
theorem rj.ah {w w':World}{B d:Nat}{v:Value}{l:List bA}(h:rj w B v l)(x:B<=d)(c:∀p:Addr,p.block<B->w'.cell? p=w.cell? p):rj w' d v l:=by
 obtain⟨A,cap,r,u,s,n⟩:=h;refine⟨A,cap,r,u,s,fun j m=> ?_⟩;obtain⟨g,o,e,b,i,k,q⟩:=n j m;exact⟨g,o,e,by omega,(c _ b).trans i,(c _ b).trans k,(c _ b).trans q⟩
theorem rj.below {w w':World}{B:Nat}{v:Value}{l:List bA}(h:rj w B v l)(b:Below B w w'):rj w' B v l:=h.ah (zf _) (fun _ c=>b.cell c)
theorem rj.mono {w:World}{B b:Nat}{v:Value}{l:List bA}(h:rj w B v l)(c:B<=b):rj w b v l:=h.ah c (fun _ _=>rfl)
theorem rj.dk {w:World}{B:Nat}{v:Value}{l:List bA}(h:rj w B v l):∃A n cap,v= .slice A n cap/\Hid (n=l.length)/\n<=cap/\cap<=9223372036854775807:=by
 obtain⟨A,cap,b,d,c,_⟩:=h;exact⟨A,_,cap,b,za rfl,d,c⟩
theorem rj.at_ {w:World}{B:Nat}{A:Option Addr}{n cap:Nat}{l:List bA}(h:rj w B (.slice A n cap) l){j:Nat}(b:j<l.length):∃g o,A=some ⟨g,o,none⟩/\g<B/\w.cell? ⟨g,o+j*3,none⟩=some (.int .u64 l[j].id)/\w.cell? ⟨g,o+j*3+1,none⟩=some (.string l[j].name)/\w.cell? ⟨g,o+j*3+2,none⟩=some (.string l[j].ty):=by
 obtain⟨k,e,d,m,i,c⟩:=h;injection d with hA _ _;subst hA;exact c j b
theorem rj.nil (w:World)(B:Nat):rj w B (.slice none 0 0) []:=⟨none,0,rfl,by simp,by simp,fun j b=>by simp at b⟩
