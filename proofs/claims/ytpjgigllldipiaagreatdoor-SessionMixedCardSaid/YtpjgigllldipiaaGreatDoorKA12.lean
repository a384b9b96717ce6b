/- A range over a function whose iterator keeps state of its own in cells: the body writes blocks of the list L alone. -/
import Derived.RangeFuncNested
import Derived.RangeFuncBound
import Derived.Shelf.RegionOpen
import Derived.OwnWalkIn
import Derived.LoopNIn
import Derived.LoopIn
import Derived.Test.YtpjgigllldipiaaGreatDoorKA1
set_option linter.all false
namespace Go.Proofs.YtpjgigllldipiaaGreatDoor
open Go.RowKit Go.Shelf
def zv:=@World.size_alloc
theorem iw (w:World)(l:Nat)(o:Obj):ae [l] w (w.putObj l o):=ae.gz (grownBy_putObj' w l o)
def Kr {α:Type}(F:Fence)(n:Nat)(P:Program)(g:Nat)(lb:Array Value)(Nu:α->Array Value)(xs:List α)(L:List Nat)(w:World):Prop:=
 ∀(l:Nat) (J:List α->World->Prop) (W:World),ae [] w W->w.heap.size<=l->l<W.heap.size->(∀s A B,J s A->Below W.heap.size A B->J s B)->
  (∀pre x W1,J pre W1->pre++ [x]<+:xs->YieldAt F (n-1) P l (Nu x) W1 fun e W'=>e= .returned (.bool true)/\J (pre++ [x]) W'/\ae (l::L) W1 W')->
  J [] W->
  CallsIn F n P g (#[.func (.yield l) #[] #[]]++lb) W fun e W'=>(∃v,e= .returned v)/\J xs W'
variable {F:Fence} {n:Nat} {P:Program}
theorem vD {m:Type}{g:Operand}{C:Array Tmp}{assign body:Code}{Q:Exit->Act->World->Prop}{a:Act}{w:World}
 (T8:F.round=none) (h1:1<=n) {gf:Nat} {lb:Array Value} (U:a.eval g= .func (.func gf) #[] lb) (ab:F.fn gf) (eg:∀args w,(callFunc gf args).run P w= .ok (.enter gf args) w)
 {z:m->Array Value} {xs:List m} {L:List Nat} (Xb:Kr F (n-1) P gf lb z xs L w) (R:∀i,i∈L->i<w.heap.size) (af:∀x,(z x).size=C.size)
 (I:List m->World->Prop) (q:∀s A B,I s A->Below w.heap.size A B->I s B) (h0:I [] w) (J:m->Act)
 (T9:∀(l:Nat) (x:m) (W:World) (K:Act->World->Prop),K (J x) W->
  assign.wpIn (F.inRound l) (n-1-1) P (Exit.then K (fun _ _ _=>False)) {tmps:=(C.zip (z x)).foldl (fun t (p,v)=>t.setIfInBounds p v) a.tmps,defers:= []} W)
 (Qk:∀(l:Nat) (pre:List m) (x:m) (W:World),w.heap.size<=l->I pre W->pre++ [x]<+:xs->body.wpIn (F.inRound l) (n-1-1) P (fun e _ M=>e= .normal/\ae L W M/\I (pre++ [x]) M) (J x) W)
 (Y:∀(D:Nat) (W:World),w.heap.size<=D->I xs W->W.heap[D]?=some (.deferred (some []))->Q .normal {a with defers:={target:= .collected D,args:= #[]}::a.defers} W):
 (Code.rangeFunc g C assign body).wpIn F n P Q a w:=by
 refine wpIn_rangeFunc fun fn aa=> ?_
 rw[T8];let d:Loop:={state:= .ready,pending:=none,fn,tmps:=a.tmps,params:=C,assign,body,defers:=w.heap.size}
 obtain⟨b,r⟩:∃b,(w.alloc (.deferred (some []))).alloc (.loop d)=b:=⟨_,rfl⟩
 have Va:b.heap[w.heap.size+1]?=some (.loop d):=by
  rw[<-r];have:=World.alloc_heap_new (w.alloc (.deferred (some []))) (.loop d);rwa [zv]at this
 have ag:b.heap[w.heap.size]?=some (.deferred (some [])):=by
  rw[<-r];exact(ZL _ _ _ (by simp)).trans (World.alloc_heap_new w _)
 have O:ae [] w b:=by rw[<-r];exact((ae.refl [] w).alloc _).alloc _
 have cg:b.heap.size=w.heap.size+2:=by rw[<-r];simp
 refine⟨w.heap.size+1,[{target:= .collected w.heap.size,args:= #[]}],b,{target:= .fn (.func gf) lb,args:= #[.func (.yield (w.heap.size+1)) #[] #[]]},b,gf,
  #[.func (.yield (w.heap.size+1)) #[] #[]]++lb,b, ?_, ?_, ?_, ?_,fun _=>h1, ?_⟩
 ·rw[<-r];exact run_enterLoop_outer _ _ _ _ _
 ·simp only[resolve,U];simp[go_sem]
 ·intro f' H;simp[Target.leads]at H;subst H;exact ab
 ·simp[invoke,go_sem,eg]
 refine(Xb (w.heap.size+1) (fun pre W=>I pre W/\W.heap[w.heap.size+1]?=some (.loop d)/\W.heap[w.heap.size]?=some (.deferred (some []))) b O (by omega) (by omega) ?_ ?_
  ⟨q _ _ _ h0 (O.below (zf _) (by simp)),Va,ag⟩).mono ?_
 ·rintro s A B ⟨hi,j,u⟩ E;exact⟨q _ _ _ hi (E.mono (by omega)),(E.block _ (by omega)).trans j,(E.block _ (by omega)).trans u⟩
 ·rintro pre x W ⟨hi,j,u⟩ Rs;have S:w.heap.size+1<W.heap.size:=(yl.1 j).1;have hy:=run_yield (P:=P) (args:=z x) j (af x);refine⟨fn,_,assign,body,hy,roundIn_of_wpIn aa (T9 _ x W _ ⟨_,run_beginRound j rfl, ?_⟩)⟩;obtain⟨c,G⟩:∃c,W.putObj (w.heap.size+1) (.loop {d with state:= .busy})=c:=⟨_,rfl⟩
  rw[G];have k:ae [w.heap.size+1] W c:=G▸iw W _ _;have BV:c.heap[w.heap.size+1]?=some (.loop {d with state:= .busy}):=by rw[<-G];exact World.putObj_heap_same S
  have Z:c.heap[w.heap.size]?=some (.deferred (some [])):=(k.block _ (by omega) (by simp)).trans u;have ch:I pre c:=q _ _ _ hi (k.below (by omega) (by simp));refine wpIn_mono (Qk _ pre x c (by omega) ch Rs) ?_;rintro e a3 W3 ⟨rfl,y,ad⟩;have N:=(y.block (w.heap.size+1) (by have:=k.size;omega) (fun h=>by have:=R _ h;omega)).trans BV;have X:=(y.block w.heap.size (by have:=k.size;omega) (fun h=>by have:=R _ h;omega)).trans Z;have o:=iw W3 (w.heap.size+1) (.loop d);refine⟨_,_,run_endRound (P:=P) none N,rfl,⟨q _ _ _ ad (o.below (by have:=k.size;have:=y.size;omega) (by simp)),World.putObj_heap_same (yl.1 N).1,(o.block _ (by have:=k.size;have:=y.size;omega) (by simp)).trans X⟩, ?_⟩;exact((k.mono (by simp)).trans (y.mono (fun _ h=>List.mem_cons_of_mem _ h))).trans (o.mono (by simp))
 rintro e c ⟨⟨v,rfl⟩,hi,j,u⟩;have o:=iw c (w.heap.size+1) (.loop {d with state:= .exhausted});have S:=(yl.1 j).1;exact⟨none,_,run_endLoop (P:=P) j (by simp[d]),Y _ _ (zf _) (q _ _ _ hi (o.below (by omega) (by simp))) ((o.block _ (by omega) (by simp)).trans u)⟩
