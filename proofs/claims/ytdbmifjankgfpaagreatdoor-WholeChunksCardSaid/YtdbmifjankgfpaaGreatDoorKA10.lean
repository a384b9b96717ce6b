/- A range over a function whose iterator keeps state of its own in cells: the body writes blocks of the list L alone. -/
import Derived.RangeFuncNested
import Derived.RangeFuncBound
import Derived.Shelf.RegionOpen
import Derived.OwnWalkIn
import Derived.LoopNIn
import Derived.LoopIn
import Derived.Test.YtdbmifjankgfpaaGreatDoorKA1
set_option linter.all false
namespace Go.Proofs.YtdbmifjankgfpaaGreatDoor
open Go.RowKit Go.Shelf
def zq:=@World.size_alloc
theorem iW (w:World)(l:Nat)(o:Obj):ae [l] w (w.putObj l o):=ae.dR (grownBy_putObj' w l o)
def Lf {α:Type}(F:Fence)(n:Nat)(P:Program)(g:Nat)(lb:Array Value)(Of:α->Array Value)(xs:List α)(L:List Nat)(w:World):Prop:=
 ∀(l:Nat) (J:List α->World->Prop) (W:World),ae [] w W->w.heap.size<=l->l<W.heap.size->(∀s A B,J s A->Below W.heap.size A B->J s B)->
  (∀pre x W1,J pre W1->pre++ [x]<+:xs->YieldAt F (n-1) P l (Of x) W1 fun e W'=>e= .returned (.bool true)/\J (pre++ [x]) W'/\ae (l::L) W1 W')->
  J [] W->
  CallsIn F n P g (#[.func (.yield l) #[] #[]]++lb) W fun e W'=>(∃v,e= .returned v)/\J xs W'
variable {F:Fence} {n:Nat} {P:Program}
theorem wJ {k:Type}{g:Operand}{C:Array Tmp}{assign body:Code}{Q:Exit->Act->World->Prop}{a:Act}{w:World}
 (U2:F.round=none) (h1:1<=n) {gf:Nat} {lb:Array Value} (hg:a.eval g= .func (.func gf) #[] lb) (Y:F.fn gf) (eg:∀args w,(callFunc gf args).run P w= .ok (.enter gf args) w)
 {z:k->Array Value} {xs:List k} {L:List Nat} (Z:Lf F (n-1) P gf lb z xs L w) (R:∀i,i∈L->i<w.heap.size) (ab:∀x,(z x).size=C.size)
 (I:List k->World->Prop) (y:∀s A B,I s A->Below w.heap.size A B->I s B) (h0:I [] w) (S:k->Act)
 (U3:∀(l:Nat) (x:k) (W:World) (K:Act->World->Prop),K (S x) W->
  assign.wpIn (F.inRound l) (n-1-1) P (Exit.then K (fun _ _ _=>False)) {tmps:=(C.zip (z x)).foldl (fun t (p,v)=>t.setIfInBounds p v) a.tmps,defers:= []} W)
 (Ra:∀(l:Nat) (pre:List k) (x:k) (W:World),w.heap.size<=l->I pre W->pre++ [x]<+:xs->body.wpIn (F.inRound l) (n-1-1) P (fun e _ H=>e= .normal/\ae L W H/\I (pre++ [x]) H) (S x) W)
 (CE:∀(D:Nat) (W:World),w.heap.size<=D->I xs W->W.heap[D]?=some (.deferred (some []))->Q .normal {a with defers:={target:= .collected D,args:= #[]}::a.defers} W):
 (Code.rangeFunc g C assign body).wpIn F n P Q a w:=by
 refine wpIn_rangeFunc fun fn X=> ?_
 rw[U2];let c:Loop:={state:= .ready,pending:=none,fn,tmps:=a.tmps,params:=C,assign,body,defers:=w.heap.size}
 obtain⟨b,r⟩:∃b,(w.alloc (.deferred (some []))).alloc (.loop c)=b:=⟨_,rfl⟩
 have Wb:b.heap[w.heap.size+1]?=some (.loop c):=by
  rw[<-r];have:=World.alloc_heap_new (w.alloc (.deferred (some []))) (.loop c);rwa [zq]at this
 have aa:b.heap[w.heap.size]?=some (.deferred (some [])):=by
  rw[<-r];exact(ZE _ _ _ (by simp)).trans (World.alloc_heap_new w _)
 have J:ae [] w b:=by rw[<-r];exact((ae.refl [] w).alloc _).alloc _
 have cl:b.heap.size=w.heap.size+2:=by rw[<-r];simp
 refine⟨w.heap.size+1,[{target:= .collected w.heap.size,args:= #[]}],b,{target:= .fn (.func gf) lb,args:= #[.func (.yield (w.heap.size+1)) #[] #[]]},b,gf,
  #[.func (.yield (w.heap.size+1)) #[] #[]]++lb,b, ?_, ?_, ?_, ?_,fun _=>h1, ?_⟩
 ·rw[<-r];exact run_enterLoop_outer _ _ _ _ _
 ·simp only[resolve,hg];simp[go_sem]
 ·intro f' N;simp[Target.leads]at N;subst N;exact Y
 ·simp[invoke,go_sem,eg]
 refine(Z (w.heap.size+1) (fun pre W=>I pre W/\W.heap[w.heap.size+1]?=some (.loop c)/\W.heap[w.heap.size]?=some (.deferred (some []))) b J (by omega) (by omega) ?_ ?_
  ⟨y _ _ _ h0 (J.below (zd _) (by simp)),Wb,aa⟩).mono ?_
 ·rintro s A B ⟨hi,j,u⟩ E;exact⟨y _ _ _ hi (E.mono (by omega)),(E.block _ (by omega)).trans j,(E.block _ (by omega)).trans u⟩
 ·rintro pre x W ⟨hi,j,u⟩ So;have M:w.heap.size+1<W.heap.size:=(yd.1 j).1;have hy:=run_yield (P:=P) (args:=z x) j (ab x);refine⟨fn,_,assign,body,hy,roundIn_of_wpIn X (U3 _ x W _ ⟨_,run_beginRound j rfl, ?_⟩)⟩;obtain⟨d,G⟩:∃d,W.putObj (w.heap.size+1) (.loop {c with state:= .busy})=d:=⟨_,rfl⟩
  rw[G];have m:ae [w.heap.size+1] W d:=G▸iW W _ _;have JM:d.heap[w.heap.size+1]?=some (.loop {c with state:= .busy}):=by rw[<-G];exact World.putObj_heap_same M
  have eN:d.heap[w.heap.size]?=some (.deferred (some [])):=(m.block _ (by omega) (by simp)).trans u;have dW:I pre d:=y _ _ _ hi (m.below (by omega) (by simp));refine wpIn_mono (Ra _ pre x d (by omega) dW So) ?_;rintro e a3 W3 ⟨rfl,q,U⟩;have O:=(q.block (w.heap.size+1) (by have:=m.size;omega) (fun h=>by have:=R _ h;omega)).trans JM;have DS:=(q.block w.heap.size (by have:=m.size;omega) (fun h=>by have:=R _ h;omega)).trans eN;have o:=iW W3 (w.heap.size+1) (.loop c);refine⟨_,_,run_endRound (P:=P) none O,rfl,⟨y _ _ _ U (o.below (by have:=m.size;have:=q.size;omega) (by simp)),World.putObj_heap_same (yd.1 O).1,(o.block _ (by have:=m.size;have:=q.size;omega) (by simp)).trans DS⟩, ?_⟩;exact((m.mono (by simp)).trans (q.mono (fun _ h=>List.mem_cons_of_mem _ h))).trans (o.mono (by simp))
 rintro e d ⟨⟨v,rfl⟩,hi,j,u⟩;have o:=iW d (w.heap.size+1) (.loop {c with state:= .exhausted});have M:=(yd.1 j).1;exact⟨none,_,run_endLoop (P:=P) j (by simp[c]),CE _ _ (zd _) (y _ _ _ hi (o.below (by omega) (by simp))) ((o.block _ (by omega) (by simp)).trans u)⟩
