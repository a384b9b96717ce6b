/- A range over a function whose iterator keeps state of its own in cells: the body writes blocks of the list L alone. -/
import Derived.RangeFuncNested
import Derived.RangeFuncBound
import Derived.Shelf.RegionOpen
import Derived.OwnWalkIn
import Derived.LoopNIn
import Derived.LoopIn
import Derived.Test.YtimoclkoflamkaaGreatDoorKA2
set_option linter.all false
namespace Go.Proofs.YtimoclkoflamkaaGreatDoor
open Go.RowKit Go.Shelf
def zq:=@World.size_alloc
def Yn:=@List.mem_cons_of_mem
theorem iR (w:World)(l:Nat)(o:Obj):ae [l] w (w.putObj l o):=ae.cn (grownBy_putObj' w l o)
def MM {α:Type}(F:Fence)(n:Nat)(P:Program)(g:Nat)(lb:Array Value)(PZ:α->Array Value)(xs:List α)(L:List Nat)(w:World):Prop:=
 ∀(l:Nat) (J:List α->World->Prop) (W:World),ae [] w W->w.heap.size<=l->l<W.heap.size->(∀s A B,J s A->Below W.heap.size A B->J s B)->
  (∀pre x W1,J pre W1->pre++ [x]<+:xs->YieldAt F (n-1) P l (PZ x) W1 fun e W'=>e= .returned true/\J (pre++ [x]) W'/\ae (l::L) W1 W')->
  J [] W->
  CallsIn F n P g (#[.func (.yield l) #[] #[]]++lb) W fun e W'=>(∃v,e= .returned v)/\J xs W'
variable {F:Fence} {n:Nat} {P:Program}
theorem AN {k:Type}{g:Operand}{z:Array Tmp}{assign body:Code}{Q:Exit->Act->World->Prop}{a:Act}{w:World}
 (U:F.round=none) (X:1<=n) {gf:Nat} {lb:Array Value} (hg:a.eval g= .func (.func gf) #[] lb) (af:F.fn gf) (eg:∀args w,(callFunc gf args).run P w= .ok (.enter gf args) w)
 {C:k->Array Value} {xs:List k} {L:List Nat} (ab:MM F (n-1) P gf lb C xs L w) (S:∀i,i∈L->i<w.heap.size) (ad:∀x,(C x).size=z.size)
 (I:List k->World->Prop) (y:∀s A B,I s A->Below w.heap.size A B->I s B) (h0:I [] w) (R:k->Act)
 (Xa:∀(l:Nat) (x:k) (W:World) (K:Act->World->Prop),K (R x) W->
  assign.wpIn (F.inRound l) (n-1-1) P (Exit.then K (fun _ _ _=>False)) {tmps:=(z.zip (C x)).foldl (fun t (p,v)=>t.setIfInBounds p v) a.tmps,defers:= []} W)
 (Td:∀(l:Nat) (pre:List k) (x:k) (W:World),w.heap.size<=l->I pre W->pre++ [x]<+:xs->body.wpIn (F.inRound l) (n-1-1) P (fun e _ M=>e= .normal/\ae L W M/\I (pre++ [x]) M) (R x) W)
 (Ds:∀(D:Nat) (W:World),w.heap.size<=D->I xs W->W.heap[D]?=some (.deferred (some []))->Q .normal {a with defers:={target:= .collected D,args:= #[]}::a.defers} W):
 (Code.rangeFunc g z assign body).wpIn F n P Q a w:=by
 refine wpIn_rangeFunc fun fn ag=> ?_
 rw[U];let c:Loop:={state:= .ready,pending:=none,fn,tmps:=a.tmps,params:=z,assign,body,defers:=w.heap.size}
 obtain⟨b,q⟩:∃b,(w.alloc (.deferred (some []))).alloc (.loop c)=b:=⟨_,rfl⟩
 have X8:b.heap[w.heap.size+1]?=some (.loop c):=by
  rw[<-q];have:=World.alloc_heap_new (w.alloc (.deferred (some []))) (.loop c);rwa [zq]at this
 have aa:b.heap[w.heap.size]?=some (.deferred (some [])):=by
  rw[<-q];exact(ZO _ _ _ (by simp)).trans (World.alloc_heap_new w _)
 have O:ae [] w b:=by rw[<-q];exact((ae.refl [] w).alloc _).alloc _
 have cg:b.heap.size=w.heap.size+2:=by rw[<-q];simp
 refine⟨w.heap.size+1,[{target:= .collected w.heap.size,args:= #[]}],b,{target:= .fn (.func gf) lb,args:= #[.func (.yield (w.heap.size+1)) #[] #[]]},b,gf,
  #[.func (.yield (w.heap.size+1)) #[] #[]]++lb,b, ?_, ?_, ?_, ?_,fun _=>X, ?_⟩
 ·rw[<-q];exact run_enterLoop_outer _ _ _ _ _
 ·simp only[resolve,hg];simp[go_sem]
 ·intro f' J;simp[Target.leads]at J;subst J;exact af
 ·simp[invoke,go_sem,eg]
 refine(ab (w.heap.size+1) (fun pre W=>I pre W/\W.heap[w.heap.size+1]?=some (.loop c)/\W.heap[w.heap.size]?=some (.deferred (some []))) b O (by omega) (by omega) ?_ ?_
  ⟨y _ _ _ h0 (O.below (ze _) (by simp)),X8,aa⟩).mono ?_
 ·rintro s A B ⟨hi,j,r⟩ E;exact⟨y _ _ _ hi (E.mono (by omega)),(E.block _ (by omega)).trans j,(E.block _ (by omega)).trans r⟩
 ·rintro pre x W ⟨hi,j,r⟩ Ua;have H:w.heap.size+1<W.heap.size:=(yb.1 j).1;have hy:=run_yield (P:=P) (args:=C x) j (ad x);refine⟨fn,_,assign,body,hy,roundIn_of_wpIn ag (Xa _ x W _ ⟨_,run_beginRound j rfl, ?_⟩)⟩;obtain⟨d,G⟩:∃d,W.putObj (w.heap.size+1) (.loop {c with state:= .busy})=d:=⟨_,rfl⟩
  rw[G];have m:ae [w.heap.size+1] W d:=G▸iR W _ _;have s8:d.heap[w.heap.size+1]?=some (.loop {c with state:= .busy}):=by rw[<-G];exact World.putObj_heap_same H
  have dW:d.heap[w.heap.size]?=some (.deferred (some [])):=(m.block _ (by omega) (by simp)).trans r;have cV:I pre d:=y _ _ _ hi (m.below (by omega) (by simp));refine wpIn_mono (Td _ pre x d (by omega) cV Ua) ?_;rintro e a3 W3 ⟨rfl,u,Y⟩;have N:=(u.block (w.heap.size+1) (by have:=m.size;omega) (fun h=>by have:=S _ h;omega)).trans s8;have Z:=(u.block w.heap.size (by have:=m.size;omega) (fun h=>by have:=S _ h;omega)).trans dW;have o:=iR W3 (w.heap.size+1) (.loop c);refine⟨_,_,run_endRound (P:=P) none N,rfl,⟨y _ _ _ Y (o.below (by have:=m.size;have:=u.size;omega) (by simp)),World.putObj_heap_same (yb.1 N).1,(o.block _ (by have:=m.size;have:=u.size;omega) (by simp)).trans Z⟩, ?_⟩;exact((m.mono (by simp)).trans (u.mono (fun _ h=>Yn _ h))).trans (o.mono (by simp))
 rintro e d ⟨⟨v,rfl⟩,hi,j,r⟩;have o:=iR d (w.heap.size+1) (.loop {c with state:= .exhausted});have H:=(yb.1 j).1;exact⟨none,_,run_endLoop (P:=P) j (by simp[c]),Ds _ _ (ze _) (y _ _ _ hi (o.below (by omega) (by simp))) ((o.block _ (by omega) (by simp)).trans r)⟩
