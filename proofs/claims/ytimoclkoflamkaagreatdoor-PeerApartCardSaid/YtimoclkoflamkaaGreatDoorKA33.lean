/- A range over a function whose iterator keeps state of its own in cells: the body writes blocks of the list L alone. -/
import Derived.RangeFuncNested
import Derived.RangeFuncBound
import Derived.Shelf.RegionOpen
import Derived.OwnWalkIn
import Derived.LoopNIn
import Derived.LoopIn
import Derived.Test.YtimoclkoflamkaaGreatDoorKA2
set_option linter.all false
namespace Go.Proofs.YtimoclkoflamkaaGreatDoor
open Go.RowKit Go.Shelf
def zu:=@World.size_alloc
theorem iN (w:World)(l:Nat)(o:Obj):ae [l] w (w.putObj l o):=ae.eR (grownBy_putObj' w l o)
def K7 {α:Type}(F:Fence)(n:Nat)(P:Program)(g:Nat)(lb:Array Value)(Oa:α->Array Value)(xs:List α)(L:List Nat)(w:World):Prop:=
 ∀(l:Nat) (J:List α->World->Prop) (W:World),ae [] w W->w.heap.size<=l->l<W.heap.size->(∀s A B,J s A->Below W.heap.size A B->J s B)->
  (∀pre x W1,J pre W1->pre++ [x]<+:xs->YieldAt F (n-1) P l (Oa x) W1 fun e W'=>e= .returned true/\J (pre++ [x]) W'/\ae (l::L) W1 W')->
  J [] W->
  CallsIn F n P g (#[.func (.yield l) #[] #[]]++lb) W fun e W'=>(∃v,e= .returned v)/\J xs W'
variable {F:Fence} {n:Nat} {P:Program}
theorem wF {m:Type}{g:Operand}{C:Array Tmp}{assign body:Code}{Q:Exit->Act->World->Prop}{a:Act}{w:World}
 (UY:F.round=none) (h1:1<=n) {gf:Nat} {lb:Array Value} (hg:a.eval g= .func (.func gf) #[] lb) (ab:F.fn gf) (eg:∀args w,(callFunc gf args).run P w= .ok (.enter gf args) w)
 {z:m->Array Value} {xs:List m} {L:List Nat} (Yx:K7 F (n-1) P gf lb z xs L w) (H:∀i,i∈L->i<w.heap.size) (af:∀x,(z x).size=C.size)
 (I:List m->World->Prop) (q:∀s A B,I s A->Below w.heap.size A B->I s B) (h0:I [] w) (N:m->Act)
 (U:∀(l:Nat) (x:m) (W:World) (K:Act->World->Prop),K (N x) W->
  assign.wpIn (F.inRound l) (n-1-1) P (Exit.then K (fun _ _ _=>False)) {tmps:=(C.zip (z x)).foldl (fun t (p,v)=>t.setIfInBounds p v) a.tmps,defers:= []} W)
 (Q7:∀(l:Nat) (pre:List m) (x:m) (W:World),w.heap.size<=l->I pre W->pre++ [x]<+:xs->body.wpIn (F.inRound l) (n-1-1) P (fun e _ J=>e= .normal/\ae L W J/\I (pre++ [x]) J) (N x) W)
 (Y:∀(D:Nat) (W:World),w.heap.size<=D->I xs W->W.heap[D]?=some (.deferred (some []))->Q .normal {a with defers:={target:= .collected D,args:= #[]}::a.defers} W):
 (Code.rangeFunc g C assign body).wpIn F n P Q a w:=by
 refine wpIn_rangeFunc fun fn X=> ?_
 rw[UY];let c:Loop:={state:= .ready,pending:=none,fn,tmps:=a.tmps,params:=C,assign,body,defers:=w.heap.size}
 obtain⟨b,r⟩:∃b,(w.alloc (.deferred (some []))).alloc (.loop c)=b:=⟨_,rfl⟩
 have Z:b.heap[w.heap.size+1]?=some (.loop c):=by
  rw[<-r];have:=World.alloc_heap_new (w.alloc (.deferred (some []))) (.loop c);rwa [zu]at this
 have aa:b.heap[w.heap.size]?=some (.deferred (some [])):=by
  rw[<-r];exact(ZI _ _ _ (by simp)).trans (World.alloc_heap_new w _)
 have M:ae [] w b:=by rw[<-r];exact((ae.refl [] w).alloc _).alloc _
 have cw:b.heap.size=w.heap.size+2:=by rw[<-r];simp
 refine⟨w.heap.size+1,[{target:= .collected w.heap.size,args:= #[]}],b,{target:= .fn (.func gf) lb,args:= #[.func (.yield (w.heap.size+1)) #[] #[]]},b,gf,
  #[.func (.yield (w.heap.size+1)) #[] #[]]++lb,b, ?_, ?_, ?_, ?_,fun _=>h1, ?_⟩
 ·rw[<-r];exact run_enterLoop_outer _ _ _ _ _
 ·simp only[resolve,hg];simp[go_sem]
 ·intro f' R;simp[Target.leads]at R;subst R;exact ab
 ·simp[invoke,go_sem,eg]
 refine(Yx (w.heap.size+1) (fun pre W=>I pre W/\W.heap[w.heap.size+1]?=some (.loop c)/\W.heap[w.heap.size]?=some (.deferred (some []))) b M (by omega) (by omega) ?_ ?_
  ⟨q _ _ _ h0 (M.below (zd _) (by simp)),Z,aa⟩).mono ?_
 ·rintro s A B ⟨hi,j,y⟩ G;exact⟨q _ _ _ hi (G.mono (by omega)),(G.block _ (by omega)).trans j,(G.block _ (by omega)).trans y⟩
 ·rintro pre x W ⟨hi,j,y⟩ Sc;have O:w.heap.size+1<W.heap.size:=(yd.1 j).1;have hy:=run_yield (P:=P) (args:=z x) j (af x);refine⟨fn,_,assign,body,hy,roundIn_of_wpIn X (U _ x W _ ⟨_,run_beginRound j rfl, ?_⟩)⟩;obtain⟨d,E⟩:∃d,W.putObj (w.heap.size+1) (.loop {c with state:= .busy})=d:=⟨_,rfl⟩
  rw[E];have k:ae [w.heap.size+1] W d:=E▸iN W _ _;have Ch:d.heap[w.heap.size+1]?=some (.loop {c with state:= .busy}):=by rw[<-E];exact World.putObj_heap_same O
  have dT:d.heap[w.heap.size]?=some (.deferred (some [])):=(k.block _ (by omega) (by simp)).trans y;have dQ:I pre d:=q _ _ _ hi (k.below (by omega) (by simp));refine wpIn_mono (Q7 _ pre x d (by omega) dQ Sc) ?_;rintro e a3 W3 ⟨rfl,u,ad⟩;have S:=(u.block (w.heap.size+1) (by have:=k.size;omega) (fun h=>by have:=H _ h;omega)).trans Ch;have oQ:=(u.block w.heap.size (by have:=k.size;omega) (fun h=>by have:=H _ h;omega)).trans dT;have o:=iN W3 (w.heap.size+1) (.loop c);refine⟨_,_,run_endRound (P:=P) none S,rfl,⟨q _ _ _ ad (o.below (by have:=k.size;have:=u.size;omega) (by simp)),World.putObj_heap_same (yd.1 S).1,(o.block _ (by have:=k.size;have:=u.size;omega) (by simp)).trans oQ⟩, ?_⟩;exact((k.mono (by simp)).trans (u.mono (fun _ h=>List.mem_cons_of_mem _ h))).trans (o.mono (by simp))
 rintro e d ⟨⟨v,rfl⟩,hi,j,y⟩;have o:=iN d (w.heap.size+1) (.loop {c with state:= .exhausted});have O:=(yd.1 j).1;exact⟨none,_,run_endLoop (P:=P) j (by simp[c]),Y _ _ (zd _) (q _ _ _ hi (o.below (by omega) (by simp))) ((o.block _ (by omega) (by simp)).trans y)⟩
