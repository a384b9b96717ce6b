/- A range over a function whose iterator keeps state of its own in cells: the body writes blocks of the list L alone. -/
import Derived.RangeFuncNested
import Derived.RangeFuncBound
import Derived.Shelf.RegionOpen
import Derived.OwnWalkIn
import Derived.LoopNIn
import Derived.LoopIn
import Derived.Test.YtdbmifjankgfpaaGreatDoorKA1
set_option linter.all false
namespace Go.Proofs.YtdbmifjankgfpaaGreatDoor
open Go.RowKit Go.Shelf
def zr:=@World.size_alloc
theorem iY (w:World)(l:Nat)(o:Obj):ae [l] w (w.putObj l o):=ae.fU (grownBy_putObj' w l o)
def K6 {α:Type}(F:Fence)(n:Nat)(P:Program)(g:Nat)(lb:Array Value)(Od:α->Array Value)(xs:List α)(L:List Nat)(w:World):Prop:=
 ∀(l:Nat) (J:List α->World->Prop) (W:World),ae [] w W->w.heap.size<=l->l<W.heap.size->(∀s A B,J s A->Below W.heap.size A B->J s B)->
  (∀pre x W1,J pre W1->pre++ [x]<+:xs->YieldAt F (n-1) P l (Od x) W1 fun e W'=>e= .returned (.bool true)/\J (pre++ [x]) W'/\ae (l::L) W1 W')->
  J [] W->
  CallsIn F n P g (#[.func (.yield l) #[] #[]]++lb) W fun e W'=>(∃v,e= .returned v)/\J xs W'
variable {F:Fence} {n:Nat} {P:Program}
theorem wC {k:Type}{g:Operand}{z:Array Tmp}{assign body:Code}{Q:Exit->Act->World->Prop}{a:Act}{w:World}
 (U0:F.round=none) (h1:1<=n) {gf:Nat} {lb:Array Value} (hg:a.eval g= .func (.func gf) #[] lb) (ab:F.fn gf) (eg:∀args w,(callFunc gf args).run P w= .ok (.enter gf args) w)
 {C:k->Array Value} {xs:List k} {L:List Nat} (X4:K6 F (n-1) P gf lb C xs L w) (N:∀i,i∈L->i<w.heap.size) (ad:∀x,(C x).size=z.size)
 (I:List k->World->Prop) (q:∀s A B,I s A->Below w.heap.size A B->I s B) (h0:I [] w) (M:k->Act)
 (U1:∀(l:Nat) (x:k) (W:World) (K:Act->World->Prop),K (M x) W->
  assign.wpIn (F.inRound l) (n-1-1) P (Exit.then K (fun _ _ _=>False)) {tmps:=(z.zip (C x)).foldl (fun t (p,v)=>t.setIfInBounds p v) a.tmps,defers:= []} W)
 (Rc:∀(l:Nat) (pre:List k) (x:k) (W:World),w.heap.size<=l->I pre W->pre++ [x]<+:xs->body.wpIn (F.inRound l) (n-1-1) P (fun e _ S=>e= .normal/\ae L W S/\I (pre++ [x]) S) (M x) W)
 (Cr:∀(D:Nat) (W:World),w.heap.size<=D->I xs W->W.heap[D]?=some (.deferred (some []))->Q .normal {a with defers:={target:= .collected D,args:= #[]}::a.defers} W):
 (Code.rangeFunc g z assign body).wpIn F n P Q a w:=by
 refine wpIn_rangeFunc fun fn af=> ?_
 rw[U0];let d:Loop:={state:= .ready,pending:=none,fn,tmps:=a.tmps,params:=z,assign,body,defers:=w.heap.size}
 obtain⟨b,u⟩:∃b,(w.alloc (.deferred (some []))).alloc (.loop d)=b:=⟨_,rfl⟩
 have Y:b.heap[w.heap.size+1]?=some (.loop d):=by
  rw[<-u];have:=World.alloc_heap_new (w.alloc (.deferred (some []))) (.loop d);rwa [zr]at this
 have X:b.heap[w.heap.size]?=some (.deferred (some [])):=by
  rw[<-u];exact(Zx _ _ _ (by simp)).trans (World.alloc_heap_new w _)
 have R:ae [] w b:=by rw[<-u];exact((ae.refl [] w).alloc _).alloc _
 have cr:b.heap.size=w.heap.size+2:=by rw[<-u];simp
 refine⟨w.heap.size+1,[{target:= .collected w.heap.size,args:= #[]}],b,{target:= .fn (.func gf) lb,args:= #[.func (.yield (w.heap.size+1)) #[] #[]]},b,gf,
  #[.func (.yield (w.heap.size+1)) #[] #[]]++lb,b, ?_, ?_, ?_, ?_,fun _=>h1, ?_⟩
 ·rw[<-u];exact run_enterLoop_outer _ _ _ _ _
 ·simp only[resolve,hg];simp[go_sem]
 ·intro f' O;simp[Target.leads]at O;subst O;exact ab
 ·simp[invoke,go_sem,eg]
 refine(X4 (w.heap.size+1) (fun pre W=>I pre W/\W.heap[w.heap.size+1]?=some (.loop d)/\W.heap[w.heap.size]?=some (.deferred (some []))) b R (by omega) (by omega) ?_ ?_
  ⟨q _ _ _ h0 (R.below (zg _) (by simp)),Y,X⟩).mono ?_
 ·rintro s A B ⟨hi,j,y⟩ G;exact⟨q _ _ _ hi (G.mono (by omega)),(G.block _ (by omega)).trans j,(G.block _ (by omega)).trans y⟩
 ·rintro pre x W ⟨hi,j,y⟩ Si;have H:w.heap.size+1<W.heap.size:=(yg.1 j).1;have hy:=run_yield (P:=P) (args:=C x) j (ad x);refine⟨fn,_,assign,body,hy,roundIn_of_wpIn af (U1 _ x W _ ⟨_,run_beginRound j rfl, ?_⟩)⟩;obtain⟨c,E⟩:∃c,W.putObj (w.heap.size+1) (.loop {d with state:= .busy})=c:=⟨_,rfl⟩
  rw[E];have m:ae [w.heap.size+1] W c:=E▸iY W _ _;have U:c.heap[w.heap.size+1]?=some (.loop {d with state:= .busy}):=by rw[<-E];exact World.putObj_heap_same H
  have Z:c.heap[w.heap.size]?=some (.deferred (some [])):=(m.block _ (by omega) (by simp)).trans y;have ea:I pre c:=q _ _ _ hi (m.below (by omega) (by simp));refine wpIn_mono (Rc _ pre x c (by omega) ea Si) ?_;rintro e a3 W3 ⟨rfl,r,aa⟩;have J:=(r.block (w.heap.size+1) (by have:=m.size;omega) (fun h=>by have:=N _ h;omega)).trans U;have Dy:=(r.block w.heap.size (by have:=m.size;omega) (fun h=>by have:=N _ h;omega)).trans Z;have o:=iY W3 (w.heap.size+1) (.loop d);refine⟨_,_,run_endRound (P:=P) none J,rfl,⟨q _ _ _ aa (o.below (by have:=m.size;have:=r.size;omega) (by simp)),World.putObj_heap_same (yg.1 J).1,(o.block _ (by have:=m.size;have:=r.size;omega) (by simp)).trans Dy⟩, ?_⟩;exact((m.mono (by simp)).trans (r.mono (fun _ h=>List.mem_cons_of_mem _ h))).trans (o.mono (by simp))
 rintro e c ⟨⟨v,rfl⟩,hi,j,y⟩;have o:=iY c (w.heap.size+1) (.loop {d with state:= .exhausted});have H:=(yg.1 j).1;exact⟨none,_,run_endLoop (P:=P) j (by simp[d]),Cr _ _ (zg _) (q _ _ _ hi (o.below (by omega) (by simp))) ((o.block _ (by omega) (by simp)).trans y)⟩
