/- A range over a function whose iterator keeps state of its own in cells: the body writes blocks of the list L alone. -/
import Derived.RangeFuncNested
import Derived.RangeFuncBound
import Derived.Shelf.RegionOpen
import Derived.OwnWalkIn
import Derived.LoopNIn
import Derived.LoopIn
import Derived.Test.YtpjgigllldipiaaGreatDoorKA1
set_option linter.all false
namespace Go.Proofs.YtpjgigllldipiaaGreatDoor
open Go.RowKit Go.Shelf
def zw:=@World.size_alloc
theorem iB (w:World)(l:Nat)(o:Obj):ae [l] w (w.putObj l o):=ae.cX (grownBy_putObj' w l o)
def KN {α:Type}(F:Fence)(n:Nat)(P:Program)(g:Nat)(lb:Array Value)(NT:α->Array Value)(xs:List α)(L:List Nat)(w:World):Prop:=
 ∀(l:Nat) (J:List α->World->Prop) (W:World),ae [] w W->w.heap.size<=l->l<W.heap.size->(∀s A B,J s A->Below W.heap.size A B->J s B)->
  (∀pre x W1,J pre W1->pre++ [x]<+:xs->YieldAt F (n-1) P l (NT x) W1 fun e W'=>e= .returned (.bool true)/\J (pre++ [x]) W'/\ae (l::L) W1 W')->
  J [] W->
  CallsIn F n P g (#[.func (.yield l) #[] #[]]++lb) W fun e W'=>(∃v,e= .returned v)/\J xs W'
variable {F:Fence} {n:Nat} {P:Program}
theorem vN {m:Type}{g:Operand}{C:Array Tmp}{assign body:Code}{Q:Exit->Act->World->Prop}{a:Act}{w:World}
 (Z:F.round=none) (h1:1<=n) {gf:Nat} {lb:Array Value} (hg:a.eval g= .func (.func gf) #[] lb) (ad:F.fn gf) (eg:∀args w,(callFunc gf args).run P w= .ok (.enter gf args) w)
 {z:m->Array Value} {xs:List m} {L:List Nat} (Xz:KN F (n-1) P gf lb z xs L w) (J:∀i,i∈L->i<w.heap.size) (ag:∀x,(z x).size=C.size)
 (I:List m->World->Prop) (q:∀s A B,I s A->Below w.heap.size A B->I s B) (h0:I [] w) (M:m->Act)
 (X:∀(l:Nat) (x:m) (W:World) (K:Act->World->Prop),K (M x) W->
  assign.wpIn (F.inRound l) (n-1-1) P (Exit.then K (fun _ _ _=>False)) {tmps:=(C.zip (z x)).foldl (fun t (p,v)=>t.setIfInBounds p v) a.tmps,defers:= []} W)
 (Gb:∀(l:Nat) (pre:List m) (x:m) (W:World),w.heap.size<=l->I pre W->pre++ [x]<+:xs->body.wpIn (F.inRound l) (n-1-1) P (fun e _ O=>e= .normal/\ae L W O/\I (pre++ [x]) O) (M x) W)
 (Ca:∀(D:Nat) (W:World),w.heap.size<=D->I xs W->W.heap[D]?=some (.deferred (some []))->Q .normal {a with defers:={target:= .collected D,args:= #[]}::a.defers} W):
 (Code.rangeFunc g C assign body).wpIn F n P Q a w:=by
 refine wpIn_rangeFunc fun fn aa=> ?_
 rw[Z];let c:Loop:={state:= .ready,pending:=none,fn,tmps:=a.tmps,params:=C,assign,body,defers:=w.heap.size}
 obtain⟨b,y⟩:∃b,(w.alloc (.deferred (some []))).alloc (.loop c)=b:=⟨_,rfl⟩
 have Vx:b.heap[w.heap.size+1]?=some (.loop c):=by
  rw[<-y];have:=World.alloc_heap_new (w.alloc (.deferred (some []))) (.loop c);rwa [zw]at this
 have af:b.heap[w.heap.size]?=some (.deferred (some [])):=by
  rw[<-y];exact(ZL _ _ _ (by simp)).trans (World.alloc_heap_new w _)
 have N:ae [] w b:=by rw[<-y];exact((ae.refl [] w).alloc _).alloc _
 have cc:b.heap.size=w.heap.size+2:=by rw[<-y];simp
 refine⟨w.heap.size+1,[{target:= .collected w.heap.size,args:= #[]}],b,{target:= .fn (.func gf) lb,args:= #[.func (.yield (w.heap.size+1)) #[] #[]]},b,gf,
  #[.func (.yield (w.heap.size+1)) #[] #[]]++lb,b, ?_, ?_, ?_, ?_,fun _=>h1, ?_⟩
 ·rw[<-y];exact run_enterLoop_outer _ _ _ _ _
 ·simp only[resolve,hg];simp[go_sem]
 ·intro f' H;simp[Target.leads]at H;subst H;exact ad
 ·simp[invoke,go_sem,eg]
 refine(Xz (w.heap.size+1) (fun pre W=>I pre W/\W.heap[w.heap.size+1]?=some (.loop c)/\W.heap[w.heap.size]?=some (.deferred (some []))) b N (by omega) (by omega) ?_ ?_
  ⟨q _ _ _ h0 (N.below (zi _) (by simp)),Vx,af⟩).mono ?_
 ·rintro s A B ⟨hi,j,r⟩ E;exact⟨q _ _ _ hi (E.mono (by omega)),(E.block _ (by omega)).trans j,(E.block _ (by omega)).trans r⟩
 ·rintro pre x W ⟨hi,j,r⟩ RI;have S:w.heap.size+1<W.heap.size:=(yj.1 j).1;have hy:=run_yield (P:=P) (args:=z x) j (ag x);refine⟨fn,_,assign,body,hy,roundIn_of_wpIn aa (X _ x W _ ⟨_,run_beginRound j rfl, ?_⟩)⟩;obtain⟨d,G⟩:∃d,W.putObj (w.heap.size+1) (.loop {c with state:= .busy})=d:=⟨_,rfl⟩
  rw[G];have k:ae [w.heap.size+1] W d:=G▸iB W _ _;have Y:d.heap[w.heap.size+1]?=some (.loop {c with state:= .busy}):=by rw[<-G];exact World.putObj_heap_same S
  have ep:d.heap[w.heap.size]?=some (.deferred (some [])):=(k.block _ (by omega) (by simp)).trans r;have U:I pre d:=q _ _ _ hi (k.below (by omega) (by simp));refine wpIn_mono (Gb _ pre x d (by omega) U RI) ?_;rintro e a3 W3 ⟨rfl,u,ab⟩;have R:=(u.block (w.heap.size+1) (by have:=k.size;omega) (fun h=>by have:=J _ h;omega)).trans Y;have Dl:=(u.block w.heap.size (by have:=k.size;omega) (fun h=>by have:=J _ h;omega)).trans ep;have o:=iB W3 (w.heap.size+1) (.loop c);refine⟨_,_,run_endRound (P:=P) none R,rfl,⟨q _ _ _ ab (o.below (by have:=k.size;have:=u.size;omega) (by simp)),World.putObj_heap_same (yj.1 R).1,(o.block _ (by have:=k.size;have:=u.size;omega) (by simp)).trans Dl⟩, ?_⟩;exact((k.mono (by simp)).trans (u.mono (fun _ h=>List.mem_cons_of_mem _ h))).trans (o.mono (by simp))
 rintro e d ⟨⟨v,rfl⟩,hi,j,r⟩;have o:=iB d (w.heap.size+1) (.loop {c with state:= .exhausted});have S:=(yj.1 j).1;exact⟨none,_,run_endLoop (P:=P) j (by simp[c]),Ca _ _ (zi _) (q _ _ _ hi (o.below (by omega) (by simp))) ((o.block _ (by omega) (by simp)).trans r)⟩
