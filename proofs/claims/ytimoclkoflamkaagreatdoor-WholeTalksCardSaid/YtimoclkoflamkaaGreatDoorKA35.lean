/- sha.mix: the eight boxes of its words, made and filled in an order that is drawn. -/
import Derived.Test.YtimoclkoflamkaaGreatDoorKA34
import Derived.Test.YtimoclkoflamkaaGreatDoorKA10
import Derived.Laws.EntriesVeiled
set_option linter.all false
open Go.Proofs.Tryz
namespace Go.Proofs.YtimoclkoflamkaaGreatDoor
open Go.RowKit Go.Shelf
variable {n g k i id:Nat}{P:Program}{l:List Oper}{t:Sh}{Q:Exit->Act->World->Prop}{a:Act}{F:Fence}{o:Oper}{v:Value}
def YI:=@Array.mem_of_getElem?
def kC (s:Sh):Value:= .agg #[.int .u32 s.a,.int .u32 s.b,.int .u32 s.c,.int .u32 s.d,.int .u32 s.e,.int .u32 s.f,.int .u32 s.g,.int .u32 s.h]
def ug (s:Sh)(blk:ByteArray)(b:Nat)(x:Nat->Value):Act:={tmps:= #[kC s,blk,(b,0),undef,(b+1,0),(b+1+1,0),x 6,x 7,x 8,x 9,x 10,x 11,x 12,x 13,undef,undef,undef,undef,undef,undef,undef,undef,x 22,x 23,x 24,x 25,x 26,x 27,x 28,x 29,x 30,x 31,x 32,x 33,x 34,x 35,x 36,x 37,undef,undef,undef,undef,undef,undef,undef,undef,undef,undef,undef,undef,undef,undef,undef,undef,undef,undef,undef,undef,undef,undef,undef,undef,undef,undef,undef,undef,undef,undef,undef,undef,undef,undef,undef,undef,undef,undef,undef,undef,undef,undef,undef,undef,undef,undef,undef,undef,undef,undef,undef,undef,undef,undef,undef,undef,undef,undef,undef,undef,undef,undef,undef,undef,undef,undef,undef,undef,undef,undef,undef,undef],defers:= []}
def Fi (x:Nat->Value)(k:Nat)(v:Value):Nat->Value:=fun i=>if i=k then v else x i
def gV (n:Nat):Value:= .int .u32 n
structure MJ (W:World)(listed:Array Bool)(x:Nat->Value)(b m:Nat)(s:Sh)(q:Nat->Nat)(w:World):Prop where
 sz:listed.size=32
 ad:∀j,j<8->listed.getD (2*j) false=true->x (22+2*j)= .pointer (some (b,j))
 ld:∀j,j<8->listed.getD (2*j+1) false=true->x (23+2*j)=gV (s.list.getD j 0)
 al:∀j,j<8->listed.getD (16+j) false=true->x (6+j)= .pointer (some (W.heap.size+q j,0))/\q j<m/\af w (W.heap.size+q j) 22 #[gV (if listed.getD (24+j) false=true then s.list.getD j 0 else 0)]
 ne:∀i j,i<8->j<8->listed.getD (16+i) false=true->listed.getD (16+j) false=true->i≠j->q i≠q j
 st:∀j,j<8->listed.getD (24+j) false=true->listed.getD (16+j) false=true
 hz:w.heap.size=W.heap.size+m
 bl:Below W.heap.size W w
theorem MJ.start (W:World)(x:Nat->Value)(b:Nat)(s:Sh)(q:Nat->Nat):MJ W (Array.replicate 32 false) x b 0 s q W where
 sz:=by simp
 ad:=fun j _ h=>by rw[yB]at h;cases h
 ld:=fun j _ h=>by rw[yB]at h;cases h
 al:=fun j _ h=>by rw[yB]at h;cases h
 ne:=fun i j _ _ h=>by rw[yB]at h;cases h
 st:=fun j _ h=>by rw[yB]at h;cases h
 hz:=rfl
 bl:=zi _ _
variable {W w:World} {listed:Array Bool} {x:Nat->Value} {b m:Nat} {s:Sh} {q:Nat->Nat}
theorem MJ.addr (h:MJ W listed x b m s q w)(j:Nat)(o:j<8):MJ W (listed.setIfInBounds (2*j) true) (Fi x (22+2*j) (b,j)) b m s q w where
 sz:=by simp[h.sz]
 ad:=by
  intro i hi d;unfold Fi;by_cases e:i=j
  ·subst e;simp
  rw[zf (by omega)];rcases dr d with c|c
  ·omega
  exact h.ad i hi c
 ld:=by
  intro i hi d;unfold Fi;rw[zf (by omega)];rcases dr d with c|c
  ·omega
  exact h.ld i hi c
 al:=by
  intro i hi d;unfold Fi;rw[zf (by omega),bT (by omega)];rw[bT (by omega)]at d;exact h.al i hi d
 ne:=by
  intro i k hi n c l;rw[bT (by omega)]at c l;exact h.ne i k hi n c l
 st:=by
  intro i hi c;rw[bT (by omega)]at c⊢;exact h.st i hi c
 hz:=h.hz
 bl:=h.bl
theorem MJ.load (h:MJ W listed x b m s q w)(j:Nat)(o:j<8):MJ W (listed.setIfInBounds (2*j+1) true) (Fi x (23+2*j) (gV (s.list.getD j 0))) b m s q w where
 sz:=by simp[h.sz]
 ad:=by
  intro i hi d;unfold Fi;rw[zf (by omega)];rcases dr d with c|c
  ·omega
  exact h.ad i hi c
 ld:=by
  intro i hi d;unfold Fi;by_cases e:i=j
  ·subst e;simp
  rw[zf (by omega)];rcases dr d with c|c
  ·omega
  exact h.ld i hi c
 al:=by
  intro i hi d;unfold Fi;rw[zf (by omega),bT (by omega)];rw[bT (by omega)]at d;exact h.al i hi d
 ne:=by
  intro i k hi n c l;rw[bT (by omega)]at c l;exact h.ne i k hi n c l
 st:=by
  intro i hi c;rw[bT (by omega)]at c⊢;exact h.st i hi c
 hz:=h.hz
 bl:=h.bl
theorem MJ.alloc (h:MJ W listed x b m s q w)(j:Nat)(z:j<8)(r:listed.getD (16+j) false=false):MJ W (listed.setIfInBounds (16+j) true) (Fi x (6+j) (w.heap.size,0)) b (m+1) s (fun i=>if i=j then m else q i) (w.alloc (.cells #[.int .u32 0] 22)) where
 sz:=by simp[h.sz]
 ad:=by
  intro i hi l;unfold Fi;rw[zf (by omega)];rcases dr l with c|c
  ·omega
  exact h.ad i hi c
 ld:=by
  intro i hi l;unfold Fi;rw[zf (by omega)];rcases dr l with c|c
  ·omega
  exact h.ld i hi c
 al:=by
  intro i hi l;unfold Fi;rw[bT (by omega)];by_cases e:i=j
  ·subst e;have u:¬listed.getD (24+i) false=true:=fun d=>by rw[h.st i hi d]at r;cases r
   rw[zg rfl,zg rfl,zf u,h.hz];refine⟨rfl,by omega, ?_⟩;have:=af.new w 22 #[.int .u32 0];rw[h.hz]at this;exact this
  rw[zf (by omega),zf e];rcases dr l with c|c
  ·omega
  obtain⟨y,a2,a3⟩:=h.al i hi c;exact⟨y,by omega,a3.alloc _⟩
 ne:=by
  intro i k hi o c d p;by_cases e:i=j
  ·subst e;rw[zg rfl,zf (Zj p)];rcases dr d with d|d
   ·omega
   have:=(h.al k o d).2.1;omega
  rw[zf e];rcases dr c with c|c
  ·omega
  by_cases n:k=j
  ·rw[zg n];have:=(h.al i hi c).2.1;omega
  rw[zf n];rcases dr d with d|d
  ·omega
  exact h.ne i k hi o c d p
 st:=by
  intro i hi c;rw[bT (by omega)]at c;exact getD_set_true (h.st i hi c)
 hz:=by simp[h.hz];omega
 bl:=h.bl.alloc (by have:=h.hz;omega) _
theorem MJ.store (h:MJ W listed x b m s q w)(j:Nat)(p:j<8)(l:listed.getD (16+j) false=true):MJ W (listed.setIfInBounds (24+j) true) x b m s q (w.setCell (W.heap.size+q j,0) (gV (s.list.getD j 0))) where
 sz:=by simp[h.sz]
 ad:=by
  intro i hi c;rw[bT (by omega)]at c;exact h.ad i hi c
 ld:=by
  intro i hi c;rw[bT (by omega)]at c;exact h.ld i hi c
 al:=by
  intro i hi c;rw[bT (by omega)]at c;obtain⟨r,a2,a3⟩:=h.al i hi c;refine⟨r,a2, ?_⟩;by_cases e:i=j
  ·subst e;rw[zg (Kd (by rw[h.sz];omega))];have:=a3.set 0 (gV (s.list.getD i 0));simpa using this
  rw[bT (by omega)];exact a3.dI (by have:=h.ne i j hi p c l e;simp;omega) _
 ne:=by
  intro i k hi o d n;rw[bT (by omega)]at d n;exact h.ne i k hi o d n
 st:=by
  intro i hi d;rw[bT (by omega)];rcases dr d with d|d
  ·obtain rfl:i=j:=by omega
   exact l
  exact h.st i hi d
 hz:=by simp[World.setCell,h.hz]
 bl:=h.bl.setCell (by simp) _
def aiT (s:Sh)(blk:ByteArray)(b:Nat)(W:World)(listed:Array Bool)(a:Act)(w:World):Prop:=∃x m q,a=ug s blk b x/\MJ W listed x b m s q w
open Go
def rB (l:List Oper):Bool:=l.all fun o=>match o.op with| .defer _=>false|_=>true
theorem KF (h:rB l=true)(e:l.toArray[i]?=some o):∀c,o.op≠ .defer c:=by
 intro c d;have b:o∈l:=by simpa using YI e
 have:=Zh.1 h o b;rw[d]at this;cases this
theorem AO {K:Act->World->Prop}{w:World}(e:F.round=none)(d:rB l=true)(h:wpOpIn F n P l.toArray Q i K a w):wpOpIn (F.inRound k) n P l.toArray Q i K a w:=by
 unfold wpOpIn at h⊢;split
 ·rename_i b;simp only[b]at h;exact h
 rename_i o b
 simp only[b]at h;split
 ·rename_i c
  simp only[c,xM]at h;unfold Oper.wpIn at h⊢;rw[e,Oper.semAt_none]at h;rw[Fence.inRound_round,Oper.semAt_some _ _ _ (KF d b)];exact h
 rename_i c
 simp only[c,xO]at h;exact h
theorem my {md:Region.Mode}(k:Nat)(d:F.round=none)(e:rB l=true):∀(b:Nat) (c:Array Bool) (a:Act) (w:World),wpAnyIn F n P md l.toArray Q b c a w->wpAnyIn (F.inRound k) n P md l.toArray Q b c a w
 |0,_,_,_,h=>h
 |b+1,c,a,w,h=>⟨h.1,fun i hi=>wpOpIn_mono (fun a w=>my k d e b _ a w) (AO d e (h.2 i hi))⟩
theorem lx {w:World}(k:Nat)(d:F.round=none)(i:P.follows .mixedOrders=true)(b:Region.lexB .any l.toArray=true)(e:rB l=true)
 (h:wpQuietIn F n P l.toArray (fun w'=>∃n,w'=w.drewN n) (fun c=>∀w',(∃n,w'=w.drewN n)->Q .normal c w') l a):(Code.region id l.toArray true).wpIn (F.inRound k) n P Q a w:=by
 simp only[Region.lexB,zv]at b;refine wpIn_region_any i (my k d e _ _ _ _ (wpAnyIn_of_quiet (C:=fun w'=>∃n,w'=w.drewN n) (Q:=fun c=>∀w',(∃n,w'=w.drewN n)->Q .normal c w') d (fun _ w' j h=>h w' j) _ _ _ _ ⟨1,rfl⟩ ?_));have:=wpAnyQIn_lex (F:=F) (n:=n) (C:=fun w'=>∃n,w'=w.drewN n) (md:= .any) b.1 l.toArray.toList 0 (Array.replicate l.toArray.size false) a (by simp) (by simpa using b.2) (by simpa using h);simpa using this
theorem EB {C:World->Prop}{K c:Act->Prop}(j:∀a,K a->c a)(h:o.quiet P a C K):o.quietIn Fence.wide n P a C c:=by
 obtain⟨v,e,i⟩:=h;refine⟨v,fun w d=> ?_,j _ i⟩;have b:=e w d;unfold Oper.quietAt at b;unfold Oper.quietAtIn;generalize (execOp a.eval o).run P w=r at*;cases r with
 |ok x w'=>
  cases x<;>simp only[Oper.quietUpon]at b<;>simp only[Oper.quietUponIn]
  case value u=>exact b
  case skip=>exact b
  case enter f args=>exact⟨b.1,(fun h=>by cases h),Yt.2 b.2⟩
 |halt x w'=>simp only[Oper.quietUpon]at b
theorem jT {ops:Array Oper}{C:World->Prop}{Q:Act->Prop}:∀(l:List Oper) (a:Act),wpQuiet P ops C Q l a->wpQuietIn Fence.wide n P ops C Q l a
 | [],_,h=>h
 |o::rest,a,h=>by
  refine⟨fun _ _ _ _=>trivial, ?_⟩;unfold wpQuiet at h;split
  ·rename_i b
   rw[zg b]at h;exact EB (fun c d=>jT rest c d) h
  rename_i b
  rw[zf b]at h;exact jT rest _ h
theorem kJ {w:World}(k:Nat)(j:P.follows .mixedOrders=true)(c:Region.lexB .any l.toArray=true)(d:rB l=true)
 (h:wpQuiet P l.toArray (fun w'=>∃n,w'=w.drewN n) (fun b=>∀n,Q .normal b (w.drewN n)) l a):(Code.region id l.toArray true).wpIn (Fence.wide.inRound k) n P Q a w:=by
 refine lx k rfl j c d (jT _ _ ?_);have e:(fun b=>∀w',(∃n,w'=w.drewN n)->Q .normal b w')=(fun b=>∀n,Q .normal b (w.drewN n)):=by
  funext b
  exact propext ⟨fun h n=>h _ ⟨n,rfl⟩,fun h w' ⟨n,i⟩=>i▸h n⟩
 rw[e];exact h
structure pe (w:World)(b:Nat)(p:Nat->Nat)(s t:Sh)(W:World):Prop where
 box:∀j,j<8->af W (p j) 22 #[gV (t.list.getD j 0)]
 sta:af W b 274 #[.int .u32 s.a,.int .u32 s.b,.int .u32 s.c,.int .u32 s.d,.int .u32 s.e,.int .u32 s.f,.int .u32 s.g,.int .u32 s.h]
 res:af W (b+1) 274 #[.int .u32 0,.int .u32 0,.int .u32 0,.int .u32 0,.int .u32 0,.int .u32 0,.int .u32 0,.int .u32 0]
 fn:af W (b+1+1) 287 #[.func (.func 236) #[] #[]]
 only:ae [] w W
theorem pe.ah {w:World}{b:Nat}{p:Nat->Nat}{s:Sh}{W e:World}{B:Nat}(h:pe w b p s t W)(c:Below B W e)(i:∀j,j<8->p j<B)(n:b+2<B)(o:w.heap.size<=B):pe w b p s t e where
 box:=fun j d=>(c.block _ (i j d)).trans (h.box j d)
 sta:=(c.block _ (by omega)).trans h.sta
 res:=(c.block _ (by omega)).trans h.res
 fn:=(c.block _ (by omega)).trans h.fn
 only:=⟨c.os.trans h.only.os,c.tape.trans h.only.tape,c.output.trans h.only.output,zz h.only.size c.size,fun k l m=>(c.block k (by omega)).trans (h.only.block k l m)⟩
def boxes (p:Nat->Nat):List Nat:= [p 0,p 1,p 2,p 3,p 4,p 5,p 6,p 7]
theorem lz {p:Nat->Nat}(h:k∈boxes p):∃j,j<8/\k=p j:=by
 simp only[boxes,yj,List.not_mem_nil,or_false]at h;rcases h with h|h|h|h|h|h|h|h
 ·exact⟨0,by omega,h⟩
 ·exact⟨1,by omega,h⟩
 ·exact⟨2,by omega,h⟩
 ·exact⟨3,by omega,h⟩
 ·exact⟨4,by omega,h⟩
 ·exact⟨5,by omega,h⟩
 ·exact⟨6,by omega,h⟩
 exact⟨7,by omega,h⟩
theorem Pe (p:Nat->Nat)(j:Nat)(h:j<8):p j∈boxes p:=by
 have:j=0\/j=1\/j=2\/j=3\/j=4\/j=5\/j=6\/j=7:=by omega
 rcases this with rfl|rfl|rfl|rfl|rfl|rfl|rfl|rfl<;>simp[boxes]
def AP (W:World)(p:Nat->Nat)(t:Sh):World:=
 (((((((W.setCell (p 0,0) (gV t.a)).setCell (p 1,0) (gV t.b)).setCell (p 2,0) (gV t.c)).setCell (p 3,0) (gV t.d)).setCell (p 4,0) (gV t.e)).setCell (p 5,0) (gV t.f)).setCell (p 6,0) (gV t.g)).setCell (p 7,0) (gV t.h)
theorem uh (W:World)(p:Nat->Nat)(t:Sh):ae (boxes p) W (AP W p t):=by
 unfold AP;have h:=fun j b=>Pe p j b
 exact((((((((ae.refl (boxes p) W).setCell (.inl (h 0 (by omega))) _).setCell (.inl (h 1 (by omega))) _).setCell (.inl (h 2 (by omega))) _).setCell (.inl (h 3 (by omega))) _).setCell (.inl (h 4 (by omega))) _).setCell (.inl (h 5 (by omega))) _).setCell (.inl (h 6 (by omega))) _).setCell (.inl (h 7 (by omega))) _
theorem Pf {W:World}{p:Nat->Nat}{u:Sh}(h:∀j,j<8->af W (p j) 22 #[gV (t.list.getD j 0)])(l:∀i j,i<8->j<8->i≠j->p i≠p j):∀j,j<8->af (AP W p u) (p j) 22 #[gV (u.list.getD j 0)]:=by
 intro j b;unfold AP;have key:∀(k:Nat) (v:Value) (X:World) (c:Value),k<8->af X (p j) 22 #[c]->af (X.setCell (p k,0) v) (p j) 22 #[if j=k then v else c]:=by
  intro k v X c m d;by_cases e:j=k
  ·subst e;rw[zg rfl];exact d.set 0 v
  rw[zf e];exact d.dI (l j k b m e) v
 have:=key 7 (gV u.h) _ _ (by omega) (key 6 (gV u.g) _ _ (by omega) (key 5 (gV u.f) _ _ (by omega) (key 4 (gV u.e) _ _ (by omega) (key 3 (gV u.d) _ _ (by omega) (key 2 (gV u.c) _ _ (by omega) (key 1 (gV u.b) _ _ (by omega) (key 0 (gV u.a) _ _ (by omega) (h j b))))))));have n:j=0\/j=1\/j=2\/j=3\/j=4\/j=5\/j=6\/j=7:=by omega
 rcases n with rfl|rfl|rfl|rfl|rfl|rfl|rfl|rfl<;>exact this
theorem pe.put {w:World}{b:Nat}{p:Nat->Nat}{s:Sh}{W:World}(h:pe w b p s t W)(u:Sh)(m:∀j,j<8->b+2<p j)(n:∀j,j<8->w.heap.size<=p j)(l:∀i j,i<8->j<8->i≠j->p i≠p j):pe w b p s u (AP W p u):=by
 have c:=uh W p u;have e:∀k,k<=b+2->k∉boxes p:=fun k q o=>by obtain⟨j,d,rfl⟩:=lz o;have:=m j d;omega
 exact⟨Pf h.box l,h.sta.only c (e _ (by omega)),h.res.only c (e _ (by omega)),h.fn.only c (e _ (by omega)),h.only.trans' c fun i hi=> .inr (by obtain⟨j,d,rfl⟩:=lz hi;exact n j d)⟩
theorem Calls.fe {f:FuncId}{args:Array Value}{w:World}(h:Calls P f args (w.drewN n) fun e w'=>e= .returned v/\w.drewN n=w'):Calls P f args (w.drewN n) fun e b=>e= .returned v/\∃m,b=w.drewN m:=
 h.mono fun _ _ ⟨c,d⟩=>⟨c,n,d.symm⟩
theorem abh (x:Nat)(w:World)(hx:x<4294967296):Calls prog 239 #[.int .u32 x,(6:Int),(11:Int),(25:Int)] w fun e w'=>e= .returned (.int .u32 (Sg1 x:Nat))/\w=w':=GM x 6 11 25 w hx (by omega) (by omega) (by omega)
theorem abi (x:Nat)(w:World)(hx:x<4294967296):Calls prog 239 #[.int .u32 x,(2:Int),(13:Int),(22:Int)] w fun e w'=>e= .returned (.int .u32 (Sg0 x:Nat))/\w=w':=GM x 2 13 22 w hx (by omega) (by omega) (by omega)
theorem Hu (e f g:Nat)(b:e<4294967296)(h:f<4294967296)(i:g<4294967296):bits .xor .u32 (bits .and .u32 (e:Int) (f:Int)) (bits .and .u32 (bits .xor .u32 IntKind.u32.max (e:Int)) (g:Int))=((FI e f g:Nat):Int):=by
 have c:=xor_val (show 4294967295<4294967296 by omega) b;have d:((4294967295:Nat):Int)=IntKind.u32.max:=by decide
 rw[d]at c;rw[and_val b h,c,Nat.xor_comm,and_val (dw b (by omega)) i,xor_val (eE b) (eE (dw b (by omega))),QJ e f g b]
theorem Pg (a b c:Nat)(d:a<4294967296)(e:b<4294967296)(h:c<4294967296):bits .xor .u32 (bits .xor .u32 (bits .and .u32 (a:Int) (b:Int)) (bits .and .u32 (a:Int) (c:Int))) (bits .and .u32 (b:Int) (c:Int))=((vQ a b c:Nat):Int):=by
 rw[and_val d e,and_val d h,and_val e h,xor_val (eE d) (eE d),xor_val (dw (eE d) (eE d)) (eE e),NL]
theorem KG {blk:ByteArray}{pre:List (Nat×Nat)}{x:Nat×Nat}(h:pre++ [x]<+:cU blk 64):pre.length<64/\x=(pre.length,mD blk pre.length):=by
 have c:=h.length_le;have e:(cU blk 64).length=64:=by simp[cU]
 rw[zh,yI,e]at c;refine⟨by omega, ?_⟩;obtain⟨t,d⟩:=h;have b:(cU blk 64)[pre.length]?=some x:=by rw[<-d,zB,yg (ze _),Zf];rfl
 rw[cU,xV,List.getElem?_range (by omega)]at b;injection b with b;exact b.symm
def cM (s:Sh):Array Value:= #[.int .u32 s.a,.int .u32 s.b,.int .u32 s.c,.int .u32 s.d,.int .u32 s.e,.int .u32 s.f,.int .u32 s.g,.int .u32 s.h]
def ui (k:Nat)(s t:Sh):Sh:=⟨if 0<k then(s.a+t.a)%4294967296 else s.a,if 1<k then(s.b+t.b)%4294967296 else s.b,if 2<k then(s.c+t.c)%4294967296 else s.c,if 3<k then(s.d+t.d)%4294967296 else s.d,
 if 4<k then(s.e+t.e)%4294967296 else s.e,if 5<k then(s.f+t.f)%4294967296 else s.f,if 6<k then(s.g+t.g)%4294967296 else s.g,if 7<k then(s.h+t.h)%4294967296 else s.h⟩
theorem Wc (s t:Sh):ui 8 s t=Xs s t:=rfl
theorem Ph (s:Sh)(blk:ByteArray):qq vT s blk=ui 8 s (fJ vT blk 64 s):=by rw[Wc];unfold qq;rfl
structure jU (w:World)(b D:Nat)(s t:Sh)(i:Value)(W:World):Prop where
 ex:∃k:Nat,k<=8/\i= .int .i64 k/\af W b 274 (cM (ui k s t))/\af W (b+1) 274 #[.int .u32 0,.int .u32 0,.int .u32 0,.int .u32 0,.int .u32 0,.int .u32 0,.int .u32 0,.int .u32 0]/\ae [] w W/\W.heap[D]?=some (.deferred (some []))
theorem ma (t:Sh)(w:World)(i:Nat)(v:Value)(h:(cM t)[i]?=some v):(Instr.index 274 (.agg #[.int .u32 t.a,.int .u32 t.b,.int .u32 t.c,.int .u32 t.d,.int .u32 t.e,.int .u32 t.f,.int .u32 t.g,.int .u32 t.h]) (i:Int)).run prog w= .ok v w:=by
 have b:i=0\/i=1\/i=2\/i=3\/i=4\/i=5\/i=6\/i=7\/8<=i:=by omega
 unfold cM at h;rcases b with rfl|rfl|rfl|rfl|rfl|rfl|rfl|rfl|b
 ·simp at h;subst h;show _=_;kernel_rfl
 ·simp at h;subst h;show _=_;kernel_rfl
 ·simp at h;subst h;show _=_;kernel_rfl
 ·simp at h;subst h;show _=_;kernel_rfl
 ·simp at h;subst h;show _=_;kernel_rfl
 ·simp at h;subst h;show _=_;kernel_rfl
 ·simp at h;subst h;show _=_;kernel_rfl
 ·simp at h;subst h;show _=_;kernel_rfl
 rw[xq (by simp;omega)]at h;cases h
theorem jU.next {w:World}{b D:Nat}{s:Sh}{i:Value}{W:World}(d:af (W.setCell (b,k) v) b 274 ((cM (ui k s t)).setIfInBounds k v))
 (e:af W (b+1) 274 #[.int .u32 0,.int .u32 0,.int .u32 0,.int .u32 0,.int .u32 0,.int .u32 0,.int .u32 0,.int .u32 0]) (h:ae [] w W) (hd:W.heap[D]?=some (.deferred (some []))) (l:b+1<D) (j:w.heap.size<=b) (m:k<8)
 (c:(cM (ui k s t)).setIfInBounds k v=cM (ui (k+1) s t)) (hi:i= .int .i64 ((k+1:Nat):Int)):jU w b D s t i (W.setCell (b,k) v):=
 ⟨k+1,by omega,hi,c▸d,e.dI (by simp) _,h.setCell (.inr j) _,(zR _ _ _ _ (by simp;omega)).trans hd⟩
def nW (W:World)(g:Nat)(u:Sh):World:=(((((((W.setCell (g,0) (.int .u32 u.a)).setCell (g,1) (.int .u32 u.b)).setCell (g,2) (.int .u32 u.c)).setCell (g,3) (.int .u32 u.d)).setCell (g,4) (.int .u32 u.e)).setCell (g,5) (.int .u32 u.f)).setCell (g,6) (.int .u32 u.g)).setCell (g,7) (.int .u32 u.h)
theorem KH {W:World}(u:Sh)(h:af W g 274 #[.int .u32 0,.int .u32 0,.int .u32 0,.int .u32 0,.int .u32 0,.int .u32 0,.int .u32 0,.int .u32 0]):af (nW W g u) g 274 (cM u):=by
 have b:=(((((((h.set 0 (.int .u32 u.a)).set 1 (.int .u32 u.b)).set 2 (.int .u32 u.c)).set 3 (.int .u32 u.d)).set 4 (.int .u32 u.e)).set 5 (.int .u32 u.f)).set 6 (.int .u32 u.g)).set 7 (.int .u32 u.h);simp only[zb,zc,zd]at b;exact b
theorem Hv (W:World)(g:Nat)(u:Sh)(k:Nat)(h:k≠g):(nW W g u).heap[k]?=W.heap[k]?:=by
 unfold nW;have e:=fun(X:World) (j:Nat) (v:Value)=>zR X (g,j) v k h
 rw[e,e,e,e,e,e,e,e]
theorem uj {L:List Nat}{w W:World}(u:Sh)(h:ae L w W)(b:w.heap.size<=g):ae L w (nW W g u):=
 (((((((h.setCell (.inr b) _).setCell (.inr b) _).setCell (.inr b) _).setCell (.inr b) _).setCell (.inr b) _).setCell (.inr b) _).setCell (.inr b) _).setCell (.inr b) _
theorem abj {tmps:Array Value}{V:World}(u:Sh)(c:tmps.getD 4 undef= .pointer (some (g,0)))(b:af V g 274 (cM u)):
 (results f226 tmps).run prog V= .ok (kC u) V:=by
 have h:V.cell? (g,0)=some (.int .u32 u.a):=b.cell 0;have l:V.cell? (g,1)=some (.int .u32 u.b):=b.cell 1;have i:V.cell? (g,2)=some (.int .u32 u.c):=b.cell 2;have j:V.cell? (g,3)=some (.int .u32 u.d):=b.cell 3;have d:V.cell? (g,4)=some (.int .u32 u.e):=b.cell 4;have k:V.cell? (g,5)=some (.int .u32 u.f):=b.cell 5;have m:V.cell? (g,6)=some (.int .u32 u.g):=b.cell 6;have e:V.cell? (g,7)=some (.int .u32 u.h):=b.cell 7;simp only[Array.getD_eq_getD_getElem?]at c;simp[results,results226,go_sem,c,h,l,i,j,d,k,m,e,kC]
open Go.RowKit
theorem af.AQ {W:World}{u:Sh}(h:af W g 274 (cM u)):
 (W,g,0,Value.int .u32 u.a)/\(W,g,1,Value.int .u32 u.b)/\(W,g,2,Value.int .u32 u.c)/\(W,g,3,Value.int .u32 u.d)/\
 (W,g,4,Value.int .u32 u.e)/\(W,g,5,Value.int .u32 u.f)/\(W,g,6,Value.int .u32 u.g)/\(W,g,7,Value.int .u32 u.h):=
 ⟨h.cell 0,h.cell 1,h.cell 2,h.cell 3,h.cell 4,h.cell 5,h.cell 6,h.cell 7⟩
theorem af.XM {W:World}{u:Sh}(h:af W g 274 (cM u)):
 W.frozen? (g,0)=false/\W.frozen? (g,1)=false/\W.frozen? (g,2)=false/\W.frozen? (g,3)=false/\W.frozen? (g,4)=false/\W.frozen? (g,5)=false/\W.frozen? (g,6)=false/\W.frozen? (g,7)=false:=
 ⟨h.frozen 0,h.frozen 1,h.frozen 2,h.frozen 3,h.frozen 4,h.frozen 5,h.frozen 6,h.frozen 7⟩
theorem KI {W:World}{v:Sh}(u:Sh)(h:af W g 274 (cM v)):af (nW W g u) g 274 (cM u):=by
 have b:=(((((((h.set 0 (.int .u32 u.a)).set 1 (.int .u32 u.b)).set 2 (.int .u32 u.c)).set 3 (.int .u32 u.d)).set 4 (.int .u32 u.e)).set 5 (.int .u32 u.f)).set 6 (.int .u32 u.g)).set 7 (.int .u32 u.h);unfold cM at b;simp only[zb,zc,zd]at b;exact b
structure s5 (w:World)(B:Nat)(v:Sh)(s:ByteArray)(top:Nat)(at_:Value)(wr:World):Prop where
 ex:∃i a:Nat,a=64*i/\at_= .int .i64 a/\a<=top/\af wr B 274 (cM (fz v s i))/\ae [] w wr
theorem Pj (t:Sh)(k:Nat)(h:k<8):(cM t)[k]?=some (.int .u32 (t.list.getD k 0:Nat)):=by
 have b:k=0\/k=1\/k=2\/k=3\/k=4\/k=5\/k=6\/k=7:=by omega
 rcases b with rfl|rfl|rfl|rfl|rfl|rfl|rfl|rfl<;>rfl
theorem Sh.aeL (h:t.ok)(k:Nat):t.list.getD k 0<4294967296:=by
 obtain⟨a,b,c,d,e,f,g,i⟩:=h;have j:k=0\/k=1\/k=2\/k=3\/k=4\/k=5\/k=6\/k=7\/8<=k:=by omega
 rcases j with rfl|rfl|rfl|rfl|rfl|rfl|rfl|rfl|j
 ·exact a
 ·exact b
 ·exact c
 ·exact d
 ·exact e
 ·exact f
 ·exact g
 ·exact i
 rw[zu,yZ (by simp[Sh.list];omega)];simp
def nu (l:List Nat):Array Value:=(l.map fun n=>Value.int .u32 (n:Nat)).toArray
