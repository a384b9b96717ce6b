/- A region that draws its order, whose operations only read (or call what only reads) but for a forced tail: one walk of the lexical order, then the tail. Own law; no program in sight. -/
import Derived.BigQuiet
import Derived.Test.YtdbmifjankgfpaaGreatDoorKA11
set_option linter.all false
namespace Go.Proofs.YtdbmifjankgfpaaGreatDoor
open Go
variable {w W:World}{g n:Nat}{d j i e v:Value}{t:TypeId}{Q:Exit->Act->World->Prop}{a:Act}
section
def yA:=@getD_replicate_false
def Zj:=@getD_both
def Z6:=@ready_mono
variable {P:Program} {ops:Array Oper} {md:Region.Mode} {C:World->Prop}
def qs (P:Program)(md:Region.Mode)(ops:Array Oper)(C:World->Prop)(n:Nat)(L:Array Bool->Act->Prop):Nat->Array Bool->Act->Prop
 |0,listed,a=>L listed a
 |f+1,listed,a=>
  Region.ready md ops listed≠ []/\∀i∈Region.ready md ops listed,i<n/\qOp P ops C i (qs P md ops C n L f (listed.setIfInBounds i true)) a
theorem jT {L:Array Bool->Act->Prop}{Q':Exit->Act->World->Prop}(c:∀b a w,C w->L b a->wpAny P md ops Q' g b a w):
 ∀(f:Nat) (b:Array Bool) (a:Act) (w:World),C w->qs P md ops C n L f b a->wpAny P md ops Q' (f+g) b a w
 |0,b,a,w,hw,h=>by rw[zQ];exact c _ _ _ hw h
 |f+1,b,a,w,hw,h=>by
  rw[show f+1+g=(f+g)+1 by omega];exact⟨fun k=>absurd k h.1,fun i hi=>wpOp_of_qOp hw (fun j w' d e=>jT c f _ j w' d e) (h.2 i hi).2⟩
theorem AL {i:Nat}{r:Oper}{L:Array Bool->Act->Prop}(hi:ops[i]?=some r)(A:∀(j:Nat) (o:Oper) s b,ops[j]?=some o->o.op≠ .select s b)
 (E:Region.sinkB md ops n=true) (J:Region.chainB md ops n=true) (F:n<ops.size) (G:i<n)
 (S:∀c a,L c a->∀j∈Region.ready md ops c,n<=j):
 ∀(f:Nat) (c:Array Bool) (a:Act),HeadInv md ops n c->
  (∀j q,ops[j]?=some q->j≠i->c.getD j true=false->(∀e∈q.after,Region.binds md e=true->e.on≠i)->r.apart ops q=true)->
  i∈Region.ready md ops c->YieldsIn P ops C r v a->
  qs P md ops C n L f (c.setIfInBounds i true) (a.put r.dst v)->qs P md ops C n L (f+1) c a:=by
 intro f;induction f with
 |zero=>
  intro c a w _ d x H;have p:=(Zt.1 d).1;refine⟨fun h=>(by rw[h]at d;cases d),fun j m=> ?_⟩;have u:j<n:=by
   rcases xG j n with h|h
   ·exact h
   exact absurd m (tail_waits E J F w _ i rfl G p j h)
  refine⟨u, ?_⟩;by_cases l:j=i
  ·subst l;exact x.qOp hi H
  have:=S _ _ H j (Z6 m l);omega
 |succ f ih=>
  intro c a w I d x H;have p:=(Zt.1 d).1;refine⟨fun h=>(by rw[h]at d;cases d),fun j m=> ?_⟩;have u:j<n:=by
   rcases xG j n with h|h
   ·exact h
   exact absurd m (tail_waits E J F w _ i rfl G p j h)
  refine⟨u, ?_⟩;by_cases l:j=i
  ·subst l;exact x.qOp hi H
  have y:=(H.2 j (Z6 m l)).2;obtain⟨B,q,z,N⟩:=Zt.1 m;have Y:∀e∈q.after,Region.binds md e=true->e.on≠i:=fun e he R U=>by
   have y:=N e he R;rw[U,Zj p]at y;cases y
  have h2:=qOp_put z (I j q z l B Y) (fun s b=>A i r s b hi) (fun s b=>A j q s b z) x y;have M:∀k ok,ops[k]?=some ok->k≠i->(c.setIfInBounds j true).getD k true=false->
   (∀e∈ok.after,Region.binds md e=true->e.on≠i)->r.apart ops ok=true:=fun k ok O X p W=>by
   refine I k ok O X ?_ W;by_cases D:j=k
   ·subst D;exact B
   rw[getD_set_ne true D]at p;exact p
  refine qOp_mono (fun Z K=>ih (c.setIfInBounds j true) Z (w.set m u) M (Z6 d (xF l)) K.1 ?_) h2;rw[Array.setIfInBounds_comm _ _ l];exact K.2
theorem nE {d:Act->Prop}(m:Region.noSelect ops=true)(p:Region.sinkB md ops n=true)(e:Region.chainB md ops n=true)(s:n<ops.size):
 ∀(l:List Oper) (k:Nat) (b:Array Bool) (a:Act),(∀j,j<l.length->l[j]?=ops[k+j]?)->k+l.length=n->HeadInv md ops n b->
 Region.lexHead md ops g l.length k b=true->wpQuiet P ops C d l a->
 qs P md ops C n (fun q u=>Region.seqB md ops g n q=true/\d u) l.length b a
 | [],k,b,a,_,hk,_,hB,h=>by
  have:k=n:=by simpa using hk
  subst this;exact⟨by simpa[Region.lexHead]using hB,h⟩
 |o::l,k,b,a,hl,hk,inv,hB,h=>by
  have c:ops[k]?=some o:=by simpa using(hl 0 (by simp)).symm
  simp only[zx,Region.lexHead,zy]at hB;obtain⟨⟨w,z⟩,D⟩:=hB;have r:k<n:=by simp only[zx]at hk;omega
  have i:k∈Region.ready md ops b:=by simpa using w
  have x:qOp P ops C k (wpQuiet P ops C d l) a:=by unfold qOp;simp only[c];exact h
  obtain⟨v,B,y⟩:=yieldsIn_of_qOp c x;exact AL c (Region.noSelect_spec m) p e s r (fun q u A=>seqB_ready A.1) l.length b a inv (Region.free_spec c z) i B
   (nE m p e s l (k+1) _ _ (fun j E=>by have:=hl (j+1) (by simp;omega);simpa[yh,Zn 1 j]using this) (by simp only[zx]at hk;omega) (inv.set i r) D y)
theorem cH {id:Nat}{l:List Oper}(n:Nat)(q:P.follows .mixedOrders=true)(e:Region.lexTailB .any l.toArray n=true)
 (h:wpQuiet P l.toArray (fun w'=>∃k,w'=w.drewN k) (fun c=>∀k,wpList P l.toArray Q (l.drop n) c (w.drewN k)) (l.take n) a):(Code.region id l.toArray true).wp P Q a w:=by
 simp only[Region.lexTailB,zy,yb]at e;obtain⟨⟨⟨⟨u,p⟩,y⟩,B⟩,s⟩:=e;have C:n<l.length:=by simpa using p
 have b:(l.take n).length=n:=by simp;omega
 have d:(l.drop n).length=l.toArray.size-n:=by simp
 have z:HeadInv .any l.toArray n (Array.replicate l.toArray.size false):=
  ⟨by simp,fun j D _ o=>(by rw[yA]at o;cases o),fun t _ A=>getD_in (by simpa using A) (yA _ _)⟩
 have H:=nE (md:= .any) (g:=l.toArray.size-n) u y B p (l.take n) 0 _ a (fun j i=>by
  have x:j<n:=by rw[b]at i;exact i
  simp[x]) (by simpa using b) z (by rw[b];exact s) h
 refine wp_region_any q ?_;have:=jT (Q':=Q) (g:=l.toArray.size-n) (fun listed c w' r m=>by
  obtain⟨k,rfl⟩:=r;have:=wpAny_of_seq (md:= .any) (Q':=Q) (l.drop n) n listed c (w.drewN k) (fun j=>by simp[xx]) (by rw[d];exact m.1) (m.2 k);rwa [d]at this) _ _ _ _ ⟨1,rfl⟩ H
 rw[b,show n+(l.toArray.size-n)=l.toArray.size by omega]at this;exact this
end
open Go.RowKit
theorem qt {ops:Array Oper}{o:Oper}{K:Act->World->Prop}{B:Prop}(L:o.guard=none)(s x:Operand)
 (O:o.op= .call {callee:= .builtin .append,args:= #[s,x],argTypes:= #[26,26]}) (c:Nat) (acc:List It)  (M:a.eval s=v) (W:Acc w c acc v) (y:It) {l h:Value}
 (r:gz w (fun k=>c<=k/\v.ownBlock≠some k) y l h d) (g:Nat) (hx:a.eval x= .slice (some ⟨g,0,none⟩) 1 1) (F:w.cell? ⟨g,0,none⟩=some l) (S:w.cell? ⟨g,1,none⟩=some h) (E:w.cell? ⟨g,2,none⟩=some d)
 (X:acc.length<=1000000) (D:c<=w.heap.size)
 (G:∀b m cap w',Hid (m=acc.length+1)->Acc w' c (acc++ [y]) (.slice (some ⟨b,0,none⟩) m cap)->w.grownBy w' v.ownBlock->c<=b->K (a.put o.dst (.slice (some ⟨b,0,none⟩) m cap)) w'):
 if Region.wanted o (yielded ops a.tmps)=true then Oper.wp Tryz.prog o a w K Q else B:=by
 obtain⟨i0,hi,A,I,H⟩:=yH Ca;obtain⟨q,R,U⟩:=W;refine step_append_lies w L s x 26 O c 28 i0 _ 3 48 Tryz.underlying26 hi A I H rfl (by decide) v acc.length q M R ⟨g,0,none⟩ 1 1 [l,h,d] hx rfl ?_ (afB r) (by decide) (by simp only[maxLen];omega) (by omega) D w.heap.size rfl ?_
 ·intro j u hu;have N:∀j,(⟨g,0,none⟩:Addr).add j=⟨g,j,none⟩:=by intro j;unfold Addr.add;split<;>simp_all
  rw[N];match j,hu with
  |0,hu=>simp at hu;subst hu;exact F
  |1,hu=>simp at hu;subst hu;exact S
  |2,hu=>simp at hu;subst hu;exact E
 intro b cap w' z n i Y;have C:=IA z b rfl;refine G b _ cap w' (za rfl) ⟨q++ [l,h,d],by rw[zl];exact z, ?_⟩ n C;refine((U.snoc r).ag (fun k Z hS=>⟨hS.1, ?_⟩) fun p J hS=>zG (n.block _ J (fun e=>hS.2 e.symm)));intro e;have e:b=k:=by simpa[Value.ownBlock]using e
 rcases i with i|i
 ·exact hS.2 (by rw[i,e])
 omega
theorem ku {a b c:Value}(h:af w g t #[a,b,c]):w.cell? ⟨g,0,none⟩=some a/\w.cell? ⟨g,1,none⟩=some b/\w.cell? ⟨g,2,none⟩=some c:=⟨h.cell 0,h.cell 1,h.cell 2⟩
theorem abO {b t3 c:Value}(h:(w.alloc (.cells #[j,b,i,t3] 43)).alloc (.cells #[d,e,c] 28)=W):
 W.heap.size=w.heap.size+2/\Below w.heap.size w W/\af W w.heap.size 43 #[j,b,i,t3]/\af W (w.heap.size+1) 28 #[d,e,c]:=by
 subst h;exact⟨by simp,((zm _ w).alloc (zg _) _).alloc (by simp) _,(af.new w _ _).alloc _,af.at_ (by simp)⟩
def vD (w w':World)(x:It)(er:Int)(e:Ending):Prop:=
 Below w.heap.size w w'/\∃c0 c1 c2,e= .returned (.tuple #[.agg #[c0,c1,c2],.int .i64 er])/\gz w' (w.heap.size<= ·) x c0 c1 c2
theorem nF (w:World)(S:Nat->Prop):gz w S ju (.string ⟨#[]⟩) (.bool false) (.slice none 0 0):=gz.text false (by simp[ByteArray.size])
theorem afE {b c:Value}(h:W=w.alloc (.cells #[b,c,d] 28)):Below w.heap.size w W/\W.heap.size=w.heap.size+1/\af W w.heap.size 28 #[b,c,d]:=by
 subst h;exact⟨(zm _ _).alloc (zg _) _,by simp,af.new w _ _⟩
theorem dK (h:af w g t #[j,e,i])(c b d:Value):af (((w.setCell ⟨g,0,none⟩ c).setCell ⟨g,1,none⟩ b).setCell ⟨g,2,none⟩ d) g t #[c,b,d]:=((h.set 0 c).set 1 b).set 2 d
theorem fG (h:af w g t #[j,e,i])(b c d:Value):(w.setCell ⟨g,0,none⟩ b).cell? ⟨g,0,none⟩=some b/\((w.setCell ⟨g,0,none⟩ b).setCell ⟨g,1,none⟩ c).cell? ⟨g,1,none⟩=some c/\(((w.setCell ⟨g,0,none⟩ b).setCell ⟨g,1,none⟩ c).setCell ⟨g,2,none⟩ d).cell? ⟨g,2,none⟩=some d:=
 ⟨by have:=(h.set 0 b).cell 0;simpa using this,by have:=((h.set 0 b).set 1 c).cell 1;simpa using this,by have:=(((h.set 0 b).set 1 c).set 2 d).cell 2;simpa using this⟩
theorem PZ (w:World)(B:Nat)(t:ByteArray)(l:Bool)(h:t.size<=9223372036854775807):dX w B (.mk t l []) (.string t) (.bool l) (.slice none 0 0):=⟨rfl,rfl,h,by simp,none,0,rfl,by simp,by simp,trivial⟩
def Fq (w:World)(R:Option Ty)(e:Ending)(w':World):Prop:=
 Below w.heap.size w w'/\match R with
  |none=>e= .returned (.tuple #[.agg #[.int .i64 0,.int .i64 0,.slice none 0 0,.int .i64 0],.int .i64 3])
  |some x=>∃c0 c1 c2 c3,e= .returned (.tuple #[.agg #[c0,c1,c2,c3],.int .i64 0])/\fK w' (w.heap.size<= ·) x c0 c1 c2 c3
theorem iA.append {S:Nat->Prop}{t:List Ms}{c:List Value}(d:iA w S t c):∀{s:List Ms} {b:List Value},iA w S s b->iA w S (s++t) (b++c)
 | [],b,h=>by
  have h:b= []:=h;subst h;exact d
 |x::xs,b,h=>by
  obtain⟨e,i,m,j,es,rfl,k,l⟩:=h;exact⟨e,i,m,j,es++c,by simp,k,d.append l⟩
