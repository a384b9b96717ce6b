/- A region that draws its order and whose last operation waits for all the others: a condition on the world lets loads be taken first, and need not stand behind the last operation. Own law; no program in sight. -/
import Derived.StillTail
import Derived.Deep.RegionHeld3
set_option linter.all false
namespace Go.Proofs.YtpjgigllldipiaaGreatDoor
open Go
section
def zk:=@if_neg
def zm:=@if_pos
def zG:=@Bool.and_eq_true
def yl:=@decide_eq_true_eq
def yV:=@getD_replicate_false
def xi:=@beq_iff_eq
def Zm:=@Nat.lt_or_ge
def Z5:=@Ne.symm
def Yd:=@getD_both
def Yz:=@mem_ready
variable {P:Program} {ops:Array Oper} {Q:Exit->Act->World->Prop} {md:Region.Mode} {S:World->Prop} {n:Nat}
def rr (P:Program)(md:Region.Mode)(ops:Array Oper)(Q:Exit->Act->World->Prop)(S:World->Prop)(n:Nat):Nat->Array Bool->Act->World->Prop
 |0,listed,a,w=>Region.ready md ops listed= []/\Q .normal a w
 |fuel+1,listed,a,w=>
  (Region.ready md ops listed= []->Q .normal a w)/\
  ∀i∈Region.ready md ops listed,wpOp P ops Q i (fun a' w'=>(i≠n->S w')/\rr P md ops Q S n fuel (listed.setIfInBounds i true) a' w') a w
theorem vf :∀(b:Nat) (c:Array Bool) (a:Act) (w:World),rr P md ops Q S n b c a w->wpAny P md ops Q b c a w
 |0,_,_,_,h=>h
 |b+1,_,_,_,h=>⟨h.1,fun i hi=>wpOp_mono (fun d w' e=>vf b _ d w' e.2) (h.2 i hi)⟩
theorem CT {i:Nat}{p:Oper}{v:Value}(hi:ops[i]?=some p)(C:∀(j:Nat) (o:Oper) u b,ops[j]?=some o->o.op≠ .select u b)
 (I:Region.sinkB md ops n=true) (X:Region.chainB md ops n=true) (Z:n<ops.size) (K:i<n)
 (M:∀c a w,Q (.panic c) (a.put p.dst v) w->Q (.panic c) a w):
 ∀(x:Nat) (d:Array Bool) (a:Act) (w:World),HeadInv md ops n d->
  (∀j m,ops[j]?=some m->j≠i->d.getD j true=false->(∀e∈m.after,Region.binds md e=true->e.on≠i)->p.apart ops m=true)->
  i∈Region.ready md ops d->YieldsIf P ops S p v a->S w->
  rr P md ops Q S n x (d.setIfInBounds i true) (a.put p.dst v) w->rr P md ops Q S n (x+1) d a w:=by
 intro x;induction x with
 |zero=>
  intro d a w _ _ q A hS H;refine⟨fun h=>(by rw[h]at q;cases q),fun j r=> ?_⟩;by_cases l:j=i
  ·subst l;exact A.wpOp hi hS ⟨fun _=>hS,H⟩
  have:=ready_mono r l;rw[H.1]at this;cases this
 |succ x ih=>
  intro d a w G F q A hS H;have s:=(Yz.1 q).1;refine⟨fun h=>(by rw[h]at q;cases q),fun j r=> ?_⟩;have QJ:j<n:=by
   rcases Zm j n with h|h
   ·exact h
   exact absurd r (tail_waits I X Z G _ i rfl K s j h)
  by_cases l:j=i
  ·subst l;exact A.wpOp hi hS ⟨fun _=>hS,H⟩
  have y:=H.2 j (ready_mono r l);obtain⟨D,m,B,L⟩:=Yz.1 r;have R:∀e∈m.after,Region.binds md e=true->e.on≠i:=fun e W J U=>by
   have y:=L e W J;rw[U,Yd s]at y;cases y
  have Y:=wpOp_putIf B (F j m B l D R) (fun u b=>C i p u b hi) (fun u b=>C j m u b B) M A y;have Jl:∀k ok,ops[k]?=some ok->k≠i->(d.setIfInBounds j true).getD k true=false->
   (∀e∈ok.after,Region.binds md e=true->e.on≠i)->p.apart ops ok=true:=fun k ok N O s wA=>by
   refine F k ok N O ?_ wA;by_cases E:j=k
   ·subst E;exact D
   rw[getD_set_ne true E]at s;exact s
  refine wpOp_mono (fun a' w' z=>⟨fun _=>z.2.1 (by omega),ih (d.setIfInBounds j true) a' w' (G.set r QJ) Jl (ready_mono q (Z5 l)) z.1 (z.2.1 (by omega)) ?_⟩) Y;rw[Array.setIfInBounds_comm _ _ l];exact z.2.2
def GT (P:Program)(md:Region.Mode)(ops:Array Oper)(Q:Exit->Act->World->Prop)(S:World->Prop)(n:Nat)(fuel:Nat)(listed:Array Bool)(a:Act)(w:World):Prop:=
 HeadInv md ops n listed->rr P md ops Q S n fuel listed a w
def Km (md:Region.Mode)(ops:Array Oper)(n:Nat):Bool:=Region.noSelect ops&&decide (n<ops.size)&&Region.sinkB md ops n&&Region.chainB md ops n
theorem GT.take {i:Nat}{b:Oper}{v:Value}{e:Nat}{listed:Array Bool}{a:Act}{w:World}(hi:ops[i]?=some b)(d:decide (i<n)=true)
 (j:Km md ops n=true) (r:Region.free md ops listed i=true) (p:(Region.ready md ops listed).contains i=true)
 (q:∀c a w,Q (.panic c) (a.put b.dst v) w->Q (.panic c) a w) (u:YieldsIf P ops S b v a) (hS:S w)
 (h:GT P md ops Q S n e (listed.setIfInBounds i true) (a.put b.dst v) w):GT P md ops Q S n (e+1) listed a w:=fun l=>by
 simp only[Km,zG,yl]at j d;obtain⟨⟨⟨s,o⟩,x⟩,m⟩:=j;have k:i∈Region.ready md ops listed:=by simpa using p
 exact CT hi (Region.noSelect_spec s) x m o d q e listed a w l (Region.free_spec hi r) k u hS (h (l.set k d))
theorem GT.step {i:Nat}{o:Oper}{e:Nat}{listed:Array Bool}{a:Act}{w:World}(s:ops[i]?=some o)(r:decide (i<n)=true)(d:Region.ready md ops listed= [i])
 (h:∀b:Act->World->Prop,Shut (∀a w,S w->(S w->GT P md ops Q S n e (listed.setIfInBounds i true) a w)->b a w)->if Region.wanted o (yielded ops a.tmps)=true then Oper.wp P o a w b Q else b (a.put o.dst undef) w):GT P md ops Q S n (e+1) listed a w:=fun u=>by
 refine⟨fun l=>(by rw[l]at d;cases d),fun j c=> ?_⟩;have m:j=i:=by rw[d]at c;simpa using c
 subst m;have p:j<n:=by simpa using r
 exact wpOp_step s (fun b q=>h b (fun a w hS k=>q a w ⟨fun _=>hS,k hS (u.set c p)⟩))
theorem GT.two {i j:Nat}{h d:Oper}{l:Nat}{listed:Array Bool}{a:Act}{w:World}(hi:ops[i]?=some h)(z:ops[j]?=some d)(A:decide (i<n)=true)(B:decide (j<n)=true)(o:Region.ready md ops listed= [i,j])
 (x:∀b:Act->World->Prop,Shut (∀a w,S w->(S w->GT P md ops Q S n l (listed.setIfInBounds i true) a w)->b a w)->if Region.wanted h (yielded ops a.tmps)=true then Oper.wp P h a w b Q else b (a.put h.dst undef) w)
 (r:∀b:Act->World->Prop,Shut (∀a w,S w->(S w->GT P md ops Q S n l (listed.setIfInBounds j true) a w)->b a w)->if Region.wanted d (yielded ops a.tmps)=true then Oper.wp P d a w b Q else b (a.put d.dst undef) w):GT P md ops Q S n (l+1) listed a w:=fun q=>by
 refine⟨fun s=>(by rw[s]at o;cases o),fun k e=> ?_⟩;have y:i<n:=by simpa using A
 have u:j<n:=by simpa using B
 have c:k=i\/k=j:=by rw[o]at e;simpa using e
 rcases c with c|c
 ·subst c;exact wpOp_step hi (fun b p=>x b (fun a w hS m=>p a w ⟨fun _=>hS,m hS (q.set e y)⟩))
 subst c;exact wpOp_step z (fun b p=>r b (fun a w hS m=>p a w ⟨fun _=>hS,m hS (q.set e u)⟩))
theorem GT.last {i:Nat}{o:Oper}{q:Nat}{listed:Array Bool}{a:Act}{w:World}(x:ops[i]?=some o)(u:decide (i=n)=true)(e:Region.ready md ops listed= [i])(k:Region.ready md ops (listed.setIfInBounds i true)= [])
 (h:if Region.wanted o (yielded ops a.tmps)=true then Oper.wp P o a w (fun c w'=>Q .normal c w') Q else Q .normal (a.put o.dst undef) w):GT P md ops Q S n (q+1) listed a w:=fun z=>by
 refine⟨fun b=>(by rw[b]at e;cases e),fun j l=> ?_⟩;have s:j=i:=by rw[e]at l;simpa using l
 subst s;have y:j=n:=by simpa using u
 subst y;have p:∀(f:Nat) (a:Act) (w:World),Q .normal a w->rr P md ops Q S j f (listed.setIfInBounds j true) a w:=fun f a w h=>by
  cases f with
  |zero=>exact⟨k,h⟩
  |succ f=>exact⟨fun _=>h,by rw[k];simp⟩
 refine wpOp_step x (fun A m=> ?_);split
 ·rename_i d
  rw[zm d]at h;exact Oper.wp_mono (fun c w' r=>m c w' ⟨fun b=>absurd rfl b,p _ _ _ r⟩) h
 rename_i d
 rw[zk d]at h;exact m _ _ ⟨fun b=>absurd rfl b,p _ _ _ h⟩
theorem aB {id:Nat}{a:Act}{w:World}(n:Nat)(S:World->Prop)(c:P.follows .mixedOrders=true)(e:Km .any ops n=true)(h:GT P .any ops Q S n ops.size (Array.replicate ops.size false) a w.drew):(Code.region id ops true).wp P Q a w:=by
 exact wp_region_any c (vf _ _ _ _ (h ⟨by simp,fun j i _ b=>(by rw[yV]at b;cases b),fun t _ d=>getD_in (by simpa using d) (yV _ _)⟩))
def CU :List Oper->Nat->Option Oper
 |o::_,0=>some o
 |_::l,i+1=>CU l i
 | [],_=>none
theorem Fj :∀{l:List Oper} {i:Nat} {o:Oper},CU l i=some o->l[i]?=some o
 |_::_,0,_,h=>by simpa[CU]using h
 |_::l,i+1,_,h=>by simpa using Fj (l:=l) (i:=i) h
 | [],_,_,h=>by simp[CU]at h
theorem tM {ops:Array Oper}{i:Nat}{o:Oper}(h:CU ops.toList i=some o):ops[i]?=some o:=by
 have:=Fj h;simpa using this
inductive Ao (P:Program)(ops:Array Oper)(S:World->Prop)(G:Act->Prop):List Nat->Act->Prop
 |nil {a:Act} (h:G a):Ao P ops S G [] a
 |cons {i:Nat} {is:List Nat} {oi:Oper} {v:Value} {a:Act} (hi:ops[i]?=some oi) (hy:YieldsIf P ops S oi v a) (h:Ao P ops S G is (a.put oi.dst v)):Ao P ops S G (i::is) a
theorem Ao.c {P:Program}{ops:Array Oper}{S:World->Prop}{G:Act->Prop}{i:Nat}{c:List Nat}{b:Oper}{v:Value}{a:Act}(hi:CU ops.toList i=some b)(d:Region.wanted b (yielded ops a.tmps)=true)
 (e:∀w,S w->(execOp a.eval b).run P w= .ok (.value v) w) (h:Ao P ops S G c (a.put b.dst v)):Ao P ops S G (i::c) a:= .cons (tM hi) (.inl ⟨d,e⟩) h
theorem Ao.u {P:Program}{ops:Array Oper}{S:World->Prop}{G:Act->Prop}{i:Nat}{c:List Nat}{b:Oper}{a:Act}(hi:CU ops.toList i=some b)(d:Region.wanted b (yielded ops a.tmps)=false)
 (h:Ao P ops S G c (a.put b.dst undef)):Ao P ops S G (i::c) a:= .cons (tM hi) (.inr ⟨d,rfl⟩) h
def UP :List Nat->Array Bool->Array Bool
 | [],l=>l
 |i::is,l=>UP is (l.setIfInBounds i true)
def UQ :List Nat->Nat->Nat
 | [],f=>f
 |_::is,f=>UQ is f+1
def Pl (md:Region.Mode)(ops:Array Oper)(n:Nat):List Nat->Array Bool->Bool
 | [],_=>true
 |i::is,l=>decide (i<n)&&Km md ops n&&Region.free md ops l i&&(Region.ready md ops l).contains i&&Pl md ops n is (l.setIfInBounds i true)
theorem GT.jD (e:List Nat){l:Nat}{listed:Array Bool}{a:Act}{w:World}(hS:S w)(p:∀c (a:Act) (d:Nat) v w,Q (.panic c) (a.put (some d) v) w->Q (.panic c) a w)
 (k:Pl md ops n e listed=true) (j:Ao P ops S (fun b=>GT P md ops Q S n l (UP e listed) b w) e a):GT P md ops Q S n (UQ e l) listed a w:=by
 induction e generalizing listed a with
 |nil=>
  cases j with
  |nil h=>exact h
 |cons i e ih=>
  cases j with
  |cons hi hy j=>
   simp only[Pl,zG]at k;obtain⟨⟨⟨⟨q,o⟩,s⟩,m⟩,r⟩:=k;refine GT.take hi q o s m (fun c a w h=> ?_) hy hS (ih r j);revert h
   cases Oper.dst _ with
   |none=>exact id
   |some d=>exact p c a d _ w
def stB (md:Region.Mode)(ops:Array Oper)(n:Nat)(listed:Array Bool)(i:Nat):Bool:=decide (i<n)&&(Region.ready md ops listed== [i])
theorem GT.fF (i:Nat){o:Oper}{d:Nat}{listed:Array Bool}{a:Act}{w:World}
 (h:∀b:Act->World->Prop,Shut (∀a w,S w->(S w->GT P md ops Q S n d (listed.setIfInBounds i true) a w)->b a w)->if Region.wanted o (yielded ops a.tmps)=true then Oper.wp P o a w b Q else b (a.put o.dst undef) w)
 (e:CU ops.toList i=some o) (c:stB md ops n listed i=true):GT P md ops Q S n (d+1) listed a w:=by
 simp only[stB,zG,xi]at c;exact GT.step (tM e) c.1 c.2 h
def laB (md:Region.Mode)(ops:Array Oper)(n:Nat)(listed:Array Bool)(i:Nat):Bool:=decide (i=n)&&(Region.ready md ops listed== [i])&&(Region.ready md ops (listed.setIfInBounds i true)== [])
theorem GT.oP (i:Nat){o:Oper}{d:Nat}{listed:Array Bool}{a:Act}{w:World}
 (h:if Region.wanted o (yielded ops a.tmps)=true then Oper.wp P o a w (fun c w'=>Q .normal c w') Q else Q .normal (a.put o.dst undef) w)
 (e:CU ops.toList i=some o) (b:laB md ops n listed i=true):GT P md ops Q S n (d+1) listed a w:=by
 simp only[laB,zG,xi]at b;exact GT.last (tM e) b.1.1 b.1.2 b.2 h
end
