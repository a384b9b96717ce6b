/- A region that draws its order and whose last operation waits for all the others: a condition on the world lets loads be taken first, and need not stand behind the last operation. Own law; no program in sight. -/
import Derived.StillTail
import Derived.Deep.RegionHeld3
set_option linter.all false
namespace Go.Proofs.YtpjgigllldipiaaGreatDoor
open Go
section
def zk:=@if_neg
def zm:=@if_pos
def zG:=@Bool.and_eq_true
def yk:=@decide_eq_true_eq
def yR:=@getD_replicate_false
def xd:=@beq_iff_eq
def Zm:=@Nat.lt_or_ge
def Z3:=@Ne.symm
def Yb:=@getD_both
def Yw:=@mem_ready
variable {P:Program} {ops:Array Oper} {Q:Exit->Act->World->Prop} {md:Region.Mode} {S:World->Prop} {n:Nat}
def rf (P:Program)(md:Region.Mode)(ops:Array Oper)(Q:Exit->Act->World->Prop)(S:World->Prop)(n:Nat):Nat->Array Bool->Act->World->Prop
 |0,listed,a,w=>Region.ready md ops listed= []/\Q .normal a w
 |fuel+1,listed,a,w=>
  (Region.ready md ops listed= []->Q .normal a w)/\
  ∀i∈Region.ready md ops listed,wpOp P ops Q i (fun a' w'=>(i≠n->S w')/\rf P md ops Q S n fuel (listed.setIfInBounds i true) a' w') a w
theorem uR :∀(b:Nat) (c:Array Bool) (a:Act) (w:World),rf P md ops Q S n b c a w->wpAny P md ops Q b c a w
 |0,_,_,_,h=>h
 |b+1,_,_,_,h=>⟨h.1,fun i hi=>wpOp_mono (fun d w' e=>uR b _ d w' e.2) (h.2 i hi)⟩
theorem CK {i:Nat}{q:Oper}{v:Value}(hi:ops[i]?=some q)(E:∀(j:Nat) (o:Oper) s b,ops[j]?=some o->o.op≠ .select s b)
 (N:Region.sinkB md ops n=true) (hc:Region.chainB md ops n=true) (Y:n<ops.size) (O:i<n)
 (J:∀c a w,Q (.panic c) (a.put q.dst v) w->Q (.panic c) a w):
 ∀(x:Nat) (d:Array Bool) (a:Act) (w:World),HeadInv md ops n d->
  (∀j m,ops[j]?=some m->j≠i->d.getD j true=false->(∀e∈m.after,Region.binds md e=true->e.on≠i)->q.apart ops m=true)->
  i∈Region.ready md ops d->YieldsIf P ops S q v a->S w->
  rf P md ops Q S n x (d.setIfInBounds i true) (a.put q.dst v) w->rf P md ops Q S n (x+1) d a w:=by
 intro x;induction x with
 |zero=>
  intro d a w _ _ p y hS H;refine⟨fun h=>(by rw[h]at p;cases p),fun j r=> ?_⟩;by_cases l:j=i
  ·subst l;exact y.wpOp hi hS ⟨fun _=>hS,H⟩
  have:=ready_mono r l;rw[H.1]at this;cases this
 |succ x ih=>
  intro d a w G F p y hS H;have u:=(Yw.1 p).1;refine⟨fun h=>(by rw[h]at p;cases p),fun j r=> ?_⟩;have I:j<n:=by
   rcases Zm j n with h|h
   ·exact h
   exact absurd r (tail_waits N hc Y G _ i rfl O u j h)
  by_cases l:j=i
  ·subst l;exact y.wpOp hi hS ⟨fun _=>hS,H⟩
  have A:=H.2 j (ready_mono r l);obtain⟨D,m,B,K⟩:=Yw.1 r;have Qu:∀e∈m.after,Region.binds md e=true->e.on≠i:=fun e he R aa=>by
   have A:=K e he R;rw[aa,Yb u]at A;cases A
  have X:=wpOp_putIf B (F j m B l D Qu) (fun s b=>E i q s b hi) (fun s b=>E j m s b B) J y A;have Z:∀k ok,ops[k]?=some ok->k≠i->(d.setIfInBounds j true).getD k true=false->
   (∀e∈ok.after,Region.binds md e=true->e.on≠i)->q.apart ops ok=true:=fun k ok W U u L=>by
   refine F k ok W U ?_ L;by_cases C:j=k
   ·subst C;exact D
   rw[getD_set_ne true C]at u;exact u
  refine wpOp_mono (fun M w' z=>⟨fun _=>z.2.1 (by omega),ih (d.setIfInBounds j true) M w' (G.set r I) Z (ready_mono p (Z3 l)) z.1 (z.2.1 (by omega)) ?_⟩) X;rw[Array.setIfInBounds_comm _ _ l];exact z.2.2
def GT (P:Program)(md:Region.Mode)(ops:Array Oper)(Q:Exit->Act->World->Prop)(S:World->Prop)(n:Nat)(fuel:Nat)(listed:Array Bool)(a:Act)(w:World):Prop:=
 HeadInv md ops n listed->rf P md ops Q S n fuel listed a w
def JZ (md:Region.Mode)(ops:Array Oper)(n:Nat):Bool:=Region.noSelect ops&&decide (n<ops.size)&&Region.sinkB md ops n&&Region.chainB md ops n
theorem GT.take {i:Nat}{b:Oper}{v:Value}{e:Nat}{listed:Array Bool}{a:Act}{w:World}(hi:ops[i]?=some b)(d:decide (i<n)=true)
 (k:JZ md ops n=true) (m:Region.free md ops listed i=true) (o:(Region.ready md ops listed).contains i=true)
 (p:∀c a w,Q (.panic c) (a.put b.dst v) w->Q (.panic c) a w) (q:YieldsIf P ops S b v a) (hS:S w)
 (h:GT P md ops Q S n e (listed.setIfInBounds i true) (a.put b.dst v) w):GT P md ops Q S n (e+1) listed a w:=fun l=>by
 simp only[JZ,zG,yk]at k d;obtain⟨⟨⟨s,x⟩,u⟩,r⟩:=k;have j:i∈Region.ready md ops listed:=by simpa using o
 exact CK hi (Region.noSelect_spec s) u r x d p e listed a w l (Region.free_spec hi m) j q hS (h (l.set j d))
theorem GT.step {i:Nat}{o:Oper}{e:Nat}{listed:Array Bool}{a:Act}{w:World}(m:ops[i]?=some o)(k:decide (i<n)=true)(c:Region.ready md ops listed= [i])
 (h:∀b:Act->World->Prop,Shut (∀a w,S w->(S w->GT P md ops Q S n e (listed.setIfInBounds i true) a w)->b a w)->if Region.wanted o (yielded ops a.tmps)=true then Oper.wp P o a w b Q else b (a.put o.dst undef) w):GT P md ops Q S n (e+1) listed a w:=fun u=>by
 refine⟨fun l=>(by rw[l]at c;cases c),fun j d=> ?_⟩;have q:j=i:=by rw[c]at d;simpa using d
 subst q;have p:j<n:=by simpa using k
 exact wpOp_step m (fun b r=>h b (fun a w hS s=>r a w ⟨fun _=>hS,s hS (u.set d p)⟩))
theorem GT.two {i j:Nat}{e d:Oper}{m:Nat}{listed:Array Bool}{a:Act}{w:World}(hi:ops[i]?=some e)(z:ops[j]?=some d)(r:decide (i<n)=true)(s:decide (j<n)=true)(l:Region.ready md ops listed= [i,j])
 (A:∀b:Act->World->Prop,Shut (∀a w,S w->(S w->GT P md ops Q S n m (listed.setIfInBounds i true) a w)->b a w)->if Region.wanted e (yielded ops a.tmps)=true then Oper.wp P e a w b Q else b (a.put e.dst undef) w)
 (B:∀b:Act->World->Prop,Shut (∀a w,S w->(S w->GT P md ops Q S n m (listed.setIfInBounds j true) a w)->b a w)->if Region.wanted d (yielded ops a.tmps)=true then Oper.wp P d a w b Q else b (a.put d.dst undef) w):GT P md ops Q S n (m+1) listed a w:=fun q=>by
 refine⟨fun u=>(by rw[u]at l;cases l),fun k h=> ?_⟩;have y:i<n:=by simpa using r
 have x:j<n:=by simpa using s
 have c:k=i\/k=j:=by rw[l]at h;simpa using h
 rcases c with c|c
 ·subst c;exact wpOp_step hi (fun b o=>A b (fun a w hS p=>o a w ⟨fun _=>hS,p hS (q.set h y)⟩))
 subst c;exact wpOp_step z (fun b o=>B b (fun a w hS p=>o a w ⟨fun _=>hS,p hS (q.set h x)⟩))
theorem GT.last {i:Nat}{o:Oper}{x:Nat}{listed:Array Bool}{a:Act}{w:World}(u:ops[i]?=some o)(q:decide (i=n)=true)(c:Region.ready md ops listed= [i])(l:Region.ready md ops (listed.setIfInBounds i true)= [])
 (h:if Region.wanted o (yielded ops a.tmps)=true then Oper.wp P o a w (fun d w'=>Q .normal d w') Q else Q .normal (a.put o.dst undef) w):GT P md ops Q S n (x+1) listed a w:=fun A=>by
 refine⟨fun b=>(by rw[b]at c;cases c),fun j m=> ?_⟩;have y:j=i:=by rw[c]at m;simpa using m
 subst y;have s:j=n:=by simpa using q
 subst s;have k:∀(f:Nat) (a:Act) (w:World),Q .normal a w->rf P md ops Q S j f (listed.setIfInBounds j true) a w:=fun f a w h=>by
  cases f with
  |zero=>exact⟨l,h⟩
  |succ f=>exact⟨fun _=>h,by rw[l];simp⟩
 refine wpOp_step u (fun z p=> ?_);split
 ·rename_i e
  rw[zm e]at h;exact Oper.wp_mono (fun d w' r=>p d w' ⟨fun b=>absurd rfl b,k _ _ _ r⟩) h
 rename_i e
 rw[zk e]at h;exact p _ _ ⟨fun b=>absurd rfl b,k _ _ _ h⟩
theorem aA {id:Nat}{a:Act}{w:World}(n:Nat)(S:World->Prop)(c:P.follows .mixedOrders=true)(e:JZ .any ops n=true)(h:GT P .any ops Q S n ops.size (Array.replicate ops.size false) a w.drew):(Code.region id ops true).wp P Q a w:=by
 exact wp_region_any c (uR _ _ _ _ (h ⟨by simp,fun j i _ b=>(by rw[yR]at b;cases b),fun t _ d=>getD_in (by simpa using d) (yR _ _)⟩))
def uS :List Oper->Nat->Option Oper
 |o::_,0=>some o
 |_::l,i+1=>uS l i
 | [],_=>none
theorem EY :∀{l:List Oper} {i:Nat} {o:Oper},uS l i=some o->l[i]?=some o
 |_::_,0,_,h=>by simpa[uS]using h
 |_::l,i+1,_,h=>by simpa using EY (l:=l) (i:=i) h
 | [],_,_,h=>by simp[uS]at h
theorem nC {ops:Array Oper}{i:Nat}{o:Oper}(h:uS ops.toList i=some o):ops[i]?=some o:=by
 have:=EY h;simpa using this
inductive Ac (P:Program)(ops:Array Oper)(S:World->Prop)(G:Act->Prop):List Nat->Act->Prop
 |nil {a:Act} (h:G a):Ac P ops S G [] a
 |cons {i:Nat} {is:List Nat} {oi:Oper} {v:Value} {a:Act} (hi:ops[i]?=some oi) (hy:YieldsIf P ops S oi v a) (h:Ac P ops S G is (a.put oi.dst v)):Ac P ops S G (i::is) a
theorem Ac.c {P:Program}{ops:Array Oper}{S:World->Prop}{G:Act->Prop}{i:Nat}{c:List Nat}{b:Oper}{v:Value}{a:Act}(hi:uS ops.toList i=some b)(d:Region.wanted b (yielded ops a.tmps)=true)
 (e:∀w,S w->(execOp a.eval b).run P w= .ok (.value v) w) (h:Ac P ops S G c (a.put b.dst v)):Ac P ops S G (i::c) a:= .cons (nC hi) (.inl ⟨d,e⟩) h
theorem Ac.u {P:Program}{ops:Array Oper}{S:World->Prop}{G:Act->Prop}{i:Nat}{c:List Nat}{b:Oper}{a:Act}(hi:uS ops.toList i=some b)(d:Region.wanted b (yielded ops a.tmps)=false)
 (h:Ac P ops S G c (a.put b.dst undef)):Ac P ops S G (i::c) a:= .cons (nC hi) (.inr ⟨d,rfl⟩) h
def Ut :List Nat->Array Bool->Array Bool
 | [],l=>l
 |i::is,l=>Ut is (l.setIfInBounds i true)
def Uu :List Nat->Nat->Nat
 | [],f=>f
 |_::is,f=>Uu is f+1
def OY (md:Region.Mode)(ops:Array Oper)(n:Nat):List Nat->Array Bool->Bool
 | [],_=>true
 |i::is,l=>decide (i<n)&&JZ md ops n&&Region.free md ops l i&&(Region.ready md ops l).contains i&&OY md ops n is (l.setIfInBounds i true)
theorem GT.jy (e:List Nat){k:Nat}{listed:Array Bool}{a:Act}{w:World}(hS:S w)(m:∀c (a:Act) (d:Nat) v w,Q (.panic c) (a.put (some d) v) w->Q (.panic c) a w)
 (l:OY md ops n e listed=true) (j:Ac P ops S (fun b=>GT P md ops Q S n k (Ut e listed) b w) e a):GT P md ops Q S n (Uu e k) listed a w:=by
 induction e generalizing listed a with
 |nil=>
  cases j with
  |nil h=>exact h
 |cons i e ih=>
  cases j with
  |cons hi hy j=>
   simp only[OY,zG]at l;obtain⟨⟨⟨⟨q,s⟩,r⟩,p⟩,o⟩:=l;refine GT.take hi q s r p (fun c a w h=> ?_) hy hS (ih o j);revert h
   cases Oper.dst _ with
   |none=>exact id
   |some d=>exact m c a d _ w
def stB (md:Region.Mode)(ops:Array Oper)(n:Nat)(listed:Array Bool)(i:Nat):Bool:=decide (i<n)&&(Region.ready md ops listed== [i])
theorem GT.fw (i:Nat){o:Oper}{d:Nat}{listed:Array Bool}{a:Act}{w:World}
 (h:∀b:Act->World->Prop,Shut (∀a w,S w->(S w->GT P md ops Q S n d (listed.setIfInBounds i true) a w)->b a w)->if Region.wanted o (yielded ops a.tmps)=true then Oper.wp P o a w b Q else b (a.put o.dst undef) w)
 (e:uS ops.toList i=some o) (c:stB md ops n listed i=true):GT P md ops Q S n (d+1) listed a w:=by
 simp only[stB,zG,xd]at c;exact GT.step (nC e) c.1 c.2 h
def twB (md:Region.Mode)(ops:Array Oper)(n:Nat)(listed:Array Bool)(i j:Nat):Bool:=decide (i<n)&&decide (j<n)&&(Region.ready md ops listed== [i,j])
theorem GT.SW (i j:Nat){e d:Oper}{h:Nat}{listed:Array Bool}{a:Act}{w:World}(hi:uS ops.toList i=some e)(k:uS ops.toList j=some d)(c:twB md ops n listed i j=true)
 (l:∀b:Act->World->Prop,Shut (∀a w,S w->(S w->GT P md ops Q S n h (listed.setIfInBounds i true) a w)->b a w)->if Region.wanted e (yielded ops a.tmps)=true then Oper.wp P e a w b Q else b (a.put e.dst undef) w)
 (m:∀b:Act->World->Prop,Shut (∀a w,S w->(S w->GT P md ops Q S n h (listed.setIfInBounds j true) a w)->b a w)->if Region.wanted d (yielded ops a.tmps)=true then Oper.wp P d a w b Q else b (a.put d.dst undef) w):GT P md ops Q S n (h+1) listed a w:=by
 simp only[twB,zG,xd]at c;exact GT.two (nC hi) (nC k) c.1.1 c.1.2 c.2 l m
def laB (md:Region.Mode)(ops:Array Oper)(n:Nat)(listed:Array Bool)(i:Nat):Bool:=decide (i=n)&&(Region.ready md ops listed== [i])&&(Region.ready md ops (listed.setIfInBounds i true)== [])
theorem GT.oL (i:Nat){o:Oper}{c:Nat}{listed:Array Bool}{a:Act}{w:World}
 (h:if Region.wanted o (yielded ops a.tmps)=true then Oper.wp P o a w (fun d w'=>Q .normal d w') Q else Q .normal (a.put o.dst undef) w)
 (e:uS ops.toList i=some o) (b:laB md ops n listed i=true):GT P md ops Q S n (c+1) listed a w:=by
 simp only[laB,zG,xd]at b;exact GT.last (nC e) b.1.1 b.1.2 b.2 h
end
