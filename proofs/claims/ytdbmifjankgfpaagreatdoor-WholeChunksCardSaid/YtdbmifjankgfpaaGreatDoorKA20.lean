/- A region that draws its order and whose last operation waits for all the others: a condition on the world lets loads be taken first, and need not stand behind the last operation. Own law; no program in sight. -/
import Derived.Deep.RegionHeld3
import Derived.Test.YtdbmifjankgfpaaGreatDoorKA23
set_option linter.all false
set_option maxRecDepth 100000
set_option maxHeartbeats 3200000
open Go.Proofs.Tryz
namespace Go.Proofs.YtdbmifjankgfpaaGreatDoor
open Go
section
def zb:=@List.setIfInBounds_toArray
def zf:=@List.set_cons_succ
def xz:=@results188
variable {P:Program} {ops:Array Oper} {Q:Exit->Act->World->Prop} {md:Region.Mode} {S:World->Prop} {n:Nat}
def rV (P:Program)(md:Region.Mode)(ops:Array Oper)(Q:Exit->Act->World->Prop)(S:World->Prop)(n:Nat):Nat->Array Bool->Act->World->Prop
 |0,listed,a,w=>Region.ready md ops listed= []/\Q .normal a w
 |fuel+1,listed,a,w=>
  (Region.ready md ops listed= []->Q .normal a w)/\
  ∀i∈Region.ready md ops listed,wpOp P ops Q i (fun a' w'=>(i≠n->S w')/\rV P md ops Q S n fuel (listed.setIfInBounds i true) a' w') a w
theorem vY :∀(b:Nat) (c:Array Bool) (a:Act) (w:World),rV P md ops Q S n b c a w->wpAny P md ops Q b c a w
 |0,_,_,_,h=>h
 |b+1,_,_,_,h=>⟨h.1,fun i hi=>wpOp_mono (fun d w' e=>vY b _ d w' e.2) (h.2 i hi)⟩
theorem Dw {i:Nat}{q:Oper}{v:Value}(hi:ops[i]?=some q)(D:∀(j:Nat) (o:Oper) u b,ops[j]?=some o->o.op≠ .select u b)
 (M:Region.sinkB md ops n=true) (I:Region.chainB md ops n=true) (hn:n<ops.size) (oD:i<n)
 (W:∀c a w,Q (.panic c) (a.put q.dst v) w->Q (.panic c) a w):
 ∀(x:Nat) (d:Array Bool) (a:Act) (w:World),HeadInv md ops n d->
  (∀j p,ops[j]?=some p->j≠i->d.getD j true=false->(∀e∈p.after,Region.binds md e=true->e.on≠i)->q.apart ops p=true)->
  i∈Region.ready md ops d->YieldsIf P ops S q v a->S w->
  rV P md ops Q S n x (d.setIfInBounds i true) (a.put q.dst v) w->rV P md ops Q S n (x+1) d a w:=by
 intro x;induction x with
 |zero=>
  intro d a w _ _ m y hS H;refine⟨fun h=>(by rw[h]at m;cases m),fun j r=> ?_⟩;by_cases l:j=i
  ·subst l;exact y.wpOp hi hS ⟨fun _=>hS,H⟩
  have:=Yb r l;rw[H.1]at this;cases this
 |succ x ih=>
  intro d a w E C m y hS H;have s:=(ZB.1 m).1;refine⟨fun h=>(by rw[h]at m;cases m),fun j r=> ?_⟩;have K:j<n:=by
   rcases xC j n with h|h
   ·exact h
   exact absurd r (tail_waits M I hn E _ i rfl oD s j h)
  by_cases l:j=i
  ·subst l;exact y.wpOp hi hS ⟨fun _=>hS,H⟩
  have A:=H.2 j (Yb r l);obtain⟨F,p,B,N⟩:=ZB.1 r;have U:∀e∈p.after,Region.binds md e=true->e.on≠i:=fun e J L Z=>by
   have A:=N e J L;rw[Z,Zk s]at A;cases A
  have R:=wpOp_putIf B (C j p B l F U) (fun u b=>D i q u b hi) (fun u b=>D j p u b B) W y A;have O:∀k ok,ops[k]?=some ok->k≠i->(d.setIfInBounds j true).getD k true=false->
   (∀e∈ok.after,Region.binds md e=true->e.on≠i)->q.apart ops ok=true:=fun k ok hk nZ s X=>by
   refine C k ok hk nZ ?_ X;by_cases G:j=k
   ·subst G;exact F
   rw[getD_set_ne true G]at s;exact s
  refine wpOp_mono (fun Y w' z=>⟨fun _=>z.2.1 (by omega),ih (d.setIfInBounds j true) Y w' (E.set r K) O (Yb m (Zh l)) z.1 (z.2.1 (by omega)) ?_⟩) R;rw[Array.setIfInBounds_comm _ _ l];exact z.2.2
def GT (P:Program)(md:Region.Mode)(ops:Array Oper)(Q:Exit->Act->World->Prop)(S:World->Prop)(n:Nat)(fuel:Nat)(listed:Array Bool)(a:Act)(w:World):Prop:=
 HeadInv md ops n listed->rV P md ops Q S n fuel listed a w
def KT (md:Region.Mode)(ops:Array Oper)(n:Nat):Bool:=Region.noSelect ops&&decide (n<ops.size)&&Region.sinkB md ops n&&Region.chainB md ops n
theorem GT.take {i:Nat}{b:Oper}{v:Value}{e:Nat}{listed:Array Bool}{a:Act}{w:World}(hi:ops[i]?=some b)(d:decide (i<n)=true)
 (j:KT md ops n=true) (o:Region.free md ops listed i=true) (q:(Region.ready md ops listed).contains i=true)
 (m:∀c a w,Q (.panic c) (a.put b.dst v) w->Q (.panic c) a w) (s:YieldsIf P ops S b v a) (hS:S w)
 (h:GT P md ops Q S n e (listed.setIfInBounds i true) (a.put b.dst v) w):GT P md ops Q S n (e+1) listed a w:=fun k=>by
 simp only[KT,zx,zY]at j d;obtain⟨⟨⟨r,p⟩,x⟩,u⟩:=j;have l:i∈Region.ready md ops listed:=by simpa using q
 exact Dw hi (Region.noSelect_spec r) x u p d m e listed a w k (Region.free_spec hi o) l s hS (h (k.set l d))
theorem GT.step {i:Nat}{o:Oper}{e:Nat}{listed:Array Bool}{a:Act}{w:World}(q:ops[i]?=some o)(k:decide (i<n)=true)(c:Region.ready md ops listed= [i])
 (h:∀b:Act->World->Prop,Shut (∀a w,S w->(S w->GT P md ops Q S n e (listed.setIfInBounds i true) a w)->b a w)->if Region.wanted o (yielded ops a.tmps)=true then Oper.wp P o a w b Q else b (a.put o.dst undef) w):GT P md ops Q S n (e+1) listed a w:=fun m=>by
 refine⟨fun p=>(by rw[p]at c;cases c),fun j d=> ?_⟩;have l:j=i:=by rw[c]at d;simpa using d
 subst l;have r:j<n:=by simpa using k
 exact wpOp_step q (fun b s=>h b (fun a w hS u=>s a w ⟨fun _=>hS,u hS (m.set d r)⟩))
theorem GT.two {i j:Nat}{h e:Oper}{o:Nat}{listed:Array Bool}{a:Act}{w:World}(hi:ops[i]?=some h)(A:ops[j]?=some e)(r:decide (i<n)=true)(y:decide (j<n)=true)(l:Region.ready md ops listed= [i,j])
 (x:∀b:Act->World->Prop,Shut (∀a w,S w->(S w->GT P md ops Q S n o (listed.setIfInBounds i true) a w)->b a w)->if Region.wanted h (yielded ops a.tmps)=true then Oper.wp P h a w b Q else b (a.put h.dst undef) w)
 (s:∀b:Act->World->Prop,Shut (∀a w,S w->(S w->GT P md ops Q S n o (listed.setIfInBounds j true) a w)->b a w)->if Region.wanted e (yielded ops a.tmps)=true then Oper.wp P e a w b Q else b (a.put e.dst undef) w):GT P md ops Q S n (o+1) listed a w:=fun q=>by
 refine⟨fun u=>(by rw[u]at l;cases l),fun k d=> ?_⟩;have z:i<n:=by simpa using r
 have B:j<n:=by simpa using y
 have c:k=i\/k=j:=by rw[l]at d;simpa using d
 rcases c with c|c
 ·subst c;exact wpOp_step hi (fun b m=>x b (fun a w hS p=>m a w ⟨fun _=>hS,p hS (q.set d z)⟩))
 subst c;exact wpOp_step A (fun b m=>s b (fun a w hS p=>m a w ⟨fun _=>hS,p hS (q.set d B)⟩))
theorem GT.last {i:Nat}{o:Oper}{y:Nat}{listed:Array Bool}{a:Act}{w:World}(s:ops[i]?=some o)(q:decide (i=n)=true)(c:Region.ready md ops listed= [i])(m:Region.ready md ops (listed.setIfInBounds i true)= [])
 (h:if Region.wanted o (yielded ops a.tmps)=true then Oper.wp P o a w (fun e w'=>Q .normal e w') Q else Q .normal (a.put o.dst undef) w):GT P md ops Q S n (y+1) listed a w:=fun z=>by
 refine⟨fun b=>(by rw[b]at c;cases c),fun j p=> ?_⟩;have r:j=i:=by rw[c]at p;simpa using p
 subst r;have x:j=n:=by simpa using q
 subst x;have k:∀(f:Nat) (a:Act) (w:World),Q .normal a w->rV P md ops Q S j f (listed.setIfInBounds j true) a w:=fun f a w h=>by
  cases f with
  |zero=>exact⟨m,h⟩
  |succ f=>exact⟨fun _=>h,by rw[m];simp⟩
 refine wpOp_step s (fun A l=> ?_);split
 ·rename_i d
  rw[zi d]at h;exact Oper.wp_mono (fun e w' u=>l e w' ⟨fun b=>absurd rfl b,k _ _ _ u⟩) h
 rename_i d
 rw[zh d]at h;exact l _ _ ⟨fun b=>absurd rfl b,k _ _ _ h⟩
theorem aC {id:Nat}{a:Act}{w:World}(n:Nat)(S:World->Prop)(d:P.follows .mixedOrders=true)(e:KT .any ops n=true)(h:GT P .any ops Q S n ops.size (Array.replicate ops.size false) a w.drew):(Code.region id ops true).wp P Q a w:=by
 exact wp_region_any d (vY _ _ _ _ (h ⟨by simp,fun j i _ b=>(by rw[yx]at b;cases b),fun t _ c=>getD_in (by simpa using c) (yx _ _)⟩))
def vZ :List Oper->Nat->Option Oper
 |o::_,0=>some o
 |_::l,i+1=>vZ l i
 | [],_=>none
theorem FZ :∀{l:List Oper} {i:Nat} {o:Oper},vZ l i=some o->l[i]?=some o
 |_::_,0,_,h=>by simpa[vZ]using h
 |_::l,i+1,_,h=>by simpa using FZ (l:=l) (i:=i) h
 | [],_,_,h=>by simp[vZ]at h
theorem oy {ops:Array Oper}{i:Nat}{o:Oper}(h:vZ ops.toList i=some o):ops[i]?=some o:=by
 have:=FZ h;simpa using this
inductive Bd (P:Program)(ops:Array Oper)(S:World->Prop)(G:Act->Prop):List Nat->Act->Prop
 |nil {a:Act} (h:G a):Bd P ops S G [] a
 |cons {i:Nat} {is:List Nat} {oi:Oper} {v:Value} {a:Act} (hi:ops[i]?=some oi) (hy:YieldsIf P ops S oi v a) (h:Bd P ops S G is (a.put oi.dst v)):Bd P ops S G (i::is) a
theorem Bd.c {P:Program}{ops:Array Oper}{S:World->Prop}{G:Act->Prop}{i:Nat}{c:List Nat}{b:Oper}{v:Value}{a:Act}(hi:vZ ops.toList i=some b)(d:Region.wanted b (yielded ops a.tmps)=true)
 (e:∀w,S w->(execOp a.eval b).run P w= .ok (.value v) w) (h:Bd P ops S G c (a.put b.dst v)):Bd P ops S G (i::c) a:= .cons (oy hi) (.inl ⟨d,e⟩) h
theorem Bd.u {P:Program}{ops:Array Oper}{S:World->Prop}{G:Act->Prop}{i:Nat}{c:List Nat}{b:Oper}{a:Act}(hi:vZ ops.toList i=some b)(d:Region.wanted b (yielded ops a.tmps)=false)
 (h:Bd P ops S G c (a.put b.dst undef)):Bd P ops S G (i::c) a:= .cons (oy hi) (.inr ⟨d,rfl⟩) h
def Vx :List Nat->Array Bool->Array Bool
 | [],l=>l
 |i::is,l=>Vx is (l.setIfInBounds i true)
def Vy :List Nat->Nat->Nat
 | [],f=>f
 |_::is,f=>Vy is f+1
def Qi (md:Region.Mode)(ops:Array Oper)(n:Nat):List Nat->Array Bool->Bool
 | [],_=>true
 |i::is,l=>decide (i<n)&&KT md ops n&&Region.free md ops l i&&(Region.ready md ops l).contains i&&Qi md ops n is (l.setIfInBounds i true)
theorem GT.jV (e:List Nat){l:Nat}{listed:Array Bool}{a:Act}{w:World}(hS:S w)(m:∀c (a:Act) (d:Nat) v w,Q (.panic c) (a.put (some d) v) w->Q (.panic c) a w)
 (k:Qi md ops n e listed=true) (j:Bd P ops S (fun b=>GT P md ops Q S n l (Vx e listed) b w) e a):GT P md ops Q S n (Vy e l) listed a w:=by
 induction e generalizing listed a with
 |nil=>
  cases j with
  |nil h=>exact h
 |cons i e ih=>
  cases j with
  |cons hi hy j=>
   simp only[Qi,zx]at k;obtain⟨⟨⟨⟨q,p⟩,s⟩,r⟩,o⟩:=k;refine GT.take hi q p s r (fun c a w h=> ?_) hy hS (ih o j);revert h
   cases Oper.dst _ with
   |none=>exact id
   |some d=>exact m c a d _ w
def stB (md:Region.Mode)(ops:Array Oper)(n:Nat)(listed:Array Bool)(i:Nat):Bool:=decide (i<n)&&(Region.ready md ops listed== [i])
theorem GT.fJ (i:Nat){o:Oper}{d:Nat}{listed:Array Bool}{a:Act}{w:World}
 (h:∀c:Act->World->Prop,Shut (∀a w,S w->(S w->GT P md ops Q S n d (listed.setIfInBounds i true) a w)->c a w)->if Region.wanted o (yielded ops a.tmps)=true then Oper.wp P o a w c Q else c (a.put o.dst undef) w)
 (e:vZ ops.toList i=some o) (b:stB md ops n listed i=true):GT P md ops Q S n (d+1) listed a w:=by
 simp only[stB,zx,yN]at b;exact GT.step (oy e) b.1 b.2 h
def twB (md:Region.Mode)(ops:Array Oper)(n:Nat)(listed:Array Bool)(i j:Nat):Bool:=decide (i<n)&&decide (j<n)&&(Region.ready md ops listed== [i,j])
theorem GT.T' (i j:Nat){d c:Oper}{h:Nat}{listed:Array Bool}{a:Act}{w:World}(hi:vZ ops.toList i=some d)(m:vZ ops.toList j=some c)(e:twB md ops n listed i j=true)
 (l:∀b:Act->World->Prop,Shut (∀a w,S w->(S w->GT P md ops Q S n h (listed.setIfInBounds i true) a w)->b a w)->if Region.wanted d (yielded ops a.tmps)=true then Oper.wp P d a w b Q else b (a.put d.dst undef) w)
 (k:∀b:Act->World->Prop,Shut (∀a w,S w->(S w->GT P md ops Q S n h (listed.setIfInBounds j true) a w)->b a w)->if Region.wanted c (yielded ops a.tmps)=true then Oper.wp P c a w b Q else b (a.put c.dst undef) w):GT P md ops Q S n (h+1) listed a w:=by
 simp only[twB,zx,yN]at e;exact GT.two (oy hi) (oy m) e.1.1 e.1.2 e.2 l k
def laB (md:Region.Mode)(ops:Array Oper)(n:Nat)(listed:Array Bool)(i:Nat):Bool:=decide (i=n)&&(Region.ready md ops listed== [i])&&(Region.ready md ops (listed.setIfInBounds i true)== [])
theorem GT.pA (i:Nat){o:Oper}{d:Nat}{listed:Array Bool}{a:Act}{w:World}
 (h:if Region.wanted o (yielded ops a.tmps)=true then Oper.wp P o a w (fun e w'=>Q .normal e w') Q else Q .normal (a.put o.dst undef) w)
 (c:vZ ops.toList i=some o) (b:laB md ops n listed i=true):GT P md ops Q S n (d+1) listed a w:=by
 simp only[laB,zx,yN]at b;exact GT.last (oy c) b.1.1 b.1.2 b.2 h
end
open Go.RowKit
structure jG (w:World)(g gl fb:Nat)(s:ByteArray)(k:Nat)(f m:Int):Prop where
 rdr:ji w g s k f
 left:af w gl 3 #[.int .i64 m]
 box:af w fb 164 #[.pointer (some ⟨g,0,none⟩)]
theorem af.Eh {w:World}{g c:Nat}{t d:TypeId}{i j:Array Value}(h:af w g t i)(b:af w c d j)(e:t≠d):g≠c:=by
 rintro rfl;unfold af at h b;rw[h]at b;injection b with b;injection b with _ ht;exact e ht
theorem jG.apart {w:World}{g gl b:Nat}{s:ByteArray}{k:Nat}{f m:Int}(h:jG w g gl b s k f m):gl≠g/\b≠g/\b≠gl:=⟨h.left.Eh h.rdr (by decide),h.box.Eh h.rdr (by decide),h.box.Eh h.left (by decide)⟩
theorem jG.below {w w':World}{g gl c:Nat}{s:ByteArray}{k:Nat}{f m:Int}(h:jG w g gl c s k f m)(b:Below w.heap.size w w'):jG w' g gl c s k f m:=
 ⟨(b.block _ h.rdr.lt).trans h.rdr,(b.block _ h.left.lt).trans h.left,(b.block _ h.box.lt).trans h.box⟩
theorem jG.dE {w w':World}{g gl d:Nat}{s:ByteArray}{k c:Nat}{f b m:Int}(h:jG w g gl d s k f m)(e:ae [g] w w')(i:ji w' g s c b):jG w' g gl d s c b m:=
 ⟨i,h.left.only e (by simp[h.apart.1]),h.box.only e (by simp[h.apart.2.1])⟩
def iw (g gl fb:Nat):Value:= .agg #[.func (.func 113) #[.pointer (some ⟨g,0,none⟩)] #[],.func (.func 140) #[.pointer (some ⟨g,0,none⟩)] #[],.func (.func 114) #[.pointer (some ⟨g,0,none⟩)] #[],.func (.func 138) #[.pointer (some ⟨g,0,none⟩)] #[],.func (.func 181) #[] #[.pointer (some ⟨fb,0,none⟩)],.pointer (some ⟨gl,0,none⟩)]
theorem Qj (N:Nat×Nat×Int)(z:Nat):qF N z<=z:=by
 rcases ow N z 0 with⟨_,_,h,_⟩|⟨_,_,_,h,_⟩|⟨_,b,_,h,_⟩<;>omega
theorem Cq (g gl b:Nat)(s:ByteArray)(k z:Nat)(m:Int)(w:World)(h:jG w g gl b s k 0 m)(p:k<=s.size)(n:s.size<=9223372036854775807)(hz:z<=65536)(r:ba w)(o:g≠0):
 Calls prog 181 #[.int .i64 z,.pointer (some ⟨b,0,none⟩)] w fun e w'=>e= .returned (.int .i64 (qF (aw (s.data.toList.drop k)) z))/\jG w' g gl b s (s9 (aw (s.data.toList.drop k)) z k) (oW (aw (s.data.toList.drop k)) z) m/\ae [g] w w':=by
 have y:w.cell? ⟨b,0,none⟩=some (.pointer (some ⟨g,0,none⟩)):=h.box.cell 0;have i:=za (P9 g s k z w h.rdr p n (by omega) r o);have u:=Qj (aw (s.data.toList.drop k)) z;have j:=za h;generalize qF (aw (s.data.toList.drop k)) z=N at*;generalize s9 (aw (s.data.toList.drop k)) z k=K at*;generalize oW (aw (s.data.toList.drop k)) z=E at*;have x:IntKind.u64.wrap (z:Int)=z:=xg _ (by omega);clear h;go_enter func181,ntmps181
 go_wp2_with fail
 refine i.out.mono ?_;rintro e A ⟨rfl,d,c⟩;have q:=za (j.out.dE c d);have l:=za c;clear d c;go_wp2;go_ret;exact⟨by go_num,q.out,l.out⟩
theorem XD (i:Int)(m b o n cap:Nat)(k z B:Int)(j c d l:Value)(w:World)(h:af w m 43 #[.int .i64 k,.int .i64 z,.slice (some ⟨b,o,none⟩) n cap,.int .i64 B])(J:0<n)(I:n<=9223372036854775807)
 (F:w.cell? ⟨b,o,none⟩=some j) (L:w.cell? ⟨b,o+1,none⟩=some c) (G:w.cell? ⟨b,o+2,none⟩=some d) (E:w.cell? ⟨b,o+3,none⟩=some l) (M:b<w.heap.size)
 (r q u:Int) (p:Option Addr) (s x:Nat) (A:j= .int .i64 r) (y:c= .int .i64 q) (D:d= .slice p s x) (C:l= .int .i64 u):
 Calls prog 220 #[.int .i64 i,.pointer (some ⟨m,0,none⟩)] w fun e w'=>e= .returned (.tuple #[.agg #[j,c,d,l],.bool true])/\Below w.heap.size w w':=by
 have K:w.cell? ⟨m,2,none⟩=some (.slice (some ⟨b,o,none⟩) n cap):=h.cell 2;have H:=h.lt;subst A y D C;clear h;go_enter func220,ntmps220
 go_wp2;refine zk (v:= .tuple #[.agg #[.int .i64 r,.int .i64 q,.slice p s x,.int .i64 u],.bool true]) (by simp[results,results220,go_sem]) rfl ⟨rfl,bQ⟩
theorem fh {w:World}{g:Nat}{t:TypeId}{a b c d e f:Value}(h:af w g t #[a,b,c,d,e,f]):w.cell? ⟨g,0,none⟩=some a/\w.cell? ⟨g,1,none⟩=some b/\w.cell? ⟨g,2,none⟩=some c/\w.cell? ⟨g,3,none⟩=some d/\w.cell? ⟨g,4,none⟩=some e/\w.cell? ⟨g,5,none⟩=some f:=⟨h.cell 0,h.cell 1,h.cell 2,h.cell 3,h.cell 4,h.cell 5⟩
def kh (g gl fb:Nat):Array Value:= #[.func (.func 113) #[.pointer (some ⟨g,0,none⟩)] #[],.func (.func 140) #[.pointer (some ⟨g,0,none⟩)] #[],.func (.func 114) #[.pointer (some ⟨g,0,none⟩)] #[],.func (.func 138) #[.pointer (some ⟨g,0,none⟩)] #[],.func (.func 181) #[] #[.pointer (some ⟨fb,0,none⟩)],.pointer (some ⟨gl,0,none⟩)]
theorem lx {w:World}{g:Nat}{p:Addr}(e:p.block≠g)(a b c d:Value):((((w.drew.setCell ⟨g,0,none⟩ a).setCell ⟨g,1,none⟩ b).setCell ⟨g,2,none⟩ c).setCell ⟨g,3,none⟩ d).cell? p=w.cell? p:=
 zD (by
  rw[zQ _ _ _ _ e,zQ _ _ _ _ e,zQ _ _ _ _ e,zQ _ _ _ _ e];rfl)
theorem cM {w:World}{g:Nat}{p:Addr}(e:p.block≠g)(m:Nat)(a b c d:Value):(((((w.drewN m).setCell ⟨g,0,none⟩ a).setCell ⟨g,1,none⟩ b).setCell ⟨g,2,none⟩ c).setCell ⟨g,3,none⟩ d).cell? p=w.cell? p:=
 zD (by
  rw[zQ _ _ _ _ e,zQ _ _ _ _ e,zQ _ _ _ _ e,zQ _ _ _ _ e];rfl)
theorem XE (i:Nat)(j A g gl fb b o n cap:Nat)(s:ByteArray)(I:Nat)(m:Int)(k ab d:Int)(f0 f1 f2 f3:Value)(w:World)(h:af w j 43 #[.int .i64 k,.int .i64 ab,.slice (some ⟨b,o,none⟩) n cap,.int .i64 d])(hr:af w A 240 (kh g gl fb))(fl:Int)(tC:jG w g gl fb s I fl m)(ad:I<=s.size)(hs:s.size<=9223372036854775807)(hn:i<n)(DV:n<=9223372036854775807)(oF:0<=d)(JU:d<=n)
 (h0:w.cell? ⟨b,o+i*4,none⟩=some f0) (h1:w.cell? ⟨b,o+i*4+1,none⟩=some f1) (h2:w.cell? ⟨b,o+i*4+2,none⟩=some f2) (h3:w.cell? ⟨b,o+i*4+3,none⟩=some f3) (Z:b<w.heap.size)
 (q l x:Int) (u:Option Addr) (r y:Nat) (e0:f0= .int .i64 q) (e1:f1= .int .i64 l) (e2:f2= .slice u r y) (e3:f3= .int .i64 x):
 Calls prog 221 #[.int .i64 i,.pointer (some ⟨j,0,none⟩),.pointer (some ⟨A,0,none⟩)] w fun e w'=>e= .returned (.tuple #[.agg #[f0,f1,f2,f3],.bool (decide ((i:Int)<(n:Int)-d)||decide (I<s.size))])/\Below w.heap.size w w':=by
 have c:Below w.heap.size w (w.alloc (.cells #[.int .i64 0,.int .i64 0,.slice none 0 0,.int .i64 0] 43)):=bQ;have mU:=fun V (hb:Below w.heap.size w V)=>vP g s I fl V ((hb.block _ tC.rdr.lt).trans tC.rdr) ad hs
 have Eo:=za mU;have F:=(c.cell (p:=⟨j,2,none⟩) h.lt).trans (show w.cell? ⟨j,2,none⟩=some (.slice (some ⟨b,o,none⟩) n cap)from h.cell 2);have G:=(c.cell (p:=⟨j,3,none⟩) h.lt).trans (show w.cell? ⟨j,3,none⟩=some (.int .i64 d)from h.cell 3);have Em:=hr.lt;have ae:=h.lt;obtain⟨r0,r1,r2,r3,r4,r5⟩:=fh (show af w A 240 #[_,_,_,_,_,_]from hr);have J:=(c.cell (p:=⟨A,3,none⟩) Em).trans r3;have D:=(c.cell (p:=⟨b,_,none⟩) Z).trans h0;have E:=(c.cell (p:=⟨b,_,none⟩) Z).trans h1;have C:=(c.cell (p:=⟨b,_,none⟩) Z).trans h2;have H:=(c.cell (p:=⟨b,_,none⟩) Z).trans h3;subst e0 e1 e2 e3;have pL:=af.new w 43 #[.int .i64 0,.int .i64 0,.slice none 0 0,.int .i64 0];have L:=za pL;have U:=za c;generalize Hd:w.alloc (.cells #[.int .i64 0,.int .i64 0,.slice none 0 0,.int .i64 0] 43)=B at*;clear h hr tC r0 r1 r2 r3 r4 r5 h0 h1 h2 h3 c mU pL;by_cases aD:(i:Int)<(n:Int)-d
 ·have d1:decide ((i:Int)<(n:Int)-d)=true:=zE aD;rw[d1,Bool.true_or];go_enter func221,ntmps221
  go_wp2_with fail
  have ew:IntKind.i64.wrap ((n:Int)-d)=(n:Int)-d:=zZ _ (by omega);refine aC 20 (fun V=>V.cell? ⟨j,2,none⟩=some (.slice (some ⟨b,o,none⟩) n cap)/\V.cell? ⟨j,3,none⟩=some (.int .i64 d)/\V.cell? ⟨b,o+i*4,none⟩=some (.int .i64 q)/\V.cell? ⟨b,o+i*4+1,none⟩=some (.int .i64 l)/\V.cell? ⟨b,o+i*4+2,none⟩=some (.slice u r y)/\V.cell? ⟨b,o+i*4+3,none⟩=some (.int .i64 x)) (by kernel_rfl) (by kernel_rfl) ?_;have hHeld:(fun V:World=>V.cell? ⟨j,2,none⟩=some (.slice (some ⟨b,o,none⟩) n cap)/\V.cell? ⟨j,3,none⟩=some (.int .i64 d)/\V.cell? ⟨b,o+i*4,none⟩=some (.int .i64 q)/\V.cell? ⟨b,o+i*4+1,none⟩=some (.int .i64 l)/\V.cell? ⟨b,o+i*4+2,none⟩=some (.slice u r y)/\V.cell? ⟨b,o+i*4+3,none⟩=some (.int .i64 x)) B.drew:=⟨F,G,D,E,C,H⟩
  refine GT.jV [0,1,2,3,4,5,6,7,8,9,10,11,12,13,14,15,16,17,18] hHeld (fun _ _ _ _ _ h=>h) (by kernel_rfl) ?_;iterate 11 (refine .c rfl rfl (fun V c=>by go_simp<;>with_reducible rfl) ?_;simp only[Act.put,zb,ze,zf])
  refine .c (v:= .int .i64 ((n:Int)-d)) rfl rfl (fun V c=>by go_simp<;>with_reducible rfl) ?_;try simp only[Act.put,zb,ze,zf];refine .c (v:= .bool true) rfl rfl (fun V c=>by go_simp<;>with_reducible rfl) ?_;try simp only[Act.put,zb,ze,zf];refine .c (v:= .bool true) rfl rfl (fun V c=>by go_simp<;>with_reducible rfl) ?_;try simp only[Act.put,zb,ze,zf];refine .u rfl rfl ?_;try simp only[Act.put,zb,ze,zf];refine .u rfl rfl ?_;try simp only[Act.put,zb,ze,zf];refine .u rfl rfl ?_;try simp only[Act.put,zb,ze,zf];refine .u rfl rfl ?_;try simp only[Act.put,zb,ze,zf];refine .c rfl rfl (fun V c=>by go_simp<;>with_reducible rfl) ?_;simp only[Act.put,zb,ze,zf];refine .nil ?_;obtain⟨n0,n1,n2,n3,m0,m1,m2,m3⟩:=aU L.out;refine GT.fJ 19 (fun K z=> ?_) rfl (by kernel_rfl);go_simp;refine z.out _ _ ⟨(lx (by simp;omega) _ _ _ _).trans F,(lx (by simp;omega) _ _ _ _).trans G,(lx (by simp;omega) _ _ _ _).trans D,(lx (by simp;omega) _ _ _ _).trans E,(lx (by simp;omega) _ _ _ _).trans C,(lx (by simp;omega) _ _ _ _).trans H⟩ (fun hHeld=> ?_);clear z K;try simp only[Act.put,zb,ze,zf]
  refine GT.pA 20 ?_ rfl (by kernel_rfl);go_simp;go_wp2;have hX:=((((L.out.set 0 (.int .i64 q)).set 1 (.int .i64 l)).set 2 (.slice u r y)).set 3 (.int .i64 x)).drew;have W:Below w.heap.size w ((((B.setCell ⟨w.heap.size,0,none⟩ (.int .i64 q)).setCell ⟨w.heap.size,1,none⟩ (.int .i64 l)).setCell ⟨w.heap.size,2,none⟩ (.slice u r y)).setCell ⟨w.heap.size,3,none⟩ (.int .i64 x)).drew:=((((U.out.setCell (by simp) _).setCell (by simp) _).setCell (by simp) _).setCell (by simp) _).drew;obtain⟨x0,x1,x2,x3,_⟩:=aU (show af _ _ _ #[.int .i64 q,.int .i64 l,.slice u r y,.int .i64 x]from hX);refine zk (v:= .tuple #[.agg #[.int .i64 q,.int .i64 l,.slice u r y,.int .i64 x],.bool true]) (by simp[results,results221,go_sem,x0,x1,x2,x3]) rfl ⟨rfl,W⟩
 have d1:decide ((i:Int)<(n:Int)-d)=false:=zu aD;rw[d1,Bool.false_or];have ew:IntKind.i64.wrap ((n:Int)-d)=(n:Int)-d:=zZ _ (by omega);by_cases hk:I<s.size
 ·have d3:decide (I<s.size)=true:=zE hk;rw[d3];go_enter func221,ntmps221
  go_wp2_with fail
  refine aC 20 (fun V=>V.cell? ⟨j,2,none⟩=some (.slice (some ⟨b,o,none⟩) n cap)/\V.cell? ⟨j,3,none⟩=some (.int .i64 d)/\V.cell? ⟨b,o+i*4,none⟩=some (.int .i64 q)/\V.cell? ⟨b,o+i*4+1,none⟩=some (.int .i64 l)/\V.cell? ⟨b,o+i*4+2,none⟩=some (.slice u r y)/\V.cell? ⟨b,o+i*4+3,none⟩=some (.int .i64 x)/\V.cell? ⟨A,3,none⟩=some (.func (.func 138) #[.pointer (some ⟨g,0,none⟩)] #[])) (by kernel_rfl) (by kernel_rfl) ?_;have hHeld:(fun V:World=>V.cell? ⟨j,2,none⟩=some (.slice (some ⟨b,o,none⟩) n cap)/\V.cell? ⟨j,3,none⟩=some (.int .i64 d)/\V.cell? ⟨b,o+i*4,none⟩=some (.int .i64 q)/\V.cell? ⟨b,o+i*4+1,none⟩=some (.int .i64 l)/\V.cell? ⟨b,o+i*4+2,none⟩=some (.slice u r y)/\V.cell? ⟨b,o+i*4+3,none⟩=some (.int .i64 x)/\V.cell? ⟨A,3,none⟩=some (.func (.func 138) #[.pointer (some ⟨g,0,none⟩)] #[])) B.drew:=⟨F,G,D,E,C,H,J⟩
  refine GT.jV [0,1,2,3,4,5,6,7,8,9,10,11,12,13,14,15] hHeld (fun _ _ _ _ _ h=>h) (by kernel_rfl) ?_;iterate 11 (refine .c rfl rfl (fun V c=>by go_simp<;>with_reducible rfl) ?_;simp only[Act.put,zb,ze,zf])
  refine .c (v:= .int .i64 ((n:Int)-d)) rfl rfl (fun V c=>by go_simp<;>with_reducible rfl) ?_;try simp only[Act.put,zb,ze,zf];refine .c (v:= .bool false) rfl rfl (fun V c=>by go_simp<;>with_reducible rfl) ?_;try simp only[Act.put,zb,ze,zf];refine .c (v:= .bool false) rfl rfl (fun V c=>by go_simp<;>with_reducible rfl) ?_;try simp only[Act.put,zb,ze,zf];refine .c (v:= .pointer (some ⟨A,3,none⟩)) rfl rfl (fun V c=>by go_simp<;>with_reducible rfl) ?_;try simp only[Act.put,zb,ze,zf];refine .c (v:= .func (.func 138) #[.pointer (some ⟨g,0,none⟩)] #[]) rfl rfl (fun V c=>by go_simp<;>with_reducible rfl) ?_;try simp only[Act.put,zb,ze,zf];refine .nil ?_;refine GT.fJ 16 (fun K z=> ?_) rfl (by kernel_rfl);go_simp;refine(Eo.out B.drew U.out.drew).mono ?_;rintro e w2 ⟨rfl,nq,rfl⟩;go_wp2_with fail
  refine z.out _ _ ⟨F,G,D,E,C,H,J⟩ (fun hHeld=> ?_);clear z K;try simp only[Act.put,zb,ze,zf]
  refine GT.jV [17,18] hHeld (fun _ _ _ _ _ h=>h) (by kernel_rfl) ?_;refine .c (v:= .bool true) rfl rfl (fun V c=>by go_simp<;>with_reducible rfl) ?_;try simp only[Act.put,zb,ze,zf];refine .c (v:= .bool true) rfl rfl (fun V c=>by go_simp<;>with_reducible rfl) ?_;try simp only[Act.put,zb,ze,zf];refine .nil ?_;obtain⟨n0,n1,n2,n3,m0,m1,m2,m3⟩:=aU L.out;refine GT.fJ 19 (fun K z=> ?_) rfl (by kernel_rfl);go_simp;refine z.out _ _ ⟨(cM (by simp;omega) _ _ _ _ _).trans F,(cM (by simp;omega) _ _ _ _ _).trans G,(cM (by simp;omega) _ _ _ _ _).trans D,(cM (by simp;omega) _ _ _ _ _).trans E,(cM (by simp;omega) _ _ _ _ _).trans C,(cM (by simp;omega) _ _ _ _ _).trans H,(cM (by simp;omega) _ _ _ _ _).trans J⟩ (fun hHeld=> ?_);clear z K;try simp only[Act.put,zb,ze,zf]
  refine GT.pA 20 ?_ rfl (by kernel_rfl);go_simp;go_wp2;have Y:=(L.out.drewN (1+nq)).set 0 (.int .i64 q);have M:=Y.set 1 (.int .i64 l);have X:=M.set 2 (.slice u r y);have aa:=X.set 3 (.int .i64 x);have O:=Y.cell 0;have N:=M.cell 1;have R:=X.cell 2;have S:=aa.cell 3;simp at O N R S;have W:Below w.heap.size w (((((B.drewN (1+nq)).setCell ⟨w.heap.size,0,none⟩ (.int .i64 q)).setCell ⟨w.heap.size,1,none⟩ (.int .i64 l)).setCell ⟨w.heap.size,2,none⟩ (.slice u r y)).setCell ⟨w.heap.size,3,none⟩ (.int .i64 x)):=(((((U.out.bG _).setCell (by simp) _).setCell (by simp) _).setCell (by simp) _).setCell (by simp) _)
  refine zk (v:= .tuple #[.agg #[.int .i64 q,.int .i64 l,.slice u r y,.int .i64 x],.bool true]) (by simp[results,results221,go_sem,O,N,R,S]) rfl ⟨rfl,W⟩
 have d3:decide (I<s.size)=false:=zu hk;rw[d3];go_enter func221,ntmps221
 go_wp2_with fail
 refine aC 20 (fun V=>V.cell? ⟨j,2,none⟩=some (.slice (some ⟨b,o,none⟩) n cap)/\V.cell? ⟨j,3,none⟩=some (.int .i64 d)/\V.cell? ⟨b,o+i*4,none⟩=some (.int .i64 q)/\V.cell? ⟨b,o+i*4+1,none⟩=some (.int .i64 l)/\V.cell? ⟨b,o+i*4+2,none⟩=some (.slice u r y)/\V.cell? ⟨b,o+i*4+3,none⟩=some (.int .i64 x)/\V.cell? ⟨A,3,none⟩=some (.func (.func 138) #[.pointer (some ⟨g,0,none⟩)] #[])) (by kernel_rfl) (by kernel_rfl) ?_;have hHeld:(fun V:World=>V.cell? ⟨j,2,none⟩=some (.slice (some ⟨b,o,none⟩) n cap)/\V.cell? ⟨j,3,none⟩=some (.int .i64 d)/\V.cell? ⟨b,o+i*4,none⟩=some (.int .i64 q)/\V.cell? ⟨b,o+i*4+1,none⟩=some (.int .i64 l)/\V.cell? ⟨b,o+i*4+2,none⟩=some (.slice u r y)/\V.cell? ⟨b,o+i*4+3,none⟩=some (.int .i64 x)/\V.cell? ⟨A,3,none⟩=some (.func (.func 138) #[.pointer (some ⟨g,0,none⟩)] #[])) B.drew:=⟨F,G,D,E,C,H,J⟩
 refine GT.jV [0,1,2,3,4,5,6,7,8,9,10,11,12,13,14,15] hHeld (fun _ _ _ _ _ h=>h) (by kernel_rfl) ?_;iterate 11 (refine .c rfl rfl (fun V c=>by go_simp<;>with_reducible rfl) ?_;simp only[Act.put,zb,ze,zf])
 refine .c (v:= .int .i64 ((n:Int)-d)) rfl rfl (fun V c=>by go_simp<;>with_reducible rfl) ?_;try simp only[Act.put,zb,ze,zf];refine .c (v:= .bool false) rfl rfl (fun V c=>by go_simp<;>with_reducible rfl) ?_;try simp only[Act.put,zb,ze,zf];refine .c (v:= .bool false) rfl rfl (fun V c=>by go_simp<;>with_reducible rfl) ?_;try simp only[Act.put,zb,ze,zf];refine .c (v:= .pointer (some ⟨A,3,none⟩)) rfl rfl (fun V c=>by go_simp<;>with_reducible rfl) ?_;try simp only[Act.put,zb,ze,zf];refine .c (v:= .func (.func 138) #[.pointer (some ⟨g,0,none⟩)] #[]) rfl rfl (fun V c=>by go_simp<;>with_reducible rfl) ?_;try simp only[Act.put,zb,ze,zf];refine .nil ?_;refine GT.fJ 16 (fun K z=> ?_) rfl (by kernel_rfl);go_simp;refine(Eo.out B.drew U.out.drew).mono ?_;rintro e w2 ⟨rfl,nq,rfl⟩;go_wp2_with fail
 refine z.out _ _ ⟨F,G,D,E,C,H,J⟩ (fun hHeld=> ?_);clear z K;try simp only[Act.put,zb,ze,zf]
 refine GT.jV [17,18] hHeld (fun _ _ _ _ _ h=>h) (by kernel_rfl) ?_;refine .c (v:= .bool false) rfl rfl (fun V c=>by go_simp<;>with_reducible rfl) ?_;try simp only[Act.put,zb,ze,zf];refine .c (v:= .bool false) rfl rfl (fun V c=>by go_simp<;>with_reducible rfl) ?_;try simp only[Act.put,zb,ze,zf];refine .nil ?_;obtain⟨n0,n1,n2,n3,m0,m1,m2,m3⟩:=aU L.out;refine GT.fJ 19 (fun K z=> ?_) rfl (by kernel_rfl);go_simp;refine z.out _ _ ⟨(cM (by simp;omega) _ _ _ _ _).trans F,(cM (by simp;omega) _ _ _ _ _).trans G,(cM (by simp;omega) _ _ _ _ _).trans D,(cM (by simp;omega) _ _ _ _ _).trans E,(cM (by simp;omega) _ _ _ _ _).trans C,(cM (by simp;omega) _ _ _ _ _).trans H,(cM (by simp;omega) _ _ _ _ _).trans J⟩ (fun hHeld=> ?_);clear z K;try simp only[Act.put,zb,ze,zf]
 refine GT.pA 20 ?_ rfl (by kernel_rfl);go_simp;go_wp2;have Y:=(L.out.drewN (1+nq)).set 0 (.int .i64 q);have M:=Y.set 1 (.int .i64 l);have X:=M.set 2 (.slice u r y);have aa:=X.set 3 (.int .i64 x);have O:=Y.cell 0;have N:=M.cell 1;have R:=X.cell 2;have S:=aa.cell 3;simp at O N R S;have W:Below w.heap.size w (((((B.drewN (1+nq)).setCell ⟨w.heap.size,0,none⟩ (.int .i64 q)).setCell ⟨w.heap.size,1,none⟩ (.int .i64 l)).setCell ⟨w.heap.size,2,none⟩ (.slice u r y)).setCell ⟨w.heap.size,3,none⟩ (.int .i64 x)):=(((((U.out.bG _).setCell (by simp) _).setCell (by simp) _).setCell (by simp) _).setCell (by simp) _)
 refine zk (v:= .tuple #[.agg #[.int .i64 q,.int .i64 l,.slice u r y,.int .i64 x],.bool false]) (by simp[results,results221,go_sem,O,N,R,S]) rfl ⟨rfl,W⟩
theorem I4 {o:Option (Ty×List UInt8)}{t:Ty}{r:List UInt8}(h:u9 o=some (t,r)):∃x b,o=some (x,b)/\gP x b=some (t,r):=by
 match o,h with
 |some (x,b),h=>exact⟨x,b,rfl,h⟩
theorem I5 {f L c:Nat}{s:ByteArray}{p q d:Nat}{x y:Ty}(o:0<L)(e:aJ (f+1) (s.data.toList.drop p)=u9 (aJ f (s.data.toList.drop (p+1))))(h:tF f (L-1) s (p+1) x false q c)(k:d<=s.size):tF (f+1) L s p y false d c:=by
 refine⟨(by intro h;cases h),fun _ m r b=> ?_,k⟩;rw[e]at b;obtain⟨z,i,l,j⟩:=I4 b;obtain⟨n,rfl⟩:=Mw j;have:=(h.2.1 rfl z i l).list n;rwa [show 1+(L-1)=L from by omega]at this
theorem pB {f L j l:Nat}{s:ByteArray}{p q d:Nat}{x y:Ty}(i:aJ (f+1) (s.data.toList.drop p)=u9 (aJ f (s.data.toList.drop (p+1))))(h:tF f (L-1) s (p+1) x true q j)(e:∀b r,gP x (s.data.toList.drop q)=some (b,r)->eh L b)(k:d<=s.size):tF (f+1) L s p y false d l:=by
 refine⟨(by intro h;cases h),fun _ b r c=> ?_,k⟩;rw[i,(h.1 rfl).1]at c;exact e b r c
theorem I6 {f L c:Nat}{s:ByteArray}{p q b n:Nat}{x:Ty}(l:0<L)(e:aJ (f+1) (s.data.toList.drop p)=u9 (aJ f (s.data.toList.drop (p+1))))(h:tF f (L-1) s (p+1) x true q c)(d:gP x (s.data.toList.drop q)=some (.mk 4 n [x] 0,s.data.toList.drop b))(m:q<b)(i:b<=s.size):tF (f+1) L s p (.mk 4 n [x] 0) true b c:=by
 obtain⟨j,k,o⟩:=h.1 rfl;refine⟨fun _=>⟨by rw[e,j];exact d, ?_,by omega⟩,(by intro h;cases h),i⟩;simp only[Ty.count,bc];omega
theorem Qk {s:ByteArray}{q:Nat}(x:Ty)(h:∀b:q<s.size,s[q].toNat≠58)(L:Nat):∀d r,gP x (s.data.toList.drop q)=some (d,r)->eh L d:=by
 intro d r c;by_cases b:q<s.size
 ·rw[drop_cons s q b,u' x _ _ (h b)]at c;cases c
 rw[zI (by simpa using b)]at c;cases c
theorem tail_at {s:ByteArray}{q:Nat}(x:Ty)(b:q<s.size)(h:s[q].toNat=58):gP x (s.data.toList.drop q)=je x (cw (s.data.toList.drop (q+1))):=by
 rw[drop_cons s q b,show s[q]=58 from zO.1 h,nh]
theorem Ql {s:ByteArray}{q n d:Nat}(x:Ty)(i:q<s.size)(h:s[q].toNat=58)(e:oR 1024 s (q+1) n false d)(L:Nat):∀b r,gP x (s.data.toList.drop q)=some (b,r)->eh L b:=by
 intro b r c;rw[tail_at x i h]at c;exact Mv (e.2.1 rfl) L x b r c
theorem Nd {s:ByteArray}{q n c:Nat}(x:Ty)(j:q<s.size)(h:s[q].toNat=58)(l:oR 1024 s (q+1) n true c)(k:∀j:c<s.size,s[c].toNat≠93)(L:Nat):∀e r,gP x (s.data.toList.drop q)=some (e,r)->eh L e:=by
 intro e r b;rw[tail_at x j h,(l.1 rfl).1]at b;by_cases d:c<s.size
 ·rw[drop_cons s c d,je]at b;split at b
  ·rename_i i
   exact absurd (by first|exact i|simpa using i|(rw[i];rfl)) (k d)
  cases b
 rw[zI (by simpa using d)]at b;cases b
theorem Qm {s:ByteArray}{q n b:Nat}(x:Ty)(i:q<s.size)(h:s[q].toNat=58)(e:oR 1024 s (q+1) n true b)(d:b<s.size)(c:s[b].toNat=93):gP x (s.data.toList.drop q)=some (.mk 4 n [x] 0,s.data.toList.drop (b+1)):=by
 rw[tail_at x i h,(e.1 rfl).1,drop_cons s b d,je,zi (by first|exact c|exact zO.1 c)]
theorem Cr (f:Nat){s:ByteArray}{q:Nat}(h:s.size<=q):aJ f (s.data.toList.drop q)=none:=by
 rw[zI (by simpa using h)];cases f<;>rfl
theorem rJ.gone {f:Nat}{s:ByteArray}{R:Option (Ty×List UInt8)}{q:Nat}{acc:List Ty}{c:Nat}(d:R=none)(h:s.size<=q):rJ f s R q acc c:=by
 refine⟨0, ?_,by rw[zI (by simpa using h)];simp⟩;subst d;have hi:=Cr f h;rw[zI (by simpa using h)]at hi⊢;by_cases b:0<c
 ·simp[tQ,b]
 simp[tQ,b,hi]
theorem I7 {f:Nat}{s:ByteArray}{R:Option (Ty×List UInt8)}{p:Nat}(h:eR f s R p [] 0)(c:∀b:p<s.size,s[p].toNat≠125):rJ f s R p [] 0:=by
 by_cases b:p<s.size
 ·exact h.first b (c b)
 exact rJ.gone (h.stop (by omega)) (by omega)
theorem Cs {f:Nat}{s:ByteArray}{R:Option (Ty×List UInt8)}{p:Nat}{acc:List Ty}{d:Nat}(h:eR f s R p acc d)(e:acc≠ [])(i:∀b:p<s.size,s[p].toNat≠125)(c:∀b:p<s.size,s[p].toNat≠44):R=none:=by
 by_cases b:p<s.size
 ·exact h.bad b (i b) (c b) e
 exact h.stop (by omega)
theorem KU {f L L':Nat}{s:ByteArray}{R:Option (Ty×List UInt8)}{q b:Nat}{acc:List Ty}{d:Nat}{y:Ty}(h:O3 f s R q acc d)(i:q<=s.size)(e:tF f L s q y true b L'):eR f s R b (acc++ [y]) d:=by
 obtain⟨j,_,_⟩:=e.1 rfl;have c:=(h.some i j).1;rw[zR,aa,show s.size-(s.size-b)=b from by have:=e.2.2;omega]at c;exact c
theorem tk (acc:List Ty)(y:Ty):bc (acc++ [y])=bc acc+y.count:=by simp[fN,bc]
theorem I8 {L b:Nat}{s:ByteArray}{R:Option (Ty×List UInt8)}{q:Nat}{acc:List Ty}{c:Nat}(e:R=some (.mk 5 0 acc c,s.data.toList.drop q))(i:L+bc acc=b)(d:q<=s.size):Pa (1+b) s R (.mk 5 0 acc c) true q L:=
 ⟨fun _=>⟨e,by simp[Ty.count];omega⟩,(by intro h;cases h),d⟩
theorem Dx {L b:Nat}{s:ByteArray}{R:Option (Ty×List UInt8)}{q:Nat}(t:Ty)(d:R=none)(c:q<=s.size):Pa b s R t false q L:=
 ⟨(by intro h;cases h),(by intro _ e r h;rw[d]at h;cases h),c⟩
theorem Qn {f L b j:Nat}{s:ByteArray}{R:Option (Ty×List UInt8)}{q c L':Nat}{acc:List Ty}{i:Nat}{y:Ty}(t:Ty)(h:O3 f s R q acc i)(d:tF f L s q y false c L')(l:L+bc acc=b):Pa (1+b) s R t false c j:=by
 refine⟨(by intro h;cases h),fun _ e r k=> ?_,d.2.2⟩;have:=TA h (d.2.1 rfl) e r k;rwa [show 1+bc acc+L=1+b from by omega]at this
theorem Qo {f:Nat}{s:ByteArray}{p:Nat}(d:p<s.size)(b:s[p].toNat=123):eR f s (aJ (f+1) (s.data.toList.drop p)) (p+1) [] 0:=
 ⟨_,by rw[qK (c:=123) d b,Kp],by omega⟩
theorem acp {f L L':Nat}{s:ByteArray}{p q:Nat}{t:Ty}{ok:Bool}(h:Pa L s (aJ f (s.data.toList.drop p)) t ok q L'):tF f L s p t ok q L':=by
 refine⟨fun d=> ?_,h.2.1,h.2.2⟩;obtain⟨b,c⟩:=h.1 d;have e:=(gA _ _ _ _ b).2;simp only[zR,aa]at e;exact⟨b,c,by have:=h.2.2;omega⟩
theorem Qp (f d:Nat)(hd:d<=8)(IH:Hid (∀(g:Nat) (s:ByteArray) (p L:Nat) (w:World),jF w g s p L->p<=s.size->s.size<=100000->L<=64->
 Calls prog 157 #[.pointer (some ⟨g,0,none⟩),.int .i64 ((d:Int)+1)] w fun e w'=>kE w g s f L p e w')) (g:Nat) (s:ByteArray) (p L:Nat) (w:World) (h:jF w g s p L) (hp:p<s.size) (S:s.size<=100000) (hL:0<L) (N6:L<=64) (hc:s[p].toNat=91):
 Calls prog 157 #[.pointer (some ⟨g,0,none⟩),.int .i64 d] w fun e w'=>kE w g s (f+1) L p e w':=by
 have R:((s[p].toNat:Int)==117)=false:=zm.2 (by omega);have X:((s[p].toNat:Int)==98)=false:=zm.2 (by omega);have ed:IntKind.i64.wrap ((d:Int)+1)=(d:Int)+1:=zZ _ (by omega);have D0:Hid (aJ (f+1) (s.data.toList.drop p)=u9 (aJ f (s.data.toList.drop (p+1)))):=za (by rw[qK (c:=91) hp hc,Ko]);have N:=za (tj.start h);generalize hW:((w.alloc (.cells #[.pointer (some ⟨g,0,none⟩)] 203)).alloc (.cells #[.int .i64 0,.int .i64 0,.slice none 0 0,.int .i64 0] 43))=W at*;obtain⟨g0,g1,g2,f0,f1,f2,mV⟩:=N.out.rd.cells;have b0:W.cell? ⟨w.heap.size,0,none⟩=some (.pointer (some ⟨g,0,none⟩)):=N.out.box.cell 0;have AK:=N.out.glt;have d1:decide ((8:Int)<(d:Int))=false:=zu (by omega);have dL:((L:Int)==0)=false:=zm.2 (by omega);have dp:((p:Int)==(s.size:Int))=false:=zm.2 (by omega);have ew:IntKind.i64.wrap ((L:Int)-1)=(L:Int)-1:=zZ _ (by omega);clear h;go_enter xO,xE
 go_wp2_with fail
 go_quiet (fail)
 obtain⟨oc,rfl⟩:∃oc,oc=nq:=⟨nq,rfl⟩
 go_wp2_with fail
 go_quiet (fail)
 have AJ:=za (N.out.step ((L:Int)-1) ((p:Int)+1) oc nq (L':=L-1) (p':=p+1) (by omega) (by omega));have HI:=za (IH.out g s (p+1) (L-1) _ AJ.out.rd (by omega) S (by omega));clear IH;go_wp2_with fail
 refine HI.out.mono ?_;rintro e I ⟨x,ok,q,l,k,z,M,A,n,cap,rfl,hr,ho,aq,hn,ah⟩;have jc:=za (AJ.out.dE ho hr);have Bv:=za hn;have al:=za ah;have Yx:=jc.out.siz;have hq:=hn.2.2;clear hr ho hn ah HI;have U:=za (jc.out.below (V':=I.alloc (.cells #[.int .i64 k,.int .i64 z,.slice A n cap,.int .i64 M] 43)) bQ);obtain⟨n0,n1,n2,n3,m0,m1,m2,m3⟩:=aU U.out.res;have b2:(I.alloc (.cells #[.int .i64 k,.int .i64 z,.slice A n cap,.int .i64 M] 43)).cell? ⟨w.heap.size,0,none⟩=some (.pointer (some ⟨g,0,none⟩)):=U.out.box.cell 0;have GU:w.heap.size+1<I.heap.size:=by omega
 cases ok with
 |false=>
  obtain⟨k0,k1,k2,k3,l0,l1,l2,l3⟩:=aU jc.out.res;have ar:¬I.heap.size=w.heap.size+1:=by omega
  go_wp2;obtain⟨E1,E2,y,r,B,C⟩:=jc.out.ends (.int .i64 0) (.int .i64 0) (.slice none 0 0) (.int .i64 0);refine zk (v:= .tuple #[.agg #[.int .i64 0,.int .i64 0,.slice none 0 0,.int .i64 0],.bool false]) (by simp[results,yt,go_sem,y,r,B,C,zz,GU]) rfl ?_;exact⟨.mk 0 0 [] 0,false,q,l,_,_,_,_,_,_,rfl,af.alloc (show af _ g _ _ from E1) _,E2.alloc _,by omega,I5 hL D0.out Bv.out hq,(by intro h;cases h)⟩
 |true=>
  go_wp2_with fail
  by_cases V9:∃hq:q<s.size,s[q].toNat=58
  ·obtain⟨Bx,SZ⟩:=V9;refine(fg g s q l 58 _ U.out.rd Bx S SZ).mono ?_;rintro e w2 ⟨rfl,ja,cS⟩;have uJ:=za (U.out.dE cS ja);have ad:=za (ox g w.heap.size s (q+1) l 1024 4 _ uJ.out.rd uJ.out.box (by omega) S (by omega));clear n0 n1 n2 n3 m0 m1 m2 m3 b2;go_wp2_with fail
   refine ad.out.mono ?_;rintro e w3 ⟨b,ao,u,rfl,tV,lO,ag⟩;have Bw:=za (uJ.out.dE lO tV);have H:=za ag;have HT:=za (((af.new I 43 #[.int .i64 k,.int .i64 z,.slice A n cap,.int .i64 M]).only cS (by simp;omega)).only lO (by simp;omega));have au:I.heap.size<w3.heap.size:=HT.out.lt;obtain⟨t0,t1,t2,t3,_,_,_,_⟩:=aU HT.out;have an:=za (HT.out.alloc (.cells #[.int .i64 4,.int .i64 b,.slice none 0 0,.int .i64 0] 43));obtain⟨u0,u1,u2,u3,_,_,_,_⟩:=aU an.out;have ak:Hid (fD w3 (w.heap.size+2<= ·) x (.int .i64 k) (.int .i64 z) (.slice A n cap) (.int .i64 M)):=za ((al.out (by first|rfl|trivial)).only ((((ae.refl [g] I).alloc _).trans cS).trans lO) (by simp[World.setCell]<;>(have:=N.out.siz;omega)) (fun k _ hk=>by simp[World.setCell]at hk;have:=N.out.siz;omega));obtain⟨i,Y⟩:∃i,((w3.alloc (.cells #[.int .i64 4,.int .i64 b,.slice (some ⟨w3.heap.size+1,0,none⟩) 1 1,.int .i64 0] 43)).alloc (.cells #[.int .i64 k,.int .i64 z,.slice A n cap,.int .i64 M] 43))=i:=⟨_,rfl⟩
   have RE:Hid (af i w3.heap.size 43 #[.int .i64 4,.int .i64 b,.slice (some ⟨w3.heap.size+1,0,none⟩) 1 1,.int .i64 0]):=za (by rw[<-Y];exact(af.new w3 _ _).alloc _);have J0:Hid (af i (w3.heap.size+1) 43 #[.int .i64 k,.int .i64 z,.slice A n cap,.int .i64 M]):=za (by rw[<-Y];exact af.at_ (by simp));have o:Hid (tj w g s u l i):=za (by rw[<-Y];exact Bw.out.below bQ);have YU:Hid (b<=1024->fD i (w.heap.size+2<= ·) (.mk 4 b [x] 0) (.int .i64 4) (.int .i64 b) (.slice (some ⟨w3.heap.size+1,0,none⟩) 1 1) (.int .i64 0)):=za (by
    intro SX;obtain⟨x0,x1,x2,x3,_⟩:=aU J0.out;refine⟨rfl,rfl,rfl,aA (by omega) (by omega),aA (by omega) (by omega),aA (by omega) (by omega),by simp,_,_,rfl,by simp,by simp,⟨_,_,_,_,_,_,rfl, ?_,x0,x1,x2,x3, ?_⟩,trivial⟩
    ·show w.heap.size+2<=w3.heap.size+1
     omega
    exact ak.out.below (by rw[<-Y];exact bQ))
   have O:Hid (∀V,af V w3.heap.size 43 #[.int .i64 4,.int .i64 b,.slice (some ⟨w3.heap.size+1,0,none⟩) 1 1,.int .i64 0]->af V w.heap.size 203 #[.pointer (some ⟨g,0,none⟩)]->V.cell? ⟨w3.heap.size,0,none⟩=some (.int .i64 4)/\V.cell? ⟨w3.heap.size,1,none⟩=some (.int .i64 b)/\V.cell? ⟨w3.heap.size,2,none⟩=some (.slice (some ⟨w3.heap.size+1,0,none⟩) 1 1)/\V.cell? ⟨w3.heap.size,3,none⟩=some (.int .i64 0)/\V.cell? ⟨w.heap.size,0,none⟩=some (.pointer (some ⟨g,0,none⟩))):=za (fun V G F=>by
    obtain⟨a0,a1,a2,a3,_⟩:=aU G;exact⟨a0,a1,a2,a3,F.cell 0⟩)
   have aj:=za Y;clear ag tV lO ja cS ad Y;go_wp2_with fail
   rw[aj.out];clear t0 t1 t2 t3 u0 u1 u2 u3;have hHeld:=O.out i.drew RE.out.drew o.out.box.drew;cases ao with
   |false=>
    refine aC 7 (fun V=>V.cell? ⟨w3.heap.size,0,none⟩=some (.int .i64 4)/\V.cell? ⟨w3.heap.size,1,none⟩=some (.int .i64 b)/\V.cell? ⟨w3.heap.size,2,none⟩=some (.slice (some ⟨w3.heap.size+1,0,none⟩) 1 1)/\V.cell? ⟨w3.heap.size,3,none⟩=some (.int .i64 0)/\V.cell? ⟨w.heap.size,0,none⟩=some (.pointer (some ⟨g,0,none⟩))) (by kernel_rfl) (by kernel_rfl) ?_;refine GT.jV [0,1,2,3,4,5] hHeld (fun _ _ _ _ _ h=>h) (by kernel_rfl) ?_;iterate 3 (refine .c rfl rfl (fun V hV=>by go_simp<;>with_reducible rfl) ?_;simp only[Act.put,zb,ze,zf])
    refine .u rfl rfl ?_;try simp only[Act.put,zb,ze,zf];refine .u rfl rfl ?_;try simp only[Act.put,zb,ze,zf];refine .c rfl rfl (fun V hV=>by go_simp<;>with_reducible rfl) ?_;simp only[Act.put,zb,ze,zf];refine .nil ?_;obtain⟨n0,n1,n2,n3,m0,m1,m2,m3⟩:=aU o.out.res;refine GT.fJ 6 (fun K j=> ?_) rfl (by kernel_rfl);go_simp;have J:ae [w.heap.size+1] i ((((i.setCell ⟨w.heap.size+1,0,none⟩ (.int .i64 4)).setCell ⟨w.heap.size+1,1,none⟩ (.int .i64 b)).setCell ⟨w.heap.size+1,2,none⟩ (.slice (some ⟨w3.heap.size+1,0,none⟩) 1 1)).setCell ⟨w.heap.size+1,3,none⟩ (.int .i64 0)):=((((ae.refl _ _).setCell (by simp) _).setCell (by simp) _).setCell (by simp) _).setCell (by simp) _;refine j.out _ _ (O.out _ (RE.out.only J (by simp;omega)).drew (o.out.box.only J (by simp)).drew) (fun hHeld=> ?_);clear j K;try simp only[Act.put,zb,ze,zf]
    refine GT.pA 7 ?_ rfl (by kernel_rfl);go_simp;obtain⟨R,X,y,r,B,C⟩:=o.out.ends (.int .i64 4) (.int .i64 b) (.slice (some ⟨w3.heap.size+1,0,none⟩) 1 1) (.int .i64 0);go_wp2;refine zk (v:= .tuple #[.agg #[.int .i64 4,.int .i64 b,.slice (some ⟨w3.heap.size+1,0,none⟩) 1 1,.int .i64 0],.bool false]) (by simp[results,yt,go_sem,y,r,B,C]) rfl ?_;exact⟨.mk 0 0 [] 0,false,u,l,_,_,_,_,_,_,rfl,af.drew (show af _ g _ _ from R),X.drew,by omega,pB D0.out Bv.out (Ql x Bx SZ H.out L) H.out.2.2.1,(by intro h;cases h)⟩
   |true=>
    by_cases qY:∃RF:u<s.size,s[u].toNat=93
    ·obtain⟨RF,Wa⟩:=qY;have ab:=za (fg g s u l 93 _ (af.drew (show af i g _ _ from o.out.rd)) RF S Wa);refine aC 7 (fun V=>V.cell? ⟨w3.heap.size,0,none⟩=some (.int .i64 4)/\V.cell? ⟨w3.heap.size,1,none⟩=some (.int .i64 b)/\V.cell? ⟨w3.heap.size,2,none⟩=some (.slice (some ⟨w3.heap.size+1,0,none⟩) 1 1)/\V.cell? ⟨w3.heap.size,3,none⟩=some (.int .i64 0)/\V.cell? ⟨w.heap.size,0,none⟩=some (.pointer (some ⟨g,0,none⟩))) (by kernel_rfl) (by kernel_rfl) ?_;refine GT.jV [0,1,2,3] hHeld (fun _ _ _ _ _ h=>h) (by kernel_rfl) ?_;repeat(refine .c rfl rfl (fun V hV=>by go_simp<;>with_reducible rfl) ?_;simp only[Act.put,zb,ze,zf])
     refine .nil ?_;refine GT.fJ 4 (fun K j=> ?_) rfl (by kernel_rfl);go_simp;refine ab.out.mono ?_;rintro e m ⟨rfl,RD,S3⟩;have D:ae [g] i m:=(ae.refl [g] i).drew.trans S3;clear S3;have E:=za (o.out.dE D RD);have ai:=za D;have Z:=za (RE.out.only D (by simp;omega));clear hHeld RD D;go_wp2_with fail
     refine j.out _ _ (O.out m Z.out E.out.box) (fun hHeld=> ?_);clear j K;try simp only[Act.put,zb,ze,zf]
     refine GT.jV [5] hHeld (fun _ _ _ _ _ h=>h) (by kernel_rfl) ?_;refine .c rfl rfl (fun V hV=>by go_simp<;>with_reducible rfl) ?_;simp only[Act.put,zb,ze,zf];refine .nil ?_;obtain⟨n0,n1,n2,n3,m0,m1,m2,m3⟩:=aU E.out.res;refine GT.fJ 6 (fun K j=> ?_) rfl (by kernel_rfl);go_simp;have J:ae [w.heap.size+1] m ((((m.setCell ⟨w.heap.size+1,0,none⟩ (.int .i64 4)).setCell ⟨w.heap.size+1,1,none⟩ (.int .i64 b)).setCell ⟨w.heap.size+1,2,none⟩ (.slice (some ⟨w3.heap.size+1,0,none⟩) 1 1)).setCell ⟨w.heap.size+1,3,none⟩ (.int .i64 0)):=((((ae.refl _ _).setCell (by simp) _).setCell (by simp) _).setCell (by simp) _).setCell (by simp) _;refine j.out _ _ (O.out _ (Z.out.only J (by simp;omega)) (E.out.box.only J (by simp))) (fun hHeld=> ?_);clear j K;try simp only[Act.put,zb,ze,zf]
     refine GT.pA 7 ?_ rfl (by kernel_rfl);go_simp;obtain⟨R,X,y,r,B,C⟩:=E.out.ends (.int .i64 4) (.int .i64 b) (.slice (some ⟨w3.heap.size+1,0,none⟩) 1 1) (.int .i64 0);go_wp2;refine zk (v:= .tuple #[.agg #[.int .i64 4,.int .i64 b,.slice (some ⟨w3.heap.size+1,0,none⟩) 1 1,.int .i64 0],.bool true]) (by simp[results,yt,go_sem,y,r,B,C]) rfl ?_;exact⟨.mk 4 b [x] 0,true,u+1,l,_,_,_,_,_,_,rfl,R,X,by omega,I6 hL D0.out Bv.out (Qm x Bx SZ H.out RF Wa) (by have:=(H.out.1 rfl).2.2;omega) (by omega),fun _=>((YU.out H.out.2.2.2).only ai.out (by simp;omega) (fun _ _ h=>h)).only (L:= [w.heap.size+1]) (((((ae.refl _ m).setCell (by simp) _).setCell (by simp) _).setCell (by simp) _).setCell (by simp) _) (by simp) (fun _ _ h=>by omega)⟩
    have ab:=za (gD g s u l 93 _ (af.drew (show af i g _ _ from o.out.rd)) H.out.2.2.1 S (fun G F=>qY ⟨G,F⟩));refine aC 7 (fun V=>V.cell? ⟨w3.heap.size,0,none⟩=some (.int .i64 4)/\V.cell? ⟨w3.heap.size,1,none⟩=some (.int .i64 b)/\V.cell? ⟨w3.heap.size,2,none⟩=some (.slice (some ⟨w3.heap.size+1,0,none⟩) 1 1)/\V.cell? ⟨w3.heap.size,3,none⟩=some (.int .i64 0)/\V.cell? ⟨w.heap.size,0,none⟩=some (.pointer (some ⟨g,0,none⟩))) (by kernel_rfl) (by kernel_rfl) ?_;refine GT.jV [0,1,2,3] hHeld (fun _ _ _ _ _ h=>h) (by kernel_rfl) ?_;repeat(refine .c rfl rfl (fun V hV=>by go_simp<;>with_reducible rfl) ?_;simp only[Act.put,zb,ze,zf])
    refine .nil ?_;refine GT.fJ 4 (fun K j=> ?_) rfl (by kernel_rfl);go_simp;refine ab.out.mono ?_;rintro e m ⟨rfl,n6,aa⟩;have RD:jF m g s u l:=by rw[aa];exact o.out.rd
    have D:ae [g] i m:=by rw[aa];exact(ae.refl [g] i).drew.drewN _
    clear aa;have E:=za (o.out.dE D RD);have ai:=za D;have Z:=za (RE.out.only D (by simp;omega));clear hHeld RD D;go_wp2_with fail
    refine j.out _ _ (O.out m Z.out E.out.box) (fun hHeld=> ?_);clear j K;try simp only[Act.put,zb,ze,zf]
    refine GT.jV [5] hHeld (fun _ _ _ _ _ h=>h) (by kernel_rfl) ?_;refine .c rfl rfl (fun V hV=>by go_simp<;>with_reducible rfl) ?_;simp only[Act.put,zb,ze,zf];refine .nil ?_;obtain⟨n0,n1,n2,n3,m0,m1,m2,m3⟩:=aU E.out.res;refine GT.fJ 6 (fun K j=> ?_) rfl (by kernel_rfl);go_simp;have J:ae [w.heap.size+1] m ((((m.setCell ⟨w.heap.size+1,0,none⟩ (.int .i64 4)).setCell ⟨w.heap.size+1,1,none⟩ (.int .i64 b)).setCell ⟨w.heap.size+1,2,none⟩ (.slice (some ⟨w3.heap.size+1,0,none⟩) 1 1)).setCell ⟨w.heap.size+1,3,none⟩ (.int .i64 0)):=((((ae.refl _ _).setCell (by simp) _).setCell (by simp) _).setCell (by simp) _).setCell (by simp) _;refine j.out _ _ (O.out _ (Z.out.only J (by simp;omega)) (E.out.box.only J (by simp))) (fun hHeld=> ?_);clear j K;try simp only[Act.put,zb,ze,zf]
    refine GT.pA 7 ?_ rfl (by kernel_rfl);go_simp;obtain⟨R,X,y,r,B,C⟩:=E.out.ends (.int .i64 4) (.int .i64 b) (.slice (some ⟨w3.heap.size+1,0,none⟩) 1 1) (.int .i64 0);go_wp2;refine zk (v:= .tuple #[.agg #[.int .i64 4,.int .i64 b,.slice (some ⟨w3.heap.size+1,0,none⟩) 1 1,.int .i64 0],.bool false]) (by simp[results,yt,go_sem,y,r,B,C]) rfl ?_;exact⟨.mk 0 0 [] 0,false,u,l,_,_,_,_,_,_,rfl,R,X,by omega,pB D0.out Bv.out (Nd x Bx SZ H.out (fun G F=>qY ⟨G,F⟩) L) H.out.2.2.1,(by intro h;cases h)⟩
  refine(gD g s q l 58 _ U.out.rd hq S (fun G F=>V9 ⟨G,F⟩)).mono ?_;rintro e w2 ⟨rfl,n5,rfl⟩;go_wp2;obtain⟨E1,E2,y,r,B,C⟩:=(U.out.below (V':=(I.alloc (.cells #[.int .i64 k,.int .i64 z,.slice A n cap,.int .i64 M] 43)).drewN n5) bQ).ends (.int .i64 0) (.int .i64 0) (.slice none 0 0) (.int .i64 0);refine zk (v:= .tuple #[.agg #[.int .i64 0,.int .i64 0,.slice none 0 0,.int .i64 0],.bool false]) (by simp[results,yt,go_sem,y,r,B,C]) rfl ?_;exact⟨.mk 0 0 [] 0,false,q,l,_,_,_,_,_,_,rfl,E1,E2,by omega,pB D0.out Bv.out (Qk x (fun G F=>V9 ⟨G,F⟩) L) hq,(by intro h;cases h)⟩
def acq (w:World)(g:Nat)(s:ByteArray)(L:Nat)(R:Option (Ty×List UInt8))(e:Ending)(w':World):Prop:=
 ∃(t:Ty) (ok:Bool) (q L':Nat) (k z ta:Int) (A:Option Addr) (n cap:Nat),e= .returned (.tuple #[.agg #[.int .i64 k,.int .i64 z,.slice A n cap,.int .i64 ta],.bool ok])/\jF w' g s q L'/\ae [g] w w'/\L'<=L/\Pa (1+L) s R t ok q L'/\(ok=true->fD w' (w.heap.size<= ·) t (.int .i64 k) (.int .i64 z) (.slice A n cap) (.int .i64 ta))
structure pC (w:World)(g:Nat)(s:ByteArray)(p L:Nat)(acc:List Ty)(tl:Nat)(v:Value)(V:World):Prop where
 res:af V w.heap.size 43 #[.int .i64 0,.int .i64 0,.slice none 0 0,.int .i64 0]
 bx:af V (w.heap.size+1) 43 #[.int .i64 5,.int .i64 0,v,.int .i64 tl]
 acc:eP V (w.heap.size+2) acc v
 rd:jF V g s p L
 only:ae [g] w V
 siz:w.heap.size+2<=V.heap.size
 glt:g<w.heap.size
theorem pC.start {w:World}{g:Nat}{s:ByteArray}{p L:Nat}(h:jF w g s p L):pC w g s p L [] 0 (.slice none 0 0) ((w.alloc (.cells #[.int .i64 0,.int .i64 0,.slice none 0 0,.int .i64 0] 43)).alloc (.cells #[.int .i64 5,.int .i64 0,.slice none 0 0,.int .i64 0] 43)) where
 res:=(af.new w _ _).alloc _
 bx:=af.at_ (by simp)
 acc:=eP.nil _ _
 rd:=(af.alloc (show af w g _ _ from h) _).alloc _
 only:=((ae.refl _ w).alloc _).alloc _
 siz:=by simp
 glt:=af.lt (show af w g _ _ from h)
theorem pC.dE {w V V':World}{g:Nat}{s:ByteArray}{p p' L L' c:Nat}{acc:List Ty}{v:Value}(h:pC w g s p L acc c v V)(b:ae [g] V V')(d:jF V' g s p' L'):pC w g s p' L' acc c v V' where
 res:=h.res.only b (by have:=h.glt;simp;omega)
 bx:=h.bx.only b (by have:=h.glt;simp;omega)
 acc:=h.acc.only b (by have:=h.glt;simp;omega)
 rd:=d
 only:=h.only.trans b
 siz:=zF h.siz b.size
 glt:=h.glt
theorem pC.below {w V V':World}{g:Nat}{s:ByteArray}{p L c:Nat}{acc:List Ty}{v:Value}(h:pC w g s p L acc c v V)(b:Below V.heap.size V V'):pC w g s p L acc c v V':=h.dE ((ae.ah b (zd _)).mono (by simp)) ((b.block _ (af.lt (show af V g _ _ from h.rd))).trans h.rd)
theorem pC.mark {w V:World}{g:Nat}{s:ByteArray}{p L b:Nat}{acc:List Ty}{v:Value}(h:pC w g s p L acc b v V){n:Int}(c:n=(b+1:Nat)):pC w g s p L acc (b+1) v (V.setCell ⟨w.heap.size+1,3,none⟩ (.int .i64 n)) where
 res:=h.res.dK (by simp) _
 bx:=by subst c;exact h.bx.store rfl
 acc:=h.acc.only ((ae.refl [w.heap.size+1] V).setCell (by simp) _) (by simp)
 rd:=af.dK (show af V g _ _ from h.rd) (by have:=h.glt;simp;omega) _
 only:=h.only.setCell (by simp) _
 siz:=by simp[World.setCell];exact h.siz
 glt:=h.glt
theorem pC.more {w V V':World}{g:Nat}{s:ByteArray}{p L l:Nat}{acc i:List Ty}{v c:Value}(h:pC w g s p L acc l v V)(b:V.grownBy V' v.ownBlock)(m:eP V' (w.heap.size+2) i c):pC w g s p L i l c (V'.setCell ⟨w.heap.size+1,2,none⟩ c):=
 have d:∀k,k<w.heap.size+2->v.ownBlock≠some k:=fun k j e=>by have:=(h.acc.ge k e).1;omega
 ⟨(h.res.grown b (d _ (by omega))).dK (by simp) _,
  (h.bx.grown b (d _ (by omega))).store rfl,
  m.only ((ae.refl [w.heap.size+1] V').setCell (by simp) _) (by simp),
  (af.grown (show af V g _ _ from h.rd) b (d _ (by have:=h.glt;omega))).dK (by have:=h.glt;simp;omega) _,
  (h.only.grown b (fun k j=> .inr (by have:=(h.acc.ge k j).1;omega))).setCell (by simp) _,
  (by simp[World.setCell];exact zF h.siz b.size),
  h.glt⟩
theorem pC.ends {w V:World}{g:Nat}{s:ByteArray}{p L i:Nat}{acc:List Ty}{v:Value}(h:pC w g s p L acc i v V)(b c d e:Value):
 jF ((((V.setCell ⟨w.heap.size,0,none⟩ b).setCell ⟨w.heap.size,1,none⟩ c).setCell ⟨w.heap.size,2,none⟩ d).setCell ⟨w.heap.size,3,none⟩ e) g s p L/\ae [g] w ((((V.setCell ⟨w.heap.size,0,none⟩ b).setCell ⟨w.heap.size,1,none⟩ c).setCell ⟨w.heap.size,2,none⟩ d).setCell ⟨w.heap.size,3,none⟩ e)/\
 (V.setCell ⟨w.heap.size,0,none⟩ b).cell? ⟨w.heap.size,0,none⟩=some b/\((V.setCell ⟨w.heap.size,0,none⟩ b).setCell ⟨w.heap.size,1,none⟩ c).cell? ⟨w.heap.size,1,none⟩=some c/\(((V.setCell ⟨w.heap.size,0,none⟩ b).setCell ⟨w.heap.size,1,none⟩ c).setCell ⟨w.heap.size,2,none⟩ d).cell? ⟨w.heap.size,2,none⟩=some d/\((((V.setCell ⟨w.heap.size,0,none⟩ b).setCell ⟨w.heap.size,1,none⟩ c).setCell ⟨w.heap.size,2,none⟩ d).setCell ⟨w.heap.size,3,none⟩ e).cell? ⟨w.heap.size,3,none⟩=some e:=
 have n1:g≠w.heap.size:=by have:=h.glt;omega
 ⟨(((af.dK (show af V g _ _ from h.rd) (p:=⟨w.heap.size,0,none⟩) n1 _).dK (p:=⟨w.heap.size,1,none⟩) n1 _).dK (p:=⟨w.heap.size,2,none⟩) n1 _).dK (p:=⟨w.heap.size,3,none⟩) n1 _,(((h.only.setCell (by simp) _).setCell (by simp) _).setCell (by simp) _).setCell (by simp) _,by have:=(h.res.set 0 b).cell 0;simpa using this,by have:=((h.res.set 0 b).set 1 c).cell 1;simpa using this,by have:=(((h.res.set 0 b).set 1 c).set 2 d).cell 2;simpa using this,by have:=((((h.res.set 0 b).set 1 c).set 2 d).set 3 e).cell 3;simpa using this⟩
theorem pC.ty {w V:World}{g:Nat}{s:ByteArray}{p L b:Nat}{acc:List Ty}{v:Value}(h:pC w g s p L acc b v V)(n:acc.length<=200000)(m:b<=200000)(e d i j:Value):fD ((((V.setCell ⟨w.heap.size,0,none⟩ e).setCell ⟨w.heap.size,1,none⟩ d).setCell ⟨w.heap.size,2,none⟩ i).setCell ⟨w.heap.size,3,none⟩ j) (w.heap.size<= ·) (.mk 5 0 acc b) (.int .i64 5) (.int .i64 0) v (.int .i64 b):=by
 have l:eP _ (w.heap.size+2) acc v:=h.acc.only (L:= [w.heap.size]) (w':=(((V.setCell ⟨w.heap.size,0,none⟩ e).setCell ⟨w.heap.size,1,none⟩ d).setCell ⟨w.heap.size,2,none⟩ i).setCell ⟨w.heap.size,3,none⟩ j) (((((ae.refl _ _).setCell (by simp) _).setCell (by simp) _).setCell (by simp) _).setCell (by simp) _) (by simp);refine fD.fe (l.ty (by omega) (aA (by omega) (by omega)) (aA (by omega) (by omega)) (aA (by omega) (by omega))) fun k _ c=> ?_
 have c:w.heap.size+2<=k:=c;show w.heap.size<=k
 omega
theorem I9 (f d:Nat)(hd:d<=8)(IH:Hid (∀(g:Nat) (s:ByteArray) (p L:Nat) (w:World),jF w g s p L->p<=s.size->s.size<=100000->L<=64->
 Calls prog 157 #[.pointer (some ⟨g,0,none⟩),.int .i64 ((d:Int)+1)] w fun e w'=>kE w g s f L p e w')) (g:Nat) (s:ByteArray) (p L:Nat) (ae:Option (Ty×List UInt8)) (w:World) (h:jF w g s p L) (hT:Hid (eR f s ae p [] 0)) (hp:p<=s.size) (Z:s.size<=100000) (N6:L<=64):
 Calls prog 188 #[.pointer (some ⟨g,0,none⟩),.int .i64 d] w fun e w'=>acq w g s L ae e w':=by
 have ed:IntKind.i64.wrap ((d:Int)+1)=(d:Int)+1:=zZ _ (by omega);have cG:=za (pC.start h);clear h;go_enter func188,ntmps188
 go_wp2_with fail
 by_cases V9:∃hq:p<s.size,s[p].toNat=125
 ·obtain⟨Bx,F⟩:=V9;refine(fg g s p L 125 _ cG.out.rd Bx Z F).mono ?_;rintro e w1 ⟨rfl,ao,an⟩;have jc:=za (cG.out.dE an ao);clear ao an;obtain⟨N,J,Y,G,U,W,I,K⟩:=aU jc.out.res;obtain⟨z,u,m,B,D,r,E,C⟩:=aU jc.out.bx;go_wp2;obtain⟨S,X,M,H,O,R⟩:=jc.out.ends (.int .i64 5) (.int .i64 0) (.slice none 0 0) (.int .i64 0);refine zk (v:= .tuple #[.agg #[.int .i64 5,.int .i64 0,(.slice none 0 0),.int .i64 0],.bool true]) (by simp[results,xz,go_sem,M,H,O,R]) rfl ?_;exact⟨.mk 5 0 [] 0,true,p+1,L,_,_,_,_,_,_,rfl,S,X,zd _,I8 (hT.out.ends Bx F) (by simp[bc]) (by omega),fun _=>jc.out.ty (by simp) (by omega) _ _ _ _⟩
 have D3:=za (I7 hT.out (fun j i=>V9 ⟨j,i⟩));refine(gD g s p L 125 _ cG.out.rd hp Z (fun j i=>V9 ⟨j,i⟩)).mono ?_;rintro e w1 ⟨rfl,n1,pM⟩;have jc:Hid (pC w g s p L [] 0 (.slice none 0 0) w1):=za (by rw[pM];exact cG.out.below bQ);clear pM V9;go_wp2_with fail
 go_loopw [7] (fun _ wr=>∃(q Lc:Nat) (acc:List Ty) (l:Nat) (vv:Value),q<=s.size/\Hid (rJ f s ae q acc l)/\Hid (Lc+bc acc=L)/\Lc<=L/\acc.length<=q/\l<=q/\Hid (pC w g s q Lc acc l vv wr)) (fun _ wr=>s.size-P7 (wr.cell? ⟨g,1,none⟩))
 case atStart=>exact⟨p,L,[],0,_,hp,D3,za (by simp[bc]),zd _,by simp,by omega,jc⟩
 case round=>
  clear cG jc D3;obtain⟨q,Lc,acc,l,vv,hq,D3,AM,aD,AL,uC,HW⟩:=hrel;obtain⟨c0,c1,c2,av,ay,az,qY⟩:=HW.out.rd.cells;obtain⟨A2,n2,cn,rfl,DV,aE,aI⟩:=HW.out.acc.bT;obtain⟨N,J,Y,G,U,W,I,K⟩:=aU HW.out.res;obtain⟨z,u,m,B,D,r,E,C⟩:=aU HW.out.bx;clear c0 c2 av ay az;by_cases D4:∃hq:q<s.size,s[q].toNat=63
  ·obtain⟨Bx,D4⟩:=D4;have aG:IntKind.i64.wrap ((l:Int)+1)=(l:Int)+1:=zZ _ (by omega);clear N J Y G U W I K z u m B D r E C;go_wp2_with fail
   refine(fg g s q Lc 63 _ HW.out.rd Bx Z D4).mono ?_;rintro e w2 ⟨rfl,ja,cS⟩;have pQ:=za (HW.out.dE cS ja);clear ja cS;obtain⟨N,J,Y,G,U,W,I,K⟩:=aU pQ.out.res;obtain⟨z,u,m,B,D,r,E,C⟩:=aU pQ.out.bx;obtain⟨W3,mN⟩:∃W3,w2.setCell ⟨w.heap.size+1,3,none⟩ (.int .i64 ((l:Int)+1))=W3:=⟨_,rfl⟩
   obtain⟨T,aj⟩:∃T,l+1=T:=⟨_,rfl⟩
   have uJ:Hid (pC w g s (q+1) Lc acc T (.slice A2 n2 cn) W3):=za (by rw[<-mN,<-aj];exact pQ.out.mark (by omega));have rk:Hid (O3 f s ae (q+1) acc T):=za (by rw[<-aj];exact D3.out.mark Bx D4);have ar:=za mN;have hQ:q+1<=s.size:=by omega
   have aH:T<=q+1:=by omega
   clear mN aj;go_wp2_with fail
   rw[ar.out];refine(IH.out g s ((q+1)) Lc W3 uJ.out.rd hQ Z (by omega)).mono ?_;rintro e w4 ⟨y,ok,b,c,k,ai,ta,A,n,cap,rfl,hr,ho,au,hn,oG⟩;have Bw:=za (uJ.out.dE ho hr);have Bv:=za hn;have ak:=za oG;have RF:=hn.2.2;have aA:=uJ.out.siz;have aB:=Bw.out.siz;have RH:w.heap.size<w4.heap.size:=by omega
   have ax:w.heap.size+1<w4.heap.size:=by omega
   clear hr ho hn oG N J Y G U W I K z u m B D r E C;obtain⟨N,J,Y,G,U,W,I,K⟩:=aU Bw.out.res;obtain⟨z,u,m,B,D,r,E,C⟩:=aU Bw.out.bx;cases ok with
   |false=>
    go_wp2;obtain⟨S,X,M,H,O,R⟩:=Bw.out.ends (.int .i64 0) (.int .i64 0) (.slice none 0 0) (.int .i64 0);refine zk (v:= .tuple #[.agg #[.int .i64 0,.int .i64 0,.slice none 0 0,.int .i64 0],.bool false]) (by simp[results,xz,go_sem,M,H,O,R,zz,RH]) rfl ?_;exact⟨.mk 0 0 [] 0,false,b,c,_,_,_,_,_,_,rfl,af.alloc (show af _ g _ _ from S) _,X.alloc _,by omega,Qn _ rk.out Bv.out AM.out,(by intro h;cases h)⟩
   |true=>
    have YV:=za (KU rk.out hQ Bv.out);obtain⟨_,Ov,aw⟩:=Bv.out.1 rfl;have LQ:Hid (c+bc (acc++ [y])=L):=za (by rw[tk];have:=AM.out;omega);have rB:Hid (∀o o',pC w g s b c acc (T) (.slice A2 n2 cn) ((w4.alloc o).alloc o')):=za (fun o o'=>Bw.out.below bQ);have HY:Hid (∀o o',fD ((w4.alloc o).alloc o') (fun k=>w.heap.size+2<=k/\(Value.slice A2 n2 cn).ownBlock≠some k) y (.int .i64 k) (.int .i64 ai) (.slice A n cap) (.int .i64 ta)):=za (fun o o'=>((ak.out (by first|rfl|trivial)).fe (fun k _ hk=>⟨by have hk:W3.heap.size<=k:=hk;omega,fun e=>by have:=(uJ.out.acc.ge k e).2;have hk:W3.heap.size<=k:=hk;omega⟩)).below bQ);have al:acc.length<=1000000:=by omega
    clear Ov;go_wp2_with (at_builtin;refine cA (by rfl) (.tmp 34) (.tmp 36) (by rfl) (w.heap.size+2) acc (by rfl) (rB.out _ _).acc y (HY.out _ _) _ (by rfl) (by simp) (by simp) (by simp) (by simp) al (by simp only[zp];omega) ?_)
    intro g' n' aq w6 Oy GV eV aC;have RG:=af.grown (rB.out _ _).bx eV (fun e=>by have:=((rB.out (.cells #[] 0) (.cells #[] 0)).acc.ge _ e).1;omega);clear N J Y G U W I K z u m B D r E C;obtain⟨z,u,m,B,D,r,E,C⟩:=aU RG;obtain⟨W7,rD⟩:∃W7,w6.setCell ⟨w.heap.size+1,2,none⟩ (.slice (some ⟨g',0,none⟩) n' aq)=W7:=⟨_,rfl⟩
    have GW:Hid (pC w g s b c (acc++ [y]) (T) (.slice (some ⟨g',0,none⟩) n' aq) W7):=za (by rw[<-rD];exact(rB.out _ _).more eV GV);have ah:=za rD;clear rD RG eV GV;go_wp2_with fail
    rw[ah.out];clear z u m B D r E C;by_cases F:∃hq:b<s.size,s[b].toNat=125
    ·obtain⟨Al,F⟩:=F;refine(fg g s b c 125 _ GW.out.rd Al Z F).mono ?_;rintro e w8 ⟨rfl,ab,J1⟩;have x:=za (GW.out.dE J1 ab);clear ab J1;obtain⟨N,J,Y,G,U,W,I,K⟩:=aU x.out.res;obtain⟨z,u,m,B,D,r,E,C⟩:=aU x.out.bx;go_wp2;obtain⟨S,X,M,H,O,R⟩:=x.out.ends (.int .i64 5) (.int .i64 0) (.slice (some ⟨g',0,none⟩) n' aq) (.int .i64 ((T:Nat):Int));refine zk (v:= .tuple #[.agg #[.int .i64 5,.int .i64 0,(.slice (some ⟨g',0,none⟩) n' aq),.int .i64 ((T:Nat):Int)],.bool true]) (by simp[results,xz,go_sem,M,H,O,R]) rfl ?_;exact⟨.mk 5 0 (acc++ [y]) ((T:Nat):Int),true,b+1,c,_,_,_,_,_,_,rfl,S,X,by omega,I8 (YV.out.ends Al F) LQ.out (by omega),fun _=>x.out.ty (by simp;omega) (by omega) _ _ _ _⟩
    refine(gD g s b c 125 _ GW.out.rd RF Z (fun j i=>F ⟨j,i⟩)).mono ?_;rintro e w8 ⟨rfl,n8,ad⟩;have x:Hid (pC w g s b c (acc++ [y]) (T) (.slice (some ⟨g',0,none⟩) n' aq) w8):=za (by rw[ad];exact GW.out.below bQ);clear ad;go_wp2_with fail
    by_cases tS:∃hq:b<s.size,s[b].toNat=44
    ·obtain⟨Al,tS⟩:=tS;refine(fg g s b c 44 _ x.out.rd Al Z tS).mono ?_;rintro e w9 ⟨rfl,ag,rC⟩;have N7:=za (x.out.dE rC ag);have c9:=N7.out.rd.cells.2.1;clear ag rC;go_wp2;go_roundw
     case rel=>exact⟨b+1,c,acc++ [y],T,_,by omega,za (YV.out.more Al tS (by simp)),LQ,by omega,by simp;omega,by omega,N7⟩
     case measure=>
      rw[c1,c9];simp only[P7];omega
    refine(gD g s b c 44 _ x.out.rd RF Z (fun j i=>tS ⟨j,i⟩)).mono ?_;rintro e w9 ⟨rfl,n9,aa⟩;have N7:Hid (pC w g s b c (acc++ [y]) (T) (.slice (some ⟨g',0,none⟩) n' aq) w9):=za (by rw[aa];exact x.out.below bQ);clear aa;obtain⟨N,J,Y,G,U,W,I,K⟩:=aU N7.out.res;obtain⟨z,u,m,B,D,r,E,C⟩:=aU N7.out.bx;go_wp2;obtain⟨S,X,M,H,O,R⟩:=N7.out.ends (.int .i64 0) (.int .i64 0) (.slice none 0 0) (.int .i64 0);refine zk (v:= .tuple #[.agg #[.int .i64 0,.int .i64 0,.slice none 0 0,.int .i64 0],.bool false]) (by simp[results,xz,go_sem,M,H,O,R]) rfl ?_;exact⟨.mk 0 0 [] 0,false,b,c,_,_,_,_,_,_,rfl,S,X,by omega,Dx _ (Cs YV.out (by simp) (fun j i=>F ⟨j,i⟩) (fun j i=>tS ⟨j,i⟩)) RF,(by intro h;cases h)⟩
  go_wp2_with fail
  refine(gD g s q Lc 63 _ HW.out.rd hq Z (fun j i=>D4 ⟨j,i⟩)).mono ?_;rintro e w2 ⟨rfl,aF,ry⟩;have uJ:Hid (pC w g s q Lc acc l (.slice A2 n2 cn) w2):=za (by rw[ry];exact HW.out.below bQ);clear ry N J Y G U W I K z u m B D r E C;obtain⟨N,J,Y,G,U,W,I,K⟩:=aU uJ.out.res;obtain⟨z,u,m,B,D,r,E,C⟩:=aU uJ.out.bx;by_cases N8:0<l
  ·skip
   go_wp2;obtain⟨S,X,M,H,O,R⟩:=uJ.out.ends (.int .i64 0) (.int .i64 0) (.slice none 0 0) (.int .i64 0);refine zk (v:= .tuple #[.agg #[.int .i64 0,.int .i64 0,.slice none 0 0,.int .i64 0],.bool false]) (by simp[results,xz,go_sem,M,H,O,R]) rfl ?_;exact⟨.mk 0 0 [] 0,false,q,Lc,_,_,_,_,_,_,rfl,S,X,by omega,Dx _ (D3.out.none_ (fun j i=>D4 ⟨j,i⟩) N8) hq,(by intro h;cases h)⟩
  have rk:Hid (O3 f s ae q acc l):=za (by
   obtain rfl:l=0:=by omega
   exact D3.out.plain (fun j i=>D4 ⟨j,i⟩))
  obtain⟨W3,rfl⟩:∃W3,W3=w2:=⟨w2,rfl⟩
  have hQ:=hq;go_wp2_with fail
  refine(IH.out g s (q) Lc W3 uJ.out.rd hQ Z (by omega)).mono ?_;rintro e w4 ⟨y,ok,b,c,k,ai,ta,A,n,cap,rfl,hr,ho,au,hn,oG⟩;have Bw:=za (uJ.out.dE ho hr);have Bv:=za hn;have ak:=za oG;have RF:=hn.2.2;have aA:=uJ.out.siz;have aB:=Bw.out.siz;have RH:w.heap.size<w4.heap.size:=by omega
  have ax:w.heap.size+1<w4.heap.size:=by omega
  clear hr ho hn oG N J Y G U W I K z u m B D r E C;obtain⟨N,J,Y,G,U,W,I,K⟩:=aU Bw.out.res;obtain⟨z,u,m,B,D,r,E,C⟩:=aU Bw.out.bx;cases ok with
  |false=>
   go_wp2;obtain⟨S,X,M,H,O,R⟩:=Bw.out.ends (.int .i64 0) (.int .i64 0) (.slice none 0 0) (.int .i64 0);refine zk (v:= .tuple #[.agg #[.int .i64 0,.int .i64 0,.slice none 0 0,.int .i64 0],.bool false]) (by simp[results,xz,go_sem,M,H,O,R,zz,RH]) rfl ?_;exact⟨.mk 0 0 [] 0,false,b,c,_,_,_,_,_,_,rfl,af.alloc (show af _ g _ _ from S) _,X.alloc _,by omega,Qn _ rk.out Bv.out AM.out,(by intro h;cases h)⟩
  |true=>
   have YV:=za (KU rk.out hQ Bv.out);obtain⟨_,Ov,aw⟩:=Bv.out.1 rfl;have LQ:Hid (c+bc (acc++ [y])=L):=za (by rw[tk];have:=AM.out;omega);have rB:Hid (∀o o',pC w g s b c acc (l) (.slice A2 n2 cn) ((w4.alloc o).alloc o')):=za (fun o o'=>Bw.out.below bQ);have HY:Hid (∀o o',fD ((w4.alloc o).alloc o') (fun k=>w.heap.size+2<=k/\(Value.slice A2 n2 cn).ownBlock≠some k) y (.int .i64 k) (.int .i64 ai) (.slice A n cap) (.int .i64 ta)):=za (fun o o'=>((ak.out (by first|rfl|trivial)).fe (fun k _ hk=>⟨by have hk:W3.heap.size<=k:=hk;omega,fun e=>by have:=(uJ.out.acc.ge k e).2;have hk:W3.heap.size<=k:=hk;omega⟩)).below bQ);have al:acc.length<=1000000:=by omega
   clear Ov;go_wp2_with (at_builtin;refine cA (by rfl) (.tmp 34) (.tmp 36) (by rfl) (w.heap.size+2) acc (by rfl) (rB.out _ _).acc y (HY.out _ _) _ (by rfl) (by simp) (by simp) (by simp) (by simp) al (by simp only[zp];omega) ?_)
   intro g' n' aq w6 Oy GV eV aC;have RG:=af.grown (rB.out _ _).bx eV (fun e=>by have:=((rB.out (.cells #[] 0) (.cells #[] 0)).acc.ge _ e).1;omega);clear N J Y G U W I K z u m B D r E C;obtain⟨z,u,m,B,D,r,E,C⟩:=aU RG;obtain⟨W7,rD⟩:∃W7,w6.setCell ⟨w.heap.size+1,2,none⟩ (.slice (some ⟨g',0,none⟩) n' aq)=W7:=⟨_,rfl⟩
   have GW:Hid (pC w g s b c (acc++ [y]) (l) (.slice (some ⟨g',0,none⟩) n' aq) W7):=za (by rw[<-rD];exact(rB.out _ _).more eV GV);have ah:=za rD;clear rD RG eV GV;go_wp2_with fail
   rw[ah.out];clear z u m B D r E C;by_cases F:∃hq:b<s.size,s[b].toNat=125
   ·obtain⟨Al,F⟩:=F;refine(fg g s b c 125 _ GW.out.rd Al Z F).mono ?_;rintro e w8 ⟨rfl,ab,J1⟩;have x:=za (GW.out.dE J1 ab);clear ab J1;obtain⟨N,J,Y,G,U,W,I,K⟩:=aU x.out.res;obtain⟨z,u,m,B,D,r,E,C⟩:=aU x.out.bx;go_wp2;obtain⟨S,X,M,H,O,R⟩:=x.out.ends (.int .i64 5) (.int .i64 0) (.slice (some ⟨g',0,none⟩) n' aq) (.int .i64 ((l:Nat):Int));refine zk (v:= .tuple #[.agg #[.int .i64 5,.int .i64 0,(.slice (some ⟨g',0,none⟩) n' aq),.int .i64 ((l:Nat):Int)],.bool true]) (by simp[results,xz,go_sem,M,H,O,R]) rfl ?_;exact⟨.mk 5 0 (acc++ [y]) ((l:Nat):Int),true,b+1,c,_,_,_,_,_,_,rfl,S,X,by omega,I8 (YV.out.ends Al F) LQ.out (by omega),fun _=>x.out.ty (by simp;omega) (by omega) _ _ _ _⟩
   refine(gD g s b c 125 _ GW.out.rd RF Z (fun j i=>F ⟨j,i⟩)).mono ?_;rintro e w8 ⟨rfl,n8,ad⟩;have x:Hid (pC w g s b c (acc++ [y]) (l) (.slice (some ⟨g',0,none⟩) n' aq) w8):=za (by rw[ad];exact GW.out.below bQ);clear ad;go_wp2_with fail
   by_cases tS:∃hq:b<s.size,s[b].toNat=44
   ·obtain⟨Al,tS⟩:=tS;refine(fg g s b c 44 _ x.out.rd Al Z tS).mono ?_;rintro e w9 ⟨rfl,ag,rC⟩;have N7:=za (x.out.dE rC ag);have c9:=N7.out.rd.cells.2.1;clear ag rC;go_wp2;go_roundw
    case rel=>exact⟨b+1,c,acc++ [y],l,_,by omega,za (YV.out.more Al tS (by simp)),LQ,by omega,by simp;omega,by omega,N7⟩
    case measure=>
     rw[c1,c9];simp only[P7];omega
   refine(gD g s b c 44 _ x.out.rd RF Z (fun j i=>tS ⟨j,i⟩)).mono ?_;rintro e w9 ⟨rfl,n9,aa⟩;have N7:Hid (pC w g s b c (acc++ [y]) (l) (.slice (some ⟨g',0,none⟩) n' aq) w9):=za (by rw[aa];exact x.out.below bQ);clear aa;obtain⟨N,J,Y,G,U,W,I,K⟩:=aU N7.out.res;obtain⟨z,u,m,B,D,r,E,C⟩:=aU N7.out.bx;go_wp2;obtain⟨S,X,M,H,O,R⟩:=N7.out.ends (.int .i64 0) (.int .i64 0) (.slice none 0 0) (.int .i64 0);refine zk (v:= .tuple #[.agg #[.int .i64 0,.int .i64 0,.slice none 0 0,.int .i64 0],.bool false]) (by simp[results,xz,go_sem,M,H,O,R]) rfl ?_;exact⟨.mk 0 0 [] 0,false,b,c,_,_,_,_,_,_,rfl,S,X,by omega,Dx _ (Cs YV.out (by simp) (fun j i=>F ⟨j,i⟩) (fun j i=>tS ⟨j,i⟩)) RF,(by intro h;cases h)⟩
theorem Qq (f d:Nat)(hd:d<=8)(D:Hid (∀(g:Nat) (s:ByteArray) (p L:Nat) (w:World),jF w g s p L->p<=s.size->s.size<=100000->L<=64->
 Calls prog 157 #[.pointer (some ⟨g,0,none⟩),.int .i64 ((d:Int)+1)] w fun e w'=>kE w g s f L p e w')) (g:Nat) (s:ByteArray) (p L:Nat) (w:World) (h:jF w g s p L) (J:p<s.size) (I:s.size<=100000) (hL:0<L) (N6:L<=64) (E:s[p].toNat=123):
 Calls prog 157 #[.pointer (some ⟨g,0,none⟩),.int .i64 d] w fun e w'=>kE w g s (f+1) L p e w':=by
 have r:=za (Qo (f:=f) J E);have b:=za (tj.start h);generalize hW:((w.alloc (.cells #[.pointer (some ⟨g,0,none⟩)] 203)).alloc (.cells #[.int .i64 0,.int .i64 0,.slice none 0 0,.int .i64 0] 43))=W at*;obtain⟨g0,g1,g2,f0,f1,f2,Z⟩:=b.out.rd.cells;have b0:W.cell? ⟨w.heap.size,0,none⟩=some (.pointer (some ⟨g,0,none⟩)):=b.out.box.cell 0;have X:decide ((8:Int)<(d:Int))=false:=zu (by omega);have dL:((L:Int)==0)=false:=zm.2 (by omega);have dp:((p:Int)==(s.size:Int))=false:=zm.2 (by omega);have ew:IntKind.i64.wrap ((L:Int)-1)=(L:Int)-1:=zZ _ (by omega);clear h;go_enter xO,xE
 go_wp2_with fail
 go_quiet (fail)
 obtain⟨i,rfl⟩:∃i,i=nq:=⟨nq,rfl⟩
 go_wp2_with fail
 go_quiet (fail)
 have x:=za (b.out.step ((L:Int)-1) ((p:Int)+1) i nq (L':=L-1) (p':=p+1) (by omega) (by omega));have o:=za (I9 f d hd D g s (p+1) (L-1) _ _ x.out.rd r (by omega) I (by omega));clear D r;go_wp2_with fail
 refine o.out.mono ?_;rintro e u ⟨t,ok,q,F,k,z,j,A,n,cap,rfl,l,C,Y,y,B⟩;have m:=za (x.out.dE C l);have U:=za y;have G:Hid (ok=true->fD u (w.heap.size+2<= ·) t (.int .i64 k) (.int .i64 z) (.slice A n cap) (.int .i64 j)):=za (fun h=>(B h).fe (fun k _ c=>by simp[World.setCell]at c;have:=b.out.siz;omega));clear l C y B o;obtain⟨n0,n1,n2,n3,m0,m1,m2,m3⟩:=aU m.out.res;go_wp2;obtain⟨S,R,K,H,M,O⟩:=m.out.ends (.int .i64 k) (.int .i64 z) (.slice A n cap) (.int .i64 j);refine zk (v:= .tuple #[.agg #[.int .i64 k,.int .i64 z,.slice A n cap,.int .i64 j],.bool ok]) (by simp[results,yt,go_sem,K,H,M,O]) rfl ?_;refine⟨t,ok,q,F,_,_,_,_,_,_,rfl,S,R,by omega, ?_,fun N=>(G.out N).only (L:= [w.heap.size+1]) (((((ae.refl _ u).setCell (by simp) _).setCell (by simp) _).setCell (by simp) _).setCell (by simp) _) (by simp) (fun k _ c=>by have c:w.heap.size+2<=k:=c;show w.heap.size<=k;omega)⟩;have:=acp U.out;rwa [show 1+(L-1)=L from by omega]at this
theorem F0 (t:Ty):0<t.count:=by
 cases t with
 |mk k s l ta=>simp only[Ty.count];omega
theorem Qr (f d:Nat)(hd:d=9)(u:f=0)(g:Nat)(s:ByteArray)(p L:Nat)(w:World)(h:jF w g s p L)(l:p<=s.size)(z:s.size<=100000)(F:L<=64)(B:True):
 Calls prog 157 #[.pointer (some ⟨g,0,none⟩),.int .i64 d] w fun e w'=>kE w g s f L p e w':=by
 have c:=za (tj.start h);generalize D:((w.alloc (.cells #[.pointer (some ⟨g,0,none⟩)] 203)).alloc (.cells #[.int .i64 0,.int .i64 0,.slice none 0 0,.int .i64 0] 43))=W at*;obtain⟨g0,g1,g2,f0,f1,f2,A⟩:=c.out.rd.cells;clear h;go_enter xO,xE
 go_wp2_with fail
 go_quiet (fail)
 obtain⟨b,rfl⟩:∃b,b=nq:=⟨nq,rfl⟩
 have k:Hid (tj w g s p L (W.drewN b)):=za (c.out.below bQ);obtain⟨C,n1,n2,E,m0,m1,m2,m3⟩:=aU c.out.res;go_wp2;obtain⟨x,q,m,j,n,o⟩:=k.out.ends (.int .i64 0) (.int .i64 0) (.slice none 0 0) (.int .i64 0);refine zk (v:= .tuple #[.agg #[.int .i64 0,.int .i64 0,.slice none 0 0,.int .i64 0],.bool false]) (by simp[results,yt,go_sem,m,j,n,o]) rfl ?_;exact⟨.mk 0 0 [] 0,false,p,L,_,_,_,_,_,_,rfl,x,q,zd _,⟨(by intro h;cases h),(by intro _ y r i;subst u;cases i),l⟩,(by intro h;cases h)⟩
theorem Qs (f d:Nat)(hd:d<=8)(g:Nat)(s:ByteArray)(p L:Nat)(w:World)(h:jF w g s p L)(l:p<=s.size)(z:s.size<=100000)(H:L<=64)(B:L=0):
 Calls prog 157 #[.pointer (some ⟨g,0,none⟩),.int .i64 d] w fun e w'=>kE w g s f L p e w':=by
 have y:decide ((8:Int)<(d:Int))=false:=zu (by omega);have E:((L:Int)==0)=true:=yN.2 (by omega);have b:=za (tj.start h);generalize D:((w.alloc (.cells #[.pointer (some ⟨g,0,none⟩)] 203)).alloc (.cells #[.int .i64 0,.int .i64 0,.slice none 0 0,.int .i64 0] 43))=W at*;obtain⟨g0,g1,g2,f0,f1,f2,A⟩:=b.out.rd.cells;have G:W.cell? ⟨w.heap.size,0,none⟩=some (.pointer (some ⟨g,0,none⟩)):=b.out.box.cell 0;clear h;go_enter xO,xE
 go_wp2_with fail
 go_quiet (fail)
 obtain⟨c,rfl⟩:∃c,c=nq:=⟨nq,rfl⟩
 have j:Hid (tj w g s p L (W.drewN c)):=za (b.out.below bQ);obtain⟨C,n1,n2,F,m0,m1,m2,m3⟩:=aU b.out.res;go_wp2;obtain⟨u,q,m,k,n,o⟩:=j.out.ends (.int .i64 0) (.int .i64 0) (.slice none 0 0) (.int .i64 0);refine zk (v:= .tuple #[.agg #[.int .i64 0,.int .i64 0,.slice none 0 0,.int .i64 0],.bool false]) (by simp[results,yt,go_sem,m,k,n,o]) rfl ?_;exact⟨.mk 0 0 [] 0,false,p,L,_,_,_,_,_,_,rfl,u,q,zd _,⟨(by intro h;cases h),(by intro _ i r x;right;have:=F0 i;omega),l⟩,(by intro h;cases h)⟩
theorem Qt (f d:Nat)(hd:d<=8)(g:Nat)(s:ByteArray)(p L:Nat)(w:World)(h:jF w g s p L)(l:p<=s.size)(A:s.size<=100000)(I:L<=64)(C:0<L)(m:s.size<=p):
 Calls prog 157 #[.pointer (some ⟨g,0,none⟩),.int .i64 d] w fun e w'=>kE w g s f L p e w':=by
 have y:decide ((8:Int)<(d:Int))=false:=zu (by omega);have F:((L:Int)==0)=false:=zm.2 (by omega);have J:((p:Int)==(s.size:Int))=true:=yN.2 (by omega);have b:=za (tj.start h);generalize E:((w.alloc (.cells #[.pointer (some ⟨g,0,none⟩)] 203)).alloc (.cells #[.int .i64 0,.int .i64 0,.slice none 0 0,.int .i64 0] 43))=W at*;obtain⟨g0,g1,g2,f0,f1,f2,B⟩:=b.out.rd.cells;have H:W.cell? ⟨w.heap.size,0,none⟩=some (.pointer (some ⟨g,0,none⟩)):=b.out.box.cell 0;clear h;go_enter xO,xE
 go_wp2_with fail
 go_quiet (fail)
 obtain⟨c,rfl⟩:∃c,c=nq:=⟨nq,rfl⟩
 have j:Hid (tj w g s p L (W.drewN c)):=za (b.out.below bQ);obtain⟨D,n1,n2,G,m0,m1,m2,m3⟩:=aU b.out.res;go_wp2;obtain⟨x,u,n,k,o,q⟩:=j.out.ends (.int .i64 0) (.int .i64 0) (.slice none 0 0) (.int .i64 0);refine zk (v:= .tuple #[.agg #[.int .i64 0,.int .i64 0,.slice none 0 0,.int .i64 0],.bool false]) (by simp[results,yt,go_sem,n,k,o,q]) rfl ?_;exact⟨.mk 0 0 [] 0,false,p,L,_,_,_,_,_,_,rfl,x,u,zd _,⟨(by intro h;cases h),(by intro _ z r i;rw[Cr f m]at i;cases i),l⟩,(by intro h;cases h)⟩
theorem F1 :∀(f d:Nat),f+d=9->∀(g:Nat) (s:ByteArray) (p L:Nat) (w:World),jF w g s p L->p<=s.size->s.size<=100000->L<=64->
 Calls prog 157 #[.pointer (some ⟨g,0,none⟩),.int .i64 d] w fun e w'=>kE w g s f L p e w'
 |0,d,hfd,g,s,p,L,w,h,i,b,c=>Qr 0 d (by omega) rfl g s p L w h i b c trivial
 |f+1,d,hfd,g,s,p,L,w,h,i,b,c=>by
  have o:Hid (∀(g:Nat) (s:ByteArray) (p L:Nat) (w:World),jF w g s p L->p<=s.size->s.size<=100000->L<=64->
   Calls prog 157 #[.pointer (some ⟨g,0,none⟩),.int .i64 ((d:Int)+1)] w fun e w'=>kE w g s f L p e w'):=za (fun g s p L w h i b c=>by
   have:=F1 f (d+1) (by omega) g s p L w h i b c;rwa [show(((d+1:Nat)):Int)=(d:Int)+1 from by omega]at this)
  have hd:d<=8:=by omega
  by_cases u:L=0
  ·exact Qs (f+1) d hd g s p L w h i b c u
  by_cases x:s.size<=p
  ·exact Qt (f+1) d hd g s p L w h i b c (by omega) x
  have k:p<s.size:=by omega
  have j:0<L:=by omega
  by_cases n:s[p].toNat=117
  ·exact Qh f d hd g s p L w h k b j c n
  by_cases m:s[p].toNat=98
  ·exact Qf f d hd g s p L w h k b j c m
  by_cases r:s[p].toNat=115
  ·exact Qg f d hd g s p L w h k b j c r
  by_cases q:s[p].toNat=91
  ·exact Qp f d hd o g s p L w h k b j c q
  by_cases l:s[p].toNat=123
  ·exact Qq f d hd o g s p L w h k b j c l
  exact Nc f d hd g s p L w h k b j c n m r q l
