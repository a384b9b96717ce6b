/- A region that draws its order and whose last operation waits for all the others: a condition on the world lets loads be taken first, and need not stand behind the last operation. Own law; no program in sight. -/
import Derived.Deep.RegionHeld3
import Derived.Test.YtdbmifjankgfpaaGreatDoorKA36
set_option linter.all false
set_option maxRecDepth 100000
set_option maxHeartbeats 3200000
open Go.Proofs.Tryz
namespace Go.Proofs.YtdbmifjankgfpaaGreatDoor
open Go
variable {w V V' w':World}{g i p L k d j:Nat}{a:Act}{s:ByteArray}{v:Value}{listed:Array Bool}{acc:List Ty}{o e:Oper}{f m:Int}{t:TypeId}
section
def zb:=@List.setIfInBounds_toArray
def ze:=@List.set_cons_succ
def xD:=@results188
variable {P:Program} {ops:Array Oper} {Q:Exit->Act->World->Prop} {md:Region.Mode} {S:World->Prop} {n:Nat}
def rU (P:Program)(md:Region.Mode)(ops:Array Oper)(Q:Exit->Act->World->Prop)(S:World->Prop)(n:Nat):Nat->Array Bool->Act->World->Prop
 |0,listed,a,w=>Region.ready md ops listed= []/\Q .normal a w
 |fuel+1,listed,a,w=>
  (Region.ready md ops listed= []->Q .normal a w)/\
  ∀i∈Region.ready md ops listed,wpOp P ops Q i (fun a' w'=>(i≠n->S w')/\rU P md ops Q S n fuel (listed.setIfInBounds i true) a' w') a w
theorem vQ :∀(b:Nat) (c:Array Bool) (a:Act) (w:World),rU P md ops Q S n b c a w->wpAny P md ops Q b c a w
 |0,_,_,_,h=>h
 |b+1,_,_,_,h=>⟨h.1,fun i hi=>wpOp_mono (fun e w' d=>vQ b _ e w' d.2) (h.2 i hi)⟩
theorem De {p:Oper}(hi:ops[i]?=some p)(C:∀(j:Nat) (o:Oper) u b,ops[j]?=some o->o.op≠ .select u b)
 (O:Region.sinkB md ops n=true) (hc:Region.chainB md ops n=true) (X:n<ops.size) (Y:i<n)
 (L:∀c a w,Q (.panic c) (a.put p.dst v) w->Q (.panic c) a w):
 ∀(s:Nat) (d:Array Bool) (a:Act) (w:World),HeadInv md ops n d->
  (∀j q,ops[j]?=some q->j≠i->d.getD j true=false->(∀e∈q.after,Region.binds md e=true->e.on≠i)->p.apart ops q=true)->
  i∈Region.ready md ops d->YieldsIf P ops S p v a->S w->
  rU P md ops Q S n s (d.setIfInBounds i true) (a.put p.dst v) w->rU P md ops Q S n (s+1) d a w:=by
 intro s;induction s with
 |zero=>
  intro d a w _ _ m y hS H;refine⟨fun h=>(by rw[h]at m;cases m),fun j r=> ?_⟩;by_cases l:j=i
  ·subst l;exact y.wpOp hi hS ⟨fun _=>hS,H⟩
  have:=Z6 r l;rw[H.1]at this;cases this
 |succ s ih=>
  intro d a w F G m y hS H;have x:=(Zt.1 m).1;refine⟨fun h=>(by rw[h]at m;cases m),fun j r=> ?_⟩;have N:j<n:=by
   rcases xG j n with h|h
   ·exact h
   exact absurd r (tail_waits O hc X F _ i rfl Y x j h)
  by_cases l:j=i
  ·subst l;exact y.wpOp hi hS ⟨fun _=>hS,H⟩
  have z:=H.2 j (Z6 r l);obtain⟨D,q,B,J⟩:=Zt.1 r;have Z:∀e∈q.after,Region.binds md e=true->e.on≠i:=fun e he M R=>by
   have z:=J e he M;rw[R,Zj x]at z;cases z
  have h2:=wpOp_putIf B (G j q B l D Z) (fun u b=>C i p u b hi) (fun u b=>C j q u b B) L y z;have I:∀k ok,ops[k]?=some ok->k≠i->(d.setIfInBounds j true).getD k true=false->
   (∀e∈ok.after,Region.binds md e=true->e.on≠i)->p.apart ops ok=true:=fun k ok K W x U=>by
   refine G k ok K W ?_ U;by_cases E:j=k
   ·subst E;exact D
   rw[getD_set_ne true E]at x;exact x
  refine wpOp_mono (fun a' w' A=>⟨fun _=>A.2.1 (by omega),ih (d.setIfInBounds j true) a' w' (F.set r N) I (Z6 m (xF l)) A.1 (A.2.1 (by omega)) ?_⟩) h2;rw[Array.setIfInBounds_comm _ _ l];exact A.2.2
def GT (P:Program)(md:Region.Mode)(ops:Array Oper)(Q:Exit->Act->World->Prop)(S:World->Prop)(n:Nat)(fuel:Nat)(listed:Array Bool)(a:Act)(w:World):Prop:=
 HeadInv md ops n listed->rU P md ops Q S n fuel listed a w
def KM (md:Region.Mode)(ops:Array Oper)(n:Nat):Bool:=Region.noSelect ops&&decide (n<ops.size)&&Region.sinkB md ops n&&Region.chainB md ops n
theorem GT.take {b:Oper}(hi:ops[i]?=some b)(e:decide (i<n)=true)
 (k:KM md ops n=true) (o:Region.free md ops listed i=true) (m:(Region.ready md ops listed).contains i=true)
 (r:∀c a w,Q (.panic c) (a.put b.dst v) w->Q (.panic c) a w) (s:YieldsIf P ops S b v a) (hS:S w)
 (h:GT P md ops Q S n d (listed.setIfInBounds i true) (a.put b.dst v) w):GT P md ops Q S n (d+1) listed a w:=fun l=>by
 simp only[KM,zy,yb]at k e;obtain⟨⟨⟨p,q⟩,u⟩,x⟩:=k;have j:i∈Region.ready md ops listed:=by simpa using m
 exact De hi (Region.noSelect_spec p) u x q e r d listed a w l (Region.free_spec hi o) j s hS (h (l.set j e))
theorem GT.step {e:Nat}(r:ops[i]?=some o)(l:decide (i<n)=true)(c:Region.ready md ops listed= [i])
 (h:∀b:Act->World->Prop,Shut (∀a w,S w->(S w->GT P md ops Q S n e (listed.setIfInBounds i true) a w)->b a w)->if Region.wanted o (yielded ops a.tmps)=true then Oper.wp P o a w b Q else b (a.put o.dst undef) w):GT P md ops Q S n (e+1) listed a w:=fun s=>by
 refine⟨fun u=>(by rw[u]at c;cases c),fun j d=> ?_⟩;have k:j=i:=by rw[c]at d;simpa using d
 subst k;have q:j<n:=by simpa using l
 exact wpOp_step r (fun b m=>h b (fun a w hS p=>m a w ⟨fun _=>hS,p hS (s.set d q)⟩))
theorem GT.two {d:Oper}{m:Nat}(hi:ops[i]?=some d)(z:ops[j]?=some e)(r:decide (i<n)=true)(A:decide (j<n)=true)(l:Region.ready md ops listed= [i,j])
 (x:∀b:Act->World->Prop,Shut (∀a w,S w->(S w->GT P md ops Q S n m (listed.setIfInBounds i true) a w)->b a w)->if Region.wanted d (yielded ops a.tmps)=true then Oper.wp P d a w b Q else b (a.put d.dst undef) w)
 (y:∀b:Act->World->Prop,Shut (∀a w,S w->(S w->GT P md ops Q S n m (listed.setIfInBounds j true) a w)->b a w)->if Region.wanted e (yielded ops a.tmps)=true then Oper.wp P e a w b Q else b (a.put e.dst undef) w):GT P md ops Q S n (m+1) listed a w:=fun q=>by
 refine⟨fun B=>(by rw[B]at l;cases l),fun k h=> ?_⟩;have u:i<n:=by simpa using r
 have s:j<n:=by simpa using A
 have c:k=i\/k=j:=by rw[l]at h;simpa using h
 rcases c with c|c
 ·subst c;exact wpOp_step hi (fun b o=>x b (fun a w hS p=>o a w ⟨fun _=>hS,p hS (q.set h u)⟩))
 subst c;exact wpOp_step z (fun b o=>y b (fun a w hS p=>o a w ⟨fun _=>hS,p hS (q.set h s)⟩))
theorem GT.last {q:Nat}(x:ops[i]?=some o)(s:decide (i=n)=true)(c:Region.ready md ops listed= [i])(m:Region.ready md ops (listed.setIfInBounds i true)= [])
 (h:if Region.wanted o (yielded ops a.tmps)=true then Oper.wp P o a w (fun d w'=>Q .normal d w') Q else Q .normal (a.put o.dst undef) w):GT P md ops Q S n (q+1) listed a w:=fun A=>by
 refine⟨fun b=>(by rw[b]at c;cases c),fun j p=> ?_⟩;have r:j=i:=by rw[c]at p;simpa using p
 subst r;have y:j=n:=by simpa using s
 subst y;have l:∀(f:Nat) (a:Act) (w:World),Q .normal a w->rU P md ops Q S j f (listed.setIfInBounds j true) a w:=fun f a w h=>by
  cases f with
  |zero=>exact⟨m,h⟩
  |succ f=>exact⟨fun _=>h,by rw[m];simp⟩
 refine wpOp_step x (fun z k=> ?_);split
 ·rename_i e
  rw[zi e]at h;exact Oper.wp_mono (fun d w' u=>k d w' ⟨fun b=>absurd rfl b,l _ _ _ u⟩) h
 rename_i e
 rw[zh e]at h;exact k _ _ ⟨fun b=>absurd rfl b,l _ _ _ h⟩
theorem aD {id:Nat}(n:Nat)(S:World->Prop)(c:P.follows .mixedOrders=true)(i:KM .any ops n=true)(h:GT P .any ops Q S n ops.size (Array.replicate ops.size false) a w.drew):(Code.region id ops true).wp P Q a w:=by
 exact wp_region_any c (vQ _ _ _ _ (h ⟨by simp,fun j e _ b=>(by rw[yA]at b;cases b),fun t _ d=>getD_in (by simpa using d) (yA _ _)⟩))
def vR :List Oper->Nat->Option Oper
 |o::_,0=>some o
 |_::l,i+1=>vR l i
 | [],_=>none
theorem FB :∀{l:List Oper} {i:Nat} {o:Oper},vR l i=some o->l[i]?=some o
 |_::_,0,_,h=>by simpa[vR]using h
 |_::l,i+1,_,h=>by simpa using FB (l:=l) (i:=i) h
 | [],_,_,h=>by simp[vR]at h
theorem od {ops:Array Oper}(h:vR ops.toList i=some o):ops[i]?=some o:=by
 have:=FB h;simpa using this
inductive AO (P:Program)(ops:Array Oper)(S:World->Prop)(G:Act->Prop):List Nat->Act->Prop
 |nil {a:Act} (h:G a):AO P ops S G [] a
 |cons {i:Nat} {is:List Nat} {oi:Oper} {v:Value} {a:Act} (hi:ops[i]?=some oi) (hy:YieldsIf P ops S oi v a) (h:AO P ops S G is (a.put oi.dst v)):AO P ops S G (i::is) a
theorem AO.c {P:Program}{ops:Array Oper}{S:World->Prop}{G:Act->Prop}{c:List Nat}{b:Oper}(hi:vR ops.toList i=some b)(d:Region.wanted b (yielded ops a.tmps)=true)
 (e:∀w,S w->(execOp a.eval b).run P w= .ok (.value v) w) (h:AO P ops S G c (a.put b.dst v)):AO P ops S G (i::c) a:= .cons (od hi) (.inl ⟨d,e⟩) h
theorem AO.u {P:Program}{ops:Array Oper}{S:World->Prop}{G:Act->Prop}{c:List Nat}{b:Oper}(hi:vR ops.toList i=some b)(d:Region.wanted b (yielded ops a.tmps)=false)
 (h:AO P ops S G c (a.put b.dst undef)):AO P ops S G (i::c) a:= .cons (od hi) (.inr ⟨d,rfl⟩) h
def Vm :List Nat->Array Bool->Array Bool
 | [],l=>l
 |i::is,l=>Vm is (l.setIfInBounds i true)
def Vn :List Nat->Nat->Nat
 | [],f=>f
 |_::is,f=>Vn is f+1
def Qp (md:Region.Mode)(ops:Array Oper)(n:Nat):List Nat->Array Bool->Bool
 | [],_=>true
 |i::is,l=>decide (i<n)&&KM md ops n&&Region.free md ops l i&&(Region.ready md ops l).contains i&&Qp md ops n is (l.setIfInBounds i true)
theorem GT.jV (e:List Nat)(hS:S w)(r:∀c (a:Act) (d:Nat) v w,Q (.panic c) (a.put (some d) v) w->Q (.panic c) a w)
 (l:Qp md ops n e listed=true) (j:AO P ops S (fun b=>GT P md ops Q S n k (Vm e listed) b w) e a):GT P md ops Q S n (Vn e k) listed a w:=by
 induction e generalizing listed a with
 |nil=>
  cases j with
  |nil h=>exact h
 |cons i e ih=>
  cases j with
  |cons hi hy j=>
   simp only[Qp,zy]at l;obtain⟨⟨⟨⟨p,q⟩,s⟩,m⟩,o⟩:=l;refine GT.take hi p q s m (fun c a w h=> ?_) hy hS (ih o j);revert h
   cases Oper.dst _ with
   |none=>exact id
   |some d=>exact r c a d _ w
def stB (md:Region.Mode)(ops:Array Oper)(n:Nat)(listed:Array Bool)(i:Nat):Bool:=decide (i<n)&&(Region.ready md ops listed== [i])
theorem GT.fP (i:Nat)
 (h:∀c:Act->World->Prop,Shut (∀a w,S w->(S w->GT P md ops Q S n d (listed.setIfInBounds i true) a w)->c a w)->if Region.wanted o (yielded ops a.tmps)=true then Oper.wp P o a w c Q else c (a.put o.dst undef) w)
 (e:vR ops.toList i=some o) (b:stB md ops n listed i=true):GT P md ops Q S n (d+1) listed a w:=by
 simp only[stB,zy,yS]at b;exact GT.step (od e) b.1 b.2 h
def twB (md:Region.Mode)(ops:Array Oper)(n:Nat)(listed:Array Bool)(i j:Nat):Bool:=decide (i<n)&&decide (j<n)&&(Region.ready md ops listed== [i,j])
theorem GT.T4 (i j:Nat){c:Oper}{h:Nat}(hi:vR ops.toList i=some c)(m:vR ops.toList j=some e)(d:twB md ops n listed i j=true)
 (k:∀b:Act->World->Prop,Shut (∀a w,S w->(S w->GT P md ops Q S n h (listed.setIfInBounds i true) a w)->b a w)->if Region.wanted c (yielded ops a.tmps)=true then Oper.wp P c a w b Q else b (a.put c.dst undef) w)
 (l:∀b:Act->World->Prop,Shut (∀a w,S w->(S w->GT P md ops Q S n h (listed.setIfInBounds j true) a w)->b a w)->if Region.wanted e (yielded ops a.tmps)=true then Oper.wp P e a w b Q else b (a.put e.dst undef) w):GT P md ops Q S n (h+1) listed a w:=by
 simp only[twB,zy,yS]at d;exact GT.two (od hi) (od m) d.1.1 d.1.2 d.2 k l
def laB (md:Region.Mode)(ops:Array Oper)(n:Nat)(listed:Array Bool)(i:Nat):Bool:=decide (i=n)&&(Region.ready md ops listed== [i])&&(Region.ready md ops (listed.setIfInBounds i true)== [])
theorem GT.pt (i:Nat){c:Nat}
 (h:if Region.wanted o (yielded ops a.tmps)=true then Oper.wp P o a w (fun e w'=>Q .normal e w') Q else Q .normal (a.put o.dst undef) w)
 (d:vR ops.toList i=some o) (b:laB md ops n listed i=true):GT P md ops Q S n (c+1) listed a w:=by
 simp only[laB,zy,yS]at b;exact GT.last (od d) b.1.1 b.1.2 b.2 h
end
open Go.RowKit
structure jI (w:World)(g gl fb:Nat)(s:ByteArray)(k:Nat)(f m:Int):Prop where
 rdr:ji w g s k f
 left:af w gl 3 #[.int .i64 m]
 box:af w fb 164 #[.pointer (some ⟨g,0,none⟩)]
theorem af.DY {c:Nat}{d:TypeId}{e i:Array Value}(h:af w g t e)(b:af w c d i)(j:t≠d):g≠c:=by
 rintro rfl;unfold af at h b;rw[h]at b;injection b with b;injection b with _ ht;exact j ht
theorem jI.apart {gl b:Nat}(h:jI w g gl b s k f m):gl≠g/\b≠g/\b≠gl:=⟨h.left.DY h.rdr (by decide),h.box.DY h.rdr (by decide),h.box.DY h.left (by decide)⟩
theorem jI.below {gl c:Nat}(h:jI w g gl c s k f m)(b:Below w.heap.size w w'):jI w' g gl c s k f m:=
 ⟨(b.block _ h.rdr.lt).trans h.rdr,(b.block _ h.left.lt).trans h.left,(b.block _ h.box.lt).trans h.box⟩
theorem jI.dF {gl:Nat}{b:Nat}{c:Int}(h:jI w g gl d s k f m)(e:ae [g] w w')(i:ji w' g s b c):jI w' g gl d s b c m:=
 ⟨i,h.left.only e (by simp[h.apart.1]),h.box.only e (by simp[h.apart.2.1])⟩
def iB (g gl fb:Nat):Value:= .agg #[.func (.func 113) #[.pointer (some ⟨g,0,none⟩)] #[],.func (.func 140) #[.pointer (some ⟨g,0,none⟩)] #[],.func (.func 114) #[.pointer (some ⟨g,0,none⟩)] #[],.func (.func 138) #[.pointer (some ⟨g,0,none⟩)] #[],.func (.func 181) #[] #[.pointer (some ⟨fb,0,none⟩)],.pointer (some ⟨gl,0,none⟩)]
theorem Qq (N:Nat×Nat×Int)(z:Nat):qu N z<=z:=by
 rcases oa N z 0 with⟨_,_,h,_⟩|⟨_,_,_,h,_⟩|⟨_,b,_,h,_⟩<;>omega
theorem Ch (g gl b:Nat)(s:ByteArray)(k z:Nat)(m:Int)(w:World)(h:jI w g gl b s k 0 m)(r:k<=s.size)(j:s.size<=9223372036854775807)(hz:z<=65536)(i:bq w)(q:g≠0):
 Calls prog 181 #[.int .i64 z,.pointer (some ⟨b,0,none⟩)] w fun e w'=>e= .returned (.int .i64 (qu (aA (s.data.toList.drop k)) z))/\jI w' g gl b s (s9 (aA (s.data.toList.drop k)) z k) (oO (aA (s.data.toList.drop k)) z) m/\ae [g] w w':=by
 have u:w.cell? ⟨b,0,none⟩=some (.pointer (some ⟨g,0,none⟩)):=h.box.cell 0;have l:=za (P9 g s k z w h.rdr r j (by omega) i q);have A:=Qq (aA (s.data.toList.drop k)) z;have p:=za h;generalize qu (aA (s.data.toList.drop k)) z=N at*;generalize s9 (aA (s.data.toList.drop k)) z k=K at*;generalize oO (aA (s.data.toList.drop k)) z=E at*;have y:IntKind.u64.wrap (z:Int)=z:=xy _ (by omega);clear h;go_enter func181,ntmps181
 go_wp2_with fail
 refine l.out.mono ?_;rintro e x ⟨rfl,d,c⟩;have n:=za (p.out.dF c d);have o:=za c;clear d c;go_wp2;go_ret;exact⟨by go_num,n.out,o.out⟩
theorem Xq (i:Int)(d b o n cap:Nat)(k z y:Int)(c m j l:Value)(w:World)(h:af w d 43 #[.int .i64 k,.int .i64 z,.slice (some ⟨b,o,none⟩) n cap,.int .i64 y])(J:0<n)(H:n<=9223372036854775807)
 (G:w.cell? ⟨b,o,none⟩=some c) (K:w.cell? ⟨b,o+1,none⟩=some m) (L:w.cell? ⟨b,o+2,none⟩=some j) (M:w.cell? ⟨b,o+3,none⟩=some l) (I:b<w.heap.size)
 (q r x:Int) (p:Option Addr) (s u:Nat) (B:c= .int .i64 q) (C:m= .int .i64 r) (D:j= .slice p s u) (A:l= .int .i64 x):
 Calls prog 220 #[.int .i64 i,.pointer (some ⟨d,0,none⟩)] w fun e w'=>e= .returned (.tuple #[.agg #[c,m,j,l],.bool true])/\Below w.heap.size w w':=by
 have E:w.cell? ⟨d,2,none⟩=some (.slice (some ⟨b,o,none⟩) n cap):=h.cell 2;have F:=h.lt;subst B C D A;clear h;go_enter func220,ntmps220
 go_wp2;refine zj (v:= .tuple #[.agg #[.int .i64 q,.int .i64 r,.slice p s u,.int .i64 x],.bool true]) (by simp[results,results220,go_sem]) rfl ⟨rfl,bT⟩
theorem eR {a b c d e f:Value}(h:af w g t #[a,b,c,d,e,f]):w.cell? ⟨g,0,none⟩=some a/\w.cell? ⟨g,1,none⟩=some b/\w.cell? ⟨g,2,none⟩=some c/\w.cell? ⟨g,3,none⟩=some d/\w.cell? ⟨g,4,none⟩=some e/\w.cell? ⟨g,5,none⟩=some f:=⟨h.cell 0,h.cell 1,h.cell 2,h.cell 3,h.cell 4,h.cell 5⟩
def kf (g gl fb:Nat):Array Value:= #[.func (.func 113) #[.pointer (some ⟨g,0,none⟩)] #[],.func (.func 140) #[.pointer (some ⟨g,0,none⟩)] #[],.func (.func 114) #[.pointer (some ⟨g,0,none⟩)] #[],.func (.func 138) #[.pointer (some ⟨g,0,none⟩)] #[],.func (.func 181) #[] #[.pointer (some ⟨fb,0,none⟩)],.pointer (some ⟨gl,0,none⟩)]
theorem lk {p:Addr}(e:p.block≠g)(a b c d:Value):((((w.drew.setCell ⟨g,0,none⟩ a).setCell ⟨g,1,none⟩ b).setCell ⟨g,2,none⟩ c).setCell ⟨g,3,none⟩ d).cell? p=w.cell? p:=
 zG (by
  rw[zM _ _ _ _ e,zM _ _ _ _ e,zM _ _ _ _ e,zM _ _ _ _ e];rfl)
theorem cP {p:Addr}(e:p.block≠g)(m:Nat)(a b c d:Value):(((((w.drewN m).setCell ⟨g,0,none⟩ a).setCell ⟨g,1,none⟩ b).setCell ⟨g,2,none⟩ c).setCell ⟨g,3,none⟩ d).cell? p=w.cell? p:=
 zG (by
  rw[zM _ _ _ _ e,zM _ _ _ _ e,zM _ _ _ _ e,zM _ _ _ _ e];rfl)
theorem Xr (i:Nat)(j A g gl fb b o n cap:Nat)(s:ByteArray)(I:Nat)(m:Int)(k ab d:Int)(f0 f1 f2 f3:Value)(w:World)(h:af w j 43 #[.int .i64 k,.int .i64 ab,.slice (some ⟨b,o,none⟩) n cap,.int .i64 d])(hr:af w A 240 (kf g gl fb))(fl:Int)(pJ:jI w g gl fb s I fl m)(ad:I<=s.size)(hs:s.size<=9223372036854775807)(hn:i<n)(Lm:n<=9223372036854775807)(oq:0<=d)(JH:d<=n)
 (h0:w.cell? ⟨b,o+i*4,none⟩=some f0) (h1:w.cell? ⟨b,o+i*4+1,none⟩=some f1) (h2:w.cell? ⟨b,o+i*4+2,none⟩=some f2) (h3:w.cell? ⟨b,o+i*4+3,none⟩=some f3) (Z:b<w.heap.size)
 (u y q:Int) (r:Option Addr) (l x:Nat) (e0:f0= .int .i64 u) (e1:f1= .int .i64 y) (e2:f2= .slice r l x) (e3:f3= .int .i64 q):
 Calls prog 221 #[.int .i64 i,.pointer (some ⟨j,0,none⟩),.pointer (some ⟨A,0,none⟩)] w fun e w'=>e= .returned (.tuple #[.agg #[f0,f1,f2,f3],.bool (decide ((i:Int)<(n:Int)-d)||decide (I<s.size))])/\Below w.heap.size w w':=by
 have c:Below w.heap.size w (w.alloc (.cells #[.int .i64 0,.int .i64 0,.slice none 0 0,.int .i64 0] 43)):=bT;have mP:=fun V (hb:Below w.heap.size w V)=>vG g s I fl V ((hb.block _ pJ.rdr.lt).trans pJ.rdr) ad hs
 have SU:=za mP;have G:=(c.cell (p:=⟨j,2,none⟩) h.lt).trans (show w.cell? ⟨j,2,none⟩=some (.slice (some ⟨b,o,none⟩) n cap)from h.cell 2);have E:=(c.cell (p:=⟨j,3,none⟩) h.lt).trans (show w.cell? ⟨j,3,none⟩=some (.int .i64 d)from h.cell 3);have D6:=hr.lt;have ae:=h.lt;obtain⟨r0,r1,r2,r3,r4,r5⟩:=eR (show af w A 240 #[_,_,_,_,_,_]from hr);have L:=(c.cell (p:=⟨A,3,none⟩) D6).trans r3;have F:=(c.cell (p:=⟨b,_,none⟩) Z).trans h0;have D:=(c.cell (p:=⟨b,_,none⟩) Z).trans h1;have H:=(c.cell (p:=⟨b,_,none⟩) Z).trans h2;have C:=(c.cell (p:=⟨b,_,none⟩) Z).trans h3;subst e0 e1 e2 e3;have tT:=af.new w 43 #[.int .i64 0,.int .i64 0,.slice none 0 0,.int .i64 0];have J:=za tT;have X:=za c;generalize Al:w.alloc (.cells #[.int .i64 0,.int .i64 0,.slice none 0 0,.int .i64 0] 43)=B at*;clear h hr pJ r0 r1 r2 r3 r4 r5 h0 h1 h2 h3 c mP tT;by_cases aE:(i:Int)<(n:Int)-d
 ·have d1:decide ((i:Int)<(n:Int)-d)=true:=zD aE;rw[d1,Bool.true_or];go_enter func221,ntmps221
  go_wp2_with fail
  have ew:IntKind.i64.wrap ((n:Int)-d)=(n:Int)-d:=zW _ (by omega);refine aD 20 (fun V=>V.cell? ⟨j,2,none⟩=some (.slice (some ⟨b,o,none⟩) n cap)/\V.cell? ⟨j,3,none⟩=some (.int .i64 d)/\V.cell? ⟨b,o+i*4,none⟩=some (.int .i64 u)/\V.cell? ⟨b,o+i*4+1,none⟩=some (.int .i64 y)/\V.cell? ⟨b,o+i*4+2,none⟩=some (.slice r l x)/\V.cell? ⟨b,o+i*4+3,none⟩=some (.int .i64 q)) (by kernel_rfl) (by kernel_rfl) ?_;have hHeld:(fun V:World=>V.cell? ⟨j,2,none⟩=some (.slice (some ⟨b,o,none⟩) n cap)/\V.cell? ⟨j,3,none⟩=some (.int .i64 d)/\V.cell? ⟨b,o+i*4,none⟩=some (.int .i64 u)/\V.cell? ⟨b,o+i*4+1,none⟩=some (.int .i64 y)/\V.cell? ⟨b,o+i*4+2,none⟩=some (.slice r l x)/\V.cell? ⟨b,o+i*4+3,none⟩=some (.int .i64 q)) B.drew:=⟨G,E,F,D,H,C⟩
  refine GT.jV [0,1,2,3,4,5,6,7,8,9,10,11,12,13,14,15,16,17,18] hHeld (fun _ _ _ _ _ h=>h) (by kernel_rfl) ?_;iterate 11 (refine .c rfl rfl (fun V c=>by go_simp<;>with_reducible rfl) ?_;simp only[Act.put,zb,zd,ze])
  refine .c (v:= .int .i64 ((n:Int)-d)) rfl rfl (fun V c=>by go_simp<;>with_reducible rfl) ?_;try simp only[Act.put,zb,zd,ze];refine .c (v:= .bool true) rfl rfl (fun V c=>by go_simp<;>with_reducible rfl) ?_;try simp only[Act.put,zb,zd,ze];refine .c (v:= .bool true) rfl rfl (fun V c=>by go_simp<;>with_reducible rfl) ?_;try simp only[Act.put,zb,zd,ze];refine .u rfl rfl ?_;try simp only[Act.put,zb,zd,ze];refine .u rfl rfl ?_;try simp only[Act.put,zb,zd,ze];refine .u rfl rfl ?_;try simp only[Act.put,zb,zd,ze];refine .u rfl rfl ?_;try simp only[Act.put,zb,zd,ze];refine .c rfl rfl (fun V c=>by go_simp<;>with_reducible rfl) ?_;simp only[Act.put,zb,zd,ze];refine .nil ?_;obtain⟨n0,n1,n2,n3,m0,m1,m2,m3⟩:=aS J.out;refine GT.fP 19 (fun K z=> ?_) rfl (by kernel_rfl);go_simp;refine z.out _ _ ⟨(lk (by simp;omega) _ _ _ _).trans G,(lk (by simp;omega) _ _ _ _).trans E,(lk (by simp;omega) _ _ _ _).trans F,(lk (by simp;omega) _ _ _ _).trans D,(lk (by simp;omega) _ _ _ _).trans H,(lk (by simp;omega) _ _ _ _).trans C⟩ (fun hHeld=> ?_);clear z K;try simp only[Act.put,zb,zd,ze]
  refine GT.pt 20 ?_ rfl (by kernel_rfl);go_simp;go_wp2;have hX:=((((J.out.set 0 (.int .i64 u)).set 1 (.int .i64 y)).set 2 (.slice r l x)).set 3 (.int .i64 q)).drew;have M:Below w.heap.size w ((((B.setCell ⟨w.heap.size,0,none⟩ (.int .i64 u)).setCell ⟨w.heap.size,1,none⟩ (.int .i64 y)).setCell ⟨w.heap.size,2,none⟩ (.slice r l x)).setCell ⟨w.heap.size,3,none⟩ (.int .i64 q)).drew:=((((X.out.setCell (by simp) _).setCell (by simp) _).setCell (by simp) _).setCell (by simp) _).drew;obtain⟨x0,x1,x2,x3,_⟩:=aS (show af _ _ _ #[.int .i64 u,.int .i64 y,.slice r l x,.int .i64 q]from hX);refine zj (v:= .tuple #[.agg #[.int .i64 u,.int .i64 y,.slice r l x,.int .i64 q],.bool true]) (by simp[results,results221,go_sem,x0,x1,x2,x3]) rfl ⟨rfl,M⟩
 have d1:decide ((i:Int)<(n:Int)-d)=false:=zv aE;rw[d1,Bool.false_or];have ew:IntKind.i64.wrap ((n:Int)-d)=(n:Int)-d:=zW _ (by omega);by_cases hk:I<s.size
 ·have d3:decide (I<s.size)=true:=zD hk;rw[d3];go_enter func221,ntmps221
  go_wp2_with fail
  refine aD 20 (fun V=>V.cell? ⟨j,2,none⟩=some (.slice (some ⟨b,o,none⟩) n cap)/\V.cell? ⟨j,3,none⟩=some (.int .i64 d)/\V.cell? ⟨b,o+i*4,none⟩=some (.int .i64 u)/\V.cell? ⟨b,o+i*4+1,none⟩=some (.int .i64 y)/\V.cell? ⟨b,o+i*4+2,none⟩=some (.slice r l x)/\V.cell? ⟨b,o+i*4+3,none⟩=some (.int .i64 q)/\V.cell? ⟨A,3,none⟩=some (.func (.func 138) #[.pointer (some ⟨g,0,none⟩)] #[])) (by kernel_rfl) (by kernel_rfl) ?_;have hHeld:(fun V:World=>V.cell? ⟨j,2,none⟩=some (.slice (some ⟨b,o,none⟩) n cap)/\V.cell? ⟨j,3,none⟩=some (.int .i64 d)/\V.cell? ⟨b,o+i*4,none⟩=some (.int .i64 u)/\V.cell? ⟨b,o+i*4+1,none⟩=some (.int .i64 y)/\V.cell? ⟨b,o+i*4+2,none⟩=some (.slice r l x)/\V.cell? ⟨b,o+i*4+3,none⟩=some (.int .i64 q)/\V.cell? ⟨A,3,none⟩=some (.func (.func 138) #[.pointer (some ⟨g,0,none⟩)] #[])) B.drew:=⟨G,E,F,D,H,C,L⟩
  refine GT.jV [0,1,2,3,4,5,6,7,8,9,10,11,12,13,14,15] hHeld (fun _ _ _ _ _ h=>h) (by kernel_rfl) ?_;iterate 11 (refine .c rfl rfl (fun V c=>by go_simp<;>with_reducible rfl) ?_;simp only[Act.put,zb,zd,ze])
  refine .c (v:= .int .i64 ((n:Int)-d)) rfl rfl (fun V c=>by go_simp<;>with_reducible rfl) ?_;try simp only[Act.put,zb,zd,ze];refine .c (v:= .bool false) rfl rfl (fun V c=>by go_simp<;>with_reducible rfl) ?_;try simp only[Act.put,zb,zd,ze];refine .c (v:= .bool false) rfl rfl (fun V c=>by go_simp<;>with_reducible rfl) ?_;try simp only[Act.put,zb,zd,ze];refine .c (v:= .pointer (some ⟨A,3,none⟩)) rfl rfl (fun V c=>by go_simp<;>with_reducible rfl) ?_;try simp only[Act.put,zb,zd,ze];refine .c (v:= .func (.func 138) #[.pointer (some ⟨g,0,none⟩)] #[]) rfl rfl (fun V c=>by go_simp<;>with_reducible rfl) ?_;try simp only[Act.put,zb,zd,ze];refine .nil ?_;refine GT.fP 16 (fun K z=> ?_) rfl (by kernel_rfl);go_simp;refine(SU.out B.drew X.out.drew).mono ?_;rintro e w2 ⟨rfl,nq,rfl⟩;go_wp2_with fail
  refine z.out _ _ ⟨G,E,F,D,H,C,L⟩ (fun hHeld=> ?_);clear z K;try simp only[Act.put,zb,zd,ze]
  refine GT.jV [17,18] hHeld (fun _ _ _ _ _ h=>h) (by kernel_rfl) ?_;refine .c (v:= .bool true) rfl rfl (fun V c=>by go_simp<;>with_reducible rfl) ?_;try simp only[Act.put,zb,zd,ze];refine .c (v:= .bool true) rfl rfl (fun V c=>by go_simp<;>with_reducible rfl) ?_;try simp only[Act.put,zb,zd,ze];refine .nil ?_;obtain⟨n0,n1,n2,n3,m0,m1,m2,m3⟩:=aS J.out;refine GT.fP 19 (fun K z=> ?_) rfl (by kernel_rfl);go_simp;refine z.out _ _ ⟨(cP (by simp;omega) _ _ _ _ _).trans G,(cP (by simp;omega) _ _ _ _ _).trans E,(cP (by simp;omega) _ _ _ _ _).trans F,(cP (by simp;omega) _ _ _ _ _).trans D,(cP (by simp;omega) _ _ _ _ _).trans H,(cP (by simp;omega) _ _ _ _ _).trans C,(cP (by simp;omega) _ _ _ _ _).trans L⟩ (fun hHeld=> ?_);clear z K;try simp only[Act.put,zb,zd,ze]
  refine GT.pt 20 ?_ rfl (by kernel_rfl);go_simp;go_wp2;have R:=(J.out.drewN (1+nq)).set 0 (.int .i64 u);have W:=R.set 1 (.int .i64 y);have Y:=W.set 2 (.slice r l x);have aa:=Y.set 3 (.int .i64 q);have N:=R.cell 0;have U:=W.cell 1;have O:=Y.cell 2;have S:=aa.cell 3;simp at N U O S;have M:Below w.heap.size w (((((B.drewN (1+nq)).setCell ⟨w.heap.size,0,none⟩ (.int .i64 u)).setCell ⟨w.heap.size,1,none⟩ (.int .i64 y)).setCell ⟨w.heap.size,2,none⟩ (.slice r l x)).setCell ⟨w.heap.size,3,none⟩ (.int .i64 q)):=(((((X.out.bs _).setCell (by simp) _).setCell (by simp) _).setCell (by simp) _).setCell (by simp) _)
  refine zj (v:= .tuple #[.agg #[.int .i64 u,.int .i64 y,.slice r l x,.int .i64 q],.bool true]) (by simp[results,results221,go_sem,N,U,O,S]) rfl ⟨rfl,M⟩
 have d3:decide (I<s.size)=false:=zv hk;rw[d3];go_enter func221,ntmps221
 go_wp2_with fail
 refine aD 20 (fun V=>V.cell? ⟨j,2,none⟩=some (.slice (some ⟨b,o,none⟩) n cap)/\V.cell? ⟨j,3,none⟩=some (.int .i64 d)/\V.cell? ⟨b,o+i*4,none⟩=some (.int .i64 u)/\V.cell? ⟨b,o+i*4+1,none⟩=some (.int .i64 y)/\V.cell? ⟨b,o+i*4+2,none⟩=some (.slice r l x)/\V.cell? ⟨b,o+i*4+3,none⟩=some (.int .i64 q)/\V.cell? ⟨A,3,none⟩=some (.func (.func 138) #[.pointer (some ⟨g,0,none⟩)] #[])) (by kernel_rfl) (by kernel_rfl) ?_;have hHeld:(fun V:World=>V.cell? ⟨j,2,none⟩=some (.slice (some ⟨b,o,none⟩) n cap)/\V.cell? ⟨j,3,none⟩=some (.int .i64 d)/\V.cell? ⟨b,o+i*4,none⟩=some (.int .i64 u)/\V.cell? ⟨b,o+i*4+1,none⟩=some (.int .i64 y)/\V.cell? ⟨b,o+i*4+2,none⟩=some (.slice r l x)/\V.cell? ⟨b,o+i*4+3,none⟩=some (.int .i64 q)/\V.cell? ⟨A,3,none⟩=some (.func (.func 138) #[.pointer (some ⟨g,0,none⟩)] #[])) B.drew:=⟨G,E,F,D,H,C,L⟩
 refine GT.jV [0,1,2,3,4,5,6,7,8,9,10,11,12,13,14,15] hHeld (fun _ _ _ _ _ h=>h) (by kernel_rfl) ?_;iterate 11 (refine .c rfl rfl (fun V c=>by go_simp<;>with_reducible rfl) ?_;simp only[Act.put,zb,zd,ze])
 refine .c (v:= .int .i64 ((n:Int)-d)) rfl rfl (fun V c=>by go_simp<;>with_reducible rfl) ?_;try simp only[Act.put,zb,zd,ze];refine .c (v:= .bool false) rfl rfl (fun V c=>by go_simp<;>with_reducible rfl) ?_;try simp only[Act.put,zb,zd,ze];refine .c (v:= .bool false) rfl rfl (fun V c=>by go_simp<;>with_reducible rfl) ?_;try simp only[Act.put,zb,zd,ze];refine .c (v:= .pointer (some ⟨A,3,none⟩)) rfl rfl (fun V c=>by go_simp<;>with_reducible rfl) ?_;try simp only[Act.put,zb,zd,ze];refine .c (v:= .func (.func 138) #[.pointer (some ⟨g,0,none⟩)] #[]) rfl rfl (fun V c=>by go_simp<;>with_reducible rfl) ?_;try simp only[Act.put,zb,zd,ze];refine .nil ?_;refine GT.fP 16 (fun K z=> ?_) rfl (by kernel_rfl);go_simp;refine(SU.out B.drew X.out.drew).mono ?_;rintro e w2 ⟨rfl,nq,rfl⟩;go_wp2_with fail
 refine z.out _ _ ⟨G,E,F,D,H,C,L⟩ (fun hHeld=> ?_);clear z K;try simp only[Act.put,zb,zd,ze]
 refine GT.jV [17,18] hHeld (fun _ _ _ _ _ h=>h) (by kernel_rfl) ?_;refine .c (v:= .bool false) rfl rfl (fun V c=>by go_simp<;>with_reducible rfl) ?_;try simp only[Act.put,zb,zd,ze];refine .c (v:= .bool false) rfl rfl (fun V c=>by go_simp<;>with_reducible rfl) ?_;try simp only[Act.put,zb,zd,ze];refine .nil ?_;obtain⟨n0,n1,n2,n3,m0,m1,m2,m3⟩:=aS J.out;refine GT.fP 19 (fun K z=> ?_) rfl (by kernel_rfl);go_simp;refine z.out _ _ ⟨(cP (by simp;omega) _ _ _ _ _).trans G,(cP (by simp;omega) _ _ _ _ _).trans E,(cP (by simp;omega) _ _ _ _ _).trans F,(cP (by simp;omega) _ _ _ _ _).trans D,(cP (by simp;omega) _ _ _ _ _).trans H,(cP (by simp;omega) _ _ _ _ _).trans C,(cP (by simp;omega) _ _ _ _ _).trans L⟩ (fun hHeld=> ?_);clear z K;try simp only[Act.put,zb,zd,ze]
 refine GT.pt 20 ?_ rfl (by kernel_rfl);go_simp;go_wp2;have R:=(J.out.drewN (1+nq)).set 0 (.int .i64 u);have W:=R.set 1 (.int .i64 y);have Y:=W.set 2 (.slice r l x);have aa:=Y.set 3 (.int .i64 q);have N:=R.cell 0;have U:=W.cell 1;have O:=Y.cell 2;have S:=aa.cell 3;simp at N U O S;have M:Below w.heap.size w (((((B.drewN (1+nq)).setCell ⟨w.heap.size,0,none⟩ (.int .i64 u)).setCell ⟨w.heap.size,1,none⟩ (.int .i64 y)).setCell ⟨w.heap.size,2,none⟩ (.slice r l x)).setCell ⟨w.heap.size,3,none⟩ (.int .i64 q)):=(((((X.out.bs _).setCell (by simp) _).setCell (by simp) _).setCell (by simp) _).setCell (by simp) _)
 refine zj (v:= .tuple #[.agg #[.int .i64 u,.int .i64 y,.slice r l x,.int .i64 q],.bool false]) (by simp[results,results221,go_sem,N,U,O,S]) rfl ⟨rfl,M⟩
theorem Qr (f d:Nat)(hd:d<=8)(IH:Hid (∀(g:Nat) (s:ByteArray) (p L:Nat) (w:World),jH w g s p L->p<=s.size->s.size<=100000->L<=64->
 Calls prog 157 #[.pointer (some ⟨g,0,none⟩),.int .i64 ((d:Int)+1)] w fun e w'=>kz w g s f L p e w')) (g:Nat) (s:ByteArray) (p L:Nat) (w:World) (h:jH w g s p L) (hp:p<s.size) (R:s.size<=100000) (hL:0<L) (N4:L<=64) (hc:s[p].toNat=91):
 Calls prog 157 #[.pointer (some ⟨g,0,none⟩),.int .i64 d] w fun e w'=>kz w g s (f+1) L p e w':=by
 have Y:((s[p].toNat:Int)==117)=false:=zo.2 (by omega);have S:((s[p].toNat:Int)==98)=false:=zo.2 (by omega);have ed:IntKind.i64.wrap ((d:Int)+1)=(d:Int)+1:=zW _ (by omega);have Z:Hid (aL (f+1) (s.data.toList.drop p)=uR (aL f (s.data.toList.drop (p+1)))):=za (by rw[qz (c:=91) hp hc,Kc]);have U:=za (ti.start h);generalize hW:((w.alloc (.cells #[.pointer (some ⟨g,0,none⟩)] 203)).alloc (.cells #[.int .i64 0,.int .i64 0,.slice none 0 0,.int .i64 0] 43))=W at*;obtain⟨g0,g1,g2,f0,f1,f2,pC⟩:=U.out.rd.cells;have b0:W.cell? ⟨w.heap.size,0,none⟩=some (.pointer (some ⟨g,0,none⟩)):=U.out.box.cell 0;have tR:=U.out.glt;have d1:decide ((8:Int)<(d:Int))=false:=zv (by omega);have dL:((L:Int)==0)=false:=zo.2 (by omega);have dp:((p:Int)==(s.size:Int))=false:=zo.2 (by omega);have ew:IntKind.i64.wrap ((L:Int)-1)=(L:Int)-1:=zW _ (by omega);clear h;go_enter xO,xI
 go_wp2_with fail
 go_quiet (fail)
 obtain⟨nR,rfl⟩:∃nR,nR=nq:=⟨nq,rfl⟩
 go_wp2_with fail
 go_quiet (fail)
 have DF:=za (U.out.step ((L:Int)-1) ((p:Int)+1) nR nq (L':=L-1) (p':=p+1) (by omega) (by omega));have HI:=za (IH.out g s (p+1) (L-1) _ DF.out.rd (by omega) R (by omega));clear IH;go_wp2_with fail
 refine HI.out.mono ?_;rintro e H ⟨x,ok,q,l,k,z,M,A,n,cap,rfl,hr,ho,au,hn,ag⟩;have iG:=za (DF.out.dF ho hr);have Bj:=za hn;have ar:=za ag;have X1:=iG.out.siz;have hq:=hn.2.2;clear hr ho hn ag HI;have N:=za (iG.out.below (V':=H.alloc (.cells #[.int .i64 k,.int .i64 z,.slice A n cap,.int .i64 M] 43)) bT);obtain⟨n0,n1,n2,n3,m0,m1,m2,m3⟩:=aS N.out.res;have b2:(H.alloc (.cells #[.int .i64 k,.int .i64 z,.slice A n cap,.int .i64 M] 43)).cell? ⟨w.heap.size,0,none⟩=some (.pointer (some ⟨g,0,none⟩)):=N.out.box.cell 0;have Gt:w.heap.size+1<H.heap.size:=by omega
 cases ok with
 |false=>
  obtain⟨k0,k1,k2,k3,l0,l1,l2,l3⟩:=aS iG.out.res;have aw:¬H.heap.size=w.heap.size+1:=by omega
  go_wp2;obtain⟨E1,E2,r,F,B,E⟩:=iG.out.ends (.int .i64 0) (.int .i64 0) (.slice none 0 0) (.int .i64 0);refine zj (v:= .tuple #[.agg #[.int .i64 0,.int .i64 0,.slice none 0 0,.int .i64 0],.bool false]) (by simp[results,yx,go_sem,r,F,B,E,zA,Gt]) rfl ?_;exact⟨.mk 0 0 [] 0,false,q,l,_,_,_,_,_,_,rfl,af.alloc (show af _ g _ _ from E1) _,E2.alloc _,by omega,IQ hL Z.out Bj.out hq,(by intro h;cases h)⟩
 |true=>
  go_wp2_with fail
  by_cases VZ:∃hq:q<s.size,s[q].toNat=58
  ·obtain⟨Bl,SV⟩:=VZ;refine(fp g s q l 58 _ N.out.rd Bl R SV).mono ?_;rintro e w2 ⟨rfl,jd,cW⟩;have uz:=za (N.out.dF cW jd);have aj:=za (oc g w.heap.size s (q+1) l 1024 4 _ uz.out.rd uz.out.box (by omega) R (by omega));clear n0 n1 n2 n3 m0 m1 m2 m3 b2;go_wp2_with fail
   refine aj.out.mono ?_;rintro e w3 ⟨b,al,o,rfl,tP,lH,ah⟩;have Bk:=za (uz.out.dF lH tP);have I:=za ah;have HT:=za (((af.new H 43 #[.int .i64 k,.int .i64 z,.slice A n cap,.int .i64 M]).only cW (by simp;omega)).only lH (by simp;omega));have av:H.heap.size<w3.heap.size:=HT.out.lt;obtain⟨t0,t1,t2,t3,_,_,_,_⟩:=aS HT.out;have an:=za (HT.out.alloc (.cells #[.int .i64 4,.int .i64 b,.slice none 0 0,.int .i64 0] 43));obtain⟨u0,u1,u2,u3,_,_,_,_⟩:=aS an.out;have ak:Hid (fK w3 (w.heap.size+2<= ·) x (.int .i64 k) (.int .i64 z) (.slice A n cap) (.int .i64 M)):=za ((ar.out (by first|rfl|trivial)).only ((((ae.refl [g] H).alloc _).trans cW).trans lH) (by simp[World.setCell]<;>(have:=U.out.siz;omega)) (fun k _ hk=>by simp[World.setCell]at hk;have:=U.out.siz;omega));obtain⟨i,O⟩:∃i,((w3.alloc (.cells #[.int .i64 4,.int .i64 b,.slice (some ⟨w3.heap.size+1,0,none⟩) 1 1,.int .i64 0] 43)).alloc (.cells #[.int .i64 k,.int .i64 z,.slice A n cap,.int .i64 M] 43))=i:=⟨_,rfl⟩
   have RG:Hid (af i w3.heap.size 43 #[.int .i64 4,.int .i64 b,.slice (some ⟨w3.heap.size+1,0,none⟩) 1 1,.int .i64 0]):=za (by rw[<-O];exact(af.new w3 _ _).alloc _);have JM:Hid (af i (w3.heap.size+1) 43 #[.int .i64 k,.int .i64 z,.slice A n cap,.int .i64 M]):=za (by rw[<-O];exact af.at_ (by simp));have C:Hid (ti w g s o l i):=za (by rw[<-O];exact Bk.out.below bT);have ao:Hid (b<=1024->fK i (w.heap.size+2<= ·) (.mk 4 b [x] 0) (.int .i64 4) (.int .i64 b) (.slice (some ⟨w3.heap.size+1,0,none⟩) 1 1) (.int .i64 0)):=za (by
    intro SS;obtain⟨x0,x1,x2,x3,_⟩:=aS JM.out;refine⟨rfl,rfl,rfl,aC (by omega) (by omega),aC (by omega) (by omega),aC (by omega) (by omega),by simp,_,_,rfl,by simp,by simp,⟨_,_,_,_,_,_,rfl, ?_,x0,x1,x2,x3, ?_⟩,trivial⟩
    ·show w.heap.size+2<=w3.heap.size+1
     omega
    exact ak.out.below (by rw[<-O];exact bT))
   have X:Hid (∀V,af V w3.heap.size 43 #[.int .i64 4,.int .i64 b,.slice (some ⟨w3.heap.size+1,0,none⟩) 1 1,.int .i64 0]->af V w.heap.size 203 #[.pointer (some ⟨g,0,none⟩)]->V.cell? ⟨w3.heap.size,0,none⟩=some (.int .i64 4)/\V.cell? ⟨w3.heap.size,1,none⟩=some (.int .i64 b)/\V.cell? ⟨w3.heap.size,2,none⟩=some (.slice (some ⟨w3.heap.size+1,0,none⟩) 1 1)/\V.cell? ⟨w3.heap.size,3,none⟩=some (.int .i64 0)/\V.cell? ⟨w.heap.size,0,none⟩=some (.pointer (some ⟨g,0,none⟩))):=za (fun V G D=>by
    obtain⟨a0,a1,a2,a3,_⟩:=aS G;exact⟨a0,a1,a2,a3,D.cell 0⟩)
   have aq:=za O;clear ah tP lH jd cW aj O;go_wp2_with fail
   rw[aq.out];clear t0 t1 t2 t3 u0 u1 u2 u3;have hHeld:=X.out i.drew RG.out.drew C.out.box.drew;cases al with
   |false=>
    refine aD 7 (fun V=>V.cell? ⟨w3.heap.size,0,none⟩=some (.int .i64 4)/\V.cell? ⟨w3.heap.size,1,none⟩=some (.int .i64 b)/\V.cell? ⟨w3.heap.size,2,none⟩=some (.slice (some ⟨w3.heap.size+1,0,none⟩) 1 1)/\V.cell? ⟨w3.heap.size,3,none⟩=some (.int .i64 0)/\V.cell? ⟨w.heap.size,0,none⟩=some (.pointer (some ⟨g,0,none⟩))) (by kernel_rfl) (by kernel_rfl) ?_;refine GT.jV [0,1,2,3,4,5] hHeld (fun _ _ _ _ _ h=>h) (by kernel_rfl) ?_;iterate 3 (refine .c rfl rfl (fun V hV=>by go_simp<;>with_reducible rfl) ?_;simp only[Act.put,zb,zd,ze])
    refine .u rfl rfl ?_;try simp only[Act.put,zb,zd,ze];refine .u rfl rfl ?_;try simp only[Act.put,zb,zd,ze];refine .c rfl rfl (fun V hV=>by go_simp<;>with_reducible rfl) ?_;simp only[Act.put,zb,zd,ze];refine .nil ?_;obtain⟨n0,n1,n2,n3,m0,m1,m2,m3⟩:=aS C.out.res;refine GT.fP 6 (fun K j=> ?_) rfl (by kernel_rfl);go_simp;have J:ae [w.heap.size+1] i ((((i.setCell ⟨w.heap.size+1,0,none⟩ (.int .i64 4)).setCell ⟨w.heap.size+1,1,none⟩ (.int .i64 b)).setCell ⟨w.heap.size+1,2,none⟩ (.slice (some ⟨w3.heap.size+1,0,none⟩) 1 1)).setCell ⟨w.heap.size+1,3,none⟩ (.int .i64 0)):=((((ae.refl _ _).setCell (by simp) _).setCell (by simp) _).setCell (by simp) _).setCell (by simp) _;refine j.out _ _ (X.out _ (RG.out.only J (by simp;omega)).drew (C.out.box.only J (by simp)).drew) (fun hHeld=> ?_);clear j K;try simp only[Act.put,zb,zd,ze]
    refine GT.pt 7 ?_ rfl (by kernel_rfl);go_simp;obtain⟨Y,S,r,F,B,E⟩:=C.out.ends (.int .i64 4) (.int .i64 b) (.slice (some ⟨w3.heap.size+1,0,none⟩) 1 1) (.int .i64 0);go_wp2;refine zj (v:= .tuple #[.agg #[.int .i64 4,.int .i64 b,.slice (some ⟨w3.heap.size+1,0,none⟩) 1 1,.int .i64 0],.bool false]) (by simp[results,yx,go_sem,r,F,B,E]) rfl ?_;exact⟨.mk 0 0 [] 0,false,o,l,_,_,_,_,_,_,rfl,af.drew (show af _ g _ _ from Y),S.drew,by omega,po Z.out Bj.out (Qk x Bl SV I.out L) I.out.2.2.1,(by intro h;cases h)⟩
   |true=>
    by_cases qN:∃RH:o<s.size,s[o].toNat=93
    ·obtain⟨RH,V0⟩:=qN;have ad:=za (fp g s o l 93 _ (af.drew (show af i g _ _ from C.out.rd)) RH R V0);refine aD 7 (fun V=>V.cell? ⟨w3.heap.size,0,none⟩=some (.int .i64 4)/\V.cell? ⟨w3.heap.size,1,none⟩=some (.int .i64 b)/\V.cell? ⟨w3.heap.size,2,none⟩=some (.slice (some ⟨w3.heap.size+1,0,none⟩) 1 1)/\V.cell? ⟨w3.heap.size,3,none⟩=some (.int .i64 0)/\V.cell? ⟨w.heap.size,0,none⟩=some (.pointer (some ⟨g,0,none⟩))) (by kernel_rfl) (by kernel_rfl) ?_;refine GT.jV [0,1,2,3] hHeld (fun _ _ _ _ _ h=>h) (by kernel_rfl) ?_;repeat(refine .c rfl rfl (fun V hV=>by go_simp<;>with_reducible rfl) ?_;simp only[Act.put,zb,zd,ze])
     refine .nil ?_;refine GT.fP 4 (fun K j=> ?_) rfl (by kernel_rfl);go_simp;refine ad.out.mono ?_;rintro e m ⟨rfl,aa,ai⟩;have y:ae [g] i m:=(ae.refl [g] i).drew.trans ai;clear ai;have u:=za (C.out.dF y aa);have Yu:=za y;have Ox:=za (RG.out.only y (by simp;omega));clear hHeld aa y;go_wp2_with fail
     refine j.out _ _ (X.out m Ox.out u.out.box) (fun hHeld=> ?_);clear j K;try simp only[Act.put,zb,zd,ze]
     refine GT.jV [5] hHeld (fun _ _ _ _ _ h=>h) (by kernel_rfl) ?_;refine .c rfl rfl (fun V hV=>by go_simp<;>with_reducible rfl) ?_;simp only[Act.put,zb,zd,ze];refine .nil ?_;obtain⟨n0,n1,n2,n3,m0,m1,m2,m3⟩:=aS u.out.res;refine GT.fP 6 (fun K j=> ?_) rfl (by kernel_rfl);go_simp;have J:ae [w.heap.size+1] m ((((m.setCell ⟨w.heap.size+1,0,none⟩ (.int .i64 4)).setCell ⟨w.heap.size+1,1,none⟩ (.int .i64 b)).setCell ⟨w.heap.size+1,2,none⟩ (.slice (some ⟨w3.heap.size+1,0,none⟩) 1 1)).setCell ⟨w.heap.size+1,3,none⟩ (.int .i64 0)):=((((ae.refl _ _).setCell (by simp) _).setCell (by simp) _).setCell (by simp) _).setCell (by simp) _;refine j.out _ _ (X.out _ (Ox.out.only J (by simp;omega)) (u.out.box.only J (by simp))) (fun hHeld=> ?_);clear j K;try simp only[Act.put,zb,zd,ze]
     refine GT.pt 7 ?_ rfl (by kernel_rfl);go_simp;obtain⟨Y,S,r,F,B,E⟩:=u.out.ends (.int .i64 4) (.int .i64 b) (.slice (some ⟨w3.heap.size+1,0,none⟩) 1 1) (.int .i64 0);go_wp2;refine zj (v:= .tuple #[.agg #[.int .i64 4,.int .i64 b,.slice (some ⟨w3.heap.size+1,0,none⟩) 1 1,.int .i64 0],.bool true]) (by simp[results,yx,go_sem,r,F,B,E]) rfl ?_;exact⟨.mk 4 b [x] 0,true,o+1,l,_,_,_,_,_,_,rfl,Y,S,by omega,IS hL Z.out Bj.out (Ql x Bl SV I.out RH V0) (by have:=(I.out.1 rfl).2.2;omega) (by omega),fun _=>((ao.out I.out.2.2.2).only Yu.out (by simp;omega) (fun _ _ h=>h)).only (L:= [w.heap.size+1]) (((((ae.refl _ m).setCell (by simp) _).setCell (by simp) _).setCell (by simp) _).setCell (by simp) _) (by simp) (fun _ _ h=>by omega)⟩
    have ad:=za (gH g s o l 93 _ (af.drew (show af i g _ _ from C.out.rd)) I.out.2.2.1 R (fun G D=>qN ⟨G,D⟩));refine aD 7 (fun V=>V.cell? ⟨w3.heap.size,0,none⟩=some (.int .i64 4)/\V.cell? ⟨w3.heap.size,1,none⟩=some (.int .i64 b)/\V.cell? ⟨w3.heap.size,2,none⟩=some (.slice (some ⟨w3.heap.size+1,0,none⟩) 1 1)/\V.cell? ⟨w3.heap.size,3,none⟩=some (.int .i64 0)/\V.cell? ⟨w.heap.size,0,none⟩=some (.pointer (some ⟨g,0,none⟩))) (by kernel_rfl) (by kernel_rfl) ?_;refine GT.jV [0,1,2,3] hHeld (fun _ _ _ _ _ h=>h) (by kernel_rfl) ?_;repeat(refine .c rfl rfl (fun V hV=>by go_simp<;>with_reducible rfl) ?_;simp only[Act.put,zb,zd,ze])
    refine .nil ?_;refine GT.fP 4 (fun K j=> ?_) rfl (by kernel_rfl);go_simp;refine ad.out.mono ?_;rintro e m ⟨rfl,n6,ab⟩;have aa:jH m g s o l:=by rw[ab];exact C.out.rd
    have y:ae [g] i m:=by rw[ab];exact(ae.refl [g] i).drew.drewN _
    clear ab;have u:=za (C.out.dF y aa);have Yu:=za y;have Ox:=za (RG.out.only y (by simp;omega));clear hHeld aa y;go_wp2_with fail
    refine j.out _ _ (X.out m Ox.out u.out.box) (fun hHeld=> ?_);clear j K;try simp only[Act.put,zb,zd,ze]
    refine GT.jV [5] hHeld (fun _ _ _ _ _ h=>h) (by kernel_rfl) ?_;refine .c rfl rfl (fun V hV=>by go_simp<;>with_reducible rfl) ?_;simp only[Act.put,zb,zd,ze];refine .nil ?_;obtain⟨n0,n1,n2,n3,m0,m1,m2,m3⟩:=aS u.out.res;refine GT.fP 6 (fun K j=> ?_) rfl (by kernel_rfl);go_simp;have J:ae [w.heap.size+1] m ((((m.setCell ⟨w.heap.size+1,0,none⟩ (.int .i64 4)).setCell ⟨w.heap.size+1,1,none⟩ (.int .i64 b)).setCell ⟨w.heap.size+1,2,none⟩ (.slice (some ⟨w3.heap.size+1,0,none⟩) 1 1)).setCell ⟨w.heap.size+1,3,none⟩ (.int .i64 0)):=((((ae.refl _ _).setCell (by simp) _).setCell (by simp) _).setCell (by simp) _).setCell (by simp) _;refine j.out _ _ (X.out _ (Ox.out.only J (by simp;omega)) (u.out.box.only J (by simp))) (fun hHeld=> ?_);clear j K;try simp only[Act.put,zb,zd,ze]
    refine GT.pt 7 ?_ rfl (by kernel_rfl);go_simp;obtain⟨Y,S,r,F,B,E⟩:=u.out.ends (.int .i64 4) (.int .i64 b) (.slice (some ⟨w3.heap.size+1,0,none⟩) 1 1) (.int .i64 0);go_wp2;refine zj (v:= .tuple #[.agg #[.int .i64 4,.int .i64 b,.slice (some ⟨w3.heap.size+1,0,none⟩) 1 1,.int .i64 0],.bool false]) (by simp[results,yx,go_sem,r,F,B,E]) rfl ?_;exact⟨.mk 0 0 [] 0,false,o,l,_,_,_,_,_,_,rfl,Y,S,by omega,po Z.out Bj.out (M7 x Bl SV I.out (fun G D=>qN ⟨G,D⟩) L) I.out.2.2.1,(by intro h;cases h)⟩
  refine(gH g s q l 58 _ N.out.rd hq R (fun G D=>VZ ⟨G,D⟩)).mono ?_;rintro e w2 ⟨rfl,n5,rfl⟩;go_wp2;obtain⟨E1,E2,r,F,B,E⟩:=(N.out.below (V':=(H.alloc (.cells #[.int .i64 k,.int .i64 z,.slice A n cap,.int .i64 M] 43)).drewN n5) bT).ends (.int .i64 0) (.int .i64 0) (.slice none 0 0) (.int .i64 0);refine zj (v:= .tuple #[.agg #[.int .i64 0,.int .i64 0,.slice none 0 0,.int .i64 0],.bool false]) (by simp[results,yx,go_sem,r,F,B,E]) rfl ?_;exact⟨.mk 0 0 [] 0,false,q,l,_,_,_,_,_,_,rfl,E1,E2,by omega,po Z.out Bj.out (Qj x (fun G D=>VZ ⟨G,D⟩) L) hq,(by intro h;cases h)⟩
def abT (w:World)(g:Nat)(s:ByteArray)(L:Nat)(R:Option (Ty×List UInt8))(e:Ending)(w':World):Prop:=
 ∃(t:Ty) (ok:Bool) (q L':Nat) (k z ta:Int) (A:Option Addr) (n cap:Nat),e= .returned (.tuple #[.agg #[.int .i64 k,.int .i64 z,.slice A n cap,.int .i64 ta],.bool ok])/\jH w' g s q L'/\ae [g] w w'/\L'<=L/\O9 (1+L) s R t ok q L'/\(ok=true->fK w' (w.heap.size<= ·) t (.int .i64 k) (.int .i64 z) (.slice A n cap) (.int .i64 ta))
structure pw (w:World)(g:Nat)(s:ByteArray)(p L:Nat)(acc:List Ty)(tl:Nat)(v:Value)(V:World):Prop where
 res:af V w.heap.size 43 #[.int .i64 0,.int .i64 0,.slice none 0 0,.int .i64 0]
 bx:af V (w.heap.size+1) 43 #[.int .i64 5,.int .i64 0,v,.int .i64 tl]
 acc:eP V (w.heap.size+2) acc v
 rd:jH V g s p L
 only:ae [g] w V
 siz:w.heap.size+2<=V.heap.size
 glt:g<w.heap.size
theorem pw.start (h:jH w g s p L):pw w g s p L [] 0 (.slice none 0 0) ((w.alloc (.cells #[.int .i64 0,.int .i64 0,.slice none 0 0,.int .i64 0] 43)).alloc (.cells #[.int .i64 5,.int .i64 0,.slice none 0 0,.int .i64 0] 43)) where
 res:=(af.new w _ _).alloc _
 bx:=af.at_ (by simp)
 acc:=eP.nil _ _
 rd:=(af.alloc (show af w g _ _ from h) _).alloc _
 only:=((ae.refl _ w).alloc _).alloc _
 siz:=by simp
 glt:=af.lt (show af w g _ _ from h)
theorem pw.dF {p' L' c:Nat}(h:pw w g s p L acc c v V)(b:ae [g] V V')(d:jH V' g s p' L'):pw w g s p' L' acc c v V' where
 res:=h.res.only b (by have:=h.glt;simp;omega)
 bx:=h.bx.only b (by have:=h.glt;simp;omega)
 acc:=h.acc.only b (by have:=h.glt;simp;omega)
 rd:=d
 only:=h.only.trans b
 siz:=zF h.siz b.size
 glt:=h.glt
theorem pw.below {b:Nat}(h:pw w g s p L acc b v V)(c:Below V.heap.size V V'):pw w g s p L acc b v V':=h.dF ((ae.ah c (zg _)).mono (by simp)) ((c.block _ (af.lt (show af V g _ _ from h.rd))).trans h.rd)
theorem pw.mark {b:Nat}(h:pw w g s p L acc b v V){n:Int}(c:n=(b+1:Nat)):pw w g s p L acc (b+1) v (V.setCell ⟨w.heap.size+1,3,none⟩ (.int .i64 n)) where
 res:=h.res.dN (by simp) _
 bx:=by subst c;exact h.bx.store rfl
 acc:=h.acc.only ((ae.refl [w.heap.size+1] V).setCell (by simp) _) (by simp)
 rd:=af.dN (show af V g _ _ from h.rd) (by have:=h.glt;simp;omega) _
 only:=h.only.setCell (by simp) _
 siz:=by simp[World.setCell];exact h.siz
 glt:=h.glt
theorem pw.more {i:List Ty}{c:Value}(h:pw w g s p L acc j v V)(b:V.grownBy V' v.ownBlock)(m:eP V' (w.heap.size+2) i c):pw w g s p L i j c (V'.setCell ⟨w.heap.size+1,2,none⟩ c):=
 have d:∀k,k<w.heap.size+2->v.ownBlock≠some k:=fun k l e=>by have:=(h.acc.ge k e).1;omega
 ⟨(h.res.grown b (d _ (by omega))).dN (by simp) _,
  (h.bx.grown b (d _ (by omega))).store rfl,
  m.only ((ae.refl [w.heap.size+1] V').setCell (by simp) _) (by simp),
  (af.grown (show af V g _ _ from h.rd) b (d _ (by have:=h.glt;omega))).dN (by have:=h.glt;simp;omega) _,
  (h.only.grown b (fun k l=> .inr (by have:=(h.acc.ge k l).1;omega))).setCell (by simp) _,
  (by simp[World.setCell];exact zF h.siz b.size),
  h.glt⟩
theorem pw.ends (h:pw w g s p L acc i v V)(b c d e:Value):
 jH ((((V.setCell ⟨w.heap.size,0,none⟩ b).setCell ⟨w.heap.size,1,none⟩ c).setCell ⟨w.heap.size,2,none⟩ d).setCell ⟨w.heap.size,3,none⟩ e) g s p L/\ae [g] w ((((V.setCell ⟨w.heap.size,0,none⟩ b).setCell ⟨w.heap.size,1,none⟩ c).setCell ⟨w.heap.size,2,none⟩ d).setCell ⟨w.heap.size,3,none⟩ e)/\
 (V.setCell ⟨w.heap.size,0,none⟩ b).cell? ⟨w.heap.size,0,none⟩=some b/\((V.setCell ⟨w.heap.size,0,none⟩ b).setCell ⟨w.heap.size,1,none⟩ c).cell? ⟨w.heap.size,1,none⟩=some c/\(((V.setCell ⟨w.heap.size,0,none⟩ b).setCell ⟨w.heap.size,1,none⟩ c).setCell ⟨w.heap.size,2,none⟩ d).cell? ⟨w.heap.size,2,none⟩=some d/\((((V.setCell ⟨w.heap.size,0,none⟩ b).setCell ⟨w.heap.size,1,none⟩ c).setCell ⟨w.heap.size,2,none⟩ d).setCell ⟨w.heap.size,3,none⟩ e).cell? ⟨w.heap.size,3,none⟩=some e:=
 have n1:g≠w.heap.size:=by have:=h.glt;omega
 ⟨(((af.dN (show af V g _ _ from h.rd) (p:=⟨w.heap.size,0,none⟩) n1 _).dN (p:=⟨w.heap.size,1,none⟩) n1 _).dN (p:=⟨w.heap.size,2,none⟩) n1 _).dN (p:=⟨w.heap.size,3,none⟩) n1 _,(((h.only.setCell (by simp) _).setCell (by simp) _).setCell (by simp) _).setCell (by simp) _,by have:=(h.res.set 0 b).cell 0;simpa using this,by have:=((h.res.set 0 b).set 1 c).cell 1;simpa using this,by have:=(((h.res.set 0 b).set 1 c).set 2 d).cell 2;simpa using this,by have:=((((h.res.set 0 b).set 1 c).set 2 d).set 3 e).cell 3;simpa using this⟩
theorem pw.ty {b:Nat}(h:pw w g s p L acc b v V)(m:acc.length<=200000)(n:b<=200000)(c d e i:Value):fK ((((V.setCell ⟨w.heap.size,0,none⟩ c).setCell ⟨w.heap.size,1,none⟩ d).setCell ⟨w.heap.size,2,none⟩ e).setCell ⟨w.heap.size,3,none⟩ i) (w.heap.size<= ·) (.mk 5 0 acc b) (.int .i64 5) (.int .i64 0) v (.int .i64 b):=by
 have l:eP _ (w.heap.size+2) acc v:=h.acc.only (L:= [w.heap.size]) (w':=(((V.setCell ⟨w.heap.size,0,none⟩ c).setCell ⟨w.heap.size,1,none⟩ d).setCell ⟨w.heap.size,2,none⟩ e).setCell ⟨w.heap.size,3,none⟩ i) (((((ae.refl _ _).setCell (by simp) _).setCell (by simp) _).setCell (by simp) _).setCell (by simp) _) (by simp);refine fK.iz (l.ty (by omega) (aC (by omega) (by omega)) (aC (by omega) (by omega)) (aC (by omega) (by omega))) fun k _ j=> ?_
 have j:w.heap.size+2<=k:=j;show w.heap.size<=k
 omega
theorem IV (f d:Nat)(hd:d<=8)(IH:Hid (∀(g:Nat) (s:ByteArray) (p L:Nat) (w:World),jH w g s p L->p<=s.size->s.size<=100000->L<=64->
 Calls prog 157 #[.pointer (some ⟨g,0,none⟩),.int .i64 ((d:Int)+1)] w fun e w'=>kz w g s f L p e w')) (g:Nat) (s:ByteArray) (p L:Nat) (ae:Option (Ty×List UInt8)) (w:World) (h:jH w g s p L) (hT:Hid (eU f s ae p [] 0)) (hp:p<=s.size) (Z:s.size<=100000) (N4:L<=64):
 Calls prog 188 #[.pointer (some ⟨g,0,none⟩),.int .i64 d] w fun e w'=>abT w g s L ae e w':=by
 have ed:IntKind.i64.wrap ((d:Int)+1)=(d:Int)+1:=zW _ (by omega);have cw:=za (pw.start h);clear h;go_enter func188,ntmps188
 go_wp2_with fail
 by_cases VZ:∃hq:p<s.size,s[p].toNat=125
 ·obtain⟨Bl,F⟩:=VZ;refine(fp g s p L 125 _ cw.out.rd Bl Z F).mono ?_;rintro e w1 ⟨rfl,an,ao⟩;have iG:=za (cw.out.dF ao an);clear an ao;obtain⟨Y,G,X,O,H,W,M,J⟩:=aS iG.out.res;obtain⟨E,m,B,x,u,z,r,D⟩:=aS iG.out.bx;go_wp2;obtain⟨R,I,K,U,N,S⟩:=iG.out.ends (.int .i64 5) (.int .i64 0) (.slice none 0 0) (.int .i64 0);refine zj (v:= .tuple #[.agg #[.int .i64 5,.int .i64 0,(.slice none 0 0),.int .i64 0],.bool true]) (by simp[results,xD,go_sem,K,U,N,S]) rfl ?_;exact⟨.mk 5 0 [] 0,true,p+1,L,_,_,_,_,_,_,rfl,R,I,zg _,IU (hT.out.ends Bl F) (by simp[ba]) (by omega),fun _=>iG.out.ty (by simp) (by omega) _ _ _ _⟩
 have DI:=za (IT hT.out (fun j i=>VZ ⟨j,i⟩));refine(gH g s p L 125 _ cw.out.rd hp Z (fun j i=>VZ ⟨j,i⟩)).mono ?_;rintro e w1 ⟨rfl,n1,mO⟩;have iG:Hid (pw w g s p L [] 0 (.slice none 0 0) w1):=za (by rw[mO];exact cw.out.below bT);clear mO VZ;go_wp2_with fail
 go_loopw [7] (fun _ wr=>∃(q Lc:Nat) (acc:List Ty) (l:Nat) (vv:Value),q<=s.size/\Hid (rJ f s ae q acc l)/\Hid (Lc+ba acc=L)/\Lc<=L/\acc.length<=q/\l<=q/\Hid (pw w g s q Lc acc l vv wr)) (fun _ wr=>s.size-P7 (wr.cell? ⟨g,1,none⟩))
 case atStart=>exact⟨p,L,[],0,_,hp,DI,za (by simp[ba]),zg _,by simp,by omega,iG⟩
 case round=>
  clear cw iG DI;obtain⟨q,Lc,acc,l,vv,hq,DI,Am,aE,Bm,Ba,HW⟩:=hrel;obtain⟨c0,c1,c2,ay,aA,ax,qN⟩:=HW.out.rd.cells;obtain⟨A2,n2,cC,rfl,Lm,aI,aD⟩:=HW.out.acc.cF;obtain⟨Y,G,X,O,H,W,M,J⟩:=aS HW.out.res;obtain⟨E,m,B,x,u,z,r,D⟩:=aS HW.out.bx;clear c0 c2 ay aA ax;by_cases DG:∃hq:q<s.size,s[q].toNat=63
  ·obtain⟨Bl,DG⟩:=DG;have aF:IntKind.i64.wrap ((l:Int)+1)=(l:Int)+1:=zW _ (by omega);clear Y G X O H W M J E m B x u z r D;go_wp2_with fail
   refine(fp g s q Lc 63 _ HW.out.rd Bl Z DG).mono ?_;rintro e w2 ⟨rfl,jd,cW⟩;have su:=za (HW.out.dF cW jd);clear jd cW;obtain⟨Y,G,X,O,H,W,M,J⟩:=aS su.out.res;obtain⟨E,m,B,x,u,z,r,D⟩:=aS su.out.bx;obtain⟨W3,kE⟩:∃W3,w2.setCell ⟨w.heap.size+1,3,none⟩ (.int .i64 ((l:Int)+1))=W3:=⟨_,rfl⟩
   obtain⟨T,al⟩:∃T,l+1=T:=⟨_,rfl⟩
   have uz:Hid (pw w g s (q+1) Lc acc T (.slice A2 n2 cC) W3):=za (by rw[<-kE,<-al];exact su.out.mark (by omega));have qT:Hid (O6 f s ae (q+1) acc T):=za (by rw[<-al];exact DI.out.mark Bl DG);have aw:=za kE;have hQ:q+1<=s.size:=by omega
   have aH:T<=q+1:=by omega
   clear kE al;go_wp2_with fail
   rw[aw.out];refine(IH.out g s ((q+1)) Lc W3 uz.out.rd hQ Z (by omega)).mono ?_;rintro e w4 ⟨y,ok,b,c,k,ah,ta,A,n,cap,rfl,hr,ho,aB,hn,ot⟩;have Bk:=za (uz.out.dF ho hr);have Bj:=za hn;have ai:=za ot;have RH:=hn.2.2;have av:=uz.out.siz;have aC:=Bk.out.siz;have Yw:w.heap.size<w4.heap.size:=by omega
   have au:w.heap.size+1<w4.heap.size:=by omega
   clear hr ho hn ot Y G X O H W M J E m B x u z r D;obtain⟨Y,G,X,O,H,W,M,J⟩:=aS Bk.out.res;obtain⟨E,m,B,x,u,z,r,D⟩:=aS Bk.out.bx;cases ok with
   |false=>
    go_wp2;obtain⟨R,I,K,U,N,S⟩:=Bk.out.ends (.int .i64 0) (.int .i64 0) (.slice none 0 0) (.int .i64 0);refine zj (v:= .tuple #[.agg #[.int .i64 0,.int .i64 0,.slice none 0 0,.int .i64 0],.bool false]) (by simp[results,xD,go_sem,K,U,N,S,zA,Yw]) rfl ?_;exact⟨.mk 0 0 [] 0,false,b,c,_,_,_,_,_,_,rfl,af.alloc (show af _ g _ _ from R) _,I.alloc _,by omega,Qm _ qT.out Bj.out Am.out,(by intro h;cases h)⟩
   |true=>
    have Yv:=za (KK qT.out hQ Bj.out);obtain⟨_,Ou,az⟩:=Bj.out.1 rfl;have Lv:Hid (c+ba (acc++ [y])=L):=za (by rw[tj];have:=Am.out;omega);have rr:Hid (∀o o',pw w g s b c acc (T) (.slice A2 n2 cC) ((w4.alloc o).alloc o')):=za (fun o o'=>Bk.out.below bT);have HY:Hid (∀o o',fK ((w4.alloc o).alloc o') (fun k=>w.heap.size+2<=k/\(Value.slice A2 n2 cC).ownBlock≠some k) y (.int .i64 k) (.int .i64 ah) (.slice A n cap) (.int .i64 ta)):=za (fun o o'=>((ai.out (by first|rfl|trivial)).iz (fun k _ hk=>⟨by have hk:W3.heap.size<=k:=hk;omega,fun e=>by have:=(uz.out.acc.ge k e).2;have hk:W3.heap.size<=k:=hk;omega⟩)).below bT);have ak:acc.length<=1000000:=by omega
    clear Ou;go_wp2_with (at_builtin;refine cA (by rfl) (.tmp 34) (.tmp 36) (by rfl) (w.heap.size+2) acc (by rfl) (rr.out _ _).acc y (HY.out _ _) _ (by rfl) (by simp) (by simp) (by simp) (by simp) ak (by simp only[zq];omega) ?_)
    intro g' n' aq w6 Rq Gv fu ar;have RI:=af.grown (rr.out _ _).bx fu (fun e=>by have:=((rr.out (.cells #[] 0) (.cells #[] 0)).acc.ge _ e).1;omega);clear Y G X O H W M J E m B x u z r D;obtain⟨E,m,B,x,u,z,r,D⟩:=aS RI;obtain⟨W7,ru⟩:∃W7,w6.setCell ⟨w.heap.size+1,2,none⟩ (.slice (some ⟨g',0,none⟩) n' aq)=W7:=⟨_,rfl⟩
    have Gu:Hid (pw w g s b c (acc++ [y]) (T) (.slice (some ⟨g',0,none⟩) n' aq) W7):=za (by rw[<-ru];exact(rr.out _ _).more fu Gv);have aj:=za ru;clear ru RI fu Gv;go_wp2_with fail
    rw[aj.out];clear E m B x u z r D;by_cases F:∃hq:b<s.size,s[b].toNat=125
    ·obtain⟨wV,F⟩:=F;refine(fp g s b c 125 _ Gu.out.rd wV Z F).mono ?_;rintro e w8 ⟨rfl,ag,Oy⟩;have C:=za (Gu.out.dF Oy ag);clear ag Oy;obtain⟨Y,G,X,O,H,W,M,J⟩:=aS C.out.res;obtain⟨E,m,B,x,u,z,r,D⟩:=aS C.out.bx;go_wp2;obtain⟨R,I,K,U,N,S⟩:=C.out.ends (.int .i64 5) (.int .i64 0) (.slice (some ⟨g',0,none⟩) n' aq) (.int .i64 ((T:Nat):Int));refine zj (v:= .tuple #[.agg #[.int .i64 5,.int .i64 0,(.slice (some ⟨g',0,none⟩) n' aq),.int .i64 ((T:Nat):Int)],.bool true]) (by simp[results,xD,go_sem,K,U,N,S]) rfl ?_;exact⟨.mk 5 0 (acc++ [y]) ((T:Nat):Int),true,b+1,c,_,_,_,_,_,_,rfl,R,I,by omega,IU (Yv.out.ends wV F) Lv.out (by omega),fun _=>C.out.ty (by simp;omega) (by omega) _ _ _ _⟩
    refine(gH g s b c 125 _ Gu.out.rd RH Z (fun j i=>F ⟨j,i⟩)).mono ?_;rintro e w8 ⟨rfl,n8,ab⟩;have C:Hid (pw w g s b c (acc++ [y]) (T) (.slice (some ⟨g',0,none⟩) n' aq) w8):=za (by rw[ab];exact Gu.out.below bT);clear ab;go_wp2_with fail
    by_cases tN:∃hq:b<s.size,s[b].toNat=44
    ·obtain⟨wV,tN⟩:=tN;refine(fp g s b c 44 _ C.out.rd wV Z tN).mono ?_;rintro e w9 ⟨rfl,ad,ry⟩;have N5:=za (C.out.dF ry ad);have c9:=N5.out.rd.cells.2.1;clear ad ry;go_wp2;go_roundw
     case rel=>exact⟨b+1,c,acc++ [y],T,_,by omega,za (Yv.out.more wV tN (by simp)),Lv,by omega,by simp;omega,by omega,N5⟩
     case measure=>
      rw[c1,c9];simp only[P7];omega
    refine(gH g s b c 44 _ C.out.rd RH Z (fun j i=>tN ⟨j,i⟩)).mono ?_;rintro e w9 ⟨rfl,n9,aa⟩;have N5:Hid (pw w g s b c (acc++ [y]) (T) (.slice (some ⟨g',0,none⟩) n' aq) w9):=za (by rw[aa];exact C.out.below bT);clear aa;obtain⟨Y,G,X,O,H,W,M,J⟩:=aS N5.out.res;obtain⟨E,m,B,x,u,z,r,D⟩:=aS N5.out.bx;go_wp2;obtain⟨R,I,K,U,N,S⟩:=N5.out.ends (.int .i64 0) (.int .i64 0) (.slice none 0 0) (.int .i64 0);refine zj (v:= .tuple #[.agg #[.int .i64 0,.int .i64 0,.slice none 0 0,.int .i64 0],.bool false]) (by simp[results,xD,go_sem,K,U,N,S]) rfl ?_;exact⟨.mk 0 0 [] 0,false,b,c,_,_,_,_,_,_,rfl,R,I,by omega,Db _ (Cf Yv.out (by simp) (fun j i=>F ⟨j,i⟩) (fun j i=>tN ⟨j,i⟩)) RH,(by intro h;cases h)⟩
  go_wp2_with fail
  refine(gH g s q Lc 63 _ HW.out.rd hq Z (fun j i=>DG ⟨j,i⟩)).mono ?_;rintro e w2 ⟨rfl,aG,rl⟩;have uz:Hid (pw w g s q Lc acc l (.slice A2 n2 cC) w2):=za (by rw[rl];exact HW.out.below bT);clear rl Y G X O H W M J E m B x u z r D;obtain⟨Y,G,X,O,H,W,M,J⟩:=aS uz.out.res;obtain⟨E,m,B,x,u,z,r,D⟩:=aS uz.out.bx;by_cases N6:0<l
  ·skip
   go_wp2;obtain⟨R,I,K,U,N,S⟩:=uz.out.ends (.int .i64 0) (.int .i64 0) (.slice none 0 0) (.int .i64 0);refine zj (v:= .tuple #[.agg #[.int .i64 0,.int .i64 0,.slice none 0 0,.int .i64 0],.bool false]) (by simp[results,xD,go_sem,K,U,N,S]) rfl ?_;exact⟨.mk 0 0 [] 0,false,q,Lc,_,_,_,_,_,_,rfl,R,I,by omega,Db _ (DI.out.none_ (fun j i=>DG ⟨j,i⟩) N6) hq,(by intro h;cases h)⟩
  have qT:Hid (O6 f s ae q acc l):=za (by
   obtain rfl:l=0:=by omega
   exact DI.out.plain (fun j i=>DG ⟨j,i⟩))
  obtain⟨W3,rfl⟩:∃W3,W3=w2:=⟨w2,rfl⟩
  have hQ:=hq;go_wp2_with fail
  refine(IH.out g s (q) Lc W3 uz.out.rd hQ Z (by omega)).mono ?_;rintro e w4 ⟨y,ok,b,c,k,ah,ta,A,n,cap,rfl,hr,ho,aB,hn,ot⟩;have Bk:=za (uz.out.dF ho hr);have Bj:=za hn;have ai:=za ot;have RH:=hn.2.2;have av:=uz.out.siz;have aC:=Bk.out.siz;have Yw:w.heap.size<w4.heap.size:=by omega
  have au:w.heap.size+1<w4.heap.size:=by omega
  clear hr ho hn ot Y G X O H W M J E m B x u z r D;obtain⟨Y,G,X,O,H,W,M,J⟩:=aS Bk.out.res;obtain⟨E,m,B,x,u,z,r,D⟩:=aS Bk.out.bx;cases ok with
  |false=>
   go_wp2;obtain⟨R,I,K,U,N,S⟩:=Bk.out.ends (.int .i64 0) (.int .i64 0) (.slice none 0 0) (.int .i64 0);refine zj (v:= .tuple #[.agg #[.int .i64 0,.int .i64 0,.slice none 0 0,.int .i64 0],.bool false]) (by simp[results,xD,go_sem,K,U,N,S,zA,Yw]) rfl ?_;exact⟨.mk 0 0 [] 0,false,b,c,_,_,_,_,_,_,rfl,af.alloc (show af _ g _ _ from R) _,I.alloc _,by omega,Qm _ qT.out Bj.out Am.out,(by intro h;cases h)⟩
  |true=>
   have Yv:=za (KK qT.out hQ Bj.out);obtain⟨_,Ou,az⟩:=Bj.out.1 rfl;have Lv:Hid (c+ba (acc++ [y])=L):=za (by rw[tj];have:=Am.out;omega);have rr:Hid (∀o o',pw w g s b c acc (l) (.slice A2 n2 cC) ((w4.alloc o).alloc o')):=za (fun o o'=>Bk.out.below bT);have HY:Hid (∀o o',fK ((w4.alloc o).alloc o') (fun k=>w.heap.size+2<=k/\(Value.slice A2 n2 cC).ownBlock≠some k) y (.int .i64 k) (.int .i64 ah) (.slice A n cap) (.int .i64 ta)):=za (fun o o'=>((ai.out (by first|rfl|trivial)).iz (fun k _ hk=>⟨by have hk:W3.heap.size<=k:=hk;omega,fun e=>by have:=(uz.out.acc.ge k e).2;have hk:W3.heap.size<=k:=hk;omega⟩)).below bT);have ak:acc.length<=1000000:=by omega
   clear Ou;go_wp2_with (at_builtin;refine cA (by rfl) (.tmp 34) (.tmp 36) (by rfl) (w.heap.size+2) acc (by rfl) (rr.out _ _).acc y (HY.out _ _) _ (by rfl) (by simp) (by simp) (by simp) (by simp) ak (by simp only[zq];omega) ?_)
   intro g' n' aq w6 Rq Gv fu ar;have RI:=af.grown (rr.out _ _).bx fu (fun e=>by have:=((rr.out (.cells #[] 0) (.cells #[] 0)).acc.ge _ e).1;omega);clear Y G X O H W M J E m B x u z r D;obtain⟨E,m,B,x,u,z,r,D⟩:=aS RI;obtain⟨W7,ru⟩:∃W7,w6.setCell ⟨w.heap.size+1,2,none⟩ (.slice (some ⟨g',0,none⟩) n' aq)=W7:=⟨_,rfl⟩
   have Gu:Hid (pw w g s b c (acc++ [y]) (l) (.slice (some ⟨g',0,none⟩) n' aq) W7):=za (by rw[<-ru];exact(rr.out _ _).more fu Gv);have aj:=za ru;clear ru RI fu Gv;go_wp2_with fail
   rw[aj.out];clear E m B x u z r D;by_cases F:∃hq:b<s.size,s[b].toNat=125
   ·obtain⟨wV,F⟩:=F;refine(fp g s b c 125 _ Gu.out.rd wV Z F).mono ?_;rintro e w8 ⟨rfl,ag,Oy⟩;have C:=za (Gu.out.dF Oy ag);clear ag Oy;obtain⟨Y,G,X,O,H,W,M,J⟩:=aS C.out.res;obtain⟨E,m,B,x,u,z,r,D⟩:=aS C.out.bx;go_wp2;obtain⟨R,I,K,U,N,S⟩:=C.out.ends (.int .i64 5) (.int .i64 0) (.slice (some ⟨g',0,none⟩) n' aq) (.int .i64 ((l:Nat):Int));refine zj (v:= .tuple #[.agg #[.int .i64 5,.int .i64 0,(.slice (some ⟨g',0,none⟩) n' aq),.int .i64 ((l:Nat):Int)],.bool true]) (by simp[results,xD,go_sem,K,U,N,S]) rfl ?_;exact⟨.mk 5 0 (acc++ [y]) ((l:Nat):Int),true,b+1,c,_,_,_,_,_,_,rfl,R,I,by omega,IU (Yv.out.ends wV F) Lv.out (by omega),fun _=>C.out.ty (by simp;omega) (by omega) _ _ _ _⟩
   refine(gH g s b c 125 _ Gu.out.rd RH Z (fun j i=>F ⟨j,i⟩)).mono ?_;rintro e w8 ⟨rfl,n8,ab⟩;have C:Hid (pw w g s b c (acc++ [y]) (l) (.slice (some ⟨g',0,none⟩) n' aq) w8):=za (by rw[ab];exact Gu.out.below bT);clear ab;go_wp2_with fail
   by_cases tN:∃hq:b<s.size,s[b].toNat=44
   ·obtain⟨wV,tN⟩:=tN;refine(fp g s b c 44 _ C.out.rd wV Z tN).mono ?_;rintro e w9 ⟨rfl,ad,ry⟩;have N5:=za (C.out.dF ry ad);have c9:=N5.out.rd.cells.2.1;clear ad ry;go_wp2;go_roundw
    case rel=>exact⟨b+1,c,acc++ [y],l,_,by omega,za (Yv.out.more wV tN (by simp)),Lv,by omega,by simp;omega,by omega,N5⟩
    case measure=>
     rw[c1,c9];simp only[P7];omega
   refine(gH g s b c 44 _ C.out.rd RH Z (fun j i=>tN ⟨j,i⟩)).mono ?_;rintro e w9 ⟨rfl,n9,aa⟩;have N5:Hid (pw w g s b c (acc++ [y]) (l) (.slice (some ⟨g',0,none⟩) n' aq) w9):=za (by rw[aa];exact C.out.below bT);clear aa;obtain⟨Y,G,X,O,H,W,M,J⟩:=aS N5.out.res;obtain⟨E,m,B,x,u,z,r,D⟩:=aS N5.out.bx;go_wp2;obtain⟨R,I,K,U,N,S⟩:=N5.out.ends (.int .i64 0) (.int .i64 0) (.slice none 0 0) (.int .i64 0);refine zj (v:= .tuple #[.agg #[.int .i64 0,.int .i64 0,.slice none 0 0,.int .i64 0],.bool false]) (by simp[results,xD,go_sem,K,U,N,S]) rfl ?_;exact⟨.mk 0 0 [] 0,false,b,c,_,_,_,_,_,_,rfl,R,I,by omega,Db _ (Cf Yv.out (by simp) (fun j i=>F ⟨j,i⟩) (fun j i=>tN ⟨j,i⟩)) RH,(by intro h;cases h)⟩
theorem Qs (f d:Nat)(hd:d<=8)(r:Hid (∀(g:Nat) (s:ByteArray) (p L:Nat) (w:World),jH w g s p L->p<=s.size->s.size<=100000->L<=64->
 Calls prog 157 #[.pointer (some ⟨g,0,none⟩),.int .i64 ((d:Int)+1)] w fun e w'=>kz w g s f L p e w')) (g:Nat) (s:ByteArray) (p L:Nat) (w:World) (h:jH w g s p L) (H:p<s.size) (J:s.size<=100000) (hL:0<L) (N4:L<=64) (U:s[p].toNat=123):
 Calls prog 157 #[.pointer (some ⟨g,0,none⟩),.int .i64 d] w fun e w'=>kz w g s (f+1) L p e w':=by
 have o:=za (Qn (f:=f) H U);have c:=za (ti.start h);generalize Z:((w.alloc (.cells #[.pointer (some ⟨g,0,none⟩)] 203)).alloc (.cells #[.int .i64 0,.int .i64 0,.slice none 0 0,.int .i64 0] 43))=W at*;obtain⟨g0,g1,g2,f0,f1,f2,X⟩:=c.out.rd.cells;have b0:W.cell? ⟨w.heap.size,0,none⟩=some (.pointer (some ⟨g,0,none⟩)):=c.out.box.cell 0;have Y:decide ((8:Int)<(d:Int))=false:=zv (by omega);have dL:((L:Int)==0)=false:=zo.2 (by omega);have dp:((p:Int)==(s.size:Int))=false:=zo.2 (by omega);have ew:IntKind.i64.wrap ((L:Int)-1)=(L:Int)-1:=zW _ (by omega);clear h;go_enter xO,xI
 go_wp2_with fail
 go_quiet (fail)
 obtain⟨j,rfl⟩:∃j,j=nq:=⟨nq,rfl⟩
 go_wp2_with fail
 go_quiet (fail)
 have m:=za (c.out.step ((L:Int)-1) ((p:Int)+1) j nq (L':=L-1) (p':=p+1) (by omega) (by omega));have y:=za (IV f d hd r g s (p+1) (L-1) _ _ m.out.rd o (by omega) J (by omega));clear r o;go_wp2_with fail
 refine y.out.mono ?_;rintro e u ⟨t,ok,q,O,k,z,i,A,n,cap,rfl,l,B,aa,C,x⟩;have D:=za (m.out.dF B l);have S:=za C;have E:Hid (ok=true->fK u (w.heap.size+2<= ·) t (.int .i64 k) (.int .i64 z) (.slice A n cap) (.int .i64 i)):=za (fun h=>(x h).iz (fun k _ b=>by simp[World.setCell]at b;have:=c.out.siz;omega));clear l B C x y;obtain⟨n0,n1,n2,n3,m0,m1,m2,m3⟩:=aS D.out.res;go_wp2;obtain⟨G,N,F,M,I,K⟩:=D.out.ends (.int .i64 k) (.int .i64 z) (.slice A n cap) (.int .i64 i);refine zj (v:= .tuple #[.agg #[.int .i64 k,.int .i64 z,.slice A n cap,.int .i64 i],.bool ok]) (by simp[results,yx,go_sem,F,M,I,K]) rfl ?_;refine⟨t,ok,q,O,_,_,_,_,_,_,rfl,G,N,by omega, ?_,fun R=>(E.out R).only (L:= [w.heap.size+1]) (((((ae.refl _ u).setCell (by simp) _).setCell (by simp) _).setCell (by simp) _).setCell (by simp) _) (by simp) (fun k _ b=>by have b:w.heap.size+2<=k:=b;show w.heap.size<=k;omega)⟩;have:=abS S.out;rwa [show 1+(L-1)=L from by omega]at this
theorem FC (t:Ty):0<t.count:=by
 cases t with
 |mk k s l ta=>simp only[Ty.count];omega
theorem Qt (f d:Nat)(hd:d=9)(k:f=0)(g:Nat)(s:ByteArray)(p L:Nat)(w:World)(h:jH w g s p L)(l:p<=s.size)(A:s.size<=100000)(E:L<=64)(F:True):
 Calls prog 157 #[.pointer (some ⟨g,0,none⟩),.int .i64 d] w fun e w'=>kz w g s f L p e w':=by
 have c:=za (ti.start h);generalize z:((w.alloc (.cells #[.pointer (some ⟨g,0,none⟩)] 203)).alloc (.cells #[.int .i64 0,.int .i64 0,.slice none 0 0,.int .i64 0] 43))=W at*;obtain⟨g0,g1,g2,f0,f1,f2,y⟩:=c.out.rd.cells;clear h;go_enter xO,xI
 go_wp2_with fail
 go_quiet (fail)
 obtain⟨b,rfl⟩:∃b,b=nq:=⟨nq,rfl⟩
 have u:Hid (ti w g s p L (W.drewN b)):=za (c.out.below bT);obtain⟨B,n1,n2,D,m0,m1,m2,m3⟩:=aS c.out.res;go_wp2;obtain⟨j,x,i,o,m,n⟩:=u.out.ends (.int .i64 0) (.int .i64 0) (.slice none 0 0) (.int .i64 0);refine zj (v:= .tuple #[.agg #[.int .i64 0,.int .i64 0,.slice none 0 0,.int .i64 0],.bool false]) (by simp[results,yx,go_sem,i,o,m,n]) rfl ?_;exact⟨.mk 0 0 [] 0,false,p,L,_,_,_,_,_,_,rfl,j,x,zg _,⟨(by intro h;cases h),(by intro _ C r q;subst k;cases q),l⟩,(by intro h;cases h)⟩
theorem Qu (f d:Nat)(hd:d<=8)(g:Nat)(s:ByteArray)(p L:Nat)(w:World)(h:jH w g s p L)(k:p<=s.size)(B:s.size<=100000)(G:L<=64)(H:L=0):
 Calls prog 157 #[.pointer (some ⟨g,0,none⟩),.int .i64 d] w fun e w'=>kz w g s f L p e w':=by
 have x:decide ((8:Int)<(d:Int))=false:=zv (by omega);have z:((L:Int)==0)=true:=yS.2 (by omega);have b:=za (ti.start h);generalize A:((w.alloc (.cells #[.pointer (some ⟨g,0,none⟩)] 203)).alloc (.cells #[.int .i64 0,.int .i64 0,.slice none 0 0,.int .i64 0] 43))=W at*;obtain⟨g0,g1,g2,f0,f1,f2,y⟩:=b.out.rd.cells;have C:W.cell? ⟨w.heap.size,0,none⟩=some (.pointer (some ⟨g,0,none⟩)):=b.out.box.cell 0;clear h;go_enter xO,xI
 go_wp2_with fail
 go_quiet (fail)
 obtain⟨c,rfl⟩:∃c,c=nq:=⟨nq,rfl⟩
 have q:Hid (ti w g s p L (W.drewN c)):=za (b.out.below bT);obtain⟨D,n1,n2,E,m0,m1,m2,m3⟩:=aS b.out.res;go_wp2;obtain⟨j,u,i,o,l,n⟩:=q.out.ends (.int .i64 0) (.int .i64 0) (.slice none 0 0) (.int .i64 0);refine zj (v:= .tuple #[.agg #[.int .i64 0,.int .i64 0,.slice none 0 0,.int .i64 0],.bool false]) (by simp[results,yx,go_sem,i,o,l,n]) rfl ?_;exact⟨.mk 0 0 [] 0,false,p,L,_,_,_,_,_,_,rfl,j,u,zg _,⟨(by intro h;cases h),(by intro _ m r F;right;have:=FC m;omega),k⟩,(by intro h;cases h)⟩
theorem Qv (f d:Nat)(hd:d<=8)(g:Nat)(s:ByteArray)(p L:Nat)(w:World)(h:jH w g s p L)(l:p<=s.size)(D:s.size<=100000)(I:L<=64)(A:0<L)(x:s.size<=p):
 Calls prog 157 #[.pointer (some ⟨g,0,none⟩),.int .i64 d] w fun e w'=>kz w g s f L p e w':=by
 have y:decide ((8:Int)<(d:Int))=false:=zv (by omega);have B:((L:Int)==0)=false:=zo.2 (by omega);have J:((p:Int)==(s.size:Int))=true:=yS.2 (by omega);have b:=za (ti.start h);generalize C:((w.alloc (.cells #[.pointer (some ⟨g,0,none⟩)] 203)).alloc (.cells #[.int .i64 0,.int .i64 0,.slice none 0 0,.int .i64 0] 43))=W at*;obtain⟨g0,g1,g2,f0,f1,f2,z⟩:=b.out.rd.cells;have E:W.cell? ⟨w.heap.size,0,none⟩=some (.pointer (some ⟨g,0,none⟩)):=b.out.box.cell 0;clear h;go_enter xO,xI
 go_wp2_with fail
 go_quiet (fail)
 obtain⟨c,rfl⟩:∃c,c=nq:=⟨nq,rfl⟩
 have q:Hid (ti w g s p L (W.drewN c)):=za (b.out.below bT);obtain⟨F,n1,n2,H,m0,m1,m2,m3⟩:=aS b.out.res;go_wp2;obtain⟨k,u,j,o,m,n⟩:=q.out.ends (.int .i64 0) (.int .i64 0) (.slice none 0 0) (.int .i64 0);refine zj (v:= .tuple #[.agg #[.int .i64 0,.int .i64 0,.slice none 0 0,.int .i64 0],.bool false]) (by simp[results,yx,go_sem,j,o,m,n]) rfl ?_;exact⟨.mk 0 0 [] 0,false,p,L,_,_,_,_,_,_,rfl,k,u,zg _,⟨(by intro h;cases h),(by intro _ G r i;rw[Ce f x]at i;cases i),l⟩,(by intro h;cases h)⟩
theorem FD :∀(f d:Nat),f+d=9->∀(g:Nat) (s:ByteArray) (p L:Nat) (w:World),jH w g s p L->p<=s.size->s.size<=100000->L<=64->
 Calls prog 157 #[.pointer (some ⟨g,0,none⟩),.int .i64 d] w fun e w'=>kz w g s f L p e w'
 |0,d,LR,g,s,p,L,w,h,k,c,b=>Qt 0 d (by omega) rfl g s p L w h k c b trivial
 |f+1,d,LR,g,s,p,L,w,h,k,c,b=>by
  have m:Hid (∀(g:Nat) (s:ByteArray) (p L:Nat) (w:World),jH w g s p L->p<=s.size->s.size<=100000->L<=64->
   Calls prog 157 #[.pointer (some ⟨g,0,none⟩),.int .i64 ((d:Int)+1)] w fun e w'=>kz w g s f L p e w'):=za (fun g s p L w h k c b=>by
   have:=FD f (d+1) (by omega) g s p L w h k c b;rwa [show(((d+1:Nat)):Int)=(d:Int)+1 from by omega]at this)
  have hd:d<=8:=by omega
  by_cases x:L=0
  ·exact Qu (f+1) d hd g s p L w h k c b x
  by_cases u:s.size<=p
  ·exact Qv (f+1) d hd g s p L w h k c b (by omega) u
  have i:p<s.size:=by omega
  have j:0<L:=by omega
  by_cases n:s[p].toNat=117
  ·exact Qi f d hd g s p L w h i c j b n
  by_cases o:s[p].toNat=98
  ·exact Qg f d hd g s p L w h i c j b o
  by_cases q:s[p].toNat=115
  ·exact Qh f d hd g s p L w h i c j b q
  by_cases r:s[p].toNat=91
  ·exact Qr f d hd m g s p L w h i c j b r
  by_cases l:s[p].toNat=123
  ·exact Qs f d hd m g s p L w h i c j b l
  exact M6 f d hd g s p L w h i c j b n o q r l
