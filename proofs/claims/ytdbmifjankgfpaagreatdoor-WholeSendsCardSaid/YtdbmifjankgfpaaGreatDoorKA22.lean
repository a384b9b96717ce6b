/- A region that draws its order and whose last operation waits for all the others: a condition on the world lets loads be taken first, and need not stand behind the last operation. Own law; no program in sight. -/
import Derived.Deep.RegionHeld3
import Derived.Test.YtdbmifjankgfpaaGreatDoorKA34
set_option linter.all false
set_option maxRecDepth 100000
set_option maxHeartbeats 3200000
open Go.Proofs.Tryz
namespace Go.Proofs.YtdbmifjankgfpaaGreatDoor
open Go
variable {w V V' w':World}{g i p L d k e j:Nat}{a:Act}{s:ByteArray}{v:Value}{listed:Array Bool}{acc:List Ty}{o:Oper}{f m:Int}{t:TypeId}
section
def zb:=@List.setIfInBounds_toArray
def ze:=@List.set_cons_succ
def xD:=@results188
variable {P:Program} {ops:Array Oper} {Q:Exit->Act->World->Prop} {md:Region.Mode} {S:World->Prop} {n:Nat}
def rR (P:Program)(md:Region.Mode)(ops:Array Oper)(Q:Exit->Act->World->Prop)(S:World->Prop)(n:Nat):Nat->Array Bool->Act->World->Prop
 |0,listed,a,w=>Region.ready md ops listed= []/\Q .normal a w
 |fuel+1,listed,a,w=>
  (Region.ready md ops listed= []->Q .normal a w)/\
  ∀i∈Region.ready md ops listed,wpOp P ops Q i (fun a' w'=>(i≠n->S w')/\rR P md ops Q S n fuel (listed.setIfInBounds i true) a' w') a w
theorem vT :∀(b:Nat) (c:Array Bool) (a:Act) (w:World),rR P md ops Q S n b c a w->wpAny P md ops Q b c a w
 |0,_,_,_,h=>h
 |b+1,_,_,_,h=>⟨h.1,fun i hi=>wpOp_mono (fun d w' e=>vT b _ d w' e.2) (h.2 i hi)⟩
theorem Dj {p:Oper}(hi:ops[i]?=some p)(G:∀(j:Nat) (o:Oper) x b,ops[j]?=some o->o.op≠ .select x b)
 (hs:Region.sinkB md ops n=true) (Y:Region.chainB md ops n=true) (I:n<ops.size) (U:i<n)
 (O:∀c a w,Q (.panic c) (a.put p.dst v) w->Q (.panic c) a w):
 ∀(u:Nat) (d:Array Bool) (a:Act) (w:World),HeadInv md ops n d->
  (∀j m,ops[j]?=some m->j≠i->d.getD j true=false->(∀e∈m.after,Region.binds md e=true->e.on≠i)->p.apart ops m=true)->
  i∈Region.ready md ops d->YieldsIf P ops S p v a->S w->
  rR P md ops Q S n u (d.setIfInBounds i true) (a.put p.dst v) w->rR P md ops Q S n (u+1) d a w:=by
 intro u;induction u with
 |zero=>
  intro d a w _ _ q y hS H;refine⟨fun h=>(by rw[h]at q;cases q),fun j r=> ?_⟩;by_cases l:j=i
  ·subst l;exact y.wpOp hi hS ⟨fun _=>hS,H⟩
  have:=Ya r l;rw[H.1]at this;cases this
 |succ u ih=>
  intro d a w D C q y hS H;have s:=(Zu.1 q).1;refine⟨fun h=>(by rw[h]at q;cases q),fun j r=> ?_⟩;have RB:j<n:=by
   rcases xG j n with h|h
   ·exact h
   exact absurd r (tail_waits hs Y I D _ i rfl U s j h)
  by_cases l:j=i
  ·subst l;exact y.wpOp hi hS ⟨fun _=>hS,H⟩
  have A:=H.2 j (Ya r l);obtain⟨E,m,B,dP⟩:=Zu.1 r;have X:∀e∈m.after,Region.binds md e=true->e.on≠i:=fun e W Z aa=>by
   have A:=dP e W Z;rw[aa,Zj s]at A;cases A
  have K:=wpOp_putIf B (C j m B l E X) (fun x b=>G i p x b hi) (fun x b=>G j m x b B) O y A;have M:∀k ok,ops[k]?=some ok->k≠i->(d.setIfInBounds j true).getD k true=false->
   (∀e∈ok.after,Region.binds md e=true->e.on≠i)->p.apart ops ok=true:=fun k ok R N s L=>by
   refine C k ok R N ?_ L;by_cases F:j=k
   ·subst F;exact E
   rw[getD_set_ne true F]at s;exact s
  refine wpOp_mono (fun J w' z=>⟨fun _=>z.2.1 (by omega),ih (d.setIfInBounds j true) J w' (D.set r RB) M (Ya q (xR l)) z.1 (z.2.1 (by omega)) ?_⟩) K;rw[Array.setIfInBounds_comm _ _ l];exact z.2.2
def GT (P:Program)(md:Region.Mode)(ops:Array Oper)(Q:Exit->Act->World->Prop)(S:World->Prop)(n:Nat)(fuel:Nat)(listed:Array Bool)(a:Act)(w:World):Prop:=
 HeadInv md ops n listed->rR P md ops Q S n fuel listed a w
def K9 (md:Region.Mode)(ops:Array Oper)(n:Nat):Bool:=Region.noSelect ops&&decide (n<ops.size)&&Region.sinkB md ops n&&Region.chainB md ops n
theorem GT.take {b:Oper}(hi:ops[i]?=some b)(e:decide (i<n)=true)
 (k:K9 md ops n=true) (s:Region.free md ops listed i=true) (p:(Region.ready md ops listed).contains i=true)
 (u:∀c a w,Q (.panic c) (a.put b.dst v) w->Q (.panic c) a w) (r:YieldsIf P ops S b v a) (hS:S w)
 (h:GT P md ops Q S n d (listed.setIfInBounds i true) (a.put b.dst v) w):GT P md ops Q S n (d+1) listed a w:=fun j=>by
 simp only[K9,zz,zY]at k e;obtain⟨⟨⟨o,q⟩,x⟩,m⟩:=k;have l:i∈Region.ready md ops listed:=by simpa using p
 exact Dj hi (Region.noSelect_spec o) x m q e u d listed a w j (Region.free_spec hi s) l r hS (h (j.set l e))
theorem GT.step (l:ops[i]?=some o)(u:decide (i<n)=true)(d:Region.ready md ops listed= [i])
 (h:∀b:Act->World->Prop,Shut (∀a w,S w->(S w->GT P md ops Q S n e (listed.setIfInBounds i true) a w)->b a w)->if Region.wanted o (yielded ops a.tmps)=true then Oper.wp P o a w b Q else b (a.put o.dst undef) w):GT P md ops Q S n (e+1) listed a w:=fun p=>by
 refine⟨fun q=>(by rw[q]at d;cases d),fun j c=> ?_⟩;have r:j=i:=by rw[d]at c;simpa using c
 subst r;have s:j<n:=by simpa using u
 exact wpOp_step l (fun b m=>h b (fun a w hS k=>m a w ⟨fun _=>hS,k hS (p.set c s)⟩))
theorem GT.two {e d:Oper}(hi:ops[i]?=some e)(r:ops[j]?=some d)(B:decide (i<n)=true)(A:decide (j<n)=true)(o:Region.ready md ops listed= [i,j])
 (s:∀b:Act->World->Prop,Shut (∀a w,S w->(S w->GT P md ops Q S n p (listed.setIfInBounds i true) a w)->b a w)->if Region.wanted e (yielded ops a.tmps)=true then Oper.wp P e a w b Q else b (a.put e.dst undef) w)
 (z:∀b:Act->World->Prop,Shut (∀a w,S w->(S w->GT P md ops Q S n p (listed.setIfInBounds j true) a w)->b a w)->if Region.wanted d (yielded ops a.tmps)=true then Oper.wp P d a w b Q else b (a.put d.dst undef) w):GT P md ops Q S n (p+1) listed a w:=fun q=>by
 refine⟨fun x=>(by rw[x]at o;cases o),fun k h=> ?_⟩;have y:i<n:=by simpa using B
 have u:j<n:=by simpa using A
 have c:k=i\/k=j:=by rw[o]at h;simpa using h
 rcases c with c|c
 ·subst c;exact wpOp_step hi (fun b m=>s b (fun a w hS l=>m a w ⟨fun _=>hS,l hS (q.set h y)⟩))
 subst c;exact wpOp_step r (fun b m=>z b (fun a w hS l=>m a w ⟨fun _=>hS,l hS (q.set h u)⟩))
theorem GT.last {r:Nat}(q:ops[i]?=some o)(x:decide (i=n)=true)(c:Region.ready md ops listed= [i])(p:Region.ready md ops (listed.setIfInBounds i true)= [])
 (h:if Region.wanted o (yielded ops a.tmps)=true then Oper.wp P o a w (fun d w'=>Q .normal d w') Q else Q .normal (a.put o.dst undef) w):GT P md ops Q S n (r+1) listed a w:=fun z=>by
 refine⟨fun b=>(by rw[b]at c;cases c),fun j k=> ?_⟩;have s:j=i:=by rw[c]at k;simpa using k
 subst s;have u:j=n:=by simpa using x
 subst u;have m:∀(f:Nat) (a:Act) (w:World),Q .normal a w->rR P md ops Q S j f (listed.setIfInBounds j true) a w:=fun f a w h=>by
  cases f with
  |zero=>exact⟨p,h⟩
  |succ f=>exact⟨fun _=>h,by rw[p];simp⟩
 refine wpOp_step q (fun A l=> ?_);split
 ·rename_i e
  rw[zi e]at h;exact Oper.wp_mono (fun d w' y=>l d w' ⟨fun b=>absurd rfl b,m _ _ _ y⟩) h
 rename_i e
 rw[zh e]at h;exact l _ _ ⟨fun b=>absurd rfl b,m _ _ _ h⟩
theorem aB {id:Nat}(n:Nat)(S:World->Prop)(c:P.follows .mixedOrders=true)(e:K9 .any ops n=true)(h:GT P .any ops Q S n ops.size (Array.replicate ops.size false) a w.drew):(Code.region id ops true).wp P Q a w:=by
 exact wp_region_any c (vT _ _ _ _ (h ⟨by simp,fun j i _ b=>(by rw[yy]at b;cases b),fun t _ d=>getD_in (by simpa using d) (yy _ _)⟩))
def vU :List Oper->Nat->Option Oper
 |o::_,0=>some o
 |_::l,i+1=>vU l i
 | [],_=>none
theorem FW :∀{l:List Oper} {i:Nat} {o:Oper},vU l i=some o->l[i]?=some o
 |_::_,0,_,h=>by simpa[vU]using h
 |_::l,i+1,_,h=>by simpa using FW (l:=l) (i:=i) h
 | [],_,_,h=>by simp[vU]at h
theorem oa {ops:Array Oper}(h:vU ops.toList i=some o):ops[i]?=some o:=by
 have:=FW h;simpa using this
inductive AS (P:Program)(ops:Array Oper)(S:World->Prop)(G:Act->Prop):List Nat->Act->Prop
 |nil {a:Act} (h:G a):AS P ops S G [] a
 |cons {i:Nat} {is:List Nat} {oi:Oper} {v:Value} {a:Act} (hi:ops[i]?=some oi) (hy:YieldsIf P ops S oi v a) (h:AS P ops S G is (a.put oi.dst v)):AS P ops S G (i::is) a
theorem AS.c {P:Program}{ops:Array Oper}{S:World->Prop}{G:Act->Prop}{c:List Nat}{b:Oper}(hi:vU ops.toList i=some b)(d:Region.wanted b (yielded ops a.tmps)=true)
 (e:∀w,S w->(execOp a.eval b).run P w= .ok (.value v) w) (h:AS P ops S G c (a.put b.dst v)):AS P ops S G (i::c) a:= .cons (oa hi) (.inl ⟨d,e⟩) h
theorem AS.u {P:Program}{ops:Array Oper}{S:World->Prop}{G:Act->Prop}{c:List Nat}{b:Oper}(hi:vU ops.toList i=some b)(d:Region.wanted b (yielded ops a.tmps)=false)
 (h:AS P ops S G c (a.put b.dst undef)):AS P ops S G (i::c) a:= .cons (oa hi) (.inr ⟨d,rfl⟩) h
def Vz :List Nat->Array Bool->Array Bool
 | [],l=>l
 |i::is,l=>Vz is (l.setIfInBounds i true)
def VA :List Nat->Nat->Nat
 | [],f=>f
 |_::is,f=>VA is f+1
def QD (md:Region.Mode)(ops:Array Oper)(n:Nat):List Nat->Array Bool->Bool
 | [],_=>true
 |i::is,l=>decide (i<n)&&K9 md ops n&&Region.free md ops l i&&(Region.ready md ops l).contains i&&QD md ops n is (l.setIfInBounds i true)
theorem GT.jr (e:List Nat){l:Nat}(hS:S w)(r:∀c (a:Act) (d:Nat) v w,Q (.panic c) (a.put (some d) v) w->Q (.panic c) a w)
 (k:QD md ops n e listed=true) (j:AS P ops S (fun b=>GT P md ops Q S n l (Vz e listed) b w) e a):GT P md ops Q S n (VA e l) listed a w:=by
 induction e generalizing listed a with
 |nil=>
  cases j with
  |nil h=>exact h
 |cons i e ih=>
  cases j with
  |cons hi hy j=>
   simp only[QD,zz]at k;obtain⟨⟨⟨⟨p,q⟩,s⟩,m⟩,o⟩:=k;refine GT.take hi p q s m (fun c a w h=> ?_) hy hS (ih o j);revert h
   cases Oper.dst _ with
   |none=>exact id
   |some d=>exact r c a d _ w
def stB (md:Region.Mode)(ops:Array Oper)(n:Nat)(listed:Array Bool)(i:Nat):Bool:=decide (i<n)&&(Region.ready md ops listed== [i])
theorem GT.fF (i:Nat)
 (h:∀c:Act->World->Prop,Shut (∀a w,S w->(S w->GT P md ops Q S n d (listed.setIfInBounds i true) a w)->c a w)->if Region.wanted o (yielded ops a.tmps)=true then Oper.wp P o a w c Q else c (a.put o.dst undef) w)
 (e:vU ops.toList i=some o) (b:stB md ops n listed i=true):GT P md ops Q S n (d+1) listed a w:=by
 simp only[stB,zz,yQ]at b;exact GT.step (oa e) b.1 b.2 h
def twB (md:Region.Mode)(ops:Array Oper)(n:Nat)(listed:Array Bool)(i j:Nat):Bool:=decide (i<n)&&decide (j<n)&&(Region.ready md ops listed== [i,j])
theorem GT.Ua (i j:Nat){d e:Oper}{h:Nat}(hi:vU ops.toList i=some d)(k:vU ops.toList j=some e)(c:twB md ops n listed i j=true)
 (l:∀b:Act->World->Prop,Shut (∀a w,S w->(S w->GT P md ops Q S n h (listed.setIfInBounds i true) a w)->b a w)->if Region.wanted d (yielded ops a.tmps)=true then Oper.wp P d a w b Q else b (a.put d.dst undef) w)
 (m:∀b:Act->World->Prop,Shut (∀a w,S w->(S w->GT P md ops Q S n h (listed.setIfInBounds j true) a w)->b a w)->if Region.wanted e (yielded ops a.tmps)=true then Oper.wp P e a w b Q else b (a.put e.dst undef) w):GT P md ops Q S n (h+1) listed a w:=by
 simp only[twB,zz,yQ]at c;exact GT.two (oa hi) (oa k) c.1.1 c.1.2 c.2 l m
def laB (md:Region.Mode)(ops:Array Oper)(n:Nat)(listed:Array Bool)(i:Nat):Bool:=decide (i=n)&&(Region.ready md ops listed== [i])&&(Region.ready md ops (listed.setIfInBounds i true)== [])
theorem GT.oL (i:Nat)
 (h:if Region.wanted o (yielded ops a.tmps)=true then Oper.wp P o a w (fun c w'=>Q .normal c w') Q else Q .normal (a.put o.dst undef) w)
 (d:vU ops.toList i=some o) (b:laB md ops n listed i=true):GT P md ops Q S n (e+1) listed a w:=by
 simp only[laB,zz,yQ]at b;exact GT.last (oa d) b.1.1 b.1.2 b.2 h
end
open Go.RowKit
structure jz (w:World)(g gl fb:Nat)(s:ByteArray)(k:Nat)(f m:Int):Prop where
 rdr:i' w g s k f
 left:af w gl 3 #[.int .i64 m]
 box:af w fb 164 #[.pointer (some ⟨g,0,none⟩)]
theorem af.D5 {c:Nat}{d:TypeId}{e j:Array Value}(h:af w g t e)(b:af w c d j)(i:t≠d):g≠c:=by
 rintro rfl;unfold af at h b;rw[h]at b;injection b with b;injection b with _ ht;exact i ht
theorem jz.apart {gl b:Nat}(h:jz w g gl b s k f m):gl≠g/\b≠g/\b≠gl:=⟨h.left.D5 h.rdr (by decide),h.box.D5 h.rdr (by decide),h.box.D5 h.left (by decide)⟩
theorem jz.below {gl c:Nat}(h:jz w g gl c s k f m)(b:Below w.heap.size w w'):jz w' g gl c s k f m:=
 ⟨(b.block _ h.rdr.lt).trans h.rdr,(b.block _ h.left.lt).trans h.left,(b.block _ h.box.lt).trans h.box⟩
theorem jz.dJ {gl:Nat}{c:Nat}{e:Int}(h:jz w g gl d s k f m)(b:ae [g] w w')(i:i' w' g s c e):jz w' g gl d s c e m:=
 ⟨i,h.left.only b (by simp[h.apart.1]),h.box.only b (by simp[h.apart.2.1])⟩
def il (g gl fb:Nat):Value:= .agg #[.func (.func 113) #[.pointer (some ⟨g,0,none⟩)] #[],.func (.func 140) #[.pointer (some ⟨g,0,none⟩)] #[],.func (.func 114) #[.pointer (some ⟨g,0,none⟩)] #[],.func (.func 138) #[.pointer (some ⟨g,0,none⟩)] #[],.func (.func 181) #[] #[.pointer (some ⟨fb,0,none⟩)],.pointer (some ⟨gl,0,none⟩)]
theorem QE (N:Nat×Nat×Int)(z:Nat):qE N z<=z:=by
 rcases nZ N z 0 with⟨_,_,h,_⟩|⟨_,_,_,h,_⟩|⟨_,b,_,h,_⟩<;>omega
theorem Ce (g gl b:Nat)(s:ByteArray)(k z:Nat)(m:Int)(w:World)(h:jz w g gl b s k 0 m)(o:k<=s.size)(r:s.size<=9223372036854775807)(hz:z<=65536)(j:bj w)(l:g≠0):
 Calls prog 181 #[.int .i64 z,.pointer (some ⟨b,0,none⟩)] w fun e w'=>e= .returned (.int .i64 (qE (aw (s.data.toList.drop k)) z))/\jz w' g gl b s (sX (aw (s.data.toList.drop k)) z k) (oK (aw (s.data.toList.drop k)) z) m/\ae [g] w w':=by
 have A:w.cell? ⟨b,0,none⟩=some (.pointer (some ⟨g,0,none⟩)):=h.box.cell 0;have p:=za (Qn g s k z w h.rdr o r (by omega) j l);have x:=QE (aw (s.data.toList.drop k)) z;have i:=za h;generalize qE (aw (s.data.toList.drop k)) z=N at*;generalize sX (aw (s.data.toList.drop k)) z k=K at*;generalize oK (aw (s.data.toList.drop k)) z=E at*;have u:IntKind.u64.wrap (z:Int)=z:=xy _ (by omega);clear h;go_enter func181,ntmps181
 go_wp2_with fail
 refine p.out.mono ?_;rintro e y ⟨rfl,d,c⟩;have n:=za (i.out.dJ c d);have q:=za c;clear d c;go_wp2;go_ret;exact⟨by go_num,n.out,q.out⟩
theorem XF (i:Int)(j b o n cap:Nat)(k z D:Int)(d c l m:Value)(w:World)(h:af w j 43 #[.int .i64 k,.int .i64 z,.slice (some ⟨b,o,none⟩) n cap,.int .i64 D])(E:0<n)(M:n<=9223372036854775807)
 (H:w.cell? ⟨b,o,none⟩=some d) (L:w.cell? ⟨b,o+1,none⟩=some c) (F:w.cell? ⟨b,o+2,none⟩=some l) (J:w.cell? ⟨b,o+3,none⟩=some m) (K:b<w.heap.size)
 (p s r:Int) (x:Option Addr) (q u:Nat) (y:d= .int .i64 p) (A:c= .int .i64 s) (B:l= .slice x q u) (C:m= .int .i64 r):
 Calls prog 220 #[.int .i64 i,.pointer (some ⟨j,0,none⟩)] w fun e w'=>e= .returned (.tuple #[.agg #[d,c,l,m],.bool true])/\Below w.heap.size w w':=by
 have I:w.cell? ⟨j,2,none⟩=some (.slice (some ⟨b,o,none⟩) n cap):=h.cell 2;have G:=h.lt;subst y A B C;clear h;go_enter func220,ntmps220
 go_wp2;refine zk (v:= .tuple #[.agg #[.int .i64 p,.int .i64 s,.slice x q u,.int .i64 r],.bool true]) (by simp[results,results220,go_sem]) rfl ⟨rfl,bD⟩
theorem eV {a b c d e f:Value}(h:af w g t #[a,b,c,d,e,f]):w.cell? ⟨g,0,none⟩=some a/\w.cell? ⟨g,1,none⟩=some b/\w.cell? ⟨g,2,none⟩=some c/\w.cell? ⟨g,3,none⟩=some d/\w.cell? ⟨g,4,none⟩=some e/\w.cell? ⟨g,5,none⟩=some f:=⟨h.cell 0,h.cell 1,h.cell 2,h.cell 3,h.cell 4,h.cell 5⟩
def j7 (g gl fb:Nat):Array Value:= #[.func (.func 113) #[.pointer (some ⟨g,0,none⟩)] #[],.func (.func 140) #[.pointer (some ⟨g,0,none⟩)] #[],.func (.func 114) #[.pointer (some ⟨g,0,none⟩)] #[],.func (.func 138) #[.pointer (some ⟨g,0,none⟩)] #[],.func (.func 181) #[] #[.pointer (some ⟨fb,0,none⟩)],.pointer (some ⟨gl,0,none⟩)]
theorem lq {p:Addr}(e:p.block≠g)(a b c d:Value):((((w.drew.setCell ⟨g,0,none⟩ a).setCell ⟨g,1,none⟩ b).setCell ⟨g,2,none⟩ c).setCell ⟨g,3,none⟩ d).cell? p=w.cell? p:=
 zF (by
  rw[zR _ _ _ _ e,zR _ _ _ _ e,zR _ _ _ _ e,zR _ _ _ _ e];rfl)
theorem cQ {p:Addr}(e:p.block≠g)(m:Nat)(a b c d:Value):(((((w.drewN m).setCell ⟨g,0,none⟩ a).setCell ⟨g,1,none⟩ b).setCell ⟨g,2,none⟩ c).setCell ⟨g,3,none⟩ d).cell? p=w.cell? p:=
 zF (by
  rw[zR _ _ _ _ e,zR _ _ _ _ e,zR _ _ _ _ e,zR _ _ _ _ e];rfl)
theorem XG (i:Nat)(j A g gl fb b o n cap:Nat)(s:ByteArray)(I:Nat)(m:Int)(k ad d:Int)(f0 f1 f2 f3:Value)(w:World)(h:af w j 43 #[.int .i64 k,.int .i64 ad,.slice (some ⟨b,o,none⟩) n cap,.int .i64 d])(hr:af w A 240 (j7 g gl fb))(fl:Int)(tz:jz w g gl fb s I fl m)(ab:I<=s.size)(hs:s.size<=9223372036854775807)(hn:i<n)(JW:n<=9223372036854775807)(mJ:0<=d)(JZ:d<=n)
 (h0:w.cell? ⟨b,o+i*4,none⟩=some f0) (h1:w.cell? ⟨b,o+i*4+1,none⟩=some f1) (h2:w.cell? ⟨b,o+i*4+2,none⟩=some f2) (h3:w.cell? ⟨b,o+i*4+3,none⟩=some f3) (Z:b<w.heap.size)
 (q u r:Int) (y:Option Addr) (l x:Nat) (e0:f0= .int .i64 q) (e1:f1= .int .i64 u) (e2:f2= .slice y l x) (e3:f3= .int .i64 r):
 Calls prog 221 #[.int .i64 i,.pointer (some ⟨j,0,none⟩),.pointer (some ⟨A,0,none⟩)] w fun e w'=>e= .returned (.tuple #[.agg #[f0,f1,f2,f3],.bool (decide ((i:Int)<(n:Int)-d)||decide (I<s.size))])/\Below w.heap.size w w':=by
 have c:Below w.heap.size w (w.alloc (.cells #[.int .i64 0,.int .i64 0,.slice none 0 0,.int .i64 0] 43)):=bD;have mK:=fun V (hb:Below w.heap.size w V)=>vJ g s I fl V ((hb.block _ tz.rdr.lt).trans tz.rdr) ab hs
 have S5:=za mK;have B:=(c.cell (p:=⟨j,2,none⟩) h.lt).trans (show w.cell? ⟨j,2,none⟩=some (.slice (some ⟨b,o,none⟩) n cap)from h.cell 2);have C:=(c.cell (p:=⟨j,3,none⟩) h.lt).trans (show w.cell? ⟨j,3,none⟩=some (.int .i64 d)from h.cell 3);have Eb:=hr.lt;have ae:=h.lt;obtain⟨r0,r1,r2,r3,r4,r5⟩:=eV (show af w A 240 #[_,_,_,_,_,_]from hr);have L:=(c.cell (p:=⟨A,3,none⟩) Eb).trans r3;have E:=(c.cell (p:=⟨b,_,none⟩) Z).trans h0;have G:=(c.cell (p:=⟨b,_,none⟩) Z).trans h1;have D:=(c.cell (p:=⟨b,_,none⟩) Z).trans h2;have F:=(c.cell (p:=⟨b,_,none⟩) Z).trans h3;subst e0 e1 e2 e3;have pE:=af.new w 43 #[.int .i64 0,.int .i64 0,.slice none 0 0,.int .i64 0];have J:=za pE;have S:=za c;generalize Hb:w.alloc (.cells #[.int .i64 0,.int .i64 0,.slice none 0 0,.int .i64 0] 43)=H at*;clear h hr tz r0 r1 r2 r3 r4 r5 h0 h1 h2 h3 c mK pE;by_cases aC:(i:Int)<(n:Int)-d
 ·have d1:decide ((i:Int)<(n:Int)-d)=true:=zD aC;rw[d1,Bool.true_or];go_enter func221,ntmps221
  go_wp2_with fail
  have ew:IntKind.i64.wrap ((n:Int)-d)=(n:Int)-d:=yc _ (by omega);refine aB 20 (fun V=>V.cell? ⟨j,2,none⟩=some (.slice (some ⟨b,o,none⟩) n cap)/\V.cell? ⟨j,3,none⟩=some (.int .i64 d)/\V.cell? ⟨b,o+i*4,none⟩=some (.int .i64 q)/\V.cell? ⟨b,o+i*4+1,none⟩=some (.int .i64 u)/\V.cell? ⟨b,o+i*4+2,none⟩=some (.slice y l x)/\V.cell? ⟨b,o+i*4+3,none⟩=some (.int .i64 r)) (by kernel_rfl) (by kernel_rfl) ?_;have hHeld:(fun V:World=>V.cell? ⟨j,2,none⟩=some (.slice (some ⟨b,o,none⟩) n cap)/\V.cell? ⟨j,3,none⟩=some (.int .i64 d)/\V.cell? ⟨b,o+i*4,none⟩=some (.int .i64 q)/\V.cell? ⟨b,o+i*4+1,none⟩=some (.int .i64 u)/\V.cell? ⟨b,o+i*4+2,none⟩=some (.slice y l x)/\V.cell? ⟨b,o+i*4+3,none⟩=some (.int .i64 r)) H.drew:=⟨B,C,E,G,D,F⟩
  refine GT.jr [0,1,2,3,4,5,6,7,8,9,10,11,12,13,14,15,16,17,18] hHeld (fun _ _ _ _ _ h=>h) (by kernel_rfl) ?_;iterate 11 (refine .c rfl rfl (fun V c=>by go_simp<;>with_reducible rfl) ?_;simp only[Act.put,zb,zd,ze])
  refine .c (v:= .int .i64 ((n:Int)-d)) rfl rfl (fun V c=>by go_simp<;>with_reducible rfl) ?_;try simp only[Act.put,zb,zd,ze];refine .c (v:= .bool true) rfl rfl (fun V c=>by go_simp<;>with_reducible rfl) ?_;try simp only[Act.put,zb,zd,ze];refine .c (v:= .bool true) rfl rfl (fun V c=>by go_simp<;>with_reducible rfl) ?_;try simp only[Act.put,zb,zd,ze];refine .u rfl rfl ?_;try simp only[Act.put,zb,zd,ze];refine .u rfl rfl ?_;try simp only[Act.put,zb,zd,ze];refine .u rfl rfl ?_;try simp only[Act.put,zb,zd,ze];refine .u rfl rfl ?_;try simp only[Act.put,zb,zd,ze];refine .c rfl rfl (fun V c=>by go_simp<;>with_reducible rfl) ?_;simp only[Act.put,zb,zd,ze];refine .nil ?_;obtain⟨n0,n1,n2,n3,m0,m1,m2,m3⟩:=aN J.out;refine GT.fF 19 (fun K z=> ?_) rfl (by kernel_rfl);go_simp;refine z.out _ _ ⟨(lq (by simp;omega) _ _ _ _).trans B,(lq (by simp;omega) _ _ _ _).trans C,(lq (by simp;omega) _ _ _ _).trans E,(lq (by simp;omega) _ _ _ _).trans G,(lq (by simp;omega) _ _ _ _).trans D,(lq (by simp;omega) _ _ _ _).trans F⟩ (fun hHeld=> ?_);clear z K;try simp only[Act.put,zb,zd,ze]
  refine GT.oL 20 ?_ rfl (by kernel_rfl);go_simp;go_wp2;have hX:=((((J.out.set 0 (.int .i64 q)).set 1 (.int .i64 u)).set 2 (.slice y l x)).set 3 (.int .i64 r)).drew;have W:Below w.heap.size w ((((H.setCell ⟨w.heap.size,0,none⟩ (.int .i64 q)).setCell ⟨w.heap.size,1,none⟩ (.int .i64 u)).setCell ⟨w.heap.size,2,none⟩ (.slice y l x)).setCell ⟨w.heap.size,3,none⟩ (.int .i64 r)).drew:=((((S.out.setCell (by simp) _).setCell (by simp) _).setCell (by simp) _).setCell (by simp) _).drew;obtain⟨x0,x1,x2,x3,_⟩:=aN (show af _ _ _ #[.int .i64 q,.int .i64 u,.slice y l x,.int .i64 r]from hX);refine zk (v:= .tuple #[.agg #[.int .i64 q,.int .i64 u,.slice y l x,.int .i64 r],.bool true]) (by simp[results,results221,go_sem,x0,x1,x2,x3]) rfl ⟨rfl,W⟩
 have d1:decide ((i:Int)<(n:Int)-d)=false:=zu aC;rw[d1,Bool.false_or];have ew:IntKind.i64.wrap ((n:Int)-d)=(n:Int)-d:=yc _ (by omega);by_cases hk:I<s.size
 ·have d3:decide (I<s.size)=true:=zD hk;rw[d3];go_enter func221,ntmps221
  go_wp2_with fail
  refine aB 20 (fun V=>V.cell? ⟨j,2,none⟩=some (.slice (some ⟨b,o,none⟩) n cap)/\V.cell? ⟨j,3,none⟩=some (.int .i64 d)/\V.cell? ⟨b,o+i*4,none⟩=some (.int .i64 q)/\V.cell? ⟨b,o+i*4+1,none⟩=some (.int .i64 u)/\V.cell? ⟨b,o+i*4+2,none⟩=some (.slice y l x)/\V.cell? ⟨b,o+i*4+3,none⟩=some (.int .i64 r)/\V.cell? ⟨A,3,none⟩=some (.func (.func 138) #[.pointer (some ⟨g,0,none⟩)] #[])) (by kernel_rfl) (by kernel_rfl) ?_;have hHeld:(fun V:World=>V.cell? ⟨j,2,none⟩=some (.slice (some ⟨b,o,none⟩) n cap)/\V.cell? ⟨j,3,none⟩=some (.int .i64 d)/\V.cell? ⟨b,o+i*4,none⟩=some (.int .i64 q)/\V.cell? ⟨b,o+i*4+1,none⟩=some (.int .i64 u)/\V.cell? ⟨b,o+i*4+2,none⟩=some (.slice y l x)/\V.cell? ⟨b,o+i*4+3,none⟩=some (.int .i64 r)/\V.cell? ⟨A,3,none⟩=some (.func (.func 138) #[.pointer (some ⟨g,0,none⟩)] #[])) H.drew:=⟨B,C,E,G,D,F,L⟩
  refine GT.jr [0,1,2,3,4,5,6,7,8,9,10,11,12,13,14,15] hHeld (fun _ _ _ _ _ h=>h) (by kernel_rfl) ?_;iterate 11 (refine .c rfl rfl (fun V c=>by go_simp<;>with_reducible rfl) ?_;simp only[Act.put,zb,zd,ze])
  refine .c (v:= .int .i64 ((n:Int)-d)) rfl rfl (fun V c=>by go_simp<;>with_reducible rfl) ?_;try simp only[Act.put,zb,zd,ze];refine .c (v:= .bool false) rfl rfl (fun V c=>by go_simp<;>with_reducible rfl) ?_;try simp only[Act.put,zb,zd,ze];refine .c (v:= .bool false) rfl rfl (fun V c=>by go_simp<;>with_reducible rfl) ?_;try simp only[Act.put,zb,zd,ze];refine .c (v:= .pointer (some ⟨A,3,none⟩)) rfl rfl (fun V c=>by go_simp<;>with_reducible rfl) ?_;try simp only[Act.put,zb,zd,ze];refine .c (v:= .func (.func 138) #[.pointer (some ⟨g,0,none⟩)] #[]) rfl rfl (fun V c=>by go_simp<;>with_reducible rfl) ?_;try simp only[Act.put,zb,zd,ze];refine .nil ?_;refine GT.fF 16 (fun K z=> ?_) rfl (by kernel_rfl);go_simp;refine(S5.out H.drew S.out.drew).mono ?_;rintro e w2 ⟨rfl,nq,rfl⟩;go_wp2_with fail
  refine z.out _ _ ⟨B,C,E,G,D,F,L⟩ (fun hHeld=> ?_);clear z K;try simp only[Act.put,zb,zd,ze]
  refine GT.jr [17,18] hHeld (fun _ _ _ _ _ h=>h) (by kernel_rfl) ?_;refine .c (v:= .bool true) rfl rfl (fun V c=>by go_simp<;>with_reducible rfl) ?_;try simp only[Act.put,zb,zd,ze];refine .c (v:= .bool true) rfl rfl (fun V c=>by go_simp<;>with_reducible rfl) ?_;try simp only[Act.put,zb,zd,ze];refine .nil ?_;obtain⟨n0,n1,n2,n3,m0,m1,m2,m3⟩:=aN J.out;refine GT.fF 19 (fun K z=> ?_) rfl (by kernel_rfl);go_simp;refine z.out _ _ ⟨(cQ (by simp;omega) _ _ _ _ _).trans B,(cQ (by simp;omega) _ _ _ _ _).trans C,(cQ (by simp;omega) _ _ _ _ _).trans E,(cQ (by simp;omega) _ _ _ _ _).trans G,(cQ (by simp;omega) _ _ _ _ _).trans D,(cQ (by simp;omega) _ _ _ _ _).trans F,(cQ (by simp;omega) _ _ _ _ _).trans L⟩ (fun hHeld=> ?_);clear z K;try simp only[Act.put,zb,zd,ze]
  refine GT.oL 20 ?_ rfl (by kernel_rfl);go_simp;go_wp2;have Y:=(J.out.drewN (1+nq)).set 0 (.int .i64 q);have O:=Y.set 1 (.int .i64 u);have X:=O.set 2 (.slice y l x);have aa:=X.set 3 (.int .i64 r);have R:=Y.cell 0;have M:=O.cell 1;have U:=X.cell 2;have N:=aa.cell 3;simp at R M U N;have W:Below w.heap.size w (((((H.drewN (1+nq)).setCell ⟨w.heap.size,0,none⟩ (.int .i64 q)).setCell ⟨w.heap.size,1,none⟩ (.int .i64 u)).setCell ⟨w.heap.size,2,none⟩ (.slice y l x)).setCell ⟨w.heap.size,3,none⟩ (.int .i64 r)):=(((((S.out.bJ _).setCell (by simp) _).setCell (by simp) _).setCell (by simp) _).setCell (by simp) _)
  refine zk (v:= .tuple #[.agg #[.int .i64 q,.int .i64 u,.slice y l x,.int .i64 r],.bool true]) (by simp[results,results221,go_sem,R,M,U,N]) rfl ⟨rfl,W⟩
 have d3:decide (I<s.size)=false:=zu hk;rw[d3];go_enter func221,ntmps221
 go_wp2_with fail
 refine aB 20 (fun V=>V.cell? ⟨j,2,none⟩=some (.slice (some ⟨b,o,none⟩) n cap)/\V.cell? ⟨j,3,none⟩=some (.int .i64 d)/\V.cell? ⟨b,o+i*4,none⟩=some (.int .i64 q)/\V.cell? ⟨b,o+i*4+1,none⟩=some (.int .i64 u)/\V.cell? ⟨b,o+i*4+2,none⟩=some (.slice y l x)/\V.cell? ⟨b,o+i*4+3,none⟩=some (.int .i64 r)/\V.cell? ⟨A,3,none⟩=some (.func (.func 138) #[.pointer (some ⟨g,0,none⟩)] #[])) (by kernel_rfl) (by kernel_rfl) ?_;have hHeld:(fun V:World=>V.cell? ⟨j,2,none⟩=some (.slice (some ⟨b,o,none⟩) n cap)/\V.cell? ⟨j,3,none⟩=some (.int .i64 d)/\V.cell? ⟨b,o+i*4,none⟩=some (.int .i64 q)/\V.cell? ⟨b,o+i*4+1,none⟩=some (.int .i64 u)/\V.cell? ⟨b,o+i*4+2,none⟩=some (.slice y l x)/\V.cell? ⟨b,o+i*4+3,none⟩=some (.int .i64 r)/\V.cell? ⟨A,3,none⟩=some (.func (.func 138) #[.pointer (some ⟨g,0,none⟩)] #[])) H.drew:=⟨B,C,E,G,D,F,L⟩
 refine GT.jr [0,1,2,3,4,5,6,7,8,9,10,11,12,13,14,15] hHeld (fun _ _ _ _ _ h=>h) (by kernel_rfl) ?_;iterate 11 (refine .c rfl rfl (fun V c=>by go_simp<;>with_reducible rfl) ?_;simp only[Act.put,zb,zd,ze])
 refine .c (v:= .int .i64 ((n:Int)-d)) rfl rfl (fun V c=>by go_simp<;>with_reducible rfl) ?_;try simp only[Act.put,zb,zd,ze];refine .c (v:= .bool false) rfl rfl (fun V c=>by go_simp<;>with_reducible rfl) ?_;try simp only[Act.put,zb,zd,ze];refine .c (v:= .bool false) rfl rfl (fun V c=>by go_simp<;>with_reducible rfl) ?_;try simp only[Act.put,zb,zd,ze];refine .c (v:= .pointer (some ⟨A,3,none⟩)) rfl rfl (fun V c=>by go_simp<;>with_reducible rfl) ?_;try simp only[Act.put,zb,zd,ze];refine .c (v:= .func (.func 138) #[.pointer (some ⟨g,0,none⟩)] #[]) rfl rfl (fun V c=>by go_simp<;>with_reducible rfl) ?_;try simp only[Act.put,zb,zd,ze];refine .nil ?_;refine GT.fF 16 (fun K z=> ?_) rfl (by kernel_rfl);go_simp;refine(S5.out H.drew S.out.drew).mono ?_;rintro e w2 ⟨rfl,nq,rfl⟩;go_wp2_with fail
 refine z.out _ _ ⟨B,C,E,G,D,F,L⟩ (fun hHeld=> ?_);clear z K;try simp only[Act.put,zb,zd,ze]
 refine GT.jr [17,18] hHeld (fun _ _ _ _ _ h=>h) (by kernel_rfl) ?_;refine .c (v:= .bool false) rfl rfl (fun V c=>by go_simp<;>with_reducible rfl) ?_;try simp only[Act.put,zb,zd,ze];refine .c (v:= .bool false) rfl rfl (fun V c=>by go_simp<;>with_reducible rfl) ?_;try simp only[Act.put,zb,zd,ze];refine .nil ?_;obtain⟨n0,n1,n2,n3,m0,m1,m2,m3⟩:=aN J.out;refine GT.fF 19 (fun K z=> ?_) rfl (by kernel_rfl);go_simp;refine z.out _ _ ⟨(cQ (by simp;omega) _ _ _ _ _).trans B,(cQ (by simp;omega) _ _ _ _ _).trans C,(cQ (by simp;omega) _ _ _ _ _).trans E,(cQ (by simp;omega) _ _ _ _ _).trans G,(cQ (by simp;omega) _ _ _ _ _).trans D,(cQ (by simp;omega) _ _ _ _ _).trans F,(cQ (by simp;omega) _ _ _ _ _).trans L⟩ (fun hHeld=> ?_);clear z K;try simp only[Act.put,zb,zd,ze]
 refine GT.oL 20 ?_ rfl (by kernel_rfl);go_simp;go_wp2;have Y:=(J.out.drewN (1+nq)).set 0 (.int .i64 q);have O:=Y.set 1 (.int .i64 u);have X:=O.set 2 (.slice y l x);have aa:=X.set 3 (.int .i64 r);have R:=Y.cell 0;have M:=O.cell 1;have U:=X.cell 2;have N:=aa.cell 3;simp at R M U N;have W:Below w.heap.size w (((((H.drewN (1+nq)).setCell ⟨w.heap.size,0,none⟩ (.int .i64 q)).setCell ⟨w.heap.size,1,none⟩ (.int .i64 u)).setCell ⟨w.heap.size,2,none⟩ (.slice y l x)).setCell ⟨w.heap.size,3,none⟩ (.int .i64 r)):=(((((S.out.bJ _).setCell (by simp) _).setCell (by simp) _).setCell (by simp) _).setCell (by simp) _)
 refine zk (v:= .tuple #[.agg #[.int .i64 q,.int .i64 u,.slice y l x,.int .i64 r],.bool false]) (by simp[results,results221,go_sem,R,M,U,N]) rfl ⟨rfl,W⟩
theorem QF (f d:Nat)(hd:d<=8)(IH:Hid (∀(g:Nat) (s:ByteArray) (p L:Nat) (w:World),jy w g s p L->p<=s.size->s.size<=100000->L<=64->
 Calls prog 157 #[.pointer (some ⟨g,0,none⟩),.int .i64 ((d:Int)+1)] w fun e w'=>ky w g s f L p e w')) (g:Nat) (s:ByteArray) (p L:Nat) (w:World) (h:jy w g s p L) (hp:p<s.size) (X:s.size<=100000) (hL:0<L) (Oo:L<=64) (hc:s[p].toNat=91):
 Calls prog 157 #[.pointer (some ⟨g,0,none⟩),.int .i64 d] w fun e w'=>ky w g s (f+1) L p e w':=by
 have U:((s[p].toNat:Int)==117)=false:=zm.2 (by omega);have Y:((s[p].toNat:Int)==98)=false:=zm.2 (by omega);have ed:IntKind.i64.wrap ((d:Int)+1)=(d:Int)+1:=yc _ (by omega);have GR:Hid (aL (f+1) (s.data.toList.drop p)=uX (aL f (s.data.toList.drop (p+1)))):=za (by rw[qJ (c:=91) hp hc,Kx]);have R:=za (sZ.start h);generalize hW:((w.alloc (.cells #[.pointer (some ⟨g,0,none⟩)] 203)).alloc (.cells #[.int .i64 0,.int .i64 0,.slice none 0 0,.int .i64 0] 43))=W at*;obtain⟨g0,g1,g2,f0,f1,f2,pH⟩:=R.out.rd.cells;have b0:W.cell? ⟨w.heap.size,0,none⟩=some (.pointer (some ⟨g,0,none⟩)):=R.out.box.cell 0;have Aq:=R.out.glt;have d1:decide ((8:Int)<(d:Int))=false:=zu (by omega);have dL:((L:Int)==0)=false:=zm.2 (by omega);have dp:((p:Int)==(s.size:Int))=false:=zm.2 (by omega);have ew:IntKind.i64.wrap ((L:Int)-1)=(L:Int)-1:=yc _ (by omega);clear h;go_enter xQ,xI
 go_wp2_with fail
 go_quiet (fail)
 obtain⟨nP,rfl⟩:∃nP,nP=nq:=⟨nq,rfl⟩
 go_wp2_with fail
 go_quiet (fail)
 have DP:=za (R.out.step ((L:Int)-1) ((p:Int)+1) nP nq (L':=L-1) (p':=p+1) (by omega) (by omega));have HI:=za (IH.out g s (p+1) (L-1) _ DP.out.rd (by omega) X (by omega));clear IH;go_wp2_with fail
 refine HI.out.mono ?_;rintro e J ⟨x,ok,q,l,k,z,M,A,n,cap,rfl,hr,ho,ar,hn,ai⟩;have iV:=za (DP.out.dJ ho hr);have Bg:=za hn;have aq:=za ai;have YA:=iV.out.siz;have hq:=hn.2.2;clear hr ho hn ai HI;have N:=za (iV.out.below (V':=J.alloc (.cells #[.int .i64 k,.int .i64 z,.slice A n cap,.int .i64 M] 43)) bD);obtain⟨n0,n1,n2,n3,m0,m1,m2,m3⟩:=aN N.out.res;have b2:(J.alloc (.cells #[.int .i64 k,.int .i64 z,.slice A n cap,.int .i64 M] 43)).cell? ⟨w.heap.size,0,none⟩=some (.pointer (some ⟨g,0,none⟩)):=N.out.box.cell 0;have Bh:w.heap.size+1<J.heap.size:=by omega
 cases ok with
 |false=>
  obtain⟨k0,k1,k2,k3,l0,l1,l2,l3⟩:=aN iV.out.res;have au:¬J.heap.size=w.heap.size+1:=by omega
  go_wp2;obtain⟨E1,E2,B,o,E,y⟩:=iV.out.ends (.int .i64 0) (.int .i64 0) (.slice none 0 0) (.int .i64 0);refine zk (v:= .tuple #[.agg #[.int .i64 0,.int .i64 0,.slice none 0 0,.int .i64 0],.bool false]) (by simp[results,yw,go_sem,B,o,E,y,zA,Bh]) rfl ?_;exact⟨.mk 0 0 [] 0,false,q,l,_,_,_,_,_,_,rfl,af.alloc (show af _ g _ _ from E1) _,E2.alloc _,by omega,Je hL GR.out Bg.out hq,(by intro h;cases h)⟩
 |true=>
  go_wp2_with fail
  by_cases Wa:∃hq:q<s.size,s[q].toNat=58
  ·obtain⟨Bi,S6⟩:=Wa;refine(fh g s q l 58 _ N.out.rd Bi X S6).mono ?_;rintro e w2 ⟨rfl,iT,cY⟩;have uC:=za (N.out.dJ cY iT);have ag:=za (n7 g w.heap.size s (q+1) l 1024 4 _ uC.out.rd uC.out.box (by omega) X (by omega));clear n0 n1 n2 n3 m0 m1 m2 m3 b2;go_wp2_with fail
   refine ag.out.mono ?_;rintro e w3 ⟨b,ao,G,rfl,tU,lJ,Yv⟩;have Bj:=za (uC.out.dJ lJ tU);have I:=za Yv;have HT:=za (((af.new J 43 #[.int .i64 k,.int .i64 z,.slice A n cap,.int .i64 M]).only cY (by simp;omega)).only lJ (by simp;omega));have av:J.heap.size<w3.heap.size:=HT.out.lt;obtain⟨t0,t1,t2,t3,_,_,_,_⟩:=aN HT.out;have aj:=za (HT.out.alloc (.cells #[.int .i64 4,.int .i64 b,.slice none 0 0,.int .i64 0] 43));obtain⟨u0,u1,u2,u3,_,_,_,_⟩:=aN aj.out;have ak:Hid (fE w3 (w.heap.size+2<= ·) x (.int .i64 k) (.int .i64 z) (.slice A n cap) (.int .i64 M)):=za ((aq.out (by first|rfl|trivial)).only ((((ae.refl [g] J).alloc _).trans cY).trans lJ) (by simp[World.setCell]<;>(have:=R.out.siz;omega)) (fun k _ hk=>by simp[World.setCell]at hk;have:=R.out.siz;omega));obtain⟨i,O⟩:∃i,((w3.alloc (.cells #[.int .i64 4,.int .i64 b,.slice (some ⟨w3.heap.size+1,0,none⟩) 1 1,.int .i64 0] 43)).alloc (.cells #[.int .i64 k,.int .i64 z,.slice A n cap,.int .i64 M] 43))=i:=⟨_,rfl⟩
   have RR:Hid (af i w3.heap.size 43 #[.int .i64 4,.int .i64 b,.slice (some ⟨w3.heap.size+1,0,none⟩) 1 1,.int .i64 0]):=za (by rw[<-O];exact(af.new w3 _ _).alloc _);have J4:Hid (af i (w3.heap.size+1) 43 #[.int .i64 k,.int .i64 z,.slice A n cap,.int .i64 M]):=za (by rw[<-O];exact af.at_ (by simp));have r:Hid (sZ w g s G l i):=za (by rw[<-O];exact Bj.out.below bD);have an:Hid (b<=1024->fE i (w.heap.size+2<= ·) (.mk 4 b [x] 0) (.int .i64 4) (.int .i64 b) (.slice (some ⟨w3.heap.size+1,0,none⟩) 1 1) (.int .i64 0)):=za (by
    intro S4;obtain⟨x0,x1,x2,x3,_⟩:=aN J4.out;refine⟨rfl,rfl,rfl,aD (by omega) (by omega),aD (by omega) (by omega),aD (by omega) (by omega),by simp,_,_,rfl,by simp,by simp,⟨_,_,_,_,_,_,rfl, ?_,x0,x1,x2,x3, ?_⟩,trivial⟩
    ·show w.heap.size+2<=w3.heap.size+1
     omega
    exact ak.out.below (by rw[<-O];exact bD))
   have S:Hid (∀V,af V w3.heap.size 43 #[.int .i64 4,.int .i64 b,.slice (some ⟨w3.heap.size+1,0,none⟩) 1 1,.int .i64 0]->af V w.heap.size 203 #[.pointer (some ⟨g,0,none⟩)]->V.cell? ⟨w3.heap.size,0,none⟩=some (.int .i64 4)/\V.cell? ⟨w3.heap.size,1,none⟩=some (.int .i64 b)/\V.cell? ⟨w3.heap.size,2,none⟩=some (.slice (some ⟨w3.heap.size+1,0,none⟩) 1 1)/\V.cell? ⟨w3.heap.size,3,none⟩=some (.int .i64 0)/\V.cell? ⟨w.heap.size,0,none⟩=some (.pointer (some ⟨g,0,none⟩))):=za (fun V u D=>by
    obtain⟨a0,a1,a2,a3,_⟩:=aN u;exact⟨a0,a1,a2,a3,D.cell 0⟩)
   have al:=za O;clear Yv tU lJ iT cY ag O;go_wp2_with fail
   rw[al.out];clear t0 t1 t2 t3 u0 u1 u2 u3;have hHeld:=S.out i.drew RR.out.drew r.out.box.drew;cases ao with
   |false=>
    refine aB 7 (fun V=>V.cell? ⟨w3.heap.size,0,none⟩=some (.int .i64 4)/\V.cell? ⟨w3.heap.size,1,none⟩=some (.int .i64 b)/\V.cell? ⟨w3.heap.size,2,none⟩=some (.slice (some ⟨w3.heap.size+1,0,none⟩) 1 1)/\V.cell? ⟨w3.heap.size,3,none⟩=some (.int .i64 0)/\V.cell? ⟨w.heap.size,0,none⟩=some (.pointer (some ⟨g,0,none⟩))) (by kernel_rfl) (by kernel_rfl) ?_;refine GT.jr [0,1,2,3,4,5] hHeld (fun _ _ _ _ _ h=>h) (by kernel_rfl) ?_;iterate 3 (refine .c rfl rfl (fun V hV=>by go_simp<;>with_reducible rfl) ?_;simp only[Act.put,zb,zd,ze])
    refine .u rfl rfl ?_;try simp only[Act.put,zb,zd,ze];refine .u rfl rfl ?_;try simp only[Act.put,zb,zd,ze];refine .c rfl rfl (fun V hV=>by go_simp<;>with_reducible rfl) ?_;simp only[Act.put,zb,zd,ze];refine .nil ?_;obtain⟨n0,n1,n2,n3,m0,m1,m2,m3⟩:=aN r.out.res;refine GT.fF 6 (fun K j=> ?_) rfl (by kernel_rfl);go_simp;have H:ae [w.heap.size+1] i ((((i.setCell ⟨w.heap.size+1,0,none⟩ (.int .i64 4)).setCell ⟨w.heap.size+1,1,none⟩ (.int .i64 b)).setCell ⟨w.heap.size+1,2,none⟩ (.slice (some ⟨w3.heap.size+1,0,none⟩) 1 1)).setCell ⟨w.heap.size+1,3,none⟩ (.int .i64 0)):=((((ae.refl _ _).setCell (by simp) _).setCell (by simp) _).setCell (by simp) _).setCell (by simp) _;refine j.out _ _ (S.out _ (RR.out.only H (by simp;omega)).drew (r.out.box.only H (by simp)).drew) (fun hHeld=> ?_);clear j K;try simp only[Act.put,zb,zd,ze]
    refine GT.oL 7 ?_ rfl (by kernel_rfl);go_simp;obtain⟨U,Y,B,o,E,y⟩:=r.out.ends (.int .i64 4) (.int .i64 b) (.slice (some ⟨w3.heap.size+1,0,none⟩) 1 1) (.int .i64 0);go_wp2;refine zk (v:= .tuple #[.agg #[.int .i64 4,.int .i64 b,.slice (some ⟨w3.heap.size+1,0,none⟩) 1 1,.int .i64 0],.bool false]) (by simp[results,yw,go_sem,B,o,E,y]) rfl ?_;exact⟨.mk 0 0 [] 0,false,G,l,_,_,_,_,_,_,rfl,af.drew (show af _ g _ _ from U),Y.drew,by omega,po GR.out Bg.out (Qy x Bi S6 I.out L) I.out.2.2.1,(by intro h;cases h)⟩
   |true=>
    by_cases pC:∃RQ:G<s.size,s[G].toNat=93
    ·obtain⟨RQ,V9⟩:=pC;have aa:=za (fh g s G l 93 _ (af.drew (show af i g _ _ from r.out.rd)) RQ X V9);refine aB 7 (fun V=>V.cell? ⟨w3.heap.size,0,none⟩=some (.int .i64 4)/\V.cell? ⟨w3.heap.size,1,none⟩=some (.int .i64 b)/\V.cell? ⟨w3.heap.size,2,none⟩=some (.slice (some ⟨w3.heap.size+1,0,none⟩) 1 1)/\V.cell? ⟨w3.heap.size,3,none⟩=some (.int .i64 0)/\V.cell? ⟨w.heap.size,0,none⟩=some (.pointer (some ⟨g,0,none⟩))) (by kernel_rfl) (by kernel_rfl) ?_;refine GT.jr [0,1,2,3] hHeld (fun _ _ _ _ _ h=>h) (by kernel_rfl) ?_;repeat(refine .c rfl rfl (fun V hV=>by go_simp<;>with_reducible rfl) ?_;simp only[Act.put,zb,zd,ze])
     refine .nil ?_;refine GT.fF 4 (fun K j=> ?_) rfl (by kernel_rfl);go_simp;refine aa.out.mono ?_;rintro e m ⟨rfl,Z,ad⟩;have C:ae [g] i m:=(ae.refl [g] i).drew.trans ad;clear ad;have F:=za (r.out.dJ C Z);have ah:=za C;have OT:=za (RR.out.only C (by simp;omega));clear hHeld Z C;go_wp2_with fail
     refine j.out _ _ (S.out m OT.out F.out.box) (fun hHeld=> ?_);clear j K;try simp only[Act.put,zb,zd,ze]
     refine GT.jr [5] hHeld (fun _ _ _ _ _ h=>h) (by kernel_rfl) ?_;refine .c rfl rfl (fun V hV=>by go_simp<;>with_reducible rfl) ?_;simp only[Act.put,zb,zd,ze];refine .nil ?_;obtain⟨n0,n1,n2,n3,m0,m1,m2,m3⟩:=aN F.out.res;refine GT.fF 6 (fun K j=> ?_) rfl (by kernel_rfl);go_simp;have H:ae [w.heap.size+1] m ((((m.setCell ⟨w.heap.size+1,0,none⟩ (.int .i64 4)).setCell ⟨w.heap.size+1,1,none⟩ (.int .i64 b)).setCell ⟨w.heap.size+1,2,none⟩ (.slice (some ⟨w3.heap.size+1,0,none⟩) 1 1)).setCell ⟨w.heap.size+1,3,none⟩ (.int .i64 0)):=((((ae.refl _ _).setCell (by simp) _).setCell (by simp) _).setCell (by simp) _).setCell (by simp) _;refine j.out _ _ (S.out _ (OT.out.only H (by simp;omega)) (F.out.box.only H (by simp))) (fun hHeld=> ?_);clear j K;try simp only[Act.put,zb,zd,ze]
     refine GT.oL 7 ?_ rfl (by kernel_rfl);go_simp;obtain⟨U,Y,B,o,E,y⟩:=F.out.ends (.int .i64 4) (.int .i64 b) (.slice (some ⟨w3.heap.size+1,0,none⟩) 1 1) (.int .i64 0);go_wp2;refine zk (v:= .tuple #[.agg #[.int .i64 4,.int .i64 b,.slice (some ⟨w3.heap.size+1,0,none⟩) 1 1,.int .i64 0],.bool true]) (by simp[results,yw,go_sem,B,o,E,y]) rfl ?_;exact⟨.mk 4 b [x] 0,true,G+1,l,_,_,_,_,_,_,rfl,U,Y,by omega,Jf hL GR.out Bg.out (Qz x Bi S6 I.out RQ V9) (by have:=(I.out.1 rfl).2.2;omega) (by omega),fun _=>((an.out I.out.2.2.2).only ah.out (by simp;omega) (fun _ _ h=>h)).only (L:= [w.heap.size+1]) (((((ae.refl _ m).setCell (by simp) _).setCell (by simp) _).setCell (by simp) _).setCell (by simp) _) (by simp) (fun _ _ h=>by omega)⟩
    have aa:=za (gy g s G l 93 _ (af.drew (show af i g _ _ from r.out.rd)) I.out.2.2.1 X (fun u D=>pC ⟨u,D⟩));refine aB 7 (fun V=>V.cell? ⟨w3.heap.size,0,none⟩=some (.int .i64 4)/\V.cell? ⟨w3.heap.size,1,none⟩=some (.int .i64 b)/\V.cell? ⟨w3.heap.size,2,none⟩=some (.slice (some ⟨w3.heap.size+1,0,none⟩) 1 1)/\V.cell? ⟨w3.heap.size,3,none⟩=some (.int .i64 0)/\V.cell? ⟨w.heap.size,0,none⟩=some (.pointer (some ⟨g,0,none⟩))) (by kernel_rfl) (by kernel_rfl) ?_;refine GT.jr [0,1,2,3] hHeld (fun _ _ _ _ _ h=>h) (by kernel_rfl) ?_;repeat(refine .c rfl rfl (fun V hV=>by go_simp<;>with_reducible rfl) ?_;simp only[Act.put,zb,zd,ze])
    refine .nil ?_;refine GT.fF 4 (fun K j=> ?_) rfl (by kernel_rfl);go_simp;refine aa.out.mono ?_;rintro e m ⟨rfl,n6,ab⟩;have Z:jy m g s G l:=by rw[ab];exact r.out.rd
    have C:ae [g] i m:=by rw[ab];exact(ae.refl [g] i).drew.drewN _
    clear ab;have F:=za (r.out.dJ C Z);have ah:=za C;have OT:=za (RR.out.only C (by simp;omega));clear hHeld Z C;go_wp2_with fail
    refine j.out _ _ (S.out m OT.out F.out.box) (fun hHeld=> ?_);clear j K;try simp only[Act.put,zb,zd,ze]
    refine GT.jr [5] hHeld (fun _ _ _ _ _ h=>h) (by kernel_rfl) ?_;refine .c rfl rfl (fun V hV=>by go_simp<;>with_reducible rfl) ?_;simp only[Act.put,zb,zd,ze];refine .nil ?_;obtain⟨n0,n1,n2,n3,m0,m1,m2,m3⟩:=aN F.out.res;refine GT.fF 6 (fun K j=> ?_) rfl (by kernel_rfl);go_simp;have H:ae [w.heap.size+1] m ((((m.setCell ⟨w.heap.size+1,0,none⟩ (.int .i64 4)).setCell ⟨w.heap.size+1,1,none⟩ (.int .i64 b)).setCell ⟨w.heap.size+1,2,none⟩ (.slice (some ⟨w3.heap.size+1,0,none⟩) 1 1)).setCell ⟨w.heap.size+1,3,none⟩ (.int .i64 0)):=((((ae.refl _ _).setCell (by simp) _).setCell (by simp) _).setCell (by simp) _).setCell (by simp) _;refine j.out _ _ (S.out _ (OT.out.only H (by simp;omega)) (F.out.box.only H (by simp))) (fun hHeld=> ?_);clear j K;try simp only[Act.put,zb,zd,ze]
    refine GT.oL 7 ?_ rfl (by kernel_rfl);go_simp;obtain⟨U,Y,B,o,E,y⟩:=F.out.ends (.int .i64 4) (.int .i64 b) (.slice (some ⟨w3.heap.size+1,0,none⟩) 1 1) (.int .i64 0);go_wp2;refine zk (v:= .tuple #[.agg #[.int .i64 4,.int .i64 b,.slice (some ⟨w3.heap.size+1,0,none⟩) 1 1,.int .i64 0],.bool false]) (by simp[results,yw,go_sem,B,o,E,y]) rfl ?_;exact⟨.mk 0 0 [] 0,false,G,l,_,_,_,_,_,_,rfl,U,Y,by omega,po GR.out Bg.out (Nu x Bi S6 I.out (fun u D=>pC ⟨u,D⟩) L) I.out.2.2.1,(by intro h;cases h)⟩
  refine(gy g s q l 58 _ N.out.rd hq X (fun u D=>Wa ⟨u,D⟩)).mono ?_;rintro e w2 ⟨rfl,n5,rfl⟩;go_wp2;obtain⟨E1,E2,B,o,E,y⟩:=(N.out.below (V':=(J.alloc (.cells #[.int .i64 k,.int .i64 z,.slice A n cap,.int .i64 M] 43)).drewN n5) bD).ends (.int .i64 0) (.int .i64 0) (.slice none 0 0) (.int .i64 0);refine zk (v:= .tuple #[.agg #[.int .i64 0,.int .i64 0,.slice none 0 0,.int .i64 0],.bool false]) (by simp[results,yw,go_sem,B,o,E,y]) rfl ?_;exact⟨.mk 0 0 [] 0,false,q,l,_,_,_,_,_,_,rfl,E1,E2,by omega,po GR.out Bg.out (Qx x (fun u D=>Wa ⟨u,D⟩) L) hq,(by intro h;cases h)⟩
def acj (w:World)(g:Nat)(s:ByteArray)(L:Nat)(R:Option (Ty×List UInt8))(e:Ending)(w':World):Prop:=
 ∃(t:Ty) (ok:Bool) (q L':Nat) (k z ta:Int) (A:Option Addr) (n cap:Nat),e= .returned (.tuple #[.agg #[.int .i64 k,.int .i64 z,.slice A n cap,.int .i64 ta],.bool ok])/\jy w' g s q L'/\ae [g] w w'/\L'<=L/\Pq (1+L) s R t ok q L'/\(ok=true->fE w' (w.heap.size<= ·) t (.int .i64 k) (.int .i64 z) (.slice A n cap) (.int .i64 ta))
structure pt (w:World)(g:Nat)(s:ByteArray)(p L:Nat)(acc:List Ty)(tl:Nat)(v:Value)(V:World):Prop where
 res:af V w.heap.size 43 #[.int .i64 0,.int .i64 0,.slice none 0 0,.int .i64 0]
 bx:af V (w.heap.size+1) 43 #[.int .i64 5,.int .i64 0,v,.int .i64 tl]
 acc:eQ V (w.heap.size+2) acc v
 rd:jy V g s p L
 only:ae [g] w V
 siz:w.heap.size+2<=V.heap.size
 glt:g<w.heap.size
theorem pt.start (h:jy w g s p L):pt w g s p L [] 0 (.slice none 0 0) ((w.alloc (.cells #[.int .i64 0,.int .i64 0,.slice none 0 0,.int .i64 0] 43)).alloc (.cells #[.int .i64 5,.int .i64 0,.slice none 0 0,.int .i64 0] 43)) where
 res:=(af.new w _ _).alloc _
 bx:=af.at_ (by simp)
 acc:=eQ.nil _ _
 rd:=(af.alloc (show af w g _ _ from h) _).alloc _
 only:=((ae.refl _ w).alloc _).alloc _
 siz:=by simp
 glt:=af.lt (show af w g _ _ from h)
theorem pt.dJ {p' L' c:Nat}(h:pt w g s p L acc c v V)(b:ae [g] V V')(d:jy V' g s p' L'):pt w g s p' L' acc c v V' where
 res:=h.res.only b (by have:=h.glt;simp;omega)
 bx:=h.bx.only b (by have:=h.glt;simp;omega)
 acc:=h.acc.only b (by have:=h.glt;simp;omega)
 rd:=d
 only:=h.only.trans b
 siz:=zK h.siz b.size
 glt:=h.glt
theorem pt.below {b:Nat}(h:pt w g s p L acc b v V)(c:Below V.heap.size V V'):pt w g s p L acc b v V':=h.dJ ((ae.ah c (zg _)).mono (by simp)) ((c.block _ (af.lt (show af V g _ _ from h.rd))).trans h.rd)
theorem pt.mark {b:Nat}(h:pt w g s p L acc b v V){n:Int}(c:n=(b+1:Nat)):pt w g s p L acc (b+1) v (V.setCell ⟨w.heap.size+1,3,none⟩ (.int .i64 n)) where
 res:=h.res.dS (by simp) _
 bx:=by subst c;exact h.bx.store rfl
 acc:=h.acc.only ((ae.refl [w.heap.size+1] V).setCell (by simp) _) (by simp)
 rd:=af.dS (show af V g _ _ from h.rd) (by have:=h.glt;simp;omega) _
 only:=h.only.setCell (by simp) _
 siz:=by simp[World.setCell];exact h.siz
 glt:=h.glt
theorem pt.more {i:List Ty}{c:Value}(h:pt w g s p L acc j v V)(b:V.grownBy V' v.ownBlock)(m:eQ V' (w.heap.size+2) i c):pt w g s p L i j c (V'.setCell ⟨w.heap.size+1,2,none⟩ c):=
 have d:∀k,k<w.heap.size+2->v.ownBlock≠some k:=fun k l e=>by have:=(h.acc.ge k e).1;omega
 ⟨(h.res.grown b (d _ (by omega))).dS (by simp) _,
  (h.bx.grown b (d _ (by omega))).store rfl,
  m.only ((ae.refl [w.heap.size+1] V').setCell (by simp) _) (by simp),
  (af.grown (show af V g _ _ from h.rd) b (d _ (by have:=h.glt;omega))).dS (by have:=h.glt;simp;omega) _,
  (h.only.grown b (fun k l=> .inr (by have:=(h.acc.ge k l).1;omega))).setCell (by simp) _,
  (by simp[World.setCell];exact zK h.siz b.size),
  h.glt⟩
theorem pt.ends (h:pt w g s p L acc i v V)(b c d e:Value):
 jy ((((V.setCell ⟨w.heap.size,0,none⟩ b).setCell ⟨w.heap.size,1,none⟩ c).setCell ⟨w.heap.size,2,none⟩ d).setCell ⟨w.heap.size,3,none⟩ e) g s p L/\ae [g] w ((((V.setCell ⟨w.heap.size,0,none⟩ b).setCell ⟨w.heap.size,1,none⟩ c).setCell ⟨w.heap.size,2,none⟩ d).setCell ⟨w.heap.size,3,none⟩ e)/\
 (V.setCell ⟨w.heap.size,0,none⟩ b).cell? ⟨w.heap.size,0,none⟩=some b/\((V.setCell ⟨w.heap.size,0,none⟩ b).setCell ⟨w.heap.size,1,none⟩ c).cell? ⟨w.heap.size,1,none⟩=some c/\(((V.setCell ⟨w.heap.size,0,none⟩ b).setCell ⟨w.heap.size,1,none⟩ c).setCell ⟨w.heap.size,2,none⟩ d).cell? ⟨w.heap.size,2,none⟩=some d/\((((V.setCell ⟨w.heap.size,0,none⟩ b).setCell ⟨w.heap.size,1,none⟩ c).setCell ⟨w.heap.size,2,none⟩ d).setCell ⟨w.heap.size,3,none⟩ e).cell? ⟨w.heap.size,3,none⟩=some e:=
 have n1:g≠w.heap.size:=by have:=h.glt;omega
 ⟨(((af.dS (show af V g _ _ from h.rd) (p:=⟨w.heap.size,0,none⟩) n1 _).dS (p:=⟨w.heap.size,1,none⟩) n1 _).dS (p:=⟨w.heap.size,2,none⟩) n1 _).dS (p:=⟨w.heap.size,3,none⟩) n1 _,(((h.only.setCell (by simp) _).setCell (by simp) _).setCell (by simp) _).setCell (by simp) _,by have:=(h.res.set 0 b).cell 0;simpa using this,by have:=((h.res.set 0 b).set 1 c).cell 1;simpa using this,by have:=(((h.res.set 0 b).set 1 c).set 2 d).cell 2;simpa using this,by have:=((((h.res.set 0 b).set 1 c).set 2 d).set 3 e).cell 3;simpa using this⟩
theorem pt.ty {b:Nat}(h:pt w g s p L acc b v V)(m:acc.length<=200000)(n:b<=200000)(d e c j:Value):fE ((((V.setCell ⟨w.heap.size,0,none⟩ d).setCell ⟨w.heap.size,1,none⟩ e).setCell ⟨w.heap.size,2,none⟩ c).setCell ⟨w.heap.size,3,none⟩ j) (w.heap.size<= ·) (.mk 5 0 acc b) (.int .i64 5) (.int .i64 0) v (.int .i64 b):=by
 have l:eQ _ (w.heap.size+2) acc v:=h.acc.only (L:= [w.heap.size]) (w':=(((V.setCell ⟨w.heap.size,0,none⟩ d).setCell ⟨w.heap.size,1,none⟩ e).setCell ⟨w.heap.size,2,none⟩ c).setCell ⟨w.heap.size,3,none⟩ j) (((((ae.refl _ _).setCell (by simp) _).setCell (by simp) _).setCell (by simp) _).setCell (by simp) _) (by simp);refine fE.gQ (l.ty (by omega) (aD (by omega) (by omega)) (aD (by omega) (by omega)) (aD (by omega) (by omega))) fun k _ i=> ?_
 have i:w.heap.size+2<=k:=i;show w.heap.size<=k
 omega
theorem Ji (f d:Nat)(hd:d<=8)(IH:Hid (∀(g:Nat) (s:ByteArray) (p L:Nat) (w:World),jy w g s p L->p<=s.size->s.size<=100000->L<=64->
 Calls prog 157 #[.pointer (some ⟨g,0,none⟩),.int .i64 ((d:Int)+1)] w fun e w'=>ky w g s f L p e w')) (g:Nat) (s:ByteArray) (p L:Nat) (ae:Option (Ty×List UInt8)) (w:World) (h:jy w g s p L) (hT:Hid (eT f s ae p [] 0)) (hp:p<=s.size) (Z:s.size<=100000) (Oo:L<=64):
 Calls prog 188 #[.pointer (some ⟨g,0,none⟩),.int .i64 d] w fun e w'=>acj w g s L ae e w':=by
 have ed:IntKind.i64.wrap ((d:Int)+1)=(d:Int)+1:=yc _ (by omega);have cG:=za (pt.start h);clear h;go_enter func188,ntmps188
 go_wp2_with fail
 by_cases Wa:∃hq:p<s.size,s[p].toNat=125
 ·obtain⟨Bi,F⟩:=Wa;refine(fh g s p L 125 _ cG.out.rd Bi Z F).mono ?_;rintro e w1 ⟨rfl,an,ao⟩;have iV:=za (cG.out.dJ ao an);clear an ao;obtain⟨H,J,R,U,K,N,X,G⟩:=aN iV.out.res;obtain⟨B,r,C,z,m,u,x,D⟩:=aN iV.out.bx;go_wp2;obtain⟨S,Y,O,I,W,M⟩:=iV.out.ends (.int .i64 5) (.int .i64 0) (.slice none 0 0) (.int .i64 0);refine zk (v:= .tuple #[.agg #[.int .i64 5,.int .i64 0,(.slice none 0 0),.int .i64 0],.bool true]) (by simp[results,xD,go_sem,O,I,W,M]) rfl ?_;exact⟨.mk 5 0 [] 0,true,p+1,L,_,_,_,_,_,_,rfl,S,Y,zg _,Jh (hT.out.ends Bi F) (by simp[ba]) (by omega),fun _=>iV.out.ty (by simp) (by omega) _ _ _ _⟩
 have tW:=za (Jg hT.out (fun i j=>Wa ⟨i,j⟩));refine(gy g s p L 125 _ cG.out.rd hp Z (fun i j=>Wa ⟨i,j⟩)).mono ?_;rintro e w1 ⟨rfl,n1,pF⟩;have iV:Hid (pt w g s p L [] 0 (.slice none 0 0) w1):=za (by rw[pF];exact cG.out.below bD);clear pF Wa;go_wp2_with fail
 go_loopw [7] (fun _ wr=>∃(q Lc:Nat) (acc:List Ty) (l:Nat) (vv:Value),q<=s.size/\Hid (rD f s ae q acc l)/\Hid (Lc+ba acc=L)/\Lc<=L/\acc.length<=q/\l<=q/\Hid (pt w g s q Lc acc l vv wr)) (fun _ wr=>s.size-Ql (wr.cell? ⟨g,1,none⟩))
 case atStart=>exact⟨p,L,[],0,_,hp,tW,za (by simp[ba]),zg _,by simp,by omega,iV⟩
 case round=>
  clear cG iV tW;obtain⟨q,Lc,acc,l,vv,hq,tW,Ar,aE,As,tv,HW⟩:=hrel;obtain⟨c0,c1,c2,av,aw,ar,pC⟩:=HW.out.rd.cells;obtain⟨A2,n2,cn,rfl,JW,aC,aH⟩:=HW.out.acc.cH;obtain⟨H,J,R,U,K,N,X,G⟩:=aN HW.out.res;obtain⟨B,r,C,z,m,u,x,D⟩:=aN HW.out.bx;clear c0 c2 av aw ar;by_cases DQ:∃hq:q<s.size,s[q].toNat=63
  ·obtain⟨Bi,DQ⟩:=DQ;have aD:IntKind.i64.wrap ((l:Int)+1)=(l:Int)+1:=yc _ (by omega);clear H J R U K N X G B r C z m u x D;go_wp2_with fail
   refine(fh g s q Lc 63 _ HW.out.rd Bi Z DQ).mono ?_;rintro e w2 ⟨rfl,iT,cY⟩;have sq:=za (HW.out.dJ cY iT);clear iT cY;obtain⟨H,J,R,U,K,N,X,G⟩:=aN sq.out.res;obtain⟨B,r,C,z,m,u,x,D⟩:=aN sq.out.bx;obtain⟨W3,oX⟩:∃W3,w2.setCell ⟨w.heap.size+1,3,none⟩ (.int .i64 ((l:Int)+1))=W3:=⟨_,rfl⟩
   obtain⟨T,ak⟩:∃T,l+1=T:=⟨_,rfl⟩
   have uC:Hid (pt w g s (q+1) Lc acc T (.slice A2 n2 cn) W3):=za (by rw[<-oX,<-ak];exact sq.out.mark (by omega));have oy:Hid (Po f s ae (q+1) acc T):=za (by rw[<-ak];exact tW.out.mark Bi DQ);have az:=za oX;have hQ:q+1<=s.size:=by omega
   have aF:T<=q+1:=by omega
   clear oX ak;go_wp2_with fail
   rw[az.out];refine(IH.out g s ((q+1)) Lc W3 uC.out.rd hQ Z (by omega)).mono ?_;rintro e w4 ⟨y,ok,b,c,k,ai,ta,A,n,cap,rfl,hr,ho,aA,hn,my⟩;have Bj:=za (uC.out.dJ ho hr);have Bg:=za hn;have ah:=za my;have RQ:=hn.2.2;have aB:=uC.out.siz;have ay:=Bj.out.siz;have YY:w.heap.size<w4.heap.size:=by omega
   have au:w.heap.size+1<w4.heap.size:=by omega
   clear hr ho hn my H J R U K N X G B r C z m u x D;obtain⟨H,J,R,U,K,N,X,G⟩:=aN Bj.out.res;obtain⟨B,r,C,z,m,u,x,D⟩:=aN Bj.out.bx;cases ok with
   |false=>
    go_wp2;obtain⟨S,Y,O,I,W,M⟩:=Bj.out.ends (.int .i64 0) (.int .i64 0) (.slice none 0 0) (.int .i64 0);refine zk (v:= .tuple #[.agg #[.int .i64 0,.int .i64 0,.slice none 0 0,.int .i64 0],.bool false]) (by simp[results,xD,go_sem,O,I,W,M,zA,YY]) rfl ?_;exact⟨.mk 0 0 [] 0,false,b,c,_,_,_,_,_,_,rfl,af.alloc (show af _ g _ _ from S) _,Y.alloc _,by omega,QA _ oy.out Bg.out Ar.out,(by intro h;cases h)⟩
   |true=>
    have RT:=za (K8 oy.out hQ Bg.out);obtain⟨_,qW,ax⟩:=Bg.out.1 rfl;have LZ:Hid (c+ba (acc++ [y])=L):=za (by rw[s0];have:=Ar.out;omega);have rq:Hid (∀o o',pt w g s b c acc (T) (.slice A2 n2 cn) ((w4.alloc o).alloc o')):=za (fun o o'=>Bj.out.below bD);have HY:Hid (∀o o',fE ((w4.alloc o).alloc o') (fun k=>w.heap.size+2<=k/\(Value.slice A2 n2 cn).ownBlock≠some k) y (.int .i64 k) (.int .i64 ai) (.slice A n cap) (.int .i64 ta)):=za (fun o o'=>((ah.out (by first|rfl|trivial)).gQ (fun k _ hk=>⟨by have hk:W3.heap.size<=k:=hk;omega,fun e=>by have:=(uC.out.acc.ge k e).2;have hk:W3.heap.size<=k:=hk;omega⟩)).below bD);have al:acc.length<=1000000:=by omega
    clear qW;go_wp2_with (at_builtin;refine cD (by rfl) (.tmp 34) (.tmp 36) (by rfl) (w.heap.size+2) acc (by rfl) (rq.out _ _).acc y (HY.out _ _) _ (by rfl) (by simp) (by simp) (by simp) (by simp) al (by simp only[zp];omega) ?_)
    intro g' n' aj w6 OR GS eW aq;have RS:=af.grown (rq.out _ _).bx eW (fun e=>by have:=((rq.out (.cells #[] 0) (.cells #[] 0)).acc.ge _ e).1;omega);clear H J R U K N X G B r C z m u x D;obtain⟨B,r,C,z,m,u,x,D⟩:=aN RS;obtain⟨W7,oz⟩:∃W7,w6.setCell ⟨w.heap.size+1,2,none⟩ (.slice (some ⟨g',0,none⟩) n' aj)=W7:=⟨_,rfl⟩
    have DS:Hid (pt w g s b c (acc++ [y]) (T) (.slice (some ⟨g',0,none⟩) n' aj) W7):=za (by rw[<-oz];exact(rq.out _ _).more eW GS);have ag:=za oz;clear oz RS eW GS;go_wp2_with fail
    rw[ag.out];clear B r C z m u x D;by_cases F:∃hq:b<s.size,s[b].toNat=125
    ·obtain⟨x',F⟩:=F;refine(fh g s b c 125 _ DS.out.rd x' Z F).mono ?_;rintro e w8 ⟨rfl,aa,OU⟩;have E:=za (DS.out.dJ OU aa);clear aa OU;obtain⟨H,J,R,U,K,N,X,G⟩:=aN E.out.res;obtain⟨B,r,C,z,m,u,x,D⟩:=aN E.out.bx;go_wp2;obtain⟨S,Y,O,I,W,M⟩:=E.out.ends (.int .i64 5) (.int .i64 0) (.slice (some ⟨g',0,none⟩) n' aj) (.int .i64 ((T:Nat):Int));refine zk (v:= .tuple #[.agg #[.int .i64 5,.int .i64 0,(.slice (some ⟨g',0,none⟩) n' aj),.int .i64 ((T:Nat):Int)],.bool true]) (by simp[results,xD,go_sem,O,I,W,M]) rfl ?_;exact⟨.mk 5 0 (acc++ [y]) ((T:Nat):Int),true,b+1,c,_,_,_,_,_,_,rfl,S,Y,by omega,Jh (RT.out.ends x' F) LZ.out (by omega),fun _=>E.out.ty (by simp;omega) (by omega) _ _ _ _⟩
    refine(gy g s b c 125 _ DS.out.rd RQ Z (fun i j=>F ⟨i,j⟩)).mono ?_;rintro e w8 ⟨rfl,n8,ab⟩;have E:Hid (pt w g s b c (acc++ [y]) (T) (.slice (some ⟨g',0,none⟩) n' aj) w8):=za (by rw[ab];exact DS.out.below bD);clear ab;go_wp2_with fail
    by_cases tS:∃hq:b<s.size,s[b].toNat=44
    ·obtain⟨x',tS⟩:=tS;refine(fh g s b c 44 _ E.out.rd x' Z tS).mono ?_;rintro e w9 ⟨rfl,Wb,rr⟩;have Oq:=za (E.out.dJ rr Wb);have c9:=Oq.out.rd.cells.2.1;clear Wb rr;go_wp2;go_roundw
     case rel=>exact⟨b+1,c,acc++ [y],T,_,by omega,za (RT.out.more x' tS (by simp)),LZ,by omega,by simp;omega,by omega,Oq⟩
     case measure=>
      rw[c1,c9];simp only[Ql];omega
    refine(gy g s b c 44 _ E.out.rd RQ Z (fun i j=>tS ⟨i,j⟩)).mono ?_;rintro e w9 ⟨rfl,n9,ad⟩;have Oq:Hid (pt w g s b c (acc++ [y]) (T) (.slice (some ⟨g',0,none⟩) n' aj) w9):=za (by rw[ad];exact E.out.below bD);clear ad;obtain⟨H,J,R,U,K,N,X,G⟩:=aN Oq.out.res;obtain⟨B,r,C,z,m,u,x,D⟩:=aN Oq.out.bx;go_wp2;obtain⟨S,Y,O,I,W,M⟩:=Oq.out.ends (.int .i64 0) (.int .i64 0) (.slice none 0 0) (.int .i64 0);refine zk (v:= .tuple #[.agg #[.int .i64 0,.int .i64 0,.slice none 0 0,.int .i64 0],.bool false]) (by simp[results,xD,go_sem,O,I,W,M]) rfl ?_;exact⟨.mk 0 0 [] 0,false,b,c,_,_,_,_,_,_,rfl,S,Y,by omega,Dg _ (Cc RT.out (by simp) (fun i j=>F ⟨i,j⟩) (fun i j=>tS ⟨i,j⟩)) RQ,(by intro h;cases h)⟩
  go_wp2_with fail
  refine(gy g s q Lc 63 _ HW.out.rd hq Z (fun i j=>DQ ⟨i,j⟩)).mono ?_;rintro e w2 ⟨rfl,aG,uz⟩;have uC:Hid (pt w g s q Lc acc l (.slice A2 n2 cn) w2):=za (by rw[uz];exact HW.out.below bD);clear uz H J R U K N X G B r C z m u x D;obtain⟨H,J,R,U,K,N,X,G⟩:=aN uC.out.res;obtain⟨B,r,C,z,m,u,x,D⟩:=aN uC.out.bx;by_cases Ot:0<l
  ·skip
   go_wp2;obtain⟨S,Y,O,I,W,M⟩:=uC.out.ends (.int .i64 0) (.int .i64 0) (.slice none 0 0) (.int .i64 0);refine zk (v:= .tuple #[.agg #[.int .i64 0,.int .i64 0,.slice none 0 0,.int .i64 0],.bool false]) (by simp[results,xD,go_sem,O,I,W,M]) rfl ?_;exact⟨.mk 0 0 [] 0,false,q,Lc,_,_,_,_,_,_,rfl,S,Y,by omega,Dg _ (tW.out.none_ (fun i j=>DQ ⟨i,j⟩) Ot) hq,(by intro h;cases h)⟩
  have oy:Hid (Po f s ae q acc l):=za (by
   obtain rfl:l=0:=by omega
   exact tW.out.plain (fun i j=>DQ ⟨i,j⟩))
  obtain⟨W3,rfl⟩:∃W3,W3=w2:=⟨w2,rfl⟩
  have hQ:=hq;go_wp2_with fail
  refine(IH.out g s (q) Lc W3 uC.out.rd hQ Z (by omega)).mono ?_;rintro e w4 ⟨y,ok,b,c,k,ai,ta,A,n,cap,rfl,hr,ho,aA,hn,my⟩;have Bj:=za (uC.out.dJ ho hr);have Bg:=za hn;have ah:=za my;have RQ:=hn.2.2;have aB:=uC.out.siz;have ay:=Bj.out.siz;have YY:w.heap.size<w4.heap.size:=by omega
  have au:w.heap.size+1<w4.heap.size:=by omega
  clear hr ho hn my H J R U K N X G B r C z m u x D;obtain⟨H,J,R,U,K,N,X,G⟩:=aN Bj.out.res;obtain⟨B,r,C,z,m,u,x,D⟩:=aN Bj.out.bx;cases ok with
  |false=>
   go_wp2;obtain⟨S,Y,O,I,W,M⟩:=Bj.out.ends (.int .i64 0) (.int .i64 0) (.slice none 0 0) (.int .i64 0);refine zk (v:= .tuple #[.agg #[.int .i64 0,.int .i64 0,.slice none 0 0,.int .i64 0],.bool false]) (by simp[results,xD,go_sem,O,I,W,M,zA,YY]) rfl ?_;exact⟨.mk 0 0 [] 0,false,b,c,_,_,_,_,_,_,rfl,af.alloc (show af _ g _ _ from S) _,Y.alloc _,by omega,QA _ oy.out Bg.out Ar.out,(by intro h;cases h)⟩
  |true=>
   have RT:=za (K8 oy.out hQ Bg.out);obtain⟨_,qW,ax⟩:=Bg.out.1 rfl;have LZ:Hid (c+ba (acc++ [y])=L):=za (by rw[s0];have:=Ar.out;omega);have rq:Hid (∀o o',pt w g s b c acc (l) (.slice A2 n2 cn) ((w4.alloc o).alloc o')):=za (fun o o'=>Bj.out.below bD);have HY:Hid (∀o o',fE ((w4.alloc o).alloc o') (fun k=>w.heap.size+2<=k/\(Value.slice A2 n2 cn).ownBlock≠some k) y (.int .i64 k) (.int .i64 ai) (.slice A n cap) (.int .i64 ta)):=za (fun o o'=>((ah.out (by first|rfl|trivial)).gQ (fun k _ hk=>⟨by have hk:W3.heap.size<=k:=hk;omega,fun e=>by have:=(uC.out.acc.ge k e).2;have hk:W3.heap.size<=k:=hk;omega⟩)).below bD);have al:acc.length<=1000000:=by omega
   clear qW;go_wp2_with (at_builtin;refine cD (by rfl) (.tmp 34) (.tmp 36) (by rfl) (w.heap.size+2) acc (by rfl) (rq.out _ _).acc y (HY.out _ _) _ (by rfl) (by simp) (by simp) (by simp) (by simp) al (by simp only[zp];omega) ?_)
   intro g' n' aj w6 OR GS eW aq;have RS:=af.grown (rq.out _ _).bx eW (fun e=>by have:=((rq.out (.cells #[] 0) (.cells #[] 0)).acc.ge _ e).1;omega);clear H J R U K N X G B r C z m u x D;obtain⟨B,r,C,z,m,u,x,D⟩:=aN RS;obtain⟨W7,oz⟩:∃W7,w6.setCell ⟨w.heap.size+1,2,none⟩ (.slice (some ⟨g',0,none⟩) n' aj)=W7:=⟨_,rfl⟩
   have DS:Hid (pt w g s b c (acc++ [y]) (l) (.slice (some ⟨g',0,none⟩) n' aj) W7):=za (by rw[<-oz];exact(rq.out _ _).more eW GS);have ag:=za oz;clear oz RS eW GS;go_wp2_with fail
   rw[ag.out];clear B r C z m u x D;by_cases F:∃hq:b<s.size,s[b].toNat=125
   ·obtain⟨x',F⟩:=F;refine(fh g s b c 125 _ DS.out.rd x' Z F).mono ?_;rintro e w8 ⟨rfl,aa,OU⟩;have E:=za (DS.out.dJ OU aa);clear aa OU;obtain⟨H,J,R,U,K,N,X,G⟩:=aN E.out.res;obtain⟨B,r,C,z,m,u,x,D⟩:=aN E.out.bx;go_wp2;obtain⟨S,Y,O,I,W,M⟩:=E.out.ends (.int .i64 5) (.int .i64 0) (.slice (some ⟨g',0,none⟩) n' aj) (.int .i64 ((l:Nat):Int));refine zk (v:= .tuple #[.agg #[.int .i64 5,.int .i64 0,(.slice (some ⟨g',0,none⟩) n' aj),.int .i64 ((l:Nat):Int)],.bool true]) (by simp[results,xD,go_sem,O,I,W,M]) rfl ?_;exact⟨.mk 5 0 (acc++ [y]) ((l:Nat):Int),true,b+1,c,_,_,_,_,_,_,rfl,S,Y,by omega,Jh (RT.out.ends x' F) LZ.out (by omega),fun _=>E.out.ty (by simp;omega) (by omega) _ _ _ _⟩
   refine(gy g s b c 125 _ DS.out.rd RQ Z (fun i j=>F ⟨i,j⟩)).mono ?_;rintro e w8 ⟨rfl,n8,ab⟩;have E:Hid (pt w g s b c (acc++ [y]) (l) (.slice (some ⟨g',0,none⟩) n' aj) w8):=za (by rw[ab];exact DS.out.below bD);clear ab;go_wp2_with fail
   by_cases tS:∃hq:b<s.size,s[b].toNat=44
   ·obtain⟨x',tS⟩:=tS;refine(fh g s b c 44 _ E.out.rd x' Z tS).mono ?_;rintro e w9 ⟨rfl,Wb,rr⟩;have Oq:=za (E.out.dJ rr Wb);have c9:=Oq.out.rd.cells.2.1;clear Wb rr;go_wp2;go_roundw
    case rel=>exact⟨b+1,c,acc++ [y],l,_,by omega,za (RT.out.more x' tS (by simp)),LZ,by omega,by simp;omega,by omega,Oq⟩
    case measure=>
     rw[c1,c9];simp only[Ql];omega
   refine(gy g s b c 44 _ E.out.rd RQ Z (fun i j=>tS ⟨i,j⟩)).mono ?_;rintro e w9 ⟨rfl,n9,ad⟩;have Oq:Hid (pt w g s b c (acc++ [y]) (l) (.slice (some ⟨g',0,none⟩) n' aj) w9):=za (by rw[ad];exact E.out.below bD);clear ad;obtain⟨H,J,R,U,K,N,X,G⟩:=aN Oq.out.res;obtain⟨B,r,C,z,m,u,x,D⟩:=aN Oq.out.bx;go_wp2;obtain⟨S,Y,O,I,W,M⟩:=Oq.out.ends (.int .i64 0) (.int .i64 0) (.slice none 0 0) (.int .i64 0);refine zk (v:= .tuple #[.agg #[.int .i64 0,.int .i64 0,.slice none 0 0,.int .i64 0],.bool false]) (by simp[results,xD,go_sem,O,I,W,M]) rfl ?_;exact⟨.mk 0 0 [] 0,false,b,c,_,_,_,_,_,_,rfl,S,Y,by omega,Dg _ (Cc RT.out (by simp) (fun i j=>F ⟨i,j⟩) (fun i j=>tS ⟨i,j⟩)) RQ,(by intro h;cases h)⟩
theorem QG (f d:Nat)(hd:d<=8)(u:Hid (∀(g:Nat) (s:ByteArray) (p L:Nat) (w:World),jy w g s p L->p<=s.size->s.size<=100000->L<=64->
 Calls prog 157 #[.pointer (some ⟨g,0,none⟩),.int .i64 ((d:Int)+1)] w fun e w'=>ky w g s f L p e w')) (g:Nat) (s:ByteArray) (p L:Nat) (w:World) (h:jy w g s p L) (H:p<s.size) (U:s.size<=100000) (Z:0<L) (X:L<=64) (N:s[p].toNat=123):
 Calls prog 157 #[.pointer (some ⟨g,0,none⟩),.int .i64 d] w fun e w'=>ky w g s (f+1) L p e w':=by
 have y:=za (QB (f:=f) H N);have b:=za (sZ.start h);generalize hW:((w.alloc (.cells #[.pointer (some ⟨g,0,none⟩)] 203)).alloc (.cells #[.int .i64 0,.int .i64 0,.slice none 0 0,.int .i64 0] 43))=W at*;obtain⟨g0,g1,g2,f0,f1,f2,pH⟩:=b.out.rd.cells;have Y:W.cell? ⟨w.heap.size,0,none⟩=some (.pointer (some ⟨g,0,none⟩)):=b.out.box.cell 0;have d1:decide ((8:Int)<(d:Int))=false:=zu (by omega);have dL:((L:Int)==0)=false:=zm.2 (by omega);have dp:((p:Int)==(s.size:Int))=false:=zm.2 (by omega);have ew:IntKind.i64.wrap ((L:Int)-1)=(L:Int)-1:=yc _ (by omega);clear h;go_enter xQ,xI
 go_wp2_with fail
 go_quiet (fail)
 obtain⟨i,rfl⟩:∃i,i=nq:=⟨nq,rfl⟩
 go_wp2_with fail
 go_quiet (fail)
 have l:=za (b.out.step ((L:Int)-1) ((p:Int)+1) i nq (L':=L-1) (p':=p+1) (by omega) (by omega));have o:=za (Ji f d hd u g s (p+1) (L-1) _ _ l.out.rd y (by omega) U (by omega));clear u y;go_wp2_with fail
 refine o.out.mono ?_;rintro e D ⟨t,ok,q,G,k,z,j,A,n,cap,rfl,C,x,aa,m,B⟩;have r:=za (l.out.dJ x C);have R:=za m;have F:Hid (ok=true->fE D (w.heap.size+2<= ·) t (.int .i64 k) (.int .i64 z) (.slice A n cap) (.int .i64 j)):=za (fun h=>(B h).gQ (fun k _ c=>by simp[World.setCell]at c;have:=b.out.siz;omega));clear C x m B o;obtain⟨n0,n1,n2,n3,m0,m1,m2,m3⟩:=aN r.out.res;go_wp2;obtain⟨I,K,S,M,O,J⟩:=r.out.ends (.int .i64 k) (.int .i64 z) (.slice A n cap) (.int .i64 j);refine zk (v:= .tuple #[.agg #[.int .i64 k,.int .i64 z,.slice A n cap,.int .i64 j],.bool ok]) (by simp[results,yw,go_sem,S,M,O,J]) rfl ?_;refine⟨t,ok,q,G,_,_,_,_,_,_,rfl,I,K,by omega, ?_,fun E=>(F.out E).only (L:= [w.heap.size+1]) (((((ae.refl _ D).setCell (by simp) _).setCell (by simp) _).setCell (by simp) _).setCell (by simp) _) (by simp) (fun k _ c=>by have c:w.heap.size+2<=k:=c;show w.heap.size<=k;omega)⟩;have:=aci R.out;rwa [show 1+(L-1)=L from by omega]at this
theorem FX (t:Ty):0<t.count:=by
 cases t with
 |mk k s l ta=>simp only[Ty.count];omega
theorem QH (f d:Nat)(hd:d=9)(q:f=0)(g:Nat)(s:ByteArray)(p L:Nat)(w:World)(h:jy w g s p L)(i:p<=s.size)(E:s.size<=100000)(y:L<=64)(z:True):
 Calls prog 157 #[.pointer (some ⟨g,0,none⟩),.int .i64 d] w fun e w'=>ky w g s f L p e w':=by
 have b:=za (sZ.start h);generalize D:((w.alloc (.cells #[.pointer (some ⟨g,0,none⟩)] 203)).alloc (.cells #[.int .i64 0,.int .i64 0,.slice none 0 0,.int .i64 0] 43))=W at*;obtain⟨g0,g1,g2,f0,f1,f2,F⟩:=b.out.rd.cells;clear h;go_enter xQ,xI
 go_wp2_with fail
 go_quiet (fail)
 obtain⟨c,rfl⟩:∃c,c=nq:=⟨nq,rfl⟩
 have l:Hid (sZ w g s p L (W.drewN c)):=za (b.out.below bD);obtain⟨A,n1,n2,C,m0,m1,m2,m3⟩:=aN b.out.res;go_wp2;obtain⟨j,n,x,o,u,m⟩:=l.out.ends (.int .i64 0) (.int .i64 0) (.slice none 0 0) (.int .i64 0);refine zk (v:= .tuple #[.agg #[.int .i64 0,.int .i64 0,.slice none 0 0,.int .i64 0],.bool false]) (by simp[results,yw,go_sem,x,o,u,m]) rfl ?_;exact⟨.mk 0 0 [] 0,false,p,L,_,_,_,_,_,_,rfl,j,n,zg _,⟨(by intro h;cases h),(by intro _ B r k;subst q;cases k),i⟩,(by intro h;cases h)⟩
theorem QI (f d:Nat)(hd:d<=8)(g:Nat)(s:ByteArray)(p L:Nat)(w:World)(h:jy w g s p L)(i:p<=s.size)(G:s.size<=100000)(x:L<=64)(C:L=0):
 Calls prog 157 #[.pointer (some ⟨g,0,none⟩),.int .i64 d] w fun e w'=>ky w g s f L p e w':=by
 have z:decide ((8:Int)<(d:Int))=false:=zu (by omega);have B:((L:Int)==0)=true:=yQ.2 (by omega);have b:=za (sZ.start h);generalize F:((w.alloc (.cells #[.pointer (some ⟨g,0,none⟩)] 203)).alloc (.cells #[.int .i64 0,.int .i64 0,.slice none 0 0,.int .i64 0] 43))=W at*;obtain⟨g0,g1,g2,f0,f1,f2,H⟩:=b.out.rd.cells;have y:W.cell? ⟨w.heap.size,0,none⟩=some (.pointer (some ⟨g,0,none⟩)):=b.out.box.cell 0;clear h;go_enter xQ,xI
 go_wp2_with fail
 go_quiet (fail)
 obtain⟨c,rfl⟩:∃c,c=nq:=⟨nq,rfl⟩
 have k:Hid (sZ w g s p L (W.drewN c)):=za (b.out.below bD);obtain⟨D,n1,n2,E,m0,m1,m2,m3⟩:=aN b.out.res;go_wp2;obtain⟨j,m,u,n,q,l⟩:=k.out.ends (.int .i64 0) (.int .i64 0) (.slice none 0 0) (.int .i64 0);refine zk (v:= .tuple #[.agg #[.int .i64 0,.int .i64 0,.slice none 0 0,.int .i64 0],.bool false]) (by simp[results,yw,go_sem,u,n,q,l]) rfl ?_;exact⟨.mk 0 0 [] 0,false,p,L,_,_,_,_,_,_,rfl,j,m,zg _,⟨(by intro h;cases h),(by intro _ o r A;right;have:=FX o;omega),i⟩,(by intro h;cases h)⟩
theorem QJ (f d:Nat)(hd:d<=8)(g:Nat)(s:ByteArray)(p L:Nat)(w:World)(h:jy w g s p L)(j:p<=s.size)(I:s.size<=100000)(y:L<=64)(D:0<L)(l:s.size<=p):
 Calls prog 157 #[.pointer (some ⟨g,0,none⟩),.int .i64 d] w fun e w'=>ky w g s f L p e w':=by
 have A:decide ((8:Int)<(d:Int))=false:=zu (by omega);have C:((L:Int)==0)=false:=zm.2 (by omega);have B:((p:Int)==(s.size:Int))=true:=yQ.2 (by omega);have b:=za (sZ.start h);generalize H:((w.alloc (.cells #[.pointer (some ⟨g,0,none⟩)] 203)).alloc (.cells #[.int .i64 0,.int .i64 0,.slice none 0 0,.int .i64 0] 43))=W at*;obtain⟨g0,g1,g2,f0,f1,f2,J⟩:=b.out.rd.cells;have z:W.cell? ⟨w.heap.size,0,none⟩=some (.pointer (some ⟨g,0,none⟩)):=b.out.box.cell 0;clear h;go_enter xQ,xI
 go_wp2_with fail
 go_quiet (fail)
 obtain⟨c,rfl⟩:∃c,c=nq:=⟨nq,rfl⟩
 have m:Hid (sZ w g s p L (W.drewN c)):=za (b.out.below bD);obtain⟨E,n1,n2,G,m0,m1,m2,m3⟩:=aN b.out.res;go_wp2;obtain⟨k,o,x,q,u,n⟩:=m.out.ends (.int .i64 0) (.int .i64 0) (.slice none 0 0) (.int .i64 0);refine zk (v:= .tuple #[.agg #[.int .i64 0,.int .i64 0,.slice none 0 0,.int .i64 0],.bool false]) (by simp[results,yw,go_sem,x,q,u,n]) rfl ?_;exact⟨.mk 0 0 [] 0,false,p,L,_,_,_,_,_,_,rfl,k,o,zg _,⟨(by intro h;cases h),(by intro _ F r i;rw[Cb f l]at i;cases i),j⟩,(by intro h;cases h)⟩
theorem FY :∀(f d:Nat),f+d=9->∀(g:Nat) (s:ByteArray) (p L:Nat) (w:World),jy w g s p L->p<=s.size->s.size<=100000->L<=64->
 Calls prog 157 #[.pointer (some ⟨g,0,none⟩),.int .i64 d] w fun e w'=>ky w g s f L p e w'
 |0,d,hfd,g,s,p,L,w,h,j,c,b=>QH 0 d (by omega) rfl g s p L w h j c b trivial
 |f+1,d,hfd,g,s,p,L,w,h,j,c,b=>by
  have o:Hid (∀(g:Nat) (s:ByteArray) (p L:Nat) (w:World),jy w g s p L->p<=s.size->s.size<=100000->L<=64->
   Calls prog 157 #[.pointer (some ⟨g,0,none⟩),.int .i64 ((d:Int)+1)] w fun e w'=>ky w g s f L p e w'):=za (fun g s p L w h j c b=>by
   have:=FY f (d+1) (by omega) g s p L w h j c b;rwa [show(((d+1:Nat)):Int)=(d:Int)+1 from by omega]at this)
  have hd:d<=8:=by omega
  by_cases x:L=0
  ·exact QI (f+1) d hd g s p L w h j c b x
  by_cases u:s.size<=p
  ·exact QJ (f+1) d hd g s p L w h j c b (by omega) u
  have k:p<s.size:=by omega
  have i:0<L:=by omega
  by_cases n:s[p].toNat=117
  ·exact Qw f d hd g s p L w h k c i b n
  by_cases q:s[p].toNat=98
  ·exact Qu f d hd g s p L w h k c i b q
  by_cases r:s[p].toNat=115
  ·exact Qv f d hd g s p L w h k c i b r
  by_cases l:s[p].toNat=91
  ·exact QF f d hd o g s p L w h k c i b l
  by_cases m:s[p].toNat=123
  ·exact QG f d hd o g s p L w h k c i b m
  exact Nt f d hd g s p L w h k c i b n q r l m
