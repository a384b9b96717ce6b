/- A region that draws its order and whose last operation waits for all the others: a condition on the world lets loads be taken first, and need not stand behind the last operation. Own law; no program in sight. -/
import Derived.Deep.RegionHeld3
import Derived.Test.YtimoclkoflamkaaGreatDoorKA30
set_option linter.all false
set_option maxRecDepth 100000
set_option maxHeartbeats 3200000
open Go.Proofs.Tryz
namespace Go.Proofs.YtimoclkoflamkaaGreatDoor
open Go
variable {w V V' w':World}{a:Act}{g i p L k id d e l:Nat}{listed:Array Bool}{s:ByteArray}{v:Value}{o:Oper}{acc:List Ty}{f m:Int}{t:TypeId}
section
def zb:=@List.setIfInBounds_toArray
def zd:=@List.set_cons_succ
def xD:=@results169
variable {P:Program} {ops:Array Oper} {Q:Exit->Act->World->Prop} {md:Region.Mode} {S:World->Prop} {n:Nat}
def sR (P:Program)(md:Region.Mode)(ops:Array Oper)(Q:Exit->Act->World->Prop)(S:World->Prop)(n:Nat):Nat->Array Bool->Act->World->Prop
 |0,listed,a,w=>Region.ready md ops listed= []/\Q .normal a w
 |fuel+1,listed,a,w=>
  (Region.ready md ops listed= []->Q .normal a w)/\
  ∀i∈Region.ready md ops listed,wpOp P ops Q i (fun a' w'=>(i≠n->S w')/\sR P md ops Q S n fuel (listed.setIfInBounds i true) a' w') a w
theorem Ag :∀(b:Nat) (c:Array Bool) (a:Act) (w:World),sR P md ops Q S n b c a w->wpAny P md ops Q b c a w
 |0,_,_,_,h=>h
 |b+1,_,_,_,h=>⟨h.1,fun i hi=>wpOp_mono (fun e w' d=>Ag b _ e w' d.2) (h.2 i hi)⟩
theorem Em {m:Oper}(hi:ops[i]?=some m)(C:∀(j:Nat) (o:Oper) u b,ops[j]?=some o->o.op≠ .select u b)
 (W:Region.sinkB md ops n=true) (X:Region.chainB md ops n=true) (J:n<ops.size) (Y:i<n)
 (L:∀c a w,Q (.panic c) (a.put m.dst v) w->Q (.panic c) a w):
 ∀(s:Nat) (d:Array Bool) (a:Act) (w:World),HeadInv md ops n d->
  (∀j q,ops[j]?=some q->j≠i->d.getD j true=false->(∀e∈q.after,Region.binds md e=true->e.on≠i)->m.apart ops q=true)->
  i∈Region.ready md ops d->YieldsIf P ops S m v a->S w->
  sR P md ops Q S n s (d.setIfInBounds i true) (a.put m.dst v) w->sR P md ops Q S n (s+1) d a w:=by
 intro s;induction s with
 |zero=>
  intro d a w _ _ p A hS H;refine⟨fun h=>(by rw[h]at p;cases p),fun j r=> ?_⟩;by_cases l:j=i
  ·subst l;exact A.wpOp hi hS ⟨fun _=>hS,H⟩
  have:=Yr r l;rw[H.1]at this;cases this
 |succ s ih=>
  intro d a w F G p A hS H;have x:=(ZL.1 p).1;refine⟨fun h=>(by rw[h]at p;cases p),fun j r=> ?_⟩;have Tk:j<n:=by
   rcases xp j n with h|h
   ·exact h
   exact absurd r (tail_waits W X J F _ i rfl Y x j h)
  by_cases l:j=i
  ·subst l;exact A.wpOp hi hS ⟨fun _=>hS,H⟩
  have z:=H.2 j (Yr r l);obtain⟨D,q,B,U⟩:=ZL.1 r;have M:∀e∈q.after,Region.binds md e=true->e.on≠i:=fun e Z K I=>by
   have z:=U e Z K;rw[I,getD_both x]at z;cases z
  have h2:=wpOp_putIf B (G j q B l D M) (fun u b=>C i m u b hi) (fun u b=>C j q u b B) L A z;have KX:∀k ok,ops[k]?=some ok->k≠i->(d.setIfInBounds j true).getD k true=false->
   (∀e∈ok.after,Region.binds md e=true->e.on≠i)->m.apart ops ok=true:=fun k ok R O x N=>by
   refine G k ok R O ?_ N;by_cases E:j=k
   ·subst E;exact D
   rw[getD_set_ne true E]at x;exact x
  refine wpOp_mono (fun a' w' y=>⟨fun _=>y.2.1 (by omega),ih (d.setIfInBounds j true) a' w' (F.set r Tk) KX (Yr p (Zj l)) y.1 (y.2.1 (by omega)) ?_⟩) h2;rw[Array.setIfInBounds_comm _ _ l];exact y.2.2
def GT (P:Program)(md:Region.Mode)(ops:Array Oper)(Q:Exit->Act->World->Prop)(S:World->Prop)(n:Nat)(fuel:Nat)(listed:Array Bool)(a:Act)(w:World):Prop:=
 HeadInv md ops n listed->sR P md ops Q S n fuel listed a w
def GP (md:Region.Mode)(ops:Array Oper)(n:Nat):Bool:=Region.noSelect ops&&decide (n<ops.size)&&Region.sinkB md ops n&&Region.chainB md ops n
theorem GT.take {b:Oper}(hi:ops[i]?=some b)(e:decide (i<n)=true)
 (j:GP md ops n=true) (u:Region.free md ops listed i=true) (p:(Region.ready md ops listed).contains i=true)
 (m:∀c a w,Q (.panic c) (a.put b.dst v) w->Q (.panic c) a w) (x:YieldsIf P ops S b v a) (hS:S w)
 (h:GT P md ops Q S n d (listed.setIfInBounds i true) (a.put b.dst v) w):GT P md ops Q S n (d+1) listed a w:=fun l=>by
 simp only[GP,zv,zU]at j e;obtain⟨⟨⟨q,r⟩,o⟩,s⟩:=j;have k:i∈Region.ready md ops listed:=by simpa using p
 exact Em hi (Region.noSelect_spec q) o s r e m d listed a w l (Region.free_spec hi u) k x hS (h (l.set k e))
theorem GT.step (l:ops[i]?=some o)(u:decide (i<n)=true)(c:Region.ready md ops listed= [i])
 (h:∀b:Act->World->Prop,Shut (∀a w,S w->(S w->GT P md ops Q S n e (listed.setIfInBounds i true) a w)->b a w)->if Region.wanted o (yielded ops a.tmps)=true then Oper.wp P o a w b Q else b (a.put o.dst undef) w):GT P md ops Q S n (e+1) listed a w:=fun s=>by
 refine⟨fun r=>(by rw[r]at c;cases c),fun j d=> ?_⟩;have k:j=i:=by rw[c]at d;simpa using d
 subst k;have m:j<n:=by simpa using u
 exact wpOp_step l (fun b q=>h b (fun a w hS p=>q a w ⟨fun _=>hS,p hS (s.set d m)⟩))
theorem GT.two {j:Nat}{e h:Oper}{m:Nat}(hi:ops[i]?=some e)(s:ops[j]?=some h)(B:decide (i<n)=true)(z:decide (j<n)=true)(l:Region.ready md ops listed= [i,j])
 (u:∀b:Act->World->Prop,Shut (∀a w,S w->(S w->GT P md ops Q S n m (listed.setIfInBounds i true) a w)->b a w)->if Region.wanted e (yielded ops a.tmps)=true then Oper.wp P e a w b Q else b (a.put e.dst undef) w)
 (y:∀b:Act->World->Prop,Shut (∀a w,S w->(S w->GT P md ops Q S n m (listed.setIfInBounds j true) a w)->b a w)->if Region.wanted h (yielded ops a.tmps)=true then Oper.wp P h a w b Q else b (a.put h.dst undef) w):GT P md ops Q S n (m+1) listed a w:=fun q=>by
 refine⟨fun A=>(by rw[A]at l;cases l),fun k d=> ?_⟩;have x:i<n:=by simpa using B
 have r:j<n:=by simpa using z
 have c:k=i\/k=j:=by rw[l]at d;simpa using d
 rcases c with c|c
 ·subst c;exact wpOp_step hi (fun b o=>u b (fun a w hS p=>o a w ⟨fun _=>hS,p hS (q.set d x)⟩))
 subst c;exact wpOp_step s (fun b o=>y b (fun a w hS p=>o a w ⟨fun _=>hS,p hS (q.set d r)⟩))
theorem GT.last {s:Nat}(u:ops[i]?=some o)(y:decide (i=n)=true)(c:Region.ready md ops listed= [i])(k:Region.ready md ops (listed.setIfInBounds i true)= [])
 (h:if Region.wanted o (yielded ops a.tmps)=true then Oper.wp P o a w (fun e w'=>Q .normal e w') Q else Q .normal (a.put o.dst undef) w):GT P md ops Q S n (s+1) listed a w:=fun A=>by
 refine⟨fun b=>(by rw[b]at c;cases c),fun j l=> ?_⟩;have r:j=i:=by rw[c]at l;simpa using l
 subst r;have x:j=n:=by simpa using y
 subst x;have p:∀(f:Nat) (a:Act) (w:World),Q .normal a w->sR P md ops Q S j f (listed.setIfInBounds j true) a w:=fun f a w h=>by
  cases f with
  |zero=>exact⟨k,h⟩
  |succ f=>exact⟨fun _=>h,by rw[k];simp⟩
 refine wpOp_step u (fun z m=> ?_);split
 ·rename_i d
  rw[zg d]at h;exact Oper.wp_mono (fun e w' q=>m e w' ⟨fun b=>absurd rfl b,p _ _ _ q⟩) h
 rename_i d
 rw[zf d]at h;exact m _ _ ⟨fun b=>absurd rfl b,p _ _ _ h⟩
theorem aL (n:Nat)(S:World->Prop)(d:P.follows .mixedOrders=true)(e:GP .any ops n=true)(h:GT P .any ops Q S n ops.size (Array.replicate ops.size false) a w.drew):(Code.region id ops true).wp P Q a w:=by
 exact wp_region_any d (Ag _ _ _ _ (h ⟨by simp,fun j i _ b=>(by rw[yB]at b;cases b),fun t _ c=>getD_in (by simpa using c) (yB _ _)⟩))
def Ah :List Oper->Nat->Option Oper
 |o::_,0=>some o
 |_::l,i+1=>Ah l i
 | [],_=>none
theorem GQ :∀{l:List Oper} {i:Nat} {o:Oper},Ah l i=some o->l[i]?=some o
 |_::_,0,_,h=>by simpa[Ah]using h
 |_::l,i+1,_,h=>by simpa using GQ (l:=l) (i:=i) h
 | [],_,_,h=>by simp[Ah]at h
theorem oE {ops:Array Oper}(h:Ah ops.toList i=some o):ops[i]?=some o:=by
 have:=GQ h;simpa using this
inductive BP (P:Program)(ops:Array Oper)(S:World->Prop)(G:Act->Prop):List Nat->Act->Prop
 |nil {a:Act} (h:G a):BP P ops S G [] a
 |cons {i:Nat} {is:List Nat} {oi:Oper} {v:Value} {a:Act} (hi:ops[i]?=some oi) (hy:YieldsIf P ops S oi v a) (h:BP P ops S G is (a.put oi.dst v)):BP P ops S G (i::is) a
theorem BP.c {P:Program}{ops:Array Oper}{S:World->Prop}{G:Act->Prop}{c:List Nat}{b:Oper}(hi:Ah ops.toList i=some b)(d:Region.wanted b (yielded ops a.tmps)=true)
 (e:∀w,S w->(execOp a.eval b).run P w= .ok (.value v) w) (h:BP P ops S G c (a.put b.dst v)):BP P ops S G (i::c) a:= .cons (oE hi) (.inl ⟨d,e⟩) h
theorem BP.u {P:Program}{ops:Array Oper}{S:World->Prop}{G:Act->Prop}{c:List Nat}{b:Oper}(hi:Ah ops.toList i=some b)(d:Region.wanted b (yielded ops a.tmps)=false)
 (h:BP P ops S G c (a.put b.dst undef)):BP P ops S G (i::c) a:= .cons (oE hi) (.inr ⟨d,rfl⟩) h
def XE :List Nat->Array Bool->Array Bool
 | [],l=>l
 |i::is,l=>XE is (l.setIfInBounds i true)
def XF :List Nat->Nat->Nat
 | [],f=>f
 |_::is,f=>XF is f+1
def Sg (md:Region.Mode)(ops:Array Oper)(n:Nat):List Nat->Array Bool->Bool
 | [],_=>true
 |i::is,l=>decide (i<n)&&GP md ops n&&Region.free md ops l i&&(Region.ready md ops l).contains i&&Sg md ops n is (l.setIfInBounds i true)
theorem GT.iv (e:List Nat)(hS:S w)(m:∀c (a:Act) (d:Nat) v w,Q (.panic c) (a.put (some d) v) w->Q (.panic c) a w)
 (k:Sg md ops n e listed=true) (j:BP P ops S (fun b=>GT P md ops Q S n l (XE e listed) b w) e a):GT P md ops Q S n (XF e l) listed a w:=by
 induction e generalizing listed a with
 |nil=>
  cases j with
  |nil h=>exact h
 |cons i e ih=>
  cases j with
  |cons hi hy j=>
   simp only[Sg,zv]at k;obtain⟨⟨⟨⟨q,r⟩,o⟩,s⟩,p⟩:=k;refine GT.take hi q r o s (fun c a w h=> ?_) hy hS (ih p j);revert h
   cases Oper.dst _ with
   |none=>exact id
   |some d=>exact m c a d _ w
def stB (md:Region.Mode)(ops:Array Oper)(n:Nat)(listed:Array Bool)(i:Nat):Bool:=decide (i<n)&&(Region.ready md ops listed== [i])
theorem GT.fx (i:Nat)
 (h:∀c:Act->World->Prop,Shut (∀a w,S w->(S w->GT P md ops Q S n d (listed.setIfInBounds i true) a w)->c a w)->if Region.wanted o (yielded ops a.tmps)=true then Oper.wp P o a w c Q else c (a.put o.dst undef) w)
 (e:Ah ops.toList i=some o) (b:stB md ops n listed i=true):GT P md ops Q S n (d+1) listed a w:=by
 simp only[stB,zv,yN]at b;exact GT.step (oE e) b.1 b.2 h
def twB (md:Region.Mode)(ops:Array Oper)(n:Nat)(listed:Array Bool)(i j:Nat):Bool:=decide (i<n)&&decide (j<n)&&(Region.ready md ops listed== [i,j])
theorem GT.VL (i j:Nat){d e:Oper}{h:Nat}(hi:Ah ops.toList i=some d)(k:Ah ops.toList j=some e)(c:twB md ops n listed i j=true)
 (l:∀b:Act->World->Prop,Shut (∀a w,S w->(S w->GT P md ops Q S n h (listed.setIfInBounds i true) a w)->b a w)->if Region.wanted d (yielded ops a.tmps)=true then Oper.wp P d a w b Q else b (a.put d.dst undef) w)
 (m:∀b:Act->World->Prop,Shut (∀a w,S w->(S w->GT P md ops Q S n h (listed.setIfInBounds j true) a w)->b a w)->if Region.wanted e (yielded ops a.tmps)=true then Oper.wp P e a w b Q else b (a.put e.dst undef) w):GT P md ops Q S n (h+1) listed a w:=by
 simp only[twB,zv,yN]at c;exact GT.two (oE hi) (oE k) c.1.1 c.1.2 c.2 l m
def laB (md:Region.Mode)(ops:Array Oper)(n:Nat)(listed:Array Bool)(i:Nat):Bool:=decide (i=n)&&(Region.ready md ops listed== [i])&&(Region.ready md ops (listed.setIfInBounds i true)== [])
theorem GT.oF (i:Nat){c:Nat}
 (h:if Region.wanted o (yielded ops a.tmps)=true then Oper.wp P o a w (fun e w'=>Q .normal e w') Q else Q .normal (a.put o.dst undef) w)
 (d:Ah ops.toList i=some o) (b:laB md ops n listed i=true):GT P md ops Q S n (c+1) listed a w:=by
 simp only[laB,zv,yN]at b;exact GT.last (oE d) b.1.1 b.1.2 b.2 h
end
open Go.RowKit
theorem Uu {P:Program}{ops:Array Oper}{Q:Exit->Act->World->Prop}{C S:World->Prop}(_:∀V,C V->S V)(n:Nat)(c:P.follows .mixedOrders=true)(b:GP .any ops n=true)(h:GT P .any ops Q S n ops.size (Array.replicate ops.size false) a w.drew):(Code.region id ops true).wp P Q a w:=aL n S c b h
structure jC (w:World)(g gl fb:Nat)(s:ByteArray)(k:Nat)(f m:Int):Prop where
 rdr:iP w g s k f
 left:af w gl 3 #[m]
 box:af w fb 191 #[(g,0)]
theorem af.Fh {c:Nat}{d:TypeId}{j i:Array Value}(h:af w g t j)(b:af w c d i)(e:t≠d):g≠c:=by
 rintro rfl;unfold af at h b;rw[h]at b;injection b with b;injection b with _ ht;exact e ht
theorem jC.apart {gl b:Nat}(h:jC w g gl b s k f m):gl≠g/\b≠g/\b≠gl:=⟨h.left.Fh h.rdr (by decide),h.box.Fh h.rdr (by decide),h.box.Fh h.left (by decide)⟩
theorem jC.below {gl c:Nat}(h:jC w g gl c s k f m)(b:Below w.heap.size w w'):jC w' g gl c s k f m:=
 ⟨(b.block _ h.rdr.lt).trans h.rdr,(b.block _ h.left.lt).trans h.left,(b.block _ h.box.lt).trans h.box⟩
theorem jC.eQ {gl:Nat}{b:Nat}{d:Int}(h:jC w g gl e s k f m)(c:ae [g] w w')(i:iP w' g s b d):jC w' g gl e s b d m:=
 ⟨i,h.left.only c (by simp[h.apart.1]),h.box.only c (by simp[h.apart.2.1])⟩
def js (g gl fb:Nat):Value:= .agg #[.func (.func 142) #[(g,0)] #[],.func (.func 160) #[(g,0)] #[],.func (.func 143) #[(g,0)] #[],.func (.func 161) #[(g,0)] #[],.func (.func 162) #[] #[(fb,0)],(gl,0)]
theorem GR (N:Nat×Nat×Int)(z:Nat):nN N z<=z:=by
 rcases lj N z 0 with⟨_,_,h,_⟩|⟨_,_,_,h,_⟩|⟨_,b,_,h,_⟩<;>omega
theorem C' (g gl b:Nat)(s:ByteArray)(k z:Nat)(m:Int)(w:World)(h:jC w g gl b s k 0 m)(o:k<=s.size)(p:s.size<=9223372036854775807)(hz:z<=65536)(q:aW w)(r:g≠0):
 Calls prog 162 #[z,(b,0)] w fun e w'=>e= .returned (.int .i64 (nN (au (s.data.toList.drop k)) z))/\jC w' g gl b s (nO (au (s.data.toList.drop k)) z k) (lh (au (s.data.toList.drop k)) z) m/\ae [g] w w':=by
 have A:w.cell? (b,0)=some (.pointer (some (g,0))):=h.box.cell 0;have l:=za (RS g s k z w h.rdr o p (by omega) q r);have u:=GR (au (s.data.toList.drop k)) z;have i:=za h;generalize nN (au (s.data.toList.drop k)) z=N at*;generalize nO (au (s.data.toList.drop k)) z k=K at*;generalize lh (au (s.data.toList.drop k)) z=E at*;have x:IntKind.u64.wrap (z:Int)=z:=xy _ (by omega);clear h;go_enter func162,ntmps162
 go_wp2_with fail
 refine l.out.mono ?_;rintro e y ⟨rfl,d,c⟩;have j:=za (i.out.eQ c d);have n:=za c;clear d c;go_wp2;go_ret;exact⟨by go_num,j.out,n.out⟩
theorem aaQ (i:Int)(j b o n cap:Nat)(k z B:Int)(c d l m:Value)(w:World)(h:af w j 70 #[k,z,.slice (some (b,o)) n cap,B])(G:0<n)(I:n<=9223372036854775807)
 (K:w.cell? (b,o)=some c) (F:w.cell? (b,o+1)=some d) (L:w.cell? (b,o+2)=some l) (E:w.cell? (b,o+3)=some m) (J:b<w.heap.size)
 (u p x:Int) (q:Option Addr) (s r:Nat) (A:c= .int .i64 u) (C:d= .int .i64 p) (D:l= .slice q s r) (y:m= .int .i64 x):
 Calls prog 206 #[i,(j,0)] w fun e w'=>e= .returned (.tuple #[.agg #[c,d,l,m],true])/\(w,w'):=by
 have M:w.cell? (j,2)=some (.slice (some (b,o)) n cap):=h.cell 2;have H:=h.lt;subst A C D y;clear h;go_enter func206,ntmps206
 go_wp2;refine zj (v:= .tuple #[.agg #[u,p,.slice q s r,x],true]) (by simp[results,results206,go_sem]) rfl ⟨rfl,bQ⟩
theorem fy {a b c d e f:Value}(h:af w g t #[a,b,c,d,e,f]):(w,g,0,a)/\(w,g,1,b)/\(w,g,2,c)/\(w,g,3,d)/\(w,g,4,e)/\(w,g,5,f):=⟨h.cell 0,h.cell 1,h.cell 2,h.cell 3,h.cell 4,h.cell 5⟩
def j8 (g gl fb:Nat):Array Value:= #[.func (.func 142) #[(g,0)] #[],.func (.func 160) #[(g,0)] #[],.func (.func 143) #[(g,0)] #[],.func (.func 161) #[(g,0)] #[],.func (.func 162) #[] #[(fb,0)],(gl,0)]
theorem lk {p:Addr}(e:p.block≠g)(a b c d:Value):((((w.drew.setCell (g,0) a).setCell (g,1) b).setCell (g,2) c).setCell (g,3) d).cell? p=w.cell? p:=
 zy (by
  rw[zR _ _ _ _ e,zR _ _ _ _ e,zR _ _ _ _ e,zR _ _ _ _ e];rfl)
theorem iw {p:Addr}(e:p.block≠g)(m:Nat)(a b c d:Value):(((((w.drewN m).setCell (g,0) a).setCell (g,1) b).setCell (g,2) c).setCell (g,3) d).cell? p=w.cell? p:=
 zy (by
  rw[zR _ _ _ _ e,zR _ _ _ _ e,zR _ _ _ _ e,zR _ _ _ _ e];rfl)
theorem aaR (i:Nat)(u A g gl fb b o n cap:Nat)(s:ByteArray)(B:Nat)(m:Int)(k ae d:Int)(X R S Z:Value)(w:World)(h:af w u 70 #[k,ae,.slice (some (b,o)) n cap,d])(Y:af w A 223 (j8 g gl fb))(fl:Int)(W:jC w g gl fb s B fl m)(ai:B<=s.size)(hs:s.size<=9223372036854775807)(hn:i<n)(IY:n<=9223372036854775807)(oO:0<=d)(K4:d<=n)
 (h0:w.cell? (b,o+i*4)=some X) (h1:w.cell? (b,o+i*4+1)=some R) (h2:w.cell? (b,o+i*4+2)=some S) (h3:w.cell? (b,o+i*4+3)=some Z) (M:b<w.heap.size)
 (r j x:Int) (q:Option Addr) (l y:Nat) (e0:X= .int .i64 r) (e1:R= .int .i64 j) (e2:S= .slice q l y) (e3:Z= .int .i64 x):
 Calls prog 207 #[i,(u,0),(A,0)] w fun e w'=>e= .returned (.tuple #[.agg #[X,R,S,Z],.bool (decide ((i:Int)<(n:Int)-d)||decide (B<s.size))])/\(w,w'):=by
 have c:Below w.heap.size w (w.alloc (.cells #[(0:Int),(0:Int),nS,(0:Int)] 70)):=bQ;have px:=fun V (hb:Below w.heap.size w V)=>wY g s B fl V ((hb.block _ W.rdr.lt).trans W.rdr) ai hs
 have ag:=za px;have H:=(c.cell (p:=(u,2)) h.lt).trans (show w.cell? (u,2)=some (.slice (some (b,o)) n cap)from h.cell 2);have G:=(c.cell (p:=(u,3)) h.lt).trans (show w.cell? (u,3)=some (.int .i64 d)from h.cell 3);have uw:=Y.lt;have ak:=h.lt;obtain⟨r0,r1,r2,r3,r4,r5⟩:=fy (show af w A 223 #[_,_,_,_,_,_]from Y);have R3:=(c.cell (p:=(A,3)) uw).trans r3;have C:=(c.cell (p:=⟨b,_,none⟩) M).trans h0;have E:=(c.cell (p:=⟨b,_,none⟩) M).trans h1;have F:=(c.cell (p:=⟨b,_,none⟩) M).trans h2;have I:=(c.cell (p:=⟨b,_,none⟩) M).trans h3;subst e0 e1 e2 e3;have kL:=af.new w 70 #[(0:Int),(0:Int),nS,(0:Int)];have L:=za kL;have HV:=za c;generalize Cb:w.alloc (.cells #[(0:Int),(0:Int),nS,(0:Int)] 70)=J at*;clear h Y W r0 r1 r2 r3 r4 r5 h0 h1 h2 h3 c px kL;by_cases aD:(i:Int)<(n:Int)-d
 ·have O:decide ((i:Int)<(n:Int)-d)=true:=zD aD;rw[O,Bool.true_or];go_enter func207,ntmps207
  go_wp2_with fail
  have ew:IntKind.i64.wrap ((n:Int)-d)=(n:Int)-d:=zY _ (by omega);have D:∀V,V=J.drew->(V,u,2,Value.slice (some (b,o)) n cap)/\(V,u,3,d)/\(V,b,o+i*4,r)/\(V,b,o+i*4+1,j)/\(V,b,o+i*4+2,Value.slice q l y)/\(V,b,o+i*4+3,x):=by rintro _ rfl;exact⟨H,G,C,E,F,I⟩
  refine Uu D 20 (by kernel_rfl) (by kernel_rfl) ?_;have hHeld:=D _ rfl;refine GT.iv [0,1,2,3,4,5,6,7,8,9,10,11,12,13,14,15,16,17,18] hHeld (fun _ _ _ _ _ h=>h) (by kernel_rfl) ?_;iterate 11 (refine .c rfl rfl (fun V c=>by go_simp<;>with_reducible rfl) ?_;simp only[Act.put,zb,zc,zd])
  refine .c (v:= .int .i64 ((n:Int)-d)) rfl rfl (fun V c=>by go_simp<;>with_reducible rfl) ?_;try simp only[Act.put,zb,zc,zd];refine .c (v:= .bool true) rfl rfl (fun V c=>by go_simp<;>with_reducible rfl) ?_;try simp only[Act.put,zb,zc,zd];refine .c (v:= .bool true) rfl rfl (fun V c=>by go_simp<;>with_reducible rfl) ?_;try simp only[Act.put,zb,zc,zd];refine .u rfl rfl ?_;try simp only[Act.put,zb,zc,zd];refine .u rfl rfl ?_;try simp only[Act.put,zb,zc,zd];refine .u rfl rfl ?_;try simp only[Act.put,zb,zc,zd];refine .u rfl rfl ?_;try simp only[Act.put,zb,zc,zd];refine .c rfl rfl (fun V c=>by go_simp<;>with_reducible rfl) ?_;simp only[Act.put,zb,zc,zd];refine .nil ?_;obtain⟨n0,n1,n2,n3,m0,m1,m2,m3⟩:=aY L.out;refine GT.fx 19 (fun K z=> ?_) rfl (by kernel_rfl);go_simp;refine z.out _ _ ⟨(lk (by simp;omega) _ _ _ _).trans H,(lk (by simp;omega) _ _ _ _).trans G,(lk (by simp;omega) _ _ _ _).trans C,(lk (by simp;omega) _ _ _ _).trans E,(lk (by simp;omega) _ _ _ _).trans F,(lk (by simp;omega) _ _ _ _).trans I⟩ (fun hHeld=> ?_);clear z K;try simp only[Act.put,zb,zc,zd]
  refine GT.oF 20 ?_ rfl (by kernel_rfl);go_simp;go_wp2;have hX:=((((L.out.set 0 r).set 1 j).set 2 (.slice q l y)).set 3 x).drew;have U:Below w.heap.size w ((((J.setCell (w.heap.size,0) r).setCell (w.heap.size,1) j).setCell (w.heap.size,2) (.slice q l y)).setCell (w.heap.size,3) x).drew:=((((HV.out.setCell (by simp) _).setCell (by simp) _).setCell (by simp) _).setCell (by simp) _).drew;obtain⟨x0,x1,x2,x3,_⟩:=aY (show af _ _ _ #[r,j,.slice q l y,x]from hX);refine zj (v:= .tuple #[.agg #[r,j,.slice q l y,x],true]) (by simp[results,results207,go_sem,x0,x1,x2,x3]) rfl ⟨rfl,U⟩
 have O:decide ((i:Int)<(n:Int)-d)=false:=zt aD;rw[O,Bool.false_or];have ew:IntKind.i64.wrap ((n:Int)-d)=(n:Int)-d:=zY _ (by omega);obtain⟨N,ah⟩:=dY (decide (B<s.size));rw[ah];go_enter func207,ntmps207
 go_wp2_with fail
 have D:∀V,V=J.drew->(V,u,2,Value.slice (some (b,o)) n cap)/\(V,u,3,d)/\(V,b,o+i*4,r)/\(V,b,o+i*4+1,j)/\(V,b,o+i*4+2,Value.slice q l y)/\(V,b,o+i*4+3,x)/\(V,A,3,Value.func (.func 161) #[(g,0)] #[]):=by rintro _ rfl;exact⟨H,G,C,E,F,I,R3⟩
 refine Uu D 20 (by kernel_rfl) (by kernel_rfl) ?_;have hHeld:=D _ rfl;refine GT.iv [0,1,2,3,4,5,6,7,8,9,10,11,12,13,14,15] hHeld (fun _ _ _ _ _ h=>h) (by kernel_rfl) ?_;iterate 11 (refine .c rfl rfl (fun V c=>by go_simp<;>with_reducible rfl) ?_;simp only[Act.put,zb,zc,zd])
 refine .c (v:= .int .i64 ((n:Int)-d)) rfl rfl (fun V c=>by go_simp<;>with_reducible rfl) ?_;try simp only[Act.put,zb,zc,zd];refine .c (v:= .bool false) rfl rfl (fun V c=>by go_simp<;>with_reducible rfl) ?_;try simp only[Act.put,zb,zc,zd];refine .c (v:= .bool false) rfl rfl (fun V c=>by go_simp<;>with_reducible rfl) ?_;try simp only[Act.put,zb,zc,zd];refine .c (v:= .pointer (some (A,3))) rfl rfl (fun V c=>by go_simp<;>with_reducible rfl) ?_;try simp only[Act.put,zb,zc,zd];refine .c (v:= .func (.func 161) #[(g,0)] #[]) rfl rfl (fun V c=>by go_simp<;>with_reducible rfl) ?_;try simp only[Act.put,zb,zc,zd];refine .nil ?_;refine GT.fx 16 (fun K z=> ?_) rfl (by kernel_rfl);go_simp;refine(ag.out J.drew HV.out.drew).mono ?_;rintro e w2 ⟨rfl,nq,rfl⟩;go_wp2_with fail
 refine z.out _ _ ⟨H,G,C,E,F,I,R3⟩ (fun hHeld=> ?_);clear z K;try simp only[Act.put,zb,zc,zd]
 refine GT.iv [17,18] hHeld (fun _ _ _ _ _ h=>h) (by kernel_rfl) ?_;refine .c (v:= .bool N) rfl rfl (fun V c=>by go_simp<;>with_reducible rfl) ?_;try simp only[Act.put,zb,zc,zd];refine .c (v:= .bool N) rfl rfl (fun V c=>by go_simp<;>with_reducible rfl) ?_;try simp only[Act.put,zb,zc,zd];refine .nil ?_;obtain⟨n0,n1,n2,n3,m0,m1,m2,m3⟩:=aY L.out;refine GT.fx 19 (fun K z=> ?_) rfl (by kernel_rfl);go_simp;refine z.out _ _ ⟨(iw (by simp;omega) _ _ _ _ _).trans H,(iw (by simp;omega) _ _ _ _ _).trans G,(iw (by simp;omega) _ _ _ _ _).trans C,(iw (by simp;omega) _ _ _ _ _).trans E,(iw (by simp;omega) _ _ _ _ _).trans F,(iw (by simp;omega) _ _ _ _ _).trans I,(iw (by simp;omega) _ _ _ _ _).trans R3⟩ (fun hHeld=> ?_);clear z K;try simp only[Act.put,zb,zc,zd]
 refine GT.oF 20 ?_ rfl (by kernel_rfl);go_simp;go_wp2;have aa:=(L.out.drewN (1+nq)).set 0 r;have ab:=aa.set 1 j;have X5:=ab.set 2 (.slice q l y);have ad:=X5.set 3 x;have y0:=aa.cell 0;have y1:=ab.cell 1;have y2:=X5.cell 2;have y3:=ad.cell 3;simp at y0 y1 y2 y3;have U:Below w.heap.size w (((((J.drewN (1+nq)).setCell (w.heap.size,0) r).setCell (w.heap.size,1) j).setCell (w.heap.size,2) (.slice q l y)).setCell (w.heap.size,3) x):=(((((HV.out.bI _).setCell (by simp) _).setCell (by simp) _).setCell (by simp) _).setCell (by simp) _)
 refine zj (v:= .tuple #[.agg #[r,j,.slice q l y,x],N]) (by simp[results,results207,go_sem,y0,y1,y2,y3]) rfl ⟨rfl,U⟩
theorem Si (f d:Nat)(hd:d<=8)(IH:Hid (∀(g:Nat) (s:ByteArray) (p L:Nat) (w:World),jB w g s p L->p<=s.size->s.size<=100000->L<=64->
 Calls prog 123 #[(g,0),.int .i64 ((d:Int)+1)] w fun e w'=>kx w g s f L p e w')) (g:Nat) (s:ByteArray) (p L:Nat) (w:World) (h:jB w g s p L) (hp:p<s.size) (O:s.size<=100000) (hL:0<L) (PF:L<=64) (hc:s[p].toNat=91):
 Calls prog 123 #[(g,0),d] w fun e w'=>kx w g s (f+1) L p e w':=by
 have R:((s[p].toNat:Int)==117)=false:=zl.2 (by omega);have S:((s[p].toNat:Int)==98)=false:=zl.2 (by omega);have ed:IntKind.i64.wrap ((d:Int)+1)=(d:Int)+1:=zY _ (by omega);have Z:Hid (aN (f+1) (s.data.toList.drop p)=wa (aN f (s.data.toList.drop (p+1)))):=za (by rw[qW (c:=91) hp hc,LI]);have U:=za (tT.start h);generalize hW:((w.alloc (.cells #[(g,0)] 176)).alloc (.cells #[(0:Int),(0:Int),nS,(0:Int)] 70))=W at*;obtain⟨g0,g1,g2,f0,f1,f2,j7⟩:=U.out.rd.cells;have b0:W.cell? (w.heap.size,0)=some (.pointer (some (g,0))):=U.out.box.cell 0;have Bu:=U.out.glt;have d1:decide ((8:Int)<(d:Int))=false:=zt (by omega);have dL:((L:Int)==0)=false:=zl.2 (by omega);have dp:((p:Int)==(s.size:Int))=false:=zl.2 (by omega);have ew:IntKind.i64.wrap ((L:Int)-1)=(L:Int)-1:=zY _ (by omega);clear h;go_enter xP,xK
 go_wp2_with fail
 go_quiet (fail)
 obtain⟨og,rfl⟩:∃og,og=nq:=⟨nq,rfl⟩
 go_wp2_with fail
 go_quiet (fail)
 have ET:=za (U.out.step ((L:Int)-1) ((p:Int)+1) og nq (L':=L-1) (p':=p+1) (by omega) (by omega));have HI:=za (IH.out g s (p+1) (L-1) _ ET.out.rd (by omega) O (by omega));clear IH;go_wp2_with fail
 refine HI.out.mono ?_;rintro e I ⟨x,ok,q,l,k,z,M,A,n,cap,rfl,hr,ho,av,hn,ah⟩;have gw:=za (ET.out.eQ ho hr);have s9:=za hn;have al:=za ah;have au:=gw.out.siz;have hq:=hn.2.2;clear hr ho hn ah HI;have Y:=za (gw.out.below (V':=I.alloc (.cells #[k,z,.slice A n cap,M] 70)) bQ);obtain⟨n0,n1,n2,n3,m0,m1,m2,m3⟩:=aY Y.out.res;have b2:(I.alloc (.cells #[k,z,.slice A n cap,M] 70)).cell? (w.heap.size,0)=some (.pointer (some (g,0))):=Y.out.box.cell 0;have B5:w.heap.size+1<I.heap.size:=by omega
 cases ok with
 |false=>
  obtain⟨k0,k1,k2,k3,l0,l1,l2,l3⟩:=aY gw.out.res;have aw:¬I.heap.size=w.heap.size+1:=by omega
  go_wp2;obtain⟨E1,E2,r,G,D,F⟩:=gw.out.ends (0:Int) (0:Int) nS (0:Int);refine zj (v:= .tuple #[.agg #[(0:Int),(0:Int),nS,(0:Int)],false]) (by simp[results,yx,go_sem,r,G,D,F,zF,B5]) rfl ?_;exact⟨.mk 0 0 [] 0,false,q,l,_,_,_,_,_,_,rfl,af.alloc (show af _ g _ _ from E1) _,E2.alloc _,by omega,J7 hL Z.out s9.out hq,(by intro h;cases h)⟩
 |true=>
  go_wp2_with fail
  by_cases X6:∃hq:q<s.size,s[q].toNat=58
  ·obtain⟨u',UI⟩:=X6;refine(fc g s q l 58 _ Y.out.rd u' O UI).mono ?_;rintro e w2 ⟨rfl,iY,cI⟩;have sk:=za (Y.out.eQ cI iY);have ai:=za (oC g w.heap.size s (q+1) l 1024 4 _ sk.out.rd sk.out.box (by omega) O (by omega));clear n0 n1 n2 n3 m0 m1 m2 m3 b2;go_wp2_with fail
   refine ai.out.mono ?_;rintro e w3 ⟨b,an,y,rfl,va,fI,ad⟩;have Be:=za (sk.out.eQ fI va);have J:=za ad;have HT:=za (((af.new I 70 #[k,z,.slice A n cap,M]).only cI (by simp;omega)).only fI (by simp;omega));have ar:I.heap.size<w3.heap.size:=HT.out.lt;obtain⟨t0,t1,t2,t3,_,_,_,_⟩:=aY HT.out;have aj:=za (HT.out.alloc (.cells #[(4:Int),b,nS,(0:Int)] 70));obtain⟨u0,u1,u2,u3,_,_,_,_⟩:=aY aj.out;have ak:Hid (gd w3 (w.heap.size+2<= ·) x k z (.slice A n cap) M):=za ((al.out (by first|rfl|trivial)).only ((((ae.refl [g] I).alloc _).trans cI).trans fI) (by simp[World.setCell]<;>(have:=U.out.siz;omega)) (fun k _ hk=>by simp[World.setCell]at hk;have:=U.out.siz;omega));obtain⟨i,N⟩:∃i,((w3.alloc (.cells #[(4:Int),b,.slice (some (w3.heap.size+1,0)) 1 1,(0:Int)] 70)).alloc (.cells #[k,z,.slice A n cap,M] 70))=i:=⟨_,rfl⟩
   have Tw:Hid (af i w3.heap.size 70 #[(4:Int),b,.slice (some (w3.heap.size+1,0)) 1 1,(0:Int)]):=za (by rw[<-N];exact(af.new w3 _ _).alloc _);have Ft:Hid (af i (w3.heap.size+1) 70 #[k,z,.slice A n cap,M]):=za (by rw[<-N];exact af.at_ (by simp));have B:Hid (tT w g s y l i):=za (by rw[<-N];exact Be.out.below bQ);have aq:Hid (b<=1024->gd i (w.heap.size+2<= ·) (.mk 4 b [x] 0) (4:Int) b (.slice (some (w3.heap.size+1,0)) 1 1) (0:Int)):=za (by
    intro UM;obtain⟨x0,x1,x2,x3,_⟩:=aY Ft.out;refine⟨rfl,rfl,rfl,aA (by omega) (by omega),aA (by omega) (by omega),aA (by omega) (by omega),by simp,_,_,rfl,by simp,by simp,⟨_,_,_,_,_,_,rfl, ?_,x0,x1,x2,x3, ?_⟩,trivial⟩
    ·show w.heap.size+2<=w3.heap.size+1
     omega
    exact ak.out.below (by rw[<-N];exact bQ))
   have X:Hid (∀V,af V w3.heap.size 70 #[(4:Int),b,.slice (some (w3.heap.size+1,0)) 1 1,(0:Int)]->af V w.heap.size 176 #[(g,0)]->(V,w3.heap.size,0,(4:Int))/\(V,w3.heap.size,1,b)/\(V,w3.heap.size,2,Value.slice (some (w3.heap.size+1,0)) 1 1)/\(V,w3.heap.size,3,(0:Int))/\(V,w.heap.size,0,g,0)):=za (fun V o E=>by
    obtain⟨a0,a1,a2,a3,_⟩:=aY o;exact⟨a0,a1,a2,a3,E.cell 0⟩)
   have ao:=za N;clear ad va fI iY cI ai N;go_wp2_with fail
   rw[ao.out];clear t0 t1 t2 t3 u0 u1 u2 u3;have hHeld:=X.out i.drew Tw.out.drew B.out.box.drew;cases an with
   |false=>
    refine aL 7 (fun V=>(V,w3.heap.size,0,(4:Int))/\(V,w3.heap.size,1,b)/\(V,w3.heap.size,2,Value.slice (some (w3.heap.size+1,0)) 1 1)/\(V,w3.heap.size,3,(0:Int))/\(V,w.heap.size,0,g,0)) (by kernel_rfl) (by kernel_rfl) ?_;refine GT.iv [0,1,2,3,4,5] hHeld (fun _ _ _ _ _ h=>h) (by kernel_rfl) ?_;iterate 3 (refine .c rfl rfl (fun V hV=>by go_simp<;>with_reducible rfl) ?_;simp only[Act.put,zb,zc,zd])
    refine .u rfl rfl ?_;try simp only[Act.put,zb,zc,zd];refine .u rfl rfl ?_;try simp only[Act.put,zb,zc,zd];refine .c rfl rfl (fun V hV=>by go_simp<;>with_reducible rfl) ?_;simp only[Act.put,zb,zc,zd];refine .nil ?_;obtain⟨n0,n1,n2,n3,m0,m1,m2,m3⟩:=aY B.out.res;refine GT.fx 6 (fun K j=> ?_) rfl (by kernel_rfl);go_simp;have H:ae [w.heap.size+1] i ((((i.setCell (w.heap.size+1,0) (4:Int)).setCell (w.heap.size+1,1) b).setCell (w.heap.size+1,2) (.slice (some (w3.heap.size+1,0)) 1 1)).setCell (w.heap.size+1,3) (0:Int)):=((((ae.refl _ _).setCell (by simp) _).setCell (by simp) _).setCell (by simp) _).setCell (by simp) _;refine j.out _ _ (X.out _ (Tw.out.only H (by simp;omega)).drew (B.out.box.only H (by simp)).drew) (fun hHeld=> ?_);clear j K;try simp only[Act.put,zb,zc,zd]
    refine GT.oF 7 ?_ rfl (by kernel_rfl);go_simp;obtain⟨R,S,r,G,D,F⟩:=B.out.ends (4:Int) b (.slice (some (w3.heap.size+1,0)) 1 1) (0:Int);go_wp2;refine zj (v:= .tuple #[.agg #[(4:Int),b,.slice (some (w3.heap.size+1,0)) 1 1,(0:Int)],false]) (by simp[results,yx,go_sem,r,G,D,F]) rfl ?_;exact⟨.mk 0 0 [] 0,false,y,l,_,_,_,_,_,_,rfl,af.drew (show af _ g _ _ from R),S.drew,by omega,pS Z.out s9.out (Sb x u' UI J.out L) J.out.2.2.1,(by intro h;cases h)⟩
   |true=>
    by_cases pn:∃Tx:y<s.size,s[y].toNat=93
    ·obtain⟨Tx,X4⟩:=pn;have ab:=za (fc g s y l 93 _ (af.drew (show af i g _ _ from B.out.rd)) Tx O X4);refine aL 7 (fun V=>(V,w3.heap.size,0,(4:Int))/\(V,w3.heap.size,1,b)/\(V,w3.heap.size,2,Value.slice (some (w3.heap.size+1,0)) 1 1)/\(V,w3.heap.size,3,(0:Int))/\(V,w.heap.size,0,g,0)) (by kernel_rfl) (by kernel_rfl) ?_;refine GT.iv [0,1,2,3] hHeld (fun _ _ _ _ _ h=>h) (by kernel_rfl) ?_;repeat(refine .c rfl rfl (fun V hV=>by go_simp<;>with_reducible rfl) ?_;simp only[Act.put,zb,zc,zd])
     refine .nil ?_;refine GT.fx 4 (fun K j=> ?_) rfl (by kernel_rfl);go_simp;refine ab.out.mono ?_;rintro e m ⟨rfl,aa,IB⟩;have C:ae [g] i m:=(ae.refl [g] i).drew.trans IB;clear IB;have u:=za (B.out.eQ C aa);have ag:=za C;have Nd:=za (Tw.out.only C (by simp;omega));clear hHeld aa C;go_wp2_with fail
     refine j.out _ _ (X.out m Nd.out u.out.box) (fun hHeld=> ?_);clear j K;try simp only[Act.put,zb,zc,zd]
     refine GT.iv [5] hHeld (fun _ _ _ _ _ h=>h) (by kernel_rfl) ?_;refine .c rfl rfl (fun V hV=>by go_simp<;>with_reducible rfl) ?_;simp only[Act.put,zb,zc,zd];refine .nil ?_;obtain⟨n0,n1,n2,n3,m0,m1,m2,m3⟩:=aY u.out.res;refine GT.fx 6 (fun K j=> ?_) rfl (by kernel_rfl);go_simp;have H:ae [w.heap.size+1] m ((((m.setCell (w.heap.size+1,0) (4:Int)).setCell (w.heap.size+1,1) b).setCell (w.heap.size+1,2) (.slice (some (w3.heap.size+1,0)) 1 1)).setCell (w.heap.size+1,3) (0:Int)):=((((ae.refl _ _).setCell (by simp) _).setCell (by simp) _).setCell (by simp) _).setCell (by simp) _;refine j.out _ _ (X.out _ (Nd.out.only H (by simp;omega)) (u.out.box.only H (by simp))) (fun hHeld=> ?_);clear j K;try simp only[Act.put,zb,zc,zd]
     refine GT.oF 7 ?_ rfl (by kernel_rfl);go_simp;obtain⟨R,S,r,G,D,F⟩:=u.out.ends (4:Int) b (.slice (some (w3.heap.size+1,0)) 1 1) (0:Int);go_wp2;refine zj (v:= .tuple #[.agg #[(4:Int),b,.slice (some (w3.heap.size+1,0)) 1 1,(0:Int)],true]) (by simp[results,yx,go_sem,r,G,D,F]) rfl ?_;exact⟨.mk 4 b [x] 0,true,y+1,l,_,_,_,_,_,_,rfl,R,S,by omega,J8 hL Z.out s9.out (Sc x u' UI J.out Tx X4) (by have:=(J.out.1 rfl).2.2;omega) (by omega),fun _=>((aq.out J.out.2.2.2).only ag.out (by simp;omega) (fun _ _ h=>h)).only (L:= [w.heap.size+1]) (((((ae.refl _ m).setCell (by simp) _).setCell (by simp) _).setCell (by simp) _).setCell (by simp) _) (by simp) (fun _ _ h=>by omega)⟩
    have ab:=za (gE g s y l 93 _ (af.drew (show af i g _ _ from B.out.rd)) J.out.2.2.1 O (fun o E=>pn ⟨o,E⟩));refine aL 7 (fun V=>(V,w3.heap.size,0,(4:Int))/\(V,w3.heap.size,1,b)/\(V,w3.heap.size,2,Value.slice (some (w3.heap.size+1,0)) 1 1)/\(V,w3.heap.size,3,(0:Int))/\(V,w.heap.size,0,g,0)) (by kernel_rfl) (by kernel_rfl) ?_;refine GT.iv [0,1,2,3] hHeld (fun _ _ _ _ _ h=>h) (by kernel_rfl) ?_;repeat(refine .c rfl rfl (fun V hV=>by go_simp<;>with_reducible rfl) ?_;simp only[Act.put,zb,zc,zd])
    refine .nil ?_;refine GT.fx 4 (fun K j=> ?_) rfl (by kernel_rfl);go_simp;refine ab.out.mono ?_;rintro e m ⟨rfl,n6,La⟩;have aa:jB m g s y l:=by rw[La];exact B.out.rd
    have C:ae [g] i m:=by rw[La];exact(ae.refl [g] i).drew.drewN _
    clear La;have u:=za (B.out.eQ C aa);have ag:=za C;have Nd:=za (Tw.out.only C (by simp;omega));clear hHeld aa C;go_wp2_with fail
    refine j.out _ _ (X.out m Nd.out u.out.box) (fun hHeld=> ?_);clear j K;try simp only[Act.put,zb,zc,zd]
    refine GT.iv [5] hHeld (fun _ _ _ _ _ h=>h) (by kernel_rfl) ?_;refine .c rfl rfl (fun V hV=>by go_simp<;>with_reducible rfl) ?_;simp only[Act.put,zb,zc,zd];refine .nil ?_;obtain⟨n0,n1,n2,n3,m0,m1,m2,m3⟩:=aY u.out.res;refine GT.fx 6 (fun K j=> ?_) rfl (by kernel_rfl);go_simp;have H:ae [w.heap.size+1] m ((((m.setCell (w.heap.size+1,0) (4:Int)).setCell (w.heap.size+1,1) b).setCell (w.heap.size+1,2) (.slice (some (w3.heap.size+1,0)) 1 1)).setCell (w.heap.size+1,3) (0:Int)):=((((ae.refl _ _).setCell (by simp) _).setCell (by simp) _).setCell (by simp) _).setCell (by simp) _;refine j.out _ _ (X.out _ (Nd.out.only H (by simp;omega)) (u.out.box.only H (by simp))) (fun hHeld=> ?_);clear j K;try simp only[Act.put,zb,zc,zd]
    refine GT.oF 7 ?_ rfl (by kernel_rfl);go_simp;obtain⟨R,S,r,G,D,F⟩:=u.out.ends (4:Int) b (.slice (some (w3.heap.size+1,0)) 1 1) (0:Int);go_wp2;refine zj (v:= .tuple #[.agg #[(4:Int),b,.slice (some (w3.heap.size+1,0)) 1 1,(0:Int)],false]) (by simp[results,yx,go_sem,r,G,D,F]) rfl ?_;exact⟨.mk 0 0 [] 0,false,y,l,_,_,_,_,_,_,rfl,R,S,by omega,pS Z.out s9.out (OJ x u' UI J.out (fun o E=>pn ⟨o,E⟩) L) J.out.2.2.1,(by intro h;cases h)⟩
  refine(gE g s q l 58 _ Y.out.rd hq O (fun o E=>X6 ⟨o,E⟩)).mono ?_;rintro e w2 ⟨rfl,n5,rfl⟩;go_wp2;obtain⟨E1,E2,r,G,D,F⟩:=(Y.out.below (V':=(I.alloc (.cells #[k,z,.slice A n cap,M] 70)).drewN n5) bQ).ends (0:Int) (0:Int) nS (0:Int);refine zj (v:= .tuple #[.agg #[(0:Int),(0:Int),nS,(0:Int)],false]) (by simp[results,yx,go_sem,r,G,D,F]) rfl ?_;exact⟨.mk 0 0 [] 0,false,q,l,_,_,_,_,_,_,rfl,E1,E2,by omega,pS Z.out s9.out (Sa x (fun o E=>X6 ⟨o,E⟩) L) hq,(by intro h;cases h)⟩
def aeu (w:World)(g:Nat)(s:ByteArray)(L:Nat)(R:Option (Ty×List UInt8))(e:Ending)(w':World):Prop:=
 ∃(t:Ty) (ok:Bool) (q L':Nat) (k z ta:Int) (A:Option Addr) (n cap:Nat),e= .returned (.tuple #[.agg #[k,z,.slice A n cap,ta],ok])/\jB w' g s q L'/\ae [g] w w'/\L'<=L/\QX (1+L) s R t ok q L'/\(ok=true->gd w' (w.heap.size<= ·) t k z (.slice A n cap) ta)
structure pT (w:World)(g:Nat)(s:ByteArray)(p L:Nat)(acc:List Ty)(tl:Nat)(v:Value)(V:World):Prop where
 res:af V w.heap.size 70 #[(0:Int),(0:Int),nS,(0:Int)]
 bx:af V (w.heap.size+1) 70 #[(5:Int),(0:Int),v,tl]
 acc:gG V (w.heap.size+2) acc v
 rd:jB V g s p L
 only:ae [g] w V
 siz:w.heap.size+2<=V.heap.size
 glt:g<w.heap.size
theorem pT.start (h:jB w g s p L):pT w g s p L [] 0 nS ((w.alloc (.cells #[(0:Int),(0:Int),nS,(0:Int)] 70)).alloc (.cells #[(5:Int),(0:Int),nS,(0:Int)] 70)) where
 res:=(af.new w _ _).alloc _
 bx:=af.at_ (by simp)
 acc:=gG.nil _ _
 rd:=(af.alloc (show af w g _ _ from h) _).alloc _
 only:=((ae.refl _ w).alloc _).alloc _
 siz:=by simp
 glt:=af.lt (show af w g _ _ from h)
theorem pT.eQ {p' L' c:Nat}(h:pT w g s p L acc c v V)(b:ae [g] V V')(d:jB V' g s p' L'):pT w g s p' L' acc c v V' where
 res:=h.res.only b (by have:=h.glt;simp;omega)
 bx:=h.bx.only b (by have:=h.glt;simp;omega)
 acc:=h.acc.only b (by have:=h.glt;simp;omega)
 rd:=d
 only:=h.only.trans b
 siz:=zz h.siz b.size
 glt:=h.glt
theorem pT.below {c:Nat}(h:pT w g s p L acc c v V)(b:Below V.heap.size V V'):pT w g s p L acc c v V':=h.eQ ((ae.ai b (ze _)).mono (by simp)) ((b.block _ (af.lt (show af V g _ _ from h.rd))).trans h.rd)
theorem pT.mark {b:Nat}(h:pT w g s p L acc b v V){n:Int}(c:n=(b+1:Nat)):pT w g s p L acc (b+1) v (V.setCell (w.heap.size+1,3) n) where
 res:=h.res.dI (by simp) _
 bx:=by subst c;exact h.bx.store rfl
 acc:=h.acc.only ((ae.refl [w.heap.size+1] V).setCell (by simp) _) (by simp)
 rd:=af.dI (show af V g _ _ from h.rd) (by have:=h.glt;simp;omega) _
 only:=h.only.setCell (by simp) _
 siz:=by simp[World.setCell];exact h.siz
 glt:=h.glt
theorem pT.more {j:List Ty}{c:Value}(h:pT w g s p L acc l v V)(b:V.grownBy V' v.ownBlock)(m:gG V' (w.heap.size+2) j c):pT w g s p L j l c (V'.setCell (w.heap.size+1,2) c):=
 have d:∀k,k<w.heap.size+2->v.ownBlock≠some k:=fun k i e=>by have:=(h.acc.ge k e).1;omega
 ⟨(h.res.grown b (d _ (by omega))).dI (by simp) _,
  (h.bx.grown b (d _ (by omega))).store rfl,
  m.only ((ae.refl [w.heap.size+1] V').setCell (by simp) _) (by simp),
  (af.grown (show af V g _ _ from h.rd) b (d _ (by have:=h.glt;omega))).dI (by have:=h.glt;simp;omega) _,
  (h.only.grown b (fun k i=> .inr (by have:=(h.acc.ge k i).1;omega))).setCell (by simp) _,
  (by simp[World.setCell];exact zz h.siz b.size),
  h.glt⟩
theorem pT.ends (h:pT w g s p L acc i v V)(b c d e:Value):
 jB ((((V.setCell (w.heap.size,0) b).setCell (w.heap.size,1) c).setCell (w.heap.size,2) d).setCell (w.heap.size,3) e) g s p L/\ae [g] w ((((V.setCell (w.heap.size,0) b).setCell (w.heap.size,1) c).setCell (w.heap.size,2) d).setCell (w.heap.size,3) e)/\
 ((V.setCell (w.heap.size,0) b),w.heap.size,0,b)/\(((V.setCell (w.heap.size,0) b).setCell (w.heap.size,1) c),w.heap.size,1,c)/\((((V.setCell (w.heap.size,0) b).setCell (w.heap.size,1) c).setCell (w.heap.size,2) d),w.heap.size,2,d)/\(((((V.setCell (w.heap.size,0) b).setCell (w.heap.size,1) c).setCell (w.heap.size,2) d).setCell (w.heap.size,3) e),w.heap.size,3,e):=
 have n1:g≠w.heap.size:=by have:=h.glt;omega
 ⟨(((af.dI (show af V g _ _ from h.rd) (p:=⟨w.heap.size,0,none⟩) n1 _).dI (p:=⟨w.heap.size,1,none⟩) n1 _).dI (p:=⟨w.heap.size,2,none⟩) n1 _).dI (p:=⟨w.heap.size,3,none⟩) n1 _,(((h.only.setCell (by simp) _).setCell (by simp) _).setCell (by simp) _).setCell (by simp) _,by have:=(h.res.set 0 b).cell 0;simpa using this,by have:=((h.res.set 0 b).set 1 c).cell 1;simpa using this,by have:=(((h.res.set 0 b).set 1 c).set 2 d).cell 2;simpa using this,by have:=((((h.res.set 0 b).set 1 c).set 2 d).set 3 e).cell 3;simpa using this⟩
theorem pT.ty {b:Nat}(h:pT w g s p L acc b v V)(m:acc.length<=200000)(n:b<=200000)(j d e i:Value):gd ((((V.setCell (w.heap.size,0) j).setCell (w.heap.size,1) d).setCell (w.heap.size,2) e).setCell (w.heap.size,3) i) (w.heap.size<= ·) (.mk 5 0 acc b) (5:Int) (0:Int) v b:=by
 have l:gG _ (w.heap.size+2) acc v:=h.acc.only (L:= [w.heap.size]) (w':=(((V.setCell (w.heap.size,0) j).setCell (w.heap.size,1) d).setCell (w.heap.size,2) e).setCell (w.heap.size,3) i) (((((ae.refl _ _).setCell (by simp) _).setCell (by simp) _).setCell (by simp) _).setCell (by simp) _) (by simp);refine gd.eG (l.ty (by omega) (aA (by omega) (by omega)) (aA (by omega) (by omega)) (aA (by omega) (by omega))) fun k _ c=> ?_
 have c:w.heap.size+2<=k:=c;show w.heap.size<=k
 omega
theorem Kb (f d:Nat)(hd:d<=8)(IH:Hid (∀(g:Nat) (s:ByteArray) (p L:Nat) (w:World),jB w g s p L->p<=s.size->s.size<=100000->L<=64->
 Calls prog 123 #[(g,0),.int .i64 ((d:Int)+1)] w fun e w'=>kx w g s f L p e w')) (g:Nat) (s:ByteArray) (p L:Nat) (aa:Option (Ty×List UInt8)) (w:World) (h:jB w g s p L) (hT:Hid (fO f s aa p [] 0)) (hp:p<=s.size) (Z:s.size<=100000) (PF:L<=64):
 Calls prog 169 #[(g,0),d] w fun e w'=>aeu w g s L aa e w':=by
 have ed:IntKind.i64.wrap ((d:Int)+1)=(d:Int)+1:=zY _ (by omega);have dm:=za (pT.start h);clear h;go_enter func169,ntmps169
 go_wp2_with fail
 by_cases X6:∃hq:p<s.size,s[p].toNat=125
 ·obtain⟨u',F⟩:=X6;refine(fc g s p L 125 _ dm.out.rd u' Z F).mono ?_;rintro e w1 ⟨rfl,Ng,Nf⟩;have gw:=za (dm.out.eQ Nf Ng);clear Ng Nf;obtain⟨X,Y,G,R,M,I,S,O⟩:=aY gw.out.res;obtain⟨m,r,E,B,x,D,C,u⟩:=aY gw.out.bx;go_wp2;obtain⟨J,N,H,W,K,U⟩:=gw.out.ends (.int .i64 5) (.int .i64 0) nS (.int .i64 0);refine zj (v:= .tuple #[.agg #[(5:Int),(0:Int),nS,.int .i64 0],true]) (by simp[results,xD,go_sem,H,W,K,U]) rfl ?_;exact⟨.mk 5 0 [] 0,true,p+1,L,_,_,_,_,_,_,rfl,J,N,ze _,J' (hT.out.ends u' F) (by simp[ba]) (by omega),fun _=>gw.out.ty (by simp) (by omega) _ _ _ _⟩
 have Fu:=za (J9 hT.out (fun i j=>X6 ⟨i,j⟩));refine(gE g s p L 125 _ dm.out.rd hp Z (fun i j=>X6 ⟨i,j⟩)).mono ?_;rintro e w1 ⟨rfl,n1,kR⟩;have gw:Hid (pT w g s p L [] 0 nS w1):=za (by rw[kR];exact dm.out.below bQ);clear kR X6;go_wp2_with fail
 go_loopw [7] (fun _ wr=>∃(q Lc:Nat) (acc:List Ty) (l:Nat) (vv:Value),q<=s.size/\Hid (qy f s aa q acc l)/\Hid (Lc+ba acc=L)/\Lc<=L/\acc.length<=q/\l<=q/\Hid (pT w g s q Lc acc l vv wr)) (fun _ wr=>s.size-RQ (wr.cell? (g,1)))
 case atStart=>exact⟨p,L,[],0,_,hp,Fu,za (by simp[ba]),ze _,by simp,by omega,gw⟩
 case round=>
  clear dm gw Fu;obtain⟨q,Lc,acc,l,vv,hq,Fu,EV,aB,Dx,vD,HW⟩:=hrel;obtain⟨c0,c1,c2,au,ao,an,pn⟩:=HW.out.rd.cells;obtain⟨A2,n2,cap2,rfl,IY,aD,aC⟩:=HW.out.acc.bK;obtain⟨X,Y,G,R,M,I,S,O⟩:=aY HW.out.res;obtain⟨m,r,E,B,x,D,C,u⟩:=aY HW.out.bx;clear c0 c2 au ao an;by_cases Nb:∃hq:q<s.size,s[q].toNat=63
  ·obtain⟨u',Nb⟩:=Nb;have aA:IntKind.i64.wrap ((l:Int)+1)=(l:Int)+1:=zY _ (by omega);clear X Y G R M I S O m r E B x D C u;go_wp2_with fail
   refine(fc g s q Lc 63 _ HW.out.rd u' Z Nb).mono ?_;rintro e w2 ⟨rfl,iY,cI⟩;have vc:=za (HW.out.eQ cI iY);clear iY cI;obtain⟨X,Y,G,R,M,I,S,O⟩:=aY vc.out.res;obtain⟨m,r,E,B,x,D,C,u⟩:=aY vc.out.bx;obtain⟨W3,lF⟩:∃W3,w2.setCell (w.heap.size+1,3) (.int .i64 ((l:Int)+1))=W3:=⟨_,rfl⟩
   obtain⟨T,al⟩:∃T,l+1=T:=⟨_,rfl⟩
   have sk:Hid (pT w g s (q+1) Lc acc T (.slice A2 n2 cap2) W3):=za (by rw[<-lF,<-al];exact vc.out.mark (by omega));have Dw:Hid (Qc f s aa (q+1) acc T):=za (by rw[<-al];exact Fu.out.mark u' Nb);have ar:=za lF;have hQ:q+1<=s.size:=by omega
   have aE:T<=q+1:=by omega
   clear lF al;go_wp2_with fail
   rw[ar.out];refine(IH.out g s ((q+1)) Lc W3 sk.out.rd hQ Z (by omega)).mono ?_;rintro e w4 ⟨y,ok,b,c,k,ak,ta,A,n,cap,rfl,hr,ho,aw,hn,mR⟩;have Be:=za (sk.out.eQ ho hr);have s9:=za hn;have ah:=za mR;have Tx:=hn.2.2;have aq:=sk.out.siz;have ax:=Be.out.siz;have ai:w.heap.size<w4.heap.size:=by omega
   have az:w.heap.size+1<w4.heap.size:=by omega
   clear hr ho hn mR X Y G R M I S O m r E B x D C u;obtain⟨X,Y,G,R,M,I,S,O⟩:=aY Be.out.res;obtain⟨m,r,E,B,x,D,C,u⟩:=aY Be.out.bx;cases ok with
   |false=>
    go_wp2;obtain⟨J,N,H,W,K,U⟩:=Be.out.ends (.int .i64 0) (.int .i64 0) (.slice none 0 0) (.int .i64 0);refine zj (v:= .tuple #[.agg #[(0:Int),(0:Int),nS,(0:Int)],false]) (by simp[results,xD,go_sem,H,W,K,U,zF,ai]) rfl ?_;exact⟨.mk 0 0 [] 0,false,b,c,_,_,_,_,_,_,rfl,af.alloc (show af _ g _ _ from J) _,N.alloc _,by omega,Sd _ Dw.out s9.out EV.out,(by intro h;cases h)⟩
   |true=>
    have Ni:=za (Mm Dw.out hQ s9.out);obtain⟨_,vE,ay⟩:=s9.out.1 rfl;have Nh:Hid (c+ba (acc++ [y])=L):=za (by rw[tX];have:=EV.out;omega);have mz:Hid (∀o o',pT w g s b c acc (T) (.slice A2 n2 cap2) ((w4.alloc o).alloc o')):=za (fun o o'=>Be.out.below bQ);have HY:Hid (∀o o',gd ((w4.alloc o).alloc o') (fun k=>w.heap.size+2<=k/\(Value.slice A2 n2 cap2).ownBlock≠some k) y k ak (.slice A n cap) ta):=za (fun o o'=>((ah.out (by first|rfl|trivial)).eG (fun k _ hk=>⟨by have hk:W3.heap.size<=k:=hk;omega,fun e=>by have:=(sk.out.acc.ge k e).2;have hk:W3.heap.size<=k:=hk;omega⟩)).below bQ);have ae:acc.length<=1000000:=by omega
    clear vE;go_wp2_with (at_builtin;refine gh (by rfl) (.tmp 34) (.tmp 36) (by rfl) (w.heap.size+2) acc (by rfl) (mz.out _ _).acc y (HY.out _ _) _ (by rfl) (by simp) (by simp) (by simp) (by simp) ae (by simp only[zp];omega) ?_)
    intro g' n' aj w6 Tn IC dM av;have Tz:=af.grown (mz.out _ _).bx dM (fun e=>by have:=((mz.out (.cells #[] 0) (.cells #[] 0)).acc.ge _ e).1;omega);clear X Y G R M I S O m r E B x D C u;obtain⟨m,r,E,B,x,D,C,u⟩:=aY Tz;obtain⟨W7,sm⟩:∃W7,w6.setCell (w.heap.size+1,2) (.slice (some (g',0)) n' aj)=W7:=⟨_,rfl⟩
    have ID:Hid (pT w g s b c (acc++ [y]) (T) (.slice (some (g',0)) n' aj) W7):=za (by rw[<-sm];exact(mz.out _ _).more dM IC);have ag:=za sm;clear sm Tz dM IC;go_wp2_with fail
    rw[ag.out];clear m r E B x D C u;by_cases F:∃hq:b<s.size,s[b].toNat=125
    ·obtain⟨Bf,F⟩:=F;refine(fc g s b c 125 _ ID.out.rd Bf Z F).mono ?_;rintro e w8 ⟨rfl,ad,Qq⟩;have z:=za (ID.out.eQ Qq ad);clear ad Qq;obtain⟨X,Y,G,R,M,I,S,O⟩:=aY z.out.res;obtain⟨m,r,E,B,x,D,C,u⟩:=aY z.out.bx;go_wp2;obtain⟨J,N,H,W,K,U⟩:=z.out.ends (.int .i64 5) (.int .i64 0) (.slice (some (g',0)) n' aj) (.int .i64 ((T:Nat):Int));refine zj (v:= .tuple #[.agg #[(5:Int),(0:Int),(.slice (some (g',0)) n' aj),.int .i64 ((T:Nat):Int)],true]) (by simp[results,xD,go_sem,H,W,K,U]) rfl ?_;exact⟨.mk 5 0 (acc++ [y]) ((T:Nat):Int),true,b+1,c,_,_,_,_,_,_,rfl,J,N,by omega,J' (Ni.out.ends Bf F) Nh.out (by omega),fun _=>z.out.ty (by simp;omega) (by omega) _ _ _ _⟩
    refine(gE g s b c 125 _ ID.out.rd Tx Z (fun i j=>F ⟨i,j⟩)).mono ?_;rintro e w8 ⟨rfl,n8,ab⟩;have z:Hid (pT w g s b c (acc++ [y]) (T) (.slice (some (g',0)) n' aj) w8):=za (by rw[ab];exact ID.out.below bQ);clear ab;go_wp2_with fail
    by_cases vI:∃hq:b<s.size,s[b].toNat=44
    ·obtain⟨Bf,vI⟩:=vI;refine(fc g s b c 44 _ z.out.rd Bf Z vI).mono ?_;rintro e w9 ⟨rfl,X7,so⟩;have PI:=za (z.out.eQ so X7);have c9:=PI.out.rd.cells.2.1;clear X7 so;go_wp2;go_roundw
     case rel=>exact⟨b+1,c,acc++ [y],T,_,by omega,za (Ni.out.more Bf vI (by simp)),Nh,by omega,by simp;omega,by omega,PI⟩
     case measure=>
      rw[c1,c9];simp only[RQ];omega
    refine(gE g s b c 44 _ z.out.rd Tx Z (fun i j=>vI ⟨i,j⟩)).mono ?_;rintro e w9 ⟨rfl,n9,Nj⟩;have PI:Hid (pT w g s b c (acc++ [y]) (T) (.slice (some (g',0)) n' aj) w9):=za (by rw[Nj];exact z.out.below bQ);clear Nj;obtain⟨X,Y,G,R,M,I,S,O⟩:=aY PI.out.res;obtain⟨m,r,E,B,x,D,C,u⟩:=aY PI.out.bx;go_wp2;obtain⟨J,N,H,W,K,U⟩:=PI.out.ends (.int .i64 0) (.int .i64 0) (.slice none 0 0) (.int .i64 0);refine zj (v:= .tuple #[.agg #[(0:Int),(0:Int),nS,(0:Int)],false]) (by simp[results,xD,go_sem,H,W,K,U]) rfl ?_;exact⟨.mk 0 0 [] 0,false,b,c,_,_,_,_,_,_,rfl,J,N,by omega,Ej _ (C8 Ni.out (by simp) (fun i j=>F ⟨i,j⟩) (fun i j=>vI ⟨i,j⟩)) Tx,(by intro h;cases h)⟩
  go_wp2_with fail
  refine(gE g s q Lc 63 _ HW.out.rd hq Z (fun i j=>Nb ⟨i,j⟩)).mono ?_;rintro e w2 ⟨rfl,aF,vJ⟩;have sk:Hid (pT w g s q Lc acc l (.slice A2 n2 cap2) w2):=za (by rw[vJ];exact HW.out.below bQ);clear vJ X Y G R M I S O m r E B x D C u;obtain⟨X,Y,G,R,M,I,S,O⟩:=aY sk.out.res;obtain⟨m,r,E,B,x,D,C,u⟩:=aY sk.out.bx;by_cases PJ:0<l
  ·skip
   go_wp2;obtain⟨J,N,H,W,K,U⟩:=sk.out.ends (.int .i64 0) (.int .i64 0) (.slice none 0 0) (.int .i64 0);refine zj (v:= .tuple #[.agg #[(0:Int),(0:Int),nS,(0:Int)],false]) (by simp[results,xD,go_sem,H,W,K,U]) rfl ?_;exact⟨.mk 0 0 [] 0,false,q,Lc,_,_,_,_,_,_,rfl,J,N,by omega,Ej _ (Fu.out.none_ (fun i j=>Nb ⟨i,j⟩) PJ) hq,(by intro h;cases h)⟩
  have Dw:Hid (Qc f s aa q acc l):=za (by
   obtain rfl:l=0:=by omega
   exact Fu.out.plain (fun i j=>Nb ⟨i,j⟩))
  obtain⟨W3,rfl⟩:∃W3,W3=w2:=⟨w2,rfl⟩
  have hQ:=hq;go_wp2_with fail
  refine(IH.out g s (q) Lc W3 sk.out.rd hQ Z (by omega)).mono ?_;rintro e w4 ⟨y,ok,b,c,k,ak,ta,A,n,cap,rfl,hr,ho,aw,hn,mR⟩;have Be:=za (sk.out.eQ ho hr);have s9:=za hn;have ah:=za mR;have Tx:=hn.2.2;have aq:=sk.out.siz;have ax:=Be.out.siz;have ai:w.heap.size<w4.heap.size:=by omega
  have az:w.heap.size+1<w4.heap.size:=by omega
  clear hr ho hn mR X Y G R M I S O m r E B x D C u;obtain⟨X,Y,G,R,M,I,S,O⟩:=aY Be.out.res;obtain⟨m,r,E,B,x,D,C,u⟩:=aY Be.out.bx;cases ok with
  |false=>
   go_wp2;obtain⟨J,N,H,W,K,U⟩:=Be.out.ends (.int .i64 0) (.int .i64 0) (.slice none 0 0) (.int .i64 0);refine zj (v:= .tuple #[.agg #[(0:Int),(0:Int),nS,(0:Int)],false]) (by simp[results,xD,go_sem,H,W,K,U,zF,ai]) rfl ?_;exact⟨.mk 0 0 [] 0,false,b,c,_,_,_,_,_,_,rfl,af.alloc (show af _ g _ _ from J) _,N.alloc _,by omega,Sd _ Dw.out s9.out EV.out,(by intro h;cases h)⟩
  |true=>
   have Ni:=za (Mm Dw.out hQ s9.out);obtain⟨_,vE,ay⟩:=s9.out.1 rfl;have Nh:Hid (c+ba (acc++ [y])=L):=za (by rw[tX];have:=EV.out;omega);have mz:Hid (∀o o',pT w g s b c acc (l) (.slice A2 n2 cap2) ((w4.alloc o).alloc o')):=za (fun o o'=>Be.out.below bQ);have HY:Hid (∀o o',gd ((w4.alloc o).alloc o') (fun k=>w.heap.size+2<=k/\(Value.slice A2 n2 cap2).ownBlock≠some k) y k ak (.slice A n cap) ta):=za (fun o o'=>((ah.out (by first|rfl|trivial)).eG (fun k _ hk=>⟨by have hk:W3.heap.size<=k:=hk;omega,fun e=>by have:=(sk.out.acc.ge k e).2;have hk:W3.heap.size<=k:=hk;omega⟩)).below bQ);have ae:acc.length<=1000000:=by omega
   clear vE;go_wp2_with (at_builtin;refine gh (by rfl) (.tmp 34) (.tmp 36) (by rfl) (w.heap.size+2) acc (by rfl) (mz.out _ _).acc y (HY.out _ _) _ (by rfl) (by simp) (by simp) (by simp) (by simp) ae (by simp only[zp];omega) ?_)
   intro g' n' aj w6 Tn IC dM av;have Tz:=af.grown (mz.out _ _).bx dM (fun e=>by have:=((mz.out (.cells #[] 0) (.cells #[] 0)).acc.ge _ e).1;omega);clear X Y G R M I S O m r E B x D C u;obtain⟨m,r,E,B,x,D,C,u⟩:=aY Tz;obtain⟨W7,sm⟩:∃W7,w6.setCell (w.heap.size+1,2) (.slice (some (g',0)) n' aj)=W7:=⟨_,rfl⟩
   have ID:Hid (pT w g s b c (acc++ [y]) (l) (.slice (some (g',0)) n' aj) W7):=za (by rw[<-sm];exact(mz.out _ _).more dM IC);have ag:=za sm;clear sm Tz dM IC;go_wp2_with fail
   rw[ag.out];clear m r E B x D C u;by_cases F:∃hq:b<s.size,s[b].toNat=125
   ·obtain⟨Bf,F⟩:=F;refine(fc g s b c 125 _ ID.out.rd Bf Z F).mono ?_;rintro e w8 ⟨rfl,ad,Qq⟩;have z:=za (ID.out.eQ Qq ad);clear ad Qq;obtain⟨X,Y,G,R,M,I,S,O⟩:=aY z.out.res;obtain⟨m,r,E,B,x,D,C,u⟩:=aY z.out.bx;go_wp2;obtain⟨J,N,H,W,K,U⟩:=z.out.ends (.int .i64 5) (.int .i64 0) (.slice (some (g',0)) n' aj) (.int .i64 ((l:Nat):Int));refine zj (v:= .tuple #[.agg #[(5:Int),(0:Int),(.slice (some (g',0)) n' aj),.int .i64 ((l:Nat):Int)],true]) (by simp[results,xD,go_sem,H,W,K,U]) rfl ?_;exact⟨.mk 5 0 (acc++ [y]) ((l:Nat):Int),true,b+1,c,_,_,_,_,_,_,rfl,J,N,by omega,J' (Ni.out.ends Bf F) Nh.out (by omega),fun _=>z.out.ty (by simp;omega) (by omega) _ _ _ _⟩
   refine(gE g s b c 125 _ ID.out.rd Tx Z (fun i j=>F ⟨i,j⟩)).mono ?_;rintro e w8 ⟨rfl,n8,ab⟩;have z:Hid (pT w g s b c (acc++ [y]) (l) (.slice (some (g',0)) n' aj) w8):=za (by rw[ab];exact ID.out.below bQ);clear ab;go_wp2_with fail
   by_cases vI:∃hq:b<s.size,s[b].toNat=44
   ·obtain⟨Bf,vI⟩:=vI;refine(fc g s b c 44 _ z.out.rd Bf Z vI).mono ?_;rintro e w9 ⟨rfl,X7,so⟩;have PI:=za (z.out.eQ so X7);have c9:=PI.out.rd.cells.2.1;clear X7 so;go_wp2;go_roundw
    case rel=>exact⟨b+1,c,acc++ [y],l,_,by omega,za (Ni.out.more Bf vI (by simp)),Nh,by omega,by simp;omega,by omega,PI⟩
    case measure=>
     rw[c1,c9];simp only[RQ];omega
   refine(gE g s b c 44 _ z.out.rd Tx Z (fun i j=>vI ⟨i,j⟩)).mono ?_;rintro e w9 ⟨rfl,n9,Nj⟩;have PI:Hid (pT w g s b c (acc++ [y]) (l) (.slice (some (g',0)) n' aj) w9):=za (by rw[Nj];exact z.out.below bQ);clear Nj;obtain⟨X,Y,G,R,M,I,S,O⟩:=aY PI.out.res;obtain⟨m,r,E,B,x,D,C,u⟩:=aY PI.out.bx;go_wp2;obtain⟨J,N,H,W,K,U⟩:=PI.out.ends (.int .i64 0) (.int .i64 0) (.slice none 0 0) (.int .i64 0);refine zj (v:= .tuple #[.agg #[(0:Int),(0:Int),nS,(0:Int)],false]) (by simp[results,xD,go_sem,H,W,K,U]) rfl ?_;exact⟨.mk 0 0 [] 0,false,b,c,_,_,_,_,_,_,rfl,J,N,by omega,Ej _ (C8 Ni.out (by simp) (fun i j=>F ⟨i,j⟩) (fun i j=>vI ⟨i,j⟩)) Tx,(by intro h;cases h)⟩
theorem Sj (f d:Nat)(hd:d<=8)(r:Hid (∀(g:Nat) (s:ByteArray) (p L:Nat) (w:World),jB w g s p L->p<=s.size->s.size<=100000->L<=64->
 Calls prog 123 #[(g,0),.int .i64 ((d:Int)+1)] w fun e w'=>kx w g s f L p e w')) (g:Nat) (s:ByteArray) (p L:Nat) (w:World) (h:jB w g s p L) (O:p<s.size) (J:s.size<=100000) (hL:0<L) (PF:L<=64) (K:s[p].toNat=123):
 Calls prog 123 #[(g,0),d] w fun e w'=>kx w g s (f+1) L p e w':=by
 have y:=za (Se (f:=f) O K);have b:=za (tT.start h);generalize hW:((w.alloc (.cells #[(g,0)] 176)).alloc (.cells #[(0:Int),(0:Int),nS,(0:Int)] 70))=W at*;obtain⟨g0,g1,g2,f0,f1,f2,j7⟩:=b.out.rd.cells;have X:W.cell? (w.heap.size,0)=some (.pointer (some (g,0))):=b.out.box.cell 0;have d1:decide ((8:Int)<(d:Int))=false:=zt (by omega);have dL:((L:Int)==0)=false:=zl.2 (by omega);have dp:((p:Int)==(s.size:Int))=false:=zl.2 (by omega);have ew:IntKind.i64.wrap ((L:Int)-1)=(L:Int)-1:=zY _ (by omega);clear h;go_enter xP,xK
 go_wp2_with fail
 go_quiet (fail)
 obtain⟨i,rfl⟩:∃i,i=nq:=⟨nq,rfl⟩
 go_wp2_with fail
 go_quiet (fail)
 have o:=za (b.out.step ((L:Int)-1) ((p:Int)+1) i nq (L':=L-1) (p':=p+1) (by omega) (by omega));have C:=za (Kb f d hd r g s (p+1) (L-1) _ _ o.out.rd y (by omega) J (by omega));clear r y;go_wp2_with fail
 refine C.out.mono ?_;rintro e D ⟨t,ok,q,G,k,z,j,A,n,cap,rfl,u,x,aa,m,B⟩;have l:=za (o.out.eQ x u);have U:=za m;have E:Hid (ok=true->gd D (w.heap.size+2<= ·) t k z (.slice A n cap) j):=za (fun h=>(B h).eG (fun k _ c=>by simp[World.setCell]at c;have:=b.out.siz;omega));clear u x m B C;obtain⟨Z,n1,n2,Y,m0,m1,m2,m3⟩:=aY l.out.res;go_wp2;obtain⟨S,H,F,R,N,M⟩:=l.out.ends k z (.slice A n cap) j;refine zj (v:= .tuple #[.agg #[k,z,.slice A n cap,j],ok]) (by simp[results,yx,go_sem,F,R,N,M]) rfl ?_;refine⟨t,ok,q,G,_,_,_,_,_,_,rfl,S,H,by omega, ?_,fun I=>(E.out I).only (L:= [w.heap.size+1]) (((((ae.refl _ D).setCell (by simp) _).setCell (by simp) _).setCell (by simp) _).setCell (by simp) _) (by simp) (fun k _ c=>by have c:w.heap.size+2<=k:=c;show w.heap.size<=k;omega)⟩;have:=aes U.out;rwa [show 1+(L-1)=L from by omega]at this
theorem GS (t:Ty):0<t.count:=by
 cases t with
 |mk k s l ta=>simp only[Ty.count];omega
theorem Sk (f d:Nat)(hd:d=9)(k:f=0)(g:Nat)(s:ByteArray)(p L:Nat)(w:World)(h:jB w g s p L)(o:p<=s.size)(B:s.size<=100000)(A:L<=64)(C:True):
 Calls prog 123 #[(g,0),d] w fun e w'=>kx w g s f L p e w':=by
 have b:=za (tT.start h);generalize D:((w.alloc (.cells #[(g,0)] 176)).alloc (.cells #[(0:Int),(0:Int),nS,(0:Int)] 70))=W at*;obtain⟨g0,g1,g2,f0,f1,f2,z⟩:=b.out.rd.cells;clear h;go_enter xP,xK
 go_wp2_with fail
 go_quiet (fail)
 obtain⟨c,rfl⟩:∃c,c=nq:=⟨nq,rfl⟩
 have i:Hid (tT w g s p L (W.drewN c)):=za (b.out.below bQ);obtain⟨y,n1,n2,F,m0,m1,m2,m3⟩:=aY b.out.res;go_wp2;obtain⟨u,l,j,q,n,m⟩:=i.out.ends (0:Int) (0:Int) nS (0:Int);refine zj (v:= .tuple #[.agg #[(0:Int),(0:Int),nS,(0:Int)],false]) (by simp[results,yx,go_sem,j,q,n,m]) rfl ?_;exact⟨.mk 0 0 [] 0,false,p,L,_,_,_,_,_,_,rfl,u,l,ze _,⟨(by intro h;cases h),(by intro _ E r x;subst k;cases x),o⟩,(by intro h;cases h)⟩
theorem Sl (f d:Nat)(hd:d<=8)(g:Nat)(s:ByteArray)(p L:Nat)(w:World)(h:jB w g s p L)(n:p<=s.size)(C:s.size<=100000)(A:L<=64)(D:L=0):
 Calls prog 123 #[(g,0),d] w fun e w'=>kx w g s f L p e w':=by
 have B:decide ((8:Int)<(d:Int))=false:=zt (by omega);have H:((L:Int)==0)=true:=yN.2 (by omega);have b:=za (tT.start h);generalize E:((w.alloc (.cells #[(g,0)] 176)).alloc (.cells #[(0:Int),(0:Int),nS,(0:Int)] 70))=W at*;obtain⟨g0,g1,g2,f0,f1,f2,z⟩:=b.out.rd.cells;have x:W.cell? (w.heap.size,0)=some (.pointer (some (g,0))):=b.out.box.cell 0;clear h;go_enter xP,xK
 go_wp2_with fail
 go_quiet (fail)
 obtain⟨c,rfl⟩:∃c,c=nq:=⟨nq,rfl⟩
 have i:Hid (tT w g s p L (W.drewN c)):=za (b.out.below bQ);obtain⟨y,n1,n2,G,m0,m1,m2,m3⟩:=aY b.out.res;go_wp2;obtain⟨q,k,j,o,m,l⟩:=i.out.ends (0:Int) (0:Int) nS (0:Int);refine zj (v:= .tuple #[.agg #[(0:Int),(0:Int),nS,(0:Int)],false]) (by simp[results,yx,go_sem,j,o,m,l]) rfl ?_;exact⟨.mk 0 0 [] 0,false,p,L,_,_,_,_,_,_,rfl,q,k,ze _,⟨(by intro h;cases h),(by intro _ u r F;right;have:=GS u;omega),n⟩,(by intro h;cases h)⟩
theorem Sm (f d:Nat)(hd:d<=8)(g:Nat)(s:ByteArray)(p L:Nat)(w:World)(h:jB w g s p L)(q:p<=s.size)(E:s.size<=100000)(C:L<=64)(F:0<L)(o:s.size<=p):
 Calls prog 123 #[(g,0),d] w fun e w'=>kx w g s f L p e w':=by
 have D:decide ((8:Int)<(d:Int))=false:=zt (by omega);have J:((L:Int)==0)=false:=zl.2 (by omega);have I:((p:Int)==(s.size:Int))=true:=yN.2 (by omega);have b:=za (tT.start h);generalize G:((w.alloc (.cells #[(g,0)] 176)).alloc (.cells #[(0:Int),(0:Int),nS,(0:Int)] 70))=W at*;obtain⟨g0,g1,g2,f0,f1,f2,B⟩:=b.out.rd.cells;have y:W.cell? (w.heap.size,0)=some (.pointer (some (g,0))):=b.out.box.cell 0;clear h;go_enter xP,xK
 go_wp2_with fail
 go_quiet (fail)
 obtain⟨c,rfl⟩:∃c,c=nq:=⟨nq,rfl⟩
 have j:Hid (tT w g s p L (W.drewN c)):=za (b.out.below bQ);obtain⟨A,n1,n2,z,m0,m1,m2,m3⟩:=aY b.out.res;go_wp2;obtain⟨x,l,k,u,n,m⟩:=j.out.ends (0:Int) (0:Int) nS (0:Int);refine zj (v:= .tuple #[.agg #[(0:Int),(0:Int),nS,(0:Int)],false]) (by simp[results,yx,go_sem,k,u,n,m]) rfl ?_;exact⟨.mk 0 0 [] 0,false,p,L,_,_,_,_,_,_,rfl,x,l,ze _,⟨(by intro h;cases h),(by intro _ H r i;rw[C7 f o]at i;cases i),q⟩,(by intro h;cases h)⟩
theorem GU :∀(f d:Nat),f+d=9->∀(g:Nat) (s:ByteArray) (p L:Nat) (w:World),jB w g s p L->p<=s.size->s.size<=100000->L<=64->
 Calls prog 123 #[(g,0),d] w fun e w'=>kx w g s f L p e w'
 |0,d,hfd,g,s,p,L,w,h,i,b,c=>Sk 0 d (by omega) rfl g s p L w h i b c trivial
 |f+1,d,hfd,g,s,p,L,w,h,i,b,c=>by
  have r:Hid (∀(g:Nat) (s:ByteArray) (p L:Nat) (w:World),jB w g s p L->p<=s.size->s.size<=100000->L<=64->
   Calls prog 123 #[(g,0),.int .i64 ((d:Int)+1)] w fun e w'=>kx w g s f L p e w'):=za (fun g s p L w h i b c=>by
   have:=GU f (d+1) (by omega) g s p L w h i b c;rwa [show(((d+1:Nat)):Int)=(d:Int)+1 from by omega]at this)
  have hd:d<=8:=by omega
  by_cases u:L=0
  ·exact Sl (f+1) d hd g s p L w h i b c u
  by_cases x:s.size<=p
  ·exact Sm (f+1) d hd g s p L w h i b c (by omega) x
  have k:p<s.size:=by omega
  have j:0<L:=by omega
  by_cases n:s[p].toNat=117
  ·exact RZ f d hd g s p L w h k b j c n
  by_cases o:s[p].toNat=98
  ·exact RX f d hd g s p L w h k b j c o
  by_cases l:s[p].toNat=115
  ·exact RY f d hd g s p L w h k b j c l
  by_cases q:s[p].toNat=91
  ·exact Si f d hd r g s p L w h k b j c q
  by_cases m:s[p].toNat=123
  ·exact Sj f d hd r g s p L w h k b j c m
  exact OE f d hd g s p L w h k b j c n o l q m
theorem GV :∀(n i:Nat) (p p':Nat->Bool),i<n->p i=true->p' i=false->(∀j,j≠i->p' j=p j)->(List.range n).countP p=(List.range n).countP p'+1
 |0,i,p,p',hi,_,_,_=>by omega
 |n+1,i,p,p',hi,h1,h2,h3=>by
  rw[List.range_succ,List.countP_append,List.countP_append];by_cases e:i=n
  ·subst e;have:(List.range i).countP p=(List.range i).countP p':=List.countP_congr fun x hx=>by rw[h3 x (by have:=Z6.1 hx;omega)]
   simp[this,h1,h2]
  rw[GV n i p p' (by omega) h1 h2 h3];have:p' n=p n:=h3 n (Zj e);simp[this];omega
section
variable {P:Program} {ops:Array Oper} {md:Region.Mode}
def Region.Sn (md:Region.Mode)(ops:Array Oper):Bool:=
 (List.range ops.size).all fun i=>match ops[i]? with
  |some o=>o.after.all fun e=> !Region.binds md e||decide (e.on<i)
  |none=>false
theorem Kc (q:Region.Sn md ops=true)(u:listed.size=ops.size):∀(i:Nat),i<ops.size->listed.getD i true=false->∃j,j<ops.size/\j∈Region.ready md ops listed:=by
 intro i;induction i using Nat.strongRecOn with
 |ind i ih=>
  intro hi s;by_cases k:∃j,j<i/\listed.getD j true=false
  ·obtain⟨j,o,r⟩:=k;exact ih j o (by omega) r
  refine⟨i,hi, ?_⟩;have b:=Zh.1 q i (Z6.2 hi);have l:ops[i]?=some ops[i]:=Zm hi;rw[l]at b;refine ZL.2 ⟨s,ops[i],l,fun e n p=> ?_⟩;have c:=Array.all_eq_true'.1 b e n;rw[p]at c;have m:e.on<i:=by simpa using c
  have d:listed.getD e.on true=true:=by
   rcases xd (listed.getD e.on true)with h|h
   ·exact h
   exact absurd ⟨e.on,m,h⟩ k
  have:e.on<listed.size:=by omega
  simp[this]at d⊢;exact d
theorem qY {I:Array Bool->Act->World->Prop}{Q':Exit->Act->World->Prop}(m:Region.Sn md ops=true)
 (k:∀b a w i,i<ops.size->I b a w->i∈Region.ready md ops b->wpOp P ops Q' i (I (b.setIfInBounds i true)) a w)
 (r:∀b a w,(∀i,i<ops.size->b.getD i false=true)->I b a w->Q' .normal a w):
 ∀(f:Nat) (b:Array Bool) (a:Act) (w:World),(List.range ops.size).countP (fun i=> !b.getD i true)=f->b.size=ops.size->I b a w->wpAny P md ops Q' f b a w
 |0,b,a,w,rL,dZ,hI=>by
  have n:∀i,i<ops.size->b.getD i true=true:=fun i hi=>by
   have:=List.countP_eq_zero.1 rL i (Z6.2 hi);simpa using this
  refine⟨?_,r _ _ _ (fun i hi=> ?_) hI⟩
  ·cases hr:Region.ready md ops b with
   |nil=>rfl
   |cons j l=>
    have e:j∈Region.ready md ops b:=by rw[hr];simp
    obtain⟨c,o,d,_⟩:=ZL.1 e;rw[n j (yb.1 d).1]at c;cases c
  have:=n i hi;have s:i<b.size:=by omega
  simp[s]at this⊢;exact this
 |f+1,b,a,w,rL,dZ,hI=>by
  have x:∃i,i<ops.size/\b.getD i true=false:=by
   have:0<(List.range ops.size).countP (fun i=> !b.getD i true):=by omega
   obtain⟨i,hi,A⟩:=List.countP_pos_iff.1 this;exact⟨i,Z6.1 hi,by simpa using A⟩
  obtain⟨i0,y,u⟩:=x;obtain⟨C,D,p⟩:=Kc m dZ i0 y u;refine⟨fun h=>(by rw[h]at p;cases p),fun i hi=> ?_⟩;obtain⟨c,o,d,_⟩:=ZL.1 hi;have q:i<ops.size:=(yb.1 d).1;refine wpOp_mono (fun B w' z=>qY m k r f _ B w' ?_ (by simp[dZ]) z) (k b a w i q hI hi);have:=GV ops.size i (fun i=> !b.getD i true) (fun j=> !(b.setIfInBounds i true).getD j true) q (by simp[c]) (by
   have:i<b.size:=by omega
   simp[this]) (fun j e=>by simp[Array.getElem?_setIfInBounds_ne (Zj e)])
  omega
theorem BQ {Q:Exit->Act->World->Prop}{l:List Oper}(j:P.follows .mixedOrders=true)(c:Region.Sn .any l.toArray=true)(I:Array Bool->Act->World->Prop)
 (k:I (Array.replicate l.toArray.size false) a w.drew)
 (h:∀b a w i,i<l.toArray.size->I b a w->i∈Region.ready .any l.toArray b->wpOp P l.toArray Q i (I (b.setIfInBounds i true)) a w)
 (d:∀b a w,(∀i,i<l.toArray.size->b.getD i false=true)->I b a w->Q .normal a w):(Code.region id l.toArray true).wp P Q a w:=by
 have e:(List.range l.toArray.size).countP (fun i=> !(Array.replicate l.toArray.size false).getD i true)=l.toArray.size:=by
  have:(List.range l.toArray.size).countP (fun i=> !(Array.replicate l.toArray.size false).getD i true)=(List.range l.toArray.size).length:=by
   rw[List.countP_eq_length];intro i hi;have:=Z6.1 hi;simp[show i<l.length by simpa using this]
  simpa using this
 exact wp_region_any j (qY c h d _ _ a _ e (by simp) k)
end
theorem oG {P:Program}{ops:Array Oper}{Q:Exit->Act->World->Prop}{K:Act->World->Prop}(hi:ops[i]?=some o)(b:o.guard=none)(h:o.wp P a w K Q):wpOp P ops Q i K a w:=by
 unfold wpOp;simp only[hi];have c:Region.wanted o (yielded ops a.tmps)=true:=by simp[Region.wanted,b]
 rw[zg c];exact .inl h
theorem dr (h:(listed.setIfInBounds i true).getD k false=true):k=i\/listed.getD k false=true:=by
 by_cases e:i=k
 ·exact .inl e.symm
 rw[getD_set_ne false e]at h;exact .inr h
theorem Kd (h:i<listed.size):(listed.setIfInBounds i true).getD i false=true:=by simp[h]
theorem bT (h:i≠k):(listed.setIfInBounds i true).getD k false=listed.getD k false:=getD_set_ne false h
