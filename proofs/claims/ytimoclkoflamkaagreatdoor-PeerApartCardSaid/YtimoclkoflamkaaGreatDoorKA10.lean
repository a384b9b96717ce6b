/- A region that draws its order and whose last operation waits for all the others: a condition on the world lets loads be taken first, and need not stand behind the last operation. Own law; no program in sight. -/
import Derived.Deep.RegionHeld3
import Derived.Test.YtimoclkoflamkaaGreatDoorKA30
set_option linter.all false
set_option maxRecDepth 100000
set_option maxHeartbeats 3200000
open Go.Proofs.Tryz
namespace Go.Proofs.YtimoclkoflamkaaGreatDoor
open Go
variable {w V V' w':World}{g i p L id k e l:Nat}{s:ByteArray}{v:Value}{listed:Array Bool}{acc:List Ty}{f m:Int}{d:Oper}{t:TypeId}
section
def zb:=@List.setIfInBounds_toArray
def zg:=@List.set_cons_succ
def xC:=@results169
variable {P:Program} {ops:Array Oper} {Q:Exit->Act->World->Prop} {md:Region.Mode} {S:World->Prop} {n:Nat}
def rV (P:Program)(md:Region.Mode)(ops:Array Oper)(Q:Exit->Act->World->Prop)(S:World->Prop)(n:Nat):Nat->Array Bool->Act->World->Prop
 |0,listed,a,w=>Region.ready md ops listed= []/\Q .normal a w
 |fuel+1,listed,a,w=>
  (Region.ready md ops listed= []->Q .normal a w)/\
  ∀i∈Region.ready md ops listed,wpOp P ops Q i (fun a' w'=>(i≠n->S w')/\rV P md ops Q S n fuel (listed.setIfInBounds i true) a' w') a w
theorem vS :∀(b:Nat) (c:Array Bool) (a:Act) (w:World),rV P md ops Q S n b c a w->wpAny P md ops Q b c a w
 |0,_,_,_,h=>h
 |b+1,_,_,_,h=>⟨h.1,fun i hi=>wpOp_mono (fun e w' d=>vS b _ e w' d.2) (h.2 i hi)⟩
theorem Dg {q:Oper}(hi:ops[i]?=some q)(G:∀(j:Nat) (o:Oper) x b,ops[j]?=some o->o.op≠ .select x b)
 (O:Region.sinkB md ops n=true) (hc:Region.chainB md ops n=true) (N:n<ops.size) (J:i<n)
 (Z:∀c a w,Q (.panic c) (a.put q.dst v) w->Q (.panic c) a w):
 ∀(s:Nat) (d:Array Bool) (a:Act) (w:World),HeadInv md ops n d->
  (∀j m,ops[j]?=some m->j≠i->d.getD j true=false->(∀e∈m.after,Region.binds md e=true->e.on≠i)->q.apart ops m=true)->
  i∈Region.ready md ops d->YieldsIf P ops S q v a->S w->
  rV P md ops Q S n s (d.setIfInBounds i true) (a.put q.dst v) w->rV P md ops Q S n (s+1) d a w:=by
 intro s;induction s with
 |zero=>
  intro d a w _ _ p z hS H;refine⟨fun h=>(by rw[h]at p;cases p),fun j r=> ?_⟩;by_cases l:j=i
  ·subst l;exact z.wpOp hi hS ⟨fun _=>hS,H⟩
  have:=Yf r l;rw[H.1]at this;cases this
 |succ s ih=>
  intro d a w E D p z hS H;have u:=(ZD.1 p).1;refine⟨fun h=>(by rw[h]at p;cases p),fun j r=> ?_⟩;have U:j<n:=by
   rcases xp j n with h|h
   ·exact h
   exact absurd r (tail_waits O hc N E _ i rfl J u j h)
  by_cases l:j=i
  ·subst l;exact z.wpOp hi hS ⟨fun _=>hS,H⟩
  have y:=H.2 j (Yf r l);obtain⟨C,m,B,df⟩:=ZD.1 r;have Y:∀e∈m.after,Region.binds md e=true->e.on≠i:=fun e he X aa=>by
   have y:=df e he X;rw[aa,Zq u]at y;cases y
  have I:=wpOp_putIf B (D j m B l C Y) (fun x b=>G i q x b hi) (fun x b=>G j m x b B) Z z y;have K:∀k ok,ops[k]?=some ok->k≠i->(d.setIfInBounds j true).getD k true=false->
   (∀e∈ok.after,Region.binds md e=true->e.on≠i)->q.apart ops ok=true:=fun k ok R W u L=>by
   refine D k ok R W ?_ L;by_cases F:j=k
   ·subst F;exact C
   rw[getD_set_ne true F]at u;exact u
  refine wpOp_mono (fun M w' A=>⟨fun _=>A.2.1 (by omega),ih (d.setIfInBounds j true) M w' (E.set r U) K (Yf p (Zf l)) A.1 (A.2.1 (by omega)) ?_⟩) I;rw[Array.setIfInBounds_comm _ _ l];exact A.2.2
def GT (P:Program)(md:Region.Mode)(ops:Array Oper)(Q:Exit->Act->World->Prop)(S:World->Prop)(n:Nat)(fuel:Nat)(listed:Array Bool)(a:Act)(w:World):Prop:=
 HeadInv md ops n listed->rV P md ops Q S n fuel listed a w
def FI (md:Region.Mode)(ops:Array Oper)(n:Nat):Bool:=Region.noSelect ops&&decide (n<ops.size)&&Region.sinkB md ops n&&Region.chainB md ops n
theorem GT.take {b:Oper}{a:Act}(hi:ops[i]?=some b)(d:decide (i<n)=true)
 (l:FI md ops n=true) (u:Region.free md ops listed i=true) (q:(Region.ready md ops listed).contains i=true)
 (o:∀c a w,Q (.panic c) (a.put b.dst v) w->Q (.panic c) a w) (p:YieldsIf P ops S b v a) (hS:S w)
 (h:GT P md ops Q S n e (listed.setIfInBounds i true) (a.put b.dst v) w):GT P md ops Q S n (e+1) listed a w:=fun j=>by
 simp only[FI,zy,zY]at l d;obtain⟨⟨⟨r,m⟩,s⟩,x⟩:=l;have k:i∈Region.ready md ops listed:=by simpa using q
 exact Dg hi (Region.noSelect_spec r) s x m d o e listed a w j (Region.free_spec hi u) k p hS (h (j.set k d))
theorem GT.step {o:Oper}{a:Act}(p:ops[i]?=some o)(m:decide (i<n)=true)(d:Region.ready md ops listed= [i])
 (h:∀b:Act->World->Prop,Shut (∀a w,S w->(S w->GT P md ops Q S n e (listed.setIfInBounds i true) a w)->b a w)->if Region.wanted o (yielded ops a.tmps)=true then Oper.wp P o a w b Q else b (a.put o.dst undef) w):GT P md ops Q S n (e+1) listed a w:=fun k=>by
 refine⟨fun q=>(by rw[q]at d;cases d),fun j c=> ?_⟩;have l:j=i:=by rw[d]at c;simpa using c
 subst l;have s:j<n:=by simpa using m
 exact wpOp_step p (fun b u=>h b (fun a w hS r=>u a w ⟨fun _=>hS,r hS (k.set c s)⟩))
theorem GT.two {j:Nat}{e:Oper}{a:Act}(hi:ops[i]?=some d)(s:ops[j]?=some e)(u:decide (i<n)=true)(z:decide (j<n)=true)(o:Region.ready md ops listed= [i,j])
 (y:∀b:Act->World->Prop,Shut (∀a w,S w->(S w->GT P md ops Q S n l (listed.setIfInBounds i true) a w)->b a w)->if Region.wanted d (yielded ops a.tmps)=true then Oper.wp P d a w b Q else b (a.put d.dst undef) w)
 (r:∀b:Act->World->Prop,Shut (∀a w,S w->(S w->GT P md ops Q S n l (listed.setIfInBounds j true) a w)->b a w)->if Region.wanted e (yielded ops a.tmps)=true then Oper.wp P e a w b Q else b (a.put e.dst undef) w):GT P md ops Q S n (l+1) listed a w:=fun q=>by
 refine⟨fun x=>(by rw[x]at o;cases o),fun k h=> ?_⟩;have B:i<n:=by simpa using u
 have A:j<n:=by simpa using z
 have c:k=i\/k=j:=by rw[o]at h;simpa using h
 rcases c with c|c
 ·subst c;exact wpOp_step hi (fun b p=>y b (fun a w hS m=>p a w ⟨fun _=>hS,m hS (q.set h B)⟩))
 subst c;exact wpOp_step s (fun b p=>r b (fun a w hS m=>p a w ⟨fun _=>hS,m hS (q.set h A)⟩))
theorem GT.last {o:Oper}{x:Nat}{a:Act}(s:ops[i]?=some o)(u:decide (i=n)=true)(d:Region.ready md ops listed= [i])(l:Region.ready md ops (listed.setIfInBounds i true)= [])
 (h:if Region.wanted o (yielded ops a.tmps)=true then Oper.wp P o a w (fun e w'=>Q .normal e w') Q else Q .normal (a.put o.dst undef) w):GT P md ops Q S n (x+1) listed a w:=fun z=>by
 refine⟨fun b=>(by rw[b]at d;cases d),fun j k=> ?_⟩;have r:j=i:=by rw[d]at k;simpa using k
 subst r;have y:j=n:=by simpa using u
 subst y;have m:∀(f:Nat) (a:Act) (w:World),Q .normal a w->rV P md ops Q S j f (listed.setIfInBounds j true) a w:=fun f a w h=>by
  cases f with
  |zero=>exact⟨l,h⟩
  |succ f=>exact⟨fun _=>h,by rw[l];simp⟩
 refine wpOp_step s (fun A p=> ?_);split
 ·rename_i c
  rw[zj c]at h;exact Oper.wp_mono (fun e w' q=>p e w' ⟨fun b=>absurd rfl b,m _ _ _ q⟩) h
 rename_i c
 rw[zi c]at h;exact p _ _ ⟨fun b=>absurd rfl b,m _ _ _ h⟩
theorem aK {a:Act}(n:Nat)(S:World->Prop)(d:P.follows .mixedOrders=true)(i:FI .any ops n=true)(h:GT P .any ops Q S n ops.size (Array.replicate ops.size false) a w.drew):(Code.region id ops true).wp P Q a w:=by
 exact wp_region_any d (vS _ _ _ _ (h ⟨by simp,fun j e _ b=>(by rw[yB]at b;cases b),fun t _ c=>getD_in (by simpa using c) (yB _ _)⟩))
def vT :List Oper->Nat->Option Oper
 |o::_,0=>some o
 |_::l,i+1=>vT l i
 | [],_=>none
theorem FJ :∀{l:List Oper} {i:Nat} {o:Oper},vT l i=some o->l[i]?=some o
 |_::_,0,_,h=>by simpa[vT]using h
 |_::l,i+1,_,h=>by simpa using FJ (l:=l) (i:=i) h
 | [],_,_,h=>by simp[vT]at h
theorem nX {ops:Array Oper}{o:Oper}(h:vT ops.toList i=some o):ops[i]?=some o:=by
 have:=FJ h;simpa using this
inductive AI (P:Program)(ops:Array Oper)(S:World->Prop)(G:Act->Prop):List Nat->Act->Prop
 |nil {a:Act} (h:G a):AI P ops S G [] a
 |cons {i:Nat} {is:List Nat} {oi:Oper} {v:Value} {a:Act} (hi:ops[i]?=some oi) (hy:YieldsIf P ops S oi v a) (h:AI P ops S G is (a.put oi.dst v)):AI P ops S G (i::is) a
theorem AI.c {P:Program}{ops:Array Oper}{S:World->Prop}{G:Act->Prop}{c:List Nat}{b:Oper}{a:Act}(hi:vT ops.toList i=some b)(e:Region.wanted b (yielded ops a.tmps)=true)
 (d:∀w,S w->(execOp a.eval b).run P w= .ok (.value v) w) (h:AI P ops S G c (a.put b.dst v)):AI P ops S G (i::c) a:= .cons (nX hi) (.inl ⟨e,d⟩) h
theorem AI.u {P:Program}{ops:Array Oper}{S:World->Prop}{G:Act->Prop}{c:List Nat}{b:Oper}{a:Act}(hi:vT ops.toList i=some b)(d:Region.wanted b (yielded ops a.tmps)=false)
 (h:AI P ops S G c (a.put b.dst undef)):AI P ops S G (i::c) a:= .cons (nX hi) (.inr ⟨d,rfl⟩) h
def Vs :List Nat->Array Bool->Array Bool
 | [],l=>l
 |i::is,l=>Vs is (l.setIfInBounds i true)
def Vt :List Nat->Nat->Nat
 | [],f=>f
 |_::is,f=>Vt is f+1
def Qc (md:Region.Mode)(ops:Array Oper)(n:Nat):List Nat->Array Bool->Bool
 | [],_=>true
 |i::is,l=>decide (i<n)&&FI md ops n&&Region.free md ops l i&&(Region.ready md ops l).contains i&&Qc md ops n is (l.setIfInBounds i true)
theorem GT.jM (e:List Nat){a:Act}(hS:S w)(o:∀c (a:Act) (d:Nat) v w,Q (.panic c) (a.put (some d) v) w->Q (.panic c) a w)
 (l:Qc md ops n e listed=true) (j:AI P ops S (fun b=>GT P md ops Q S n k (Vs e listed) b w) e a):GT P md ops Q S n (Vt e k) listed a w:=by
 induction e generalizing listed a with
 |nil=>
  cases j with
  |nil h=>exact h
 |cons i e ih=>
  cases j with
  |cons hi hy j=>
   simp only[Qc,zy]at l;obtain⟨⟨⟨⟨q,m⟩,r⟩,s⟩,p⟩:=l;refine GT.take hi q m r s (fun c a w h=> ?_) hy hS (ih p j);revert h
   cases Oper.dst _ with
   |none=>exact id
   |some d=>exact o c a d _ w
def stB (md:Region.Mode)(ops:Array Oper)(n:Nat)(listed:Array Bool)(i:Nat):Bool:=decide (i<n)&&(Region.ready md ops listed== [i])
theorem GT.gw (i:Nat){o:Oper}{d:Nat}{a:Act}
 (h:∀b:Act->World->Prop,Shut (∀a w,S w->(S w->GT P md ops Q S n d (listed.setIfInBounds i true) a w)->b a w)->if Region.wanted o (yielded ops a.tmps)=true then Oper.wp P o a w b Q else b (a.put o.dst undef) w)
 (e:vT ops.toList i=some o) (c:stB md ops n listed i=true):GT P md ops Q S n (d+1) listed a w:=by
 simp only[stB,zy,yO]at c;exact GT.step (nX e) c.1 c.2 h
def twB (md:Region.Mode)(ops:Array Oper)(n:Nat)(listed:Array Bool)(i j:Nat):Bool:=decide (i<n)&&decide (j<n)&&(Region.ready md ops listed== [i,j])
theorem GT.TQ (i j:Nat){c:Oper}{h:Nat}{a:Act}(hi:vT ops.toList i=some c)(l:vT ops.toList j=some d)(e:twB md ops n listed i j=true)
 (m:∀b:Act->World->Prop,Shut (∀a w,S w->(S w->GT P md ops Q S n h (listed.setIfInBounds i true) a w)->b a w)->if Region.wanted c (yielded ops a.tmps)=true then Oper.wp P c a w b Q else b (a.put c.dst undef) w)
 (k:∀b:Act->World->Prop,Shut (∀a w,S w->(S w->GT P md ops Q S n h (listed.setIfInBounds j true) a w)->b a w)->if Region.wanted d (yielded ops a.tmps)=true then Oper.wp P d a w b Q else b (a.put d.dst undef) w):GT P md ops Q S n (h+1) listed a w:=by
 simp only[twB,zy,yO]at e;exact GT.two (nX hi) (nX l) e.1.1 e.1.2 e.2 m k
def laB (md:Region.Mode)(ops:Array Oper)(n:Nat)(listed:Array Bool)(i:Nat):Bool:=decide (i=n)&&(Region.ready md ops listed== [i])&&(Region.ready md ops (listed.setIfInBounds i true)== [])
theorem GT.pF (i:Nat){o:Oper}{c:Nat}{a:Act}
 (h:if Region.wanted o (yielded ops a.tmps)=true then Oper.wp P o a w (fun d w'=>Q .normal d w') Q else Q .normal (a.put o.dst undef) w)
 (e:vT ops.toList i=some o) (b:laB md ops n listed i=true):GT P md ops Q S n (c+1) listed a w:=by
 simp only[laB,zy,yO]at b;exact GT.last (nX e) b.1.1 b.1.2 b.2 h
end
open Go.RowKit
theorem wrl {P:Program}{ops:Array Oper}{Q:Exit->Act->World->Prop}{a:Act}{C S:World->Prop}(_:∀V,C V->S V)(n:Nat)(b:P.follows .mixedOrders=true)(c:FI .any ops n=true)(h:GT P .any ops Q S n ops.size (Array.replicate ops.size false) a w.drew):(Code.region id ops true).wp P Q a w:=aK n S b c h
structure ju (w:World)(g gl fb:Nat)(s:ByteArray)(k:Nat)(f m:Int):Prop where
 rdr:iL w g s k f
 left:ag w gl 3 #[m]
 box:ag w fb 191 #[(g,0)]
theorem ag.DW {c:Nat}{d:TypeId}{j i:Array Value}(h:ag w g t j)(b:ag w c d i)(e:t≠d):g≠c:=by
 rintro rfl;unfold ag at h b;rw[h]at b;injection b with b;injection b with _ ht;exact e ht
theorem ju.apart {gl b:Nat}(h:ju w g gl b s k f m):gl≠g/\b≠g/\b≠gl:=⟨h.left.DW h.rdr (by decide),h.box.DW h.rdr (by decide),h.box.DW h.left (by decide)⟩
theorem ju.below {gl c:Nat}(h:ju w g gl c s k f m)(b:Below w.heap.size w w'):ju w' g gl c s k f m:=
 ⟨(b.block _ h.rdr.lt).trans h.rdr,(b.block _ h.left.lt).trans h.left,(b.block _ h.box.lt).trans h.box⟩
theorem ju.eL {gl d:Nat}{c:Nat}{e:Int}(h:ju w g gl d s k f m)(b:ae [g] w w')(i:iL w' g s c e):ju w' g gl d s c e m:=
 ⟨i,h.left.only b (by simp[h.apart.1]),h.box.only b (by simp[h.apart.2.1])⟩
def jk (g gl fb:Nat):Value:= .agg #[.func (.func 142) #[(g,0)] #[],.func (.func 160) #[(g,0)] #[],.func (.func 143) #[(g,0)] #[],.func (.func 161) #[(g,0)] #[],.func (.func 162) #[] #[(fb,0)],(gl,0)]
theorem FK (N:Nat×Nat×Int)(z:Nat):np N z<=z:=by
 rcases kX N z 0 with⟨_,_,h,_⟩|⟨_,_,_,h,_⟩|⟨_,b,_,h,_⟩<;>omega
theorem B5 (g gl b:Nat)(s:ByteArray)(k z:Nat)(m:Int)(w:World)(h:ju w g gl b s k 0 m)(o:k<=s.size)(l:s.size<=9223372036854775807)(hz:z<=65536)(j:ba w)(p:g≠0):
 Calls prog 162 #[z,(b,0)] w fun e w'=>e= .returned (.int .i64 (np (au (s.data.toList.drop k)) z))/\ju w' g gl b s (nr (au (s.data.toList.drop k)) z k) (kW (au (s.data.toList.drop k)) z) m/\ae [g] w w':=by
 have y:w.cell? (b,0)=some (.pointer (some (g,0))):=h.box.cell 0;have i:=za (PN g s k z w h.rdr o l (by omega) j p);have x:=FK (au (s.data.toList.drop k)) z;have r:=za h;generalize np (au (s.data.toList.drop k)) z=N at*;generalize nr (au (s.data.toList.drop k)) z k=K at*;generalize kW (au (s.data.toList.drop k)) z=E at*;have u:IntKind.u64.wrap (z:Int)=z:=xx _ (by omega);clear h;go_enter func162,ntmps162
 go_wp2_with fail
 refine i.out.mono ?_;rintro e A ⟨rfl,d,c⟩;have n:=za (r.out.eL c d);have q:=za c;clear d c;go_wp2;go_ret;exact⟨by go_num,n.out,q.out⟩
theorem Xu (i:Int)(j b o n cap:Nat)(k z y:Int)(d l m c:Value)(w:World)(h:ag w j 70 #[k,z,.slice (some (b,o)) n cap,y])(I:0<n)(H:n<=9223372036854775807)
 (M:w.cell? (b,o)=some d) (K:w.cell? (b,o+1)=some l) (E:w.cell? (b,o+2)=some m) (J:w.cell? (b,o+3)=some c) (F:b<w.heap.size)
 (u x p:Int) (r:Option Addr) (s q:Nat) (A:d= .int .i64 u) (D:l= .int .i64 x) (B:m= .slice r s q) (C:c= .int .i64 p):
 Calls prog 206 #[i,(j,0)] w fun e w'=>e= .returned (.tuple #[.agg #[d,l,m,c],true])/\(w,w'):=by
 have G:w.cell? (j,2)=some (.slice (some (b,o)) n cap):=h.cell 2;have L:=h.lt;subst A D B C;clear h;go_enter func206,ntmps206
 go_wp2;refine zl (v:= .tuple #[.agg #[u,x,.slice r s q,p],true]) (by simp[results,results206,go_sem]) rfl ⟨rfl,bO⟩
theorem ga {a b c d e f:Value}(h:ag w g t #[a,b,c,d,e,f]):(w,g,0,a)/\(w,g,1,b)/\(w,g,2,c)/\(w,g,3,d)/\(w,g,4,e)/\(w,g,5,f):=⟨h.cell 0,h.cell 1,h.cell 2,h.cell 3,h.cell 4,h.cell 5⟩
def jW (g gl fb:Nat):Array Value:= #[.func (.func 142) #[(g,0)] #[],.func (.func 160) #[(g,0)] #[],.func (.func 143) #[(g,0)] #[],.func (.func 161) #[(g,0)] #[],.func (.func 162) #[] #[(fb,0)],(gl,0)]
theorem kY {p:Addr}(e:p.block≠g)(a b c d:Value):((((w.drew.setCell (g,0) a).setCell (g,1) b).setCell (g,2) c).setCell (g,3) d).cell? p=w.cell? p:=
 zB (by
  rw[zS _ _ _ _ e,zS _ _ _ _ e,zS _ _ _ _ e,zS _ _ _ _ e];rfl)
theorem im {p:Addr}(e:p.block≠g)(m:Nat)(a b c d:Value):(((((w.drewN m).setCell (g,0) a).setCell (g,1) b).setCell (g,2) c).setCell (g,3) d).cell? p=w.cell? p:=
 zB (by
  rw[zS _ _ _ _ e,zS _ _ _ _ e,zS _ _ _ _ e,zS _ _ _ _ e];rfl)
theorem Xv (i:Nat)(l A g gl fb b o n cap:Nat)(s:ByteArray)(H:Nat)(m:Int)(k ad d:Int)(f0 f1 U N:Value)(w:World)(h:ag w l 70 #[k,ad,.slice (some (b,o)) n cap,d])(Y:ag w A 223 (jW g gl fb))(fl:Int)(S:ju w g gl fb s H fl m)(af:H<=s.size)(hs:s.size<=9223372036854775807)(hn:i<n)(G1:n<=9223372036854775807)(oc:0<=d)(JM:d<=n)
 (h0:w.cell? (b,o+i*4)=some f0) (h1:w.cell? (b,o+i*4+1)=some f1) (h2:w.cell? (b,o+i*4+2)=some U) (h3:w.cell? (b,o+i*4+3)=some N) (L:b<w.heap.size)
 (y u j:Int) (r:Option Addr) (x q:Nat) (e0:f0= .int .i64 y) (e1:f1= .int .i64 u) (e2:U= .slice r x q) (e3:N= .int .i64 j):
 Calls prog 207 #[i,(l,0),(A,0)] w fun e w'=>e= .returned (.tuple #[.agg #[f0,f1,U,N],.bool (decide ((i:Int)<(n:Int)-d)||decide (H<s.size))])/\(w,w'):=by
 have c:Below w.heap.size w (w.alloc (.cells #[(0:Int),(0:Int),nS,(0:Int)] 70)):=bO;have oR:=fun V (hb:Below w.heap.size w V)=>vK g s H fl V ((hb.block _ S.rdr.lt).trans S.rdr) af hs
 have ae:=za oR;have D:=(c.cell (p:=(l,2)) h.lt).trans (show w.cell? (l,2)=some (.slice (some (b,o)) n cap)from h.cell 2);have J:=(c.cell (p:=(l,3)) h.lt).trans (show w.cell? (l,3)=some (.int .i64 d)from h.cell 3);have DC:=Y.lt;have aj:=h.lt;obtain⟨r0,r1,r2,r3,r4,r5⟩:=ga (show ag w A 223 #[_,_,_,_,_,_]from Y);have R:=(c.cell (p:=(A,3)) DC).trans r3;have C:=(c.cell (p:=⟨b,_,none⟩) L).trans h0;have G:=(c.cell (p:=⟨b,_,none⟩) L).trans h1;have B:=(c.cell (p:=⟨b,_,none⟩) L).trans h2;have E:=(c.cell (p:=⟨b,_,none⟩) L).trans h3;subst e0 e1 e2 e3;have pz:=ag.new w 70 #[(0:Int),(0:Int),nS,(0:Int)];have M:=za pz;have X:=za c;generalize G5:w.alloc (.cells #[(0:Int),(0:Int),nS,(0:Int)] 70)=I at*;clear h Y S r0 r1 r2 r3 r4 r5 h0 h1 h2 h3 c oR pz;by_cases aD:(i:Int)<(n:Int)-d
 ·have W:decide ((i:Int)<(n:Int)-d)=true:=zF aD;rw[W,Bool.true_or];go_enter func207,ntmps207
  go_wp2_with fail
  have ew:IntKind.i64.wrap ((n:Int)-d)=(n:Int)-d:=zZ _ (by omega);have F:∀V,V=I.drew->(V,l,2,Value.slice (some (b,o)) n cap)/\(V,l,3,d)/\(V,b,o+i*4,y)/\(V,b,o+i*4+1,u)/\(V,b,o+i*4+2,Value.slice r x q)/\(V,b,o+i*4+3,j):=by rintro _ rfl;exact⟨D,J,C,G,B,E⟩
  refine wrl F 20 (by kernel_rfl) (by kernel_rfl) ?_;have hHeld:=F _ rfl;refine GT.jM [0,1,2,3,4,5,6,7,8,9,10,11,12,13,14,15,16,17,18] hHeld (fun _ _ _ _ _ h=>h) (by kernel_rfl) ?_;iterate 11 (refine .c rfl rfl (fun V c=>by go_simp<;>with_reducible rfl) ?_;simp only[Act.put,zb,ze,zg])
  refine .c (v:= .int .i64 ((n:Int)-d)) rfl rfl (fun V c=>by go_simp<;>with_reducible rfl) ?_;try simp only[Act.put,zb,ze,zg];refine .c (v:= .bool true) rfl rfl (fun V c=>by go_simp<;>with_reducible rfl) ?_;try simp only[Act.put,zb,ze,zg];refine .c (v:= .bool true) rfl rfl (fun V c=>by go_simp<;>with_reducible rfl) ?_;try simp only[Act.put,zb,ze,zg];refine .u rfl rfl ?_;try simp only[Act.put,zb,ze,zg];refine .u rfl rfl ?_;try simp only[Act.put,zb,ze,zg];refine .u rfl rfl ?_;try simp only[Act.put,zb,ze,zg];refine .u rfl rfl ?_;try simp only[Act.put,zb,ze,zg];refine .c rfl rfl (fun V c=>by go_simp<;>with_reducible rfl) ?_;simp only[Act.put,zb,ze,zg];refine .nil ?_;obtain⟨n0,n1,n2,n3,m0,m1,m2,m3⟩:=aU M.out;refine GT.gw 19 (fun K z=> ?_) rfl (by kernel_rfl);go_simp;refine z.out _ _ ⟨(kY (by simp;omega) _ _ _ _).trans D,(kY (by simp;omega) _ _ _ _).trans J,(kY (by simp;omega) _ _ _ _).trans C,(kY (by simp;omega) _ _ _ _).trans G,(kY (by simp;omega) _ _ _ _).trans B,(kY (by simp;omega) _ _ _ _).trans E⟩ (fun hHeld=> ?_);clear z K;try simp only[Act.put,zb,ze,zg]
  refine GT.pF 20 ?_ rfl (by kernel_rfl);go_simp;go_wp2;have hX:=((((M.out.set 0 y).set 1 u).set 2 (.slice r x q)).set 3 j).drew;have O:Below w.heap.size w ((((I.setCell (w.heap.size,0) y).setCell (w.heap.size,1) u).setCell (w.heap.size,2) (.slice r x q)).setCell (w.heap.size,3) j).drew:=((((X.out.setCell (by simp) _).setCell (by simp) _).setCell (by simp) _).setCell (by simp) _).drew;obtain⟨x0,x1,x2,x3,_⟩:=aU (show ag _ _ _ #[y,u,.slice r x q,j]from hX);refine zl (v:= .tuple #[.agg #[y,u,.slice r x q,j],true]) (by simp[results,results207,go_sem,x0,x1,x2,x3]) rfl ⟨rfl,O⟩
 have W:decide ((i:Int)<(n:Int)-d)=false:=zv aD;rw[W,Bool.false_or];have ew:IntKind.i64.wrap ((n:Int)-d)=(n:Int)-d:=zZ _ (by omega);obtain⟨Z,ai⟩:=gL (decide (H<s.size));rw[ai];go_enter func207,ntmps207
 go_wp2_with fail
 have F:∀V,V=I.drew->(V,l,2,Value.slice (some (b,o)) n cap)/\(V,l,3,d)/\(V,b,o+i*4,y)/\(V,b,o+i*4+1,u)/\(V,b,o+i*4+2,Value.slice r x q)/\(V,b,o+i*4+3,j)/\(V,A,3,Value.func (.func 161) #[(g,0)] #[]):=by rintro _ rfl;exact⟨D,J,C,G,B,E,R⟩
 refine wrl F 20 (by kernel_rfl) (by kernel_rfl) ?_;have hHeld:=F _ rfl;refine GT.jM [0,1,2,3,4,5,6,7,8,9,10,11,12,13,14,15] hHeld (fun _ _ _ _ _ h=>h) (by kernel_rfl) ?_;iterate 11 (refine .c rfl rfl (fun V c=>by go_simp<;>with_reducible rfl) ?_;simp only[Act.put,zb,ze,zg])
 refine .c (v:= .int .i64 ((n:Int)-d)) rfl rfl (fun V c=>by go_simp<;>with_reducible rfl) ?_;try simp only[Act.put,zb,ze,zg];refine .c (v:= .bool false) rfl rfl (fun V c=>by go_simp<;>with_reducible rfl) ?_;try simp only[Act.put,zb,ze,zg];refine .c (v:= .bool false) rfl rfl (fun V c=>by go_simp<;>with_reducible rfl) ?_;try simp only[Act.put,zb,ze,zg];refine .c (v:= .pointer (some (A,3))) rfl rfl (fun V c=>by go_simp<;>with_reducible rfl) ?_;try simp only[Act.put,zb,ze,zg];refine .c (v:= .func (.func 161) #[(g,0)] #[]) rfl rfl (fun V c=>by go_simp<;>with_reducible rfl) ?_;try simp only[Act.put,zb,ze,zg];refine .nil ?_;refine GT.gw 16 (fun K z=> ?_) rfl (by kernel_rfl);go_simp;refine(ae.out I.drew X.out.drew).mono ?_;rintro e w2 ⟨rfl,nq,rfl⟩;go_wp2_with fail
 refine z.out _ _ ⟨D,J,C,G,B,E,R⟩ (fun hHeld=> ?_);clear z K;try simp only[Act.put,zb,ze,zg]
 refine GT.jM [17,18] hHeld (fun _ _ _ _ _ h=>h) (by kernel_rfl) ?_;refine .c (v:= .bool Z) rfl rfl (fun V c=>by go_simp<;>with_reducible rfl) ?_;try simp only[Act.put,zb,ze,zg];refine .c (v:= .bool Z) rfl rfl (fun V c=>by go_simp<;>with_reducible rfl) ?_;try simp only[Act.put,zb,ze,zg];refine .nil ?_;obtain⟨n0,n1,n2,n3,m0,m1,m2,m3⟩:=aU M.out;refine GT.gw 19 (fun K z=> ?_) rfl (by kernel_rfl);go_simp;refine z.out _ _ ⟨(im (by simp;omega) _ _ _ _ _).trans D,(im (by simp;omega) _ _ _ _ _).trans J,(im (by simp;omega) _ _ _ _ _).trans C,(im (by simp;omega) _ _ _ _ _).trans G,(im (by simp;omega) _ _ _ _ _).trans B,(im (by simp;omega) _ _ _ _ _).trans E,(im (by simp;omega) _ _ _ _ _).trans R⟩ (fun hHeld=> ?_);clear z K;try simp only[Act.put,zb,ze,zg]
 refine GT.pF 20 ?_ rfl (by kernel_rfl);go_simp;go_wp2;have aa:=(M.out.drewN (1+nq)).set 0 y;have ab:=aa.set 1 u;have VS:=ab.set 2 (.slice r x q);have ah:=VS.set 3 j;have y0:=aa.cell 0;have y1:=ab.cell 1;have y2:=VS.cell 2;have y3:=ah.cell 3;simp at y0 y1 y2 y3;have O:Below w.heap.size w (((((I.drewN (1+nq)).setCell (w.heap.size,0) y).setCell (w.heap.size,1) u).setCell (w.heap.size,2) (.slice r x q)).setCell (w.heap.size,3) j):=(((((X.out.bF _).setCell (by simp) _).setCell (by simp) _).setCell (by simp) _).setCell (by simp) _)
 refine zl (v:= .tuple #[.agg #[y,u,.slice r x q,j],Z]) (by simp[results,results207,go_sem,y0,y1,y2,y3]) rfl ⟨rfl,O⟩
theorem Qd (f d:Nat)(hd:d<=8)(IH:Hid (∀(g:Nat) (s:ByteArray) (p L:Nat) (w:World),jt w g s p L->p<=s.size->s.size<=100000->L<=64->
 Calls prog 123 #[(g,0),.int .i64 ((d:Int)+1)] w fun e w'=>kh w g s f L p e w')) (g:Nat) (s:ByteArray) (p L:Nat) (w:World) (h:jt w g s p L) (hp:p<s.size) (R:s.size<=100000) (hL:0<L) (NU:L<=64) (hc:s[p].toNat=91):
 Calls prog 123 #[(g,0),d] w fun e w'=>kh w g s (f+1) L p e w':=by
 have U:((s[p].toNat:Int)==117)=false:=zp.2 (by omega);have N:((s[p].toNat:Int)==98)=false:=zp.2 (by omega);have ed:IntKind.i64.wrap ((d:Int)+1)=(d:Int)+1:=zZ _ (by omega);have D8:Hid (aN (f+1) (s.data.toList.drop p)=u' (aN f (s.data.toList.drop (p+1)))):=za (by rw[qw (c:=91) hp hc,Ke]);have Y:=za (sV.start h);generalize hW:((w.alloc (.cells #[(g,0)] 176)).alloc (.cells #[(0:Int),(0:Int),nS,(0:Int)] 70))=W at*;obtain⟨g0,g1,g2,f0,f1,f2,ks⟩:=Y.out.rd.cells;have b0:W.cell? (w.heap.size,0)=some (.pointer (some (g,0))):=Y.out.box.cell 0;have Ai:=Y.out.glt;have d1:decide ((8:Int)<(d:Int))=false:=zv (by omega);have dL:((L:Int)==0)=false:=zp.2 (by omega);have dp:((p:Int)==(s.size:Int))=false:=zp.2 (by omega);have ew:IntKind.i64.wrap ((L:Int)-1)=(L:Int)-1:=zZ _ (by omega);clear h;go_enter xP,xJ
 go_wp2_with fail
 go_quiet (fail)
 obtain⟨nI,rfl⟩:∃nI,nI=nq:=⟨nq,rfl⟩
 go_wp2_with fail
 go_quiet (fail)
 have DH:=za (Y.out.step ((L:Int)-1) ((p:Int)+1) nI nq (L':=L-1) (p':=p+1) (by omega) (by omega));have HI:=za (IH.out g s (p+1) (L-1) _ DH.out.rd (by omega) R (by omega));clear IH;go_wp2_with fail
 refine HI.out.mono ?_;rintro e I ⟨x,ok,q,l,k,z,M,A,n,cap,rfl,hr,ho,aq,hn,ah⟩;have gN:=za (DH.out.eL ho hr);have AV:=za hn;have ak:=za ah;have Yv:=gN.out.siz;have hq:=hn.2.2;clear hr ho hn ah HI;have S:=za (gN.out.below (V':=I.alloc (.cells #[k,z,.slice A n cap,M] 70)) bO);obtain⟨n0,n1,n2,n3,m0,m1,m2,m3⟩:=aU S.out.res;have b2:(I.alloc (.cells #[k,z,.slice A n cap,M] 70)).cell? (w.heap.size,0)=some (.pointer (some (g,0))):=S.out.box.cell 0;have GB:w.heap.size+1<I.heap.size:=by omega
 cases ok with
 |false=>
  obtain⟨k0,k1,k2,k3,l0,l1,l2,l3⟩:=aU gN.out.res;have ar:¬I.heap.size=w.heap.size+1:=by omega
  go_wp2;obtain⟨E1,E2,B,u,D,y⟩:=gN.out.ends (0:Int) (0:Int) nS (0:Int);refine zl (v:= .tuple #[.agg #[(0:Int),(0:Int),nS,(0:Int)],false]) (by simp[results,yu,go_sem,B,u,D,y,zI,GB]) rfl ?_;exact⟨.mk 0 0 [] 0,false,q,l,_,_,_,_,_,_,rfl,ag.alloc (show ag _ g _ _ from E1) _,E2.alloc _,by omega,IU hL D8.out AV.out hq,(by intro h;cases h)⟩
 |true=>
  go_wp2_with fail
  by_cases VU:∃hq:q<s.size,s[q].toNat=58
  ·obtain⟨DK,SH⟩:=VU;refine(eY g s q l 58 _ S.out.rd DK R SH).mono ?_;rintro e w2 ⟨rfl,iQ,cN⟩;have rm:=za (S.out.eL cN iQ);have ad:=za (nV g w.heap.size s (q+1) l 1024 4 _ rm.out.rd rm.out.box (by omega) R (by omega));clear n0 n1 n2 n3 m0 m1 m2 m3 b2;go_wp2_with fail
   refine ad.out.mono ?_;rintro e w3 ⟨b,aj,F,rfl,tY,fF,Uu⟩;have wW:=za (rm.out.eL fF tY);have H:=za Uu;have HT:=za (((ag.new I 70 #[k,z,.slice A n cap,M]).only cN (by simp;omega)).only fF (by simp;omega));have au:I.heap.size<w3.heap.size:=HT.out.lt;obtain⟨t0,t1,t2,t3,_,_,_,_⟩:=aU HT.out;have an:=za (HT.out.alloc (.cells #[(4:Int),b,nS,(0:Int)] 70));obtain⟨u0,u1,u2,u3,_,_,_,_⟩:=aU an.out;have ai:Hid (fX w3 (w.heap.size+2<= ·) x k z (.slice A n cap) M):=za ((ak.out (by first|rfl|trivial)).only ((((ae.refl [g] I).alloc _).trans cN).trans fF) (by simp[World.setCell]<;>(have:=Y.out.siz;omega)) (fun k _ hk=>by simp[World.setCell]at hk;have:=Y.out.siz;omega));obtain⟨i,O⟩:∃i,((w3.alloc (.cells #[(4:Int),b,.slice (some (w3.heap.size+1,0)) 1 1,(0:Int)] 70)).alloc (.cells #[k,z,.slice A n cap,M] 70))=i:=⟨_,rfl⟩
   have Rv:Hid (ag i w3.heap.size 70 #[(4:Int),b,.slice (some (w3.heap.size+1,0)) 1 1,(0:Int)]):=za (by rw[<-O];exact(ag.new w3 _ _).alloc _);have Eb:Hid (ag i (w3.heap.size+1) 70 #[k,z,.slice A n cap,M]):=za (by rw[<-O];exact ag.at_ (by simp));have G:Hid (sV w g s F l i):=za (by rw[<-O];exact wW.out.below bO);have al:Hid (b<=1024->fX i (w.heap.size+2<= ·) (.mk 4 b [x] 0) (4:Int) b (.slice (some (w3.heap.size+1,0)) 1 1) (0:Int)):=za (by
    intro Oo;obtain⟨x0,x1,x2,x3,_⟩:=aU Eb.out;refine⟨rfl,rfl,rfl,aA (by omega) (by omega),aA (by omega) (by omega),aA (by omega) (by omega),by simp,_,_,rfl,by simp,by simp,⟨_,_,_,_,_,_,rfl, ?_,x0,x1,x2,x3, ?_⟩,trivial⟩
    ·show w.heap.size+2<=w3.heap.size+1
     omega
    exact ai.out.below (by rw[<-O];exact bO))
   have X:Hid (∀V,ag V w3.heap.size 70 #[(4:Int),b,.slice (some (w3.heap.size+1,0)) 1 1,(0:Int)]->ag V w.heap.size 176 #[(g,0)]->(V,w3.heap.size,0,(4:Int))/\(V,w3.heap.size,1,b)/\(V,w3.heap.size,2,Value.slice (some (w3.heap.size+1,0)) 1 1)/\(V,w3.heap.size,3,(0:Int))/\(V,w.heap.size,0,g,0)):=za (fun V r o=>by
    obtain⟨a0,a1,a2,a3,_⟩:=aU r;exact⟨a0,a1,a2,a3,o.cell 0⟩)
   have ao:=za O;clear Uu tY fF iQ cN ad O;go_wp2_with fail
   rw[ao.out];clear t0 t1 t2 t3 u0 u1 u2 u3;have hHeld:=X.out i.drew Rv.out.drew G.out.box.drew;cases aj with
   |false=>
    refine aK 7 (fun V=>(V,w3.heap.size,0,(4:Int))/\(V,w3.heap.size,1,b)/\(V,w3.heap.size,2,Value.slice (some (w3.heap.size+1,0)) 1 1)/\(V,w3.heap.size,3,(0:Int))/\(V,w.heap.size,0,g,0)) (by kernel_rfl) (by kernel_rfl) ?_;refine GT.jM [0,1,2,3,4,5] hHeld (fun _ _ _ _ _ h=>h) (by kernel_rfl) ?_;iterate 3 (refine .c rfl rfl (fun V hV=>by go_simp<;>with_reducible rfl) ?_;simp only[Act.put,zb,ze,zg])
    refine .u rfl rfl ?_;try simp only[Act.put,zb,ze,zg];refine .u rfl rfl ?_;try simp only[Act.put,zb,ze,zg];refine .c rfl rfl (fun V hV=>by go_simp<;>with_reducible rfl) ?_;simp only[Act.put,zb,ze,zg];refine .nil ?_;obtain⟨n0,n1,n2,n3,m0,m1,m2,m3⟩:=aU G.out.res;refine GT.gw 6 (fun K j=> ?_) rfl (by kernel_rfl);go_simp;have J:ae [w.heap.size+1] i ((((i.setCell (w.heap.size+1,0) (4:Int)).setCell (w.heap.size+1,1) b).setCell (w.heap.size+1,2) (.slice (some (w3.heap.size+1,0)) 1 1)).setCell (w.heap.size+1,3) (0:Int)):=((((ae.refl _ _).setCell (by simp) _).setCell (by simp) _).setCell (by simp) _).setCell (by simp) _;refine j.out _ _ (X.out _ (Rv.out.only J (by simp;omega)).drew (G.out.box.only J (by simp)).drew) (fun hHeld=> ?_);clear j K;try simp only[Act.put,zb,ze,zg]
    refine GT.pF 7 ?_ rfl (by kernel_rfl);go_simp;obtain⟨U,N,B,u,D,y⟩:=G.out.ends (4:Int) b (.slice (some (w3.heap.size+1,0)) 1 1) (0:Int);go_wp2;refine zl (v:= .tuple #[.agg #[(4:Int),b,.slice (some (w3.heap.size+1,0)) 1 1,(0:Int)],false]) (by simp[results,yu,go_sem,B,u,D,y]) rfl ?_;exact⟨.mk 0 0 [] 0,false,F,l,_,_,_,_,_,_,rfl,ag.drew (show ag _ g _ _ from U),N.drew,by omega,pn D8.out AV.out (P8 x DK SH H.out L) H.out.2.2.1,(by intro h;cases h)⟩
   |true=>
    by_cases oO:∃Ru:F<s.size,s[F].toNat=93
    ·obtain⟨Ru,VQ⟩:=oO;have ab:=za (eY g s F l 93 _ (ag.drew (show ag i g _ _ from G.out.rd)) Ru R VQ);refine aK 7 (fun V=>(V,w3.heap.size,0,(4:Int))/\(V,w3.heap.size,1,b)/\(V,w3.heap.size,2,Value.slice (some (w3.heap.size+1,0)) 1 1)/\(V,w3.heap.size,3,(0:Int))/\(V,w.heap.size,0,g,0)) (by kernel_rfl) (by kernel_rfl) ?_;refine GT.jM [0,1,2,3] hHeld (fun _ _ _ _ _ h=>h) (by kernel_rfl) ?_;repeat(refine .c rfl rfl (fun V hV=>by go_simp<;>with_reducible rfl) ?_;simp only[Act.put,zb,ze,zg])
     refine .nil ?_;refine GT.gw 4 (fun K j=> ?_) rfl (by kernel_rfl);go_simp;refine ab.out.mono ?_;rintro e m ⟨rfl,aa,GG⟩;have C:ae [g] i m:=(ae.refl [g] i).drew.trans GG;clear GG;have E:=za (G.out.eL C aa);have af:=za C;have Z:=za (Rv.out.only C (by simp;omega));clear hHeld aa C;go_wp2_with fail
     refine j.out _ _ (X.out m Z.out E.out.box) (fun hHeld=> ?_);clear j K;try simp only[Act.put,zb,ze,zg]
     refine GT.jM [5] hHeld (fun _ _ _ _ _ h=>h) (by kernel_rfl) ?_;refine .c rfl rfl (fun V hV=>by go_simp<;>with_reducible rfl) ?_;simp only[Act.put,zb,ze,zg];refine .nil ?_;obtain⟨n0,n1,n2,n3,m0,m1,m2,m3⟩:=aU E.out.res;refine GT.gw 6 (fun K j=> ?_) rfl (by kernel_rfl);go_simp;have J:ae [w.heap.size+1] m ((((m.setCell (w.heap.size+1,0) (4:Int)).setCell (w.heap.size+1,1) b).setCell (w.heap.size+1,2) (.slice (some (w3.heap.size+1,0)) 1 1)).setCell (w.heap.size+1,3) (0:Int)):=((((ae.refl _ _).setCell (by simp) _).setCell (by simp) _).setCell (by simp) _).setCell (by simp) _;refine j.out _ _ (X.out _ (Z.out.only J (by simp;omega)) (E.out.box.only J (by simp))) (fun hHeld=> ?_);clear j K;try simp only[Act.put,zb,ze,zg]
     refine GT.pF 7 ?_ rfl (by kernel_rfl);go_simp;obtain⟨U,N,B,u,D,y⟩:=E.out.ends (4:Int) b (.slice (some (w3.heap.size+1,0)) 1 1) (0:Int);go_wp2;refine zl (v:= .tuple #[.agg #[(4:Int),b,.slice (some (w3.heap.size+1,0)) 1 1,(0:Int)],true]) (by simp[results,yu,go_sem,B,u,D,y]) rfl ?_;exact⟨.mk 4 b [x] 0,true,F+1,l,_,_,_,_,_,_,rfl,U,N,by omega,IV hL D8.out AV.out (P9 x DK SH H.out Ru VQ) (by have:=(H.out.1 rfl).2.2;omega) (by omega),fun _=>((al.out H.out.2.2.2).only af.out (by simp;omega) (fun _ _ h=>h)).only (L:= [w.heap.size+1]) (((((ae.refl _ m).setCell (by simp) _).setCell (by simp) _).setCell (by simp) _).setCell (by simp) _) (by simp) (fun _ _ h=>by omega)⟩
    have ab:=za (gu g s F l 93 _ (ag.drew (show ag i g _ _ from G.out.rd)) H.out.2.2.1 R (fun r o=>oO ⟨r,o⟩));refine aK 7 (fun V=>(V,w3.heap.size,0,(4:Int))/\(V,w3.heap.size,1,b)/\(V,w3.heap.size,2,Value.slice (some (w3.heap.size+1,0)) 1 1)/\(V,w3.heap.size,3,(0:Int))/\(V,w.heap.size,0,g,0)) (by kernel_rfl) (by kernel_rfl) ?_;refine GT.jM [0,1,2,3] hHeld (fun _ _ _ _ _ h=>h) (by kernel_rfl) ?_;repeat(refine .c rfl rfl (fun V hV=>by go_simp<;>with_reducible rfl) ?_;simp only[Act.put,zb,ze,zg])
    refine .nil ?_;refine GT.gw 4 (fun K j=> ?_) rfl (by kernel_rfl);go_simp;refine ab.out.mono ?_;rintro e m ⟨rfl,n6,VT⟩;have aa:jt m g s F l:=by rw[VT];exact G.out.rd
    have C:ae [g] i m:=by rw[VT];exact(ae.refl [g] i).drew.drewN _
    clear VT;have E:=za (G.out.eL C aa);have af:=za C;have Z:=za (Rv.out.only C (by simp;omega));clear hHeld aa C;go_wp2_with fail
    refine j.out _ _ (X.out m Z.out E.out.box) (fun hHeld=> ?_);clear j K;try simp only[Act.put,zb,ze,zg]
    refine GT.jM [5] hHeld (fun _ _ _ _ _ h=>h) (by kernel_rfl) ?_;refine .c rfl rfl (fun V hV=>by go_simp<;>with_reducible rfl) ?_;simp only[Act.put,zb,ze,zg];refine .nil ?_;obtain⟨n0,n1,n2,n3,m0,m1,m2,m3⟩:=aU E.out.res;refine GT.gw 6 (fun K j=> ?_) rfl (by kernel_rfl);go_simp;have J:ae [w.heap.size+1] m ((((m.setCell (w.heap.size+1,0) (4:Int)).setCell (w.heap.size+1,1) b).setCell (w.heap.size+1,2) (.slice (some (w3.heap.size+1,0)) 1 1)).setCell (w.heap.size+1,3) (0:Int)):=((((ae.refl _ _).setCell (by simp) _).setCell (by simp) _).setCell (by simp) _).setCell (by simp) _;refine j.out _ _ (X.out _ (Z.out.only J (by simp;omega)) (E.out.box.only J (by simp))) (fun hHeld=> ?_);clear j K;try simp only[Act.put,zb,ze,zg]
    refine GT.pF 7 ?_ rfl (by kernel_rfl);go_simp;obtain⟨U,N,B,u,D,y⟩:=E.out.ends (4:Int) b (.slice (some (w3.heap.size+1,0)) 1 1) (0:Int);go_wp2;refine zl (v:= .tuple #[.agg #[(4:Int),b,.slice (some (w3.heap.size+1,0)) 1 1,(0:Int)],false]) (by simp[results,yu,go_sem,B,u,D,y]) rfl ?_;exact⟨.mk 0 0 [] 0,false,F,l,_,_,_,_,_,_,rfl,U,N,by omega,pn D8.out AV.out (MU x DK SH H.out (fun r o=>oO ⟨r,o⟩) L) H.out.2.2.1,(by intro h;cases h)⟩
  refine(gu g s q l 58 _ S.out.rd hq R (fun r o=>VU ⟨r,o⟩)).mono ?_;rintro e w2 ⟨rfl,n5,rfl⟩;go_wp2;obtain⟨E1,E2,B,u,D,y⟩:=(S.out.below (V':=(I.alloc (.cells #[k,z,.slice A n cap,M] 70)).drewN n5) bO).ends (0:Int) (0:Int) nS (0:Int);refine zl (v:= .tuple #[.agg #[(0:Int),(0:Int),nS,(0:Int)],false]) (by simp[results,yu,go_sem,B,u,D,y]) rfl ?_;exact⟨.mk 0 0 [] 0,false,q,l,_,_,_,_,_,_,rfl,E1,E2,by omega,pn D8.out AV.out (P7 x (fun r o=>VU ⟨r,o⟩) L) hq,(by intro h;cases h)⟩
def aci (w:World)(g:Nat)(s:ByteArray)(L:Nat)(R:Option (Ty×List UInt8))(e:Ending)(w':World):Prop:=
 ∃(t:Ty) (ok:Bool) (q L':Nat) (k z ta:Int) (A:Option Addr) (n cap:Nat),e= .returned (.tuple #[.agg #[k,z,.slice A n cap,ta],ok])/\jt w' g s q L'/\ae [g] w w'/\L'<=L/\OW (1+L) s R t ok q L'/\(ok=true->fX w' (w.heap.size<= ·) t k z (.slice A n cap) ta)
structure po (w:World)(g:Nat)(s:ByteArray)(p L:Nat)(acc:List Ty)(tl:Nat)(v:Value)(V:World):Prop where
 res:ag V w.heap.size 70 #[(0:Int),(0:Int),nS,(0:Int)]
 bx:ag V (w.heap.size+1) 70 #[(5:Int),(0:Int),v,tl]
 acc:gA V (w.heap.size+2) acc v
 rd:jt V g s p L
 only:ae [g] w V
 siz:w.heap.size+2<=V.heap.size
 glt:g<w.heap.size
theorem po.start (h:jt w g s p L):po w g s p L [] 0 nS ((w.alloc (.cells #[(0:Int),(0:Int),nS,(0:Int)] 70)).alloc (.cells #[(5:Int),(0:Int),nS,(0:Int)] 70)) where
 res:=(ag.new w _ _).alloc _
 bx:=ag.at_ (by simp)
 acc:=gA.nil _ _
 rd:=(ag.alloc (show ag w g _ _ from h) _).alloc _
 only:=((ae.refl _ w).alloc _).alloc _
 siz:=by simp
 glt:=ag.lt (show ag w g _ _ from h)
theorem po.eL {p' L' c:Nat}(h:po w g s p L acc c v V)(b:ae [g] V V')(d:jt V' g s p' L'):po w g s p' L' acc c v V' where
 res:=h.res.only b (by have:=h.glt;simp;omega)
 bx:=h.bx.only b (by have:=h.glt;simp;omega)
 acc:=h.acc.only b (by have:=h.glt;simp;omega)
 rd:=d
 only:=h.only.trans b
 siz:=zG h.siz b.size
 glt:=h.glt
theorem po.below {c:Nat}(h:po w g s p L acc c v V)(b:Below V.heap.size V V'):po w g s p L acc c v V':=h.eL ((ae.ai b (zd _)).mono (by simp)) ((b.block _ (ag.lt (show ag V g _ _ from h.rd))).trans h.rd)
theorem po.mark {b:Nat}(h:po w g s p L acc b v V){n:Int}(c:n=(b+1:Nat)):po w g s p L acc (b+1) v (V.setCell (w.heap.size+1,3) n) where
 res:=h.res.dE (by simp) _
 bx:=by subst c;exact h.bx.store rfl
 acc:=h.acc.only ((ae.refl [w.heap.size+1] V).setCell (by simp) _) (by simp)
 rd:=ag.dE (show ag V g _ _ from h.rd) (by have:=h.glt;simp;omega) _
 only:=h.only.setCell (by simp) _
 siz:=by simp[World.setCell];exact h.siz
 glt:=h.glt
theorem po.more {j:List Ty}{c:Value}(h:po w g s p L acc l v V)(b:V.grownBy V' v.ownBlock)(m:gA V' (w.heap.size+2) j c):po w g s p L j l c (V'.setCell (w.heap.size+1,2) c):=
 have d:∀k,k<w.heap.size+2->v.ownBlock≠some k:=fun k i e=>by have:=(h.acc.ge k e).1;omega
 ⟨(h.res.grown b (d _ (by omega))).dE (by simp) _,
  (h.bx.grown b (d _ (by omega))).store rfl,
  m.only ((ae.refl [w.heap.size+1] V').setCell (by simp) _) (by simp),
  (ag.grown (show ag V g _ _ from h.rd) b (d _ (by have:=h.glt;omega))).dE (by have:=h.glt;simp;omega) _,
  (h.only.grown b (fun k i=> .inr (by have:=(h.acc.ge k i).1;omega))).setCell (by simp) _,
  (by simp[World.setCell];exact zG h.siz b.size),
  h.glt⟩
theorem po.ends (h:po w g s p L acc i v V)(b c d e:Value):
 jt ((((V.setCell (w.heap.size,0) b).setCell (w.heap.size,1) c).setCell (w.heap.size,2) d).setCell (w.heap.size,3) e) g s p L/\ae [g] w ((((V.setCell (w.heap.size,0) b).setCell (w.heap.size,1) c).setCell (w.heap.size,2) d).setCell (w.heap.size,3) e)/\
 ((V.setCell (w.heap.size,0) b),w.heap.size,0,b)/\(((V.setCell (w.heap.size,0) b).setCell (w.heap.size,1) c),w.heap.size,1,c)/\((((V.setCell (w.heap.size,0) b).setCell (w.heap.size,1) c).setCell (w.heap.size,2) d),w.heap.size,2,d)/\(((((V.setCell (w.heap.size,0) b).setCell (w.heap.size,1) c).setCell (w.heap.size,2) d).setCell (w.heap.size,3) e),w.heap.size,3,e):=
 have n1:g≠w.heap.size:=by have:=h.glt;omega
 ⟨(((ag.dE (show ag V g _ _ from h.rd) (p:=⟨w.heap.size,0,none⟩) n1 _).dE (p:=⟨w.heap.size,1,none⟩) n1 _).dE (p:=⟨w.heap.size,2,none⟩) n1 _).dE (p:=⟨w.heap.size,3,none⟩) n1 _,(((h.only.setCell (by simp) _).setCell (by simp) _).setCell (by simp) _).setCell (by simp) _,by have:=(h.res.set 0 b).cell 0;simpa using this,by have:=((h.res.set 0 b).set 1 c).cell 1;simpa using this,by have:=(((h.res.set 0 b).set 1 c).set 2 d).cell 2;simpa using this,by have:=((((h.res.set 0 b).set 1 c).set 2 d).set 3 e).cell 3;simpa using this⟩
theorem po.ty {b:Nat}(h:po w g s p L acc b v V)(n:acc.length<=200000)(m:b<=200000)(e j i c:Value):fX ((((V.setCell (w.heap.size,0) e).setCell (w.heap.size,1) j).setCell (w.heap.size,2) i).setCell (w.heap.size,3) c) (w.heap.size<= ·) (.mk 5 0 acc b) (5:Int) (0:Int) v b:=by
 have l:gA _ (w.heap.size+2) acc v:=h.acc.only (L:= [w.heap.size]) (w':=(((V.setCell (w.heap.size,0) e).setCell (w.heap.size,1) j).setCell (w.heap.size,2) i).setCell (w.heap.size,3) c) (((((ae.refl _ _).setCell (by simp) _).setCell (by simp) _).setCell (by simp) _).setCell (by simp) _) (by simp);refine fX.ef (l.ty (by omega) (aA (by omega) (by omega)) (aA (by omega) (by omega)) (aA (by omega) (by omega))) fun k _ d=> ?_
 have d:w.heap.size+2<=k:=d;show w.heap.size<=k
 omega
theorem IZ (f d:Nat)(hd:d<=8)(IH:Hid (∀(g:Nat) (s:ByteArray) (p L:Nat) (w:World),jt w g s p L->p<=s.size->s.size<=100000->L<=64->
 Calls prog 123 #[(g,0),.int .i64 ((d:Int)+1)] w fun e w'=>kh w g s f L p e w')) (g:Nat) (s:ByteArray) (p L:Nat) (ab:Option (Ty×List UInt8)) (w:World) (h:jt w g s p L) (hT:Hid (fL f s ab p [] 0)) (hp:p<=s.size) (Z:s.size<=100000) (NU:L<=64):
 Calls prog 169 #[(g,0),d] w fun e w'=>aci w g s L ab e w':=by
 have ed:IntKind.i64.wrap ((d:Int)+1)=(d:Int)+1:=zZ _ (by omega);have dw:=za (po.start h);clear h;go_enter func169,ntmps169
 go_wp2_with fail
 by_cases VU:∃hq:p<s.size,s[p].toNat=125
 ·obtain⟨DK,F⟩:=VU;refine(eY g s p L 125 _ dw.out.rd DK Z F).mono ?_;rintro e w1 ⟨rfl,Rw,VV⟩;have gN:=za (dw.out.eL VV Rw);clear Rw VV;obtain⟨N,G,W,I,J,U,Y,M⟩:=aU gN.out.res;obtain⟨r,E,u,B,C,z,x,D⟩:=aU gN.out.bx;go_wp2;obtain⟨X,H,R,K,S,O⟩:=gN.out.ends (.int .i64 5) (.int .i64 0) nS (.int .i64 0);refine zl (v:= .tuple #[.agg #[(5:Int),(0:Int),nS,.int .i64 0],true]) (by simp[results,xC,go_sem,R,K,S,O]) rfl ?_;exact⟨.mk 5 0 [] 0,true,p+1,L,_,_,_,_,_,_,rfl,X,H,zd _,IX (hT.out.ends DK F) (by simp[aZ]) (by omega),fun _=>gN.out.ty (by simp) (by omega) _ _ _ _⟩
 have Ed:=za (IW hT.out (fun j i=>VU ⟨j,i⟩));refine(gu g s p L 125 _ dw.out.rd hp Z (fun j i=>VU ⟨j,i⟩)).mono ?_;rintro e w1 ⟨rfl,n1,kH⟩;have gN:Hid (po w g s p L [] 0 nS w1):=za (by rw[kH];exact dw.out.below bO);clear kH VU;go_wp2_with fail
 go_loopw [7] (fun _ wr=>∃(q Lc:Nat) (acc:List Ty) (l:Nat) (vv:Value),q<=s.size/\Hid (pY f s ab q acc l)/\Hid (Lc+aZ acc=L)/\Lc<=L/\acc.length<=q/\l<=q/\Hid (po w g s q Lc acc l vv wr)) (fun _ wr=>s.size-PL (wr.cell? (g,1)))
 case atStart=>exact⟨p,L,[],0,_,hp,Ed,za (by simp[aZ]),zd _,by simp,by omega,gN⟩
 case round=>
  clear dw gN Ed;obtain⟨q,Lc,acc,l,vv,hq,Ed,DL,aC,Cr,uC,HW⟩:=hrel;obtain⟨c0,c1,c2,au,aw,ay,oO⟩:=HW.out.rd.cells;obtain⟨A2,n2,cap2,rfl,G1,aG,aD⟩:=HW.out.acc.cy;obtain⟨N,G,W,I,J,U,Y,M⟩:=aU HW.out.res;obtain⟨r,E,u,B,C,z,x,D⟩:=aU HW.out.bx;clear c0 c2 au aw ay;by_cases Lo:∃hq:q<s.size,s[q].toNat=63
  ·obtain⟨DK,Lo⟩:=Lo;have aE:IntKind.i64.wrap ((l:Int)+1)=(l:Int)+1:=zZ _ (by omega);clear N G W I J U Y M r E u B C z x D;go_wp2_with fail
   refine(eY g s q Lc 63 _ HW.out.rd DK Z Lo).mono ?_;rintro e w2 ⟨rfl,iQ,cN⟩;have tX:=za (HW.out.eL cN iQ);clear iQ cN;obtain⟨N,G,W,I,J,U,Y,M⟩:=aU tX.out.res;obtain⟨r,E,u,B,C,z,x,D⟩:=aU tX.out.bx;obtain⟨W3,lq⟩:∃W3,w2.setCell (w.heap.size+1,3) (.int .i64 ((l:Int)+1))=W3:=⟨_,rfl⟩
   obtain⟨T,aj⟩:∃T,l+1=T:=⟨_,rfl⟩
   have rm:Hid (po w g s (q+1) Lc acc T (.slice A2 n2 cap2) W3):=za (by rw[<-lq,<-aj];exact tX.out.mark (by omega));have Cq:Hid (Oh f s ab (q+1) acc T):=za (by rw[<-aj];exact Ed.out.mark DK Lo);have ax:=za lq;have hQ:q+1<=s.size:=by omega
   have aB:T<=q+1:=by omega
   clear lq aj;go_wp2_with fail
   rw[ax.out];refine(IH.out g s ((q+1)) Lc W3 rm.out.rd hQ Z (by omega)).mono ?_;rintro e w4 ⟨y,ok,b,c,k,ai,ta,A,n,cap,rfl,hr,ho,aq,hn,oe⟩;have wW:=za (rm.out.eL ho hr);have AV:=za hn;have ak:=za oe;have Ru:=hn.2.2;have ar:=rm.out.siz;have ao:=wW.out.siz;have YQ:w.heap.size<w4.heap.size:=by omega
   have az:w.heap.size+1<w4.heap.size:=by omega
   clear hr ho hn oe N G W I J U Y M r E u B C z x D;obtain⟨N,G,W,I,J,U,Y,M⟩:=aU wW.out.res;obtain⟨r,E,u,B,C,z,x,D⟩:=aU wW.out.bx;cases ok with
   |false=>
    go_wp2;obtain⟨X,H,R,K,S,O⟩:=wW.out.ends (.int .i64 0) (.int .i64 0) (.slice none 0 0) (.int .i64 0);refine zl (v:= .tuple #[.agg #[(0:Int),(0:Int),nS,(0:Int)],false]) (by simp[results,xC,go_sem,R,K,S,O,zI,YQ]) rfl ?_;exact⟨.mk 0 0 [] 0,false,b,c,_,_,_,_,_,_,rfl,ag.alloc (show ag _ g _ _ from X) _,H.alloc _,by omega,P' _ Cq.out AV.out DL.out,(by intro h;cases h)⟩
   |true=>
    have Ec:=za (KF Cq.out hQ AV.out);obtain⟨_,Ah,av⟩:=AV.out.1 rfl;have Lr:Hid (c+aZ (acc++ [y])=L):=za (by rw[sY];have:=DL.out;omega);have oS:Hid (∀o o',po w g s b c acc (T) (.slice A2 n2 cap2) ((w4.alloc o).alloc o')):=za (fun o o'=>wW.out.below bO);have HY:Hid (∀o o',fX ((w4.alloc o).alloc o') (fun k=>w.heap.size+2<=k/\(Value.slice A2 n2 cap2).ownBlock≠some k) y k ai (.slice A n cap) ta):=za (fun o o'=>((ak.out (by first|rfl|trivial)).ef (fun k _ hk=>⟨by have hk:W3.heap.size<=k:=hk;omega,fun e=>by have:=(rm.out.acc.ge k e).2;have hk:W3.heap.size<=k:=hk;omega⟩)).below bO);have al:acc.length<=1000000:=by omega
    clear Ah;go_wp2_with (at_builtin;refine fY (by rfl) (.tmp 34) (.tmp 36) (by rfl) (w.heap.size+2) acc (by rfl) (oS.out _ _).acc y (HY.out _ _) _ (by rfl) (by simp) (by simp) (by simp) (by simp) al (by simp only[zt];omega) ?_)
    intro g' n' an w6 Uz GI gB aA;have Rx:=ag.grown (oS.out _ _).bx gB (fun e=>by have:=((oS.out (.cells #[] 0) (.cells #[] 0)).acc.ge _ e).1;omega);clear N G W I J U Y M r E u B C z x D;obtain⟨r,E,u,B,C,z,x,D⟩:=aU Rx;obtain⟨W7,rp⟩:∃W7,w6.setCell (w.heap.size+1,2) (.slice (some (g',0)) n' an)=W7:=⟨_,rfl⟩
    have GH:Hid (po w g s b c (acc++ [y]) (T) (.slice (some (g',0)) n' an) W7):=za (by rw[<-rp];exact(oS.out _ _).more gB GI);have ah:=za rp;clear rp Rx gB GI;go_wp2_with fail
    rw[ah.out];clear r E u B C z x D;by_cases F:∃hq:b<s.size,s[b].toNat=125
    ·obtain⟨wX,F⟩:=F;refine(eY g s b c 125 _ GH.out.rd wX Z F).mono ?_;rintro e w8 ⟨rfl,aa,Ot⟩;have m:=za (GH.out.eL Ot aa);clear aa Ot;obtain⟨N,G,W,I,J,U,Y,M⟩:=aU m.out.res;obtain⟨r,E,u,B,C,z,x,D⟩:=aU m.out.bx;go_wp2;obtain⟨X,H,R,K,S,O⟩:=m.out.ends (.int .i64 5) (.int .i64 0) (.slice (some (g',0)) n' an) (.int .i64 ((T:Nat):Int));refine zl (v:= .tuple #[.agg #[(5:Int),(0:Int),(.slice (some (g',0)) n' an),.int .i64 ((T:Nat):Int)],true]) (by simp[results,xC,go_sem,R,K,S,O]) rfl ?_;exact⟨.mk 5 0 (acc++ [y]) ((T:Nat):Int),true,b+1,c,_,_,_,_,_,_,rfl,X,H,by omega,IX (Ec.out.ends wX F) Lr.out (by omega),fun _=>m.out.ty (by simp;omega) (by omega) _ _ _ _⟩
    refine(gu g s b c 125 _ GH.out.rd Ru Z (fun j i=>F ⟨j,i⟩)).mono ?_;rintro e w8 ⟨rfl,n8,ad⟩;have m:Hid (po w g s b c (acc++ [y]) (T) (.slice (some (g',0)) n' an) w8):=za (by rw[ad];exact GH.out.below bO);clear ad;go_wp2_with fail
    by_cases uH:∃hq:b<s.size,s[b].toNat=44
    ·obtain⟨wX,uH⟩:=uH;refine(eY g s b c 44 _ m.out.rd wX Z uH).mono ?_;rintro e w9 ⟨rfl,af,rq⟩;have NY:=za (m.out.eL rq af);have c9:=NY.out.rd.cells.2.1;clear af rq;go_wp2;go_roundw
     case rel=>exact⟨b+1,c,acc++ [y],T,_,by omega,za (Ec.out.more wX uH (by simp)),Lr,by omega,by simp;omega,by omega,NY⟩
     case measure=>
      rw[c1,c9];simp only[PL];omega
    refine(gu g s b c 44 _ m.out.rd Ru Z (fun j i=>uH ⟨j,i⟩)).mono ?_;rintro e w9 ⟨rfl,n9,ae⟩;have NY:Hid (po w g s b c (acc++ [y]) (T) (.slice (some (g',0)) n' an) w9):=za (by rw[ae];exact m.out.below bO);clear ae;obtain⟨N,G,W,I,J,U,Y,M⟩:=aU NY.out.res;obtain⟨r,E,u,B,C,z,x,D⟩:=aU NY.out.bx;go_wp2;obtain⟨X,H,R,K,S,O⟩:=NY.out.ends (.int .i64 0) (.int .i64 0) (.slice none 0 0) (.int .i64 0);refine zl (v:= .tuple #[.agg #[(0:Int),(0:Int),nS,(0:Int)],false]) (by simp[results,xC,go_sem,R,K,S,O]) rfl ?_;exact⟨.mk 0 0 [] 0,false,b,c,_,_,_,_,_,_,rfl,X,H,by omega,Dd _ (B3 Ec.out (by simp) (fun j i=>F ⟨j,i⟩) (fun j i=>uH ⟨j,i⟩)) Ru,(by intro h;cases h)⟩
  go_wp2_with fail
  refine(gu g s q Lc 63 _ HW.out.rd hq Z (fun j i=>Lo ⟨j,i⟩)).mono ?_;rintro e w2 ⟨rfl,aF,uJ⟩;have rm:Hid (po w g s q Lc acc l (.slice A2 n2 cap2) w2):=za (by rw[uJ];exact HW.out.below bO);clear uJ N G W I J U Y M r E u B C z x D;obtain⟨N,G,W,I,J,U,Y,M⟩:=aU rm.out.res;obtain⟨r,E,u,B,C,z,x,D⟩:=aU rm.out.bx;by_cases NZ:0<l
  ·skip
   go_wp2;obtain⟨X,H,R,K,S,O⟩:=rm.out.ends (.int .i64 0) (.int .i64 0) (.slice none 0 0) (.int .i64 0);refine zl (v:= .tuple #[.agg #[(0:Int),(0:Int),nS,(0:Int)],false]) (by simp[results,xC,go_sem,R,K,S,O]) rfl ?_;exact⟨.mk 0 0 [] 0,false,q,Lc,_,_,_,_,_,_,rfl,X,H,by omega,Dd _ (Ed.out.none_ (fun j i=>Lo ⟨j,i⟩) NZ) hq,(by intro h;cases h)⟩
  have Cq:Hid (Oh f s ab q acc l):=za (by
   obtain rfl:l=0:=by omega
   exact Ed.out.plain (fun j i=>Lo ⟨j,i⟩))
  obtain⟨W3,rfl⟩:∃W3,W3=w2:=⟨w2,rfl⟩
  have hQ:=hq;go_wp2_with fail
  refine(IH.out g s (q) Lc W3 rm.out.rd hQ Z (by omega)).mono ?_;rintro e w4 ⟨y,ok,b,c,k,ai,ta,A,n,cap,rfl,hr,ho,aq,hn,oe⟩;have wW:=za (rm.out.eL ho hr);have AV:=za hn;have ak:=za oe;have Ru:=hn.2.2;have ar:=rm.out.siz;have ao:=wW.out.siz;have YQ:w.heap.size<w4.heap.size:=by omega
  have az:w.heap.size+1<w4.heap.size:=by omega
  clear hr ho hn oe N G W I J U Y M r E u B C z x D;obtain⟨N,G,W,I,J,U,Y,M⟩:=aU wW.out.res;obtain⟨r,E,u,B,C,z,x,D⟩:=aU wW.out.bx;cases ok with
  |false=>
   go_wp2;obtain⟨X,H,R,K,S,O⟩:=wW.out.ends (.int .i64 0) (.int .i64 0) (.slice none 0 0) (.int .i64 0);refine zl (v:= .tuple #[.agg #[(0:Int),(0:Int),nS,(0:Int)],false]) (by simp[results,xC,go_sem,R,K,S,O,zI,YQ]) rfl ?_;exact⟨.mk 0 0 [] 0,false,b,c,_,_,_,_,_,_,rfl,ag.alloc (show ag _ g _ _ from X) _,H.alloc _,by omega,P' _ Cq.out AV.out DL.out,(by intro h;cases h)⟩
  |true=>
   have Ec:=za (KF Cq.out hQ AV.out);obtain⟨_,Ah,av⟩:=AV.out.1 rfl;have Lr:Hid (c+aZ (acc++ [y])=L):=za (by rw[sY];have:=DL.out;omega);have oS:Hid (∀o o',po w g s b c acc (l) (.slice A2 n2 cap2) ((w4.alloc o).alloc o')):=za (fun o o'=>wW.out.below bO);have HY:Hid (∀o o',fX ((w4.alloc o).alloc o') (fun k=>w.heap.size+2<=k/\(Value.slice A2 n2 cap2).ownBlock≠some k) y k ai (.slice A n cap) ta):=za (fun o o'=>((ak.out (by first|rfl|trivial)).ef (fun k _ hk=>⟨by have hk:W3.heap.size<=k:=hk;omega,fun e=>by have:=(rm.out.acc.ge k e).2;have hk:W3.heap.size<=k:=hk;omega⟩)).below bO);have al:acc.length<=1000000:=by omega
   clear Ah;go_wp2_with (at_builtin;refine fY (by rfl) (.tmp 34) (.tmp 36) (by rfl) (w.heap.size+2) acc (by rfl) (oS.out _ _).acc y (HY.out _ _) _ (by rfl) (by simp) (by simp) (by simp) (by simp) al (by simp only[zt];omega) ?_)
   intro g' n' an w6 Uz GI gB aA;have Rx:=ag.grown (oS.out _ _).bx gB (fun e=>by have:=((oS.out (.cells #[] 0) (.cells #[] 0)).acc.ge _ e).1;omega);clear N G W I J U Y M r E u B C z x D;obtain⟨r,E,u,B,C,z,x,D⟩:=aU Rx;obtain⟨W7,rp⟩:∃W7,w6.setCell (w.heap.size+1,2) (.slice (some (g',0)) n' an)=W7:=⟨_,rfl⟩
   have GH:Hid (po w g s b c (acc++ [y]) (l) (.slice (some (g',0)) n' an) W7):=za (by rw[<-rp];exact(oS.out _ _).more gB GI);have ah:=za rp;clear rp Rx gB GI;go_wp2_with fail
   rw[ah.out];clear r E u B C z x D;by_cases F:∃hq:b<s.size,s[b].toNat=125
   ·obtain⟨wX,F⟩:=F;refine(eY g s b c 125 _ GH.out.rd wX Z F).mono ?_;rintro e w8 ⟨rfl,aa,Ot⟩;have m:=za (GH.out.eL Ot aa);clear aa Ot;obtain⟨N,G,W,I,J,U,Y,M⟩:=aU m.out.res;obtain⟨r,E,u,B,C,z,x,D⟩:=aU m.out.bx;go_wp2;obtain⟨X,H,R,K,S,O⟩:=m.out.ends (.int .i64 5) (.int .i64 0) (.slice (some (g',0)) n' an) (.int .i64 ((l:Nat):Int));refine zl (v:= .tuple #[.agg #[(5:Int),(0:Int),(.slice (some (g',0)) n' an),.int .i64 ((l:Nat):Int)],true]) (by simp[results,xC,go_sem,R,K,S,O]) rfl ?_;exact⟨.mk 5 0 (acc++ [y]) ((l:Nat):Int),true,b+1,c,_,_,_,_,_,_,rfl,X,H,by omega,IX (Ec.out.ends wX F) Lr.out (by omega),fun _=>m.out.ty (by simp;omega) (by omega) _ _ _ _⟩
   refine(gu g s b c 125 _ GH.out.rd Ru Z (fun j i=>F ⟨j,i⟩)).mono ?_;rintro e w8 ⟨rfl,n8,ad⟩;have m:Hid (po w g s b c (acc++ [y]) (l) (.slice (some (g',0)) n' an) w8):=za (by rw[ad];exact GH.out.below bO);clear ad;go_wp2_with fail
   by_cases uH:∃hq:b<s.size,s[b].toNat=44
   ·obtain⟨wX,uH⟩:=uH;refine(eY g s b c 44 _ m.out.rd wX Z uH).mono ?_;rintro e w9 ⟨rfl,af,rq⟩;have NY:=za (m.out.eL rq af);have c9:=NY.out.rd.cells.2.1;clear af rq;go_wp2;go_roundw
    case rel=>exact⟨b+1,c,acc++ [y],l,_,by omega,za (Ec.out.more wX uH (by simp)),Lr,by omega,by simp;omega,by omega,NY⟩
    case measure=>
     rw[c1,c9];simp only[PL];omega
   refine(gu g s b c 44 _ m.out.rd Ru Z (fun j i=>uH ⟨j,i⟩)).mono ?_;rintro e w9 ⟨rfl,n9,ae⟩;have NY:Hid (po w g s b c (acc++ [y]) (l) (.slice (some (g',0)) n' an) w9):=za (by rw[ae];exact m.out.below bO);clear ae;obtain⟨N,G,W,I,J,U,Y,M⟩:=aU NY.out.res;obtain⟨r,E,u,B,C,z,x,D⟩:=aU NY.out.bx;go_wp2;obtain⟨X,H,R,K,S,O⟩:=NY.out.ends (.int .i64 0) (.int .i64 0) (.slice none 0 0) (.int .i64 0);refine zl (v:= .tuple #[.agg #[(0:Int),(0:Int),nS,(0:Int)],false]) (by simp[results,xC,go_sem,R,K,S,O]) rfl ?_;exact⟨.mk 0 0 [] 0,false,b,c,_,_,_,_,_,_,rfl,X,H,by omega,Dd _ (B3 Ec.out (by simp) (fun j i=>F ⟨j,i⟩) (fun j i=>uH ⟨j,i⟩)) Ru,(by intro h;cases h)⟩
theorem Qe (f d:Nat)(hd:d<=8)(r:Hid (∀(g:Nat) (s:ByteArray) (p L:Nat) (w:World),jt w g s p L->p<=s.size->s.size<=100000->L<=64->
 Calls prog 123 #[(g,0),.int .i64 ((d:Int)+1)] w fun e w'=>kh w g s f L p e w')) (g:Nat) (s:ByteArray) (p L:Nat) (w:World) (h:jt w g s p L) (E:p<s.size) (H:s.size<=100000) (hL:0<L) (NU:L<=64) (U:s[p].toNat=123):
 Calls prog 123 #[(g,0),d] w fun e w'=>kh w g s (f+1) L p e w':=by
 have l:=za (Qa (f:=f) E U);have c:=za (sV.start h);generalize hW:((w.alloc (.cells #[(g,0)] 176)).alloc (.cells #[(0:Int),(0:Int),nS,(0:Int)] 70))=W at*;obtain⟨g0,g1,g2,f0,f1,f2,ks⟩:=c.out.rd.cells;have b0:W.cell? (w.heap.size,0)=some (.pointer (some (g,0))):=c.out.box.cell 0;have Z:decide ((8:Int)<(d:Int))=false:=zv (by omega);have dL:((L:Int)==0)=false:=zp.2 (by omega);have Y:((p:Int)==(s.size:Int))=false:=zp.2 (by omega);have X:IntKind.i64.wrap ((L:Int)-1)=(L:Int)-1:=zZ _ (by omega);clear h;go_enter xP,xJ
 go_wp2_with fail
 go_quiet (fail)
 obtain⟨j,rfl⟩:∃j,j=nq:=⟨nq,rfl⟩
 go_wp2_with fail
 go_quiet (fail)
 have C:=za (c.out.step ((L:Int)-1) ((p:Int)+1) j nq (L':=L-1) (p':=p+1) (by omega) (by omega));have m:=za (IZ f d hd r g s (p+1) (L-1) _ _ C.out.rd l (by omega) H (by omega));clear r l;go_wp2_with fail
 refine m.out.mono ?_;rintro e D ⟨t,ok,q,G,k,z,i,A,n,cap,rfl,y,o,aa,x,B⟩;have u:=za (C.out.eL o y);have K:=za x;have M:Hid (ok=true->fX D (w.heap.size+2<= ·) t k z (.slice A n cap) i):=za (fun h=>(B h).ef (fun k _ b=>by simp[World.setCell]at b;have:=c.out.siz;omega));clear y o x B m;obtain⟨n0,n1,n2,n3,m0,m1,m2,m3⟩:=aU u.out.res;go_wp2;obtain⟨O,F,J,S,R,I⟩:=u.out.ends k z (.slice A n cap) i;refine zl (v:= .tuple #[.agg #[k,z,.slice A n cap,i],ok]) (by simp[results,yu,go_sem,J,S,R,I]) rfl ?_;refine⟨t,ok,q,G,_,_,_,_,_,_,rfl,O,F,by omega, ?_,fun N=>(M.out N).only (L:= [w.heap.size+1]) (((((ae.refl _ D).setCell (by simp) _).setCell (by simp) _).setCell (by simp) _).setCell (by simp) _) (by simp) (fun k _ b=>by have b:w.heap.size+2<=k:=b;show w.heap.size<=k;omega)⟩;have:=acg K.out;rwa [show 1+(L-1)=L from by omega]at this
theorem FL (t:Ty):0<t.count:=by
 cases t with
 |mk k s l ta=>simp only[Ty.count];omega
theorem Qf (f d:Nat)(hd:d=9)(k:f=0)(g:Nat)(s:ByteArray)(p L:Nat)(w:World)(h:jt w g s p L)(j:p<=s.size)(A:s.size<=100000)(C:L<=64)(y:True):
 Calls prog 123 #[(g,0),d] w fun e w'=>kh w g s f L p e w':=by
 have c:=za (sV.start h);generalize z:((w.alloc (.cells #[(g,0)] 176)).alloc (.cells #[(0:Int),(0:Int),nS,(0:Int)] 70))=W at*;obtain⟨g0,g1,g2,f0,f1,f2,E⟩:=c.out.rd.cells;clear h;go_enter xP,xJ
 go_wp2_with fail
 go_quiet (fail)
 obtain⟨b,rfl⟩:∃b,b=nq:=⟨nq,rfl⟩
 have m:Hid (sV w g s p L (W.drewN b)):=za (c.out.below bO);obtain⟨B,n1,n2,D,m0,m1,m2,m3⟩:=aU c.out.res;go_wp2;obtain⟨q,l,o,x,u,n⟩:=m.out.ends (0:Int) (0:Int) nS (0:Int);refine zl (v:= .tuple #[.agg #[(0:Int),(0:Int),nS,(0:Int)],false]) (by simp[results,yu,go_sem,o,x,u,n]) rfl ?_;exact⟨.mk 0 0 [] 0,false,p,L,_,_,_,_,_,_,rfl,q,l,zd _,⟨(by intro h;cases h),(by intro _ F r i;subst k;cases i),j⟩,(by intro h;cases h)⟩
theorem Qg (f d:Nat)(hd:d<=8)(g:Nat)(s:ByteArray)(p L:Nat)(w:World)(h:jt w g s p L)(i:p<=s.size)(D:s.size<=100000)(F:L<=64)(B:L=0):
 Calls prog 123 #[(g,0),d] w fun e w'=>kh w g s f L p e w':=by
 have x:decide ((8:Int)<(d:Int))=false:=zv (by omega);have y:((L:Int)==0)=true:=yO.2 (by omega);have b:=za (sV.start h);generalize C:((w.alloc (.cells #[(g,0)] 176)).alloc (.cells #[(0:Int),(0:Int),nS,(0:Int)] 70))=W at*;obtain⟨g0,g1,g2,f0,f1,f2,H⟩:=b.out.rd.cells;have z:W.cell? (w.heap.size,0)=some (.pointer (some (g,0))):=b.out.box.cell 0;clear h;go_enter xP,xJ
 go_wp2_with fail
 go_quiet (fail)
 obtain⟨c,rfl⟩:∃c,c=nq:=⟨nq,rfl⟩
 have k:Hid (sV w g s p L (W.drewN c)):=za (b.out.below bO);obtain⟨E,n1,n2,G,m0,m1,m2,m3⟩:=aU b.out.res;go_wp2;obtain⟨n,j,m,q,o,l⟩:=k.out.ends (0:Int) (0:Int) nS (0:Int);refine zl (v:= .tuple #[.agg #[(0:Int),(0:Int),nS,(0:Int)],false]) (by simp[results,yu,go_sem,m,q,o,l]) rfl ?_;exact⟨.mk 0 0 [] 0,false,p,L,_,_,_,_,_,_,rfl,n,j,zd _,⟨(by intro h;cases h),(by intro _ u r A;right;have:=FL u;omega),i⟩,(by intro h;cases h)⟩
theorem Qh (f d:Nat)(hd:d<=8)(g:Nat)(s:ByteArray)(p L:Nat)(w:World)(h:jt w g s p L)(j:p<=s.size)(E:s.size<=100000)(G:L<=64)(C:0<L)(n:s.size<=p):
 Calls prog 123 #[(g,0),d] w fun e w'=>kh w g s f L p e w':=by
 have z:decide ((8:Int)<(d:Int))=false:=zv (by omega);have A:((L:Int)==0)=false:=zp.2 (by omega);have y:((p:Int)==(s.size:Int))=true:=yO.2 (by omega);have b:=za (sV.start h);generalize D:((w.alloc (.cells #[(g,0)] 176)).alloc (.cells #[(0:Int),(0:Int),nS,(0:Int)] 70))=W at*;obtain⟨g0,g1,g2,f0,f1,f2,I⟩:=b.out.rd.cells;have B:W.cell? (w.heap.size,0)=some (.pointer (some (g,0))):=b.out.box.cell 0;clear h;go_enter xP,xJ
 go_wp2_with fail
 go_quiet (fail)
 obtain⟨c,rfl⟩:∃c,c=nq:=⟨nq,rfl⟩
 have l:Hid (sV w g s p L (W.drewN c)):=za (b.out.below bO);obtain⟨F,n1,n2,H,m0,m1,m2,m3⟩:=aU b.out.res;go_wp2;obtain⟨q,k,o,x,u,m⟩:=l.out.ends (0:Int) (0:Int) nS (0:Int);refine zl (v:= .tuple #[.agg #[(0:Int),(0:Int),nS,(0:Int)],false]) (by simp[results,yu,go_sem,o,x,u,m]) rfl ?_;exact⟨.mk 0 0 [] 0,false,p,L,_,_,_,_,_,_,rfl,q,k,zd _,⟨(by intro h;cases h),(by intro _ J r i;rw[B0 f n]at i;cases i),j⟩,(by intro h;cases h)⟩
theorem FM :∀(f d:Nat),f+d=9->∀(g:Nat) (s:ByteArray) (p L:Nat) (w:World),jt w g s p L->p<=s.size->s.size<=100000->L<=64->
 Calls prog 123 #[(g,0),d] w fun e w'=>kh w g s f L p e w'
 |0,d,hfd,g,s,p,L,w,h,j,c,b=>Qf 0 d (by omega) rfl g s p L w h j c b trivial
 |f+1,d,hfd,g,s,p,L,w,h,j,c,b=>by
  have q:Hid (∀(g:Nat) (s:ByteArray) (p L:Nat) (w:World),jt w g s p L->p<=s.size->s.size<=100000->L<=64->
   Calls prog 123 #[(g,0),.int .i64 ((d:Int)+1)] w fun e w'=>kh w g s f L p e w'):=za (fun g s p L w h j c b=>by
   have:=FM f (d+1) (by omega) g s p L w h j c b;rwa [show(((d+1:Nat)):Int)=(d:Int)+1 from by omega]at this)
  have hd:d<=8:=by omega
  by_cases u:L=0
  ·exact Qg (f+1) d hd g s p L w h j c b u
  by_cases x:s.size<=p
  ·exact Qh (f+1) d hd g s p L w h j c b (by omega) x
  have k:p<s.size:=by omega
  have i:0<L:=by omega
  by_cases o:s[p].toNat=117
  ·exact PY f d hd g s p L w h k c i b o
  by_cases l:s[p].toNat=98
  ·exact PU f d hd g s p L w h k c i b l
  by_cases m:s[p].toNat=115
  ·exact PV f d hd g s p L w h k c i b m
  by_cases r:s[p].toNat=91
  ·exact Qd f d hd q g s p L w h k c i b r
  by_cases n:s[p].toNat=123
  ·exact Qe f d hd q g s p L w h k c i b n
  exact MQ f d hd g s p L w h k c i b o l m r n
open Go Go.RowKit
section
variable {P:Program} {ops:Array Oper} {C:World->Prop} {Q:Act->Prop} {o:Oper} {rest:List Oper} {a:Act}
theorem s5 (v:Value)(b:Region.wanted o (yielded ops a.tmps)=true)(h:∀w,C w->o.quietAt P a C w v)(c:wpQuiet P ops C Q rest (a.put o.dst v)):wpQuiet P ops C Q (o::rest) a:=by
 unfold wpQuiet;rw[zj b];exact⟨v,h,c⟩
theorem aE (v:Value)(b:Region.wanted o (yielded ops a.tmps)=true)(h:∀w,C w->(execOp a.eval o).run P w= .ok (.value v) w)(d:wpQuiet P ops C Q rest (a.put o.dst v)):wpQuiet P ops C Q (o::rest) a:=
 s5 v b (fun w c=>by unfold Oper.quietAt;rw[h w c];exact⟨rfl,rfl⟩) d
theorem eI {W:World}(f:FuncId)(args:Array Value)(v:Value)(j:Region.wanted o (yielded ops a.tmps)=true)(d:∀w,(execOp a.eval o).run P w= .ok (.enter f args) w)
 (i:∀w,Below W.heap.size W w->Calls P f args w fun e w'=>e= .returned v/\Below w.heap.size w w') (h:wpQuiet P ops (fun w'=>Below W.heap.size W w') Q rest (a.put o.dst v)):wpQuiet P ops (fun w'=>Below W.heap.size W w') Q (o::rest) a:=
 s5 v j (fun w b=>by
  unfold Oper.quietAt;rw[d w];exact⟨rfl,(i w b).mono fun e w' ⟨k,c⟩=>⟨k,b.trans (c.mono b.size)⟩⟩) h
theorem iV {Q:Exit->Act->World->Prop}{a:Act}{l:List Oper}(b:P.follows .mixedOrders=true)(c:Region.lexB .any l.toArray=true)
 (h:wpQuiet P l.toArray (fun w'=>Below w.heap.size w w') (fun d=>∀w',Below w.heap.size w w'->Q .normal d w') l a):(Code.region id l.toArray true).wp P Q a w:=
 wp_region_quiet (C:=fun w'=>Below w.heap.size w w') b c (zm _ _).drew (by simpa using h)
theorem nz {Q:Exit->Act->World->Prop}{a:Act}{l:List Oper}(n:Nat)(q:P.follows .mixedOrders=true)(o:Region.lexTailB .any l.toArray n=true)
 (h:wpQuiet P l.toArray (fun w'=>Below w.heap.size w w') (fun c=>∀w',Below w.heap.size w w'->wpList P l.toArray Q (l.drop n) c w') (l.take n) a):(Code.region id l.toArray true).wp P Q a w:=by
 simp only[Region.lexTailB,zy,zY]at o;obtain⟨⟨⟨⟨z,k⟩,r⟩,A⟩,x⟩:=o;have C:n<l.length:=by simpa using k
 have b:(l.take n).length=n:=by simp;omega
 have d:(l.drop n).length=l.toArray.size-n:=by simp
 have u:HeadInv .any l.toArray n (Array.replicate l.toArray.size false):=
  ⟨by simp,fun j B _ m=>(by rw[yB]at m;cases m),fun t _ p=>getD_in (by simpa using p) (yB _ _)⟩
 have H:=nn (md:= .any) (g:=l.toArray.size-n) z r A k (l.take n) 0 _ a (fun j i=>by
  have y:j<n:=by rw[b]at i;exact i
  simp[y]) (by simpa using b) u (by rw[b];exact x) h
 refine wp_region_any q ?_;have:=jJ (Q':=Q) (g:=l.toArray.size-n) (fun listed c w' s e=>by
  have:=wpAny_of_seq (md:= .any) (Q':=Q) (l.drop n) n listed c w' (fun j=>by simp[xa]) (by rw[d];exact e.1) (e.2 w' s);rwa [d]at this) _ _ _ _ ((zm _ _).drew) H
 rw[b,show n+(l.toArray.size-n)=l.toArray.size by omega]at this;exact this
end
