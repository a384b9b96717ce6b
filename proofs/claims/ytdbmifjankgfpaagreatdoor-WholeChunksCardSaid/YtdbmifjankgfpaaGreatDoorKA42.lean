/- What stands behind a boxed config, for the theorems of a session. -/
import Derived.Test.YtdbmifjankgfpaaGreatDoorKA38
import Derived.Test.YtdbmifjankgfpaaGreatDoorKA43
import Derived.Test.YtdbmifjankgfpaaGreatDoorKA44
import Derived.Test.YtdbmifjankgfpaaGreatDoorKA45
set_option linter.all false
set_option maxRecDepth 100000
set_option maxHeartbeats 16000000
open Go.Proofs.Tryz
namespace Go.Proofs.YtdbmifjankgfpaaGreatDoor
open Go.RowKit
structure WhV (w V:World)(c:aN)(l:List bC)(v:Value):Prop where
 en:po V w.heap.size v l
 laid:Laid V/\ba V
 siz:w.heap.size+1<=V.heap.size
 bel:Below w.heap.size w V
 cf:af V w.heap.size 24 #[.int .i64 c.fm,.int .u32 c.mg,.int .i64 c.fr,.int .i64 c.un,.int .i64 c.de,.int .i64 c.it]
theorem WhV.mk' {w W V:World}{c:aN}{l:List bC}{v:Value}(d:w.alloc (.cells #[.int .i64 c.fm,.int .u32 c.mg,.int .i64 c.fr,.int .i64 c.un,.int .i64 c.de,.int .i64 c.it] 24)=W)
 (m:po w w.heap.size v l) (i:Laid w) (h:ba w) (e:Below (w.heap.size+1) W V):WhV w V c l v:=by
 have hz:W.heap.size=w.heap.size+1:=by rw[<-d];simp
 have j:Below w.heap.size w W:=by rw[<-d];exact(zl _ w).alloc (zd _) _
 have k:af W w.heap.size 24 #[.int .i64 c.fm,.int .u32 c.mg,.int .i64 c.fr,.int .i64 c.un,.int .i64 c.de,.int .i64 c.it]:=by rw[<-d];exact af.new w _ _
 have b:Below w.heap.size w V:=j.trans (e.mono (by omega));exact⟨m.below b,⟨i.below b i.pos,h.below b h.pos⟩,by have:=e.size;omega,b,k.ag e (by omega)⟩
structure eS (S:Nat->Prop)(w w':World):Prop where
 os:w'.os=w.os
 tape:w'.tape=w.tape
 output:w'.output=w.output
 size:w.heap.size<=w'.heap.size
 block:∀k,k<w.heap.size->¬S k->w'.heap[k]?=w.heap[k]?
theorem eS.of {S:Nat->Prop}{L:List Nat}{w w':World}(h:ae L w w')(c:∀k∈L,S k):eS S w w':=⟨h.os,h.tape,h.output,h.size,fun k e b=>h.block k e fun d=>b (c k d)⟩
theorem eS.trans {S:Nat->Prop}{a b c:World}(h:eS S a b)(k:eS S b c):eS S a c:=⟨k.os.trans h.os,k.tape.trans h.tape,k.output.trans h.output,zF h.size k.size,fun i hi d=>(k.block i (zT hi h.size) d).trans (h.block i hi d)⟩
theorem eS.below {S:Nat->Prop}{w w':World}(h:eS S w w'){B:Nat}(c:B<=w.heap.size)(hS:∀k,S k->B<=k):Below B w w':=⟨h.os,h.tape,h.output,h.size,fun k d=>h.block k (by omega) fun b=>by have:=hS k b;omega⟩
structure Lw (w:World)(lo hi g lo3:Nat)(bv av:Value)(c:aN)(l:List bC)(x:eU)(aO:Nat)(acc:List Ms):Prop where
 s:dJ w lo hi g bv c l x aO
 a:cd w (fun i=>lo3<=i/\bv.ownBlock≠some i) lo3 acc av
 lo:lo3<=w.heap.size
 g3:g<lo3
 ob:∀k,bv.ownBlock=some k->lo3<=k
theorem Lw.new {w:World}{lo hi g:Nat}{c:aN}{l:List bC}{x:eU}{b:Nat}(h:dJ w lo hi g (.slice none 0 0) c l x b):Lw w lo hi g w.heap.size (.slice none 0 0) (.slice none 0 0) c l x b []:=
 ⟨h,cd.nil _ _ _,zd _,h.lt,fun k e=>by cases e⟩
structure FdM (wr w:World)(lo hi g lo3:Nat)(bv av rv:Value)(c:aN)(l:List bC)(x:eU)(aO:Nat)(acc fs:List Ms):Prop where
 s:dJ w lo hi g bv c l x aO
 a:cd w (fun i=>lo3<=i/\bv.ownBlock≠some i) lo3 acc av
 r:cd w (fun i=>wr.heap.size<=i/\bv.ownBlock≠some i) wr.heap.size fs rv
 lr:lo3<=wr.heap.size
 g3:g<lo3
 ob:∀k,bv.ownBlock=some k->lo3<=k
 kp:eS (fun k=>lo3<=k\/k=g) wr w
 sep:∀k,av.ownBlock=some k->¬(wr.heap.size<=k/\bv.ownBlock≠some k)
theorem Lw.mX {wr w:World}{lo hi g lo3:Nat}{d b n rv:Value}{c:aN}{l:List bC}{x y:eU}{m:Nat}{acc q:List Ms}(h:Lw wr lo hi g lo3 d n c l x m acc)
 (u:cd w (fun j=>wr.heap.size<=j/\b.ownBlock≠some j) wr.heap.size q rv) (A:dJ w lo hi g b c l y m) (r:ae (mH g d) wr w) (p:∀k,b.ownBlock=some k->d.ownBlock=some k\/wr.heap.size<=k):
 FdM wr w lo hi g lo3 b n rv c l y m acc q:=by
 have s:=h.lo;have D:∀i,n.ownBlock=some i->i∉mH g d:=fun i e B=>by
  obtain⟨t1,t2,G,t3⟩:=h.a.typed i e;have C:=h.g3;rcases iR.1 B with e1|e1
  ·omega
  exact h.s.buf.dD t3 (by decide) e1
 have z:=h.a.fe (S1:=fun i=>(lo3<=i/\d.ownBlock≠some i)/\b.ownBlock≠some i) (fun i hi hS=>⟨hS,fun e=>by
  rcases p i e with h|h
  ·exact hS.2 h
  omega⟩) (zd lo3)
 have E:=z.only r (fun i hi hS=>by
  have C:=h.g3;rcases iR.1 hi with e|e
  ·have:=hS.1.1;omega
  exact hS.1.2 e) (fun i hi e=>D i e hi)
 refine⟨A,E.fe (fun i _ hS=>⟨hS.1.1,hS.2⟩) (zd lo3),u,s,h.g3,fun k e=> ?_,eS.of r fun k F=> ?_,fun k e=> ?_⟩
 ·rcases p k e with o|o
  ·exact h.ob k o
  omega
 ·rcases iR.1 F with e|e
  ·exact .inr e
  exact .inl (h.ob k e)
 have:=(h.a.ge k e).2;intro o;omega
theorem FdM.app {wr w w':World}{lo hi g lo3:Nat}{b j rv n:Value}{c:aN}{l:List bC}{x:eU}{o:Nat}{acc m:List Ms}(h:FdM wr w lo hi g lo3 b j rv c l x o acc m)
 (r:cd w' (fun i=>lo3<=i/\b.ownBlock≠some i) lo3 (acc++m) n) (e:w.grownBy w' j.ownBlock):Lw w' lo hi g lo3 b n c l x o (acc++m)/\eS (fun k=>lo3<=k\/k=g) wr w':=by
 have q:=h.g3;have d:∀i,i∈j.ownBlock.toList->lo3<=i/\b.ownBlock≠some i:=fun i hi=>by
  obtain⟨t1,t2,z,t3⟩:=h.a.typed i (cy.1 hi);exact⟨t1,h.s.buf.dD t3 (by decide)⟩
 have s:=e.size;have u:=h.kp.size;have y:=h.lr;have A:=h.s.Ho;refine⟨⟨h.s.only (ae.dR e) (fun i hi=>by have:=d i hi;exact⟨by omega,by omega,(d i hi).2⟩),r,by omega,q,h.ob⟩,h.kp.trans (eS.of (ae.dR e) fun k p=> .inl (d k p).1)⟩
theorem Lw.low {w w':World}{lo hi g lo3:Nat}{n m:Value}{c:aN}{l:List bC}{x:eU}{j:Nat}{acc:List Ms}{L:List Nat}(h:Lw w lo hi g lo3 n m c l x j acc)(i:ae L w w')(d:∀k∈L,k<lo):Lw w' lo hi g lo3 n m c l x j acc:=by
 have p:=h.s.lohi;have o:=h.s.Ho;have q:=h.g3;exact⟨h.s.only i (fun k b=>by have:=d k b;exact⟨by omega,by omega,fun e=>by have:=h.ob k e;omega⟩),h.a.only i (fun k b hS=>by have:=d k b;omega) (fun k b e=>by have:=d k b;have:=(h.a.ge k e).1;omega),zF h.lo i.size,h.g3,h.ob⟩
theorem Lw.below {w w':World}{lo hi g lo3:Nat}{d b:Value}{c:aN}{l:List bC}{x:eU}{e:Nat}{acc:List Ms}(h:Lw w lo hi g lo3 d b c l x e acc)(i:Below w.heap.size w w'):Lw w' lo hi g lo3 d b c l x e acc:=h.low (ae.ah i (zd _)) (by simp)
def uA {α:Type}(f:Nat->α)(i:Nat)(a:α):Nat->α:=fun j=>if j=i then a else f j
theorem wW {b:Type}(f:Nat->b)(i:Nat)(a:b):uA f i a i=a:=by simp[uA]
theorem sr {b:Type}(f:Nat->b){i j:Nat}(a:b)(h:j≠i):uA f i a j=f j:=by simp[uA,h]
def wX (T:Nat->Value):Array Value:= #[T 0,T 1]
theorem kP {w:World}{g:Nat}{t:TypeId}{T:Nat->Value}(h:af w g t (wX T)){i:Nat}(hi:i<2):w.cell? ⟨g,i,none⟩=some (T i)/\w.frozen? ⟨g,i,none⟩=false:=by
 rcases(by omega:i=0\/i=1)with rfl|rfl
 ·exact⟨h.cell 0,h.frozen 0⟩
 exact⟨h.cell 1,h.frozen 1⟩
theorem DQ {w:World}{g:Nat}{t:TypeId}{T:Nat->Value}(h:af w g t (wX T)){i:Nat}(hi:i<2)(v:Value):af (w.setCell ⟨g,i,none⟩ v) g t (wX (uA T i v)):=by
 rcases(by omega:i=0\/i=1)with rfl|rfl
 ·exact h.store rfl
 exact h.store rfl
structure VL (w:World)(tb:Nat)(c:aN)(l:List bC)(b:ByteArray)(i:Nat)(T:Nat->Value)(X:Nat->eU)(M:Nat->List Ms):Prop where
 t:af w tb 58 (wX T)
 f:af w (tb+1) 59 (wX fun j=> .int .i64 (X j).fault)
 s:af w (tb+1+1) 60 (wX fun j=> .string (X j).buf)
 a:∀j,j<2->cd w (fun k=>tb+3<=k) (tb+3) (M j) (T j)
 done:∀j,j<i->jq (aL c l) (X j) b (M j)
 fresh:∀j,i<=j->T j= .slice none 0 0/\M j= []
theorem VL.below {w w':World}{e:Nat}{c:aN}{l:List bC}{b:ByteArray}{i:Nat}{T:Nat->Value}{X:Nat->eU}{M:Nat->List Ms}(h:VL w e c l b i T X M)(d:Below w.heap.size w w'):VL w' e c l b i T X M:=
 ⟨h.t.ag d h.t.lt,h.f.ag d h.f.lt,h.s.ag d h.s.lt,fun j k=>(h.a j k).below d,h.done,h.fresh⟩
theorem VL.next {w n:World}{d:Nat}{c:aN}{l:List bC}{b:ByteArray}{i:Nat}{T:Nat->Value}{X:Nat->eU}{M:Nat->List Ms}(h:VL w d c l b i T X M)(hi:i<2){lo hi' g lo3:Nat}{D y:Value}{x:eU}{acc:List Ms}{S:Nat->Prop}
 (L:w.heap.size<=lo) (N:lo<=g) (A:Lw n lo hi' g lo3 D y c l x 0 acc) (o:eS S w n) (hS:∀k,S k->w.heap.size<=k\/k=d) (H:af n d 58 (wX (uA T i y))) (hx:jq (aL c l) x b acc) {s:World}
 (u:s=(n.setCell ⟨d+1,i,none⟩ (.int .i64 x.fault)).setCell ⟨d+1+1,i,none⟩ (.string x.buf)):VL s d c l b (i+1) (uA T i y) (uA X i x) (uA M i acc)/\eS (fun k=>S k\/k=d+1\/k=d+1+1) w s:=by
 have E:=h.f.lt;have K:=h.s.lt;have hF:af n (d+1) 59 (wX fun j=> .int .i64 (X j).fault):=(o.block _ E (fun q=>by have:=hS _ q;omega)).trans h.f;have J:af n (d+1+1) 60 (wX fun j=> .string (X j).buf):=(o.block _ K (fun q=>by have:=hS _ q;omega)).trans h.s;have r:ae [d+1,d+1+1] n s:=by rw[u];exact((ae.refl _ _).setCell (.inl (by simp)) _).setCell (.inl (by simp)) _
 have I:wX (uA (fun j=>Value.int .i64 (X j).fault) i (.int .i64 x.fault))=wX fun j=> .int .i64 (uA X i x j).fault:=by
  rcases(by omega:i=0\/i=1)with rfl|rfl<;>simp[wX,uA]
 have F:wX (uA (fun j=>Value.string (X j).buf) i (.string x.buf))=wX fun j=> .string (uA X i x j).buf:=by
  rcases(by omega:i=0\/i=1)with rfl|rfl<;>simp[wX,uA]
 have O:=A.g3;refine⟨⟨H.only r (by simp;omega), ?_, ?_,fun j z=> ?_,fun j z=> ?_,fun j z=> ?_⟩, ?_⟩
 ·have:=DQ hF hi (.int .i64 x.fault);rw[I]at this;rw[u];exact af.beside (by simp) this _
 ·have:=DQ ((af.beside (p:=⟨d+1,i,none⟩) (by simp) J (.int .i64 x.fault))) hi (.string x.buf);rw[F]at this;rw[u];exact this
 ·by_cases e:j=i
  ·subst e;rw[wW,wW];exact((A.a.fe (S1:=fun k=>d+3<=k) (fun k _ m=>by have:=m.1;omega) (by omega)).only r (by simp<;>omega) (by
    intro k m e;have:=(A.a.ge k e).1;simp at m;omega))
  rw[sr _ _ e,sr _ _ e];have B:=h.a j z;have C:cd n (fun k=>d+3<=k/\k<w.heap.size) (d+3) (M j) (T j):=(B.fe (S1:=fun k=>d+3<=k/\k<w.heap.size) (fun k m hS=>⟨hS,m⟩) (zd _)).ag (fun k m hd=>o.block k m (fun q=>by
   rcases hS k q with h2|h2
   ·omega
   rcases hd with hd|hd
   ·omega
   have:=(B.ge k hd).1;omega))
  exact(C.only r (by simp<;>omega) (by
   intro k m e;have:=(C.ge k e).1;simp at m;omega)).fe (fun k _ m=>m.1) (zd _)
 ·by_cases e:j=i
  ·subst e;rw[wW,wW];exact hx
  rw[sr _ _ e,sr _ _ e];exact h.done j (by omega)
 ·rw[sr _ _ (by omega),sr _ _ (by omega)];exact h.fresh j (by omega)
 refine(⟨o.os,o.tape,o.output,o.size,fun k m G=>o.block k m (fun h=>G (.inl h))⟩:eS _ w n).trans (eS.of r fun k m=> ?_);simp at m;exact .inr m
theorem Bl (c:aN)(l:List bC)(v:Value)(b:ByteArray)(O Y:List Nat)(va vb:Value)(w:World)(hc:c.ok)(hv:po w w.heap.size v l)(hid:∀e∈l,e.id<18446744073709551616)(CH:b.size<=9223372036854775807)
 (ag:Cz w w.heap.size va O) (aJ:∀k∈O,k<256) (ax:Cz w w.heap.size vb Y) (aO:∀k∈Y,k<256) (hL:Laid w) (ic:ba w):
 Calls prog 4 #[c.val,v,.string b,va,vb] w fun e w'=>e= .returned (.bool true)/\Below w.heap.size w w':=by
 obtain⟨Av,n,cap,rfl,hn,UJ,mR⟩:=hv.bT;obtain⟨Aa,na,a6,rfl,az,bz,bM⟩:=ag.bT;obtain⟨Ab,nb,aQ,rfl,aM,bV,bY⟩:=ax.bT;obtain⟨W,hW⟩:∃W,w.alloc (.cells #[.int .i64 c.fm,.int .u32 c.mg,.int .i64 c.fr,.int .i64 c.un,.int .i64 c.de,.int .i64 c.it] 24)=W:=⟨_,rfl⟩
 have U1:W.heap.size=w.heap.size+1:=by rw[<-hW];simp
 have m:Hid (∀V,Below (w.heap.size+1) W V->WhV w V c l (.slice Av n cap)):=za (fun V p=>WhV.mk' hW hv hL ic p);have HA:=za (Lo W (m.out W (zl _ _)).laid.1 (m.out W (zl _ _)).laid.2);have Tj:Hid (wR w.heap.size):=za ⟨hL.pos,ic.pos⟩;have a7:Hid (∀V,Below w.heap.size w V->O.length<=300->b.size<=1500->Calls prog 15 #[.string b,.slice Aa na a6] V fun e w'=>∃q,e= .returned q/\sq w' V.heap.size q (JG b O)/\Below V.heap.size V w'):=za (fun V p N J=>Lt b O _ w.heap.size V (ag.below p) p.size aJ (by omega) (by omega));have aK:Hid (∀V,Below w.heap.size w V->Y.length<=300->b.size<=1500->Calls prog 15 #[.string b,.slice Ab nb aQ] V fun e w'=>∃q,e= .returned q/\sq w' V.heap.size q (JG b Y)/\Below V.heap.size V w'):=za (fun V p N J=>Lt b Y _ w.heap.size V (ax.below p) p.size aO (by omega) (by omega));have HW:=za hW;have HZ:=za U1;have aP:=za hid;have a':=za hc;unfold aN.val;clear hv ag ax aJ aO hL ic hW hid hc U1;go_enter func4,ntmps4
 go_wp2_with fail
 rw[HW.out];refine HA.out.mono ?_;rintro e U ⟨rfl,aH⟩;have ch:Hid (Below (w.heap.size+1) W U):=za (aH.mono (by have:=HZ.out;omega));have B:=za (NU c l _ w.heap.size U (m.out U ch.out).en (by have:=(m.out U ch.out).siz;omega) aP.out);obtain⟨rt,Ar⟩:∃rt,oB c l=rt:=⟨_,rfl⟩
 rw[Ar]at B;unfold aN.val at B;have D7:=za Ar;clear aH HA Ar;obtain⟨q0,q1,q2,q3,q4,q5⟩:=fh (m.out U ch.out).cf;have D:=(m.out U ch.out).siz;go_wp2_with fail
 refine B.out.mono ?_;rintro e d ⟨rfl,aS⟩;have du:Hid (Below (w.heap.size+1) W d):=za (ch.out.trans (aS.mono D));clear aS B q0 q1 q2 q3 q4 q5 D;cases rt with
 |false=>
  go_wp2;go_ret;exact⟨rfl,(m.out d du.out).bel⟩
 |true=>
 by_cases D6:1500<b.size
 ·have bd:(1500:Int)<(b.size:Int):=by omega
  go_wp2;go_ret;exact⟨rfl,(m.out d du.out).bel⟩
 have bd:¬(1500:Int)<(b.size:Int):=by omega
 by_cases Et:300<na
 ·have br:(300:Int)<(na:Int):=by omega
  go_wp2;go_ret;exact⟨rfl,(m.out d du.out).bel⟩
 have br:¬(300:Int)<(na:Int):=by omega
 by_cases R8:300<nb
 ·have bt:(300:Int)<(nb:Int):=by omega
  go_wp2;go_ret;exact⟨rfl,(m.out d du.out).bel⟩
 have bt:¬(300:Int)<(nb:Int):=by omega
 obtain⟨C,Wc⟩:=JE D7.out aP.out;obtain⟨hr,_,bF⟩:=Pw C;have B:=za hr;have SM:Hid (∀V,Below (w.heap.size+1) W V->Calls prog 10 #[c.val,.slice Av n cap] V fun e w'=>∃lo hi g,V.heap.size<=lo/\e= .returned (.pointer (some ⟨g,0,none⟩))/\dJ w' lo hi g (.slice none 0 0) c l eU.new 0/\Below V.heap.size V w'):=za (fun V p=>pI c l _ w.heap.size V (m.out V p).en (by have:=(m.out V p).siz;omega) (m.out V p).laid.1 Wc C);unfold aN.val at SM;have aT:Hid (∀V,Below w.heap.size w V->Calls prog 15 #[.string b,.slice Aa na a6] V fun e w'=>∃q o,e= .returned q/\sq w' V.heap.size q o/\dB o=b/\o.length<=301/\Below V.heap.size V w'):=za (fun V p=>(a7.out V p (by rw[<-az.out];omega) (by omega)).mono fun e w' ⟨q,N,J,h3⟩=>⟨q,_,N,J,GC b O,by rw[wU,<-az.out];omega,h3⟩);have aI:Hid (∀V,Below w.heap.size w V->Calls prog 15 #[.string b,.slice Ab nb aQ] V fun e w'=>∃q o,e= .returned q/\sq w' V.heap.size q o/\dB o=b/\o.length<=301/\Below V.heap.size V w'):=za (fun V p=>(aK.out V p (by rw[<-aM.out];omega) (by omega)).mono fun e w' ⟨q,N,J,h3⟩=>⟨q,_,N,J,GC b Y,by rw[wU,<-aM.out];omega,h3⟩);have Wm:Hid (b.size<=1500):=za (by omega);clear C Wc hr bF a7 aK D6 Et R8;go_wp2_with fail
 have aF:=(m.out d du.out).siz;obtain⟨W3,mN⟩:∃W3,((d.alloc (.cells #[.slice none 0 0,.slice none 0 0] 58)).alloc (.cells #[.int .i64 0,.int .i64 0] 59)).alloc (.cells #[.string ⟨#[]⟩,.string ⟨#[]⟩] 60)=W3:=⟨_,rfl⟩
 rw[mN];have aR:Hid (VL W3 d.heap.size c l b 0 (fun _=> .slice none 0 0) (fun _=>eU.new) (fun _=> [])):=za (by
  rw[<-mN];exact⟨((af.new d _ _).alloc _).alloc _,(show af _ (d.heap.size+1) _ _ from af.at_ (by simp)).alloc _,(show af _ (d.heap.size+1+1) _ _ from af.at_ (by simp)),fun j _=>cd.nil _ _ _,fun j hj=>by omega,fun j _=>⟨rfl,rfl⟩⟩)
 have jJ:Hid (Below (w.heap.size+1) W W3):=za (by rw[<-mN];exact((du.out.alloc aF _).alloc (by simp;omega) _).alloc (by simp;omega) _);clear mN;go_loopw [14] (fun iv wr=>∃(i:Nat) (T:Nat->Value) (X:Nat->eU) (M:Nat->List Ms),iv= .int .i64 i/\i<=2/\Hid (VL wr d.heap.size c l b i T X M)/\Hid (Below (w.heap.size+1) W wr)) (fun iv _=>2-(intOf iv).toNat)
 case atStart=>exact⟨0,_,_,_,rfl,by omega,aR,jJ⟩
 case round=>
  clear aR jJ;obtain⟨i,T,X,M,rfl,hi,u,A⟩:=hrel;by_cases Z:i<2
  ·have bL:(i:Int)<2:=by omega
   have a8:=SM.out wr A.out;obtain⟨q0,q1,q2,q3,q4,q5⟩:=fh (m.out wr A.out).cf;have D:=(m.out wr A.out).siz;go_wp2_with fail
   refine a8.mono ?_;rintro e R ⟨lo,hi',g,lN,rfl,LM,bR⟩;have ei:Hid (Below (w.heap.size+1) W R):=za (A.out.trans (bR.mono D));have aA:=za (u.out.below bR);have RR:=za LM;have aX:=za bR;have uC:=u.out.s.lt;have s:Hid (w.heap.size+1<=d.heap.size/\d.heap.size+1+1<wr.heap.size/\wr.heap.size<=lo/\lo<=hi'/\hi'<=g/\g<R.heap.size):=za ⟨aF,uC,lN,LM.lohi,LM.Ho,LM.lt⟩;clear bR LM a8 SM uC lN q0 q1 q2 q3 q4 q5 D;rcases(by omega:i=0\/i=1)with h01|h01;focus
    have bp:((i:Int)==1)=false:=zm.2 (by omega);have Va:=aT
   rotate_left
   focus
    have bp:((i:Int)==1)=true:=by rw[h01];rfl
    have Va:=aI
   all_goals
    clear aT aI h01;go_wp2_with fail
    refine(Va.out R (m.out R ei.out).bel).mono ?_;rintro e I ⟨q,o,rfl,ey,WI,DR,jl⟩;obtain⟨Ap,H,bc,rfl,ay,bJ,bK⟩:=ey.bT;have fT:Hid (Below (w.heap.size+1) W I):=za (ei.out.trans (jl.mono (m.out R ei.out).siz));have aa:=za (aA.out.below jl);have bm:Hid (∀S V,eS S I V->eS S wr V):=za (fun S V h=>(eS.of (L:= []) (ae.ah (aX.out.trans (jl.mono aX.out.size)) (zd _)) (by simp)).trans h);have Ez:=za (Lw.new (RR.out.below jl));obtain⟨lo3,RL⟩:∃lo3,I.heap.size=lo3:=⟨_,rfl⟩
    have CO:=jl.size;have bf:Hid (∀V,eS (fun k=>lo3<=k\/k=g\/k=d.heap.size) I V->Oq V lo3 (.slice Ap H bc) o):=za (fun V p=>by
     have hq:=ey.read;rw[RL]at hq;refine hq.ag fun k hk bO=>p.block k (by omega) ?_
     have:=(ey.ge k bO).1;have:=s.out;omega)
    have HJ:=za WI;have bx:Hid (H<=301):=za (by rw[ay.out];exact DR);rw[RL]at Ez;have G:Hid (g<lo3/\R.heap.size<=lo3):=za (by have:=s.out;omega);have aU:Hid (jq (aL c l) eU.new (dB (o.take 0)) []):=za (DP (bX c l) (Cj B.out l) o);have bq:=za (fun bv x (r:ByteArray) V (hs:dJ V lo hi' g bv c l x 0) p N J=>lH lo hi' g bv c l x 0 r V B.out a'.out hs (m.out V p).laid.1 (m.out V p).laid.2 (by have:=Tj.out.a;have:=s.out;omega) (by have:=Tj.out.b;have:=s.out;omega) N J);have D0:Hid (T i= .slice none 0 0/\M i= []):=za (u.out.fresh i (zd _));clear ey jl WI DR RL CO Va RR aA ei;go_wp2_with fail
    go_loopw [18] (fun kv wi=>∃(k:Nat) (x:eU) (bv av:Value) (acc:List Ms),kv= .int .i64 k/\k<=H/\Hid (Lw wi lo hi' g lo3 bv av c l x 0 acc)/\Hid (jq (aL c l) x (dB (o.take k)) acc)/\Hid (x.buf.size<=(dB (o.take k)).size/\x.told=acc.length/\acc.length<=(dB (o.take k)).size)/\Hid (af wi d.heap.size 58 (wX (uA T i av)))/\Hid (eS (fun k=>lo3<=k\/k=g\/k=d.heap.size) I wi)) (fun kv _=>H-(intOf kv).toNat)
    case atStart=>exact⟨0,eU.new,_,_,[],rfl,by omega,Ez,aU,za (by simp[eU.new]),za (by
     have:=aa.out.t;have e:wX (uA T i (.slice none 0 0))=wX T:=by
      have h:=D0.out.1;unfold wX uA;rcases(by omega:i=0\/i=1)with rfl|rfl<;>simp[h]
     rw[e];exact this),za (eS.of (ae.refl [] _) (by simp))⟩
    case round=>
     clear Ez aU;obtain⟨k,x,bv,av,acc,rfl,hk,E,Ve,bk,ad,K⟩:=hrel;obtain⟨A5,n5,ef,rfl,S6,U',Vb⟩:=E.out.a.bT;have bj:Hid (Below (w.heap.size+1) W wr):=za (fT.out.trans (K.out.below (m.out I fT.out).siz (fun k hk=>by have:=s.out;have:=G.out;omega)));by_cases mO:k<H
     ·have nZ:(k:Int)<H:=by omega
      have au:k<o.length:=by rw[<-ay.out];exact mO
      obtain⟨gp,op,rfl,bG,p0⟩:=(bf.out wr K.out).at_ au;have aY:=JI au;have aC:=JJ o (k+1);rw[HJ.out]at aC;have y:=GD (bX c l) Ve.out au;obtain⟨r,RQ⟩:∃r,o[k]=r:=⟨_,rfl⟩
      rw[RQ]at p0 aY y;obtain⟨s1,s2,s3⟩:=bk.out;have HF:=za (bq.out bv x r wr E.out.s bj.out (by omega) (by omega));have ao:=JD c l x r;have uD:=IF c l (dB (o.take (k+1)));have ai:=QY (aL c l) x r;have Vj:=y.told;obtain⟨aw,hY⟩:∃aw,mX (aL c l) x r=aw:=⟨_,rfl⟩
      rw[hY]at HF y ao ai Vj;clear hY RQ;obtain⟨aq,fs,er⟩:=aw;simp only at HF y ao ai Vj;have aj:=za y;have jm:Hid (aq.buf.size<=(dB (o.take (k+1))).size/\aq.told=(acc++fs).length/\(acc++fs).length<=(dB (o.take (k+1))).size):=za ⟨by omega,by rw[zj];omega,by rw[Vj];exact uD⟩;have mD:acc.length+fs.length<=1000000:=by have:=jm.out.2.2;rw[zj]at this;omega
      clear y ao ai Vj uD s1 s2 s3 aY aC;go_wp2_with fail
      refine HF.out.mono ?_;rintro e wa ⟨bN,bo,rfl,NZ,V7,an,WJ⟩;obtain⟨bB,bW,bE,rfl,bT,bD,bS⟩:=NZ.bT;have z:=za (E.out.mX NZ V7 an WJ);have bh:=an.size;have x':af wa d.heap.size 58 (wX (uA T i (.slice A5 n5 ef))):=(z.out.kp.block _ ad.out.lt (by have:=s.out;have:=G.out;omega)).trans ad.out;have Wd:=za x';obtain⟨t0,t1⟩:=kP x' Z;rw[wW]at t0;have bn:lo3<=wa.heap.size:=zF z.out.lr bh;clear NZ V7 an WJ x' HF E ad;go_wp2_with (at_builtin;refine Hid.out ?_)
      refine za ?_;refine px (by rfl) (.tmp 76) (.tmp 77) (by rfl) _ _ lo3 wr.heap.size acc fs (by rfl) z.out.a (by rfl) z.out.r (fun k h=>⟨by have:=h.1;have:=z.out.lr;omega,h.2⟩) z.out.sep mD bn ?_;intro A6 n6 dZ w8 Sz aG ah bg;obtain⟨SY,J1⟩:=z.out.app aG ah;have aV:=za SY;have Wt:=za J1;have ak:af w8 d.heap.size 58 (wX (uA T i (.slice A5 n5 ef))):=by
       refine(ah.block _ Wd.out.lt fun e=> ?_).trans Wd.out;have:=z.out.a.ge _ e.symm;have:=s.out;have:=G.out;omega
      have Te:=DQ ak Z (.slice A6 n6 dZ);have e8:uA (uA T i (.slice A5 n5 ef)) i (.slice A6 n6 dZ)=uA T i (.slice A6 n6 dZ):=by funext j;unfold uA;split<;>rfl
      rw[e8]at Te;have bl:=za Te;obtain⟨t2,t3⟩:=kP ak Z;have al:ae [d.heap.size] w8 (w8.setCell ⟨d.heap.size,i,none⟩ (.slice A6 n6 dZ)):=(ae.refl _ _).setCell (.inl (by simp)) _;have bb:=za (aV.out.low al (by simp;have:=s.out;omega));have bu:Hid (eS (fun k=>lo3<=k\/k=g\/k=d.heap.size) I (w8.setCell ⟨d.heap.size,i,none⟩ (.slice A6 n6 dZ))):=za ((K.out.trans ⟨Wt.out.os,Wt.out.tape,Wt.out.output,Wt.out.size,fun k hk hn=>Wt.out.block k hk (fun h=>hn (by omega))⟩).trans (eS.of al (by simp)));clear t0 t1 aG ah bg SY J1 ak Te e8 al z Wd aV Wt K;go_wp2;go_roundw
      case rel=>exact⟨k+1,aq,bo,_,acc++fs,by go_num,by omega,bb,aj,jm,bl,bu⟩
      case measure=>simp[intOf];omega
     obtain rfl:k=H:=by omega
     have bU:¬(k:Int)<k:=by omega
     have y:=Ve.out;rw[show o.take k=o from zy (by rw[<-ay.out];exact zd _),HJ.out]at y;have aj:=za y;have aE:af wr (d.heap.size+1) 59 (wX fun j=> .int .i64 (X j).fault):=(K.out.block _ aa.out.f.lt (by have:=s.out;have:=G.out;omega)).trans aa.out.f;have aW:af wr (d.heap.size+1+1) 60 (wX fun j=> .string (X j).buf):=(K.out.block _ aa.out.s.lt (by have:=s.out;have:=G.out;omega)).trans aa.out.s;obtain⟨u0,u1⟩:=kP aE Z;obtain⟨v0,v1⟩:=kP aW Z;have sA:ae [d.heap.size+1] wr (wr.setCell ⟨d.heap.size+1,i,none⟩ (.int .i64 x.fault)):=(ae.refl _ _).setCell (.inl (by simp)) _;have bs:=za (E.out.low sA (by simp;have:=s.out;omega));obtain⟨oC,DV⟩:=u.out.next Z (lo:=lo) (hi':=hi') (g:=g) (lo3:=lo3) (by have:=s.out;omega) (by have:=s.out;omega) E.out (bm.out _ _ K.out) (fun k hk=>by have:=s.out;have:=G.out;omega) ad.out aj.out rfl;have YK:=za oC;have bw:Hid (Below (w.heap.size+1) W ((wr.setCell ⟨d.heap.size+1,i,none⟩ (.int .i64 x.fault)).setCell ⟨d.heap.size+1+1,i,none⟩ (.string x.buf))):=za (A.out.trans (DV.below (m.out _ A.out).siz (fun k hk=>by have:=s.out;have:=G.out;omega)));clear aE aW sA y oC DV Ve;go_wp2_with fail
     refine(NW _ _ _ _ _ _ _ _ _ E.out.s).mono ?_;rintro e w' ⟨rfl,rfl⟩;go_wp2_with fail
     refine(vL _ _ _ _ _ _ _ _ _ bs.out.s).mono ?_;rintro e w' ⟨rfl,rfl⟩;go_wp2;go_roundw
     case rel=>exact⟨i+1,_,_,_,by go_num,by omega,YK,bw⟩
     case measure=>simp[intOf];omega
  obtain rfl:i=2:=by omega
  have d0:=u.out.done 0 (by omega);have d1:=u.out.done 1 (by omega);obtain⟨hm,hf,hb⟩:=d0.same d1;have a0:=u.out.a 0 (by omega);have a1:=u.out.a 1 (by omega);rw[<-hm]at a1;obtain⟨A0,n0,Bt,aZ,pW,bP,bH⟩:=a0.bT;obtain⟨A1,n1,Ai,aB,oC,bQ,bI⟩:=a1.bT;have ab:=za (GH _ _ _ _ _ _ _ wr a0 a1);have t0:=(kP u.out.t (i:=0) (by omega)).1;have t1:=(kP u.out.t (i:=1) (by omega)).1;rw[aZ]at ab t0;rw[aB]at ab t1;have ar:Hid (∀V,Below wr.heap.size wr V->V.cell? ⟨d.heap.size+1,0,none⟩=some (.int .i64 (X 0).fault)/\V.cell? ⟨d.heap.size+1,1,none⟩=some (.int .i64 (X 0).fault)/\V.cell? ⟨d.heap.size+1+1,0,none⟩=some (.string (X 0).buf)/\V.cell? ⟨d.heap.size+1+1,1,none⟩=some (.string (X 1).buf)):=za (fun V p=>by
   have h:=u.out.below p;refine⟨(kP h.f (i:=0) (by omega)).1, ?_,(kP h.s (i:=0) (by omega)).1,(kP h.s (i:=1) (by omega)).1⟩;rw[hf];exact(kP h.f (i:=1) (by omega)).1)
  have HB:=za hb;obtain⟨F,hF⟩:∃F,(X 0).fault=F:=⟨_,rfl⟩
  rw[hF]at ar HB;obtain⟨B0,Am⟩:∃B0,(X 0).buf=B0:=⟨_,rfl⟩
  obtain⟨B1,pN⟩:∃B1,(X 1).buf=B1:=⟨_,rfl⟩
  rw[Am,pN]at ar HB;have D:=(m.out wr A.out).siz;clear hm hf hb a0 a1 d0 d1 aZ aB pW oC hF Am pN u;go_wp2_with fail
  refine ab.out.mono ?_;rintro e w6 ⟨rfl,oH⟩;obtain⟨x0,x1,x2,x3⟩:=ar.out w6 oH;have sD:Hid (Below (w.heap.size+1) W w6):=za (A.out.trans (oH.mono D));have bA:(F==F)=true:=beq_self_eq_true F;clear oH ab t0 t1;rcases eT F with⟨C,z1,z2⟩|⟨C,z1,z2⟩
  ·have eW:=HB.out C;subst C;subst eW;go_wp2;go_ret;exact⟨rfl,(m.out w6 sD.out).bel⟩
  go_wp2;go_ret;exact⟨rfl,(m.out w6 sD.out).bel⟩
open Go.ChangeShapes Go.WideShapes Go.ChangeAt Go.RowKit
structure wY (e:bC):Prop where
 id:e.id<18446744073709551616
 name:e.name.size<=9223372036854775807
 ty:e.ty.size<=9223372036854775807
theorem o8 :prog.cellsOf 48=3:=by kernel_rfl
theorem Q7 {H:Type}{enc:TypeId×Value->H}{w:World}{base:Nat}{spare:Nat->Bool}{held:Bool}(r:Nat)(i:List Value)(x:DataW H×List MemPlace)(h:DataW.trod enc prog w base spare held r 48 i=some x):
 ∃f:bC,i= [.int .u64 f.id,.string f.name,.string f.ty]/\wY f:=by
 obtain⟨xs,n,rfl,_,j,q,e⟩:=DataW.trod_struct underlying48 h;rw[o8]at j;match i,j with
 | [c0,c1,c2],_=>
  have b:DataW.trod enc prog w base spare held n 46 ((([c0,c1,c2]:List Value).drop 0).take (prog.cellsOf 46))=xs[0]?:=e 0 _ rfl;have d:DataW.trod enc prog w base spare held n 9 ((([c0,c1,c2]:List Value).drop 1).take (prog.cellsOf 9))=xs[1]?:=e 1 _ rfl;have c:DataW.trod enc prog w base spare held n 9 ((([c0,c1,c2]:List Value).drop 2).take (prog.cellsOf 9))=xs[2]?:=e 2 _ rfl;have s:xs.length=3:=q;rw[zA (by omega)]at b d c;rw[Dh]at b;rw[Di]at d c;simp only[zK,zP,yz,yg]at b d c;obtain⟨i0,l,_,g0⟩:=xK Z2 b;obtain⟨t1,o,_,g1⟩:=DataW.trod_string zG d;obtain⟨t2,m,_,g2⟩:=DataW.trod_string zG c;simp at l o m;subst l;subst o;subst m;obtain⟨k,rfl,p⟩:=wf_u64 g0;exact⟨⟨k,t1,t2⟩,rfl,p,by simpa[maxLen]using g1,by simpa[maxLen]using g2⟩
theorem NX {H:Type}{enc:TypeId×Value->H}{w:World}{base:Nat}{spare:Nat->Bool}{held:Bool}(F:Nat)(q:List Value)(x:DataW H×List MemPlace)(h:DataW.trod enc prog w base spare held F 25 q=some x):
 ∃(l:List bC) (v:Value),q= [v]/\po w w.heap.size v l/\∀f∈l,wY f:=by
 rcases DataW.trod_slice underlying25 h with⟨p,_⟩|⟨a,len,cap,S,rest,m,rfl,p,_,R,D,J,O,M,_,_⟩
 ·exact⟨[],_,p,po.nil _ _,by simp⟩
 have key:∀i,i<len->∃y:bC,a.spot=none/\w.cell? ⟨a.block,a.off+i*3,none⟩=some (.int .u64 y.id)/\w.cell? ⟨a.block,a.off+i*3+1,none⟩=some (.string y.name)/\w.cell? ⟨a.block,a.off+i*3+2,none⟩=some (.string y.ty)/\wY y:=by
  have first:∀i,i<len->∃c,w.cells? base (a.add (i*3)) 3=some c/\∃z,DataW.trod enc prog w base spare held m 48 c=some z:=by
   intro i hi;have k:=M i hi;rw[o8,zA (by omega)]at k;rw[Zn]at k;obtain⟨c,d,b⟩:=k;exact⟨c,d,_,b⟩
  have e:0<len->a.spot=none:=by
   intro G;obtain⟨c,d,_⟩:=first 0 G
   obtain⟨d0,_,_,_,b,_⟩:=tA d;have b:w.cell? a=some d0:=by simpa[Addr.add]using b
   exact Lu b
  intro i hi;obtain⟨c,d,z,b⟩:=first i hi
  obtain⟨d0,d1,d2,rfl,g0,g1,g2⟩:=tA d;obtain⟨y,B,K⟩:=Q7 m _ _ b;simp at B;obtain⟨rfl,rfl,rfl⟩:=B;have n:=e (by omega);have r:∀j,(a.add (i*3)).add j=⟨a.block,a.off+i*3+j,none⟩:=by
   intro j;obtain⟨N,C,E⟩:=a;simp only at n;subst n;unfold Addr.add;split<;>split<;>simp_all
  have u:=r 0;rw[show(a.add (i*3)).add 0=a.add (i*3)from by simp[Addr.add]]at u;rw[u]at g0;rw[r]at g1 g2;exact⟨y,n,g0,g1,g2,K⟩
 obtain⟨s,I,A⟩:=nX _ len key;subst I;refine⟨s,_,p,⟨some a,cap,rfl,D,by simpa[maxLen]using J,fun j o=> ?_⟩,fun f L=> ?_⟩
 ·obtain⟨e,g0,g1,g2,_⟩:=A j o;refine⟨a.block,a.off, ?_,(by have:=Lv g0;simpa using this),by simpa using g0,by simpa using g1,by simpa using g2⟩;obtain⟨N,C,E⟩:=a;simp only at e;subst e;rfl
 obtain⟨j,o,rfl⟩:=List.mem_iff_getElem.1 L;exact(A j o).2.2.2.2
theorem JK {H:Type}{enc:TypeId×Value->H}{w:World}{base i:Nat}{r:Reach}{spare:Nat->Bool}{held:Bool}{v:Value}{d:DataW H}{c:List MemPlace}(k:Value.okWide prog w r i 25 v)(hd:DataW.Trod enc prog w base spare held 25 v d c):
 ∃(l:List bC) (u:Value),v=u/\po w w.heap.size u l/\∀f∈l,wY f:=by
 obtain⟨A,n,cap,rfl⟩:=okWide_slice underlying25 k;obtain⟨m,e⟩:=hd;obtain⟨l,u,b,h,j⟩:=NX m _ _ e;simp[Value.cells]at b;subst b;exact⟨l,_,rfl,h,j⟩
theorem Bm (c:aN)(l:List bC)(u:Value)(b:ByteArray)(i:List Nat)(d:Value)(h:List Nat)(j:Value)(W:World)(r:c.ok)(n:po W W.heap.size u l/\∀e∈l,wY e)(s:b.size<=maxLen)(p:Cz W W.heap.size d i/\∀k∈i,k<256)(o:Cz W W.heap.size j h/\∀k∈h,k<256)(m:Laid W/\ba W):
 Calls prog 4 #[c.val,u,.string b,d,j] W fun e w'=>e= .returned (.bool true)/\Below W.heap.size W w':=
 Bl c l u b i h d j W r n.1 (fun e q=>(n.2 e q).id) (by simpa[maxLen]using s) p.1 p.2 o.1 o.2 m.1 m.2
theorem GI {w:World}{base:Nat}{a:Addr}{c:List Value}(h:w.cells? base a 1=some c):∃b,c= [b]/\w.cell? a=some b:=by
 unfold World.cells? at h;split at h
 ·have e:List.range 1= [0]:=rfl;rw[e]at h;simp only[List.mapM_cons,List.mapM_nil,Option.bind_eq_bind,Option.pure_def,Zn]at h;obtain⟨b,j,r,i,d⟩:=h;simp at i d;subst i;subst d;exact⟨b,rfl,by simpa[Addr.add]using j⟩
 cases h
theorem JL :prog.cellsOf 5=1:=by kernel_rfl
theorem wf_u8 {n:Int}(h:(Lit.int .u8 n).wf=true):∃k:Nat,n=(k:Int)/\k<256:=by
 have h:0<=n/\n<=255:=by simpa[Lit.wf,IntKind.min,IntKind.max,IntKind.signed,IntKind.bits]using h
 exact⟨n.toNat,by omega,by omega⟩
theorem Q8 {H:Type}{enc:TypeId×Value->H}{w:World}{base:Nat}{spare:Nat->Bool}{held:Bool}(G:Nat)(u:List Value)(x:DataW H×List MemPlace)(h:DataW.trod enc prog w base spare held G 31 u=some x):
 ∃(l:List Nat) (v:Value),u= [v]/\Cz w w.heap.size v l/\∀k∈l,k<256:=by
 rcases DataW.trod_slice zr h with⟨r,_⟩|⟨a,len,cap,U,rest,m,rfl,r,_,S,D,K,R,N,_,_⟩
 ·exact⟨[],_,r,Cz.nil _ _,by simp⟩
 have key:∀i,i<len->∃y:Nat,a.spot=none/\w.cell? ⟨a.block,a.off+i,none⟩=some (.int .u8 y)/\y<256:=by
  have first:∀i,i<len->∃c,w.cells? base (a.add (i*1)) 1=some c/\∃z,DataW.trod enc prog w base spare held m 5 c=some z:=by
   intro i hi;have o:=N i hi;rw[JL,zA (by omega)]at o;rw[Zn]at o;obtain⟨c,d,b⟩:=o;exact⟨c,d,_,b⟩
  have e:0<len->a.spot=none:=by
   intro I;obtain⟨c,d,_⟩:=first 0 I
   obtain⟨d0,_,b⟩:=GI d;have b:w.cell? a=some d0:=by simpa[Addr.add]using b
   exact Lu b
  intro i hi;obtain⟨c,d,z,b⟩:=first i hi
  obtain⟨d0,rfl,g0⟩:=GI d;obtain⟨n,A,_,g1⟩:=xK yb b;simp at A;subst A;obtain⟨k,rfl,M⟩:=wf_u8 g1;have p:=e (by omega);have E:a.add (i*1)=⟨a.block,a.off+i,none⟩:=by
   obtain⟨O,C,F⟩:=a;simp only at p;subst p;unfold Addr.add;split<;>simp_all
  rw[E]at g0;exact⟨k,p,g0,M⟩
 obtain⟨s,J,B⟩:=nX _ len key;subst J;refine⟨s,_,r,⟨some a,cap,rfl,D,by simpa[maxLen]using K,fun j q=> ?_⟩,fun f L=> ?_⟩
 ·obtain⟨e,g0,_⟩:=B j q;refine⟨a.block,a.off, ?_,(by have:=Lv g0;simpa using this),by simpa using g0⟩;obtain⟨O,C,F⟩:=a;simp only at e;subst e;rfl
 obtain⟨j,q,rfl⟩:=List.mem_iff_getElem.1 L;exact(B j q).2.2
theorem CA {H:Type}{enc:TypeId×Value->H}{w:World}{base i:Nat}{r:Reach}{spare:Nat->Bool}{held:Bool}{v:Value}{d:DataW H}{c:List MemPlace}(m:Value.okWide prog w r i 31 v)(hd:DataW.Trod enc prog w base spare held 31 v d c):
 ∃(l:List Nat) (u:Value),v=u/\Cz w w.heap.size u l/\∀k∈l,k<256:=by
 obtain⟨A,n,cap,rfl⟩:=okWide_slice zr m;obtain⟨o,e⟩:=hd;obtain⟨l,u,b,h,j⟩:=Q8 o _ _ e;simp[Value.cells]at b;subst b;exact⟨l,_,rfl,h,j⟩
