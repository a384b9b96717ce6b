/- The example of registry, and of session. -/
import Derived.Test.YtdbmifjankgfpaaGreatDoorKA41
import Derived.Test.YtdbmifjankgfpaaGreatDoorKA46
import Derived.Test.YtdbmifjankgfpaaGreatDoorRows
import Derived.Lib.LaidTab
import Derived.Stop.LaidErr
import Derived.MakeChecks
set_option linter.all false
set_option maxRecDepth 100000
set_option maxHeartbeats 16000000
open Go.Proofs.Tryz
namespace Go.Proofs.YtdbmifjankgfpaaGreatDoor
open Go.RowKit
variable {l:List bD}{w w' W:World}{hi g base i j q:Nat}{x y:eZ}{d:Value}
def F' :aI:=⟨2,0,9,9,2,9⟩
def ep :bD:=⟨5,⟨#[112,105,110,103]⟩,⟨#[117,56]⟩⟩
def oW :Ty:= .mk 1 1 [] 0
def ib :It:= .mk ⟨#[7]⟩ false []
theorem Cn :oW.may=true:=by simp[oW,Ty.may,Ty.count,Ty.deep,Ty.right,ba,dJ,bR,gu]
theorem wK :cS ep.ty.data.toList=some oW:=by
 have h:aL 8 ep.ty.data.toList=some (oW,[]):=by rfl
 rw[wj h,Cn,zi rfl]
theorem Ga :ep.shape=oW:=by unfold bD.shape;rw[wK];rfl
theorem Q5 :gX oW ib 2 9=0:=by
 rw[lS];refine⟨?_, ?_⟩
 ·unfold eO;rw[Cn];simp[oW,ib,It.may,It.right,It.deep,It.count,dq,cK,aN,formed,It.dr,df,ow,gG,ByteArray.size]
 rw[pb];simp[ib,It.may,It.right,It.deep,It.count,dq,cK,aN,formed,ByteArray.size]
theorem wL :ib.gN= [7]:=by
 simp[ib,It.gN,ByteArray.size]
theorem NO :fN [ep] ⟨#[112,105,110,103]⟩=some ep:=by
 simp[fN,ep]
theorem Gb :bI F' [ep] ⟨#[112,105,110,103]⟩ ib=(⟨5,⟨#[]⟩,⟨#[7]⟩⟩,0):=by
 have b:bY F' oW ib=(⟨#[7]⟩,0):=by
  unfold bY;rw[zh (by simp[F'])];show(if gX oW ib 2 9=0 then _ else _,gX oW ib 2 9)=_
  rw[Q5,zi rfl,wL]
 unfold bI;rw[NO];simp only[Ga,b];simp[F',ep];rfl
theorem NP (w:World)(B:Nat)(t:ByteArray)(l:Bool)(h:t.size<=9223372036854775807):dX w B (.mk t l []) (.string t) (.bool l) (.slice none 0 0):=PZ w B t l h
structure Le (lo:Nat):Prop where
 a:1<lo
 b:0<lo
theorem NQ {L:List Nat}(c:Laid w/\bq w)(d:Le i)(e:ae L w w')(h:∀k∈L,i<=k):Laid w'/\bq w':=
 ⟨c.1.only e (fun b=>by have:=h _ b;have:=d.a;omega),c.2.only e (fun b=>by have:=h _ b;have:=d.b;omega)⟩
theorem eQ.Lf {b:Nat}{c:aI}{e:Nat}(h:eQ w b hi g d c l x e):∀k∈js g d,b<=k:=fun k i=>by have:=h.qp k i;have:=h.lohi;omega
theorem Du (c:aI)(f:Fr)(hid:f.id<18446744073709551616)(h:(aU c f).2=0):(aU c f).1.size<=70000:=by
 unfold aU at h⊢;by_cases j:c.fm=1
 ·rw[zi j]at h⊢;by_cases e:cd f.nm=true
  ·rw[zi e]at h⊢;by_cases b:65536<f.body.size
   ·rw[zi b]at h;exact absurd h (by decide)
   rw[zh b];simp only;rw[lO c.mg f.nm f.body (dE e).2];omega
  rw[zh e]at h;exact absurd h (by decide)
 rw[zh j]at h⊢;by_cases b:c.fm=2
 ·rw[zi b]at h⊢;by_cases d:65536<(aR f.id).length+f.body.size
  ·rw[zi d]at h;exact absurd h (by decide)
  rw[zh d];simp only;rw[bP];have i:=bA 10 ((aR f.id).length+f.body.data.toList.length) (by rw[aa];omega) (by omega);unfold eF;rw[zl,zl];rw[aa]at*;omega
 rw[zh b]at h⊢;by_cases d:c.un<f.body.size
 ·rw[zi d]at h;exact absurd h (by decide)
 rw[zh d]at h⊢;by_cases i:65536<(aR f.id).length+(pack f.body.data.toList).length
 ·rw[zi i]at h;exact absurd h (by decide)
 rw[zh i];simp only;rw[bP];have k:=bA 10 ((aR f.id).length+(pack f.body.data.toList).length) (by omega) (by omega);unfold eF;rw[zl,zl];omega
theorem Ju {c:aI}{f:Fr}(hid:f.id<18446744073709551616)(h:(fE c f).2=0):(fE c f).1.size<=70000:=by
 unfold fE at h⊢;split
 ·rename_i d
  rw[zi d]at h;by_cases b:(aU c f).2≠0
  ·rw[zi b]at h;exact absurd h b
  rw[zh b]at h⊢;split
  ·exact yk _
  exact Du c f hid (zC.1 b)
 exact yk _
theorem Gc {c:aI}(hid:Pz l){nm:ByteArray}{x:It}(h:(cO c l nm x).2=0):(cO c l nm x).1.size<=70000:=by
 obtain⟨b,d⟩:=Fe h;rw[d]at h⊢;exact Ju (Ff hid b) h
theorem Q6 {d:Type}(c:Nx d)(x:eZ)(s:ByteArray):(iI c x s).1.told=x.told+(iI c x s).2.1.length:=by
 by_cases b:x.fault=0
 ·rw[dw b]
 rw[cc b];simp
theorem Jv (c:aI)(l:List bD)(x:eZ)(s:ByteArray):(iI (aJ c l) x s).1.buf.size<=x.buf.size+s.size/\(iI (aJ c l) x s).2.1.length<=x.buf.size+s.size:=by
 by_cases e:x.fault=0
 ·rw[dw e];have b:=PF c l (x.buf++s);have d:=Iv c l (x.buf++s);rw[bK]at b d;exact⟨d,b⟩
 rw[cc e];exact⟨by simp only;omega,by simp⟩
def i' :aI:=⟨3,0,50,50,2,9⟩
theorem Gd :i'.ok:=⟨by decide,by decide,by decide,by decide,by decide,by decide⟩
theorem Ge :bI i' [ep] ⟨#[112,105,110,103]⟩ ib=bI F' [ep] ⟨#[112,105,110,103]⟩ ib:=rfl
theorem NR :(fE i' ⟨5,⟨#[]⟩,⟨#[7]⟩⟩).2=0:=by decide+kernel
theorem wM :(cO i' [ep] ⟨#[112,105,110,103]⟩ ib).2=0:=by
 unfold cO;rw[Ge,Gb,zh (by simp)];exact NR
theorem Dv :np i' [ep]=0:=by
 rw[r9 (by decide) (by simp)];have b:gM i' [] ep=0:=by
  unfold gM;rw[zh (by decide),zh (by simp),zh (by simp),wK,zh (by simp),zh (by simp[i'])]
 simp[jo,b]
theorem Lg :Pz [ep]:=fun e b=>by
 obtain rfl:=xw.1 b;simp[ep]
theorem Q7 :∃(b:ByteArray) (k:Nat),cO i' [ep] ⟨#[112,105,110,103]⟩ ib=(b,0)/\b.size<=70000/\iI (aJ i' [ep]) eZ.new b=(⟨ByteArray.empty,0,b.size+k,1⟩,[⟨⟨#[112,105,110,103]⟩,ib⟩],0):=by
 obtain⟨c,_,h⟩:=Px Dv;obtain⟨y,k,_,e,i,_⟩:=PA (nm:=⟨#[112,105,110,103]⟩) (x:=ib) c h Lg wM (by rw[wL];simp);obtain rfl:=i (by decide);have d:=Gc Lg wM;refine⟨_,k,ZA rfl wM,d, ?_⟩;rw[dw rfl,show eZ.new.buf++(cO i' [ep] ⟨#[112,105,110,103]⟩ ib).1=(cO i' [ep] ⟨#[112,105,110,103]⟩ ib).1 from by simp[eZ.new],e];rfl
theorem Uz (w:World)(d:Laid w)(q:bq w):Calls prog 7 #[] w fun e w'=>e= .returned (.bool true)/\Below w.heap.size w w':=by
 obtain⟨W,i⟩:∃W,w.alloc (.cells #[.int .u64 5,.string ⟨#[112,105,110,103]⟩,.string ⟨#[117,56]⟩] 48)=W:=⟨_,rfl⟩
 have l:Below w.heap.size w W:=by rw[<-i];exact(zm _ w).alloc (zg _) _
 have Wg:w.heap.size<W.heap.size:=by rw[<-i];simp
 have x:af W w.heap.size 48 #[.int .u64 5,.string ⟨#[112,105,110,103]⟩,.string ⟨#[117,56]⟩]:=by rw[<-i];exact af.new _ _ _
 have G:qj W W.heap.size (.slice (some ⟨w.heap.size,0,none⟩) 1 1) [ep]:=⟨_,1,rfl,by simp,by simp,fun j S=>by
  obtain rfl:j=0:=by simp at S;omega
  exact⟨_,_,rfl,by omega,x.cell 0,x.cell 1,x.cell 2⟩⟩
 have O:=za (Ld i' [ep] _ W.heap.size W G (zg _) (d.below l d.pos) (by
  intro e he;obtain rfl:=xw.1 he;exact⟨by decide,by simp[ep,ByteArray.size],by simp[ep,ByteArray.size]⟩))
 have m:=za (And.intro (d.below l d.pos) (q.below l q.pos));have L:Hid (Le w.heap.size):=za ⟨d.pos,q.pos⟩;have HW:=za i;have fZ:=za l;obtain⟨C,_,_⟩:=Px Dv;obtain⟨b,kb,U,DD,ae⟩:=Q7;have HR:=za C;clear i l x G d q C;unfold i' aI.val at O;go_enter func7,ntmps7
 go_wp2_with fail
 rw[HW.out];refine O.out.mono ?_;rintro e n ⟨r,X⟩;rcases X with⟨_,c,hi,g,oD,rfl,s⟩|⟨cn,_⟩
 ·have F:=za (fZ.out.trans (r.mono (by omega)));have A:=za (And.intro (m.out.1.below r m.out.1.pos) (m.out.2.below r m.out.2.pos));have SJ:Hid (eQ n c hi g (.slice none 0 0) i' [ep] eZ.new 0):=za s;have y:Hid (Le c):=za ⟨by have:=L.out.a;omega,by have:=L.out.b;omega⟩;have JT:w.heap.size<=c:=by omega
  have ah:c<=g:=by have:=s.lohi;have:=s.LP;omega
  have u:=za (QZ c hi g _ i' [ep] eZ.new 0 ⟨#[112,105,110,103]⟩ ib n.heap.size n _ _ _ Gd SJ.out (NP n _ ⟨#[7]⟩ false (by simp[ByteArray.size])) (zg _) A.out.1 A.out.2 (fun _=>by rw[wL];simp) (by rw[Ge,Gb];exact⟨by decide,by decide,by decide⟩) (by omega));rw[U]at u;simp only[zi]at u;clear r s;go_wp2_with fail
  refine u.out.mono ?_;rintro e M ⟨rfl,B,z⟩;have J:=za (F.out.trans (z.below F.out.size (by simp;omega)));have N:=za (NQ A.out y.out z (by simp;omega));have p:=za (F8 c hi g _ i' [ep] eZ.new 1 b M HR.out Gd B N.out.1 N.out.2 y.out.a y.out.b (by simp[eZ.new];omega) (by decide));rw[ae]at p;simp only at p;have ad:=za B.Lf;clear B z u;go_wp2_with fail
  refine p.out.mono ?_;rintro e Y ⟨rv,R,rfl,H,K,I,_⟩;have Z:=za (J.out.trans (I.below J.out.size (fun k hk=>zF JT (ad.out k hk))));obtain⟨A4,DJ,rfl,aa,ag,D⟩:=vy.reads (eB.iz H (S1:=(M.heap.size<= ·)) (fun _ _ h=>h.1) (zg _));obtain⟨gg,o,d0,d1,d2,d3,rfl,_,e0,_,_,_,E⟩:=D.at_ 0 (by simp);obtain⟨_,_,rfl,_⟩:=E.open_;have ab:=za (qL c hi g R i' _ _ _ Y K);simp at e0;have hz:ByteArray.empty.size=0:=rfl;clear H K I D E p;simp only[yL]at aa⊢;go_wp2_with fail
  refine ab.out.mono ?_;rintro e w5 ⟨rfl,rfl⟩;go_wp2;go_ret;exact⟨rfl,Z.out⟩
 exact absurd Dv cn
def og (c:aI)(l:List bD):Bool:= !l8 l&&decide (np c l=0)
theorem Jw {c:aI}(h:og c l=true)(hid:∀e∈l,e.id<18446744073709551616):np c l=0/\∀e∈l,oN e:=by
 simp only[og,zy,Bool.not_eq_true',yb]at h;exact⟨h.2,(Cl h.1 hid).2⟩
theorem NS (c:aI)(l:List bD)(v:Value)(B:Nat)(w:World)(p:qj w B v l)(x:B<=w.heap.size)(hid:∀e∈l,e.id<18446744073709551616):
 Calls prog 8 #[c.val,v] w fun e w'=>e= .returned (.bool (og c l))/\Below w.heap.size w w':=by
 obtain⟨A,n,cap,rfl,S,L,R⟩:=p.cF;obtain⟨b,d⟩:∃b,w.alloc (.cells #[.int .i64 c.fm,.int .u32 c.mg,.int .i64 c.fr,.int .i64 c.un,.int .i64 c.de,.int .i64 c.it] 24)=b:=⟨_,rfl⟩
 have k:Below w.heap.size w b:=by rw[<-d];exact(zm _ w).alloc (zg _) _
 have H:b.heap.size=w.heap.size+1:=by rw[<-d];simp
 have q:af b w.heap.size 24 #[.int .i64 c.fm,.int .u32 c.mg,.int .i64 c.fr,.int .i64 c.un,.int .i64 c.de,.int .i64 c.it]:=by rw[<-d];exact af.new w _ _
 have o:=p.below (k.mono x);have u:=za d;have s:=za k;obtain⟨I,G,J,N,K,M⟩:=eR q;have r:=za (NB l _ B b o);obtain⟨m,i⟩:∃m,l8 l=m:=⟨_,rfl⟩
 rw[i]at r;have D:Hid (og c l=(!m&&decide (np c l=0))):=za (by unfold og;rw[i]);rw[D.out];cases m with
 |true=>
  clear p hid i d k o q;unfold aI.val;go_enter func8,ntmps8
  go_wp2_with fail
  rw[u.out];refine r.out.mono ?_;rintro e w' ⟨rfl,j⟩;rw[j];clear j w';go_wp2;go_ret;exact⟨rfl,s.out⟩
 |false=>
  have F:=za (Ji c l _ B b o (by omega) (Cl i hid).2);generalize np c l=E at*;unfold aI.val at*;have O:((E==0):Bool)=decide (E=0):=by
   by_cases h:E=0<;>simp[h]
  clear p hid i d k o q;go_enter func8,ntmps8
  go_wp2_with fail
  rw[u.out];refine r.out.mono ?_;rintro e w' ⟨rfl,j⟩;rw[j];clear j w';go_wp2_with fail
  refine F.out.mono ?_;rintro e C ⟨rfl,z⟩;have y:Hid (Below w.heap.size w C):=za (s.out.trans (z.mono (by omega)));go_wp2;go_ret;exact⟨aV (by simp),y.out⟩
theorem Jx (c:aI)(l:List bD)(v:Value)(B:Nat)(w:World)(m:qj w B v l)(u:B<=w.heap.size)(k:Laid w)(h:∀e∈l,oN e)(r:np c l=0):
 Calls prog 10 #[c.val,v] w fun e w'=>∃i hi g,w.heap.size<=i/\e= .returned (.pointer (some ⟨g,0,none⟩))/\eQ w' i hi g (.slice none 0 0) c l eZ.new 0/\Below w.heap.size w w':=by
 obtain⟨A,n,cap,rfl,W,O,U⟩:=m.cF;obtain⟨b,d⟩:∃b,w.alloc (.cells #[.int .i64 c.fm,.int .u32 c.mg,.int .i64 c.fr,.int .i64 c.un,.int .i64 c.de,.int .i64 c.it] 24)=b:=⟨_,rfl⟩
 have j:Below w.heap.size w b:=by rw[<-d];exact(zm _ w).alloc (zg _) _
 have J:b.heap.size=w.heap.size+1:=by rw[<-d];simp
 have p:af b w.heap.size 24 #[.int .i64 c.fm,.int .u32 c.mg,.int .i64 c.fr,.int .i64 c.un,.int .i64 c.de,.int .i64 c.it]:=by rw[<-d];exact af.new w _ _
 have q:=m.below (j.mono u);have G:=za d;have s:=za j;obtain⟨K,I,M,S,N,R⟩:=eR p;have H:=za (Ld c l _ B b q (by omega) (k.below j k.pos) h);have F:=za r;clear m h r k d j q p;unfold aI.val at*;go_enter func10,ntmps10
 go_wp2_with fail
 rw[G.out];refine H.out.mono ?_;rintro e y ⟨o,z⟩;have x:Hid (Below w.heap.size w y):=za (s.out.trans (o.mono (by omega)));rcases z with⟨_,i,hi,g,L,rfl,h⟩|⟨E,_⟩
 ·have C:=za h;have D:w.heap.size<=i:=by omega
  clear h o;go_wp2;go_ret;exact⟨i,hi,g,D,rfl,C.out,x.out⟩
 exact absurd F.out E
structure WhV (w V:World)(c:aI)(l:List bD)(v:Value):Prop where
 en:qj V w.heap.size v l
 laid:Laid V/\bq V
 siz:w.heap.size+1<=V.heap.size
 bel:Below w.heap.size w V
 cf:af V w.heap.size 24 #[.int .i64 c.fm,.int .u32 c.mg,.int .i64 c.fr,.int .i64 c.un,.int .i64 c.de,.int .i64 c.it]
theorem WhV.mk' {V:World}{c:aI}{v:Value}(e:w.alloc (.cells #[.int .i64 c.fm,.int .u32 c.mg,.int .i64 c.fr,.int .i64 c.un,.int .i64 c.de,.int .i64 c.it] 24)=W)
 (m:qj w w.heap.size v l) (h:Laid w) (i:bq w) (d:Below (w.heap.size+1) W V):WhV w V c l v:=by
 have hz:W.heap.size=w.heap.size+1:=by rw[<-e];simp
 have j:Below w.heap.size w W:=by rw[<-e];exact(zm _ w).alloc (zg _) _
 have k:af W w.heap.size 24 #[.int .i64 c.fm,.int .u32 c.mg,.int .i64 c.fr,.int .i64 c.un,.int .i64 c.de,.int .i64 c.it]:=by rw[<-e];exact af.new w _ _
 have b:Below w.heap.size w V:=j.trans (d.mono (by omega));exact⟨m.below b,⟨h.below b h.pos,i.below b i.pos⟩,by have:=d.size;omega,b,k.ag d (by omega)⟩
structure On (w:World)(lo hi g base fg DW:Nat)(bv fv:Value)(c:aI)(l:List bD)(x y:eZ):Prop where
 s:eQ w lo hi g bv c l x 0
 f:iF w base fg fv c y
 gb:g<base
 gl:fg<DW
 ob:∀k,bv.ownBlock=some k->DW<=k
 fb:∀k,fv.ownBlock=some k->DW<=k
 ne:∀k,bv.ownBlock=some k->fv.ownBlock≠some k
 low:DW<=w.heap.size
theorem On.below {k:Nat}{e:Value}{c:aI}(h:On w k hi g base j i d e c l x y)(b:Below w.heap.size w w'):On w' k hi g base j i d e c l x y:=
 ⟨h.s.below b,h.f.below b,h.gb,h.gl,h.ob,h.fb,h.ne,zF h.low b.size⟩
theorem On.ses {p:Nat}{i o:Value}{c:aI}{n:eZ}(h:On w j hi g base q p d o c l x y)(z:eQ w' j hi g i c l n 0)(r:ae (js g d) w w')
 (m:∀k,i.ownBlock=some k->d.ownBlock=some k\/w.heap.size<=k):On w' j hi g base q p i o c l n y:=by
 have A:=h.gb;have B:=h.gl;have C:=h.f.1;have D:=h.low;refine⟨z,h.f.only r (fun k b u=> ?_),A,B,fun k e=> ?_,h.fb,fun k e s=> ?_,zF h.low r.size⟩
 ·rcases fW.1 u with rfl|e
  ·rcases b with rfl|b
   ·omega
   have:=h.fb _ b;omega
  rcases b with rfl|b
  ·have:=h.ob _ e;omega
  exact h.ne k e b
 ·rcases m k e with e1|e1
  ·exact h.ob k e1
  omega
 rcases m k e with e1|e1
 ·exact h.ne k e1 s
 have:=(h.f.own k s).2;omega
theorem On.frm {d o:Nat}{n i j:Value}{c:aI}{r:eZ}(h:On w q hi g base d o n i c l x y)(s:iF w' base d j c r)(p:ae (js d i) w w')
 (m:∀k,j.ownBlock=some k->i.ownBlock=some k\/w.heap.size<=k):On w' q hi g base d o n j c l x r:=by
 have z:=h.gb;have A:=h.gl;have E:=h.f.1;have C:=h.low;have D:=h.s.LP;refine⟨h.s.only p (fun k B=> ?_),s,z,A,h.ob,fun k e=> ?_,fun k e u=> ?_,zF h.low p.size⟩
 ·rcases fW.1 B with rfl|e
  ·exact⟨by omega,by omega,fun e=>by have:=h.ob _ e;omega⟩
  have:=h.fb k e;exact⟨by omega,by omega,fun b=>h.ne k b e⟩
 ·rcases m k e with b|b
  ·exact h.fb k b
  omega
 rcases m k u with b|b
 ·exact h.ne k e b
 have:=(h.s.own k e).2;omega
theorem Q8 (c:aI)(x:eZ)(s:ByteArray):(iI (aw c) x s).1.buf.size<=x.buf.size+s.size/\(iI (aw c) x s).1.told<=x.told+(x.buf.size+s.size):=by
 by_cases d:x.fault=0
 ·rw[dw d];have e:=vi c (x.buf++s);have b:=vj c (x.buf++s);rw[bK]at e b;exact⟨b,by simp only;omega⟩
 rw[cc d];exact⟨by simp only;omega,by simp only;omega⟩
theorem AX (c:aI)(l:List bD)(v:Value)(A:List ByteArray)(sv:Value)(w:World)(hc:c.ok)(hv:qj w w.heap.size v l)(hid:∀e∈l,e.id<18446744073709551616)(hS:Kz w w.heap.size sv A)(hl:∀s∈A,s.size<=9223372036854775807)(hL:Laid w)(jl:bq w):
 Calls prog 6 #[c.val,v,sv] w fun e w'=>e= .returned (.bool true)/\Below w.heap.size w w':=by
 obtain⟨Av,n,cap,rfl,hn,X6,mA⟩:=hv.cF;obtain⟨Aq,nq,ba,rfl,aU,a8,a7⟩:=hS.cF;have aQ:=za hS;have aW:=za hl;clear hS hl;obtain⟨W,hW⟩:∃W,w.alloc (.cells #[.int .i64 c.fm,.int .u32 c.mg,.int .i64 c.fr,.int .i64 c.un,.int .i64 c.de,.int .i64 c.it] 24)=W:=⟨_,rfl⟩
 have Wg:W.heap.size=w.heap.size+1:=by rw[<-hW];simp
 have b:Hid (∀V,Below (w.heap.size+1) W V->WhV w V c l (.slice Av n cap)):=za (fun V d=>WhV.mk' hW hv hL jl d);have HA:=za (Uz W (b.out W (zm _ _)).laid.1 (b.out W (zm _ _)).laid.2);have aB:Hid (Le w.heap.size):=za ⟨hL.pos,jl.pos⟩;have HW:=za hW;have HZ:=za Wg;have ay:=za hid;have aK:=za hc;unfold aI.val;clear hv hL jl hW hid hc Wg;go_enter func6,ntmps6
 go_wp2_with fail
 rw[HW.out];refine HA.out.mono ?_;rintro e w1 ⟨rfl,aF⟩;have bQ:Hid (Below (w.heap.size+1) W w1):=za (aF.mono (by have:=HZ.out;omega));have O:=za (NS c l _ w.heap.size w1 (b.out w1 bQ.out).en (by have:=(b.out w1 bQ.out).siz;omega) ay.out);obtain⟨rt,Ab⟩:∃rt,og c l=rt:=⟨_,rfl⟩
 rw[Ab]at O;unfold aI.val at O;have DK:=za Ab;clear aF HA Ab;obtain⟨B,F,I,H,C,G⟩:=eR (b.out w1 bQ.out).cf;have q:=(b.out w1 bQ.out).siz;go_wp2_with fail
 refine O.out.mono ?_;rintro e w2 ⟨rfl,aO⟩;have ee:Hid (Below (w.heap.size+1) W w2):=za (bQ.out.trans (aO.mono q));clear aO O B F I H C G q;cases rt with
 |false=>
  go_wp2;go_ret;exact⟨rfl,(b.out w2 ee.out).bel⟩
 |true=>
 have HG:=za (MQ A _ w.heap.size w2 (aQ.out.below (b.out w2 ee.out).bel) (by have:=(b.out w2 ee.out).siz;omega) aW.out);obtain⟨gt,av⟩:∃gt,(decide (300<A.length)||decide (1500<min (dk A) 10000))=gt:=⟨_,rfl⟩
 rw[av]at HG;go_wp2_with fail
 refine HG.out.mono ?_;rintro e w3 ⟨rfl,ca⟩;have hG:Hid (Below (w.heap.size+1) W w3):=za (ee.out.trans (ca.mono (b.out w2 ee.out).siz));clear ca HG ee;cases gt with
 |true=>
  go_wp2;go_ret;exact⟨rfl,(b.out w3 hG.out).bel⟩
 |false=>
 simp only[Bool.or_eq_false_iff,xj]at av;have N7:Hid (A.length<=300/\dk A<=1500):=za (by omega);clear av;obtain⟨D,V2⟩:=Jw DK.out ay.out;obtain⟨hr,_,bG⟩:=Px D;have O:=za hr;have ax:Hid (∀V,Below (w.heap.size+1) W V->Calls prog 10 #[c.val,.slice Av n cap] V fun e w'=>∃J hi g,V.heap.size<=J/\e= .returned (.pointer (some ⟨g,0,none⟩))/\eQ w' J hi g (.slice none 0 0) c l eZ.new 0/\Below V.heap.size V w'):=za (fun V d=>Jx c l _ w.heap.size V (b.out V d).en (by have:=(b.out V d).siz;omega) (b.out V d).laid.1 V2 D);unfold aI.val at ax;clear D V2 hr bG;have Ws:=ax.out w3 hG.out;obtain⟨B,F,I,H,C,G⟩:=eR (b.out w3 hG.out).cf;have q:=(b.out w3 hG.out).siz;go_wp2_with fail
 refine Ws.mono ?_;rintro e w4 ⟨J,hi,g,oD,rfl,Ls,bN⟩;have cZ:Hid (Below (w.heap.size+1) W w4):=za (hG.out.trans (bN.mono q));have RN:=za Ls;have ar:Hid (w.heap.size+1<=J/\J<=hi/\hi<=g/\g<w4.heap.size):=za ⟨by omega,Ls.lohi,Ls.LP,Ls.lt⟩;have UF:=za (Uy c w4 O.out);unfold aI.val at UF;clear bN Ls Ws ax oD B F I H C G q hG;obtain⟨B,F,I,H,C,G⟩:=eR (b.out w4 cZ.out).cf;have q:=(b.out w4 cZ.out).siz;go_wp2_with fail
 refine UF.out.mono ?_;rintro e w5 ⟨⟨fg,rfl,aq⟩,jB⟩;have gK:Hid (Below (w.heap.size+1) W w5):=za (cZ.out.trans (jB.mono q));have mf:=aq.lt;have al:Hid (On w5 J hi g w4.heap.size fg w5.heap.size (.slice none 0 0) (.slice none 0 0) c l eZ.new eZ.new):=za ⟨RN.out.below jB,aq,ar.out.2.2.2,mf,(fun k e=>by cases e),(fun k e=>by cases e),(fun k e=>by cases e),zg _⟩;obtain⟨DW,UL⟩:∃DW,w5.heap.size=DW:=⟨_,rfl⟩
 obtain⟨base,lB⟩:∃base,w4.heap.size=base:=⟨_,rfl⟩
 rw[UL,lB]at al;have SA:Hid (w.heap.size+1<=J/\J<=hi/\hi<=g/\g<base/\base<=DW):=za (by have:=ar.out;have:=jB.size;omega);have aA:=za (fun bv x (r:ByteArray) V (hs:eQ V J hi g bv c l x 0) d h1 h2=>F8 J hi g bv c l x 0 r V O.out aK.out hs (b.out V d).laid.1 (b.out V d).laid.2 (by have:=aB.out.a;have:=SA.out;omega) (by have:=aB.out.b;have:=SA.out;omega) h1 h2);have az:Hid (∀V,Calls prog 25 #[c.val] V fun e w'=>e= .returned (.int .i64 (eV c))/\Below V.heap.size V w'):=za (fun V=>Uf c V);unfold aI.val at az;clear aq jB mf UF RN ar cZ UL lB B F I H C G q;go_wp2_with fail
 go_loopw [10] (fun iv wr=>∃(j:Nat) (x y:eZ) (bv fv:Value),iv= .int .i64 j/\j<=nq/\Hid (On wr J hi g base fg DW bv fv c l x y)/\Hid (pe x y)/\Hid (x.buf.size<=dk (A.take j)/\x.told<=1500*j/\y.buf.size<=dk (A.take j)/\y.told<=1500*j)/\Hid (Below (w.heap.size+1) W wr)) (fun iv _=>nq-(intOf iv).toNat)
 case atStart=>exact⟨0,eZ.new,eZ.new,_,_,rfl,by omega,al,za pe.new,za (by simp[eZ.new]),gK⟩
 case round=>
  clear al gK;obtain⟨j,x,y,bv,fv,rfl,hj,HD,aH,UX,sB⟩:=hrel;by_cases aE:j<nq
  ·have uu:(j:Int)<nq:=by omega
   have rj:j<A.length:=by rw[<-aU.out];exact aE
   obtain⟨gp,op,rfl,aG,p0⟩:=(aQ.out.below (b.out wr sB.out).bel).at_ rj;have aC:=uY A j rj;have aS:=AE A (j+1);obtain⟨r,JS⟩:∃r,A[j]=r:=⟨_,rfl⟩
   rw[JS]at p0 aC;have JG:=(b.out wr sB.out).siz;have ah:Hid (∀V,Below (w.heap.size+1) W V->V.cell? ⟨gp,op+j,none⟩=some (.string r)):=za (fun V d=>((b.out V d).bel.cell (p:=⟨gp,op+j,none⟩) aG).trans (((b.out wr sB.out).bel.cell (p:=⟨gp,op+j,none⟩) aG).symm.trans p0));have aV:=N7.out;obtain⟨s1,s2,s3,s4⟩:=UX.out;have bh:j<300:=by omega
   have aR:Hid (r.size<=1500):=za (by omega);have HF:=za (aA.out bv x r wr HD.out.s sB.out (by omega) (by omega));have ad:Hid (∀x' mS V,On V J hi g base fg DW mS fv c l x' y->Calls prog 26 #[.pointer (some ⟨fg,0,none⟩),.string r] V fun e w'=>∃rv N,e= .returned (.tuple #[rv,.int .i64 (iI (aw c) y r).2.2])/\iF w' base fg N c (iI (aw c) y r).1/\ae (js fg fv) V w'/\(∀k,N.ownBlock=some k->fv.ownBlock=some k\/V.heap.size<=k)):=za (fun x' mS V hd=>(Q4 base fg fv c y r V O.out aK.out hd.f (by have:=hd.f.lt;have:=hd.f.1;omega) (by omega) (by omega)).mono fun e w' ⟨rv,N,h1,_,u,h4,h5⟩=>⟨rv,N,h1,u,h4,h5⟩);obtain⟨S,b2,Y,Z,b5⟩:=MD O.out l x r;obtain⟨f1,f2⟩:=Jv c l x r;have f3:=Q6 (aJ c l) x r;obtain⟨f4,f5⟩:=Q8 c y r;obtain⟨d1,d2⟩:=aH.out.iI c l r;have U:x.fault≠0->(iI (aJ c l) x r).2.2≠0:=fun h=>by rw[cc h];exact h
   obtain⟨X,hX⟩:∃X,iI (aJ c l) x r=X:=⟨_,rfl⟩
   obtain⟨au,hY⟩:∃au,iI (aw c) y r=au:=⟨_,rfl⟩
   rw[hX]at HF S b2 Y Z b5 f1 f2 f3 d1 d2 U;rw[hY]at ad f4 f5 d1 d2;clear hX hY;obtain⟨z,fs,er⟩:=X;obtain⟨y2,ff,ef⟩:=au;simp only at HF S b2 Y Z b5 f1 f2 f3 d1 d2 U ad f4 f5;have an:=za d1;have aX:=za d2;have JP:fs.length<=3000:=by omega
   have aj:Hid (z.buf.size<=dk (A.take (j+1))/\z.told<=1500*(j+1)/\y2.buf.size<=dk (A.take (j+1))/\y2.told<=1500*(j+1)):=za ⟨by omega,by omega,by omega,by omega⟩;have hu:=(c.bB).1 O.out;have DP:=za (And.intro S (And.intro b2 (And.intro Y (And.intro Z (And.intro b5 (And.intro U hu))))));clear JS aC aS aV s1 s2 s3 s4 f1 f2 f3 f4 f5 d1 d2 S b2 Y Z b5 U hu aA aH;go_wp2_with fail
   refine(MT _ _ _ _ _ _ _ _ _ HD.out.s).mono ?_;rintro e w' ⟨rfl,rfl⟩;go_wp2_with fail
   refine HF.out.mono ?_;rintro e wa ⟨bb,ak,rfl,Oq,VY,ao,Wv⟩;obtain⟨Aa,na,a6,rfl,aM,bf,a1⟩:=Oq.cF;have R:=za (HD.out.ses VY ao Wv);have E:Hid (Below (w.heap.size+1) W wa):=za (sB.out.trans (ao.below JG (fun i hi=>by have:=HD.out.s.Lf i hi;have:=SA.out;omega)));have p1:=ah.out wa E.out;have a':na<=3000:=by rw[aM.out];exact JP
   clear Oq VY ao Wv p0 HF HD JG JP sB;by_cases D:x.fault=0
   ·have aZ:(x.fault==0)=true:=by rw[D];rfl
    obtain⟨S,b2,Y,Z,b5,U,hu⟩:=DP.out;have Ly:r.size<=z.laid:=b2 D;have bg:=aR.out;obtain⟨P,hP⟩:∃P:Int,c.un*((na:Int)+1)=P:=⟨_,rfl⟩
    have aY:0<=P/\P<=200000000:=by
     rw[<-hP];constructor
     ·exact Int.mul_nonneg (by omega) (by omega)
     have h1:c.un*((na:Int)+1)<=65536*((na:Int)+1):=Int.mul_le_mul_of_nonneg_right (by omega) (by omega);omega
    have aN:Hid (c.fm=3->(z.laid:Int)<=(r.size:Int)+P):=za (fun u=>by
     have:=b5 D u;rw[<-aM.out,hP]at this;exact this)
    have aD:Hid (c.fm≠3->z.laid<=r.size):=za Z;have bQ:=za S;obtain⟨bc,bd⟩:=aY;clear S b2 Y Z b5 U hu D;by_cases h1:er=0
    ·subst h1;have pJ:=aX.out rfl;have UP:Hid (((y2.laid:Int) !=(z.laid:Int))=false):=za (by rw[pJ];simp);have aF:=bQ.out rfl;obtain⟨MX,aL⟩:∃MX,max (eV c) 10=MX:=⟨_,rfl⟩
     rw[aL]at aF;have jA:decide (MX<=(z.buf.size:Int))=false:=zv (by omega);generalize eV c=M at*;clear pJ aF;go_wp2_with fail
     refine eI (by kernel_rfl) (by kernel_rfl) ?_;refine ai (.int .i64 0) (by rfl) (fun _ _=>by first|rfl|go_simp) ?_;simp only[Act.put,zb,zd,ze];refine ai (.bool true) (by rfl) (fun _ _=>by first|rfl|go_simp) ?_;simp only[Act.put,zb,zd,ze];refine ai (.bool true) (by rfl) (fun _ _=>by first|rfl|go_simp) ?_;simp only[Act.put,zb,zd,ze];refine ai (.pointer (some ⟨g,0,none⟩)) (by rfl) (fun _ _=>by first|rfl|go_simp) ?_;simp only[Act.put,zb,zd,ze];refine bU 24 _ (.int .i64 (z.buf.size:Nat)) (by rfl) (fun _=>by first|rfl|go_simp) (fun V d=>Dq (qL _ _ _ _ _ _ _ _ _ (R.out.below d).s)) ?_;simp only[Act.put,zb,zd,ze];refine ai (.agg #[.int .i64 c.fm,.int .u32 c.mg,.int .i64 c.fr,.int .i64 c.un,.int .i64 c.de,.int .i64 c.it]) (by rfl) (fun V d=>by obtain⟨B,F,I,H,C,G⟩:=eR (b.out V (E.out.trans (d.mono (b.out wa E.out).siz))).cf;go_simp) ?_;simp only[Act.put,zb,zd,ze];refine bU 25 _ (.int .i64 M) (by rfl) (fun _=>by first|rfl|go_simp) (fun V d=>az.out V) ?_;simp only[Act.put,zb,zd,ze];refine ai (.int .i64 MX) (by rfl) (fun _ _=>by first|rfl|go_simp) ?_;simp only[Act.put,zb,zd,ze];refine ai (.bool false) (by rfl) (fun _ _=>by first|rfl|go_simp) ?_;simp only[Act.put,zb,zd,ze];refine ai (.bool false) (by rfl) (fun _ _=>by first|rfl|go_simp) ?_;simp only[Act.put,zb,zd,ze];refine ai (.bool false) (by rfl) (fun _ _=>by first|rfl|go_simp) ?_;simp only[Act.put,zb,zd,ze];refine ai (.pointer (some ⟨g,0,none⟩)) (by rfl) (fun _ _=>by first|rfl|go_simp) ?_;simp only[Act.put,zb,zd,ze]
     refine bU 21 _ (.int .i64 (z.laid:Nat)) (by rfl) (fun _=>by first|rfl|go_simp) (fun V d=>Dq (fo _ _ _ _ _ _ _ _ _ (R.out.below d).s)) ?_;simp only[Act.put,zb,zd,ze];refine ai (.int .i64 (r.size:Nat)) (by rfl) (fun _ _=>by first|rfl|go_simp) ?_;simp only[Act.put,zb,zd,ze];refine ai (.bool false) (by rfl) (fun _ _=>by first|rfl|go_simp) ?_;simp only[Act.put,zb,zd,ze];refine ai (.bool false) (by rfl) (fun _ _=>by first|rfl|go_simp) ?_;simp only[Act.put,zb,zd,ze];refine xg ?_;intro wc K;have m:=za (R.out.below K);have o:Hid (Below (w.heap.size+1) W wc):=za (E.out.trans (K.mono (b.out wa E.out).siz));clear K R E;clear jA aL;by_cases u:c.fm=3;focus
      have ag:(c.fm==3)=true:=by rw[u];rfl
      have ab:=za (aN.out u);clear u
     rotate_left
     focus
      have ag:(c.fm==3)=false:=zo.2 u;have ab:=za (aD.out u);clear u
     all_goals
      obtain⟨B,F,I,H,C,G⟩:=eR (b.out wc o.out).cf;have q:=(b.out wc o.out).siz;have af:=ab.out;go_wp2_with fail
      refine(fo _ _ _ _ _ _ _ _ _ m.out.s).mono ?_;rintro e w' ⟨rfl,rfl⟩;have p1:=ah.out wc o.out;go_wp2_with fail
      refine(ad.out _ _ wc m.out).mono ?_;rintro e wd ⟨aP,N,rfl,LR,L,tC⟩;have aa:=za (m.out.frm LR L tC);have JV:Hid (Below (w.heap.size+1) W wd):=za (o.out.trans (L.below q (fun k hk=>by have:=m.out.f.qp k hk;have:=SA.out;omega)));clear LR L tC B F I H C G q p1 af m o;have pJ:=UP.out;go_wp2_with fail
      refine(F9 _ _ _ _ _ _ aa.out.f).mono ?_;rintro e w' ⟨rfl,rfl⟩;go_wp2_with fail
      refine(fo _ _ _ _ _ _ _ _ _ aa.out.s).mono ?_;rintro e w' ⟨rfl,rfl⟩;go_wp2;go_roundw
      case rel=>exact⟨j+1,z,y2,ak,N,by go_num,by omega,aa,an,aj,JV⟩
      case measure=>simp[intOf];omega
    have aT:(er==0)=false:=zo.2 h1;clear h1;go_wp2_with fail
    refine eI (by kernel_rfl) (by kernel_rfl) ?_;refine ai (.int .i64 er) (by rfl) (fun _ _=>by first|rfl|go_simp) ?_;simp only[Act.put,zb,zd,ze];refine ai (.bool false) (by rfl) (fun _ _=>by first|rfl|go_simp) ?_;simp only[Act.put,zb,zd,ze];refine ai (.bool false) (by rfl) (fun _ _=>by first|rfl|go_simp) ?_;simp only[Act.put,zb,zd,ze];iterate 6
     refine wI (by rfl) ?_;simp only[Act.put,zb,zd,ze]
    refine ai (.bool false) (by rfl) (fun _ _=>by first|rfl|go_simp) ?_;simp only[Act.put,zb,zd,ze];refine ai (.bool false) (by rfl) (fun _ _=>by first|rfl|go_simp) ?_;simp only[Act.put,zb,zd,ze];refine ai (.pointer (some ⟨g,0,none⟩)) (by rfl) (fun _ _=>by first|rfl|go_simp) ?_;simp only[Act.put,zb,zd,ze];refine bU 21 _ (.int .i64 (z.laid:Nat)) (by rfl) (fun _=>by first|rfl|go_simp) (fun V d=>Dq (fo _ _ _ _ _ _ _ _ _ (R.out.below d).s)) ?_;simp only[Act.put,zb,zd,ze];refine ai (.int .i64 (r.size:Nat)) (by rfl) (fun _ _=>by first|rfl|go_simp) ?_;simp only[Act.put,zb,zd,ze];refine ai (.bool false) (by rfl) (fun _ _=>by first|rfl|go_simp) ?_;simp only[Act.put,zb,zd,ze];refine ai (.bool false) (by rfl) (fun _ _=>by first|rfl|go_simp) ?_;simp only[Act.put,zb,zd,ze];refine xg ?_;intro wc K;have m:=za (R.out.below K);have o:Hid (Below (w.heap.size+1) W wc):=za (E.out.trans (K.mono (b.out wa E.out).siz));clear K R E;by_cases u:c.fm=3;focus
     have ag:(c.fm==3)=true:=by rw[u];rfl
     have ab:=za (aN.out u);clear u
    rotate_left
    focus
     have ag:(c.fm==3)=false:=zo.2 u;have ab:=za (aD.out u);clear u
    all_goals
     obtain⟨B,F,I,H,C,G⟩:=eR (b.out wc o.out).cf;have q:=(b.out wc o.out).siz;have af:=ab.out;go_wp2_with fail
     refine(fo _ _ _ _ _ _ _ _ _ m.out.s).mono ?_;rintro e w' ⟨rfl,rfl⟩;have p1:=ah.out wc o.out;go_wp2_with fail
     refine(ad.out _ _ wc m.out).mono ?_;rintro e wd ⟨aP,N,rfl,LR,L,tC⟩;have aa:=za (m.out.frm LR L tC);have JV:Hid (Below (w.heap.size+1) W wd):=za (o.out.trans (L.below q (fun k hk=>by have:=m.out.f.qp k hk;have:=SA.out;omega)));clear LR L tC B F I H C G q p1 af m o;go_wp2;go_roundw
     case rel=>exact⟨j+1,z,y2,ak,N,by go_num,by omega,aa,an,aj,JV⟩
     case measure=>simp[intOf];omega
   have aZ:(x.fault==0)=false:=zo.2 D;obtain⟨S,b2,Y,Z,b5,U,hu⟩:=DP.out;have Ly:decide ((z.laid:Int)<0)=false:=zv (by omega);have ab:Hid (z.laid<=0):=za (by rw[Y D];exact zg _);have aT:(er==0)=false:=zo.2 (U D);clear S b2 Y Z b5 U hu D;go_wp2_with fail
   refine eI (by kernel_rfl) (by kernel_rfl) ?_;refine ai (.int .i64 er) (by rfl) (fun _ _=>by first|rfl|go_simp) ?_;simp only[Act.put,zb,zd,ze];refine ai (.bool false) (by rfl) (fun _ _=>by first|rfl|go_simp) ?_;simp only[Act.put,zb,zd,ze];refine ai (.bool false) (by rfl) (fun _ _=>by first|rfl|go_simp) ?_;simp only[Act.put,zb,zd,ze];iterate 6
    refine wI (by rfl) ?_;simp only[Act.put,zb,zd,ze]
   refine ai (.bool false) (by rfl) (fun _ _=>by first|rfl|go_simp) ?_;simp only[Act.put,zb,zd,ze];refine ai (.bool false) (by rfl) (fun _ _=>by first|rfl|go_simp) ?_;simp only[Act.put,zb,zd,ze];refine ai (.pointer (some ⟨g,0,none⟩)) (by rfl) (fun _ _=>by first|rfl|go_simp) ?_;simp only[Act.put,zb,zd,ze];refine bU 21 _ (.int .i64 (z.laid:Nat)) (by rfl) (fun _=>by first|rfl|go_simp) (fun V d=>Dq (fo _ _ _ _ _ _ _ _ _ (R.out.below d).s)) ?_;simp only[Act.put,zb,zd,ze];refine ai (.int .i64 0) (by rfl) (fun _ _=>by first|rfl|go_simp) ?_;simp only[Act.put,zb,zd,ze];refine ai (.bool false) (by rfl) (fun _ _=>by first|rfl|go_simp) ?_;simp only[Act.put,zb,zd,ze];refine ai (.bool false) (by rfl) (fun _ _=>by first|rfl|go_simp) ?_;simp only[Act.put,zb,zd,ze];refine xg ?_;intro wc K;have m:=za (R.out.below K);have o:Hid (Below (w.heap.size+1) W wc):=za (E.out.trans (K.mono (b.out wa E.out).siz));clear K R E;rcases(show(c.fm==3)=true\/(c.fm==3)=false by cases (c.fm==3)<;>simp)with ag|ag;all_goals
    obtain⟨B,F,I,H,C,G⟩:=eR (b.out wc o.out).cf;have q:=(b.out wc o.out).siz;have af:=ab.out;go_wp2_with fail
    refine(fo _ _ _ _ _ _ _ _ _ m.out.s).mono ?_;rintro e w' ⟨rfl,rfl⟩;have p1:=ah.out wc o.out;go_wp2_with fail
    refine(ad.out _ _ wc m.out).mono ?_;rintro e wd ⟨aP,N,rfl,LR,L,tC⟩;have aa:=za (m.out.frm LR L tC);have JV:Hid (Below (w.heap.size+1) W wd):=za (o.out.trans (L.below q (fun k hk=>by have:=m.out.f.qp k hk;have:=SA.out;omega)));clear LR L tC B F I H C G q p1 af m o;go_wp2;go_roundw
    case rel=>exact⟨j+1,z,y2,ak,N,by go_num,by omega,aa,an,aj,JV⟩
    case measure=>simp[intOf];omega
  obtain rfl:j=nq:=by omega
  go_wp2;go_ret;exact⟨rfl,(b.out wr sB.out).bel⟩
theorem AY (c:aI)(l:List bD)(u:Value)(b:List ByteArray)(d:Value)(W:World)(k:c.ok)(i:qj W W.heap.size u l/\∀e∈l,vz e)(j:Kz W W.heap.size d b/\∀s∈b,s.size<=9223372036854775807)(h:Laid W/\bq W):
 Calls prog 6 #[c.val,u,d] W fun e w'=>e= .returned (.bool true)/\Below W.heap.size W w':=
 AX c l u b d W k i.1 (fun e m=>(i.2 e m).id) j.1 j.2 h.1 h.2
theorem UA (h:laidMetH prog [("unicode/utf8.acceptRanges",Rows.laid_unicode_utf8_acceptRanges),("hatchway/compact.behind",Rows.laid_hatchway_compact_behind),("hatchway/schema.uintSizes",Rows.laid_hatchway_schema_uintSizes),("unicode/utf8.first",Rows.laid_unicode_utf8_first)] W):Laid W∧bq W:=by
 rw[MakeChecks.laidMetH_plain _ _ _ (by kernel_rfl)]at h;have c:prog.globalNamed "hatchway/compact.behind" =some 0:=by kernel_rfl
 have b:prog.globalNamed "hatchway/schema.uintSizes" =some 1:=by kernel_rfl
 have e:Lib.TabIs prog W "hatchway/compact.behind" .i64 [2,4,8]:=Lib.tabIs_of_head (k:= .i64) (zs:= [2,4,8]) (n:=3) c (by kernel_rfl) underlying264 yD (by kernel_rfl) (by kernel_rfl) h.tail;have d:Lib.TabIs prog W "hatchway/schema.uintSizes" .i64 [1,2,4,8]:=Lib.tabIs_of_head (k:= .i64) (zs:= [1,2,4,8]) (n:=4) b (by kernel_rfl) underlying292 yD (by kernel_rfl) (by kernel_rfl) h.tail.tail;exact⟨⟨d.cell b 0 (by simp),d.cell b 1 (by simp),d.cell b 2 (by simp),d.cell b 3 (by simp)⟩,⟨e.cell c 0 (by simp),e.cell c 1 (by simp),e.cell c 2 (by simp)⟩⟩
