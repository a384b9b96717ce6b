/- The example of registry, and of session. -/
import Derived.Test.YtdbmifjankgfpaaGreatDoorKA36
set_option linter.all false
set_option maxRecDepth 100000
set_option maxHeartbeats 3200000
open Go.Proofs.Tryz
namespace Go.Proofs.YtdbmifjankgfpaaGreatDoor
open Go.RowKit
def Gs :aN:=⟨2,0,9,9,2,9⟩
def bP :bC:=⟨5,⟨#[112,105,110,103]⟩,⟨#[117,56]⟩⟩
def nW :Ty:= .mk 1 1 [] 0
def ia :It:= .mk ⟨#[7]⟩ false []
theorem sm :nW.may=true:=by simp[nW,Ty.may,Ty.count,Ty.deep,Ty.right,bc,dI,bM,ga]
theorem pH :cP bP.ty.data.toList=some nW:=by
 have h:aJ 8 bP.ty.data.toList=some (nW,[]):=by rfl
 rw[wD h,sm,zi rfl]
theorem tz :bP.shape=nW:=by unfold bC.shape;rw[pH];rfl
theorem QX :gU nW ia 2 9=0:=by
 rw[l5];refine⟨?_, ?_⟩
 ·unfold eO;rw[sm];simp[nW,ia,It.may,It.right,It.deep,It.count,dh,cJ,aM,formed,It.dj,cV,oJ,gB,ByteArray.size]
 rw[pj];simp[ia,It.may,It.right,It.deep,It.count,dh,cJ,aM,formed,ByteArray.size]
theorem wQ :ia.gI= [7]:=by
 simp[ia,It.gI,ByteArray.size]
theorem NR :fG [bP] ⟨#[112,105,110,103]⟩=some bP:=by
 simp[fG,bP]
theorem Gt :bI Gs [bP] ⟨#[112,105,110,103]⟩ ia=(⟨5,⟨#[]⟩,⟨#[7]⟩⟩,0):=by
 have b:bY Gs nW ia=(⟨#[7]⟩,0):=by
  unfold bY;rw[zh (by simp[Gs])];show(if gU nW ia 2 9=0 then _ else _,gU nW ia 2 9)=_
  rw[QX,zi rfl,wQ]
 unfold bI;rw[NR];simp only[tz,b];simp[Gs,bP];rfl
theorem NS (w:World)(B:Nat)(t:ByteArray)(l:Bool)(h:t.size<=9223372036854775807):dg w B (.mk t l []) (.string t) (.bool l) (.slice none 0 0):=PY w B t l h
structure wR (lo:Nat):Prop where
 a:1<lo
 b:0<lo
theorem sn {w w':World}{lo:Nat}{L:List Nat}(e:Laid w/\ba w)(c:wR lo)(d:ae L w w')(h:∀k∈L,lo<=k):Laid w'/\ba w':=
 ⟨e.1.only d (fun b=>by have:=h _ b;have:=c.a;omega),e.2.only d (fun b=>by have:=h _ b;have:=c.b;omega)⟩
theorem dJ.qV {w:World}{lo hi g:Nat}{b:Value}{c:aN}{l:List bC}{x:eU}{d:Nat}(h:dJ w lo hi g b c l x d):∀k∈mH g b,lo<=k:=fun k e=>by have:=h.TW k e;have:=h.lohi;omega
theorem DL (c:aN)(f:Fr)(hid:f.id<18446744073709551616)(h:(aX c f).2=0):(aX c f).1.size<=70000:=by
 unfold aX at h⊢;by_cases j:c.fm=1
 ·rw[zi j]at h⊢;by_cases e:b8 f.nm=true
  ·rw[zi e]at h⊢;by_cases b:65536<f.body.size
   ·rw[zi b]at h;exact absurd h (by decide)
   rw[zh b];simp only;rw[lW c.mg f.nm f.body (dC e).2];omega
  rw[zh e]at h;exact absurd h (by decide)
 rw[zh j]at h⊢;by_cases b:c.fm=2
 ·rw[zi b]at h⊢;by_cases d:65536<(aQ f.id).length+f.body.size
  ·rw[zi d]at h;exact absurd h (by decide)
  rw[zh d];simp only;rw[bB];have i:=bo 10 ((aQ f.id).length+f.body.data.toList.length) (by rw[aa];omega) (by omega);unfold eD;rw[zj,zj];rw[aa]at*;omega
 rw[zh b]at h⊢;by_cases d:c.un<f.body.size
 ·rw[zi d]at h;exact absurd h (by decide)
 rw[zh d]at h⊢;by_cases i:65536<(aQ f.id).length+(pack f.body.data.toList).length
 ·rw[zi i]at h;exact absurd h (by decide)
 rw[zh i];simp only;rw[bB];have k:=bo 10 ((aQ f.id).length+(pack f.body.data.toList).length) (by omega) (by omega);unfold eD;rw[zj,zj];omega
theorem JC {c:aN}{f:Fr}(hid:f.id<18446744073709551616)(h:(fx c f).2=0):(fx c f).1.size<=70000:=by
 unfold fx at h⊢;split
 ·rename_i d
  rw[zi d]at h;by_cases b:(aX c f).2≠0
  ·rw[zi b]at h;exact absurd h b
  rw[zh b]at h⊢;split
  ·exact yc _
  exact DL c f hid (zC.1 b)
 exact yc _
theorem Gu {c:aN}{l:List bC}(hid:Py l){nm:ByteArray}{x:It}(h:(cL c l nm x).2=0):(cL c l nm x).1.size<=70000:=by
 obtain⟨d,b⟩:=FA h;rw[b]at h⊢;exact JC (FB hid d) h
theorem QY {d:Type}(c:Nx d)(x:eU)(s:ByteArray):(mX c x s).1.told=x.told+(mX c x s).2.1.length:=by
 by_cases b:x.fault=0
 ·rw[fq b]
 rw[fY b];simp
theorem JD (c:aN)(l:List bC)(x:eU)(s:ByteArray):(mX (aL c l) x s).1.buf.size<=x.buf.size+s.size/\(mX (aL c l) x s).2.1.length<=x.buf.size+s.size:=by
 by_cases b:x.fault=0
 ·rw[fq b];have d:=IF c l (x.buf++s);have e:=IG c l (x.buf++s);rw[bD]at d e;exact⟨e,d⟩
 rw[fY b];exact⟨by simp only;omega,by simp⟩
def iX :aN:=⟨3,0,50,50,2,9⟩
theorem Gv :iX.ok:=⟨by decide,by decide,by decide,by decide,by decide,by decide⟩
theorem Gw :bI iX [bP] ⟨#[112,105,110,103]⟩ ia=bI Gs [bP] ⟨#[112,105,110,103]⟩ ia:=rfl
theorem NT :(fx iX ⟨5,⟨#[]⟩,⟨#[7]⟩⟩).2=0:=by decide+kernel
theorem wS :(cL iX [bP] ⟨#[112,105,110,103]⟩ ia).2=0:=by
 unfold cL;rw[Gw,Gt,zh (by simp)];exact NT
theorem DM :mQ iX [bP]=0:=by
 rw[oA (by decide) (by simp)];have b:fP iX [] bP=0:=by
  unfold fP;rw[zh (by decide),zh (by simp),zh (by simp),pH,zh (by simp),zh (by simp[iX])]
 simp[iT,b]
theorem Ln :Py [bP]:=fun e b=>by
 obtain rfl:=yS.1 b;simp[bP]
theorem QZ :∃(b:ByteArray) (k:Nat),cL iX [bP] ⟨#[112,105,110,103]⟩ ia=(b,0)/\b.size<=70000/\mX (aL iX [bP]) eU.new b=(⟨ByteArray.empty,0,b.size+k,1⟩,[⟨⟨#[112,105,110,103]⟩,ia⟩],0):=by
 obtain⟨e,_,h⟩:=Pw DM;obtain⟨y,k,_,d,i,_⟩:=Pz (nm:=⟨#[112,105,110,103]⟩) (x:=ia) e h Ln wS (by rw[wQ];simp);obtain rfl:=i (by decide);have c:=Gu Ln wS;refine⟨_,k,ZH rfl wS,c, ?_⟩;rw[fq rfl,show eU.new.buf++(cL iX [bP] ⟨#[112,105,110,103]⟩ ia).1=(cL iX [bP] ⟨#[112,105,110,103]⟩ ia).1 from by simp[eU.new],d];rfl
theorem Lo (w:World)(c:Laid w)(m:ba w):Calls prog 7 #[] w fun e w'=>e= .returned (.bool true)/\Below w.heap.size w w':=by
 obtain⟨W,d⟩:∃W,w.alloc (.cells #[.int .u64 5,.string ⟨#[112,105,110,103]⟩,.string ⟨#[117,56]⟩] 48)=W:=⟨_,rfl⟩
 have i:Below w.heap.size w W:=by rw[<-d];exact(zl _ w).alloc (zd _) _
 have U1:w.heap.size<W.heap.size:=by rw[<-d];simp
 have s:af W w.heap.size 48 #[.int .u64 5,.string ⟨#[112,105,110,103]⟩,.string ⟨#[117,56]⟩]:=by rw[<-d];exact af.new _ _ _
 have G:po W W.heap.size (.slice (some ⟨w.heap.size,0,none⟩) 1 1) [bP]:=⟨_,1,rfl,by simp,by simp,fun j hj=>by
  obtain rfl:j=0:=by simp at hj;omega
  exact⟨_,_,rfl,by omega,s.cell 0,s.cell 1,s.cell 2⟩⟩
 have N:=za (Lm iX [bP] _ W.heap.size W G (zd _) (c.below i c.pos) (by
  intro e O;obtain rfl:=yS.1 O;exact⟨by decide,by simp[bP,ByteArray.size],by simp[bP,ByteArray.size]⟩))
 have q:=za (And.intro (c.below i c.pos) (m.below i m.pos));have L:Hid (wR w.heap.size):=za ⟨c.pos,m.pos⟩;have X:=za d;have Y:=za i;obtain⟨D,_,_⟩:=Pw DM;obtain⟨b,kb,Z,CH,aa⟩:=QZ;have R:=za D;clear d i s G c m D;unfold iX aN.val at N;go_enter func7,ntmps7
 go_wp2_with fail
 rw[X.out];refine N.out.mono ?_;rintro e p ⟨n,U⟩;rcases U with⟨_,lo,hi,g,lN,rfl,u⟩|⟨cB,_⟩
 ·have J:=za (Y.out.trans (n.mono (by omega)));have x:=za (And.intro (q.out.1.below n q.out.1.pos) (q.out.2.below n q.out.2.pos));have SK:Hid (dJ p lo hi g (.slice none 0 0) iX [bP] eU.new 0):=za u;have y:Hid (wR lo):=za ⟨by have:=L.out.a;omega,by have:=L.out.b;omega⟩;have J7:w.heap.size<=lo:=by omega
  have ae:lo<=g:=by have:=u.lohi;have:=u.Ho;omega
  have l:=za (QW lo hi g _ iX [bP] eU.new 0 ⟨#[112,105,110,103]⟩ ia p.heap.size p _ _ _ Gv SK.out (NS p _ ⟨#[7]⟩ false (by simp[ByteArray.size])) (zd _) x.out.1 x.out.2 (fun _=>by rw[wQ];simp) (by rw[Gw,Gt];exact⟨by decide,by decide,by decide⟩) (by omega));rw[Z]at l;simp only[zi]at l;clear n u;go_wp2_with fail
  refine l.out.mono ?_;rintro e K ⟨rfl,z,A⟩;have H:=za (J.out.trans (A.below J.out.size (by simp;omega)));have B:=za (sn x.out y.out A (by simp;omega));have r:=za (lH lo hi g _ iX [bP] eU.new 1 b K R.out Gv z B.out.1 B.out.2 y.out.a y.out.b (by simp[eU.new];omega) (by decide));rw[aa]at r;simp only at r;have Ve:=za z.qV;clear z A l;go_wp2_with fail
  refine r.out.mono ?_;rintro e w4 ⟨rv,ab,rfl,I,F,M,_⟩;have ei:=za (H.out.trans (M.below H.out.size (fun k hk=>zF J7 (Ve.out k hk))));obtain⟨A4,D8,rfl,S,ag,E⟩:=A7.reads (cd.fe I (S1:=(K.heap.size<= ·)) (fun _ _ h=>h.1) (zd _));obtain⟨gg,o,d0,d1,d2,d3,rfl,_,e0,_,_,_,C⟩:=E.at_ 0 (by simp);obtain⟨_,_,rfl,_⟩:=C.open_;have ad:=za (DK lo hi g ab iX _ _ _ w4 F);simp at e0;have hz:ByteArray.empty.size=0:=rfl;clear I F M E C r;simp only[yv]at S⊢;go_wp2_with fail
  refine ad.out.mono ?_;rintro e w5 ⟨rfl,rfl⟩;go_wp2;go_ret;exact⟨rfl,ei.out⟩
 exact absurd DM cB
def oB (c:aN)(l:List bC):Bool:= !mf l&&decide (mQ c l=0)
theorem JE {c:aN}{l:List bC}(h:oB c l=true)(hid:∀e∈l,e.id<18446744073709551616):mQ c l=0/\∀e∈l,oV e:=by
 simp only[oB,zx,Bool.not_eq_true',zY]at h;exact⟨h.2,(Cw h.1 hid).2⟩
theorem NU (c:aN)(l:List bC)(v:Value)(B:Nat)(w:World)(o:po w B v l)(C:B<=w.heap.size)(hid:∀e∈l,e.id<18446744073709551616):
 Calls prog 8 #[c.val,v] w fun e w'=>e= .returned (.bool (oB c l))/\Below w.heap.size w w':=by
 obtain⟨A,n,cap,rfl,R,J,M⟩:=o.bT;obtain⟨b,d⟩:∃b,w.alloc (.cells #[.int .i64 c.fm,.int .u32 c.mg,.int .i64 c.fr,.int .i64 c.un,.int .i64 c.de,.int .i64 c.it] 24)=b:=⟨_,rfl⟩
 have k:Below w.heap.size w b:=by rw[<-d];exact(zl _ w).alloc (zd _) _
 have I:b.heap.size=w.heap.size+1:=by rw[<-d];simp
 have r:af b w.heap.size 24 #[.int .i64 c.fm,.int .u32 c.mg,.int .i64 c.fr,.int .i64 c.un,.int .i64 c.de,.int .i64 c.it]:=by rw[<-d];exact af.new w _ _
 have p:=o.below (k.mono C);have u:=za d;have s:=za k;obtain⟨K,N,O,L,H,G⟩:=fh r;have q:=za (NF l _ B b p);obtain⟨m,j⟩:∃m,mf l=m:=⟨_,rfl⟩
 rw[j]at q;have x:Hid (oB c l=(!m&&decide (mQ c l=0))):=za (by unfold oB;rw[j]);rw[x.out];cases m with
 |true=>
  clear o hid j d k p r;unfold aN.val;go_enter func8,ntmps8
  go_wp2_with fail
  rw[u.out];refine q.out.mono ?_;rintro e w' ⟨rfl,i⟩;rw[i];clear i w';go_wp2;go_ret;exact⟨rfl,s.out⟩
 |false=>
  have F:=za (Jq c l _ B b p (by omega) (Cw j hid).2);generalize mQ c l=E at*;unfold aN.val at*;have S:((E==0):Bool)=decide (E=0):=by
   by_cases h:E=0<;>simp[h]
  clear o hid j d k p r;go_enter func8,ntmps8
  go_wp2_with fail
  rw[u.out];refine q.out.mono ?_;rintro e w' ⟨rfl,i⟩;rw[i];clear i w';go_wp2_with fail
  refine F.out.mono ?_;rintro e z ⟨rfl,y⟩;have D:Hid (Below w.heap.size w z):=za (s.out.trans (y.mono (by omega)));go_wp2;go_ret;exact⟨aY (by simp),D.out⟩
theorem pI (c:aN)(l:List bC)(v:Value)(B:Nat)(w:World)(j:po w B v l)(C:B<=w.heap.size)(k:Laid w)(h:∀e∈l,oV e)(p:mQ c l=0):
 Calls prog 10 #[c.val,v] w fun e w'=>∃lo hi g,w.heap.size<=lo/\e= .returned (.pointer (some ⟨g,0,none⟩))/\dJ w' lo hi g (.slice none 0 0) c l eU.new 0/\Below w.heap.size w w':=by
 obtain⟨A,n,cap,rfl,R,K,N⟩:=j.bT;obtain⟨b,d⟩:∃b,w.alloc (.cells #[.int .i64 c.fm,.int .u32 c.mg,.int .i64 c.fr,.int .i64 c.un,.int .i64 c.de,.int .i64 c.it] 24)=b:=⟨_,rfl⟩
 have i:Below w.heap.size w b:=by rw[<-d];exact(zl _ w).alloc (zd _) _
 have J:b.heap.size=w.heap.size+1:=by rw[<-d];simp
 have o:af b w.heap.size 24 #[.int .i64 c.fm,.int .u32 c.mg,.int .i64 c.fr,.int .i64 c.un,.int .i64 c.de,.int .i64 c.it]:=by rw[<-d];exact af.new w _ _
 have q:=j.below (i.mono C);have z:=za d;have u:=za i;obtain⟨L,O,S,M,I,H⟩:=fh o;have G:=za (Lm c l _ B b q (by omega) (k.below i k.pos) h);have s:=za p;clear j h p k d i q o;unfold aN.val at*;go_enter func10,ntmps10
 go_wp2_with fail
 rw[z.out];refine G.out.mono ?_;rintro e y ⟨m,r⟩;have D:Hid (Below w.heap.size w y):=za (u.out.trans (m.mono (by omega)));rcases r with⟨_,lo,hi,g,U,rfl,h⟩|⟨E,_⟩
 ·have x:=za h;have F:w.heap.size<=lo:=by omega
  clear h m;go_wp2;go_ret;exact⟨lo,hi,g,F,rfl,x.out,D.out⟩
 exact absurd s.out E
