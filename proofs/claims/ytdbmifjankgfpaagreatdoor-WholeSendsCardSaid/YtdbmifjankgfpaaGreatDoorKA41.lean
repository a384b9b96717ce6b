/- The example of registry, and of session. -/
import Derived.Test.YtdbmifjankgfpaaGreatDoorKA39
import Derived.Test.YtdbmifjankgfpaaGreatDoorKA44
import Derived.Test.YtdbmifjankgfpaaGreatDoorRows
import Derived.Lib.LaidTab
import Derived.Stop.LaidErr
import Derived.MakeChecks
set_option linter.all false
set_option maxRecDepth 100000
set_option maxHeartbeats 16000000
open Go.Proofs.Tryz
namespace Go.Proofs.YtdbmifjankgfpaaGreatDoor
open Go.RowKit
variable {l:List bz}{w W V:World}{nm:ByteArray}{x:It}{v:Value}{P:Program}{ops:Array Oper}
def Gw :aP:=⟨2,0,9,9,2,9⟩
def ej :bz:=⟨5,⟨#[112,105,110,103]⟩,⟨#[117,56]⟩⟩
def oU :Ty:= .mk 1 1 [] 0
def hZ :It:= .mk ⟨#[7]⟩ false []
theorem Cl :oU.may=true:=by simp[oU,Ty.may,Ty.count,Ty.deep,Ty.right,ba,dR,bR,fW]
theorem wN :cT ej.ty.data.toList=some oU:=by
 have h:aL 8 ej.ty.data.toList=some (oU,[]):=by rfl
 rw[wu h,Cl,zi rfl]
theorem Gx :ej.shape=oU:=by unfold bz.shape;rw[wN];rfl
theorem Rm :eJ oU hZ 2 9=0:=by
 rw[lS];refine⟨?_, ?_⟩
 ·unfold cU;rw[Cl];simp[oU,hZ,It.may,It.right,It.deep,It.count,bH,bA,ay,formed,It.cI,bN,k8,fC,ByteArray.size]
 rw[pb];simp[hZ,It.may,It.right,It.deep,It.count,bH,bA,ay,formed,ByteArray.size]
theorem wO :hZ.fO= [7]:=by
 simp[hZ,It.fO,ByteArray.size]
theorem Ob :dw [ej] ⟨#[112,105,110,103]⟩=some ej:=by
 simp[dw,ej]
theorem Gy :bc Gw [ej] ⟨#[112,105,110,103]⟩ hZ=(⟨5,⟨#[]⟩,⟨#[7]⟩⟩,0):=by
 have b:bE Gw oU hZ=(⟨#[7]⟩,0):=by
  unfold bE;rw[zh (by simp[Gw])];show(if eJ oU hZ 2 9=0 then _ else _,eJ oU hZ 2 9)=_
  rw[Rm,zi rfl,wO]
 unfold bc;rw[Ob];simp only[Gx,b];simp[Gw,ej];rfl
theorem Oc (w:World)(B:Nat)(t:ByteArray)(l:Bool)(h:t.size<=9223372036854775807):bT w B (.mk t l []) (.string t) (.bool l) (.slice none 0 0):=Qd w B t l h
structure LA (lo:Nat):Prop where
 a:1<lo
 b:0<lo
theorem Od {w':World}{d:Nat}{L:List Nat}(i:Laid w/\bj w)(e:LA d)(c:ae L w w')(h:∀k∈L,d<=k):Laid w'/\bj w':=
 ⟨i.1.only c (fun b=>by have:=h _ b;have:=e.a;omega),i.2.only c (fun b=>by have:=h _ b;have:=e.b;omega)⟩
theorem dZ.UE {b hi g:Nat}{d:Value}{c:aP}{x:gE}{i:Nat}(h:dZ w b hi g d c l x i):∀k∈qs g d,b<=k:=fun k e=>by have:=h.TW k e;have:=h.lohi;omega
theorem Dz (c:aP)(f:Fr)(hid:f.id<18446744073709551616)(h:(aM c f).2=0):(aM c f).1.size<=70000:=by
 unfold aM at h⊢;by_cases j:c.fm=1
 ·rw[zi j]at h⊢;by_cases i:bZ f.nm=true
  ·rw[zi i]at h⊢;by_cases b:65536<f.body.size
   ·rw[zi b]at h;exact absurd h (by decide)
   rw[zh b];simp only;rw[lP c.mg f.nm f.body (dH i).2];omega
  rw[zh i]at h;exact absurd h (by decide)
 rw[zh j]at h⊢;by_cases b:c.fm=2
 ·rw[zi b]at h⊢;by_cases d:65536<(aR f.id).length+f.body.size
  ·rw[zi d]at h;exact absurd h (by decide)
  rw[zh d];simp only;rw[bI];have e:=bB 10 ((aR f.id).length+f.body.data.toList.length) (by rw[aa];omega) (by omega);unfold eI;rw[zj,zj];rw[aa]at*;omega
 rw[zh b]at h⊢;by_cases d:c.un<f.body.size
 ·rw[zi d]at h;exact absurd h (by decide)
 rw[zh d]at h⊢;by_cases e:65536<(aR f.id).length+(pack f.body.data.toList).length
 ·rw[zi e]at h;exact absurd h (by decide)
 rw[zh e];simp only;rw[bI];have k:=bB 10 ((aR f.id).length+(pack f.body.data.toList).length) (by omega) (by omega);unfold eI;rw[zj,zj];omega
theorem JO {c:aP}{f:Fr}(hid:f.id<18446744073709551616)(h:(eU c f).2=0):(eU c f).1.size<=70000:=by
 unfold eU at h⊢;split
 ·rename_i d
  rw[zi d]at h;by_cases b:(aM c f).2≠0
  ·rw[zi b]at h;exact absurd h b
  rw[zh b]at h⊢;split
  ·exact yh _
  exact Dz c f hid (zH.1 b)
 exact yh _
theorem tt {c:aP}(hid:PT l)(h:(bF c l nm x).2=0):(bF c l nm x).1.size<=70000:=by
 obtain⟨d,b⟩:=Fq h;rw[b]at h⊢;exact JO (Ft hid d) h
theorem Gz {c:aP}(p:∀e∈l,nz e)(hx:x.count<=1000000)(r:x.fO.length<=1000000):(bc c l nm x).1.ok:=by
 by_cases i:(bc c l nm x).2=0
 ·obtain⟨e,o,b,n⟩:=lj i;have j:=p e (gx o).1;have h:(bE c e.shape x).1.size<=9223372036854775807:=by
   by_cases k:c.fm=1
   ·unfold bE at b⊢;rw[zi k]at b⊢;unfold lh at b⊢;by_cases d:fI e.shape x c.it=0
    ·rw[zi d];obtain⟨m,q,_⟩:=BS d;have:=Lo x e.shape (jI m).2.1 (rG q).2.2;simp only;rw[bI];omega
    rw[zh d];exact yh _
   rw[(rJ k b (by omega)).2,bI];omega
  rw[n];split
  ·exact⟨by simp,by have:=j.name;simp only;omega,h⟩
  exact⟨j.id,by simp,h⟩
 rw[B0 i];exact⟨by simp[mQ],by simp[mQ],by simp[mQ]⟩
theorem Rn {c:Type}(nx:Nx c)(x:gE)(s:ByteArray):(mN nx x s).1.told=x.told+(mN nx x s).2.1.length:=by
 by_cases b:x.fault=0
 ·rw[gj b]
 rw[eX b];simp
theorem JP (c:aP)(l:List bz)(x:gE)(s:ByteArray):(mN (aX c l) x s).1.buf.size<=x.buf.size+s.size/\(mN (aX c l) x s).2.1.length<=x.buf.size+s.size:=by
 by_cases d:x.fault=0
 ·rw[gj d];have e:=II c l (x.buf++s);have b:=IJ c l (x.buf++s);rw[bW]at e b;exact⟨b,e⟩
 rw[eX d];exact⟨by simp only;omega,by simp⟩
def iO :aP:=⟨3,0,50,50,2,9⟩
theorem GA :iO.ok:=⟨by decide,by decide,by decide,by decide,by decide,by decide⟩
theorem GB :bc iO [ej] ⟨#[112,105,110,103]⟩ hZ=bc Gw [ej] ⟨#[112,105,110,103]⟩ hZ:=rfl
theorem Oe :(eU iO ⟨5,⟨#[]⟩,⟨#[7]⟩⟩).2=0:=by decide+kernel
theorem wP :(bF iO [ej] ⟨#[112,105,110,103]⟩ hZ).2=0:=by
 unfold bF;rw[GB,Gy,zh (by simp)];exact Oe
theorem DA :nh iO [ej]=0:=by
 rw[rY (by decide) (by simp)];have b:gD iO [] ej=0:=by
  unfold gD;rw[zh (by decide),zh (by simp),zh (by simp),wN,zh (by simp),zh (by simp[iO])]
 simp[jf,b]
theorem LB :PT [ej]:=fun e b=>by
 obtain rfl:=xd.1 b;simp[ej]
theorem Ro :∃(b:ByteArray) (k:Nat),bF iO [ej] ⟨#[112,105,110,103]⟩ hZ=(b,0)/\b.size<=70000/\mN (aX iO [ej]) gE.new b=(⟨ByteArray.empty,0,b.size+k,1⟩,[⟨⟨#[112,105,110,103]⟩,hZ⟩],0):=by
 obtain⟨d,_,c⟩:=PR DA;obtain⟨y,k,_,e,i,_⟩:=Fu (nm:=⟨#[112,105,110,103]⟩) (x:=hZ) d c LB wP (by rw[wO];simp);obtain rfl:=i (by decide);have h:=tt LB wP;refine⟨_,k,ZB rfl wP,h, ?_⟩;rw[gj rfl,show gE.new.buf++(bF iO [ej] ⟨#[112,105,110,103]⟩ hZ).1=(bF iO [ej] ⟨#[112,105,110,103]⟩ hZ).1 from by simp[gE.new],e];rfl
theorem UF (w:World)(d:Laid w)(u:bj w):Calls prog 7 #[] w fun e w'=>e= .returned (.bool true)/\Below w.heap.size w w':=by
 obtain⟨W,l⟩:∃W,w.alloc (.cells #[.int .u64 5,.string ⟨#[112,105,110,103]⟩,.string ⟨#[117,56]⟩] 48)=W:=⟨_,rfl⟩
 have i:Below w.heap.size w W:=by rw[<-l];exact(zl _ w).alloc (zg _) _
 have Wt:w.heap.size<W.heap.size:=by rw[<-l];simp
 have q:af W w.heap.size 48 #[.int .u64 5,.string ⟨#[112,105,110,103]⟩,.string ⟨#[117,56]⟩]:=by rw[<-l];exact af.new _ _ _
 have D:pe W W.heap.size (.slice (some ⟨w.heap.size,0,none⟩) 1 1) [ej]:=⟨_,1,rfl,by simp,by simp,fun j U=>by
  obtain rfl:j=0:=by simp at U;omega
  exact⟨_,_,rfl,by omega,q.cell 0,q.cell 1,q.cell 2⟩⟩
 have O:=za (Lz iO [ej] _ W.heap.size W D (zg _) (d.below i d.pos) (by
  intro e he;obtain rfl:=xd.1 he;exact⟨by decide,by simp[ej,ByteArray.size],by simp[ej,ByteArray.size]⟩))
 have s:=za (And.intro (d.below i d.pos) (u.below i u.pos));have K:Hid (LA w.heap.size):=za ⟨d.pos,u.pos⟩;have X:=za l;have eE:=za i;obtain⟨N,_,_⟩:=PR DA;obtain⟨b,kb,R,DL,Th⟩:=Ro;have HR:=za N;clear l i q D d u N;unfold iO aP.val at O;go_enter func7,ntmps7
 go_wp2_with fail
 rw[X.out];refine O.out.mono ?_;rintro e x ⟨r,ec⟩;rcases ec with⟨_,c,hi,g,ox,rfl,p⟩|⟨cF,_⟩
 ·have G:=za (eE.out.trans (r.mono (by omega)));have B:=za (And.intro (s.out.1.below r s.out.1.pos) (s.out.2.below r s.out.2.pos));have Km:Hid (dZ x c hi g (.slice none 0 0) iO [ej] gE.new 0):=za p;have z:Hid (LA c):=za ⟨by have:=K.out.a;omega,by have:=K.out.b;omega⟩;have Ka:w.heap.size<=c:=by omega
  have ad:c<=g:=by have:=p.lohi;have:=p.GK;omega
  have m:=za (Gu c hi g _ iO [ej] gE.new 0 ⟨#[112,105,110,103]⟩ hZ x.heap.size x _ _ _ GA Km.out (Oc x _ ⟨#[7]⟩ false (by simp[ByteArray.size])) (zg _) B.out.1 B.out.2 (fun _=>by rw[wO];simp) (by rw[GB,Gy];exact⟨by decide,by decide,by decide⟩) (by omega));rw[R]at m;simp only[zi]at m;clear r p;go_wp2_with fail
  refine m.out.mono ?_;rintro e H ⟨rfl,y,A⟩;have M:=za (G.out.trans (A.below G.out.size (by simp;omega)));have J:=za (Od B.out z.out A (by simp;omega));have n:=za (Gt c hi g _ iO [ej] gE.new 1 b H HR.out GA y J.out.1 J.out.2 z.out.a z.out.b (by simp[gE.new];omega) (by decide));rw[Th]at n;simp only at n;have Vh:=za y.UE;clear y A m;go_wp2_with fail
  refine n.out.mono ?_;rintro e w4 ⟨rv,ab,rfl,I,C,F,_⟩;have dB:=za (M.out.trans (F.below M.out.size (fun k Z=>zK Ka (Vh.out k Z))));obtain⟨A4,DT,rfl,Y,ae,E⟩:=CZ.reads (cW.gQ I (S1:=(H.heap.size<= ·)) (fun _ _ h=>h.1) (zg _));obtain⟨gg,o,d0,d1,d2,d3,rfl,_,S,_,_,_,L⟩:=E.at_ 0 (by simp);obtain⟨_,_,rfl,_⟩:=L.open_;have aa:=za (Dy c hi g ab iO _ _ _ w4 C);simp at S;have hz:ByteArray.empty.size=0:=rfl;clear I C F E L n;simp only[yL]at Y⊢;go_wp2_with fail
  refine aa.out.mono ?_;rintro e w5 ⟨rfl,rfl⟩;go_wp2;go_ret;exact⟨rfl,dB.out⟩
 exact absurd DA cF
def od (c:aP)(l:List bz):Bool:= !l5 l&&decide (nh c l=0)
theorem JQ {c:aP}(h:od c l=true)(hid:∀e∈l,e.id<18446744073709551616):nh c l=0/\∀e∈l,nz e:=by
 simp only[od,zz,Bool.not_eq_true',zY]at h;exact⟨h.2,(Ci h.1 hid).2⟩
theorem Of (c:aP)(l:List bz)(v:Value)(B:Nat)(w:World)(o:pe w B v l)(z:B<=w.heap.size)(hid:∀e∈l,e.id<18446744073709551616):
 Calls prog 8 #[c.val,v] w fun e w'=>e= .returned (.bool (od c l))/\Below w.heap.size w w':=by
 obtain⟨A,n,cap,rfl,G,H,K⟩:=o.cH;obtain⟨b,d⟩:∃b,w.alloc (.cells #[.int .i64 c.fm,.int .u32 c.mg,.int .i64 c.fr,.int .i64 c.un,.int .i64 c.de,.int .i64 c.it] 24)=b:=⟨_,rfl⟩
 have k:Below w.heap.size w b:=by rw[<-d];exact(zl _ w).alloc (zg _) _
 have R:b.heap.size=w.heap.size+1:=by rw[<-d];simp
 have q:af b w.heap.size 24 #[.int .i64 c.fm,.int .u32 c.mg,.int .i64 c.fr,.int .i64 c.un,.int .i64 c.de,.int .i64 c.it]:=by rw[<-d];exact af.new w _ _
 have p:=o.below (k.mono z);have u:=za d;have s:=za k;obtain⟨S,N,L,M,I,J⟩:=eV q;have r:=za (NV l _ B b p);obtain⟨m,i⟩:∃m,l5 l=m:=⟨_,rfl⟩
 rw[i]at r;have y:Hid (od c l=(!m&&decide (nh c l=0))):=za (by unfold od;rw[i]);rw[y.out];cases m with
 |true=>
  clear o hid i d k p q;unfold aP.val;go_enter func8,ntmps8
  go_wp2_with fail
  rw[u.out];refine r.out.mono ?_;rintro e w' ⟨rfl,j⟩;rw[j];clear j w';go_wp2;go_ret;exact⟨rfl,s.out⟩
 |false=>
  have D:=za (Jz c l _ B b p (by omega) (Ci i hid).2);generalize nh c l=E at*;unfold aP.val at*;have O:((E==0):Bool)=decide (E=0):=by
   by_cases h:E=0<;>simp[h]
  clear o hid i d k p q;go_enter func8,ntmps8
  go_wp2_with fail
  rw[u.out];refine r.out.mono ?_;rintro e w' ⟨rfl,j⟩;rw[j];clear j w';go_wp2_with fail
  refine D.out.mono ?_;rintro e F ⟨rfl,C⟩;have x:Hid (Below w.heap.size w F):=za (s.out.trans (C.mono (by omega)));go_wp2;go_ret;exact⟨aT (by simp),x.out⟩
theorem JR (c:aP)(l:List bz)(v:Value)(B:Nat)(w:World)(m:pe w B v l)(D:B<=w.heap.size)(k:Laid w)(i:∀e∈l,nz e)(p:nh c l=0):
 Calls prog 10 #[c.val,v] w fun e w'=>∃d hi g,w.heap.size<=d/\e= .returned (.pointer (some ⟨g,0,none⟩))/\dZ w' d hi g (.slice none 0 0) c l gE.new 0/\Below w.heap.size w w':=by
 obtain⟨A,n,cap,rfl,I,J,M⟩:=m.cH;obtain⟨b,h⟩:∃b,w.alloc (.cells #[.int .i64 c.fm,.int .u32 c.mg,.int .i64 c.fr,.int .i64 c.un,.int .i64 c.de,.int .i64 c.it] 24)=b:=⟨_,rfl⟩
 have j:Below w.heap.size w b:=by rw[<-h];exact(zl _ w).alloc (zg _) _
 have U:b.heap.size=w.heap.size+1:=by rw[<-h];simp
 have o:af b w.heap.size 24 #[.int .i64 c.fm,.int .u32 c.mg,.int .i64 c.fr,.int .i64 c.un,.int .i64 c.de,.int .i64 c.it]:=by rw[<-h];exact af.new w _ _
 have r:=m.below (j.mono D);have y:=za h;have u:=za j;obtain⟨W,S,N,O,K,L⟩:=eV o;have F:=za (Lz c l _ B b r (by omega) (k.below j k.pos) i);have s:=za p;clear m i p k h j r o;unfold aP.val at*;go_enter func10,ntmps10
 go_wp2_with fail
 rw[y.out];refine F.out.mono ?_;rintro e H ⟨q,C⟩;have z:Hid (Below w.heap.size w H):=za (u.out.trans (q.mono (by omega)));rcases C with⟨_,d,hi,g,R,rfl,i⟩|⟨G,_⟩
 ·have x:=za i;have E:w.heap.size<=d:=by omega
  clear i q;go_wp2;go_ret;exact⟨d,hi,g,E,rfl,x.out,z.out⟩
 exact absurd s.out G
structure WhV (w V:World)(c:aP)(l:List bz)(v:Value):Prop where
 en:pe V w.heap.size v l
 laid:Laid V/\bj V
 siz:w.heap.size+1<=V.heap.size
 bel:Below w.heap.size w V
 cf:af V w.heap.size 24 #[.int .i64 c.fm,.int .u32 c.mg,.int .i64 c.fr,.int .i64 c.un,.int .i64 c.de,.int .i64 c.it]
theorem WhV.mk' {c:aP}(d:w.alloc (.cells #[.int .i64 c.fm,.int .u32 c.mg,.int .i64 c.fr,.int .i64 c.un,.int .i64 c.de,.int .i64 c.it] 24)=W)
 (j:pe w w.heap.size v l) (i:Laid w) (h:bj w) (e:Below (w.heap.size+1) W V):WhV w V c l v:=by
 have hz:W.heap.size=w.heap.size+1:=by rw[<-d];simp
 have m:Below w.heap.size w W:=by rw[<-d];exact(zl _ w).alloc (zg _) _
 have k:af W w.heap.size 24 #[.int .i64 c.fm,.int .u32 c.mg,.int .i64 c.fr,.int .i64 c.un,.int .i64 c.de,.int .i64 c.it]:=by rw[<-d];exact af.new w _ _
 have b:Below w.heap.size w V:=m.trans (e.mono (by omega));exact⟨j.below b,⟨i.below b i.pos,h.below b h.pos⟩,by have:=e.size;omega,b,k.ag e (by omega)⟩
structure SdW (w V:World)(c:aP)(l:List bz)(v:Value)(nm:ByteArray)(x:It)(Ax:Option Addr)(gV:Nat)(ks:List Nat)(kv:Value):Prop where
 toWhV:WhV w V c l v
 it:bT V w.heap.size x (.string x.text) (.bool x.list) (.slice Ax x.sub.length gV)
 nu:B6 V w.heap.size kv ks
 siz2:w.heap.size+2<=V.heap.size
 ms:af V (w.heap.size+1) 30 #[.string nm,.string x.text,.bool x.list,.slice Ax x.sub.length gV]
theorem SdW.mk' {c:aP}{d:Option Addr}{e:Nat}{m:List Nat}{k:Value}(b:(w.alloc (.cells #[.int .i64 c.fm,.int .u32 c.mg,.int .i64 c.fr,.int .i64 c.un,.int .i64 c.de,.int .i64 c.it] 24)).alloc (.cells #[.string nm,.string x.text,.bool x.list,.slice d x.sub.length e] 30)=W)
 (n:pe w w.heap.size v l) (o:bT w w.heap.size x (.string x.text) (.bool x.list) (.slice d x.sub.length e)) (s:B6 w w.heap.size k m) (q:Laid w) (r:bj w) (h:Below (w.heap.size+2) W V):SdW w V c l v nm x d e m k:=by
 have hz:W.heap.size=w.heap.size+2:=by rw[<-b];simp
 have p:af W (w.heap.size+1) 30 #[.string nm,.string x.text,.bool x.list,.slice d x.sub.length e]:=by rw[<-b];exact af.at_ (by simp)
 obtain⟨U,j⟩:∃U,w.alloc (.cells #[.int .i64 c.fm,.int .u32 c.mg,.int .i64 c.fr,.int .i64 c.un,.int .i64 c.de,.int .i64 c.it] 24)=U:=⟨_,rfl⟩
 have y:U.heap.size=w.heap.size+1:=by rw[<-j];simp
 have u:Below (w.heap.size+1) U V:=by
  rw[j]at b;exact(show Below (w.heap.size+1) U W by rw[<-b];exact(zl _ U).alloc (by omega) _).trans (h.mono (by omega))
 have i:=WhV.mk' j n q r u;exact⟨i,o.below i.bel,s.below i.bel,by have:=h.size;omega,p.ag h (by omega)⟩
def LC (ops:Array Oper):Nat->List Oper->Act->Bool
 |0,_,_=>true
 |_+1,[],_=>false
 |n+1,o::l,a=> !(Region.wanted o (yielded ops a.tmps))&&LC ops n l (a.put o.dst undef)
def LD :Nat->List Oper->Act->Act
 |0,_,a=>a
 |_+1,[],a=>a
 |n+1,o::l,a=>LD n l (a.put o.dst undef)
theorem wpQuiet_skip {C:World->Prop}{Q:Act->Prop}:∀(n:Nat) (l:List Oper) (a:Act),LC ops n l a=true->wpQuiet P ops C Q (l.drop n) (LD n l a)->wpQuiet P ops C Q l a
 |0,_,_,_,h=>h
 |_+1,[],_,hs,_=>by cases hs
 |n+1,o::l,a,hs,h=>by
  simp only[LC,zz,Bool.not_eq_true']at hs;exact JK hs.1 (wpQuiet_skip n l _ hs.2 h)
theorem tK {C:World->Prop}{Q:Act->Prop}{o:Oper}{rest:List Oper}{a:Act}(v:Value)(n:Nat)(e:Region.wanted o (yielded ops a.tmps)=true)(h:∀w,C w->(execOp a.eval o).run P w= .ok (.value v) w)
 (c:LC ops n rest (a.put o.dst v)=true) (d:∀r b,r=rest.drop n->b=LD n rest (a.put o.dst v)->wpQuiet P ops C Q r b):wpQuiet P ops C Q (o::rest) a:=ai v e h (wpQuiet_skip n rest _ c (d _ _ rfl rfl))
theorem DB (c:aP)(l:List bz)(v:Value)(nm:ByteArray)(x:It)(ks:List Nat)(kv:Value)(w:World)(c0 c1 c2:Value)(hc:c.ok)(hv:pe w w.heap.size v l)(hid:∀e∈l,e.id<18446744073709551616)(b2:nm.size<=9223372036854775807)(hI:bT w w.heap.size x c0 c1 c2)(hk:B6 w w.heap.size kv ks)(eD:∀k∈ks,k<256)(hL:Laid w)(iR:bj w):
 Calls prog 3 #[c.val,v,.agg #[.string nm,c0,c1,c2],kv] w fun e w'=>e= .returned (.bool true)/\Below w.heap.size w w':=by
 obtain⟨Av,n,cap,rfl,hn,S2,jR⟩:=hv.cH;obtain⟨Ak,n3,nN,rfl,Yv,bW,b6⟩:=hk.cH;obtain⟨Ax,gV,rfl,rfl,rfl,-⟩:=hI.open_;obtain⟨W,hW⟩:∃W,(w.alloc (.cells #[.int .i64 c.fm,.int .u32 c.mg,.int .i64 c.fr,.int .i64 c.un,.int .i64 c.de,.int .i64 c.it] 24)).alloc (.cells #[.string nm,.string x.text,.bool x.list,.slice Ax x.sub.length gV] 30)=W:=⟨_,rfl⟩
 have Wt:W.heap.size=w.heap.size+2:=by rw[<-hW];simp
 have d:Hid (∀V,Below (w.heap.size+2) W V->SdW w V c l (.slice Av n cap) nm x Ax gV ks (.slice Ak n3 nN)):=za (fun V j=>SdW.mk' hW hv hI hk hL iR j);have HA:=za (UF W (d.out W (zl _ _)).toWhV.laid.1 (d.out W (zl _ _)).toWhV.laid.2);have a8:Hid (LA w.heap.size):=za ⟨hL.pos,iR.pos⟩;have HW:=za hW;have HZ:=za Wt;have al:=za hid;have a7:=za hc;have L3:=za eD;unfold aP.val;clear hv hI hk eD hL iR hW hid hc jR Wt;go_enter func3,ntmps3
 go_wp2_with fail
 rw[HW.out];refine HA.out.mono ?_;rintro e w1 ⟨rfl,aG⟩;have cr:Hid (Below (w.heap.size+2) W w1):=za (aG.mono (by have:=HZ.out;omega));have HR:=za (Of c l _ w.heap.size w1 (d.out w1 cr.out).toWhV.en (by have:=(d.out w1 cr.out).siz2;omega) al.out);obtain⟨rt,rj⟩:∃rt,od c l=rt:=⟨_,rfl⟩
 rw[rj]at HR;unfold aP.val at HR;have Ad:=za rj;clear aG HA rj;obtain⟨Y,q1,q2,q3,q4,q5⟩:=eV (d.out w1 cr.out).toWhV.cf;obtain⟨G,U,Z,S,-⟩:=aN (d.out w1 cr.out).ms;have C:=(d.out w1 cr.out).siz2;go_wp2_with fail
 refine HR.out.mono ?_;rintro e w2 ⟨rfl,aJ⟩;have dm:Hid (Below (w.heap.size+2) W w2):=za (cr.out.trans (aJ.mono C));clear aJ HR;clear Y q1 q2 q3 q4 q5 G U Z S C;cases rt with
 |false=>
  go_wp2;go_ret;exact⟨rfl,(d.out w2 dm.out).toWhV.bel⟩
 |true=>
 obtain⟨Y,q1,q2,q3,q4,q5⟩:=eV (d.out w2 dm.out).toWhV.cf;obtain⟨G,U,Z,S,-⟩:=aN (d.out w2 dm.out).ms;have C:=(d.out w2 dm.out).siz2;by_cases qV:100<nm.size
 ·have bn:(100:Int)<(nm.size:Int):=by omega
  go_wp2;go_ret;exact⟨rfl,(d.out w2 dm.out).toWhV.bel⟩
 have bn:¬(100:Int)<(nm.size:Int):=by omega
 have ax:=za (T9 x w.heap.size w2 _ _ _ (d.out w2 dm.out).it (by omega));obtain⟨g8,aA⟩:∃g8,x.qd=g8:=⟨_,rfl⟩
 rw[aA]at ax;have U3:=za aA;clear aA;go_wp2_with fail
 refine ax.out.mono ?_;rintro e w3 ⟨rfl,bQ⟩;have j6:Hid (Below (w.heap.size+2) W w3):=za (dm.out.trans (bQ.mono C));clear bQ ax dm;clear Y q1 q2 q3 q4 q5 G U Z S C;cases g8 with
 |true=>
  go_wp2;go_ret;exact⟨rfl,(d.out w3 j6.out).toWhV.bel⟩
 |false=>
 by_cases JW:300<n3
 ·have bu:(300:Int)<(n3:Int):=by omega
  go_wp2;go_ret;exact⟨rfl,(d.out w3 j6.out).toWhV.bel⟩
 have bu:¬(300:Int)<(n3:Int):=by omega
 have RT:=za (MR x U3.out);have U1:=za (sF x U3.out);obtain⟨h0,UP⟩:=JQ Ad.out al.out;obtain⟨hr,-,bC⟩:=PR h0;have HR:=za hr;have OC:=za bC;have aS:=za UP;have ay:Hid (∀V,Below (w.heap.size+2) W V->Calls prog 10 #[c.val,.slice Av n cap] V fun e w'=>∃lo hi g,V.heap.size<=lo/\e= .returned (.pointer (some ⟨g,0,none⟩))/\dZ w' lo hi g (.slice none 0 0) c l gE.new 0/\Below V.heap.size V w'):=za (fun V j=>JR c l _ w.heap.size V (d.out V j).toWhV.en (by have:=(d.out V j).siz2;omega) (d.out V j).toWhV.laid.1 UP h0);unfold aP.val at ay;clear h0 UP hr bC;go_upto_region 5 with fail
 go_cut [9,10] (fun s1 s2 V=>∃I M K u z g2,s1= .pointer (some ⟨K,0,none⟩)/\s2= .pointer (some ⟨g2,0,none⟩)/\Hid (dZ V I M K (.slice none 0 0) c l gE.new 0)/\Hid (dZ V u z g2 (.slice none 0 0) c l gE.new 0)/\Hid (w.heap.size+2<=I/\I<=M/\M<=K/\K<u/\u<=z/\z<=g2/\g2<V.heap.size)/\Hid (Below (w.heap.size+2) W V))
 case rest=>
  obtain⟨I,M,K,u,z,g2,rfl,rfl,Km,iu,gC,B⟩:=hcut;obtain⟨N,pU⟩:∃N,N=wc:=⟨_,rfl⟩
  rw[<-pU]at Km iu gC B⊢;clear pU;have Vj:=za (Gu I M K _ c l gE.new 0 nm x w.heap.size N _ _ _ a7.out Km.out (d.out N B.out).it (by have:=(d.out N B.out).siz2;omega) (d.out N B.out).toWhV.laid.1 (d.out N B.out).toWhV.laid.2 (fun _=>by have:=RT.out;omega) (Gz aS.out (by have:=U1.out;omega) (by have:=RT.out;omega)) (by omega));obtain⟨P,hP⟩:∃P,bF c l nm x=P:=⟨_,rfl⟩
  rw[hP]at Vj;have HP:=za hP;obtain⟨b,E⟩:=P;simp only at Vj;clear hP;obtain⟨Y,q1,q2,q3,q4,q5⟩:=eV (d.out N B.out).toWhV.cf;obtain⟨G,U,Z,S,-⟩:=aN (d.out N B.out).ms;have C:=(d.out N B.out).siz2;go_wp2_with fail
  refine Vj.out.mono ?_;rintro e A ⟨rfl,-,ar⟩;have R:Hid (Below (w.heap.size+2) W A):=za (B.out.trans (ar.below C (by have:=gC.out;simp;omega)));have aQ:Hid (dZ A u z g2 (.slice none 0 0) c l gE.new 0):=za (iu.out.only ar (fun k hk=>by
   simp only[xd]at hk;have:=gC.out;exact⟨by omega,by omega,fun e=>by cases e⟩))
  clear ar Vj Km iu;clear Y q1 q2 q3 q4 q5 G U Z S C;have bd:=za (Gg l _ nm w.heap.size A (d.out A R.out).toWhV.en);obtain⟨Y,q1,q2,q3,q4,q5⟩:=eV (d.out A R.out).toWhV.cf;obtain⟨G,U,Z,S,-⟩:=aN (d.out A R.out).ms;have C:=(d.out A R.out).siz2;go_wp2_with fail
  refine bd.out.mono ?_;rintro e w' ⟨rfl,Ao⟩;rw[Ao];clear Ao w' bd;rcases NW l nm with⟨O,h2⟩|⟨i,hi,O,h2⟩
  ·rw[O];have aU:=IQ (c:=c) x h2;rw[HP.out]at aU;injection aU with gA hE0;have aG:b=⟨#[]⟩:=gA;subst aG hE0;clear O h2 gA;go_wp2;go_ret;exact⟨rfl,(d.out A R.out).toWhV.bel⟩
  rw[O];have b4:¬((i:Int)<0):=by omega
  obtain⟨ge,oe,hA,jS,e0,e1,e2⟩:=(d.out A R.out).toWhV.en.at_ hi;subst hA;obtain⟨q,ow⟩:∃q,l[i]=q:=⟨_,rfl⟩
  have eR:q∈l:=by rw[<-ow];exact zE hi
  rw[ow]at e0 e1 e2 h2;have U6:=za h2;have kM:i<n:=by have:=hn.out;omega
  have HG:=za (wC q.ty A (by have:=(aS.out q eR).ty;omega));rw[OC.out.ty q eR]at HG;have bh:=za (Ck (wE (OC.out.ty q eR)));clear O h2 ow eR;go_wp2_with fail
  refine HG.out.mono ?_;rintro e' J ⟨mz,d0,d1,d2,d3,rfl,my⟩;obtain⟨A6,eS,rfl,rfl,rfl,rfl,-⟩:=my.open_;have rk:Hid (Below (w.heap.size+2) W J):=za (R.out.trans (mz.mono C));have bM:=mz.size;obtain⟨X,oz⟩:∃X,J.alloc (.cells #[.int .i64 q.shape.kind,.int .i64 q.shape.size,.slice A6 q.shape.sub.length eS,.int .i64 q.shape.tail] 43)=X:=⟨_,rfl⟩
  have uF:Below J.heap.size J X:=by rw[<-oz];exact(zl _ J).alloc (zg _) _
  have gW:af X J.heap.size 43 #[.int .i64 q.shape.kind,.int .i64 q.shape.size,.slice A6 q.shape.sub.length eS,.int .i64 q.shape.tail]:=by rw[<-oz];exact af.new _ _ _
  have Wu:Hid (Below (w.heap.size+2) W X):=za (rk.out.trans (uF.mono (d.out J rk.out).siz2));have aK:=za (NJ q.shape x X.heap.size X _ _ _ _ _ _ _ ((my.below uF).AM) ((d.out X Wu.out).it.mono (by have:=(d.out X Wu.out).siz2;omega)) (zg _) (by have:=bh.out;omega) (by have:=U1.out;omega));obtain⟨F,hF⟩:∃F,cU q.shape x=F:=⟨_,rfl⟩
  rw[hF]at aK;have an:=za hF;have ba:=za ((aQ.out.below mz).below uF);have DS:=za oz;have ma:w.heap.size<J.heap.size:=by omega
  have Bh:w.heap.size+1<J.heap.size:=by omega
  clear hF mz uF gW my oz HG aQ e0 e1 e2;clear Y q1 q2 q3 q4 q5 G U Z S C;obtain⟨Y,q1,q2,q3,q4,q5⟩:=eV (d.out J rk.out).toWhV.cf;obtain⟨G,U,Z,S,-⟩:=aN (d.out J rk.out).ms;have C:=(d.out J rk.out).siz2;go_wp2_with fail
  rw[DS.out];refine aK.out.mono ?_;rintro e' w8 ⟨rfl,UI⟩;have Kl:Hid (Below (w.heap.size+2) W w8):=za (Wu.out.trans (UI.mono (d.out X Wu.out).siz2));have aC:=za (ba.out.below UI);clear UI aK ba ma Bh bM;clear Y q1 q2 q3 q4 q5 G U Z S C;rcases eP F with⟨YG,z1,z2⟩|⟨YG,z1,z2⟩
  ·subst YG;rcases eP E with⟨Sl,y1,y2⟩|⟨Sl,y1,y2⟩
   ·subst Sl;have ah:=tt al.out (c:=c) (l:=l) (nm:=nm) (x:=x) (by rw[HP.out]);rw[HP.out]at ah;have ah:b.size<=70000:=ah;obtain⟨y,kk,-,D0,ak,-⟩:=Fu HR.out OC.out al.out (nm:=nm) (x:=x) (by rw[HP.out]) (by have:=RT.out;omega);rw[HP.out]at D0;simp only at D0;have Vd:=za D0;have bH:=za ak;have b1:=za ah;have aR:=(d.out w8 Kl.out).siz2;have WG:=za (UD b ks _ w.heap.size w8 (d.out w8 Kl.out).nu (by omega) L3.out (by omega) (by rw[<-Yv.out];omega));clear D0 ak an U6 HP;go_wp2_with fail
    refine WG.out.mono ?_;rintro e' w9 ⟨pv,rfl,eo,Em⟩;obtain⟨Ap,np,bt,rfl,aq,bS,b5⟩:=eo.cH;have aW:Hid (Below (w.heap.size+2) W w9):=za (Kl.out.trans (Em.mono aR));have aH:=za (KV.new (aC.out.below Em));have SU:=PY b ks;have A9:=IL b ks;rw[<-Yv.out]at A9;obtain⟨m,a1⟩:∃m,KR b ks=m:=⟨_,rfl⟩
    rw[a1]at eo aq SU A9;obtain⟨L,RX⟩:∃L,w9.heap.size=L:=⟨_,rfl⟩
    have bK:=Em.size;have bG:=aC.out.lt;have bB:Hid (∀V,jL (fun k=>L<=k\/k=g2) w9 V->OL V L (.slice Ap np bt) m):=za (fun V j=>by
     have hq:=eo.read;rw[RX]at hq;refine hq.ag fun k hk bU=>j.block k (by omega) ?_
     have:=(eo.ge k bU).1;omega)
    have HJ:=za SU;have b7:Hid (np<=301):=za (by rw[aq.out,A9];omega);rw[RX]at aH;have Va:Hid (g2<L/\w.heap.size+2<=u/\u<=z/\z<=g2):=za (by have:=gC.out;omega);have aT:Hid (ko (aX c l) gE.new (cP (m.take 0)) []):=za (CY (fT c l) (B3 HR.out l) m);have bN:=za (fun bv x (r:ByteArray) V (hs:dZ V u z g2 bv c l x 0) j O h2=>Gt u z g2 bv c l x 0 r V HR.out a7.out hs (d.out V j).toWhV.laid.1 (d.out V j).toWhV.laid.2 (by have:=a8.out.a;have:=Va.out;omega) (by have:=a8.out.b;have:=Va.out;omega) O h2);clear eo Em SU A9 a1 RX bK bG WG aC ah aR;go_wp2_with fail
    go_loopw [17,19] (fun av kv wi=>∃(k:Nat) (H:gE) (bv:Value) (acc:List Ms),kv= .int .i64 k/\k<=np/\Hid (KV wi u z g2 L bv av c l H 0 acc)/\Hid (ko (aX c l) H (cP (m.take k)) acc)/\Hid (H.buf.size<=(cP (m.take k)).size/\H.told=acc.length/\acc.length<=(cP (m.take k)).size)/\Hid (jL (fun k=>L<=k\/k=g2) w9 wi)) (fun _ kv _=>np-(intOf kv).toNat)
    case atStart=>exact⟨0,gE.new,_,[],rfl,by omega,aH,aT,za (by simp[gE.new]),za (jL.of (ae.refl [] _) (by simp))⟩
    case round=>
     clear aH aT;obtain⟨k,H,bv,acc,rfl,hk,ab,Vh,aV,ag⟩:=hrel;obtain⟨A5,n5,eF,rfl,aZ,b',b0⟩:=ab.out.a.cH;have aI:Hid (Below (w.heap.size+2) W wr):=za (aW.out.trans (ag.out.below (d.out w9 aW.out).siz2 (fun k hk=>by have:=Va.out;omega)));by_cases mG:k<np
     ·have sm:(k:Int)<np:=by omega
      have aw:k<m.length:=by rw[<-aq.out];exact mG
      obtain⟨gp,op,rfl,cd,G⟩:=(bB.out wr ag.out).at_ aw;have aY:=IN aw;have a6:=IP m (k+1);rw[HJ.out]at a6;have D:=Fw (fT c l) Vh.out aw;have bc:=P0 (fT c l) (l:=m) (by rw[HJ.out,Vd.out]) (k+1);obtain⟨r,R4⟩:∃r,m[k]=r:=⟨_,rfl⟩
      rw[R4]at G aY D;obtain⟨s1,s2,s3⟩:=aV.out;have HF:=za (bN.out bv H r wr ab.out.s aI.out (by omega) (by omega));have Th:=JP c l H r;have uw:=II c l (cP (m.take (k+1)));have az:=Rn (aX c l) H r;have Vk:=D.told;have ao:=Ml (nx:=aX c l) H r;have Vl:=D.fault;obtain⟨aD,hY⟩:∃aD,mN (aX c l) H r=aD:=⟨_,rfl⟩
      rw[hY]at HF D Th az Vk ao Vl;clear hY R4;obtain⟨y2,fs,er⟩:=aD;simp only at HF D Th az Vk ao Vl;obtain rfl:er=0:=by rw[<-ao,Vl,bc]
      have bs:=za D;have iu:Hid (y2.buf.size<=(cP (m.take (k+1))).size/\y2.told=(acc++fs).length/\(acc++fs).length<=(cP (m.take (k+1))).size):=za ⟨by omega,by rw[zj];omega,by rw[Vk];exact uw⟩;have mu:acc.length+fs.length<=1000000:=by have:=iu.out.2.2;rw[zj]at this;omega
      clear D Th az Vk uw s1 s2 s3 aY a6 ao Vl bc;go_wp2_with fail
      refine HF.out.mono ?_;rintro e' wa ⟨cf,bx,rfl,Og,V7,aE,WI⟩;obtain⟨bZ,cb,bY,rfl,ca,b3,bP⟩:=Og.cH;have HM:=za (ab.out.mN Og V7 aE WI);have br:L<=wa.heap.size:=zK HM.out.lr aE.size;clear Og V7 aE WI HF ab;go_wp2_with (at_builtin;refine Hid.out ?_)
      refine za ?_;refine pj (by rfl) (.tmp 132) (.tmp 133) (by rfl) _ _ L wr.heap.size acc fs (by rfl) HM.out.a (by rfl) HM.out.r (fun k h=>⟨by have:=h.1;have:=HM.out.lr;omega,h.2⟩) HM.out.sep mu br ?_;intro A6 n6 eS bR b8 aO a' bp;obtain⟨UN,sA⟩:=HM.out.app aO a';have bJ:=za UN;have bo:=za (ag.out.trans sA);clear aO a' bp UN sA HM ag;go_wp2;go_roundw
      case rel=>exact⟨k+1,y2,bx,acc++fs,by go_num,by omega,bJ,bs,iu,bo⟩
      case measure=>simp[intOf];omega
     obtain rfl:k=np:=by omega
     have bV:¬(k:Int)<k:=by omega
     have D:=Vh.out;rw[show m.take k=m from zv (by rw[<-aq.out];exact zg _),HJ.out]at D;have tv:=D.told;have Th:=D.buf (by rw[D.fault,Vd.out]);rw[Vd.out]at tv Th;simp only at tv Th;subst tv;have bD:n5=1:=by rw[aZ.out];rfl
     subst bD;have Ox:Hid (H.buf=⟨#[]⟩):=za Th;have bq:Hid (∀V,Below wr.heap.size wr V->KV V u z g2 L bv (.slice A5 1 eF) c l H 0 [⟨nm,y⟩]):=za (fun V j=>ab.out.below j);obtain⟨A',aj,bA,-,-,LK⟩:=CZ.reads (ab.out.a.gQ (S1:=(L<= ·)) (fun _ _ h=>h.1) (zg _));injection bA with hv8a hv8l hv8b;clear hv8l;subst hv8a hv8b;obtain⟨s,o,d0,d1,d2,d3,bg,bL,f0,f1,f2,f3,uE⟩:=LK.at_ 0 (by simp);subst bg;obtain⟨Ay,OJ,rfl,rfl,rfl,rfl,-⟩:=uE.open_;simp at f0 f1 f2 f3;have GQ:s<wr.heap.size:=lt_of_cell f0;have UU:=za uE;have bb:Hid (∀V,Below wr.heap.size wr V->V.cell? ⟨s,o,none⟩=some (.string nm)/\V.cell? ⟨s,o+1,none⟩=some (.string y.text)/\V.cell? ⟨s,o+2,none⟩=some (.bool y.list)/\V.cell? ⟨s,o+3,none⟩=some (.slice Ay y.sub.length OJ)):=za (fun V j=>⟨(j.cell (p:=⟨s,o,none⟩) GQ).trans f0,(j.cell (p:=⟨s,o+1,none⟩) GQ).trans f1,(j.cell (p:=⟨s,o+2,none⟩) GQ).trans f2,(j.cell (p:=⟨s,o+3,none⟩) GQ).trans f3⟩);have aa:Hid (∀V,Below wr.heap.size wr V->SdW w V c l (.slice (some ⟨ge,oe,none⟩) n cap) nm x Ax gV ks (.slice Ak n3 nN)):=za (fun V j=>d.out V (aI.out.trans (j.mono (d.out wr aI.out).siz2)));have Wc:Hid (∀V,Below wr.heap.size wr V->Calls prog 17 #[.pointer (some ⟨g2,0,none⟩)] V fun e w'=>e= .returned (.string ⟨#[]⟩)/\Below V.heap.size V w'):=za (fun V j=>by
      have h:=Qg _ _ _ _ _ _ _ _ V (bq.out V j).s;rw[Ox.out]at h;exact X4 h)
     have bk:Hid (c.fm≠1->∀V,Below wr.heap.size wr V->Calls prog 18 #[.agg #[.string y.text,.bool y.list,.slice Ay y.sub.length OJ],.agg #[.string x.text,.bool x.list,.slice Ax x.sub.length gV]] V fun e w'=>e= .returned (.bool true)/\Below V.heap.size V w'):=za (fun bO V j=>by
      have ak:=bH.out bO;refine(Nr y V.heap.size V _ _ _ (((UU.out.2.2.AM).below j).mono j.size) (zg _) x _ _ _ ((aa.out V j).it.mono (by have:=(aa.out V j).siz2;omega))).mono ?_;rintro e w' ⟨⟨r,rfl,hr⟩,hb⟩;obtain rfl:r=true:=hr.2 ak;exact⟨rfl,hb⟩)
     clear D Th LK bL uE f0 f1 f2 f3 aZ GQ Vh aV ag UU;go_wp2_with fail
     obtain⟨kb,kc⟩:∃kb,((c.fm:Int)==1)=kb:=⟨_,rfl⟩
     have bE:Hid (kb=false->∀V,Below wr.heap.size wr V->Calls prog 18 #[.agg #[.string y.text,.bool y.list,.slice Ay y.sub.length OJ],.agg #[.string x.text,.bool x.list,.slice Ax x.sub.length gV]] V fun e w'=>e= .returned (.bool true)/\Below V.heap.size V w'):=za (fun h=>bk.out (fun O=>by rw[<-kc,O]at h;exact absurd h (by decide)));refine ja (by kernel_rfl) (by kernel_rfl) ?_;refine ai (.slice (some ⟨s,o,none⟩) 1 eF) (by rfl) (fun _ _=>by first|rfl|go_simp) ?_;simp only[Act.put,zb,zd,ze];refine ai (.int .i64 1) (by rfl) (fun _ _=>by first|rfl|go_simp) ?_;simp only[Act.put,zb,zd,ze];refine ai (.bool true) (by rfl) (fun _ _=>by first|rfl|go_simp) ?_;simp only[Act.put,zb,zd,ze];refine ai (.bool true) (by rfl) (fun _ _=>by first|rfl|go_simp) ?_;simp only[Act.put,zb,zd,ze];refine ai (.pointer (some ⟨g2,0,none⟩)) (by rfl) (fun _ _=>by first|rfl|go_simp) ?_;simp only[Act.put,zb,zd,ze];refine dN 17 _ (.string ⟨#[]⟩) (by rfl) (fun _=>by first|rfl|go_simp) (fun V j=>Wc.out V j) ?_;simp only[Act.put,zb,zd,ze];refine ai (.bool true) (by rfl) (fun _ _=>by first|rfl|go_simp) ?_;simp only[Act.put,zb,zd,ze];refine ai (.bool true) (by rfl) (fun _ _=>by first|rfl|go_simp) ?_;simp only[Act.put,zb,zd,ze];refine ai (.bool true) (by rfl) (fun _ _=>by first|rfl|go_simp) ?_;simp only[Act.put,zb,zd,ze];refine ai (.slice (some ⟨s,o,none⟩) 1 eF) (by rfl) (fun _ _=>by first|rfl|go_simp) ?_;simp only[Act.put,zb,zd,ze]
     refine ai (.pointer (some ⟨s,o,none⟩)) (by rfl) (fun _ _=>by first|rfl|go_simp) ?_;simp only[Act.put,zb,zd,ze];refine ai (.pointer (some ⟨s,o,none⟩)) (by rfl) (fun _ _=>by first|rfl|go_simp) ?_;simp only[Act.put,zb,zd,ze];refine ai (.string nm) (by rfl) (fun V j=>by have f0:=(bb.out V j).1;go_simp) ?_;simp only[Act.put,zb,zd,ze];refine ai (.pointer (some ⟨w.heap.size+1,0,none⟩)) (by rfl) (fun _ _=>by first|rfl|go_simp) ?_;simp only[Act.put,zb,zd,ze];refine ai (.string nm) (by rfl) (fun V j=>by have G:=(aa.out V j).ms.cell 0;go_simp) ?_;simp only[Act.put,zb,zd,ze];refine ai (.bool true) (by rfl) (fun _ _=>by first|rfl|go_simp) ?_;simp only[Act.put,zb,zd,ze];refine ai (.bool true) (by rfl) (fun _ _=>by first|rfl|go_simp) ?_;simp only[Act.put,zb,zd,ze];refine ai (.bool true) (by rfl) (fun _ _=>by first|rfl|go_simp) ?_;simp only[Act.put,zb,zd,ze];refine ai (.pointer (some ⟨w.heap.size,0,none⟩)) (by rfl) (fun _ _=>by first|rfl|go_simp) ?_;simp only[Act.put,zb,zd,ze];refine ai (.int .i64 c.fm) (by rfl) (fun V j=>by have Y:=(aa.out V j).toWhV.cf.cell 0;go_simp) ?_;simp only[Act.put,zb,zd,ze];refine ai (.bool kb) (by rfl) (fun _ _=>by first|rfl|go_simp) ?_;simp only[Act.put,zb,zd,ze];cases kb with
     |true=>
      refine tK (.bool true) 7 (by kernel_rfl) (fun _ _=>by go_simp) (by kernel_rfl) ?_;intro r9 b9 Wb Em;simp only[zX,zJ]at Wb;simp only[LD,Act.put,zb,zd,ze]at Em;subst Wb Em;refine ai (.bool true) (by rfl) (fun _ _=>by first|rfl|go_simp) ?_;simp only[Act.put,zb,zd,ze];refine ai (.bool true) (by rfl) (fun _ _=>by first|rfl|go_simp) ?_;simp only[Act.put,zb,zd,ze];refine ai (.bool true) (by rfl) (fun _ _=>by first|rfl|go_simp) ?_;simp only[Act.put,zb,zd,ze];refine xE ?_;intro V j;have aM:=za (aa.out V j).toWhV.bel;go_wp2;go_ret;exact⟨rfl,aM.out⟩
     |false=>
      refine ai (.bool false) (by rfl) (fun _ _=>by first|rfl|go_simp) ?_;simp only[Act.put,zb,zd,ze];refine ai (.slice (some ⟨s,o,none⟩) 1 eF) (by rfl) (fun _ _=>by first|rfl|go_simp) ?_;simp only[Act.put,zb,zd,ze];refine ai (.pointer (some ⟨s,o,none⟩)) (by rfl) (fun _ _=>by first|rfl|go_simp) ?_;simp only[Act.put,zb,zd,ze];refine ai (.pointer (some ⟨s,o+1,none⟩)) (by rfl) (fun _ _=>by first|rfl|go_simp) ?_;simp only[Act.put,zb,zd,ze];refine ai (.agg #[.string y.text,.bool y.list,.slice Ay y.sub.length OJ]) (by rfl) (fun V j=>by obtain⟨f0,f1,f2,f3⟩:=bb.out V j;go_simp) ?_;simp only[Act.put,zb,zd,ze];refine ai (.pointer (some ⟨w.heap.size+1,1,none⟩)) (by rfl) (fun _ _=>by first|rfl|go_simp) ?_;simp only[Act.put,zb,zd,ze];refine ai (.agg #[.string x.text,.bool x.list,.slice Ax x.sub.length gV]) (by rfl) (fun V j=>by obtain⟨G,U,Z,S,_⟩:=aN (aa.out V j).ms;go_simp) ?_;simp only[Act.put,zb,zd,ze];refine dN 18 _ (.bool true) (by rfl) (fun _=>by first|rfl|go_simp) (fun V j=>bE.out rfl V j) ?_;simp only[Act.put,zb,zd,ze];refine ai (.bool true) (by rfl) (fun _ _=>by first|rfl|go_simp) ?_;simp only[Act.put,zb,zd,ze];refine ai (.bool true) (by rfl) (fun _ _=>by first|rfl|go_simp) ?_;simp only[Act.put,zb,zd,ze];refine ai (.bool true) (by rfl) (fun _ _=>by first|rfl|go_simp) ?_;simp only[Act.put,zb,zd,ze];refine xE ?_;intro V j;have aM:=za (aa.out V j).toWhV.bel;go_wp2;go_ret;exact⟨rfl,aM.out⟩
   have au:=IT HR.out OC.out U6.out an.out (by rw[HP.out];exact Sl);have Oy:=M0 (c:=c) (l:=l) (nm:=nm) (x:=x) (by rw[HP.out];exact Sl);rw[HP.out]at au Oy;have Oy:b=⟨#[]⟩:=Oy;simp only at au;subst Oy;rcases au with h|h|h;all_goals
    subst h;go_wp2;go_ret;exact⟨rfl,(d.out w8 Kl.out).toWhV.bel⟩
  have l8:=Fy OC.out U6.out (by rw[an.out];exact YG);rw[HP.out,an.out]at l8;injection l8 with gA hE0;have aG:b=⟨#[]⟩:=gA;subst aG hE0;clear gA;go_wp2;go_ret;exact⟨rfl,(d.out w8 Kl.out).toWhV.bel⟩
 have aF:Hid (∀V,Below (w.heap.size+2) W V->V.cell? ⟨w.heap.size,0,none⟩=some (.int .i64 c.fm)/\V.cell? ⟨w.heap.size,1,none⟩=some (.int .u32 c.mg)/\V.cell? ⟨w.heap.size,2,none⟩=some (.int .i64 c.fr)/\V.cell? ⟨w.heap.size,3,none⟩=some (.int .i64 c.un)/\V.cell? ⟨w.heap.size,4,none⟩=some (.int .i64 c.de)/\V.cell? ⟨w.heap.size,5,none⟩=some (.int .i64 c.it)):=za (fun V j=>eV (d.out V j).toWhV.cf);have hHeld:=aF.out w3.drew j6.out.drew;go_wp2_with fail
 refine aB 7 (fun V=>V.cell? ⟨w.heap.size,0,none⟩=some (.int .i64 c.fm)/\V.cell? ⟨w.heap.size,1,none⟩=some (.int .u32 c.mg)/\V.cell? ⟨w.heap.size,2,none⟩=some (.int .i64 c.fr)/\V.cell? ⟨w.heap.size,3,none⟩=some (.int .i64 c.un)/\V.cell? ⟨w.heap.size,4,none⟩=some (.int .i64 c.de)/\V.cell? ⟨w.heap.size,5,none⟩=some (.int .i64 c.it)) (by kernel_rfl) (by kernel_rfl) ?_;refine GT.jr [0,1,3,4] hHeld (fun _ _ _ _ _ h=>h) (by kernel_rfl) ?_;repeat(refine .c rfl rfl (fun V j=>by go_simp<;>with_reducible rfl) ?_;simp only[Act.put,zb,zd,ze])
 refine .nil ?_;refine GT.fF 2 (fun aL hK=> ?_) rfl (by kernel_rfl);go_simp;refine(ay.out w3.drew j6.out.drew).mono ?_;rintro e w4 ⟨I,M,K,SS,rfl,LV,bX⟩;have bI:=(d.out w3 j6.out).siz2;have B:Hid (Below (w.heap.size+2) W w4):=za (j6.out.drew.trans (bX.mono bI));have cc:w3.heap.size<=I:=SS;have R5:=za LV;have bf:Hid (w.heap.size+2<=I/\I<=M/\M<=K/\K<w4.heap.size):=za ⟨by omega,LV.lohi,LV.GK,LV.lt⟩;clear LV bX hHeld SS cc;go_wp2_with fail
 refine hK.out _ _ (aF.out w4 B.out) (fun hHeld=> ?_);clear hK aL;try simp only[Act.put,zb,zd,ze]
 refine GT.fF 5 (fun aL hK=> ?_) rfl (by kernel_rfl);go_simp;refine(ay.out w4 B.out).mono ?_;rintro e A ⟨u,z,g2,bl,rfl,ad,jA⟩;have R:Hid (Below (w.heap.size+2) W A):=za (B.out.trans (jA.mono (d.out w4 B.out).siz2));have J':=za ad;have bw:=za (R5.out.below jA);have bm:Hid (w.heap.size+2<=I/\I<=M/\M<=K/\K<u/\u<=z/\z<=g2/\g2<A.heap.size):=za (by
  have O:=bf.out;have h2:=ad.lohi;have h3:=ad.GK;have h4:=ad.lt;exact⟨by omega,by omega,by omega,by omega,by omega,by omega,by omega⟩)
 clear ad jA hHeld bl R5 bf;go_wp2_with fail
 refine hK.out _ _ (aF.out A R.out) (fun hHeld=> ?_);clear hK aL;try simp only[Act.put,zb,zd,ze]
 refine GT.jr [6] hHeld (fun _ _ _ _ _ h=>h) (by kernel_rfl) ?_;refine .c rfl rfl (fun V j=>by go_simp<;>with_reducible rfl) ?_;simp only[Act.put,zb,zd,ze];refine .nil ?_;refine GT.oL 7 ?_ rfl (by kernel_rfl);go_simp;go_wp2_with fail
 go_meet;case rel=>exact⟨I,M,K,u,z,g2,rfl,rfl,bw,J',bm,R⟩
theorem DC (c:aP)(l:List bz)(u:Value)(n:ByteArray)(x:It)(b d j:Value)(i:List Nat)(h:Value)(W:World)(r:c.ok)(m:pe W W.heap.size u l/\∀e∈l,wM e)(o:n.size<=maxLen/\bT W W.heap.size x b d j)(q:B6 W W.heap.size h i/\∀k∈i,k<256)(p:Laid W/\bj W):
 Calls prog 3 #[c.val,u,.agg #[.string n,b,d,j],h] W fun e w'=>e= .returned (.bool true)/\Below W.heap.size W w':=
 DB c l u n x i h W b d j r m.1 (fun e s=>(m.2 e s).id) (by simpa[maxLen]using o.1) o.2 q.1 q.2 p.1 p.2
theorem UG (h:laidMetH prog [("unicode/utf8.acceptRanges",Rows.laid_unicode_utf8_acceptRanges),("hatchway/compact.behind",Rows.laid_hatchway_compact_behind),("hatchway/schema.uintSizes",Rows.laid_hatchway_schema_uintSizes),("unicode/utf8.first",Rows.laid_unicode_utf8_first)] W):Laid W∧bj W:=by
 rw[MakeChecks.laidMetH_plain _ _ _ (by kernel_rfl)]at h;have c:prog.globalNamed "hatchway/compact.behind" =some 0:=by kernel_rfl
 have b:prog.globalNamed "hatchway/schema.uintSizes" =some 1:=by kernel_rfl
 have e:Lib.TabIs prog W "hatchway/compact.behind" .i64 [2,4,8]:=Lib.tabIs_of_head (k:= .i64) (zs:= [2,4,8]) (n:=3) c (by kernel_rfl) underlying264 yB (by kernel_rfl) (by kernel_rfl) h.tail;have d:Lib.TabIs prog W "hatchway/schema.uintSizes" .i64 [1,2,4,8]:=Lib.tabIs_of_head (k:= .i64) (zs:= [1,2,4,8]) (n:=4) b (by kernel_rfl) underlying292 yB (by kernel_rfl) (by kernel_rfl) h.tail.tail;exact⟨⟨d.cell b 0 (by simp),d.cell b 1 (by simp),d.cell b 2 (by simp),d.cell b 3 (by simp)⟩,⟨e.cell c 0 (by simp),e.cell c 1 (by simp),e.cell c 2 (by simp)⟩⟩
