/- squeeze.Pack tells 'pack'. -/
import Derived.Test.YtdbmifjankgfpaaGreatDoorKA9
import Derived.Deep.DeepCutAuto
set_option linter.all false
set_option maxRecDepth 100000
set_option maxHeartbeats 4000000
namespace Go.Proofs.YtdbmifjankgfpaaGreatDoor
open Tryz
open Go.RowKit Go.Maps
def zS:=@results36
def zW:=@cell_of_one
def yy:=@ntmps36
def yC:=@underlying3
def yH:=@func36
def xF:=@Lib.bytesWorld_size
def xR:=@Lib.wpList_append_own_string
def Zd:=@wpList_lookup_own_ok_int
def ZF:=@ntmps139
def ZG:=@ntmps117
def ZP:=@func139
def ZQ:=@func117
def ZU:=@underlying182
structure PW (s:ByteArray)(w:World)(g0 B mB k6:Nat)(D:DataW Unit)(wr:World):Prop where
 below:Below w.heap.size w wr
 cells:∀k,k<s.size->wr.cell? ⟨g0,k,none⟩=some (.int .u8 (s.data.toList.getD k 0).toNat)
 YQ:g0<B
 hBm:B<=mB
 V1:w.heap.size<=B
 map:wr.ownsMap prog 184 (plainElem prog 3) mB k6 D
theorem PW.lt {s:ByteArray}{w:World}{d B b c:Nat}{D:DataW Unit}{wr:World}(h:PW s w d B b c D wr):b<wr.heap.size:=h.map.lt
theorem PW.kept {s:ByteArray}{w:World}{c B b i:Nat}{D:DataW Unit}{wr w':World}(h:PW s w c B b i D wr)(d:Kept 5 B wr w'):PW s w c B b i D w':=by
 refine⟨h.below.trans (d.below.mono h.V1),fun k l=>(d.below.cell (p:=⟨c,k,none⟩) h.YQ).trans (h.cells k l),h.YQ,h.hBm,h.V1, ?_⟩;obtain⟨es,clock,j,F,m,n⟩:=h.map;exact⟨es,clock,d.other b _ j (by intro o q e;cases e),F,m,n⟩
theorem PW.later {s:ByteArray}{w:World}{c B b d:Nat}{D:DataW Unit}{wr w':World}(h:PW s w c B b d D wr)(e:Below wr.heap.size wr w'):PW s w c B b d D w':=
 h.kept (Kept.ah e (zd _) (by have:=h.lt;have:=h.hBm;omega))
theorem PW.lu {s:ByteArray}{w:World}{d B c p e:Nat}{D i:DataW Unit}{wr w':World}(h:PW s w d B c p D wr)(m:w'.ownsMap prog 184 (plainElem prog 3) c e i)(b:wr.grownBy w' (some c)):PW s w d B c e i w':=by
 have q:=h.lt;have l:=h.YQ;have n:=h.hBm;have o:=h.V1;refine⟨h.below.trans ⟨b.os,b.tape,b.output,b.size,fun k j=>b.block k (by omega) (by simp;omega)⟩,fun k j=>(zD (a:=⟨d,k,none⟩) (b.block d (by omega) (by simp;omega))).trans (h.cells k j),l,n,o,m⟩
theorem PW.buf {s:ByteArray}{w:World}{i B c o:Nat}{D:DataW Unit}{wr w':World}{v:Value}{l:List UInt8}(h:PW s w i B c o D wr)(d:bL wr B 5 v l)(m:wr.grownBy w' (some c)):bL w' B 5 v l:=by
 obtain⟨es,clock,j,_⟩:=h.map;obtain⟨A,cap,n,k,p,b⟩:=d;refine⟨A,cap,n,k,p, ?_⟩;rcases b with b|⟨g,cur,fr,hA,hgb,hh,r⟩
 ·exact .inl b
 refine .inr ⟨g,cur,fr,hA,hgb,(m.block g (yd.1 hh).1 ?_).trans hh,r⟩;intro e;injection e with e;subst e;rw[j]at hh;cases hh
theorem PW.four {s:ByteArray}{w:World}{b B k l i:Nat}{D:DataW Unit}{wr:World}(h:PW s w b B k l D wr)(hi:i+4<=s.size):∃d c e j:Nat,wr.cell? ⟨b,i,none⟩=some (.int .u8 d)/\wr.cell? ⟨b,i+1,none⟩=some (.int .u8 c)/\wr.cell? ⟨b,i+2,none⟩=some (.int .u8 e)/\wr.cell? ⟨b,i+3,none⟩=some (.int .u8 j)/\
 keyOf prog 184 (.agg #[.int .u8 d,.int .u8 c,.int .u8 e,.int .u8 j])=some (gl s.data.toList i):=
 ⟨_,_,_,_,h.cells i (by omega),h.cells (i+1) (by omega),h.cells (i+2) (by omega),h.cells (i+3) (by omega),rU s.data.toList i⟩
def PAt (s:ByteArray)(w:World)(g0 B mB:Nat)(v5 v7 v8:Value)(wr:World):Prop:=
 ∃(i p f k6:Nat) (A:Option Addr) (n cap:Nat) (l:List UInt8) (D:DataW Unit),v5= .slice A n cap/\v7= .int .i64 p/\v8= .int .i64 i/\p<=i/\i<=s.size/\k6<=i/\s.size-i<f/\
  bL wr B 5 (.slice A n cap) l/\l++pk s.data.toList f p i=pack s.data.toList/\PW s w g0 B mB k6 D wr/\MI s.data.toList D i
def PIn (s:ByteArray)(w:World)(g0 B mB i sz:Nat)(A:Option Addr)(n cap:Nat)(l:List UInt8)(v8 N4:Value)(wr:World):Prop:=
 ∃(c k6:Nat) (D:DataW Unit),N4= .int .i64 c/\v8= .int .i64 ((i+c:Nat):Int)/\c<=sz/\k6<=i+c/\bL wr B 5 (.slice A n cap) l/\PW s w g0 B mB k6 D wr/\MI s.data.toList D (i+c)
theorem KQ {L l X:List UInt8}{f p i:Nat}(h:l++pk L f p i=X)(c:L.length-i<f)(hi:i<L.length)(b:Ia L i i=none):l++pk L (f-1) p (i+1)=X:=by
 obtain⟨g,rfl⟩:∃g,f=g+1:=⟨f-1,by omega⟩
 unfold pk at h;rw[zi hi,b]at h;exact h
theorem T4 {L l X a:List UInt8}{f p i j n:Nat}(h:l++pk L f p i=X)(e:L.length-i<f)(hi:i<L.length)(b:Ia L i i=some j)(d:a=(L.take i).drop p)(c:mt L j i 64=n):((l++im a)++lh n (i-j))++pk L (f-1) (i+n) (i+n)=X:=by
 obtain⟨g,rfl⟩:∃g,f=g+1:=⟨f-1,by omega⟩
 unfold pk at h;rw[zi hi,b]at h;subst c;subst d;rw[<-h];simp
theorem Xt {L l X a:List UInt8}{f p i:Nat}(h:l++pk L f p i=X)(c:L.length-i<f)(hi:¬i<L.length)(b:a=L.drop p):l++im a=X:=by
 obtain⟨g,rfl⟩:∃g,f=g+1:=⟨f-1,by omega⟩
 unfold pk at h;rw[zh hi]at h;subst b;exact h
theorem acn {L l:List UInt8}{f p i:Nat}(h:l++pk L f p i=pack L)(b:L.length<=65536):l.length<=70000:=by
 have c:=sR L b;have:=xi List.length h;rw[zj]at this;omega
theorem T5 (base:Nat)(v:Value)(l:List UInt8)(n d:Nat)(b:Int)(w:World)(h:bL w base 5 v l)(c:base<=w.heap.size)(e:l.length<=1000000)(k:4<=n)(j:n<=64)(hd:d<65536)(i:b=d):
 Calls prog 136 #[v,.int .i64 n,.int .i64 b] w (P5 base w (l++lh n d)):=by
 subst i;exact TZ base v l n d w h c e k j hd
theorem Qa {a b:Int}(h:(DataW.lit (.int .i64 a):DataW Unit)= .lit (.int .i64 b)):a=b:=by
 injection h with h;injection h
theorem FP (w:World)(a:Addr)(c:Nat):(Instr.arrayAt 184 (.slice (some a) 4 c)).run prog w= .ok (.pointer (some a)) w:=by
 simp[Instr.arrayAt,xT ZT]
theorem Xu (s:ByteArray)(w:World)(hs:s.size<=65536):
 Calls prog 116 #[.string s] w fun e w'=>e= .returned (.tuple #[.string ⟨(pack s.data.toList).toArray⟩,.int .i64 0])/\Below w.heap.size w w':=by
 have kc:=fun(w:World) (s:ByteArray)=>Lib.run_convert_string_bytes (P:=prog) w 9 31 5 s zG zr yb
 have Ro:= @run_makeMap prog;have kA:=FP;have H1:=za (fun w=>vJ s.size w (by omega));go_enter func116,ntmps116
 go_wp2_with fail
 refine(H1.out _).mono ?_;rintro e b ⟨rfl,o⟩;have cl:=o.size;rw[xF]at cl;have Rp:∀k,k<s.size->b.cell? ⟨w.heap.size,k,none⟩=some (.int .u8 (s.data.toList.getD k 0).toNat):=fun k hk=>(o.cell (p:=⟨w.heap.size,k,none⟩) (by rw[xF];simp)).trans (Lib.bytesWorld_cell w _ s k hk)
 have V2:Below w.heap.size w b:=(Lib.bytesWorld_below w 5 s).trans (o.mono (by rw[xF];omega));have hT:(⟨(aQ s.size).toArray⟩:ByteArray).size=(aQ s.size).length:=bB _;have VV:=bo 3 s.size (by omega) (by omega);have YN:=bL.conv b b.heap.size 5 ⟨(aQ s.size).toArray⟩ (zd _) (by omega);have qZ:s.size<=grownCap w s.size 0 5:=grownCap_ge _ _ _ _;have ay:grownCap w s.size 0 5<=9223372036854775807:=by simpa[maxLen]using ZS w s.size 0 5 (by simp[maxLen];omega)
 rw[hT]at YN;have ag:PW s w w.heap.size b.heap.size (Lib.bytesWorld b 5 ⟨(aQ s.size).toArray⟩).heap.size 0 (.map []) ((Lib.bytesWorld b 5 ⟨(aQ s.size).toArray⟩).alloc (.map #[] 0)):=by
  have uG:=Lib.bytesWorld_below b 5 ⟨(aQ s.size).toArray⟩;refine⟨(V2.trans (uG.mono (by omega))).alloc (by rw[xF];omega) _,fun k hk=> ?_,by omega,by rw[xF];omega,by omega,World.ownsMap_made _ _ _ _⟩;rw[zz _ _ _ (by rw[xF];simp;omega),uG.cell (p:=⟨w.heap.size,k,none⟩) (by simp;omega)];exact Rp k hk
 have V5:=YN.alloc (.map #[] 0);have kZ:=za V5;have aq:=za ag;clear ag V5 YN Rp hT o V2;go_wp2;generalize grownCap w s.size 0 5=Bt at*;generalize (Lib.bytesWorld b 5 ⟨(aQ s.size).toArray⟩).heap.size=mB at*;generalize (Lib.bytesWorld b 5 ⟨(aQ s.size).toArray⟩).alloc (.map #[] 0)=w2 at*;generalize grownCap b (aQ s.size).length 0 5=Ai at*;go_loopw [5,7,8] (fun v5 v7 r wr=>PAt s w w.heap.size b.heap.size mB v5 v7 r wr) (fun _ _ r _=>s.size-(intOf r).toNat)
 case atStart=>exact⟨0,0,s.size+1,0,_,_,_,_,_,rfl,rfl,rfl,by omega,by omega,by omega,by omega,kZ.out,by simp[pack,aa],aq.out,MI.start _⟩
 case round=>
  obtain⟨i,p,f,H,A,n,cap,l,ab,rfl,rfl,rfl,ax,hi,DU,hf,L,hl,y,ae⟩:=hrel;have O:=za ae;have N:=za hl;have rh:=y.lt;have az:=y.hBm;have aB:=acn hl (by simpa using hs);have D:=za hf;clear ae hl;by_cases R:i<s.size
  ·obtain⟨wo,au⟩:∃wo:World,wo=wr:=⟨_,rfl⟩
   subst au;by_cases X:i+4<=s.size
   ·have E:=PC s.data.toList i (by simpa using X) i (zd _);have U:=O.out.2 i (by simpa using X);obtain⟨c0,c1,K,c3,M,q1,Y,q3,B⟩:=y.four X;have aE:¬Bt=i:=by omega
    have VT:=za B;have W:=y.map;clear B;cases WH:jQ s.data.toList i i with
    |none=>
     have YO:=U.2 WH;rw[WH]at E;have I:=za E;clear U WH E;go_wp2_with (at_lookup;refine Zd _ rfl _ _ 182 rfl 184 3 .i64 rT ZU yC (KP _) mB H _ rfl W _ _ rfl VT.out ?_;intro cj Z YM)
     clear Z YM M q1 Y q3 W;go_loopw [8,65] (fun r q wr=>PIn s w w.heap.size b.heap.size mB i 1 A n cap l r q wr) (fun _ q _=>1-(intOf q).toNat)
     case atStart=>exact⟨0,H,ab,rfl,rfl,by omega,by omega,L,y,O.out⟩
     case round=>
      obtain⟨c,h,F,rfl,rfl,hc,V3,x,d,z⟩:=hrel;have u:=za z;clear z;by_cases SS:c<1
      ·by_cases C:i+c+4<=s.size
       ·obtain⟨c0,c1,K,c3,M,q1,Y,q3,B⟩:=d.four C;have HK:=za B;have bO:=d.map;clear B;go_wp2_with (at_mapUpdate;refine wpList_mapUpdate_own _ rfl _ _ _ 182 rfl 184 3 rT ZU _ mB h _ rfl bO (by unfold maxLen;omega) _ _ _ rfl rfl HK.out _ [] (plainElem_int yC (WalkArith.wf_i64 (by omega))) ?_;intro w5 Rr J)
        go_roundw
        case rel=>exact⟨c+1,h+1,_,by go_num,by go_num,by omega,by omega,d.buf x J,d.lu Rr J,u.out.put (by simpa using C)⟩
        case measure=>simp[intOf];omega
       omega
      go_wp2;go_roundw
      case rel=>exact⟨i+1,p,f-1,h,A,n,cap,l,F,rfl,rfl,by go_num,by omega,by omega,by omega,by have:=D.out;omega,x,KQ N.out (by simpa using D.out) (by simpa using R) I.out,d,by rw[show i+1=i+c from by omega];exact u.out⟩
      case measure=>simp[intOf];omega
    |some j=>
     have tO:=PD _ _ _ _ WH;obtain⟨YO,Rq⟩:=U.1 j WH;have rk:=za Rq;rw[WH]at E;have I:=za E;have ai:=(qk _ _ _ _ E).2;have Ro:=BX s.data.toList 64 j i;have ar:=Ro.2 (by simpa using hi);rw[aa]at ar;have av:=Ro.1;have YL:=za (fun w=>T0 s j i w tO hi hs);generalize OA:mt s.data.toList j i 64=m at*;have rz:=za OA;have V4:(s.extract p i).size<=65536:=by rw[aj _ _ _ hi];omega
     have ao:=za (T4 N.out (by simpa using D.out) (by simpa using R) I.out (an s p i) rz.out);have aw:(l++im (s.extract p i).data.toList).length<=200000:=by
      have:=ku (s.extract p i).data.toList (by rw[aa];exact V4);rw[aa]at this;have h3:(if(s.extract p i).size=0 then 0 else if(s.extract p i).size<=60 then 1 else if(s.extract p i).size<=256 then 2 else 3)<=3:=by split<;>(try split)<;>(try split)<;>omega
      rw[zj];omega
     clear U WH E Rq Ro OA;go_wp2_with (at_lookup;refine Zd _ rfl _ _ 182 rfl 184 3 .i64 rT ZU yC (KP _) mB H _ rfl W _ _ rfl VT.out ?_;intro cj Z YM;obtain rfl:=Qa (Z.symm.trans rk.out);clear Z YM)
     refine(KO b.heap.size _ l (s.extract p i) _ L (by omega) (by omega) V4).mono ?_;rintro e w3 ⟨A1,n1,aC,rfl,o,G⟩;have aA:=G.size;have af:=y.kept G;go_wp2_with fail
     refine(YL.out _).mono ?_;rintro e w4 ⟨rfl,S⟩;have JS:=S.size;have ad:=af.later S;have ah:=o.below S;go_wp2_with fail
     refine(T5 b.heap.size _ _ m (i-j) ((i:Int)-j) _ ah (by omega) (by omega) ai av (by omega) (by omega)).mono ?_;rintro e w5 ⟨A2,n2,K,rfl,aS,eN⟩;have ak:=ad.kept eN;clear o ah af ad y L M q1 Y q3 W G eN S;go_wp2;go_loopw [8,65] (fun r q wr=>PIn s w w.heap.size b.heap.size mB i m A2 n2 K _ r q wr) (fun _ q _=>m-(intOf q).toNat)
     case atStart=>exact⟨0,H,ab,rfl,rfl,by omega,by omega,aS,ak,O.out⟩
     case round=>
      obtain⟨c,h,F,rfl,rfl,hc,V3,x,d,z⟩:=hrel;have u:=za z;clear z;by_cases SS:c<m
      ·by_cases C:i+c+4<=s.size
       ·obtain⟨c0,c1,K,c3,M,q1,Y,q3,B⟩:=d.four C;have HK:=za B;have bO:=d.map;clear B;go_wp2_with (at_mapUpdate;refine wpList_mapUpdate_own _ rfl _ _ _ 182 rfl 184 3 rT ZU _ mB h _ rfl bO (by unfold maxLen;omega) _ _ _ rfl rfl HK.out _ [] (plainElem_int yC (WalkArith.wf_i64 (by omega))) ?_;intro w5 Rr J)
        go_roundw
        case rel=>exact⟨c+1,h+1,_,by go_num,by go_num,by omega,by omega,d.buf x J,d.lu Rr J,u.out.put (by simpa using C)⟩
        case measure=>simp[intOf];omega
       go_wp2;go_roundw
       case rel=>exact⟨c+1,h,F,by go_num,by go_num,by omega,by omega,x,d,u.out.skip (by simpa using C)⟩
       case measure=>simp[intOf];omega
      go_wp2;go_roundw
      case rel=>exact⟨i+m,i+m,f-1,h,A2,n2,K,_,F,rfl,by go_num,by go_num,by omega,by omega,by omega,by have:=D.out;omega,x,ao.out,d,by rw[show i+m=i+c from by omega];exact u.out⟩
      case measure=>simp[intOf];omega
   have I:=za (vI s.data.toList i (by simpa using hi) (by simpa using X) i (zd _));go_wp2;go_loopw [8,65] (fun r q wr=>PIn s w w.heap.size b.heap.size mB i 1 A n cap l r q wr) (fun _ q _=>1-(intOf q).toNat)
   case atStart=>exact⟨0,H,ab,rfl,rfl,by omega,by omega,L,y,O.out⟩
   case round=>
    obtain⟨c,h,F,rfl,rfl,hc,V3,x,d,z⟩:=hrel;have u:=za z;have C:¬i+c+4<=s.size:=by omega
    clear z;by_cases SS:c<1
    ·go_wp2;go_roundw
     case rel=>exact⟨c+1,h,F,by go_num,by go_num,by omega,by omega,x,d,u.out.skip (by simpa using C)⟩
     case measure=>simp[intOf];omega
    go_wp2;go_roundw
    case rel=>exact⟨i+1,p,f-1,h,A,n,cap,l,F,rfl,rfl,by go_num,by omega,by omega,by omega,by have:=D.out;omega,x,KQ N.out (by simpa using D.out) (by simpa using R) I.out,d,by rw[show i+1=i+c from by omega];exact u.out⟩
    case measure=>simp[intOf];omega
  have HE:=za (Xt N.out (by simpa using D.out) (by simpa using R) (show(s.extract p s.size).data.toList=s.data.toList.drop p by rw[an,cQ]));have al:(s.extract p s.size).size<=65536:=by rw[aj _ _ _ (zd _)];omega
  go_wp2_with fail
  refine(KO b.heap.size _ l (s.extract p s.size) _ L (by omega) (by omega) al).mono ?_;rintro e w3 ⟨A1,n1,c1,rfl,o,G⟩;rw[HE.out]at o;have Ri:=o.EV (P:=prog) zr yb zG;have HB:=za ((y.kept G).below);clear o G;go_wp2;go_ret2
  exact⟨rfl,HB.out⟩
open Go.RowKit
theorem uw :(prog.info? 5).map (fun i=>(i.zero,i.size,i.bytes))=some (some (.int .u8 0),1,1):=by kernel_rfl
theorem IU (g bx:Nat)(s:ByteArray)(k n:Nat)(w:World)(h:ji w g s k 0)(hx:w.cell? ⟨bx,0,none⟩=some (.pointer (some ⟨g,0,none⟩)))(m:s.size<=9223372036854775807)(d:k+n<=s.size)(u:1<=n)(x:n<=4):
 Calls prog 164 #[.int .i64 n,.pointer (some ⟨bx,0,none⟩)] w fun e w'=>e= .returned (.int .i64 (cZ (s.extract k (k+n)).data.toList))/\ji w' g s (k+n) 0/\ae [g] w w':=by
 have c:=eE g s k n w h m d;have hz:(s.extract k (k+n)).size=n:=by rw[aj _ _ _ d];omega
 have b:=fun w=>ff (s.extract k (k+n)) w (by omega) (by omega)
 have j:=jL (s.extract k (k+n)).data.toList;have o:2^(8*(s.extract k (k+n)).data.toList.length)<=2^32:=yp (by omega) (by rw[aa,hz];omega);have y:cZ (s.extract k (k+n)).data.toList<=4294967295:=by omega
 have i:=za c;have l:=za b;clear j o hz c b h;generalize cZ (s.extract k (k+n)).data.toList=N at*;go_enter func164,ntmps164
 go_wp2_with fail
 refine i.out.mono ?_;rintro e w' ⟨rfl,p,q⟩;go_wp2_with fail
 refine(l.out _).mono ?_;rintro e r ⟨rfl,rfl⟩;go_wp2;go_ret;exact⟨rfl,p,q⟩
theorem jA (g bx:Nat)(s:ByteArray)(k n:Nat)(w:World)(h:ji w g s k 0)(hx:w.cell? ⟨bx,0,none⟩=some (.pointer (some ⟨g,0,none⟩)))(d:k<=s.size)(c:s.size<=9223372036854775807)(j:s.size<k+n)(o:n<=4):
 Calls prog 164 #[.int .i64 n,.pointer (some ⟨bx,0,none⟩)] w fun e w'=>e= .returned (.int .i64 0)/\ji w' g s k 2/\ae [g] w w':=by
 have b:=za (gu g s k n w h d c j (by omega));clear h;go_enter func164,ntmps164
 go_wp2_with fail
 refine b.out.mono ?_;rintro e w' ⟨rfl,i,l⟩;go_wp2_with fail
 refine(nH _ _ rfl).mono ?_;rintro e m ⟨rfl,rfl⟩;go_wp2;go_ret;exact⟨rfl,i,l⟩
theorem Xv (b:Nat)(c:b<256):bits .and .u8 (b:Int) 3=((b%4:Nat):Int):=by
 have:=u8_and_nat b 3 c (by omega);rw[nat_mask2]at this;exact this
theorem FQ (g bx:Nat)(s:ByteArray)(k n N:Nat)(w:World)(h:ji w g s k 0)(hx:w.cell? ⟨bx,0,none⟩=some (.pointer (some ⟨g,0,none⟩)))(b:s.size<=9223372036854775807)(i:k+n<=s.size)(c:1<=n)(d:n<=4)(j:cZ (s.extract k (k+n)).data.toList=N):
 Calls prog 164 #[.int .i64 n,.pointer (some ⟨bx,0,none⟩)] w fun e w'=>e= .returned (.int .i64 N)/\ji w' g s (k+n) 0/\ae [g] w w':=by
 subst j;exact IU g bx s k n w h hx b i c d
theorem KR (s:ByteArray)(k b:Nat)(c:b<256)(h:k+bj b<=s.size):iK s k b<=4294967295:=by
 have i:=jL (s.extract (k+1) (k+bj b)).data.toList;have e:=BG b c;have d:2^(8*(s.extract (k+1) (k+bj b)).data.toList.length)<=2^32:=yp (by omega) (by rw[aa,aj _ _ _ h];omega);unfold iK;omega
theorem M5 (b n N c:Nat)(h:b<256)(i:b%4≠0)(d:cO b N=n)(e:kn b N=c):
 (bits .and .u8 (b:Int) 3=1/\Hid (bj b=2)/\Hid (4+(b:Int)/4%8=n)/\Hid ((b:Int)/4/8*256+N=c))\/
 (bits .and .u8 (b:Int) 3=2/\Hid (bj b=3)/\Hid ((b:Int)/4+1=n)/\Hid ((N:Int)=c))\/
 (bits .and .u8 (b:Int) 3=3/\Hid (bj b=5)/\Hid ((b:Int)/4+1=n)/\Hid ((N:Int)=c)):=by
 rw[Xv b h];rcases(show b%4=1\/b%4=2\/b%4=3 from by omega)with hm|hm|hm
 ·refine .inl ⟨by rw[hm];rfl,za (by simp[bj,hm]),za ?_,za ?_⟩
  ·simp[cO,hm]at d;omega
  simp[kn,hm]at e;omega
 ·refine .inr (.inl ⟨by rw[hm];rfl,za (by simp[bj,hm]),za ?_,za ?_⟩)
  ·simp[cO,hm]at d;omega
  simp[kn,hm]at e;omega
 refine .inr (.inr ⟨by rw[hm];rfl,za (by simp[bj,hm]),za ?_,za ?_⟩)
 ·simp[cO,hm]at d;omega
 simp[kn,hm]at e;omega
theorem vU (o:List UInt8)(d q:Nat)(h:d+q<=o.length):(cb ((o.drop d).take q)).length=q*1:=by
 rw[bs,zU,zR];omega
theorem vV {w:World}{base h cap:Nat}{o:List UInt8}{e:TypeId}(b:w.ownsRow base e 1 (.slice (some ⟨h,0,none⟩) o.length cap) o.length (cb o))(d q:Nat)(hd:d+q<=o.length):
 ∀j u,(cb ((o.drop d).take q))[j]?=some u->w.cell? ((⟨h,d,none⟩:Addr).add j)=some u:=by
 intro j u hu;have i:j<q:=by
  have:=(xx.1 hu).1;rw[vU o d q hd]at this;omega
 have c:(⟨h,d,none⟩:Addr).add j=⟨h,d+j,none⟩:=by
  unfold Addr.add;split<;>simp_all
 rw[c,b.cellAt (d+j) (by omega),<-hu,ET,ET,yA i,xq]
theorem vW {w wr w3:World}{B base h cap d c g k b m q size:Nat}{s:ByteArray}{o:List UInt8}{x:List UInt8}(e:wr.ownsRow base 5 1 (.slice (some ⟨h,0,none⟩) o.length cap) o.length (cb o))
 (p:w3.ownsRow base 5 1 (.slice (some ⟨d,0,none⟩) (o.length+q) c) (o.length+q) (cb o++cb ((o.drop (o.length-b)).take q)))
 (l:wr.grownBy w3 (Value.slice (some ⟨h,0,none⟩) o.length cap).ownBlock) (i:ji wr g s k 0) (n:Below B w wr) (y:B<=wr.heap.size) (D:B<=base)
 (u:uc o b m=x) (z:b<=o.length) (E:q<=m) (r:q<=b) (C:o.length+m<=size):
 Value.slice (some ⟨d,0,none⟩) (o.length+q) c= .slice (some ⟨d,0,none⟩) (o++(o.drop (o.length-b)).take q).length c/\
 w3.ownsRow base 5 1 (.slice (some ⟨d,0,none⟩) (o++(o.drop (o.length-b)).take q).length c) (o++(o.drop (o.length-b)).take q).length (cb (o++(o.drop (o.length-b)).take q))/\
 ji w3 g s k 0/\Below B w w3/\uc (o++(o.drop (o.length-b)).take q) b (m-q)=x/\b<=(o++(o.drop (o.length-b)).take q).length/\(o++(o.drop (o.length-b)).take q).length+(m-q)<=size:=by
 have j:(o++(o.drop (o.length-b)).take q).length=o.length+q:=by
  rw[zj,zU,zR];omega
 have A:=rK e;refine⟨by rw[j],by rw[j,gC];exact p, ?_, ?_, ?_,by omega,by omega⟩
 ·exact i.only (ae.dR l) (by simp[Value.ownBlock];exact(dD e i (by decide)).symm)
 ·exact n.grown l y (by simp[Value.ownBlock];omega)
 rw[<-Md o b q r z,<-Kj,show q+(m-q)=m from by omega];exact u
theorem M6 (b n size len:Nat)(c:len<=size):
 (((b=0\/len<b)\/size-len<n)/\((b:Int)==0)=true)\/(((b=0\/len<b)\/size-len<n)/\((b:Int)==0)=false/\len<b)\/
 (((b=0\/len<b)\/size-len<n)/\((b:Int)==0)=false/\b<=len/\(size:Int)-len<n)\/((¬((b=0\/len<b)\/size-len<n))/\((b:Int)==0)=false/\b<=len/\(n:Int)<=size-len/\decide (len<b)=false/\decide ((size:Int)-len<n)=false):=by
 simp only[yN,zm,ne_eq,xH];omega
def qG (g:Nat)(s:ByteArray)(B base:Nat)(w:World)(x:Int×Nat×List UInt8)(e:Ending)(w':World):Prop:=
 ∃h' aq k',e= .returned (.slice (some ⟨h',0,none⟩) x.2.2.length aq)/\w'.ownsRow base 5 1 (.slice (some ⟨h',0,none⟩) x.2.2.length aq) x.2.2.length (cb x.2.2)/\
  ji w' g s k' x.1/\(x.1=0->k'=x.2.1)/\Below B w w'
theorem Ds (g:Nat)(s:ByteArray)(k b:Nat)(w:World)(h:ji w g s k 0)(hk:k<s.size)(hs:s.size<=9223372036854775807)(hb:s[k].toNat=b)(d:b<256)(Rh:b%4≠0)(l:k+bj b<=s.size)
 (B base cap G size:Nat) (out:List UInt8) (X:w.ownsRow base 5 1 (.slice (some ⟨G,0,none⟩) out.length cap) out.length (cb out)) (pN:B<=g) (kX:B<=base) (tB:B<=w.heap.size) (aD:out.length<=size) (gF:size<=4294967295):
 Calls prog 139 #[.pointer (some ⟨g,0,none⟩),.slice (some ⟨G,0,none⟩) out.length cap,.int .i64 size] w (qG g s B base w (bV s size k b out)):=by
 have cB:=dD X h (by decide);have ru:=(vS g s k _ (h.alloc (.cells #[.pointer (some ⟨g,0,none⟩)] 164)) hk hs)
 rw[hb]at ru;have LI:=za ru;have dX:=X.alloc (.cells #[.pointer (some ⟨g,0,none⟩)] 164);have kf:=af.new w 164 #[.pointer (some ⟨g,0,none⟩)];have ag:=h.lt;have hB:=(zl B w).alloc tB (.cells #[.pointer (some ⟨g,0,none⟩)] 164);obtain⟨N,I⟩:∃N,iK s k b=N:=⟨_,rfl⟩
 have ad:=KR s k b d l;rw[I]at ad;obtain⟨n,hn⟩:∃n,cO b N=n:=⟨_,rfl⟩
 obtain⟨c,O⟩:∃n,kn b N=n:=⟨_,rfl⟩
 have LH:Hid (bV s size k b out=if((c=0\/out.length<c))\/size-out.length<n then(3,k,out)else(0,k+bj b,uc out c n)):=by
  refine za ?_;unfold bV;rw[I,hn,O,zh (by omega)];simp[Rh]
 obtain⟨i0,hi,ea,cl,cC⟩:=yE uw;have HN:=za I;have Hh:=za l;have Hn:=za hn;have ae:=za O;clear ru h X hb l I hn O;go_enter ZP,ZF
 go_wp2_with fail
 refine LI.out.mono ?_;rintro e L ⟨rfl,hr,K⟩;have aH:Below B w L:=hB.trans (K.below (by simp;omega) (by simp;omega));have ej:=K.own dX (by simp[Value.ownBlock];exact cB);have W:=kf.only K (by simp;omega);have GS:L.cell? ⟨w.heap.size,0,none⟩=some (.pointer (some ⟨g,0,none⟩)):=zW W;clear K kf dX hB LI;rcases M5 b n N c d Rh Hn.out ae.out with⟨Aj,l,E1,E2⟩|⟨Aj,l,E1,E2⟩|⟨Aj,l,E1,E2⟩;all_goals
  first
   |have y:∃q:Nat,bj b=q+1/\(q:Int)=1:=⟨1,l.out,rfl⟩
   |have y:∃q:Nat,bj b=q+1/\(q:Int)=2:=⟨2,l.out,rfl⟩
   |have y:∃q:Nat,bj b=q+1/\(q:Int)=4:=⟨4,l.out,rfl⟩
  obtain⟨q,y,aa⟩:=y;have HQ:=za y;have j:=za (FQ g _ s (k+1) q N L hr GS hs (by have:=Hh.out;omega) (by omega) (by omega) (by rw[<-HN.out,iK,y,show k+(q+1)=k+1+q from by omega]));rw[aa]at j;clear y aa;go_wp2_with fail
  refine j.out.mono ?_;rintro e H ⟨rfl,Y,J⟩;have M:Below B w H:=aH.trans (J.below (by have:=aH.size;omega) (by simp;omega));have tU:=W.only J (by simp;omega);have Rt:H.cell? ⟨w.heap.size,0,none⟩=some (.pointer (some ⟨g,0,none⟩)):=zW tU;have ib:=J.own ej (by simp[Value.ownBlock];exact cB);go_wp2_with fail
  rw[E1.out,E2.out];refine(bw g s _ 0 H Y).mono ?_;rintro e w' ⟨rfl,rfl⟩;clear j J ej W GS hr aH;rcases M6 c n size out.length aD with⟨r,Z⟩|⟨r,Z,e2⟩|⟨r,Z,e2,e3⟩|⟨r,Z,e2,e3,e4,e5⟩;rotate_right
  ·have F:=za r;clear r;have ak:1<=c:=by have:=F.out;omega
   go_wp2_with fail
   go_loopw [1,11] (fun v x wr=>∃(m:Nat) (o:List UInt8) (z u:Nat),v= .slice (some ⟨z,0,none⟩) o.length u/\x= .int .i64 m/\wr.ownsRow base 5 1 (.slice (some ⟨z,0,none⟩) o.length u) o.length (cb o)/\
    ji wr g s (k+1+q) 0/\Below B w wr/\Hid (uc o c m=uc out c n)/\c<=o.length/\o.length+m<=size) (fun _ x _=>(intOf x).toNat)
   case atStart=>exact⟨n,out,G,cap,rfl,rfl,ib,Y,M,za rfl,e2,by omega⟩
   case round=>
    obtain⟨m,o,z,u,rfl,rfl,i,C,d,p,ab,Rs⟩:=hrel;obtain⟨En,AH,ai,al⟩:=rK i;have ah:¬u=o.length-c:=by omega
    by_cases Bn:0<m
    ·by_cases aj:m<=c
     ·have j:=za (vU o (o.length-c) m (by omega));have E:=za (vV i (o.length-c) m (by omega));go_wp2_with (at_builtin;refine xj _ rfl (.tmp 100) (.tmp 101) 31 rfl base 5 i0 (.int .u8 0) 1 1 zr hi ea cl cC rfl (by decide) _ _ _ rfl i ⟨z,o.length-c,none⟩ m (u-(o.length-c)) (cb ((o.drop (o.length-c)).take m)) rfl j.out E.out (ve _) (by omega) (by simp only[maxLen];omega) (by omega) (by have:=d.size;omega) wr.heap.size rfl ?_;intro S U w3 A D cX YP)
      have R:=vW i A D C d (by have:=d.size;omega) (by omega) p.out ab (show m<=m from by omega) (show m<=c from by omega) Rs;clear A D cX i C d p E j;go_wp2;go_roundw
      case rel=>exact⟨m-m,_,S,U,R.1,by go_num,R.2.1,R.2.2.1,R.2.2.2.1,za R.2.2.2.2.1,R.2.2.2.2.2.1,R.2.2.2.2.2.2⟩
      case measure=>simp[intOf];omega
     have j:=za (vU o (o.length-c) c (by omega));have E:=za (vV i (o.length-c) c (by omega));go_wp2_with (at_builtin;refine xj _ rfl (.tmp 100) (.tmp 101) 31 rfl base 5 i0 (.int .u8 0) 1 1 zr hi ea cl cC rfl (by decide) _ _ _ rfl i ⟨z,o.length-c,none⟩ c (u-(o.length-c)) (cb ((o.drop (o.length-c)).take c)) rfl j.out E.out (ve _) (by omega) (by simp only[maxLen];omega) (by omega) (by have:=d.size;omega) wr.heap.size rfl ?_;intro S U w3 A D cX YP)
     have R:=vW i A D C d (by have:=d.size;omega) (by omega) p.out ab (show c<=m from by omega) (show c<=c from by omega) Rs;clear A D cX i C d p E j;go_wp2;go_roundw
     case rel=>exact⟨m-c,_,S,U,R.1,by go_num,R.2.1,R.2.2.1,R.2.2.2.1,za R.2.2.2.2.1,R.2.2.2.2.2.1,R.2.2.2.2.2.2⟩
     case measure=>simp[intOf];omega
    go_wp2;go_ret;obtain rfl:m=0:=by omega
    have p:=p.out;simp only[uc]at p;rw[LH.out,zh F.out,HQ.out,<-p];exact⟨z,u,_,rfl,i,C,fun _=>by simp;omega,d⟩
  all_goals
   have F:=za r;clear r;go_wp2_with fail
   refine(iV g s _ 3 H Y).mono ?_;rintro e w3 ⟨rfl,tV,lO⟩;have bU:Below B w w3:=M.trans (lO.below (by have:=M.size;omega) (by simp;omega));have fR:=lO.own ib (by simp[Value.ownBlock];exact cB);go_wp2;go_ret;rw[LH.out,zi F.out];exact⟨G,cap,_,rfl,fR,tV,(fun h=>by cases h),bU⟩
theorem FR (n size len:Nat)(b:len<=size):(size-len<n/\(size:Int)-len<n)\/(¬size-len<n/\(n:Int)<=size-len):=by omega
theorem IV (b:Nat)(d:b<256)(h:1<bj b):
 (bits .and .u8 (b:Int) 3=0/\60<=b/4/\∃nb:Nat,1<=nb/\nb<=4/\Hid (bj b=nb+1)/\Hid ((b:Int)/4-59=nb))\/(bits .and .u8 (b:Int) 3=1/\Hid (bj b=1+1))\/(bits .and .u8 (b:Int) 3=2/\Hid (bj b=2+1))\/(bits .and .u8 (b:Int) 3=3/\Hid (bj b=4+1)):=by
 rw[Xv b d];rcases(show b%4=0\/b%4=1\/b%4=2\/b%4=3 from by omega)with hm|hm|hm|hm
 ·have c:60<=b/4:=by
   rcases xC (b/4) 60 with h1|h1
   ·simp[bj,hm,show¬60<=b/4 from by omega]at h
   exact h1
  exact .inl ⟨by rw[hm];rfl,c,b/4-59,by omega,by omega,za (by simp[bj,hm,c];omega),za (by omega)⟩
 ·exact .inr (.inl ⟨by rw[hm];rfl,za (by simp[bj,hm])⟩)
 ·exact .inr (.inr (.inl ⟨by rw[hm];rfl,za (by simp[bj,hm])⟩))
 exact .inr (.inr (.inr ⟨by rw[hm];rfl,za (by simp[bj,hm])⟩))
theorem FT (g:Nat)(s:ByteArray)(k b:Nat)(w:World)(h:ji w g s k 0)(hk:k<s.size)(H:s.size<=9223372036854775807)(hb:s[k].toNat=b)(eW:b<256)(G:b%4=0)(tL:k+bj b<=s.size)
 (B base cap x size:Nat) (out:List UInt8) (bO:w.ownsRow base 5 1 (.slice (some ⟨x,0,none⟩) out.length cap) out.length (cb out)) (pN:B<=g) (kX:B<=base) (tB:B<=w.heap.size) (jb:base<=w.heap.size) (aD:out.length<=size) (gF:size<=4294967295):
 Calls prog 139 #[.pointer (some ⟨g,0,none⟩),.slice (some ⟨x,0,none⟩) out.length cap,.int .i64 size] w (qG g s B base w (bV s size k b out)):=by
 have y:=dD bO h (by decide);have ru:=(vS g s k _ (h.alloc (.cells #[.pointer (some ⟨g,0,none⟩)] 164)) hk H)
 rw[hb]at ru;have LI:=za ru;have dX:=bO.alloc (.cells #[.pointer (some ⟨g,0,none⟩)] 164);have kf:=af.new w 164 #[.pointer (some ⟨g,0,none⟩)];have ah:=h.lt;have hB:=(zl B w).alloc tB (.cells #[.pointer (some ⟨g,0,none⟩)] 164);obtain⟨N,X⟩:∃N,iK s k b=N:=⟨_,rfl⟩
 have ad:=KR s k b eW tL;rw[X]at ad;obtain⟨n,hn⟩:∃n,cO b N=n:=⟨_,rfl⟩
 have I:Hid (bV s size k b out=if size-out.length<n then(3,k,out)else if s.size<k+bj b+n then(2,k,out)else(0,k+bj b+n,out++(s.extract (k+bj b) (k+bj b+n)).data.toList)):=by
  refine za ?_;unfold bV;rw[X,hn,zh (by omega)];simp[G]
 obtain⟨i0,hi,S,U,R⟩:=yE uw;have HN:=za X;have Hh:=za tL;have Hn:=za hn;have Aj:bits .and .u8 (b:Int) 3=0:=by rw[Xv b eW,G];rfl
 clear ru h bO hb tL X hn;go_enter ZP,ZF
 go_wp2_with fail
 refine LI.out.mono ?_;rintro e w1 ⟨rfl,hr,Z⟩;have M:Below B w w1:=hB.trans (Z.below (by simp;omega) (by simp;omega));have W:=Z.own dX (by simp[Value.ownBlock];exact y);have L:=kf.only Z (by simp;omega);have GS:w1.cell? ⟨w.heap.size,0,none⟩=some (.pointer (some ⟨g,0,none⟩)):=zW L;clear Z kf dX hB LI;by_cases O:60<=b/4
 ·obtain⟨nb,ab⟩:∃nb:Nat,(b:Int)/4-59=nb:=⟨b/4-59,by omega⟩
  have m:Hid (k+1+nb=k+bj b):=za (by simp[bj,G,O];omega);have E1:Hid ((N:Int)+1=n):=za (by have:=Hn.out;simp[cO,G,O]at this;omega);have ag:=za ab;have Hl:=za (FQ g _ s (k+1) nb N w1 hr GS H (by have:=Hh.out;have:=m.out;omega) (by omega) (by omega) (by rw[<-HN.out,iK,m.out]));have ai:k+1+nb<=s.size:=by have:=Hh.out;have:=m.out;omega
  clear ab;go_wp2_with fail
  rw[ag.out];refine Hl.out.mono ?_;rintro e w2 ⟨rfl,u,Y⟩;have l:Below B w w2:=M.trans (Y.below (by have:=M.size;omega) (by simp;omega));have tU:=L.only Y (by simp;omega);have Rt:w2.cell? ⟨w.heap.size,0,none⟩=some (.pointer (some ⟨g,0,none⟩)):=zW tU;have E:=Y.own W (by simp[Value.ownBlock];exact y);clear Hl Y W L GS hr M;go_wp2_with fail
  rw[E1.out];refine(bw g s _ 0 _ u).mono ?_;rintro e w' ⟨rfl,rfl⟩;rcases FR n size out.length aD with⟨o,e1⟩|⟨o,e1⟩
  ·have r:=za o;clear o;go_wp2_with fail
   refine(iV g s _ 3 _ u).mono ?_;rintro e w3 ⟨rfl,j,i⟩;have c:Below B w w3:=l.trans (i.below (by have:=l.size;omega) (by simp;omega));have d:=i.own E (by simp[Value.ownBlock];exact y);go_wp2;go_ret;rw[I.out,zi r.out];exact⟨x,cap,_,rfl,d,j,(fun h=>by cases h),c⟩
  have r:=za o;clear o;by_cases tR:s.size<k+1+nb+n
  ·have C:=za (gu g s (k+1+nb) n _ u (by omega) H tR (by omega));go_wp2_with fail
   refine C.out.mono ?_;rintro e w3 ⟨rfl,j,i⟩;have c:Below B w w3:=l.trans (i.below (by have:=l.size;omega) (by simp;omega));have d:=i.own E (by simp[Value.ownBlock];exact y);have Ru:=dD d j (by decide);go_wp2_with (at_builtin;refine xR _ rfl (.tmp 82) (.tmp 85) 31 9 rfl base 5 i0 zr zG hi S U R (.slice (some ⟨x,0,none⟩) out.length cap) out.length (cb out) rfl d ByteArray.empty rfl (by simp[maxLen];omega) (by simp;omega) (by have:=c.size;omega) ?_;intro v' w4 p q F)
   obtain⟨A,D,rfl⟩:=qi p (by rw[ne_eq,F];simp);go_wp2;go_ret;rw[I.out,zh r.out,zi (by have:=m.out;omega)];refine⟨A,D,_,by simp,by simpa[Lib.strCells]using p,j.only (ae.dR q) (by simp[Value.ownBlock];omega),(fun h=>by cases h),c.grown q (by have:=c.size;omega) (by simp[Value.ownBlock];have:=rK d;omega)⟩
  have C:=za (eE g s (k+1+nb) n _ u H (by omega));have K:=za (aj s (k+1+nb) (k+1+nb+n) (by omega));have aa:Hid (s.extract (k+1+nb) (k+1+nb+n)=s.extract (k+bj b) (k+bj b+n)):=za (by rw[<-m.out]);go_wp2_with fail
  refine C.out.mono ?_;rintro e w3 ⟨rfl,j,i⟩;have c:Below B w w3:=l.trans (i.below (by have:=l.size;omega) (by simp;omega));have d:=i.own E (by simp[Value.ownBlock];exact y);have Ru:=dD d j (by decide);generalize s.extract (k+1+nb) (k+1+nb+n)=z at*;go_wp2_with (at_builtin;refine xR _ rfl (.tmp 82) (.tmp 85) 31 9 rfl base 5 i0 zr zG hi S U R (.slice (some ⟨x,0,none⟩) out.length cap) out.length (cb out) rfl d z rfl (by rw[K.out];simp only[maxLen];omega) (by rw[K.out];omega) (by have:=c.size;omega) ?_;intro v' w4 p q F)
  obtain⟨A,D,rfl⟩:=qi p (by rw[ne_eq,F];simp);have J:(out++z.data.toList).length=out.length+z.size:=by simp
  go_wp2;go_ret;rw[I.out,zh r.out,zh (by have:=m.out;omega),<-aa.out];refine⟨A,D,_,by rw[J];rfl, ?_,j.only (ae.dR q) (by simp[Value.ownBlock];omega),(fun _=>by have:=m.out;simp;omega),c.grown q (by have:=c.size;omega) (by simp[Value.ownBlock];have:=rK d;omega)⟩;rw[J,gC];exact p
 have m:Hid (k+1=k+bj b):=za (by simp[bj,G,O]);have E1:Hid ((b:Int)/4+1=n):=za (by have:=Hn.out;simp[cO,G,O]at this;omega);have u:=hr;have l:=M;have E:=W;have tU:=L;clear hr M W L;go_wp2_with fail
 rw[E1.out];refine(bw g s _ 0 _ u).mono ?_;rintro e w' ⟨rfl,rfl⟩;rcases FR n size out.length aD with⟨o,e1⟩|⟨o,e1⟩
 ·have r:=za o;clear o;go_wp2_with fail
  refine(iV g s _ 3 _ u).mono ?_;rintro e w3 ⟨rfl,j,i⟩;have c:Below B w w3:=l.trans (i.below (by have:=l.size;omega) (by simp;omega));have d:=i.own E (by simp[Value.ownBlock];exact y);go_wp2;go_ret;rw[I.out,zi r.out];exact⟨x,cap,_,rfl,d,j,(fun h=>by cases h),c⟩
 have r:=za o;clear o;by_cases tR:s.size<k+1+n
 ·have C:=za (gu g s (k+1) n _ u (by omega) H tR (by omega));go_wp2_with fail
  refine C.out.mono ?_;rintro e w3 ⟨rfl,j,i⟩;have c:Below B w w3:=l.trans (i.below (by have:=l.size;omega) (by simp;omega));have d:=i.own E (by simp[Value.ownBlock];exact y);have Ru:=dD d j (by decide);go_wp2_with (at_builtin;refine xR _ rfl (.tmp 82) (.tmp 85) 31 9 rfl base 5 i0 zr zG hi S U R (.slice (some ⟨x,0,none⟩) out.length cap) out.length (cb out) rfl d ByteArray.empty rfl (by simp[maxLen];omega) (by simp;omega) (by have:=c.size;omega) ?_;intro v' w4 p q F)
  obtain⟨A,D,rfl⟩:=qi p (by rw[ne_eq,F];simp);go_wp2;go_ret;rw[I.out,zh r.out,zi (by have:=m.out;omega)];refine⟨A,D,_,by simp,by simpa[Lib.strCells]using p,j.only (ae.dR q) (by simp[Value.ownBlock];omega),(fun h=>by cases h),c.grown q (by have:=c.size;omega) (by simp[Value.ownBlock];have:=rK d;omega)⟩
 have C:=za (eE g s (k+1) n _ u H (by omega));have K:=za (aj s (k+1) (k+1+n) (by omega));have aa:Hid (s.extract (k+1) (k+1+n)=s.extract (k+bj b) (k+bj b+n)):=za (by rw[<-m.out]);go_wp2_with fail
 refine C.out.mono ?_;rintro e w3 ⟨rfl,j,i⟩;have c:Below B w w3:=l.trans (i.below (by have:=l.size;omega) (by simp;omega));have d:=i.own E (by simp[Value.ownBlock];exact y);have Ru:=dD d j (by decide);generalize s.extract (k+1) (k+1+n)=z at*;go_wp2_with (at_builtin;refine xR _ rfl (.tmp 82) (.tmp 85) 31 9 rfl base 5 i0 zr zG hi S U R (.slice (some ⟨x,0,none⟩) out.length cap) out.length (cb out) rfl d z rfl (by rw[K.out];simp only[maxLen];omega) (by rw[K.out];omega) (by have:=c.size;omega) ?_;intro v' w4 p q F)
 obtain⟨A,D,rfl⟩:=qi p (by rw[ne_eq,F];simp);have J:(out++z.data.toList).length=out.length+z.size:=by simp
 go_wp2;go_ret;rw[I.out,zh r.out,zh (by have:=m.out;omega),<-aa.out];refine⟨A,D,_,by rw[J];rfl, ?_,j.only (ae.dR q) (by simp[Value.ownBlock];omega),(fun _=>by have:=m.out;simp;omega),c.grown q (by have:=c.size;omega) (by simp[Value.ownBlock];have:=rK d;omega)⟩;rw[J,gC];exact p
theorem Bb (g:Nat)(s:ByteArray)(k b:Nat)(w:World)(h:ji w g s k 0)(W:k<s.size)(L:s.size<=9223372036854775807)(K:s[k].toNat=b)(S:b<256)(M:s.size<k+bj b)
 (B base cap I size:Nat) (out:List UInt8) (J:w.ownsRow base 5 1 (.slice (some ⟨I,0,none⟩) out.length cap) out.length (cb out)) (pN:B<=g) (kX:B<=base) (U:B<=w.heap.size):
 Calls prog 139 #[.pointer (some ⟨g,0,none⟩),.slice (some ⟨I,0,none⟩) out.length cap,.int .i64 size] w (qG g s B base w (bV s size k b out)):=by
 have z:=dD J h (by decide);have H:=(vS g s k _ (h.alloc (.cells #[.pointer (some ⟨g,0,none⟩)] 164)) W L)
 rw[K]at H;have A:=za H;have u:=J.alloc (.cells #[.pointer (some ⟨g,0,none⟩)] 164);have x:=af.new w 164 #[.pointer (some ⟨g,0,none⟩)];have Y:=h.lt;have y:=(zl B w).alloc U (.cells #[.pointer (some ⟨g,0,none⟩)] 164);have N:Hid (bV s size k b out=(2,k,out)):=by
  refine za ?_;unfold bV;rw[zi M]
 rcases IV b S (by omega:1<bj b)with⟨R,hv,nb,aa,Z,D,X⟩|⟨R,D⟩|⟨R,D⟩|⟨R,D⟩
 ·have E:s.size<k+1+nb:=by have:=D.out;omega
  clear H h J K M;go_enter ZP,ZF
  go_wp2_with fail
  refine A.out.mono ?_;rintro e l ⟨rfl,m,d⟩;have j:Below B w l:=y.trans (d.below (by simp;omega) (by simp;omega));have o:=d.own u (by simp[Value.ownBlock];exact z);have i:=x.only d (by simp;omega);have q:l.cell? ⟨w.heap.size,0,none⟩=some (.pointer (some ⟨g,0,none⟩)):=zW i;have n:=za (jA g _ s (k+1) nb l m q (by omega) L E (by omega));clear d x u y A;go_wp2_with fail
  rw[X.out];refine n.out.mono ?_;rintro e p ⟨rfl,r,c⟩;have F:Below B w p:=j.trans (c.below (by have:=j.size;omega) (by simp;omega));have C:=i.only c (by simp;omega);have O:p.cell? ⟨w.heap.size,0,none⟩=some (.pointer (some ⟨g,0,none⟩)):=zW C;have G:=c.own o (by simp[Value.ownBlock];exact z);clear n c o i q m j;go_wp2_with fail
  refine(bw g s _ 2 _ r).mono ?_;rintro e w' ⟨rfl,rfl⟩;go_wp2;go_ret;rw[N.out];exact⟨I,cap,_,rfl,G,r,(fun h=>by cases h),F⟩
 ·have E:s.size<k+1+1:=by have:=D.out;omega
  clear H h J K M;go_enter ZP,ZF
  go_wp2_with fail
  refine A.out.mono ?_;rintro e l ⟨rfl,m,d⟩;have j:Below B w l:=y.trans (d.below (by simp;omega) (by simp;omega));have o:=d.own u (by simp[Value.ownBlock];exact z);have i:=x.only d (by simp;omega);have q:l.cell? ⟨w.heap.size,0,none⟩=some (.pointer (some ⟨g,0,none⟩)):=zW i;have n:=za (jA g _ s (k+1) 1 l m q (by omega) L E (by omega));clear d x u y A;go_wp2_with fail
  skip
  refine n.out.mono ?_;rintro e p ⟨rfl,r,c⟩;have F:Below B w p:=j.trans (c.below (by have:=j.size;omega) (by simp;omega));have C:=i.only c (by simp;omega);have O:p.cell? ⟨w.heap.size,0,none⟩=some (.pointer (some ⟨g,0,none⟩)):=zW C;have G:=c.own o (by simp[Value.ownBlock];exact z);clear n c o i q m j;go_wp2_with fail
  refine(bw g s _ 2 _ r).mono ?_;rintro e w' ⟨rfl,rfl⟩;go_wp2;go_ret;rw[N.out];exact⟨I,cap,_,rfl,G,r,(fun h=>by cases h),F⟩
 ·have E:s.size<k+1+2:=by have:=D.out;omega
  clear H h J K M;go_enter ZP,ZF
  go_wp2_with fail
  refine A.out.mono ?_;rintro e l ⟨rfl,m,d⟩;have j:Below B w l:=y.trans (d.below (by simp;omega) (by simp;omega));have o:=d.own u (by simp[Value.ownBlock];exact z);have i:=x.only d (by simp;omega);have q:l.cell? ⟨w.heap.size,0,none⟩=some (.pointer (some ⟨g,0,none⟩)):=zW i;have n:=za (jA g _ s (k+1) 2 l m q (by omega) L E (by omega));clear d x u y A;go_wp2_with fail
  skip
  refine n.out.mono ?_;rintro e p ⟨rfl,r,c⟩;have F:Below B w p:=j.trans (c.below (by have:=j.size;omega) (by simp;omega));have C:=i.only c (by simp;omega);have O:p.cell? ⟨w.heap.size,0,none⟩=some (.pointer (some ⟨g,0,none⟩)):=zW C;have G:=c.own o (by simp[Value.ownBlock];exact z);clear n c o i q m j;go_wp2_with fail
  refine(bw g s _ 2 _ r).mono ?_;rintro e w' ⟨rfl,rfl⟩;go_wp2;go_ret;rw[N.out];exact⟨I,cap,_,rfl,G,r,(fun h=>by cases h),F⟩
 have E:s.size<k+1+4:=by have:=D.out;omega
 clear H h J K M;go_enter ZP,ZF
 go_wp2_with fail
 refine A.out.mono ?_;rintro e l ⟨rfl,m,d⟩;have j:Below B w l:=y.trans (d.below (by simp;omega) (by simp;omega));have o:=d.own u (by simp[Value.ownBlock];exact z);have i:=x.only d (by simp;omega);have q:l.cell? ⟨w.heap.size,0,none⟩=some (.pointer (some ⟨g,0,none⟩)):=zW i;have n:=za (jA g _ s (k+1) 4 l m q (by omega) L E (by omega));clear d x u y A;go_wp2_with fail
 skip
 refine n.out.mono ?_;rintro e p ⟨rfl,r,c⟩;have F:Below B w p:=j.trans (c.below (by have:=j.size;omega) (by simp;omega));have C:=i.only c (by simp;omega);have O:p.cell? ⟨w.heap.size,0,none⟩=some (.pointer (some ⟨g,0,none⟩)):=zW C;have G:=c.own o (by simp[Value.ownBlock];exact z);clear n c o i q m j;go_wp2_with fail
 refine(bw g s _ 2 _ r).mono ?_;rintro e w' ⟨rfl,rfl⟩;go_wp2;go_ret;rw[N.out];exact⟨I,cap,_,rfl,G,r,(fun h=>by cases h),F⟩
theorem Cp (g:Nat)(s:ByteArray)(k:Nat)(w:World)(h:ji w g s k 0)(e:k<s.size)(c:s.size<=9223372036854775807)
 (B base cap b size:Nat) (out:List UInt8) (i:w.ownsRow base 5 1 (.slice (some ⟨b,0,none⟩) out.length cap) out.length (cb out)) (j:B<=g) (l:B<=base) (d:B<=w.heap.size) (p:base<=w.heap.size) (o:out.length<=size) (n:size<=4294967295):
 Calls prog 139 #[.pointer (some ⟨g,0,none⟩),.slice (some ⟨b,0,none⟩) out.length cap,.int .i64 size] w (qG g s B base w (bV s size k s[k].toNat out)):=by
 by_cases q:s.size<k+bj s[k].toNat
 ·exact Bb g s k _ w h e c rfl s[k].toNat_lt q B base cap b size out i j l d
 by_cases m:s[k].toNat%4=0
 ·exact FT g s k _ w h e c rfl s[k].toNat_lt m (by omega) B base cap b size out i j l d p o n
 exact Ds g s k _ w h e c rfl s[k].toNat_lt m (by omega) B base cap b size out i j l d o n
theorem tri {x y:Nat×Nat×Int}{a b c:Int}(h:x=y)(i:a=y.1)(d:b=y.2.1)(e:c=y.2.2):Ending.returned (.tuple #[.int .i64 a,.int .i64 b,.int .i64 c])= .returned (.tuple #[.int .i64 x.1,.int .i64 x.2.1,.int .i64 x.2.2]):=by
 subst h;rw[i,d,e]
theorem two {x:Int×List UInt8}{e:Int}{l:List UInt8}(h:x=(e,l)):Ending.returned (.tuple #[.string ⟨l.toArray⟩,.int .i64 e])= .returned (.tuple #[.string ⟨x.2.toArray⟩,.int .i64 x.1]):=by
 subst h;rfl
theorem Dt (s:ByteArray)(w:World)(m:s.size<=9223372036854775807):
 Calls prog 137 #[.string s] w fun e w'=>e= .returned (.tuple #[.int .i64 (ay s).1,.int .i64 (ay s).2.1,.int .i64 (ay s).2.2])/\w=w':=by
 have d:=fun w=>rQ s w m
 have hz:ay s=if(au s).2.2=0 then(if 4294967295<(au s).1 then(0,0,5)else au s)else(0,0,(au s).2.2):=rfl
 generalize au s=x at*;obtain⟨n,hd,p⟩:=x;generalize ay s=y at*;simp only at d hz;have h:=za d;have b:=za hz;clear d hz;rcases eT p with⟨c,k,j⟩|⟨c,k,j⟩
 ·subst c;clear k j;by_cases l:4294967295<n
  ·have i:Hid (y=(0,0,5)):=za (by rw[b.out,zi rfl,zi l]);clear b;go_enter func137,ntmps137
   go_wp2_with fail
   refine(h.out _).mono ?_;rintro e w' ⟨rfl,rfl⟩;go_wp2;go_ret3
   exact⟨tri i.out rfl rfl rfl,rfl⟩
  have i:Hid (y=(n,hd,0)):=za (by rw[b.out,zi rfl,zh l]);clear b;go_enter func137,ntmps137
  go_wp2_with fail
  refine(h.out _).mono ?_;rintro e w' ⟨rfl,rfl⟩;go_wp2;go_ret3
  exact⟨tri i.out rfl rfl rfl,rfl⟩
 have o:=za c;clear c;go_enter func137,ntmps137
 go_wp2_with fail
 refine(h.out _).mono ?_;rintro e w' ⟨rfl,rfl⟩;go_wp2;go_ret3
 exact⟨tri (b.out.trans (by rw[zh o.out])) rfl rfl rfl,rfl⟩
theorem qH (s:ByteArray)(h:(ay s).2.2=0):(ay s).1<=4294967295/\0<(ay s).2.1/\(ay s).2.1<=10/\(ay s).2.1<=s.size:=by
 have hz:ay s=if(au s).2.2=0 then(if 4294967295<(au s).1 then(0,0,5)else au s)else(0,0,(au s).2.2):=rfl
 by_cases b:(au s).2.2=0
 ·have d:=fZ s b;by_cases c:4294967295<(au s).1
  ·rw[hz,zi b,zi c]at h;simp at h
  rw[hz,zi b,zh c];omega
 rw[hz,zh b]at h;exact absurd h b
def IW (g B size:Nat)(body:ByteArray)(X:Int×List UInt8)(w:World)(gk:Nat)(v:Value)(wr:World):Prop:=
 ∃(k:Nat) (out:List UInt8) (h' aq:Nat) (f:Int),v= .slice (some ⟨h',0,none⟩) out.length aq/\wr.ownsRow B 5 1 (.slice (some ⟨h',0,none⟩) out.length aq) out.length (cb out)/\ji wr g body k f/\Below B w wr/\
  ((f=0/\k<=body.size/\out.length<=size/\Hid (fL body size gk k out=X)/\body.size-k<gk)\/(Hid (f≠0)/\(f==0)=false/\(f !=0)=true/\Hid (X=(f,[]))))
theorem FU {g B size:Nat}{body:ByteArray}{X:Int×List UInt8}{w j l:World}{gk k:Nat}{out:List UInt8}{e:Ending}(x:Below B w j)(h:k<body.size)(A:out.length<=size)(hx:fL body size gk k out=X)(C:body.size-k<gk)
 (o:qG g body B B j (bV body size k body[k].toNat out) e l):∃v,e= .returned v/\(∃d n c,v= .slice (some ⟨d,0,none⟩) n c)/\IW g B size body X w (gk-1) v l:=by
 obtain⟨d,y,u,rfl,z,p,r,q⟩:=o;obtain⟨f,rfl⟩:∃f,gk=f+1:=⟨gk-1,by omega⟩
 refine⟨_,rfl,⟨_,_,_,rfl⟩,u,_,d,y,_,rfl,z,p,x.trans q, ?_⟩;rcases eT (bV body size k body[k].toNat out).1 with⟨b,m,i⟩|⟨b,m,i⟩
 ·have s:=OT body[k].toNat_lt h A b;have:=r b;subst this;exact .inl ⟨b,by omega,s.2.2,za (Me h hx b),by simp;omega⟩
 exact .inr ⟨za b,m,i,za (OU h hx b)⟩
theorem qI {b c:World}{B:Nat}{e:TypeId}{z:Nat}{v:Value}{n:Nat}{xs:List Value}{o:Obj}(h:b.ownsRow B e z v n xs)(d:c=b.alloc o):c.ownsRow B e z v n xs:=d▸h.alloc o
theorem IX (s:ByteArray)(most:Int)(w:World)(hs:s.size<=9223372036854775807):
 Calls prog 117 #[.string s,.int .i64 most,.pointer none] w fun e w'=>e= .returned (.tuple #[.string ⟨(aZ s most).2.toArray⟩,.int .i64 (aZ s most).1])/\Below w.heap.size w w':=by
 have u:=fun w=>Dt s w hs
 have r:=qH s;have hz:aZ s most=if(ay s).2.2≠0 then((ay s).2.2,[])else if most<(ay s).1 then(5,[])else jd (s.extract (ay s).2.1 s.size) (ay s).1:=rfl
 generalize ay s=x at*;obtain⟨n,hd,er⟩:=x;generalize aZ s most=y at*;simp only at u hz r;have A:=za u;have o:=za hz;clear u hz;obtain⟨i0,hi,M,cl,W⟩:=yE uw;rcases eT er with⟨p,h1,O⟩|⟨p,h1,O⟩
 ·subst p;obtain⟨hn,ah,ae,ai⟩:=r rfl;clear h1 O r;by_cases L:most<n
  ·have z:Hid (y=(5,[])):=za (by rw[o.out,zh (by simp),zi L]);clear o;go_enter ZQ,ZG
   go_wp2_with fail
   refine(A.out _).mono ?_;rintro e w' ⟨rfl,rfl⟩;go_wp2;go_ret2
   exact⟨by rw[z.out];rfl,zl _ _⟩
  have z:Hid (y=jd (s.extract hd s.size) n):=za (by rw[o.out,zh (by simp),zh L]);clear o;have ad:decide (most<(n:Int))=false:=by simp;omega
  by_cases h4:n<=4096;all_goals
   go_enter ZQ,ZG
   go_wp2_with fail
   refine(A.out _).mono ?_;rintro e w' ⟨rfl,rfl⟩;go_wp2_with (at_make;(first|refine ZI _ rfl _ _ 31 rfl w.heap.size 5 i0 (.int .u8 0) 1 zr hi M cl .i64 .i64 _ n rfl rfl (by omega) (by rw[W];omega) (by simp only[maxLen];omega) (by omega) ?_|refine ZI _ rfl _ _ 31 rfl w.heap.size 5 i0 (.int .u8 0) 1 zr hi M cl .i64 .i64 _ 4096 rfl rfl (by omega) (by rw[W];omega) (by simp only[maxLen];omega) (by omega) ?_);intro m J R)
   have F:=(zl w.heap.size w).grown R (by omega) (by simp);have kd:=F.size;clear R;go_wp2_with fail
   refine(rS _ m).mono ?_;rintro e G ⟨rfl,j⟩;have ja:ji G m.heap.size (s.extract hd s.size) 0 0:=by rw[j];exact af.new m _ _
   have ej:=qI J j;have aS:Below w.heap.size w G:=by rw[j];exact F.alloc (by omega) _
   have LJ:m.heap.size<G.heap.size:=by rw[j];simp
   clear j J F;obtain⟨g,U⟩:∃g,g=m.heap.size:=⟨_,rfl⟩
   rw[<-U]at ja LJ kd⊢;clear U;have C:(s.extract hd s.size).size<=9223372036854775807:=by rw[aj _ _ _ (zd _)];omega
   generalize s.extract hd s.size=body at*;have YQ:w.heap.size<=g:=by omega
   go_wp2_with fail
   go_loopg [11] (body.size+1) (fun gk v wr=>IW g w.heap.size n body y w gk v wr)
   case atStart=>exact⟨0,[],_,_,0,rfl,ej,ja,aS,.inl ⟨rfl,by omega,by simp,za z.out.symm,by omega⟩⟩
   case round=>
    obtain⟨k,out,h',aq,f,rfl,I,b,d,⟨rfl,Y,K,S,aa⟩|⟨hf,JT,VZ,N⟩⟩:=hrel
    ·by_cases D:k<body.size
     ·go_wp2_with fail
      refine(bw g body k 0 wr b).mono ?_;rintro e w' ⟨rfl,rfl⟩;go_wp2_with fail
      refine(vP g body k 0 wr b Y C).mono ?_;rintro e w3 ⟨rfl,c,rfl⟩;have X:=za (Cp g body k (wr.drewN c) (b.drewN c) D C w.heap.size w.heap.size aq h' n out (I.bG c) YQ (zd _) (by have:=d.size;simp<;>omega) (by have:=d.size;simp<;>omega) K hn);go_wp2_with fail
      refine X.out.mono ?_;intro e h Z;obtain⟨v4,rfl,⟨h4,n4,c4,rfl⟩,ab⟩:=FU (d.bG c) D K S.out aa Z;clear Z X;go_wp2;go_roundg (gk-1)
      case measure=>omega
      case rel=>exact ab
     have q:=za (EH D (f:=gk-1) (x:=y) (by rw[show gk-1+1=gk from by omega];exact S.out));go_wp2_with fail
     refine(bw g body k 0 wr b).mono ?_;rintro e w' ⟨rfl,rfl⟩;go_wp2_with fail
     refine(vP g body k 0 wr b Y C).mono ?_;rintro e w3 ⟨rfl,c,rfl⟩;by_cases E:out.length<n
     ·have B:Hid (y=(2,[])):=za (by rw[q.out,zi E]);clear q;go_wp2_with fail
      refine(iV g body k 2 _ (b.drewN c)).mono ?_;rintro e h ⟨rfl,l,H⟩;have i:Below w.heap.size w h:=(d.bG c).trans (H.below (by have:=d.size;simp<;>omega) (by simp;omega));go_wp2_with fail
      refine(bw g body _ 2 h l).mono ?_;rintro e w' ⟨rfl,rfl⟩;go_wp2_with fail
      refine(bw g body _ 2 h l).mono ?_;rintro e w' ⟨rfl,rfl⟩;go_wp2;go_ret2
      exact⟨two B.out,i⟩
     have B:Hid (y=(0,out)):=za (by rw[q.out,zh E]);clear q;have ag:=sO zr yb zG (I.bG c);go_wp2_with fail
     refine(bw g body _ 0 _ (b.drewN c)).mono ?_;rintro e w' ⟨rfl,rfl⟩;go_wp2;go_ret2
     have i:=d.bG c;exact⟨two B.out,i⟩
    go_wp2_with fail
    refine(bw g body k f wr b).mono ?_;rintro e w' ⟨rfl,rfl⟩;by_cases E:out.length<n
    ·go_wp2_with fail
     refine(vQ g body k f 2 wr b JT).mono ?_;rintro e h ⟨rfl,l,H⟩;have i:Below w.heap.size w h:=d.trans (H.below (by have:=d.size;omega) (by simp;omega));go_wp2_with fail
     refine(bw g body _ f h l).mono ?_;rintro e w' ⟨rfl,rfl⟩;go_wp2_with fail
     refine(bw g body _ f h l).mono ?_;rintro e w' ⟨rfl,rfl⟩;go_wp2;go_ret2
     exact⟨two N.out,i⟩
    go_wp2_with fail
    refine(bw g body _ f wr b).mono ?_;rintro e w' ⟨rfl,rfl⟩;go_wp2_with fail
    refine(bw g body _ f wr b).mono ?_;rintro e w' ⟨rfl,rfl⟩;go_wp2;go_ret2
    have i:=d;exact⟨two N.out,i⟩
 have H0:=za p;clear p r;go_enter ZQ,ZG
 go_wp2_with fail
 refine(A.out _).mono ?_;rintro e w' ⟨rfl,rfl⟩;go_wp2;go_ret2
 exact⟨by rw[o.out,zi H0.out];rfl,zl _ _⟩
theorem FW (s:ByteArray)(most:Int)(k:Nat)(w:World)(h:s.size<=9223372036854775807)(hx:(ay s).2.2≠0):
 Calls prog 117 #[.string s,.int .i64 most,.pointer (some ⟨k,0,none⟩)] w fun e w'=>e= .returned (.tuple #[.string ⟨[].toArray⟩,.int .i64 (ay s).2.2])/\w=w':=by
 have c:=fun w=>Dt s w h
 have j:=qH s;have hz:aZ s most=if(ay s).2.2≠0 then((ay s).2.2,[])else if most<(ay s).1 then(5,[])else jd (s.extract (ay s).2.1 s.size) (ay s).1:=rfl
 generalize ay s=x at*;obtain⟨n,hd,m⟩:=x;generalize aZ s most=y at*;dsimp only at*;have d:=za c;clear c hz;rcases eT m with⟨b,l,i⟩|⟨b,l,i⟩
 ·exact absurd b hx
 clear b hx j;go_enter ZQ,ZG
 go_wp2_with fail
 refine(d.out _).mono ?_;rintro e w' ⟨rfl,rfl⟩;go_wp2;go_ret2
 exact⟨rfl,rfl⟩
theorem Du (s:ByteArray)(most:Int)(j:Nat)(w:World)(d:s.size<=9223372036854775807)(hx:(ay s).2.2=0)(k:most<(ay s).1):
 Calls prog 117 #[.string s,.int .i64 most,.pointer (some ⟨j,0,none⟩)] w fun e w'=>e= .returned (.tuple #[.string ⟨[].toArray⟩,.int .i64 5])/\w=w':=by
 have b:=fun w=>Dt s w d
 have h:=qH s;have hz:aZ s most=if(ay s).2.2≠0 then((ay s).2.2,[])else if most<(ay s).1 then(5,[])else jd (s.extract (ay s).2.1 s.size) (ay s).1:=rfl
 generalize ay s=x at*;obtain⟨n,hd,l⟩:=x;generalize aZ s most=y at*;dsimp only at*;have c:=za b;have i:=za hz;clear b hz;subst hx;clear h i;go_enter ZQ,ZG
 go_wp2_with fail
 refine(c.out _).mono ?_;rintro e w' ⟨rfl,rfl⟩;go_wp2;go_ret2
 exact⟨rfl,rfl⟩
theorem IY (s:ByteArray)(most:Int)(j a u t p:Nat)(z:World)(hs:s.size<=9223372036854775807)(hM:tI z j a u t p)(ha:a<=9223372036854775807)(hx:(ay s).2.2=0)(hm:((ay s).1:Int)<=most)(ho:u+(ay s).1<=a)(O:t+(ay s).1<=9223372036854775807):
 Calls prog 117 #[.string s,.int .i64 most,.pointer (some ⟨j,0,none⟩)] z fun e w'=>e= .returned (.tuple #[.string ⟨(aZ s most).2.toArray⟩,.int .i64 (aZ s most).1])/\tI w' j a (u+(ay s).1) (t+(ay s).1) (max p (u+(ay s).1))/\ae [j] z w':=by
 have I:=fun w=>Dt s w hs
 have W:=qH s;have hz:aZ s most=if(ay s).2.2≠0 then((ay s).2.2,[])else if most<(ay s).1 then(5,[])else jd (s.extract (ay s).2.1 s.size) (ay s).1:=rfl
 generalize ay s=x at*;obtain⟨n,hd,er⟩:=x;generalize aZ s most=y at*;dsimp only at*;have Hl:=za I;have Hz:=za hz;clear I hz;subst hx;obtain⟨hn,ak,ah,al⟩:=W rfl;have Hy:Hid (y=jd (s.extract hd s.size) n):=za (by rw[Hz.out,zh (by simp),zh (by omega)]);clear W Hz;obtain⟨i0,hi,M,cl,X⟩:=yE uw;have ag:decide (most<(n:Int))=false:=by simp;omega
 have Ht:=za (qE j a u t p n z hM ha ho O);clear ho O;generalize u+n=u2 at*;generalize t+n=t2 at*;generalize max p u2=p2 at*;by_cases h4:n<=4096;all_goals
  go_enter ZQ,ZG
  go_wp2_with fail
  refine(Hl.out _).mono ?_;rintro e w' ⟨rfl,rfl⟩;go_wp2_with fail
  refine Ht.out.mono ?_;rintro e w ⟨rfl,q,A⟩;go_wp2_with (at_make;(first|refine ZI _ rfl _ _ 31 rfl w.heap.size 5 i0 (.int .u8 0) 1 zr hi M cl .i64 .i64 _ n rfl rfl (by omega) (by rw[X];omega) (by simp only[maxLen];omega) (by omega) ?_|refine ZI _ rfl _ _ 31 rfl w.heap.size 5 i0 (.int .u8 0) 1 zr hi M cl .i64 .i64 _ 4096 rfl rfl (by omega) (by rw[X];omega) (by simp only[maxLen];omega) (by omega) ?_);intro o K R)
  have F:=(zl w.heap.size w).grown R (by omega) (by simp);have kd:=F.size;clear R;go_wp2_with fail
  refine(rS _ o).mono ?_;rintro e G ⟨rfl,l⟩;have ja:ji G o.heap.size (s.extract hd s.size) 0 0:=by rw[l];exact af.new o _ _
  have ej:=qI K l;have aS:Below w.heap.size w G:=by rw[l];exact F.alloc (by omega) _
  have LJ:o.heap.size<G.heap.size:=by rw[l];simp
  clear l K F;obtain⟨g,U⟩:∃g,g=o.heap.size:=⟨_,rfl⟩
  rw[<-U]at ja LJ kd⊢;clear U;have C:(s.extract hd s.size).size<=9223372036854775807:=by rw[aj _ _ _ (zd _)];omega
  generalize s.extract hd s.size=body at*;have YQ:w.heap.size<=g:=by omega
  go_wp2_with fail
  go_loopg [11] (body.size+1) (fun gk v wr=>IW g w.heap.size n body y w gk v wr)
  case atStart=>exact⟨0,[],_,_,0,rfl,ej,ja,aS,.inl ⟨rfl,by omega,by simp,za Hy.out.symm,by omega⟩⟩
  case round=>
   obtain⟨k,out,h',aq,f,rfl,J,b,h,⟨rfl,Z,L,S,ab⟩|⟨hf,JT,VZ,N⟩⟩:=hrel
   ·by_cases D:k<body.size
    ·go_wp2_with fail
     refine(bw g body k 0 wr b).mono ?_;rintro e w' ⟨rfl,rfl⟩;go_wp2_with fail
     refine(vP g body k 0 wr b Z C).mono ?_;rintro e w3 ⟨rfl,d,rfl⟩;have Y:=za (Cp g body k (wr.drewN d) (b.drewN d) D C w.heap.size w.heap.size aq h' n out (J.bG d) YQ (zd _) (by have:=h.size;simp<;>omega) (by have:=h.size;simp<;>omega) L hn);go_wp2_with fail
     refine Y.out.mono ?_;intro e i aa;obtain⟨v4,rfl,⟨h4,n4,c4,rfl⟩,ad⟩:=FU (h.bG d) D L S.out ab aa;clear aa Y;go_wp2;go_roundg (gk-1)
     case measure=>omega
     case rel=>exact ad
    have r:=za (EH D (f:=gk-1) (x:=y) (by rw[show gk-1+1=gk from by omega];exact S.out));go_wp2_with fail
    refine(bw g body k 0 wr b).mono ?_;rintro e w' ⟨rfl,rfl⟩;go_wp2_with fail
    refine(vP g body k 0 wr b Z C).mono ?_;rintro e w3 ⟨rfl,d,rfl⟩;by_cases E:out.length<n
    ·have B:Hid (y=(2,[])):=za (by rw[r.out,zi E]);clear r;go_wp2_with fail
     refine(iV g body k 2 _ (b.drewN d)).mono ?_;rintro e i ⟨rfl,m,H⟩;have c:Below w.heap.size w i:=(h.bG d).trans (H.below (by have:=h.size;simp<;>omega) (by simp;omega));go_wp2_with fail
     refine(bw g body _ 2 i m).mono ?_;rintro e w' ⟨rfl,rfl⟩;go_wp2_with fail
     refine(bw g body _ 2 i m).mono ?_;rintro e w' ⟨rfl,rfl⟩;go_wp2;go_ret2
     exact⟨two B.out,q.only (ae.ah c (zd _)) (by simp),A.trans' (ae.ah c (zd _)) (by simp)⟩
    have B:Hid (y=(0,out)):=za (by rw[r.out,zh E]);clear r;have ai:=sO zr yb zG (J.bG d);go_wp2_with fail
    refine(bw g body _ 0 _ (b.drewN d)).mono ?_;rintro e w' ⟨rfl,rfl⟩;go_wp2;go_ret2
    have c:=h.bG d;exact⟨two B.out,q.only (ae.ah c (zd _)) (by simp),A.trans' (ae.ah c (zd _)) (by simp)⟩
   go_wp2_with fail
   refine(bw g body k f wr b).mono ?_;rintro e w' ⟨rfl,rfl⟩;by_cases E:out.length<n
   ·go_wp2_with fail
    refine(vQ g body k f 2 wr b JT).mono ?_;rintro e i ⟨rfl,m,H⟩;have c:Below w.heap.size w i:=h.trans (H.below (by have:=h.size;omega) (by simp;omega));go_wp2_with fail
    refine(bw g body _ f i m).mono ?_;rintro e w' ⟨rfl,rfl⟩;go_wp2_with fail
    refine(bw g body _ f i m).mono ?_;rintro e w' ⟨rfl,rfl⟩;go_wp2;go_ret2
    exact⟨two N.out,q.only (ae.ah c (zd _)) (by simp),A.trans' (ae.ah c (zd _)) (by simp)⟩
   go_wp2_with fail
   refine(bw g body _ f wr b).mono ?_;rintro e w' ⟨rfl,rfl⟩;go_wp2_with fail
   refine(bw g body _ f wr b).mono ?_;rintro e w' ⟨rfl,rfl⟩;go_wp2;go_ret2
   have c:=h;exact⟨two N.out,q.only (ae.ah c (zd _)) (by simp),A.trans' (ae.ah c (zd _)) (by simp)⟩
theorem Dv :∀(x:Ty) (B:Nat) (w:World) (r E u C:Value),cD w B x r E u C->B<=w.heap.size->x.count<=4611686018427387904->
 Calls prog 53 #[.agg #[r,E,u,C]] w fun e w'=>e= .returned (.int .i64 x.count)/\Below w.heap.size w w':=by
 intro x;induction x using Ty.ind with
 |h ki s l ta ih=>
  intro B w r E u C h hB G;obtain⟨rfl,rfl,rfl,R,H,I,hs,A,cap,rfl,qZ,mR,O⟩:=h;have IH:=za ih;have HS:=za O;unfold mJ at R H I;obtain⟨Rx,Rw⟩:=R;obtain⟨Rv,Ry⟩:=H;obtain⟨Rz,JU⟩:=I;clear ih O;have qY:1+bc l<=4611686018427387904:=by simpa only[Ty.count]using G
  rw[show(Ty.mk ki s l ta).count=1+bc l from by simp only[Ty.count]];clear G;go_enter func53,ntmps53
  go_wp2_with fail
  go_loopw [3,4] (fun n i wr=>∃k m:Nat,k<=l.length/\i= .int .i64 k/\Hid (m=1+bc (l.take k))/\n= .int .i64 m/\Below w.heap.size w wr/\wr.cell? ⟨w.heap.size,2,none⟩=some (.slice A l.length cap)) (fun _ i _=>l.length-(intOf i).toNat)
  case atStart=>exact⟨0,1,by omega,rfl,za (by simp[bc]),rfl,bQ,by simp⟩
  case round=>
   obtain⟨k,m,hk,rfl,K,rfl,c,S⟩:=hrel;by_cases z:k<l.length
   ·obtain⟨b,o,d0,d1,d2,d3,rfl,fA,y,j,F,D,hi⟩:=HS.out.at_ k z;simp only[zM]at y j F D;replace y:=(c.cell (p:=⟨b,o+k*4,none⟩) (by simp;omega)).trans y;replace j:=(c.cell (p:=⟨b,o+k*4+1,none⟩) (by simp;omega)).trans j;replace F:=(c.cell (p:=⟨b,o+k*4+2,none⟩) (by simp;omega)).trans F;replace D:=(c.cell (p:=⟨b,o+k*4+3,none⟩) (by simp;omega)).trans D;have U:=c.size;have km:=zN z;have N:=hi.below (c.mono hB);have Z:=EO l k z;have Y:=uZ l (k+1);have d:=K.out;obtain⟨q,L⟩:∃q,l[k].count=q:=⟨_,rfl⟩
    have aa:m+q<=4611686018427387904:=by omega
    have Hq:Hid (m+q=1+bc (l.take (k+1))):=za (by omega);have J:=za (IH.out _ km B wr d0 d1 d2 d3 N (by omega) (by omega));rw[L]at J;clear Z Y d L N hi;go_wp2_with fail
    refine J.out.mono ?_;rintro e w2 ⟨rfl,M⟩;have kY:=lt_of_cell S;have W:=(M.cell (p:=⟨w.heap.size,2,none⟩) (by simp;omega)).trans S;have bU:=c.trans (M.mono U);go_wp2;go_roundw
    case rel=>exact⟨k+1,m+q,by omega,by go_num,Hq,by go_num,bU,W⟩
    case measure=>simp[intOf];omega
   have d:=K.out;rw[zy (by omega)]at d;have X:=za d;clear d;go_wp2;go_ret;exact⟨by show Ending.returned (.int .i64 m)=_;rw[X.out],c⟩
theorem FX :∀(x:Ty) (B:Nat) (w:World) (z K C G:Value),cD w B x z K C G->B<=w.heap.size->x.deep<=4611686018427387904->
 Calls prog 54 #[.agg #[z,K,C,G]] w fun e w'=>e= .returned (.int .i64 x.deep)/\Below w.heap.size w w':=by
 intro x;induction x using Ty.ind with
 |h ki s l ta ih=>
  intro B w z K C G h hB O;obtain⟨rfl,rfl,rfl,nZ,S,U,hs,A,cap,rfl,qZ,mR,Z⟩:=h;have IH:=za ih;have HS:=za Z;unfold mJ at nZ S U;obtain⟨Rx,Rw⟩:=nZ;obtain⟨Rv,Ry⟩:=S;obtain⟨Rz,JU⟩:=U;clear ih Z;have qY:dI l+1<=4611686018427387904:=by simpa only[Ty.deep]using O
  rw[show(Ty.mk ki s l ta).deep=dI l+1 from by simp only[Ty.deep]];clear O;go_enter func54,ntmps54
  go_wp2_with fail
  go_loopw [3,4] (fun n i wr=>∃k m:Nat,k<=l.length/\i= .int .i64 k/\Hid (m=dI (l.take k))/\m<=4611686018427387904/\n= .int .i64 m/\Below w.heap.size w wr/\wr.cell? ⟨w.heap.size,2,none⟩=some (.slice A l.length cap)) (fun _ i _=>l.length-(intOf i).toNat)
  case atStart=>exact⟨0,0,by omega,rfl,za (by simp[dI]),by omega,rfl,bQ,by simp⟩
  case round=>
   obtain⟨k,m,hk,rfl,Y,aa,rfl,c,r⟩:=hrel;by_cases F:k<l.length
   ·obtain⟨b,o,d0,d1,d2,d3,rfl,fA,D,y,M,J,hi⟩:=HS.out.at_ k F;simp only[zM]at D y M J;replace D:=(c.cell (p:=⟨b,o+k*4,none⟩) (by simp;omega)).trans D;replace y:=(c.cell (p:=⟨b,o+k*4+1,none⟩) (by simp;omega)).trans y;replace M:=(c.cell (p:=⟨b,o+k*4+2,none⟩) (by simp;omega)).trans M;replace J:=(c.cell (p:=⟨b,o+k*4+3,none⟩) (by simp;omega)).trans J;have R:=c.size;have km:=zN F;have L:=hi.below (c.mono hB);have X:=H7 l k F;have W:=AR l (k+1);have d:=Y.out;obtain⟨q,H⟩:∃q,l[k].deep=q:=⟨_,rfl⟩
    have ab:q<=4611686018427387904:=by omega
    have E:=za (IH.out _ km B wr d0 d1 d2 d3 L (by omega) (by omega));rw[H]at E;by_cases NY:m<q
    ·have N:Hid (q=dI (l.take (k+1))):=za (by omega);clear X W d H L hi;go_wp2_with fail
     refine E.out.mono ?_;rintro e w2 ⟨rfl,j⟩;have kY:=lt_of_cell r;have u:=(j.cell (p:=⟨w.heap.size,2,none⟩) (by simp;omega)).trans r;have I:=c.trans (j.mono R);go_wp2;go_roundw
     case rel=>exact⟨k+1,q,by omega,by go_num,N,by omega,by go_num,I,u⟩
     case measure=>simp[intOf];omega
    have N:Hid (m=dI (l.take (k+1))):=za (by omega);clear X W d H L hi;go_wp2_with fail
    refine E.out.mono ?_;rintro e w2 ⟨rfl,j⟩;have kY:=lt_of_cell r;have u:=(j.cell (p:=⟨w.heap.size,2,none⟩) (by simp;omega)).trans r;have I:=c.trans (j.mono R);go_wp2;go_roundw
    case rel=>exact⟨k+1,m,by omega,by go_num,N,by omega,by go_num,I,u⟩
    case measure=>simp[intOf];omega
   have d:=Y.out;rw[zy (by omega)]at d;have HM:=za d;clear d;go_wp2;go_ret;exact⟨by show Ending.returned (.int .i64 ((m:Int)+1))=_;rw[HM.out];go_num,c⟩
theorem T6 (n b:Nat)(c:b<256)(e:n<72057594037927936):bits .or .u64 (IntKind.u64.wrap ((n:Int)*256)) (IntKind.u64.wrap (b:Int))=((256*n+b:Nat):Int):=by
 have d:((n:Int)*256)=((n*2^(8*1):Nat):Int):=by simp
 rw[xg (b:Int) (by omega),d,xg _ (by omega),u64_or_nat _ _ (by omega) (by omega),Nat.or_comm,Vl b n 1 (by simpa using c)];omega
theorem Qb (s:ByteArray)(w:World)(o:0<s.size)(p:s.size<=8):
 Calls prog 237 #[.string s] w fun e w'=>e= .returned (.tuple #[.int .u64 (lP s.data.toList),.int .i64 0])/\w=w':=by
 have hz:((s.size:Int)==0)=false:=zm.2 (by omega);go_enter func237,ntmps237
 go_wp2;go_loop [5,15] (fun n i=>∃k m:Nat,k<=s.size/\Hid (m=lP (s.data.toList.take k))/\n= .int .u64 m/\i= .int .i64 k) (fun _ i=>s.size-(intOf i).toNat)
 case atStart=>exact⟨0,0,by omega,rfl,rfl,rfl⟩
 case round=>
  obtain⟨k,m,d,b,rfl,rfl⟩:=hrel;by_cases j:k<s.size
  ·go_wp2;have c:=s[k].toNat_lt;have h:=uQ (s.data.toList.take k);rw[length_take s k d,<-b.out]at h;have l:2^(8*k)<=2^56:=yp (by omega) (by omega);have e:=T6 m s[k].toNat c (by omega);go_round
   case rel=>
    refine⟨k+1,_,by omega,za rfl, ?_,by go_num⟩;rw[jC s k j,uP,<-b.out,<-e]
   case measure=>simp[intOf];omega
  go_wp2;go_ret2
  exact⟨FG rfl (by rw[b.out,zy (by simp;omega)]),rfl⟩
def pU (s:ByteArray):Int:=if s.size=0 then 0 else if 8<s.size then 5 else if gB s.data.toList then 3 else 0
def vX (s:ByteArray):Nat:=if pU s=0 then lP s.data.toList else 0
theorem Qc (s:ByteArray)(h:0<s.size):gB s.data.toList=decide (s[0].toNat=0):=by
 have:=drop_cons s 0 h;rw[zK]at this;rw[this];simp only[gB];by_cases e:s[0]=0
 ·simp[e]
 have:s[0].toNat≠0:=fun h=>e (zO.1 h)
 simp[e,this]
theorem pz (s:ByteArray)(w:World)(n:s.size<=9223372036854775807):
 Calls prog 213 #[.string s] w fun e w'=>e= .returned (.tuple #[.int .u64 (vX s),.int .i64 (pU s)])/\w=w':=by
 rcases fX s with⟨hz,rfl⟩|⟨hz,o,p⟩
 ·have c:Hid (vX ⟨#[]⟩=0):=za (by simp[vX,pU,ByteArray.size,lP,cZ]);have b:Hid (pU ⟨#[]⟩=0):=za (by simp[pU,ByteArray.size]);generalize vX ⟨#[]⟩=N at*;generalize pU ⟨#[]⟩=E at*;clear hz;go_enter func213,ntmps213
  go_wp2;go_ret2
  exact⟨by rw[c.out,b.out];rfl,rfl⟩
 have j:0<s.size:=by
  rcases Zj s.size with h|h
  ·exact absurd h (by first|exact hz|omega)
  exact h
 by_cases l:s.size<=8
 ·have i:=Qc s j;by_cases d:s[0].toNat=0
  ·have b:Hid (pU s=3):=za (by unfold pU;rw[zh (by omega),zh (by omega),i,d];rfl);have c:Hid (vX s=0):=za (by simp[vX,b.out]);have m:((s[0].toNat:Int)==0)=true:=by simp[d]
   generalize vX s=N at*;generalize pU s=E at*;clear hz d i;go_enter func213,ntmps213
   go_wp2;go_ret2
   exact⟨by rw[c.out,b.out];rfl,rfl⟩
  have b:Hid (pU s=0):=za (by unfold pU;rw[zh (by omega),zh (by omega),i,zu d];rfl);have c:Hid (vX s=lP s.data.toList):=za (by simp[vX,b.out]);have m:((s[0].toNat:Int)==0)=false:=zm.2 (by omega);have k:=za (Qb s w j l);rw[<-c.out]at k;generalize vX s=N at*;generalize pU s=E at*;clear hz d i;go_enter func213,ntmps213
  go_wp2_with fail
  refine k.out.mono ?_;rintro e w' ⟨rfl,rfl⟩;go_wp2;go_ret2
  exact⟨by rw[b.out];rfl,rfl⟩
 have b:Hid (pU s=5):=za (by unfold pU;rw[zh (by omega),zi (by omega)]);have c:Hid (vX s=0):=za (by simp[vX,b.out]);generalize vX s=N at*;generalize pU s=E at*;clear hz;go_enter func213,ntmps213
 go_wp2;go_ret2
 exact⟨by rw[c.out,b.out];rfl,rfl⟩
def Xw (tx:ByteArray)(l:Bool):Int:=if l then 12 else pU tx
def SQ (tx:ByteArray)(l:Bool):Nat:=if l then 0 else vX tx
theorem aco (b:ByteArray)(l:Bool)(i:Value)(w:World)(c:b.size<=9223372036854775807):
 Calls prog 178 #[.agg #[.string b,.bool l,i]] w fun e w'=>e= .returned (.tuple #[.int .u64 (SQ b l),.int .i64 (Xw b l)])/\Below w.heap.size w w':=by
 cases l with
 |true=>
  simp only[SQ,Xw,xA];go_enter func178,ntmps178
  go_wp2;go_ret2
  exact⟨rfl,bQ⟩
 |false=>
  have j:=za (fun w=>pz b w c);have d:Hid (SQ b false=vX b):=za rfl;have h:Hid (Xw b false=pU b):=za rfl;rw[d.out,h.out];generalize vX b=N at*;generalize pU b=E at*;go_enter func178,ntmps178
  go_wp2_with fail
  refine(j.out _).mono ?_;rintro e w' ⟨rfl,rfl⟩;go_wp2;go_ret2
  exact⟨rfl,bQ⟩
theorem Xx (k s u:Int)(p:Value)(b:ByteArray)(l:Bool)(d2:Value)(w:World)(A:b.size<=9223372036854775807)(F:s<=8):
 Calls prog 198 #[.agg #[.int .i64 k,.int .i64 s,p,.int .i64 u],.agg #[.string b,.bool l,d2]] w fun e w'=>e= .returned (.bool (!l&&decide ((b.size:Int)<=s)&& !gB b.data.toList))/\Below w.heap.size w w':=by
 have x:=za (fun w=>aco b l d2 w A);obtain⟨R,d⟩:∃R,Hid ((!l&&decide ((b.size:Int)<=s)&& !gB b.data.toList)=R):=⟨_,za rfl⟩
 rw[d.out];obtain⟨E,j⟩:∃E,Hid (Xw b l=E):=⟨_,za rfl⟩
 rw[j.out]at x;generalize SQ b l=N at*;by_cases hz:E=0
 ·subst hz;have r:Hid (R=decide ((b.size:Int)<=s)):=za (by
   have h:=j.out;rw[<-d.out];unfold Xw pU at h;cases l with
   |true=>simp at h
   |false=>
    simp only[Bool.not_false,Bool.true_and];by_cases i:b.size=0
    ·have:b.data.toList= []:=zo (by rw[aa];exact i);simp[this,gB]
    rw[zh (by simp),zh i]at h;split at h
    ·simp at h
    split at h
    ·simp at h
    rename_i n;simp[n])
  clear d j;go_enter func198,ntmps198
  go_wp2_with fail
  refine(x.out _).mono ?_;rintro e m ⟨rfl,c⟩;have q:=c;simp only[zp]at q;have o:Below w.heap.size w m:=((zl w.heap.size w).alloc (zd _) _|>.alloc (by simp) _).trans (q.mono (by omega));have y:af m w.heap.size 43 #[.int .i64 k,.int .i64 s,p,.int .i64 u]:=((af.new w _ _).alloc _).only (ae.ah c (zd _)) (by simp);have z:af m (w.heap.size+1) 28 #[.string b,.bool l,d2]:=(show af _ (w.heap.size+1) _ _ from by have:=af.new (w.alloc (.cells #[.int .i64 k,.int .i64 s,p,.int .i64 u] 43)) 28 #[.string b,.bool l,d2];simpa using this).only (ae.ah c (zd _)) (by simp);have C:=y.cell 1;have g2:=z.cell 0;clear c q y z;go_wp2;go_ret;exact⟨by rw[r.out];rfl,o⟩
 have r:Hid (R=false):=za (by
  have h:=j.out;rw[<-d.out];unfold Xw pU at h;cases l with
  |true=>simp
  |false=>
   simp only[Bool.not_false,Bool.true_and];by_cases i:b.size=0
   ·simp[i]at h;exact absurd h.symm hz
   rw[zh (by simp),zh i]at h;by_cases B:8<b.size
   ·rw[zu (by omega)];rfl
   rw[zh B]at h;by_cases n:gB b.data.toList=true
   ·simp[n]
   rw[zh n]at h;exact absurd h.symm hz)
 have D:(E==0)=false:=zm.2 hz;clear d j hz;go_enter func198,ntmps198
 go_wp2_with fail
 refine(x.out _).mono ?_;rintro e m ⟨rfl,c⟩;simp only[zp]at c;have o:Below w.heap.size w m:=((zl w.heap.size w).alloc (zd _) _|>.alloc (by simp) _).trans (c.mono (by omega));go_wp2;go_ret;exact⟨by rw[r.out];rfl,o⟩
theorem Xy (k s c:Int)(A:Option Addr)(n cap:Nat)(b:ByteArray)(l:Bool)(h:Option Addr)(m i:Nat)(w:World)(o:b.size<=9223372036854775807)(q:n<=9223372036854775807)(p:m<=9223372036854775807)(j:0<=c)(r:c<=n):
 Calls prog 199 #[.agg #[.int .i64 k,.int .i64 s,.slice A n cap,.int .i64 c],.agg #[.string b,.bool l,.slice h m i]] w fun e w'=>e= .returned (.bool (!l&&decide ((b.size:Int)=s)))/\Below w.heap.size w w':=by
 obtain⟨R,d⟩:∃R,Hid ((!l&&decide ((b.size:Int)=s))=R):=⟨_,za rfl⟩
 rw[d.out];go_enter func199,ntmps199
 cases l
 all_goals
  go_wp2;all_goals
   go_ret;refine⟨aY ?_,bQ⟩;rw[<-d.out,yP];simp;try omega
theorem Xz (k s c:Int)(A:Option Addr)(n cap:Nat)(b:ByteArray)(l:Bool)(h:Option Addr)(m i:Nat)(w:World)(o:b.size<=9223372036854775807)(q:n<=9223372036854775807)(p:m<=9223372036854775807)(j:0<=c)(r:c<=n):
 Calls prog 202 #[.agg #[.int .i64 k,.int .i64 s,.slice A n cap,.int .i64 c],.agg #[.string b,.bool l,.slice h m i]] w fun e w'=>e= .returned (.bool (!l&&decide ((b.size:Int)<=s)))/\Below w.heap.size w w':=by
 obtain⟨R,d⟩:∃R,Hid ((!l&&decide ((b.size:Int)<=s))=R):=⟨_,za rfl⟩
 rw[d.out];go_enter func202,ntmps202
 cases l
 all_goals
  go_wp2;all_goals
   go_ret;refine⟨aY ?_,bQ⟩;rw[<-d.out,yP];simp;try omega
theorem XA (k s b:Int)(A:Option Addr)(n cap:Nat)(c:ByteArray)(l:Bool)(h:Option Addr)(m i:Nat)(w:World)(o:c.size<=9223372036854775807)(q:n<=9223372036854775807)(p:m<=9223372036854775807)(j:0<=b)(r:b<=n):
 Calls prog 203 #[.agg #[.int .i64 k,.int .i64 s,.slice A n cap,.int .i64 b],.agg #[.string c,.bool l,.slice h m i]] w fun e w'=>e= .returned (.bool (l&&decide ((m:Int)<=s)))/\Below w.heap.size w w':=by
 obtain⟨R,d⟩:∃R,Hid ((l&&decide ((m:Int)<=s))=R):=⟨_,za rfl⟩
 rw[d.out];go_enter func203,ntmps203
 cases l
 all_goals
  go_wp2;all_goals
   go_ret;refine⟨aY ?_,bQ⟩;rw[<-d.out,yP];simp;try omega
theorem XB (k s b:Int)(A:Option Addr)(n cap:Nat)(c:ByteArray)(l:Bool)(h:Option Addr)(m i:Nat)(w:World)(o:c.size<=9223372036854775807)(q:n<=9223372036854775807)(p:m<=9223372036854775807)(j:0<=b)(r:b<=n):
 Calls prog 206 #[.agg #[.int .i64 k,.int .i64 s,.slice A n cap,.int .i64 b],.agg #[.string c,.bool l,.slice h m i]] w fun e w'=>e= .returned (.bool (l&&decide (m<=n)&&decide ((n:Int)-b<=m)))/\Below w.heap.size w w':=by
 obtain⟨R,d⟩:∃R,Hid ((l&&decide (m<=n)&&decide ((n:Int)-b<=m))=R):=⟨_,za rfl⟩
 rw[d.out];go_enter func206,ntmps206
 cases l
 all_goals
  go_wp2;all_goals
   go_ret;refine⟨aY ?_,bQ⟩;rw[<-d.out,yP];simp;try omega
def mz :Value:= .agg #[.func (.func 198) #[] #[],.func (.func 196) #[] #[]]
def jT :Value:= .agg #[.func (.func 199) #[] #[],.func (.func 200) #[] #[]]
def kM :Value:= .agg #[.func (.func 202) #[] #[],.func (.func 196) #[] #[]]
def qJ :Value:= .agg #[.func (.func 203) #[] #[],.func (.func 204) #[] #[]]
def kD :Value:= .agg #[.func (.func 206) #[] #[],.func (.func 207) #[] #[]]
def On :List MapEntry:= [⟨.int .i64 1,mz,0⟩,⟨.int .i64 2,jT,1⟩,⟨.int .i64 3,kM,2⟩,⟨.int .i64 4,qJ,3⟩,⟨.int .i64 5,kD,4⟩]
theorem T7 (w:World)(o b:Obj):({(w.alloc o)with heap:=(w.alloc o).heap.setIfInBounds w.heap.size b}:World)=w.alloc b:=by
 have h:(w.heap.push o).setIfInBounds w.heap.size b=w.heap.push b:=by
  apply Array.ext';simp
 show({w with heap:=(w.heap.push o).setIfInBounds w.heap.size b}:World)={w with heap:=w.heap.push b}
 rw[h]
theorem nO (w:World)(es:List MapEntry)(c:Nat)(k:Int)(v:Value)(h:Instr.findNow (.int .i64) (.int .i64 k) es 0=some none):
 (Instr.mapUpdate 217 (.map (some w.heap.size)) (.int .i64 k) v).run prog (w.alloc (.map es.toArray c))= .ok () (w.alloc (.map (es++ [({key:= .int .i64 k,val:=v,born:=c}:MapEntry)]).toArray (c+1))):=by
 have b:(w.alloc (.map es.toArray c)).heap[w.heap.size]?=some (.map es.toArray c):=yM w _;have d:MapKept.IsKey (.int .i64) (.int .i64 k):=by simp[MapKept.IsKey]
 simp[Instr.mapUpdate,xT underlying217,xP b,xY yC d,Zc yC h,MapKept.run_setObj_map _ b,Result.andThen];exact T7 w _ _
theorem nP {w:World}{g:Nat}{es:List MapEntry}{c:Nat}(b:w.heap[g]?=some (.map es.toArray c))(k:Int)(v:Value)(i:Nat)(h:Instr.findNow (.int .i64) (.int .i64 k) es 0=some (some (i,v))):
 (Instr.lookup 217 (.map (some g)) (.int .i64 k) false).run prog w= .ok v w:=by
 have d:MapKept.IsKey (.int .i64) (.int .i64 k):=by simp[MapKept.IsKey]
 simp[Instr.lookup,xT underlying217,xP b,xY yC d,Zc yC h,Result.andThen]
theorem T8 (w:World):Calls prog 168 #[] w fun e w'=>e= .returned (.map (some w.heap.size))/\w'=w.alloc (.map On.toArray 5):=by
 have j:= @run_makeMap prog;have i:=nO w [] 0 1 mz rfl;have h:=nO w [⟨.int .i64 1,mz,0⟩] 1 2 jT rfl;have c:=nO w [⟨.int .i64 1,mz,0⟩,⟨.int .i64 2,jT,1⟩] 2 3 kM rfl;have d:=nO w [⟨.int .i64 1,mz,0⟩,⟨.int .i64 2,jT,1⟩,⟨.int .i64 3,kM,2⟩] 3 4 qJ rfl;have b:=nO w [⟨.int .i64 1,mz,0⟩,⟨.int .i64 2,jT,1⟩,⟨.int .i64 3,kM,2⟩,⟨.int .i64 4,qJ,3⟩] 4 5 kD rfl;simp only[yu,zV,Nat.reduceAdd]at i h c d b;simp only[mz,jT,kM,qJ,kD]at i h c d b;go_enter func168,ntmps168
 go_wp2;go_ret;exact⟨rfl,rfl⟩
theorem FY (f deep:Nat)(U:deep<=8)(X:Hid (∀(s:ByteArray) (at_:Nat) (w:World),at_<=s.size->s.size<=100000->
 Calls prog 36 #[.string s,.int .i64 at_,.int .i64 ((deep+1:Nat):Int)] w fun e w'=>my s w (aJ f (s.data.toList.drop at_)) e w')) (s:ByteArray) (at_:Nat) (w:World) (W:at_<=s.size) (G:s.size<=100000)
 (R:Option (Ty×List UInt8)) (B:Hid (aJ (f+1) (s.data.toList.drop at_)=R)) (H:at_<s.size) (A:s[at_].toNat≠91) (C:s[at_].toNat≠123):
 Calls prog 36 #[.string s,.int .i64 at_,.int .i64 deep] w fun e w'=>my s w R e w':=by
 have L:decide (s.size<=at_)=false:=by simp;omega
 have S:decide ((8:Int)<(deep:Int))=false:=by simp;omega
 have j:Hid (aJ (f+1) (s[at_]::s.data.toList.drop (at_+1))=R):=za (by rw[<-drop_cons s at_ H];exact B.out);have i:=za (fun w=>py s (at_+1) w (by omega) G);have I:Hid (((at_+1:Nat):Int)=(at_:Int)+1):=za (by omega);obtain⟨N,k⟩:∃N,Hid (cw (s.data.toList.drop (at_+1))=N):=⟨_,za rfl⟩
 rw[k.out,I.out]at i;clear B;by_cases hu:s[at_].toNat=117
 ·have F:((s[at_].toNat:Int)==117)=true:=by simp[hu]
  have b:Hid (AT N=R):=za (by rw[<-j.out,show s[at_]=117 from zO.1 hu,Kl,k.out]);clear hu j;cases N with
  |none=>
   have c:Hid (R=none):=za b.out.symm;clear b;go_enter yH,yy
   go_wp2_with fail
   refine(i.out _).mono ?_;rintro e w' ⟨rfl,rfl⟩;simp only[eu];go_wp2;refine zk (v:=bJ 1 0) (by simp[bJ,results,zS,go_sem]) rfl ?_;rw[c.out];exact⟨bQ,1,0,rfl⟩
  |some z=>
   obtain⟨n,r⟩:=z;obtain⟨m,x,p,E⟩:=qg (by omega) k.out;by_cases h:n%8=0
   ·have c:Hid (R=some (Ty.mk 1 ((n/8:Nat):Int) [] 0,r)):=za (by rw[<-b.out];simp[AT,h]);have D:((n:Int)%8 !=0)=false:=by simp;omega
    have o:Hid (((n/8:Nat):Int)=(n:Int)/8):=za (by omega);clear b h m;obtain⟨q,d⟩:∃q,s.size-r.length=q:=⟨_,rfl⟩
    have u:=za d;rw[d]at x p;go_enter yH,yy
    go_wp2_with fail
    refine(i.out _).mono ?_;rintro e w' ⟨rfl,rfl⟩;simp only[eu,d];clear d;go_wp2;refine zk (v:= .tuple #[.agg #[.int .i64 1,.int .i64 ((n:Int)/8),.slice none 0 0,.int .i64 0],.int .i64 (q:Int)]) (by simp[results,zS,go_sem]) rfl ?_;rw[c.out];refine⟨bQ,_,_,_,_,by rw[u.out], ?_⟩;first|exact fD.leaf (aA (by omega) (by omega)) (aA (by omega) (by omega)) (aA (by omega) (by omega))|(rw[o.out];exact fD.leaf (aA (by omega) (by omega)) (aA (by omega) (by omega)) (aA (by omega) (by omega)))
   have c:Hid (R=none):=za (by rw[<-b.out];simp[AT,h]);have D:((n:Int)%8 !=0)=true:=by simp;omega
   clear b h m;go_enter yH,yy
   go_wp2_with fail
   refine(i.out _).mono ?_;rintro e w' ⟨rfl,rfl⟩;simp only[eu];go_wp2;refine zk (v:=bJ 0 0) (by simp[bJ,results,zS,go_sem,]) rfl ?_;rw[c.out];exact⟨bQ,0,0,rfl⟩
 have F:((s[at_].toNat:Int)==117)=false:=zm.2 (by omega);have D:True:=trivial;by_cases l:s[at_].toNat=98
 ·have K:((s[at_].toNat:Int)==98)=true:=by simp[l]
  have b:Hid (tE 2 N=R):=za (by rw[<-j.out,show s[at_]=98 from zO.1 l,Km,k.out]);clear hu l j;cases N with
  |none=>
   have c:Hid (R=none):=za b.out.symm;clear b;go_enter yH,yy
   go_wp2_with fail
   refine(i.out _).mono ?_;rintro e w' ⟨rfl,rfl⟩;simp only[eu];go_wp2;refine zk (v:=bJ 2 0) (by simp[bJ,results,zS,go_sem]) rfl ?_;rw[c.out];exact⟨bQ,2,0,rfl⟩
  |some z=>
   obtain⟨n,r⟩:=z;obtain⟨m,x,p,E⟩:=qg (by omega) k.out;have c:Hid (R=some (Ty.mk 2 (n:Int) [] 0,r)):=za b.out.symm;have h:True:=trivial;have o:Hid (((n/8:Nat):Int)=(n:Int)/8):=za (by omega);clear b h m;obtain⟨q,d⟩:∃q,s.size-r.length=q:=⟨_,rfl⟩
   have u:=za d;rw[d]at x p;go_enter yH,yy
   go_wp2_with fail
   refine(i.out _).mono ?_;rintro e w' ⟨rfl,rfl⟩;simp only[eu,d];clear d;go_wp2;refine zk (v:= .tuple #[.agg #[.int .i64 2,.int .i64 (n:Int),.slice none 0 0,.int .i64 0],.int .i64 (q:Int)]) (by simp[results,zS,go_sem]) rfl ?_;rw[c.out];refine⟨bQ,_,_,_,_,by rw[u.out], ?_⟩;first|exact fD.leaf (aA (by omega) (by omega)) (aA (by omega) (by omega)) (aA (by omega) (by omega))|(rw[o.out];exact fD.leaf (aA (by omega) (by omega)) (aA (by omega) (by omega)) (aA (by omega) (by omega)))
 have K:((s[at_].toNat:Int)==98)=false:=zm.2 (by omega);by_cases y:s[at_].toNat=115
 ·have J:((s[at_].toNat:Int)==115)=true:=by simp[y]
  have b:Hid (tE 3 N=R):=za (by rw[<-j.out,show s[at_]=115 from zO.1 y,Kn,k.out]);clear hu l y j;cases N with
  |none=>
   have c:Hid (R=none):=za b.out.symm;clear b;go_enter yH,yy
   go_wp2_with fail
   refine(i.out _).mono ?_;rintro e w' ⟨rfl,rfl⟩;simp only[eu];go_wp2;refine zk (v:=bJ 3 0) (by simp[bJ,results,zS,go_sem]) rfl ?_;rw[c.out];exact⟨bQ,3,0,rfl⟩
  |some z=>
   obtain⟨n,r⟩:=z;obtain⟨m,x,p,E⟩:=qg (by omega) k.out;have c:Hid (R=some (Ty.mk 3 (n:Int) [] 0,r)):=za b.out.symm;have h:True:=trivial;have o:Hid (((n/8:Nat):Int)=(n:Int)/8):=za (by omega);clear b h m;obtain⟨q,d⟩:∃q,s.size-r.length=q:=⟨_,rfl⟩
   have u:=za d;rw[d]at x p;go_enter yH,yy
   go_wp2_with fail
   refine(i.out _).mono ?_;rintro e w' ⟨rfl,rfl⟩;simp only[eu,d];clear d;go_wp2;refine zk (v:= .tuple #[.agg #[.int .i64 3,.int .i64 (n:Int),.slice none 0 0,.int .i64 0],.int .i64 (q:Int)]) (by simp[results,zS,go_sem]) rfl ?_;rw[c.out];refine⟨bQ,_,_,_,_,by rw[u.out], ?_⟩;first|exact fD.leaf (aA (by omega) (by omega)) (aA (by omega) (by omega)) (aA (by omega) (by omega))|(rw[o.out];exact fD.leaf (aA (by omega) (by omega)) (aA (by omega) (by omega)) (aA (by omega) (by omega)))
 have J:((s[at_].toNat:Int)==115)=false:=zm.2 (by omega);have M:((s[at_].toNat:Int)==91)=false:=zm.2 (by omega);have O:((s[at_].toNat:Int) !=123)=true:=by simp;omega
 have c:Hid (R=none):=za (by rw[<-j.out,ER _ _ _ hu l y A C]);clear hu l y A C j;go_enter yH,yy
 go_wp2;refine zk (v:=bJ 0 0) (by simp[bJ,results,zS,go_sem,]) rfl ?_;rw[c.out];exact⟨bQ,0,0,rfl⟩
