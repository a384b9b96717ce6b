/- squeeze.Pack tells 'pack'. -/
import Derived.Test.YtpjgigllldipiaaGreatDoorKA17
import Derived.Deep.DeepCutAuto
set_option linter.all false
set_option maxRecDepth 100000
set_option maxHeartbeats 4000000
namespace Go.Proofs.YtpjgigllldipiaaGreatDoor
open Tryz
open Go.RowKit Go.Maps
def xP:=@Lib.bytesWorld_size
def xW:=@Lib.wpList_append_own_string
def Zs:=@wpList_lookup_own_ok_int
def ZM:=@ntmps162
def ZN:=@ntmps124
def ZV:=@func162
def ZW:=@func124
def Z0:=@underlying210
structure PW (s:ByteArray)(w:World)(g0 B mB kB:Nat)(D:DataW Unit)(wr:World):Prop where
 below:Below w.heap.size w wr
 cells:∀k,k<s.size->wr.cell? ⟨g0,k,none⟩=some (.int .u8 (s.data.toList.getD k 0).toNat)
 XQ:g0<B
 hBm:B<=mB
 U1:w.heap.size<=B
 map:wr.ownsMap prog 211 (plainElem prog 3) mB kB D
theorem PW.lt {s:ByteArray}{w:World}{c B b d:Nat}{D:DataW Unit}{wr:World}(h:PW s w c B b d D wr):b<wr.heap.size:=h.map.lt
theorem PW.kept {s:ByteArray}{w:World}{d B b i:Nat}{D:DataW Unit}{wr w':World}(h:PW s w d B b i D wr)(c:Kept 5 B wr w'):PW s w d B b i D w':=by
 refine⟨h.below.trans (c.below.mono h.U1),fun k l=>(c.below.cell (p:=⟨d,k,none⟩) h.XQ).trans (h.cells k l),h.XQ,h.hBm,h.U1, ?_⟩;obtain⟨es,clock,j,F,n,m⟩:=h.map;exact⟨es,clock,c.other b _ j (by intro o q e;cases e),F,n,m⟩
theorem PW.later {s:ByteArray}{w:World}{d B b c:Nat}{D:DataW Unit}{wr w':World}(h:PW s w d B b c D wr)(e:Below wr.heap.size wr w'):PW s w d B b c D w':=
 h.kept (Kept.ag e (zf _) (by have:=h.lt;have:=h.hBm;omega))
theorem PW.kP {s:ByteArray}{w:World}{d B c n i:Nat}{D e:DataW Unit}{wr w':World}(h:PW s w d B c n D wr)(m:w'.ownsMap prog 211 (plainElem prog 3) c i e)(b:wr.grownBy w' (some c)):PW s w d B c i e w':=by
 have q:=h.lt;have l:=h.XQ;have o:=h.hBm;have p:=h.U1;refine⟨h.below.trans ⟨b.os,b.tape,b.output,b.size,fun k j=>b.block k (by omega) (by simp;omega)⟩,fun k j=>(zL (a:=⟨d,k,none⟩) (b.block d (by omega) (by simp;omega))).trans (h.cells k j),l,o,p,m⟩
theorem PW.buf {s:ByteArray}{w:World}{n B c k:Nat}{D:DataW Unit}{wr w':World}{v:Value}{l:List UInt8}(h:PW s w n B c k D wr)(i:bJ wr B 5 v l)(d:wr.grownBy w' (some c)):bJ w' B 5 v l:=by
 obtain⟨es,clock,j,_⟩:=h.map;obtain⟨A,cap,m,p,o,b⟩:=i;refine⟨A,cap,m,p,o, ?_⟩;rcases b with b|⟨g,cur,fr,hA,hgb,hh,r⟩
 ·exact .inl b
 refine .inr ⟨g,cur,fr,hA,hgb,(d.block g (yl.1 hh).1 ?_).trans hh,r⟩;intro e;injection e with e;subst e;rw[j]at hh;cases hh
theorem PW.four {s:ByteArray}{w:World}{b B k l i:Nat}{D:DataW Unit}{wr:World}(h:PW s w b B k l D wr)(hi:i+4<=s.size):∃d c e j:Nat,wr.cell? ⟨b,i,none⟩=some (.int .u8 d)/\wr.cell? ⟨b,i+1,none⟩=some (.int .u8 c)/\wr.cell? ⟨b,i+2,none⟩=some (.int .u8 e)/\wr.cell? ⟨b,i+3,none⟩=some (.int .u8 j)/\
 keyOf prog 211 (.agg #[.int .u8 d,.int .u8 c,.int .u8 e,.int .u8 j])=some (gl s.data.toList i):=
 ⟨_,_,_,_,h.cells i (by omega),h.cells (i+1) (by omega),h.cells (i+2) (by omega),h.cells (i+3) (by omega),rm s.data.toList i⟩
def PAt (s:ByteArray)(w:World)(g0 B mB:Nat)(v5 v7 v8:Value)(wr:World):Prop:=
 ∃(i p f kB:Nat) (A:Option Addr) (n cap:Nat) (l:List UInt8) (D:DataW Unit),v5= .slice A n cap/\v7= .int .i64 p/\v8= .int .i64 i/\p<=i/\i<=s.size/\kB<=i/\s.size-i<f/\
  bJ wr B 5 (.slice A n cap) l/\l++pk s.data.toList f p i=pack s.data.toList/\PW s w g0 B mB kB D wr/\MI s.data.toList D i
def PIn (s:ByteArray)(w:World)(g0 B mB i sz:Nat)(A:Option Addr)(n cap:Nat)(l:List UInt8)(v8 Ni:Value)(wr:World):Prop:=
 ∃(c kB:Nat) (D:DataW Unit),Ni= .int .i64 c/\v8= .int .i64 ((i+c:Nat):Int)/\c<=sz/\kB<=i+c/\bJ wr B 5 (.slice A n cap) l/\PW s w g0 B mB kB D wr/\MI s.data.toList D (i+c)
theorem Kc {L l X:List UInt8}{f p i:Nat}(h:l++pk L f p i=X)(c:L.length-i<f)(hi:i<L.length)(b:GX L i i=none):l++pk L (f-1) p (i+1)=X:=by
 obtain⟨g,rfl⟩:∃g,f=g+1:=⟨f-1,by omega⟩
 unfold pk at h;rw[zl hi,b]at h;exact h
theorem Te {L l X a:List UInt8}{f p i j n:Nat}(h:l++pk L f p i=X)(e:L.length-i<f)(hi:i<L.length)(b:GX L i i=some j)(d:a=(L.take i).drop p)(c:mt L j i 64=n):((l++gT a)++kG n (i-j))++pk L (f-1) (i+n) (i+n)=X:=by
 obtain⟨g,rfl⟩:∃g,f=g+1:=⟨f-1,by omega⟩
 unfold pk at h;rw[zl hi,b]at h;subst c;subst d;rw[<-h];simp
theorem Wo {L l X a:List UInt8}{f p i:Nat}(h:l++pk L f p i=X)(c:L.length-i<f)(hi:¬i<L.length)(b:a=L.drop p):l++gT a=X:=by
 obtain⟨g,rfl⟩:∃g,f=g+1:=⟨f-1,by omega⟩
 unfold pk at h;rw[zj hi]at h;subst b;exact h
theorem abc {L l:List UInt8}{f p i:Nat}(h:l++pk L f p i=pack L)(b:L.length<=65536):l.length<=70000:=by
 have c:=rY L b;have:=xC List.length h;rw[zp]at this;omega
theorem Tf (base:Nat)(v:Value)(l:List UInt8)(n d:Nat)(b:Int)(w:World)(h:bJ w base 5 v l)(c:base<=w.heap.size)(j:l.length<=1000000)(k:4<=n)(e:n<=64)(hd:d<65536)(i:b=d):
 Calls prog 160 #[v,.int .i64 n,.int .i64 b] w (O9 base w (l++kG n d)):=by
 subst i;exact S3 base v l n d w h c j k e hd
theorem Pu {a b:Int}(h:(DataW.lit (.int .i64 a):DataW Unit)= .lit (.int .i64 b)):a=b:=by
 injection h with h;injection h
theorem Fi (w:World)(a:Addr)(c:Nat):(Instr.arrayAt 211 (.slice (some a) 4 c)).run prog w= .ok (.pointer (some a)) w:=by
 simp[Instr.arrayAt,Zb ZZ]
theorem Wp (s:ByteArray)(w:World)(hs:s.size<=65536):
 Calls prog 123 #[.string s] w fun e w'=>e= .returned (.tuple #[.string ⟨(pack s.data.toList).toArray⟩,.int .i64 0])/\Below w.heap.size w w':=by
 have kc:=fun(w:World) (s:ByteArray)=>Lib.run_convert_string_bytes (P:=prog) w 9 31 5 s zO zx yC
 have O:= @run_makeMap prog;have kA:=Fi;have H1:=za (fun w=>uT s.size w (by omega));go_enter func123,ntmps123
 go_wp2_with fail
 refine(H1.out _).mono ?_;rintro e b ⟨rfl,o⟩;have cg:=o.size;rw[xP]at cg;have QI:∀k,k<s.size->b.cell? ⟨w.heap.size,k,none⟩=some (.int .u8 (s.data.toList.getD k 0).toNat):=fun k hk=>(o.cell (p:=⟨w.heap.size,k,none⟩) (by rw[xP];simp)).trans (Lib.bytesWorld_cell w _ s k hk)
 have U3:Below w.heap.size w b:=(Lib.bytesWorld_below w 5 s).trans (o.mono (by rw[xP];omega));have hT:(⟨(aQ s.size).toArray⟩:ByteArray).size=(aQ s.size).length:=bH _;have UU:=bF 3 s.size (by omega) (by omega);have XM:=bJ.conv b b.heap.size 5 ⟨(aQ s.size).toArray⟩ (zf _) (by omega);have nR:s.size<=grownCap w s.size 0 5:=grownCap_ge _ _ _ _;have aD:grownCap w s.size 0 5<=9223372036854775807:=by simpa[maxLen]using ZY w s.size 0 5 (by simp[maxLen];omega)
 rw[hT]at XM;have ag:PW s w w.heap.size b.heap.size (Lib.bytesWorld b 5 ⟨(aQ s.size).toArray⟩).heap.size 0 (.map []) ((Lib.bytesWorld b 5 ⟨(aQ s.size).toArray⟩).alloc (.map #[] 0)):=by
  have tO:=Lib.bytesWorld_below b 5 ⟨(aQ s.size).toArray⟩;refine⟨(U3.trans (tO.mono (by omega))).alloc (by rw[xP];omega) _,fun k hk=> ?_,by omega,by rw[xP];omega,by omega,World.ownsMap_made _ _ _ _⟩;rw[zE _ _ _ (by rw[xP];simp;omega),tO.cell (p:=⟨w.heap.size,k,none⟩) (by simp;omega)];exact QI k hk
 have U2:=XM.alloc (.map #[] 0);have lZ:=za U2;have av:=za ag;clear ag U2 XM QI hT o U3;go_wp2;generalize grownCap w s.size 0 5=Dj at*;generalize (Lib.bytesWorld b 5 ⟨(aQ s.size).toArray⟩).heap.size=mB at*;generalize (Lib.bytesWorld b 5 ⟨(aQ s.size).toArray⟩).alloc (.map #[] 0)=w2 at*;generalize grownCap b (aQ s.size).length 0 5=AF at*;go_loopw [5,7,8] (fun v5 v7 y wr=>PAt s w w.heap.size b.heap.size mB v5 v7 y wr) (fun _ _ y _=>s.size-(intOf y).toNat)
 case atStart=>exact⟨0,0,s.size+1,0,_,_,_,_,_,rfl,rfl,rfl,by omega,by omega,by omega,by omega,lZ.out,by simp[pack,aa],av.out,MI.start _⟩
 case round=>
  obtain⟨i,p,f,K,A,n,cap,l,ab,rfl,rfl,rfl,ay,hi,De,hf,I,hl,x,ae⟩:=hrel;have R:=za ae;have X:=za hl;have nn:=x.lt;have aw:=x.hBm;have az:=abc hl (by simpa using hs);have E:=za hf;clear ae hl;by_cases aC:i<s.size
  ·obtain⟨wo,ar⟩:∃wo:World,wo=wr:=⟨_,rfl⟩
   subst ar;by_cases N:i+4<=s.size
   ·have D:=OO s.data.toList i (by simpa using N) i (zf _);have W:=R.out.2 i (by simpa using N);obtain⟨c0,c1,H,c3,S,U,q2,q3,z⟩:=x.four N;have aB:¬Dj=i:=by omega
    have US:=za z;have Z:=x.map;clear z;cases hlg:jx s.data.toList i i with
    |none=>
     have XN:=W.2 hlg;rw[hlg]at D;have J:=za D;clear W hlg D;go_wp2_with (at_lookup;refine Zs _ rfl _ _ 210 rfl 211 3 .i64 rl Z0 yI (Ka _) mB K _ rfl Z _ _ rfl US.out ?_;intro cj M XL)
     clear M XL S U q2 q3 Z;go_loopw [8,65] (fun y q wr=>PIn s w w.heap.size b.heap.size mB i 1 A n cap l y q wr) (fun _ q _=>1-(intOf q).toNat)
     case atStart=>exact⟨0,K,ab,rfl,rfl,by omega,by omega,I,x,R.out⟩
     case round=>
      obtain⟨c,h,F,rfl,rfl,hc,U5,u,d,B⟩:=hrel;have r:=za B;clear B;by_cases RQ:c<1
      ·by_cases C:i+c+4<=s.size
       ·obtain⟨c0,c1,H,c3,S,U,q2,q3,z⟩:=d.four C;have HK:=za z;have bK:=d.map;clear z;go_wp2_with (at_mapUpdate;refine wpList_mapUpdate_own _ rfl _ _ _ 210 rfl 211 3 rl Z0 _ mB h _ rfl bK (by unfold maxLen;omega) _ _ _ rfl rfl HK.out _ [] (plainElem_int yI (WalkArith.wf_i64 (by omega))) ?_;intro w5 QG L)
        go_roundw
        case rel=>exact⟨c+1,h+1,_,by go_num,by go_num,by omega,by omega,d.buf u L,d.kP QG L,r.out.put (by simpa using C)⟩
        case measure=>simp[intOf];omega
       omega
      go_wp2;go_roundw
      case rel=>exact⟨i+1,p,f-1,h,A,n,cap,l,F,rfl,rfl,by go_num,by omega,by omega,by omega,by have:=E.out;omega,u,Kc X.out (by simpa using E.out) (by simpa using aC) J.out,d,by rw[show i+1=i+c from by omega];exact r.out⟩
      case measure=>simp[intOf];omega
    |some j=>
     have vX:=OP _ _ _ _ hlg;obtain⟨XN,QH⟩:=W.1 j hlg;have qu:=za QH;rw[hlg]at D;have J:=za D;have aj:=(px _ _ _ _ D).2;have O:=Bh s.data.toList 64 j i;have ak:=O.2 (by simpa using hi);rw[aa]at ak;have ao:=O.1;have XO:=za (fun w=>Td s j i w vX hi hs);generalize U4:mt s.data.toList j i 64=m at*;have qG:=za U4;have U0:(s.extract p i).size<=65536:=by rw[an _ _ _ hi];omega
     have au:=za (Te X.out (by simpa using E.out) (by simpa using aC) J.out (aq s p i) qG.out);have RT:(l++gT (s.extract p i).data.toList).length<=200000:=by
      have:=jU (s.extract p i).data.toList (by rw[aa];exact U0);rw[aa]at this;have h3:(if(s.extract p i).size=0 then 0 else if(s.extract p i).size<=60 then 1 else if(s.extract p i).size<=256 then 2 else 3)<=3:=by split<;>(try split)<;>(try split)<;>omega
      rw[zp];omega
     clear W hlg D QH O U4;go_wp2_with (at_lookup;refine Zs _ rfl _ _ 210 rfl 211 3 .i64 rl Z0 yI (Ka _) mB K _ rfl Z _ _ rfl US.out ?_;intro cj M XL;obtain rfl:=Pu (M.symm.trans qu.out);clear M XL)
     refine(J4 b.heap.size _ l (s.extract p i) _ I (by omega) (by omega) U0).mono ?_;rintro e w3 ⟨A1,n1,aA,rfl,o,G⟩;have ax:=G.size;have af:=x.kept G;go_wp2_with fail
     refine(XO.out _).mono ?_;rintro e w4 ⟨rfl,Y⟩;have Nj:=Y.size;have ah:=af.later Y;have ad:=o.below Y;go_wp2_with fail
     refine(Tf b.heap.size _ _ m (i-j) ((i:Int)-j) _ ad (by omega) (by omega) aj ao (by omega) (by omega)).mono ?_;rintro e w5 ⟨A2,n2,H,rfl,aM,eG⟩;have al:=ah.kept eG;clear o ad af ah x I S U q2 q3 Z G eG Y;go_wp2;go_loopw [8,65] (fun y q wr=>PIn s w w.heap.size b.heap.size mB i m A2 n2 H _ y q wr) (fun _ q _=>m-(intOf q).toNat)
     case atStart=>exact⟨0,K,ab,rfl,rfl,by omega,by omega,aM,al,R.out⟩
     case round=>
      obtain⟨c,h,F,rfl,rfl,hc,U5,u,d,B⟩:=hrel;have r:=za B;clear B;by_cases RQ:c<m
      ·by_cases C:i+c+4<=s.size
       ·obtain⟨c0,c1,H,c3,S,U,q2,q3,z⟩:=d.four C;have HK:=za z;have bK:=d.map;clear z;go_wp2_with (at_mapUpdate;refine wpList_mapUpdate_own _ rfl _ _ _ 210 rfl 211 3 rl Z0 _ mB h _ rfl bK (by unfold maxLen;omega) _ _ _ rfl rfl HK.out _ [] (plainElem_int yI (WalkArith.wf_i64 (by omega))) ?_;intro w5 QG L)
        go_roundw
        case rel=>exact⟨c+1,h+1,_,by go_num,by go_num,by omega,by omega,d.buf u L,d.kP QG L,r.out.put (by simpa using C)⟩
        case measure=>simp[intOf];omega
       go_wp2;go_roundw
       case rel=>exact⟨c+1,h,F,by go_num,by go_num,by omega,by omega,u,d,r.out.skip (by simpa using C)⟩
       case measure=>simp[intOf];omega
      go_wp2;go_roundw
      case rel=>exact⟨i+m,i+m,f-1,h,A2,n2,H,_,F,rfl,by go_num,by go_num,by omega,by omega,by omega,by have:=E.out;omega,u,au.out,d,by rw[show i+m=i+c from by omega];exact r.out⟩
      case measure=>simp[intOf];omega
   have J:=za (uQ s.data.toList i (by simpa using hi) (by simpa using N) i (zf _));go_wp2;go_loopw [8,65] (fun y q wr=>PIn s w w.heap.size b.heap.size mB i 1 A n cap l y q wr) (fun _ q _=>1-(intOf q).toNat)
   case atStart=>exact⟨0,K,ab,rfl,rfl,by omega,by omega,I,x,R.out⟩
   case round=>
    obtain⟨c,h,F,rfl,rfl,hc,U5,u,d,B⟩:=hrel;have r:=za B;have C:¬i+c+4<=s.size:=by omega
    clear B;by_cases RQ:c<1
    ·go_wp2;go_roundw
     case rel=>exact⟨c+1,h,F,by go_num,by go_num,by omega,by omega,u,d,r.out.skip (by simpa using C)⟩
     case measure=>simp[intOf];omega
    go_wp2;go_roundw
    case rel=>exact⟨i+1,p,f-1,h,A,n,cap,l,F,rfl,rfl,by go_num,by omega,by omega,by omega,by have:=E.out;omega,u,Kc X.out (by simpa using E.out) (by simpa using aC) J.out,d,by rw[show i+1=i+c from by omega];exact r.out⟩
    case measure=>simp[intOf];omega
  have HE:=za (Wo X.out (by simpa using E.out) (by simpa using aC) (show(s.extract p s.size).data.toList=s.data.toList.drop p by rw[aq,dh]));have ai:(s.extract p s.size).size<=65536:=by rw[an _ _ _ (zf _)];omega
  go_wp2_with fail
  refine(J4 b.heap.size _ l (s.extract p s.size) _ I (by omega) (by omega) ai).mono ?_;rintro e w3 ⟨A1,n1,c1,rfl,o,G⟩;rw[HE.out]at o;have Qs:=o.Ef (P:=prog) zx yC zO;have HB:=za ((x.kept G).below);clear o G;go_wp2;go_ret2
  exact⟨rfl,HB.out⟩
open Go.RowKit
theorem tH :(prog.info? 5).map (fun i=>(i.zero,i.size,i.bytes))=some (some (.int .u8 0),1,1):=by kernel_rfl
theorem Im (g bx:Nat)(s:ByteArray)(k n:Nat)(w:World)(h:iI w g s k 0)(hx:w.cell? ⟨bx,0,none⟩=some (.pointer (some ⟨g,0,none⟩)))(p:s.size<=9223372036854775807)(b:k+n<=s.size)(y:1<=n)(u:n<=4):
 Calls prog 195 #[.int .i64 n,.pointer (some ⟨bx,0,none⟩)] w fun e w'=>e= .returned (.int .i64 (cV (s.extract k (k+n)).data.toList))/\iI w' g s (k+n) 0/\ae [g] w w':=by
 have d:=ei g s k n w h p b;have hz:(s.extract k (k+n)).size=n:=by rw[an _ _ _ b];omega
 have c:=fun w=>eP (s.extract k (k+n)) w (by omega) (by omega)
 have i:=jm (s.extract k (k+n)).data.toList;have q:2^(8*(s.extract k (k+n)).data.toList.length)<=2^32:=yy (by omega) (by rw[aa,hz];omega);have r:cV (s.extract k (k+n)).data.toList<=4294967295:=by omega
 have l:=za d;have o:=za c;clear i q hz d c h;generalize cV (s.extract k (k+n)).data.toList=N at*;go_enter func195,ntmps195
 go_wp2_with fail
 refine l.out.mono ?_;rintro e w' ⟨rfl,j,m⟩;go_wp2_with fail
 refine(o.out _).mono ?_;rintro e x ⟨rfl,rfl⟩;go_wp2;go_ret;exact⟨rfl,j,m⟩
theorem iZ (g bx:Nat)(s:ByteArray)(k n:Nat)(w:World)(h:iI w g s k 0)(hx:w.cell? ⟨bx,0,none⟩=some (.pointer (some ⟨g,0,none⟩)))(l:k<=s.size)(j:s.size<=9223372036854775807)(c:s.size<k+n)(m:n<=4):
 Calls prog 195 #[.int .i64 n,.pointer (some ⟨bx,0,none⟩)] w fun e w'=>e= .returned (.int .i64 0)/\iI w' g s k 2/\ae [g] w w':=by
 have d:=za (fP g s k n w h l j c (by omega));clear h;go_enter func195,ntmps195
 go_wp2_with fail
 refine d.out.mono ?_;rintro e w' ⟨rfl,b,i⟩;go_wp2_with fail
 refine(mN _ _ rfl).mono ?_;rintro e o ⟨rfl,rfl⟩;go_wp2;go_ret;exact⟨rfl,b,i⟩
theorem Wq (b:Nat)(c:b<256):bits .and .u8 (b:Int) 3=((b%4:Nat):Int):=by
 have:=u8_and_nat b 3 c (by omega);rw[nat_mask2]at this;exact this
theorem Fj (g bx:Nat)(s:ByteArray)(k n N:Nat)(w:World)(h:iI w g s k 0)(hx:w.cell? ⟨bx,0,none⟩=some (.pointer (some ⟨g,0,none⟩)))(j:s.size<=9223372036854775807)(b:k+n<=s.size)(i:1<=n)(c:n<=4)(d:cV (s.extract k (k+n)).data.toList=N):
 Calls prog 195 #[.int .i64 n,.pointer (some ⟨bx,0,none⟩)] w fun e w'=>e= .returned (.int .i64 N)/\iI w' g s (k+n) 0/\ae [g] w w':=by
 subst d;exact Im g bx s k n w h hx j b i c
theorem Kd (s:ByteArray)(k b:Nat)(c:b<256)(h:k+bd b<=s.size):ij s k b<=4294967295:=by
 have d:=jm (s.extract (k+1) (k+bd b)).data.toList;have i:=AU b c;have e:2^(8*(s.extract (k+1) (k+bd b)).data.toList.length)<=2^32:=yy (by omega) (by rw[aa,an _ _ _ h];omega);unfold ij;omega
theorem Mj (b n N c:Nat)(h:b<256)(i:b%4≠0)(d:cH b N=n)(e:jP b N=c):
 (bits .and .u8 (b:Int) 3=1/\Hid (bd b=2)/\Hid (4+(b:Int)/4%8=n)/\Hid ((b:Int)/4/8*256+N=c))\/
 (bits .and .u8 (b:Int) 3=2/\Hid (bd b=3)/\Hid ((b:Int)/4+1=n)/\Hid ((N:Int)=c))\/
 (bits .and .u8 (b:Int) 3=3/\Hid (bd b=5)/\Hid ((b:Int)/4+1=n)/\Hid ((N:Int)=c)):=by
 rw[Wq b h];rcases(show b%4=1\/b%4=2\/b%4=3 from by omega)with hm|hm|hm
 ·refine .inl ⟨by rw[hm];rfl,za (by simp[bd,hm]),za ?_,za ?_⟩
  ·simp[cH,hm]at d;omega
  simp[jP,hm]at e;omega
 ·refine .inr (.inl ⟨by rw[hm];rfl,za (by simp[bd,hm]),za ?_,za ?_⟩)
  ·simp[cH,hm]at d;omega
  simp[jP,hm]at e;omega
 refine .inr (.inr ⟨by rw[hm];rfl,za (by simp[bd,hm]),za ?_,za ?_⟩)
 ·simp[cH,hm]at d;omega
 simp[jP,hm]at e;omega
theorem vd (o:List UInt8)(d q:Nat)(h:d+q<=o.length):(cb ((o.drop d).take q)).length=q*1:=by
 rw[bq,yc,zZ];omega
theorem ve {w:World}{base h cap:Nat}{o:List UInt8}{e:TypeId}(i:w.ownsRow base e 1 (.slice (some ⟨h,0,none⟩) o.length cap) o.length (cb o))(d q:Nat)(hd:d+q<=o.length):
 ∀j u,(cb ((o.drop d).take q))[j]?=some u->w.cell? ((⟨h,d,none⟩:Addr).add j)=some u:=by
 intro j u hu;have b:j<q:=by
  have:=(Zo.1 hu).1;rw[vd o d q hd]at this;omega
 have c:(⟨h,d,none⟩:Addr).add j=⟨h,d+j,none⟩:=by
  unfold Addr.add;split<;>simp_all
 rw[c,i.cellAt (d+j) (by omega),<-hu,Ed,Ed,yP b,xE]
theorem vf {w wr w3:World}{B base h cap d c g k b m q size:Nat}{s:ByteArray}{o:List UInt8}{x:List UInt8}(l:wr.ownsRow base 5 1 (.slice (some ⟨h,0,none⟩) o.length cap) o.length (cb o))
 (z:w3.ownsRow base 5 1 (.slice (some ⟨d,0,none⟩) (o.length+q) c) (o.length+q) (cb o++cb ((o.drop (o.length-b)).take q)))
 (i:wr.grownBy w3 (Value.slice (some ⟨h,0,none⟩) o.length cap).ownBlock) (e:iI wr g s k 0) (r:Below B w wr) (n:B<=wr.heap.size) (E:B<=base)
 (p:ts o b m=x) (y:b<=o.length) (D:q<=m) (u:q<=b) (C:o.length+m<=size):
 Value.slice (some ⟨d,0,none⟩) (o.length+q) c= .slice (some ⟨d,0,none⟩) (o++(o.drop (o.length-b)).take q).length c/\
 w3.ownsRow base 5 1 (.slice (some ⟨d,0,none⟩) (o++(o.drop (o.length-b)).take q).length c) (o++(o.drop (o.length-b)).take q).length (cb (o++(o.drop (o.length-b)).take q))/\
 iI w3 g s k 0/\Below B w w3/\ts (o++(o.drop (o.length-b)).take q) b (m-q)=x/\b<=(o++(o.drop (o.length-b)).take q).length/\(o++(o.drop (o.length-b)).take q).length+(m-q)<=size:=by
 have j:(o++(o.drop (o.length-b)).take q).length=o.length+q:=by
  rw[zp,yc,zZ];omega
 have A:=qO l;refine⟨by rw[j],by rw[j,fV];exact z, ?_, ?_, ?_,by omega,by omega⟩
 ·exact e.only (ae.gz i) (by simp[Value.ownBlock];exact(dX l e (by decide)).symm)
 ·exact r.grown i n (by simp[Value.ownBlock];omega)
 rw[<-Le o b q u y,<-Jv,show q+(m-q)=m from by omega];exact p
theorem Mk (b n size len:Nat)(c:len<=size):
 (((b=0\/len<b)\/size-len<n)/\((b:Int)==0)=true)\/(((b=0\/len<b)\/size-len<n)/\((b:Int)==0)=false/\len<b)\/
 (((b=0\/len<b)\/size-len<n)/\((b:Int)==0)=false/\b<=len/\(size:Int)-len<n)\/((¬((b=0\/len<b)\/size-len<n))/\((b:Int)==0)=false/\b<=len/\(n:Int)<=size-len/\decide (len<b)=false/\decide ((size:Int)-len<n)=false):=by
 simp only[xe,zr,ne_eq,yV];omega
def pW (g:Nat)(s:ByteArray)(B base:Nat)(w:World)(x:Int×Nat×List UInt8)(e:Ending)(w':World):Prop:=
 ∃h' aj k',e= .returned (.slice (some ⟨h',0,none⟩) x.2.2.length aj)/\w'.ownsRow base 5 1 (.slice (some ⟨h',0,none⟩) x.2.2.length aj) x.2.2.length (cb x.2.2)/\
  iI w' g s k' x.1/\(x.1=0->k'=x.2.1)/\Below B w w'
theorem CV (g:Nat)(s:ByteArray)(k b:Nat)(w:World)(h:iI w g s k 0)(hk:k<s.size)(hs:s.size<=9223372036854775807)(hb:s[k].toNat=b)(d:b<256)(Qr:b%4≠0)(l:k+bd b<=s.size)
 (B base cap G size:Nat) (out:List UInt8) (X:w.ownsRow base 5 1 (.slice (some ⟨G,0,none⟩) out.length cap) out.length (cb out)) (pf:B<=g) (kx:B<=base) (sQ:B<=w.heap.size) (aC:out.length<=size) (fC:size<=4294967295):
 Calls prog 162 #[.pointer (some ⟨g,0,none⟩),.slice (some ⟨G,0,none⟩) out.length cap,.int .i64 size] w (pW g s B base w (bT s size k b out)):=by
 have cd:=dX X h (by decide);have qD:=(u' g s k _ (h.alloc (.cells #[.pointer (some ⟨g,0,none⟩)] 163)) hk hs)
 rw[hb]at qD;have KM:=za qD;have dO:=X.alloc (.cells #[.pointer (some ⟨g,0,none⟩)] 163);have jM:=af.new w 163 #[.pointer (some ⟨g,0,none⟩)];have ai:=h.lt;have hB:=(zq B w).alloc sQ (.cells #[.pointer (some ⟨g,0,none⟩)] 163);obtain⟨N,K⟩:∃N,ij s k b=N:=⟨_,rfl⟩
 have ad:=Kd s k b d l;rw[K]at ad;obtain⟨n,hn⟩:∃n,cH b N=n:=⟨_,rfl⟩
 obtain⟨c,S⟩:∃n,jP b N=n:=⟨_,rfl⟩
 have KN:Hid (bT s size k b out=if((c=0\/out.length<c))\/size-out.length<n then(3,k,out)else(0,k+bd b,ts out c n)):=by
  refine za ?_;unfold bT;rw[K,hn,S,zj (by omega)];simp[Qr]
 obtain⟨i0,hi,eA,cg,cG⟩:=yT tH;have HN:=za K;have Hh:=za l;have Hn:=za hn;have ae:=za S;clear qD h X hb l K hn S;go_enter ZV,ZM
 go_wp2_with fail
 refine KM.out.mono ?_;rintro e Z ⟨rfl,hr,H⟩;have W:Below B w Z:=hB.trans (H.below (by simp;omega) (by simp;omega));have dU:=H.own dO (by simp[Value.ownBlock];exact cd);have iK:=jM.only H (by simp;omega);have AH:Z.cell? ⟨w.heap.size,0,none⟩=some (.pointer (some ⟨g,0,none⟩)):=yd iK;clear H jM dO hB KM;rcases Mj b n N c d Qr Hn.out ae.out with⟨wh,l,E1,Y⟩|⟨wh,l,E1,Y⟩|⟨wh,l,E1,Y⟩;all_goals
  first
   |have y:∃q:Nat,bd b=q+1/\(q:Int)=1:=⟨1,l.out,rfl⟩
   |have y:∃q:Nat,bd b=q+1/\(q:Int)=2:=⟨2,l.out,rfl⟩
   |have y:∃q:Nat,bd b=q+1/\(q:Int)=4:=⟨4,l.out,rfl⟩
  obtain⟨q,y,ab⟩:=y;have HQ:=za y;have j:=za (Fj g _ s (k+1) q N Z hr AH hs (by have:=Hh.out;omega) (by omega) (by omega) (by rw[<-HN.out,ij,y,show k+(q+1)=k+1+q from by omega]));rw[ab]at j;clear y ab;go_wp2_with fail
  refine j.out.mono ?_;rintro e I ⟨rfl,L,J⟩;have aM:Below B w I:=W.trans (J.below (by have:=W.size;omega) (by simp;omega));have tk:=iK.only J (by simp;omega);have QK:I.cell? ⟨w.heap.size,0,none⟩=some (.pointer (some ⟨g,0,none⟩)):=yd tk;have gP:=J.own dU (by simp[Value.ownBlock];exact cd);go_wp2_with fail
  rw[E1.out,Y.out];refine(bs g s _ 0 I L).mono ?_;rintro e w' ⟨rfl,rfl⟩;clear j J dU iK AH hr W;rcases Mk c n size out.length aC with⟨u,e1⟩|⟨u,e1,O⟩|⟨u,e1,O,e3⟩|⟨u,e1,O,e3,e4,e5⟩;rotate_right
  ·have F:=za u;clear u;have ah:1<=c:=by have:=F.out;omega
   go_wp2_with fail
   go_loopw [1,11] (fun v x wr=>∃(m:Nat) (o:List UInt8) (z r:Nat),v= .slice (some ⟨z,0,none⟩) o.length r/\x= .int .i64 m/\wr.ownsRow base 5 1 (.slice (some ⟨z,0,none⟩) o.length r) o.length (cb o)/\
    iI wr g s (k+1+q) 0/\Below B w wr/\Hid (ts o c m=ts out c n)/\c<=o.length/\o.length+m<=size) (fun _ x _=>(intOf x).toNat)
   case atStart=>exact⟨n,out,G,cap,rfl,rfl,gP,L,aM,za rfl,O,by omega⟩
   case round=>
    obtain⟨m,o,z,r,rfl,rfl,i,D,d,p,aa,QJ⟩:=hrel;obtain⟨DL,wH,ak,an⟩:=qO i;have al:¬r=o.length-c:=by omega
    by_cases Gr:0<m
    ·by_cases ag:m<=c
     ·have j:=za (vd o (o.length-c) m (by omega));have C:=za (ve i (o.length-c) m (by omega));go_wp2_with (at_builtin;refine xB _ rfl (.tmp 100) (.tmp 101) 31 rfl base 5 i0 (.int .u8 0) 1 1 zx hi eA cg cG rfl (by decide) _ _ _ rfl i ⟨z,o.length-c,none⟩ m (r-(o.length-c)) (cb ((o.drop (o.length-c)).take m)) rfl j.out C.out (uf _) (by omega) (by simp only[maxLen];omega) (by omega) (by have:=d.size;omega) wr.heap.size rfl ?_;intro g1 U w3 A E M XJ)
      have R:=vf i A E D d (by have:=d.size;omega) (by omega) p.out aa (show m<=m from by omega) (show m<=c from by omega) QJ;clear A E M i D d p C j;go_wp2;go_roundw
      case rel=>exact⟨m-m,_,g1,U,R.1,by go_num,R.2.1,R.2.2.1,R.2.2.2.1,za R.2.2.2.2.1,R.2.2.2.2.2.1,R.2.2.2.2.2.2⟩
      case measure=>simp[intOf];omega
     have j:=za (vd o (o.length-c) c (by omega));have C:=za (ve i (o.length-c) c (by omega));go_wp2_with (at_builtin;refine xB _ rfl (.tmp 100) (.tmp 101) 31 rfl base 5 i0 (.int .u8 0) 1 1 zx hi eA cg cG rfl (by decide) _ _ _ rfl i ⟨z,o.length-c,none⟩ c (r-(o.length-c)) (cb ((o.drop (o.length-c)).take c)) rfl j.out C.out (uf _) (by omega) (by simp only[maxLen];omega) (by omega) (by have:=d.size;omega) wr.heap.size rfl ?_;intro g1 U w3 A E M XJ)
     have R:=vf i A E D d (by have:=d.size;omega) (by omega) p.out aa (show c<=m from by omega) (show c<=c from by omega) QJ;clear A E M i D d p C j;go_wp2;go_roundw
     case rel=>exact⟨m-c,_,g1,U,R.1,by go_num,R.2.1,R.2.2.1,R.2.2.2.1,za R.2.2.2.2.1,R.2.2.2.2.2.1,R.2.2.2.2.2.2⟩
     case measure=>simp[intOf];omega
    go_wp2;go_ret;obtain rfl:m=0:=by omega
    have p:=p.out;simp only[ts]at p;rw[KN.out,zj F.out,HQ.out,<-p];exact⟨z,r,_,rfl,i,D,fun _=>by simp;omega,d⟩
  all_goals
   have F:=za u;clear u;go_wp2_with fail
   refine(iu g s _ 3 I L).mono ?_;rintro e w3 ⟨rfl,qH,ka⟩;have bS:Below B w w3:=aM.trans (ka.below (by have:=aM.size;omega) (by simp;omega));have fF:=ka.own gP (by simp[Value.ownBlock];exact cd);go_wp2;go_ret;rw[KN.out,zl F.out];exact⟨G,cap,_,rfl,fF,qH,(fun h=>by cases h),bS⟩
theorem Fk (n size len:Nat)(b:len<=size):(size-len<n/\(size:Int)-len<n)\/(¬size-len<n/\(n:Int)<=size-len):=by omega
theorem Io (b:Nat)(d:b<256)(h:1<bd b):
 (bits .and .u8 (b:Int) 3=0/\60<=b/4/\∃nb:Nat,1<=nb/\nb<=4/\Hid (bd b=nb+1)/\Hid ((b:Int)/4-59=nb))\/(bits .and .u8 (b:Int) 3=1/\Hid (bd b=1+1))\/(bits .and .u8 (b:Int) 3=2/\Hid (bd b=2+1))\/(bits .and .u8 (b:Int) 3=3/\Hid (bd b=4+1)):=by
 rw[Wq b d];rcases(show b%4=0\/b%4=1\/b%4=2\/b%4=3 from by omega)with hm|hm|hm|hm
 ·have c:60<=b/4:=by
   rcases Zl (b/4) 60 with h1|h1
   ·simp[bd,hm,show¬60<=b/4 from by omega]at h
   exact h1
  exact .inl ⟨by rw[hm];rfl,c,b/4-59,by omega,by omega,za (by simp[bd,hm,c];omega),za (by omega)⟩
 ·exact .inr (.inl ⟨by rw[hm];rfl,za (by simp[bd,hm])⟩)
 ·exact .inr (.inr (.inl ⟨by rw[hm];rfl,za (by simp[bd,hm])⟩))
 exact .inr (.inr (.inr ⟨by rw[hm];rfl,za (by simp[bd,hm])⟩))
theorem Fl (g:Nat)(s:ByteArray)(k b:Nat)(w:World)(h:iI w g s k 0)(hk:k<s.size)(G:s.size<=9223372036854775807)(hb:s[k].toNat=b)(eY:b<256)(H:b%4=0)(s8:k+bd b<=s.size)
 (B base cap x size:Nat) (out:List UInt8) (bK:w.ownsRow base 5 1 (.slice (some ⟨x,0,none⟩) out.length cap) out.length (cb out)) (pf:B<=g) (kx:B<=base) (sQ:B<=w.heap.size) (kz:base<=w.heap.size) (aC:out.length<=size) (fC:size<=4294967295):
 Calls prog 162 #[.pointer (some ⟨g,0,none⟩),.slice (some ⟨x,0,none⟩) out.length cap,.int .i64 size] w (pW g s B base w (bT s size k b out)):=by
 have y:=dX bK h (by decide);have qD:=(u' g s k _ (h.alloc (.cells #[.pointer (some ⟨g,0,none⟩)] 163)) hk G)
 rw[hb]at qD;have KM:=za qD;have dO:=bK.alloc (.cells #[.pointer (some ⟨g,0,none⟩)] 163);have jM:=af.new w 163 #[.pointer (some ⟨g,0,none⟩)];have ah:=h.lt;have hB:=(zq B w).alloc sQ (.cells #[.pointer (some ⟨g,0,none⟩)] 163);obtain⟨N,hN⟩:∃N,ij s k b=N:=⟨_,rfl⟩
 have ag:=Kd s k b eY s8;rw[hN]at ag;obtain⟨n,hn⟩:∃n,cH b N=n:=⟨_,rfl⟩
 have I:Hid (bT s size k b out=if size-out.length<n then(3,k,out)else if s.size<k+bd b+n then(2,k,out)else(0,k+bd b+n,out++(s.extract (k+bd b) (k+bd b+n)).data.toList)):=by
  refine za ?_;unfold bT;rw[hN,hn,zj (by omega)];simp[H]
 obtain⟨i0,hi,X,S,R⟩:=yT tH;have HN:=za hN;have Hh:=za s8;have Hn:=za hn;have wh:bits .and .u8 (b:Int) 3=0:=by rw[Wq b eY,H];rfl
 clear qD h bK hb s8 hN hn;go_enter ZV,ZM
 go_wp2_with fail
 refine KM.out.mono ?_;rintro e w1 ⟨rfl,U,W⟩;have K:Below B w w1:=hB.trans (W.below (by simp;omega) (by simp;omega));have Z:=W.own dO (by simp[Value.ownBlock];exact y);have L:=jM.only W (by simp;omega);have AH:w1.cell? ⟨w.heap.size,0,none⟩=some (.pointer (some ⟨g,0,none⟩)):=yd L;clear W jM dO hB KM;by_cases O:60<=b/4
 ·obtain⟨nb,ab⟩:∃nb:Nat,(b:Int)/4-59=nb:=⟨b/4-59,by omega⟩
  have m:Hid (k+1+nb=k+bd b):=za (by simp[bd,H,O];omega);have E1:Hid ((N:Int)+1=n):=za (by have:=Hn.out;simp[cH,H,O]at this;omega);have ad:=za ab;have Hl:=za (Fj g _ s (k+1) nb N w1 U AH G (by have:=Hh.out;have:=m.out;omega) (by omega) (by omega) (by rw[<-HN.out,ij,m.out]));have Xf:k+1+nb<=s.size:=by have:=Hh.out;have:=m.out;omega
  clear ab;go_wp2_with fail
  rw[ad.out];refine Hl.out.mono ?_;rintro e w2 ⟨rfl,u,Y⟩;have l:Below B w w2:=K.trans (Y.below (by have:=K.size;omega) (by simp;omega));have tk:=L.only Y (by simp;omega);have QK:w2.cell? ⟨w.heap.size,0,none⟩=some (.pointer (some ⟨g,0,none⟩)):=yd tk;have F:=Y.own Z (by simp[Value.ownBlock];exact y);clear Hl Y Z L AH U K;go_wp2_with fail
  rw[E1.out];refine(bs g s _ 0 _ u).mono ?_;rintro e w' ⟨rfl,rfl⟩;rcases Fk n size out.length aC with⟨p,e1⟩|⟨p,e1⟩
  ·have r:=za p;clear p;go_wp2_with fail
   refine(iu g s _ 3 _ u).mono ?_;rintro e w3 ⟨rfl,j,i⟩;have c:Below B w w3:=l.trans (i.below (by have:=l.size;omega) (by simp;omega));have d:=i.own F (by simp[Value.ownBlock];exact y);go_wp2;go_ret;rw[I.out,zl r.out];exact⟨x,cap,_,rfl,d,j,(fun h=>by cases h),c⟩
  have r:=za p;clear p;by_cases vZ:s.size<k+1+nb+n
  ·have E:=za (fP g s (k+1+nb) n _ u (by omega) G vZ (by omega));go_wp2_with fail
   refine E.out.mono ?_;rintro e w3 ⟨rfl,j,i⟩;have c:Below B w w3:=l.trans (i.below (by have:=l.size;omega) (by simp;omega));have d:=i.own F (by simp[Value.ownBlock];exact y);have QL:=dX d j (by decide);go_wp2_with (at_builtin;refine xW _ rfl (.tmp 82) (.tmp 85) 31 9 rfl base 5 i0 zx zO hi X S R (.slice (some ⟨x,0,none⟩) out.length cap) out.length (cb out) rfl d ByteArray.empty rfl (by simp[maxLen];omega) (by simp;omega) (by have:=c.size;omega) ?_;intro v' w4 o q z)
   obtain⟨C,D,rfl⟩:=pw o (by rw[ne_eq,z];simp);go_wp2;go_ret;rw[I.out,zj r.out,zl (by have:=m.out;omega)];refine⟨C,D,_,by simp,by simpa[Lib.strCells]using o,j.only (ae.gz q) (by simp[Value.ownBlock];omega),(fun h=>by cases h),c.grown q (by have:=c.size;omega) (by simp[Value.ownBlock];have:=qO d;omega)⟩
  have E:=za (ei g s (k+1+nb) n _ u G (by omega));have J:=za (an s (k+1+nb) (k+1+nb+n) (by omega));have aa:Hid (s.extract (k+1+nb) (k+1+nb+n)=s.extract (k+bd b) (k+bd b+n)):=za (by rw[<-m.out]);go_wp2_with fail
  refine E.out.mono ?_;rintro e w3 ⟨rfl,j,i⟩;have c:Below B w w3:=l.trans (i.below (by have:=l.size;omega) (by simp;omega));have d:=i.own F (by simp[Value.ownBlock];exact y);have QL:=dX d j (by decide);generalize s.extract (k+1+nb) (k+1+nb+n)=A at*;go_wp2_with (at_builtin;refine xW _ rfl (.tmp 82) (.tmp 85) 31 9 rfl base 5 i0 zx zO hi X S R (.slice (some ⟨x,0,none⟩) out.length cap) out.length (cb out) rfl d A rfl (by rw[J.out];simp only[maxLen];omega) (by rw[J.out];omega) (by have:=c.size;omega) ?_;intro v' w4 o q z)
  obtain⟨C,D,rfl⟩:=pw o (by rw[ne_eq,z];simp);have M:(out++A.data.toList).length=out.length+A.size:=by simp
  go_wp2;go_ret;rw[I.out,zj r.out,zj (by have:=m.out;omega),<-aa.out];refine⟨C,D,_,by rw[M];rfl, ?_,j.only (ae.gz q) (by simp[Value.ownBlock];omega),(fun _=>by have:=m.out;simp;omega),c.grown q (by have:=c.size;omega) (by simp[Value.ownBlock];have:=qO d;omega)⟩;rw[M,fV];exact o
 have m:Hid (k+1=k+bd b):=za (by simp[bd,H,O]);have E1:Hid ((b:Int)/4+1=n):=za (by have:=Hn.out;simp[cH,H,O]at this;omega);have u:=U;have l:=K;have F:=Z;have tk:=L;clear U K Z L;go_wp2_with fail
 rw[E1.out];refine(bs g s _ 0 _ u).mono ?_;rintro e w' ⟨rfl,rfl⟩;rcases Fk n size out.length aC with⟨p,e1⟩|⟨p,e1⟩
 ·have r:=za p;clear p;go_wp2_with fail
  refine(iu g s _ 3 _ u).mono ?_;rintro e w3 ⟨rfl,j,i⟩;have c:Below B w w3:=l.trans (i.below (by have:=l.size;omega) (by simp;omega));have d:=i.own F (by simp[Value.ownBlock];exact y);go_wp2;go_ret;rw[I.out,zl r.out];exact⟨x,cap,_,rfl,d,j,(fun h=>by cases h),c⟩
 have r:=za p;clear p;by_cases vZ:s.size<k+1+n
 ·have E:=za (fP g s (k+1) n _ u (by omega) G vZ (by omega));go_wp2_with fail
  refine E.out.mono ?_;rintro e w3 ⟨rfl,j,i⟩;have c:Below B w w3:=l.trans (i.below (by have:=l.size;omega) (by simp;omega));have d:=i.own F (by simp[Value.ownBlock];exact y);have QL:=dX d j (by decide);go_wp2_with (at_builtin;refine xW _ rfl (.tmp 82) (.tmp 85) 31 9 rfl base 5 i0 zx zO hi X S R (.slice (some ⟨x,0,none⟩) out.length cap) out.length (cb out) rfl d ByteArray.empty rfl (by simp[maxLen];omega) (by simp;omega) (by have:=c.size;omega) ?_;intro v' w4 o q z)
  obtain⟨C,D,rfl⟩:=pw o (by rw[ne_eq,z];simp);go_wp2;go_ret;rw[I.out,zj r.out,zl (by have:=m.out;omega)];refine⟨C,D,_,by simp,by simpa[Lib.strCells]using o,j.only (ae.gz q) (by simp[Value.ownBlock];omega),(fun h=>by cases h),c.grown q (by have:=c.size;omega) (by simp[Value.ownBlock];have:=qO d;omega)⟩
 have E:=za (ei g s (k+1) n _ u G (by omega));have J:=za (an s (k+1) (k+1+n) (by omega));have aa:Hid (s.extract (k+1) (k+1+n)=s.extract (k+bd b) (k+bd b+n)):=za (by rw[<-m.out]);go_wp2_with fail
 refine E.out.mono ?_;rintro e w3 ⟨rfl,j,i⟩;have c:Below B w w3:=l.trans (i.below (by have:=l.size;omega) (by simp;omega));have d:=i.own F (by simp[Value.ownBlock];exact y);have QL:=dX d j (by decide);generalize s.extract (k+1) (k+1+n)=A at*;go_wp2_with (at_builtin;refine xW _ rfl (.tmp 82) (.tmp 85) 31 9 rfl base 5 i0 zx zO hi X S R (.slice (some ⟨x,0,none⟩) out.length cap) out.length (cb out) rfl d A rfl (by rw[J.out];simp only[maxLen];omega) (by rw[J.out];omega) (by have:=c.size;omega) ?_;intro v' w4 o q z)
 obtain⟨C,D,rfl⟩:=pw o (by rw[ne_eq,z];simp);have M:(out++A.data.toList).length=out.length+A.size:=by simp
 go_wp2;go_ret;rw[I.out,zj r.out,zj (by have:=m.out;omega),<-aa.out];refine⟨C,D,_,by rw[M];rfl, ?_,j.only (ae.gz q) (by simp[Value.ownBlock];omega),(fun _=>by have:=m.out;simp;omega),c.grown q (by have:=c.size;omega) (by simp[Value.ownBlock];have:=qO d;omega)⟩;rw[M,fV];exact o
theorem Ag (g:Nat)(s:ByteArray)(k b:Nat)(w:World)(h:iI w g s k 0)(U:k<s.size)(L:s.size<=9223372036854775807)(M:s[k].toNat=b)(X:b<256)(K:s.size<k+bd b)
 (B base cap H size:Nat) (out:List UInt8) (J:w.ownsRow base 5 1 (.slice (some ⟨H,0,none⟩) out.length cap) out.length (cb out)) (Z:B<=g) (kx:B<=base) (W:B<=w.heap.size):
 Calls prog 162 #[.pointer (some ⟨g,0,none⟩),.slice (some ⟨H,0,none⟩) out.length cap,.int .i64 size] w (pW g s B base w (bT s size k b out)):=by
 have A:=dX J h (by decide);have I:=(u' g s k _ (h.alloc (.cells #[.pointer (some ⟨g,0,none⟩)] 163)) U L)
 rw[M]at I;have x:=za I;have y:=J.alloc (.cells #[.pointer (some ⟨g,0,none⟩)] 163);have u:=af.new w 163 #[.pointer (some ⟨g,0,none⟩)];have ab:=h.lt;have z:=(zq B w).alloc W (.cells #[.pointer (some ⟨g,0,none⟩)] 163);have N:Hid (bT s size k b out=(2,k,out)):=by
  refine za ?_;unfold bT;rw[zl K]
 rcases Io b X (by omega:1<bd b)with⟨O,Y,nb,ad,aa,F,S⟩|⟨O,F⟩|⟨O,F⟩|⟨O,F⟩
 ·have E:s.size<k+1+nb:=by have:=F.out;omega
  clear I h J M K;go_enter ZV,ZM
  go_wp2_with fail
  refine x.out.mono ?_;rintro e i ⟨rfl,o,c⟩;have l:Below B w i:=z.trans (c.below (by simp;omega) (by simp;omega));have r:=c.own y (by simp[Value.ownBlock];exact A);have j:=u.only c (by simp;omega);have p:i.cell? ⟨w.heap.size,0,none⟩=some (.pointer (some ⟨g,0,none⟩)):=yd j;have n:=za (iZ g _ s (k+1) nb i o p (by omega) L E (by omega));clear c u y z x;go_wp2_with fail
  rw[S.out];refine n.out.mono ?_;rintro e q ⟨rfl,m,d⟩;have C:Below B w q:=l.trans (d.below (by have:=l.size;omega) (by simp;omega));have G:=j.only d (by simp;omega);have R:q.cell? ⟨w.heap.size,0,none⟩=some (.pointer (some ⟨g,0,none⟩)):=yd G;have D:=d.own r (by simp[Value.ownBlock];exact A);clear n d r j p o l;go_wp2_with fail
  refine(bs g s _ 2 _ m).mono ?_;rintro e w' ⟨rfl,rfl⟩;go_wp2;go_ret;rw[N.out];exact⟨H,cap,_,rfl,D,m,(fun h=>by cases h),C⟩
 ·have E:s.size<k+1+1:=by have:=F.out;omega
  clear I h J M K;go_enter ZV,ZM
  go_wp2_with fail
  refine x.out.mono ?_;rintro e i ⟨rfl,o,c⟩;have l:Below B w i:=z.trans (c.below (by simp;omega) (by simp;omega));have r:=c.own y (by simp[Value.ownBlock];exact A);have j:=u.only c (by simp;omega);have p:i.cell? ⟨w.heap.size,0,none⟩=some (.pointer (some ⟨g,0,none⟩)):=yd j;have n:=za (iZ g _ s (k+1) 1 i o p (by omega) L E (by omega));clear c u y z x;go_wp2_with fail
  skip
  refine n.out.mono ?_;rintro e q ⟨rfl,m,d⟩;have C:Below B w q:=l.trans (d.below (by have:=l.size;omega) (by simp;omega));have G:=j.only d (by simp;omega);have R:q.cell? ⟨w.heap.size,0,none⟩=some (.pointer (some ⟨g,0,none⟩)):=yd G;have D:=d.own r (by simp[Value.ownBlock];exact A);clear n d r j p o l;go_wp2_with fail
  refine(bs g s _ 2 _ m).mono ?_;rintro e w' ⟨rfl,rfl⟩;go_wp2;go_ret;rw[N.out];exact⟨H,cap,_,rfl,D,m,(fun h=>by cases h),C⟩
 ·have E:s.size<k+1+2:=by have:=F.out;omega
  clear I h J M K;go_enter ZV,ZM
  go_wp2_with fail
  refine x.out.mono ?_;rintro e i ⟨rfl,o,c⟩;have l:Below B w i:=z.trans (c.below (by simp;omega) (by simp;omega));have r:=c.own y (by simp[Value.ownBlock];exact A);have j:=u.only c (by simp;omega);have p:i.cell? ⟨w.heap.size,0,none⟩=some (.pointer (some ⟨g,0,none⟩)):=yd j;have n:=za (iZ g _ s (k+1) 2 i o p (by omega) L E (by omega));clear c u y z x;go_wp2_with fail
  skip
  refine n.out.mono ?_;rintro e q ⟨rfl,m,d⟩;have C:Below B w q:=l.trans (d.below (by have:=l.size;omega) (by simp;omega));have G:=j.only d (by simp;omega);have R:q.cell? ⟨w.heap.size,0,none⟩=some (.pointer (some ⟨g,0,none⟩)):=yd G;have D:=d.own r (by simp[Value.ownBlock];exact A);clear n d r j p o l;go_wp2_with fail
  refine(bs g s _ 2 _ m).mono ?_;rintro e w' ⟨rfl,rfl⟩;go_wp2;go_ret;rw[N.out];exact⟨H,cap,_,rfl,D,m,(fun h=>by cases h),C⟩
 have E:s.size<k+1+4:=by have:=F.out;omega
 clear I h J M K;go_enter ZV,ZM
 go_wp2_with fail
 refine x.out.mono ?_;rintro e i ⟨rfl,o,c⟩;have l:Below B w i:=z.trans (c.below (by simp;omega) (by simp;omega));have r:=c.own y (by simp[Value.ownBlock];exact A);have j:=u.only c (by simp;omega);have p:i.cell? ⟨w.heap.size,0,none⟩=some (.pointer (some ⟨g,0,none⟩)):=yd j;have n:=za (iZ g _ s (k+1) 4 i o p (by omega) L E (by omega));clear c u y z x;go_wp2_with fail
 skip
 refine n.out.mono ?_;rintro e q ⟨rfl,m,d⟩;have C:Below B w q:=l.trans (d.below (by have:=l.size;omega) (by simp;omega));have G:=j.only d (by simp;omega);have R:q.cell? ⟨w.heap.size,0,none⟩=some (.pointer (some ⟨g,0,none⟩)):=yd G;have D:=d.own r (by simp[Value.ownBlock];exact A);clear n d r j p o l;go_wp2_with fail
 refine(bs g s _ 2 _ m).mono ?_;rintro e w' ⟨rfl,rfl⟩;go_wp2;go_ret;rw[N.out];exact⟨H,cap,_,rfl,D,m,(fun h=>by cases h),C⟩
theorem BN (g:Nat)(s:ByteArray)(k:Nat)(w:World)(h:iI w g s k 0)(j:k<s.size)(i:s.size<=9223372036854775807)
 (B base cap b size:Nat) (out:List UInt8) (d:w.ownsRow base 5 1 (.slice (some ⟨b,0,none⟩) out.length cap) out.length (cb out)) (c:B<=g) (l:B<=base) (e:B<=w.heap.size) (q:base<=w.heap.size) (m:out.length<=size) (n:size<=4294967295):
 Calls prog 162 #[.pointer (some ⟨g,0,none⟩),.slice (some ⟨b,0,none⟩) out.length cap,.int .i64 size] w (pW g s B base w (bT s size k s[k].toNat out)):=by
 by_cases p:s.size<k+bd s[k].toNat
 ·exact Ag g s k _ w h j i rfl s[k].toNat_lt p B base cap b size out d c l e
 by_cases o:s[k].toNat%4=0
 ·exact Fl g s k _ w h j i rfl s[k].toNat_lt o (by omega) B base cap b size out d c l e q m n
 exact CV g s k _ w h j i rfl s[k].toNat_lt o (by omega) B base cap b size out d c l e m n
theorem tri {x y:Nat×Nat×Int}{a b c:Int}(h:x=y)(i:a=y.1)(d:b=y.2.1)(e:c=y.2.2):Ending.returned (.tuple #[.int .i64 a,.int .i64 b,.int .i64 c])= .returned (.tuple #[.int .i64 x.1,.int .i64 x.2.1,.int .i64 x.2.2]):=by
 subst h;rw[i,d,e]
theorem two {x:Int×List UInt8}{e:Int}{l:List UInt8}(h:x=(e,l)):Ending.returned (.tuple #[.string ⟨l.toArray⟩,.int .i64 e])= .returned (.tuple #[.string ⟨x.2.toArray⟩,.int .i64 x.1]):=by
 subst h;rfl
theorem CW (s:ByteArray)(w:World)(p:s.size<=9223372036854775807):
 Calls prog 161 #[.string s] w fun e w'=>e= .returned (.tuple #[.int .i64 (aB s).1,.int .i64 (aB s).2.1,.int .i64 (aB s).2.2])/\w=w':=by
 have i:=fun w=>ri s w p
 have hz:aB s=if(aw s).2.2=0 then(if 4294967295<(aw s).1 then(0,0,5)else aw s)else(0,0,(aw s).2.2):=rfl
 generalize aw s=x at*;obtain⟨n,hd,o⟩:=x;generalize aB s=y at*;simp only at i hz;have d:=za i;have b:=za hz;clear i hz;rcases eF o with⟨c,j,l⟩|⟨c,j,l⟩
 ·subst c;clear j l;by_cases k:4294967295<n
  ·have h:Hid (y=(0,0,5)):=za (by rw[b.out,zl rfl,zl k]);clear b;go_enter func161,ntmps161
   go_wp2_with fail
   refine(d.out _).mono ?_;rintro e w' ⟨rfl,rfl⟩;go_wp2;go_ret3
   exact⟨tri h.out rfl rfl rfl,rfl⟩
  have h:Hid (y=(n,hd,0)):=za (by rw[b.out,zl rfl,zj k]);clear b;go_enter func161,ntmps161
  go_wp2_with fail
  refine(d.out _).mono ?_;rintro e w' ⟨rfl,rfl⟩;go_wp2;go_ret3
  exact⟨tri h.out rfl rfl rfl,rfl⟩
 have m:=za c;clear c;go_enter func161,ntmps161
 go_wp2_with fail
 refine(d.out _).mono ?_;rintro e w' ⟨rfl,rfl⟩;go_wp2;go_ret3
 exact⟨tri (b.out.trans (by rw[zj m.out])) rfl rfl rfl,rfl⟩
theorem pX (s:ByteArray)(h:(aB s).2.2=0):(aB s).1<=4294967295/\0<(aB s).2.1/\(aB s).2.1<=10/\(aB s).2.1<=s.size:=by
 have hz:aB s=if(aw s).2.2=0 then(if 4294967295<(aw s).1 then(0,0,5)else aw s)else(0,0,(aw s).2.2):=rfl
 by_cases b:(aw s).2.2=0
 ·have d:=gQ s b;by_cases c:4294967295<(aw s).1
  ·rw[hz,zl b,zl c]at h;simp at h
  rw[hz,zl b,zj c];omega
 rw[hz,zj b]at h;exact absurd h b
def Ip (g B size:Nat)(body:ByteArray)(X:Int×List UInt8)(w:World)(gk:Nat)(v:Value)(wr:World):Prop:=
 ∃(k:Nat) (out:List UInt8) (h' aj:Nat) (f:Int),v= .slice (some ⟨h',0,none⟩) out.length aj/\wr.ownsRow B 5 1 (.slice (some ⟨h',0,none⟩) out.length aj) out.length (cb out)/\iI wr g body k f/\Below B w wr/\
  ((f=0/\k<=body.size/\out.length<=size/\Hid (gK body size gk k out=X)/\body.size-k<gk)\/(Hid (f≠0)/\(f==0)=false/\(f !=0)=true/\Hid (X=(f,[]))))
theorem Fm {g B size:Nat}{body:ByteArray}{X:Int×List UInt8}{w i l:World}{gk k:Nat}{out:List UInt8}{e:Ending}(z:Below B w i)(h:k<body.size)(p:out.length<=size)(hx:gK body size gk k out=X)(C:body.size-k<gk)
 (x:pW g body B B i (bT body size k body[k].toNat out) e l):∃v,e= .returned v/\(∃d n c,v= .slice (some ⟨d,0,none⟩) n c)/\Ip g B size body X w (gk-1) v l:=by
 obtain⟨d,A,u,rfl,y,s,o,r⟩:=x;obtain⟨f,rfl⟩:∃f,gk=f+1:=⟨gk-1,by omega⟩
 refine⟨_,rfl,⟨_,_,_,rfl⟩,u,_,d,A,_,rfl,y,s,z.trans r, ?_⟩;rcases eF (bT body size k body[k].toNat out).1 with⟨b,m,j⟩|⟨b,m,j⟩
 ·have q:=N1 body[k].toNat_lt h p b;have:=o b;subst this;exact .inl ⟨b,by omega,q.2.2,za (Lf h hx b),by simp;omega⟩
 exact .inr ⟨za b,m,j,za (N2 h hx b)⟩
theorem pY {c b:World}{B:Nat}{e:TypeId}{z:Nat}{v:Value}{n:Nat}{xs:List Value}{o:Obj}(h:c.ownsRow B e z v n xs)(d:b=c.alloc o):b.ownsRow B e z v n xs:=d▸h.alloc o
theorem Iq (s:ByteArray)(most:Int)(w:World)(hs:s.size<=9223372036854775807):
 Calls prog 124 #[.string s,.int .i64 most,.pointer none] w fun e w'=>e= .returned (.tuple #[.string ⟨(ba s most).2.toArray⟩,.int .i64 (ba s most).1])/\Below w.heap.size w w':=by
 have C:=fun w=>CW s w hs
 have p:=pX s;have hz:ba s most=if(aB s).2.2≠0 then((aB s).2.2,[])else if most<(aB s).1 then(5,[])else iD (s.extract (aB s).2.1 s.size) (aB s).1:=rfl
 generalize aB s=x at*;obtain⟨n,hd,er⟩:=x;generalize ba s most=y at*;simp only at C hz p;have z:=za C;have l:=za hz;clear C hz;obtain⟨i0,hi,M,Z,R⟩:=yT tH;rcases eF er with⟨q,h1,Y⟩|⟨q,h1,Y⟩
 ·subst q;obtain⟨hn,ai,ae,ah⟩:=p rfl;clear h1 Y p;by_cases h3:most<n
  ·have H:Hid (y=(5,[])):=za (by rw[l.out,zj (by simp),zl h3]);clear l;go_enter ZW,ZN
   go_wp2_with fail
   refine(z.out _).mono ?_;rintro e w' ⟨rfl,rfl⟩;go_wp2;go_ret2
   exact⟨by rw[H.out];rfl,zq _ _⟩
  have H:Hid (y=iD (s.extract hd s.size) n):=za (by rw[l.out,zj (by simp),zj h3]);clear l;have ak:decide (most<(n:Int))=false:=by simp;omega
  by_cases h4:n<=4096;all_goals
   go_enter ZW,ZN
   go_wp2_with fail
   refine(z.out _).mono ?_;rintro e w' ⟨rfl,rfl⟩;go_wp2_with (at_make;(first|refine ZO _ rfl _ _ 31 rfl w.heap.size 5 i0 (.int .u8 0) 1 zx hi M Z .i64 .i64 _ n rfl rfl (by omega) (by rw[R];omega) (by simp only[maxLen];omega) (by omega) ?_|refine ZO _ rfl _ _ 31 rfl w.heap.size 5 i0 (.int .u8 0) 1 zx hi M Z .i64 .i64 _ 4096 rfl rfl (by omega) (by rw[R];omega) (by simp only[maxLen];omega) (by omega) ?_);intro j S N)
   have E:=(zq w.heap.size w).grown N (by omega) (by simp);have hG:=E.size;clear N;go_wp2_with fail
   refine(rk _ j).mono ?_;rintro e G ⟨rfl,m⟩;have K:iI G j.heap.size (s.extract hd s.size) 0 0:=by rw[m];exact af.new j _ _
   have dU:=pY S m;have aM:Below w.heap.size w G:=by rw[m];exact E.alloc (by omega) _
   have NL:j.heap.size<G.heap.size:=by rw[m];simp
   clear m S E;obtain⟨g,I⟩:∃g,g=j.heap.size:=⟨_,rfl⟩
   rw[<-I]at K NL hG⊢;clear I;have D:(s.extract hd s.size).size<=9223372036854775807:=by rw[an _ _ _ (zf _)];omega
   generalize s.extract hd s.size=body at*;have XQ:w.heap.size<=g:=by omega
   go_wp2_with fail
   go_loopg [11] (body.size+1) (fun gk v wr=>Ip g w.heap.size n body y w gk v wr)
   case atStart=>exact⟨0,[],_,_,0,rfl,dU,K,aM,.inl ⟨rfl,by omega,by simp,za H.out.symm,by omega⟩⟩
   case round=>
    obtain⟨k,out,h',aj,f,rfl,O,b,d,⟨rfl,W,aa,U,ad⟩|⟨hf,XP,Xm,X⟩⟩:=hrel
    ·by_cases u:k<body.size
     ·go_wp2_with fail
      refine(bs g body k 0 wr b).mono ?_;rintro e w' ⟨rfl,rfl⟩;go_wp2_with fail
      refine(uY g body k 0 wr b W D).mono ?_;rintro e w3 ⟨rfl,c,rfl⟩;have L:=za (BN g body k (wr.drewN c) (b.drewN c) u D w.heap.size w.heap.size aj h' n out (O.bB c) XQ (zf _) (by have:=d.size;simp<;>omega) (by have:=d.size;simp<;>omega) aa hn);go_wp2_with fail
      refine L.out.mono ?_;intro e h J;obtain⟨v4,rfl,⟨h4,n4,c4,rfl⟩,ab⟩:=Fm (d.bB c) u aa U.out ad J;clear J L;go_wp2;go_roundg (gk-1)
      case measure=>omega
      case rel=>exact ab
     have r:=za (D0 u (f:=gk-1) (x:=y) (by rw[show gk-1+1=gk from by omega];exact U.out));go_wp2_with fail
     refine(bs g body k 0 wr b).mono ?_;rintro e w' ⟨rfl,rfl⟩;go_wp2_with fail
     refine(uY g body k 0 wr b W D).mono ?_;rintro e w3 ⟨rfl,c,rfl⟩;by_cases F:out.length<n
     ·have B:Hid (y=(2,[])):=za (by rw[r.out,zl F]);clear r;go_wp2_with fail
      refine(iu g body k 2 _ (b.drewN c)).mono ?_;rintro e h ⟨rfl,o,A⟩;have i:Below w.heap.size w h:=(d.bB c).trans (A.below (by have:=d.size;simp<;>omega) (by simp;omega));go_wp2_with fail
      refine(bs g body _ 2 h o).mono ?_;rintro e w' ⟨rfl,rfl⟩;go_wp2_with fail
      refine(bs g body _ 2 h o).mono ?_;rintro e w' ⟨rfl,rfl⟩;go_wp2;go_ret2
      exact⟨two B.out,i⟩
     have B:Hid (y=(0,out)):=za (by rw[r.out,zj F]);clear r;have ag:=rV zx yC zO (O.bB c);go_wp2_with fail
     refine(bs g body _ 0 _ (b.drewN c)).mono ?_;rintro e w' ⟨rfl,rfl⟩;go_wp2;go_ret2
     have i:=d.bB c;exact⟨two B.out,i⟩
    go_wp2_with fail
    refine(bs g body k f wr b).mono ?_;rintro e w' ⟨rfl,rfl⟩;by_cases F:out.length<n
    ·go_wp2_with fail
     refine(uZ g body k f 2 wr b XP).mono ?_;rintro e h ⟨rfl,o,A⟩;have i:Below w.heap.size w h:=d.trans (A.below (by have:=d.size;omega) (by simp;omega));go_wp2_with fail
     refine(bs g body _ f h o).mono ?_;rintro e w' ⟨rfl,rfl⟩;go_wp2_with fail
     refine(bs g body _ f h o).mono ?_;rintro e w' ⟨rfl,rfl⟩;go_wp2;go_ret2
     exact⟨two X.out,i⟩
    go_wp2_with fail
    refine(bs g body _ f wr b).mono ?_;rintro e w' ⟨rfl,rfl⟩;go_wp2_with fail
    refine(bs g body _ f wr b).mono ?_;rintro e w' ⟨rfl,rfl⟩;go_wp2;go_ret2
    have i:=d;exact⟨two X.out,i⟩
 have H0:=za q;clear q p;go_enter ZW,ZN
 go_wp2_with fail
 refine(z.out _).mono ?_;rintro e w' ⟨rfl,rfl⟩;go_wp2;go_ret2
 exact⟨by rw[l.out,zl H0.out];rfl,zq _ _⟩
theorem Fo (s:ByteArray)(most:Int)(i:Nat)(w:World)(l:s.size<=9223372036854775807)(hx:(aB s).2.2≠0):
 Calls prog 124 #[.string s,.int .i64 most,.pointer (some ⟨i,0,none⟩)] w fun e w'=>e= .returned (.tuple #[.string ⟨[].toArray⟩,.int .i64 (aB s).2.2])/\w=w':=by
 have c:=fun w=>CW s w l
 have d:=pX s;have hz:ba s most=if(aB s).2.2≠0 then((aB s).2.2,[])else if most<(aB s).1 then(5,[])else iD (s.extract (aB s).2.1 s.size) (aB s).1:=rfl
 generalize aB s=x at*;obtain⟨n,hd,j⟩:=x;generalize ba s most=y at*;dsimp only at*;have h:=za c;clear c hz;rcases eF j with⟨b,k,m⟩|⟨b,k,m⟩
 ·exact absurd b hx
 clear b hx d;go_enter ZW,ZN
 go_wp2_with fail
 refine(h.out _).mono ?_;rintro e w' ⟨rfl,rfl⟩;go_wp2;go_ret2
 exact⟨rfl,rfl⟩
theorem CX (s:ByteArray)(most:Int)(i:Nat)(w:World)(j:s.size<=9223372036854775807)(hx:(aB s).2.2=0)(k:most<(aB s).1):
 Calls prog 124 #[.string s,.int .i64 most,.pointer (some ⟨i,0,none⟩)] w fun e w'=>e= .returned (.tuple #[.string ⟨[].toArray⟩,.int .i64 5])/\w=w':=by
 have b:=fun w=>CW s w j
 have c:=pX s;have hz:ba s most=if(aB s).2.2≠0 then((aB s).2.2,[])else if most<(aB s).1 then(5,[])else iD (s.extract (aB s).2.1 s.size) (aB s).1:=rfl
 generalize aB s=x at*;obtain⟨n,hd,l⟩:=x;generalize ba s most=y at*;dsimp only at*;have h:=za b;have d:=za hz;clear b hz;subst hx;clear c d;go_enter ZW,ZN
 go_wp2_with fail
 refine(h.out _).mono ?_;rintro e w' ⟨rfl,rfl⟩;go_wp2;go_ret2
 exact⟨rfl,rfl⟩
theorem Ir (s:ByteArray)(most:Int)(l a u t p:Nat)(z:World)(hs:s.size<=9223372036854775807)(hM:s0 z l a u t p)(ha:a<=9223372036854775807)(hx:(aB s).2.2=0)(hm:((aB s).1:Int)<=most)(L:u+(aB s).1<=a)(S:t+(aB s).1<=9223372036854775807):
 Calls prog 124 #[.string s,.int .i64 most,.pointer (some ⟨l,0,none⟩)] z fun e w'=>e= .returned (.tuple #[.string ⟨(ba s most).2.toArray⟩,.int .i64 (ba s most).1])/\s0 w' l a (u+(aB s).1) (t+(aB s).1) (max p (u+(aB s).1))/\ae [l] z w':=by
 have hl:=fun w=>CW s w hs
 have X:=pX s;have hz:ba s most=if(aB s).2.2≠0 then((aB s).2.2,[])else if most<(aB s).1 then(5,[])else iD (s.extract (aB s).2.1 s.size) (aB s).1:=rfl
 generalize aB s=x at*;obtain⟨n,hd,er⟩:=x;generalize ba s most=y at*;dsimp only at*;have Hl:=za hl;have N:=za hz;clear hl hz;subst hx;obtain⟨hn,ak,ag,ai⟩:=X rfl;have Hy:Hid (y=iD (s.extract hd s.size) n):=za (by rw[N.out,zj (by simp),zj (by omega)]);clear X N;obtain⟨i0,hi,O,cg,W⟩:=yT tH;have al:decide (most<(n:Int))=false:=by simp;omega
 have Ht:=za (pS l a u t p n z hM ha L S);clear L S;generalize u+n=u2 at*;generalize t+n=t2 at*;generalize max p u2=p2 at*;by_cases h4:n<=4096;all_goals
  go_enter ZW,ZN
  go_wp2_with fail
  refine(Hl.out _).mono ?_;rintro e w' ⟨rfl,rfl⟩;go_wp2_with fail
  refine Ht.out.mono ?_;rintro e w ⟨rfl,r,q⟩;go_wp2_with (at_make;(first|refine ZO _ rfl _ _ 31 rfl w.heap.size 5 i0 (.int .u8 0) 1 zx hi O cg .i64 .i64 _ n rfl rfl (by omega) (by rw[W];omega) (by simp only[maxLen];omega) (by omega) ?_|refine ZO _ rfl _ _ 31 rfl w.heap.size 5 i0 (.int .u8 0) 1 zx hi O cg .i64 .i64 _ 4096 rfl rfl (by omega) (by rw[W];omega) (by simp only[maxLen];omega) (by omega) ?_);intro j Y R)
  have F:=(zq w.heap.size w).grown R (by omega) (by simp);have hG:=F.size;clear R;go_wp2_with fail
  refine(rk _ j).mono ?_;rintro e H ⟨rfl,m⟩;have K:iI H j.heap.size (s.extract hd s.size) 0 0:=by rw[m];exact af.new j _ _
  have dU:=pY Y m;have aM:Below w.heap.size w H:=by rw[m];exact F.alloc (by omega) _
  have NL:j.heap.size<H.heap.size:=by rw[m];simp
  clear m Y F;obtain⟨g,I⟩:∃g,g=j.heap.size:=⟨_,rfl⟩
  rw[<-I]at K NL hG⊢;clear I;have E:(s.extract hd s.size).size<=9223372036854775807:=by rw[an _ _ _ (zf _)];omega
  generalize s.extract hd s.size=body at*;have XQ:w.heap.size<=g:=by omega
  go_wp2_with fail
  go_loopg [11] (body.size+1) (fun gk v wr=>Ip g w.heap.size n body y w gk v wr)
  case atStart=>exact⟨0,[],_,_,0,rfl,dU,K,aM,.inl ⟨rfl,by omega,by simp,za Hy.out.symm,by omega⟩⟩
  case round=>
   obtain⟨k,out,h',aj,f,rfl,U,c,h,⟨rfl,hk,aa,Z,ad⟩|⟨hf,XP,Xm,hX⟩⟩:=hrel
   ·by_cases B:k<body.size
    ·go_wp2_with fail
     refine(bs g body k 0 wr c).mono ?_;rintro e w' ⟨rfl,rfl⟩;go_wp2_with fail
     refine(uY g body k 0 wr c hk E).mono ?_;rintro e w3 ⟨rfl,d,rfl⟩;have M:=za (BN g body k (wr.drewN d) (c.drewN d) B E w.heap.size w.heap.size aj h' n out (U.bB d) XQ (zf _) (by have:=h.size;simp<;>omega) (by have:=h.size;simp<;>omega) aa hn);go_wp2_with fail
     refine M.out.mono ?_;intro e i J;obtain⟨v4,rfl,⟨h4,n4,c4,rfl⟩,ab⟩:=Fm (h.bB d) B aa Z.out ad J;clear J M;go_wp2;go_roundg (gk-1)
     case measure=>omega
     case rel=>exact ab
    have A:=za (D0 B (f:=gk-1) (x:=y) (by rw[show gk-1+1=gk from by omega];exact Z.out));go_wp2_with fail
    refine(bs g body k 0 wr c).mono ?_;rintro e w' ⟨rfl,rfl⟩;go_wp2_with fail
    refine(uY g body k 0 wr c hk E).mono ?_;rintro e w3 ⟨rfl,d,rfl⟩;by_cases G:out.length<n
    ·have D:Hid (y=(2,[])):=za (by rw[A.out,zl G]);clear A;go_wp2_with fail
     refine(iu g body k 2 _ (c.drewN d)).mono ?_;rintro e i ⟨rfl,o,C⟩;have b:Below w.heap.size w i:=(h.bB d).trans (C.below (by have:=h.size;simp<;>omega) (by simp;omega));go_wp2_with fail
     refine(bs g body _ 2 i o).mono ?_;rintro e w' ⟨rfl,rfl⟩;go_wp2_with fail
     refine(bs g body _ 2 i o).mono ?_;rintro e w' ⟨rfl,rfl⟩;go_wp2;go_ret2
     exact⟨two D.out,r.only (ae.ag b (zf _)) (by simp),q.trans' (ae.ag b (zf _)) (by simp)⟩
    have D:Hid (y=(0,out)):=za (by rw[A.out,zj G]);clear A;have ah:=rV zx yC zO (U.bB d);go_wp2_with fail
    refine(bs g body _ 0 _ (c.drewN d)).mono ?_;rintro e w' ⟨rfl,rfl⟩;go_wp2;go_ret2
    have b:=h.bB d;exact⟨two D.out,r.only (ae.ag b (zf _)) (by simp),q.trans' (ae.ag b (zf _)) (by simp)⟩
   go_wp2_with fail
   refine(bs g body k f wr c).mono ?_;rintro e w' ⟨rfl,rfl⟩;by_cases G:out.length<n
   ·go_wp2_with fail
    refine(uZ g body k f 2 wr c XP).mono ?_;rintro e i ⟨rfl,o,C⟩;have b:Below w.heap.size w i:=h.trans (C.below (by have:=h.size;omega) (by simp;omega));go_wp2_with fail
    refine(bs g body _ f i o).mono ?_;rintro e w' ⟨rfl,rfl⟩;go_wp2_with fail
    refine(bs g body _ f i o).mono ?_;rintro e w' ⟨rfl,rfl⟩;go_wp2;go_ret2
    exact⟨two hX.out,r.only (ae.ag b (zf _)) (by simp),q.trans' (ae.ag b (zf _)) (by simp)⟩
   go_wp2_with fail
   refine(bs g body _ f wr c).mono ?_;rintro e w' ⟨rfl,rfl⟩;go_wp2_with fail
   refine(bs g body _ f wr c).mono ?_;rintro e w' ⟨rfl,rfl⟩;go_wp2;go_ret2
   have b:=h;exact⟨two hX.out,r.only (ae.ag b (zf _)) (by simp),q.trans' (ae.ag b (zf _)) (by simp)⟩
