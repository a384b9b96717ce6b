/- squeeze.Pack tells 'pack'. -/
import Derived.Test.YtdbmifjankgfpaaGreatDoorKA18
import Derived.Deep.DeepCutAuto
set_option linter.all false
set_option maxRecDepth 100000
set_option maxHeartbeats 4000000
open Go.Proofs.Tryz
namespace Go.Proofs.YtdbmifjankgfpaaGreatDoor
open Go.RowKit Go.Maps
variable {w wr w':World}{B i d f p n k j base h cap g:Nat}{s:ByteArray}{D:DataW Unit}{l L X a o:List UInt8}{v:Value}{e:TypeId}
def yc:=@cell_of_one
def yE:=@underlying3
def xK:=@Lib.bytesWorld_size
def xR:=@Lib.wpList_append_own_string
def Ze:=@wpList_lookup_own_ok_int
def Zy:=@ntmps139
def Zz:=@ntmps117
def ZI:=@func139
def ZJ:=@func117
def ZN:=@underlying182
structure PW (s:ByteArray)(w:World)(g0 B mB kU:Nat)(D:DataW Unit)(wr:World):Prop where
 below:Below w.heap.size w wr
 cells:∀k,k<s.size->wr.cell? ⟨g0,k,none⟩=some (.int .u8 (s.data.toList.getD k 0).toNat)
 Yp:g0<B
 hBm:B<=mB
 VQ:w.heap.size<=B
 map:wr.ownsMap prog 184 (plainElem prog 3) mB kU D
theorem PW.lt {b c:Nat}(h:PW s w d B b c D wr):b<wr.heap.size:=h.map.lt
theorem PW.kept {c b:Nat}(h:PW s w c B b i D wr)(d:Kept 5 B wr w'):PW s w c B b i D w':=by
 refine⟨h.below.trans (d.below.mono h.VQ),fun k m=>(d.below.cell (p:=⟨c,k,none⟩) h.Yp).trans (h.cells k m),h.Yp,h.hBm,h.VQ, ?_⟩;obtain⟨es,clock,n,F,l,j⟩:=h.map;exact⟨es,clock,d.other b _ n (by intro q o e;cases e),F,l,j⟩
theorem PW.later {c b:Nat}(h:PW s w c B b d D wr)(e:Below wr.heap.size wr w'):PW s w c B b d D w':=
 h.kept (Kept.ah e (zg _) (by have:=h.lt;have:=h.hBm;omega))
theorem PW.lj {c o e:Nat}{j:DataW Unit}(h:PW s w d B c o D wr)(l:w'.ownsMap prog 184 (plainElem prog 3) c e j)(b:wr.grownBy w' (some c)):PW s w d B c e j w':=by
 have q:=h.lt;have p:=h.Yp;have m:=h.hBm;have n:=h.VQ;refine⟨h.below.trans ⟨b.os,b.tape,b.output,b.size,fun k i=>b.block k (by omega) (by simp;omega)⟩,fun k i=>(zG (a:=⟨d,k,none⟩) (b.block d (by omega) (by simp;omega))).trans (h.cells k i),p,m,n,l⟩
theorem PW.buf {c:Nat}(h:PW s w j B c n D wr)(p:bF wr B 5 v l)(m:wr.grownBy w' (some c)):bF w' B 5 v l:=by
 obtain⟨es,clock,d,_⟩:=h.map;obtain⟨A,cap,i,k,o,b⟩:=p;refine⟨A,cap,i,k,o, ?_⟩;rcases b with b|⟨g,cur,fr,hA,hgb,hh,r⟩
 ·exact .inl b
 refine .inr ⟨g,cur,fr,hA,hgb,(m.block g (yg.1 hh).1 ?_).trans hh,r⟩;intro e;injection e with e;subst e;rw[d]at hh;cases hh
theorem PW.four {b l:Nat}(h:PW s w b B k l D wr)(hi:i+4<=s.size):∃d e c j:Nat,wr.cell? ⟨b,i,none⟩=some (.int .u8 d)/\wr.cell? ⟨b,i+1,none⟩=some (.int .u8 e)/\wr.cell? ⟨b,i+2,none⟩=some (.int .u8 c)/\wr.cell? ⟨b,i+3,none⟩=some (.int .u8 j)/\
 keyOf prog 184 (.agg #[.int .u8 d,.int .u8 e,.int .u8 c,.int .u8 j])=some (gl s.data.toList i):=
 ⟨_,_,_,_,h.cells i (by omega),h.cells (i+1) (by omega),h.cells (i+2) (by omega),h.cells (i+3) (by omega),rT s.data.toList i⟩
def PAt (s:ByteArray)(w:World)(g0 B mB:Nat)(v5 v7 v8:Value)(wr:World):Prop:=
 ∃(i p f kU:Nat) (A:Option Addr) (n cap:Nat) (l:List UInt8) (D:DataW Unit),v5= .slice A n cap/\v7= .int .i64 p/\v8= .int .i64 i/\p<=i/\i<=s.size/\kU<=i/\s.size-i<f/\
  bF wr B 5 (.slice A n cap) l/\l++pk s.data.toList f p i=pack s.data.toList/\PW s w g0 B mB kU D wr/\MI s.data.toList D i
def PIn (s:ByteArray)(w:World)(g0 B mB i sz:Nat)(A:Option Addr)(n cap:Nat)(l:List UInt8)(v8 N0:Value)(wr:World):Prop:=
 ∃(c kU:Nat) (D:DataW Unit),N0= .int .i64 c/\v8= .int .i64 ((i+c:Nat):Int)/\c<=sz/\kU<=i+c/\bF wr B 5 (.slice A n cap) l/\PW s w g0 B mB kU D wr/\MI s.data.toList D (i+c)
theorem KH (h:l++pk L f p i=X)(c:L.length-i<f)(hi:i<L.length)(b:Ho L i i=none):l++pk L (f-1) p (i+1)=X:=by
 obtain⟨g,rfl⟩:∃g,f=g+1:=⟨f-1,by omega⟩
 unfold pk at h;rw[zi hi,b]at h;exact h
theorem TY (h:l++pk L f p i=X)(e:L.length-i<f)(hi:i<L.length)(c:Ho L i i=some j)(d:a=(L.take i).drop p)(b:mt L j i 64=n):((l++ir a)++kY n (i-j))++pk L (f-1) (i+n) (i+n)=X:=by
 obtain⟨g,rfl⟩:∃g,f=g+1:=⟨f-1,by omega⟩
 unfold pk at h;rw[zi hi,c]at h;subst b;subst d;rw[<-h];simp
theorem Xg (h:l++pk L f p i=X)(c:L.length-i<f)(hi:¬i<L.length)(b:a=L.drop p):l++ir a=X:=by
 obtain⟨g,rfl⟩:∃g,f=g+1:=⟨f-1,by omega⟩
 unfold pk at h;rw[zh hi]at h;subst b;exact h
theorem abQ (h:l++pk L f p i=pack L)(b:L.length<=65536):l.length<=70000:=by
 have c:=sP L b;have:=xo List.length h;rw[zl]at this;omega
theorem TZ (base:Nat)(v:Value)(l:List UInt8)(n d:Nat)(b:Int)(w:World)(h:bF w base 5 v l)(j:base<=w.heap.size)(c:l.length<=1000000)(k:4<=n)(e:n<=64)(hd:d<65536)(i:b=d):
 Calls prog 136 #[v,.int .i64 n,.int .i64 b] w (P6 base w (l++kY n d)):=by
 subst i;exact TU base v l n d w h j c k e hd
theorem Qa {a b:Int}(h:(DataW.lit (.int .i64 a):DataW Unit)= .lit (.int .i64 b)):a=b:=by
 injection h with h;injection h
theorem Fu (w:World)(a:Addr)(c:Nat):(Instr.arrayAt 184 (.slice (some a) 4 c)).run prog w= .ok (.pointer (some a)) w:=by
 simp[Instr.arrayAt,xT ZM]
theorem Xh (s:ByteArray)(w:World)(hs:s.size<=65536):
 Calls prog 116 #[.string s] w fun e w'=>e= .returned (.tuple #[.string ⟨(pack s.data.toList).toArray⟩,.int .i64 0])/\Below w.heap.size w w':=by
 have kc:=fun(w:World) (s:ByteArray)=>Lib.run_convert_string_bytes (P:=prog) w 9 31 5 s zN zt yw
 have Rr:= @run_makeMap prog;have kA:=Fu;have H1:=za (fun w=>vB s.size w (by omega));go_enter func116,ntmps116
 go_wp2_with fail
 refine(H1.out _).mono ?_;rintro e b ⟨rfl,h⟩;have cr:=h.size;rw[xK]at cr;have Rv:∀k,k<s.size->b.cell? ⟨w.heap.size,k,none⟩=some (.int .u8 (s.data.toList.getD k 0).toNat):=fun k hk=>(h.cell (p:=⟨w.heap.size,k,none⟩) (by rw[xK];simp)).trans (Lib.bytesWorld_cell w _ s k hk)
 have VV:Below w.heap.size w b:=(Lib.bytesWorld_below w 5 s).trans (h.mono (by rw[xK];omega));have hT:(⟨(aR s.size).toArray⟩:ByteArray).size=(aR s.size).length:=bP _;have VM:=bA 3 s.size (by omega) (by omega);have Yn:=bF.conv b b.heap.size 5 ⟨(aR s.size).toArray⟩ (zg _) (by omega);have so:s.size<=grownCap w s.size 0 5:=grownCap_ge _ _ _ _;have aA:grownCap w s.size 0 5<=9223372036854775807:=by simpa[maxLen]using ZL w s.size 0 5 (by simp[maxLen];omega)
 rw[hT]at Yn;have ah:PW s w w.heap.size b.heap.size (Lib.bytesWorld b 5 ⟨(aR s.size).toArray⟩).heap.size 0 (.map []) ((Lib.bytesWorld b 5 ⟨(aR s.size).toArray⟩).alloc (.map #[] 0)):=by
  have uw:=Lib.bytesWorld_below b 5 ⟨(aR s.size).toArray⟩;refine⟨(VV.trans (uw.mono (by omega))).alloc (by rw[xK];omega) _,fun k hk=> ?_,by omega,by rw[xK];omega,by omega,World.ownsMap_made _ _ _ _⟩;rw[zA _ _ _ (by rw[xK];simp;omega),uw.cell (p:=⟨w.heap.size,k,none⟩) (by simp;omega)];exact Rv k hk
 have VS:=Yn.alloc (.map #[] 0);have kg:=za VS;have av:=za ah;clear ah VS Yn Rv hT h VV;go_wp2;generalize grownCap w s.size 0 5=DB at*;generalize (Lib.bytesWorld b 5 ⟨(aR s.size).toArray⟩).heap.size=mB at*;generalize (Lib.bytesWorld b 5 ⟨(aR s.size).toArray⟩).alloc (.map #[] 0)=w2 at*;generalize grownCap b (aR s.size).length 0 5=Bh at*;go_loopw [5,7,8] (fun v5 v7 r wr=>PAt s w w.heap.size b.heap.size mB v5 v7 r wr) (fun _ _ r _=>s.size-(intOf r).toNat)
 case atStart=>exact⟨0,0,s.size+1,0,_,_,_,_,_,rfl,rfl,rfl,by omega,by omega,by omega,by omega,kg.out,by simp[pack,aa],av.out,MI.start _⟩
 case round=>
  obtain⟨i,p,f,L,A,n,cap,l,ab,rfl,rfl,rfl,aB,hi,Dw,hf,H,hl,y,ag⟩:=hrel;have S:=za ag;have HL:=za hl;have qS:=y.lt;have aD:=y.hBm;have ax:=abQ hl (by simpa using hs);have F:=za hf;clear ag hl;by_cases O:i<s.size
  ·obtain⟨wo,ao⟩:∃wo:World,wo=wr:=⟨_,rfl⟩
   subst ao;by_cases W:i+4<=s.size
   ·have D:=PG s.data.toList i (by simpa using W) i (zg _);have Z:=S.out.2 i (by simpa using W);obtain⟨c0,c1,K,c3,M,U,q2,X,C⟩:=y.four W;have aw:¬DB=i:=by omega
    have VJ:=za C;have R:=y.map;clear C;cases hlg:jR s.data.toList i i with
    |none=>
     have Yl:=Z.2 hlg;rw[hlg]at D;have J:=za D;clear Z hlg D;go_wp2_with (at_lookup;refine Ze _ rfl _ _ 182 rfl 184 3 .i64 rS ZN yE (KG _) mB L _ rfl R _ _ rfl VJ.out ?_;intro cj N Ct)
     clear N Ct M U q2 X R;go_loopw [8,65] (fun r q wr=>PIn s w w.heap.size b.heap.size mB i 1 A n cap l r q wr) (fun _ q _=>1-(intOf q).toNat)
     case atStart=>exact⟨0,L,ab,rfl,rfl,by omega,by omega,H,y,S.out⟩
     case round=>
      obtain⟨c,o,E,rfl,rfl,hc,VT,u,d,z⟩:=hrel;have x:=za z;clear z;by_cases SO:c<1
      ·by_cases B:i+c+4<=s.size
       ·obtain⟨c0,c1,K,c3,M,U,q2,X,C⟩:=d.four B;have HK:=za C;have bH:=d.map;clear C;go_wp2_with (at_mapUpdate;refine wpList_mapUpdate_own _ rfl _ _ _ 182 rfl 184 3 rS ZN _ mB o _ rfl bH (by unfold maxLen;omega) _ _ _ rfl rfl HK.out _ [] (plainElem_int yE (WalkArith.wf_i64 (by omega))) ?_;intro w5 Ru I)
        go_roundw
        case rel=>exact⟨c+1,o+1,_,by go_num,by go_num,by omega,by omega,d.buf u I,d.lj Ru I,x.out.put (by simpa using B)⟩
        case measure=>simp[intOf];omega
       omega
      go_wp2;go_roundw
      case rel=>exact⟨i+1,p,f-1,o,A,n,cap,l,E,rfl,rfl,by go_num,by omega,by omega,by omega,by have:=F.out;omega,u,KH HL.out (by simpa using F.out) (by simpa using O) J.out,d,by rw[show i+1=i+c from by omega];exact x.out⟩
      case measure=>simp[intOf];omega
    |some j=>
     have uu:=PH _ _ _ _ hlg;obtain⟨Yl,Rt⟩:=Z.1 j hlg;have qT:=za Rt;rw[hlg]at D;have J:=za D;have al:=(pT _ _ _ _ D).2;have Rr:=BK s.data.toList 64 j i;have aq:=Rr.2 (by simpa using hi);rw[aa]at aq;have au:=Rr.1;have Ym:=za (fun w=>TX s j i w uu hi hs);generalize VU:mt s.data.toList j i 64=m at*;have rp:=za VU;have VR:(s.extract p i).size<=65536:=by rw[an _ _ _ hi];omega
     have ai:=za (TY HL.out (by simpa using F.out) (by simpa using O) J.out (ar s p i) rp.out);have az:(l++ir (s.extract p i).data.toList).length<=200000:=by
      have:=kr (s.extract p i).data.toList (by rw[aa];exact VR);rw[aa]at this;have h3:(if(s.extract p i).size=0 then 0 else if(s.extract p i).size<=60 then 1 else if(s.extract p i).size<=256 then 2 else 3)<=3:=by split<;>(try split)<;>(try split)<;>omega
      rw[zl];omega
     clear Z hlg D Rt Rr VU;go_wp2_with (at_lookup;refine Ze _ rfl _ _ 182 rfl 184 3 .i64 rS ZN yE (KG _) mB L _ rfl R _ _ rfl VJ.out ?_;intro cj N Ct;obtain rfl:=Qa (N.symm.trans qT.out);clear N Ct)
     refine(KE b.heap.size _ l (s.extract p i) _ H (by omega) (by omega) VR).mono ?_;rintro e w3 ⟨A1,n1,ay,rfl,h,G⟩;have aC:=G.size;have af:=y.kept G;go_wp2_with fail
     refine(Ym.out _).mono ?_;rintro e w4 ⟨rfl,Y⟩;have N1:=Y.size;have ae:=af.later Y;have ad:=h.below Y;go_wp2_with fail
     refine(TZ b.heap.size _ _ m (i-j) ((i:Int)-j) _ ad (by omega) (by omega) al au (by omega) (by omega)).mono ?_;rintro e w5 ⟨A2,n2,K,rfl,aO,fz⟩;have ak:=ae.kept fz;clear h ad af ae y H M U q2 X R G fz Y;go_wp2;go_loopw [8,65] (fun r q wr=>PIn s w w.heap.size b.heap.size mB i m A2 n2 K _ r q wr) (fun _ q _=>m-(intOf q).toNat)
     case atStart=>exact⟨0,L,ab,rfl,rfl,by omega,by omega,aO,ak,S.out⟩
     case round=>
      obtain⟨c,o,E,rfl,rfl,hc,VT,u,d,z⟩:=hrel;have x:=za z;clear z;by_cases SO:c<m
      ·by_cases B:i+c+4<=s.size
       ·obtain⟨c0,c1,K,c3,M,U,q2,X,C⟩:=d.four B;have HK:=za C;have bH:=d.map;clear C;go_wp2_with (at_mapUpdate;refine wpList_mapUpdate_own _ rfl _ _ _ 182 rfl 184 3 rS ZN _ mB o _ rfl bH (by unfold maxLen;omega) _ _ _ rfl rfl HK.out _ [] (plainElem_int yE (WalkArith.wf_i64 (by omega))) ?_;intro w5 Ru I)
        go_roundw
        case rel=>exact⟨c+1,o+1,_,by go_num,by go_num,by omega,by omega,d.buf u I,d.lj Ru I,x.out.put (by simpa using B)⟩
        case measure=>simp[intOf];omega
       go_wp2;go_roundw
       case rel=>exact⟨c+1,o,E,by go_num,by go_num,by omega,by omega,u,d,x.out.skip (by simpa using B)⟩
       case measure=>simp[intOf];omega
      go_wp2;go_roundw
      case rel=>exact⟨i+m,i+m,f-1,o,A2,n2,K,_,E,rfl,by go_num,by go_num,by omega,by omega,by omega,by have:=F.out;omega,u,ai.out,d,by rw[show i+m=i+c from by omega];exact x.out⟩
      case measure=>simp[intOf];omega
   have J:=za (vx s.data.toList i (by simpa using hi) (by simpa using W) i (zg _));go_wp2;go_loopw [8,65] (fun r q wr=>PIn s w w.heap.size b.heap.size mB i 1 A n cap l r q wr) (fun _ q _=>1-(intOf q).toNat)
   case atStart=>exact⟨0,L,ab,rfl,rfl,by omega,by omega,H,y,S.out⟩
   case round=>
    obtain⟨c,o,E,rfl,rfl,hc,VT,u,d,z⟩:=hrel;have x:=za z;have B:¬i+c+4<=s.size:=by omega
    clear z;by_cases SO:c<1
    ·go_wp2;go_roundw
     case rel=>exact⟨c+1,o,E,by go_num,by go_num,by omega,by omega,u,d,x.out.skip (by simpa using B)⟩
     case measure=>simp[intOf];omega
    go_wp2;go_roundw
    case rel=>exact⟨i+1,p,f-1,o,A,n,cap,l,E,rfl,rfl,by go_num,by omega,by omega,by omega,by have:=F.out;omega,u,KH HL.out (by simpa using F.out) (by simpa using O) J.out,d,by rw[show i+1=i+c from by omega];exact x.out⟩
    case measure=>simp[intOf];omega
  have HE:=za (Xg HL.out (by simpa using F.out) (by simpa using O) (show(s.extract p s.size).data.toList=s.data.toList.drop p by rw[ar,cT]));have aj:(s.extract p s.size).size<=65536:=by rw[an _ _ _ (zg _)];omega
  go_wp2_with fail
  refine(KE b.heap.size _ l (s.extract p s.size) _ H (by omega) (by omega) aj).mono ?_;rintro e w3 ⟨A1,n1,c1,rfl,h,G⟩;rw[HE.out]at h;have N2:=h.Ex (P:=prog) zt yw zN;have HB:=za ((y.kept G).below);clear h G;go_wp2;go_ret2
  exact⟨rfl,HB.out⟩
open Go.RowKit
theorem uk :(prog.info? 5).map (fun i=>(i.zero,i.size,i.bytes))=some (some (.int .u8 0),1,1):=by kernel_rfl
theorem II (g bx:Nat)(s:ByteArray)(k n:Nat)(w:World)(h:ji w g s k 0)(hx:w.cell? ⟨bx,0,none⟩=some (.pointer (some ⟨g,0,none⟩)))(j:s.size<=9223372036854775807)(c:k+n<=s.size)(x:1<=n)(u:n<=4):
 Calls prog 164 #[.int .i64 n,.pointer (some ⟨bx,0,none⟩)] w fun e w'=>e= .returned (.int .i64 (dh (s.extract k (k+n)).data.toList))/\ji w' g s (k+n) 0/\ae [g] w w':=by
 have d:=eH g s k n w h j c;have hz:(s.extract k (k+n)).size=n:=by rw[an _ _ _ c];omega
 have b:=fun w=>eo (s.extract k (k+n)) w (by omega) (by omega)
 have q:=jK (s.extract k (k+n)).data.toList;have o:2^(8*(s.extract k (k+n)).data.toList.length)<=2^32:=yu (by omega) (by rw[aa,hz];omega);have r:dh (s.extract k (k+n)).data.toList<=4294967295:=by omega
 have l:=za d;have p:=za b;clear q o hz d b h;generalize dh (s.extract k (k+n)).data.toList=N at*;go_enter func164,ntmps164
 go_wp2_with fail
 refine l.out.mono ?_;rintro e w' ⟨rfl,i,m⟩;go_wp2_with fail
 refine(p.out _).mono ?_;rintro e y ⟨rfl,rfl⟩;go_wp2;go_ret;exact⟨rfl,i,m⟩
theorem jz (g bx:Nat)(s:ByteArray)(k n:Nat)(w:World)(h:ji w g s k 0)(hx:w.cell? ⟨bx,0,none⟩=some (.pointer (some ⟨g,0,none⟩)))(j:k<=s.size)(c:s.size<=9223372036854775807)(l:s.size<k+n)(m:n<=4):
 Calls prog 164 #[.int .i64 n,.pointer (some ⟨bx,0,none⟩)] w fun e w'=>e= .returned (.int .i64 0)/\ji w' g s k 2/\ae [g] w w':=by
 have i:=za (gA g s k n w h j c l (by omega));clear h;go_enter func164,ntmps164
 go_wp2_with fail
 refine i.out.mono ?_;rintro e w' ⟨rfl,b,d⟩;go_wp2_with fail
 refine(nB _ _ rfl).mono ?_;rintro e o ⟨rfl,rfl⟩;go_wp2;go_ret;exact⟨rfl,b,d⟩
theorem Xi (b:Nat)(c:b<256):bits .and .u8 (b:Int) 3=((b%4:Nat):Int):=by
 have:=u8_and_nat b 3 c (by omega);rw[nat_mask2]at this;exact this
theorem Fv (g bx:Nat)(s:ByteArray)(k n N:Nat)(w:World)(h:ji w g s k 0)(hx:w.cell? ⟨bx,0,none⟩=some (.pointer (some ⟨g,0,none⟩)))(c:s.size<=9223372036854775807)(j:k+n<=s.size)(d:1<=n)(b:n<=4)(i:dh (s.extract k (k+n)).data.toList=N):
 Calls prog 164 #[.int .i64 n,.pointer (some ⟨bx,0,none⟩)] w fun e w'=>e= .returned (.int .i64 N)/\ji w' g s (k+n) 0/\ae [g] w w':=by
 subst i;exact II g bx s k n w h hx c j d b
theorem KI (s:ByteArray)(k b:Nat)(c:b<256)(h:k+bh b<=s.size):iQ s k b<=4294967295:=by
 have e:=jK (s.extract (k+1) (k+bh b)).data.toList;have i:=Bw b c;have d:2^(8*(s.extract (k+1) (k+bh b)).data.toList.length)<=2^32:=yu (by omega) (by rw[aa,an _ _ _ h];omega);unfold iQ;omega
theorem MW (b n N c:Nat)(h:b<256)(i:b%4≠0)(e:cR b N=n)(d:kh b N=c):
 (bits .and .u8 (b:Int) 3=1/\Hid (bh b=2)/\Hid (4+(b:Int)/4%8=n)/\Hid ((b:Int)/4/8*256+N=c))\/
 (bits .and .u8 (b:Int) 3=2/\Hid (bh b=3)/\Hid ((b:Int)/4+1=n)/\Hid ((N:Int)=c))\/
 (bits .and .u8 (b:Int) 3=3/\Hid (bh b=5)/\Hid ((b:Int)/4+1=n)/\Hid ((N:Int)=c)):=by
 rw[Xi b h];rcases(show b%4=1\/b%4=2\/b%4=3 from by omega)with hm|hm|hm
 ·refine .inl ⟨by rw[hm];rfl,za (by simp[bh,hm]),za ?_,za ?_⟩
  ·simp[cR,hm]at e;omega
  simp[kh,hm]at d;omega
 ·refine .inr (.inl ⟨by rw[hm];rfl,za (by simp[bh,hm]),za ?_,za ?_⟩)
  ·simp[cR,hm]at e;omega
  simp[kh,hm]at d;omega
 refine .inr (.inr ⟨by rw[hm];rfl,za (by simp[bh,hm]),za ?_,za ?_⟩)
 ·simp[cR,hm]at e;omega
 simp[kh,hm]at d;omega
theorem vM (o:List UInt8)(d q:Nat)(h:d+q<=o.length):(cb ((o.drop d).take q)).length=q*1:=by
 rw[bj,zV,zK];omega
theorem vN (b:w.ownsRow base e 1 (.slice (some ⟨h,0,none⟩) o.length cap) o.length (cb o))(d q:Nat)(hd:d+q<=o.length):
 ∀j u,(cb ((o.drop d).take q))[j]?=some u->w.cell? ((⟨h,d,none⟩:Addr).add j)=some u:=by
 intro j u hu;have i:j<q:=by
  have:=(Zc.1 hu).1;rw[vM o d q hd]at this;omega
 have c:(⟨h,d,none⟩:Addr).add j=⟨h,d+j,none⟩:=by
  unfold Addr.add;split<;>simp_all
 rw[c,b.cellAt (d+j) (by omega),<-hu,Ev,Ev,yO i,xx]
theorem vO {w3:World}{c b m q size:Nat}{x:List UInt8}(e:wr.ownsRow base 5 1 (.slice (some ⟨h,0,none⟩) o.length cap) o.length (cb o))
 (n:w3.ownsRow base 5 1 (.slice (some ⟨c,0,none⟩) (o.length+q) d) (o.length+q) (cb o++cb ((o.drop (o.length-b)).take q)))
 (l:wr.grownBy w3 (Value.slice (some ⟨h,0,none⟩) o.length cap).ownBlock) (j:ji wr g s k 0) (u:Below B w wr) (y:B<=wr.heap.size) (C:B<=base)
 (r:tY o b m=x) (z:b<=o.length) (D:q<=m) (p:q<=b) (A:o.length+m<=size):
 Value.slice (some ⟨c,0,none⟩) (o.length+q) d= .slice (some ⟨c,0,none⟩) (o++(o.drop (o.length-b)).take q).length d/\
 w3.ownsRow base 5 1 (.slice (some ⟨c,0,none⟩) (o++(o.drop (o.length-b)).take q).length d) (o++(o.drop (o.length-b)).take q).length (cb (o++(o.drop (o.length-b)).take q))/\
 ji w3 g s k 0/\Below B w w3/\tY (o++(o.drop (o.length-b)).take q) b (m-q)=x/\b<=(o++(o.drop (o.length-b)).take q).length/\(o++(o.drop (o.length-b)).take q).length+(m-q)<=size:=by
 have i:(o++(o.drop (o.length-b)).take q).length=o.length+q:=by
  rw[zl,zV,zK];omega
 have E:=rF e;refine⟨by rw[i],by rw[i,gE];exact n, ?_, ?_, ?_,by omega,by omega⟩
 ·exact j.only (ae.fU l) (by simp[Value.ownBlock];exact(cy e j (by decide)).symm)
 ·exact u.grown l y (by simp[Value.ownBlock];omega)
 rw[<-LU o b q p z,<-J6,show q+(m-q)=m from by omega];exact r
theorem MZ (b n size len:Nat)(c:len<=size):
 (((b=0\/len<b)\/size-len<n)/\((b:Int)==0)=true)\/(((b=0\/len<b)\/size-len<n)/\((b:Int)==0)=false/\len<b)\/
 (((b=0\/len<b)\/size-len<n)/\((b:Int)==0)=false/\b<=len/\(size:Int)-len<n)\/((¬((b=0\/len<b)\/size-len<n))/\((b:Int)==0)=false/\b<=len/\(n:Int)<=size-len/\decide (len<b)=false/\decide ((size:Int)-len<n)=false):=by
 simp only[yS,zo,ne_eq,xj];omega
def qv (g:Nat)(s:ByteArray)(B base:Nat)(w:World)(x:Int×Nat×List UInt8)(e:Ending)(w':World):Prop:=
 ∃h' aq k',e= .returned (.slice (some ⟨h',0,none⟩) x.2.2.length aq)/\w'.ownsRow base 5 1 (.slice (some ⟨h',0,none⟩) x.2.2.length aq) x.2.2.length (cb x.2.2)/\
  ji w' g s k' x.1/\(x.1=0->k'=x.2.1)/\Below B w w'
theorem C8 (g:Nat)(s:ByteArray)(k b:Nat)(w:World)(h:ji w g s k 0)(hk:k<s.size)(hs:s.size<=9223372036854775807)(hb:s[k].toNat=b)(d:b<256)(Rl:b%4≠0)(j:k+bh b<=s.size)
 (B base cap F size:Nat) (out:List UInt8) (bH:w.ownsRow base 5 1 (.slice (some ⟨F,0,none⟩) out.length cap) out.length (cb out)) (rk:B<=g) (jY:B<=base) (tB:B<=w.heap.size) (aE:out.length<=size) (eX:size<=4294967295):
 Calls prog 139 #[.pointer (some ⟨g,0,none⟩),.slice (some ⟨F,0,none⟩) out.length cap,.int .i64 size] w (qv g s B base w (bX s size k b out)):=by
 have Y:=cy bH h (by decide);have rf:=(vJ g s k _ (h.alloc (.cells #[.pointer (some ⟨g,0,none⟩)] 164)) hk hs)
 rw[hb]at rf;have Lo:=za rf;have ec:=bH.alloc (.cells #[.pointer (some ⟨g,0,none⟩)] 164);have kd:=af.new w 164 #[.pointer (some ⟨g,0,none⟩)];have ak:=h.lt;have hB:=(zm B w).alloc tB (.cells #[.pointer (some ⟨g,0,none⟩)] 164);obtain⟨N,J⟩:∃N,iQ s k b=N:=⟨_,rfl⟩
 have ad:=KI s k b d j;rw[J]at ad;obtain⟨n,X⟩:∃n,cR b N=n:=⟨_,rfl⟩
 obtain⟨c,ic⟩:∃n,kh b N=n:=⟨_,rfl⟩
 have Lp:Hid (bX s size k b out=if((c=0\/out.length<c))\/size-out.length<n then(3,k,out)else(0,k+bh b,tY out c n)):=by
  refine za ?_;unfold bX;rw[J,X,ic,zh (by omega)];simp[Rl]
 obtain⟨i0,hi,eh,cr,cE⟩:=yH uk;have HN:=za J;have Hh:=za j;have Hn:=za X;have ae:=za ic;clear rf h bH hb j J X ic;go_enter ZI,Zy
 go_wp2_with fail
 refine Lo.out.mono ?_;rintro e O ⟨rfl,hr,G⟩;have S:Below B w O:=hB.trans (G.below (by simp;omega) (by simp;omega));have eu:=G.own ec (by simp[Value.ownBlock];exact Y);have jj:=kd.only G (by simp;omega);have Gr:O.cell? ⟨w.heap.size,0,none⟩=some (.pointer (some ⟨g,0,none⟩)):=yc jj;clear G kd ec hB Lo;rcases MW b n N c d Rl Hn.out ae.out with⟨wU,j,E1,E2⟩|⟨wU,j,E1,E2⟩|⟨wU,j,E1,E2⟩;all_goals
  first
   |have y:∃q:Nat,bh b=q+1/\(q:Int)=1:=⟨1,j.out,rfl⟩
   |have y:∃q:Nat,bh b=q+1/\(q:Int)=2:=⟨2,j.out,rfl⟩
   |have y:∃q:Nat,bh b=q+1/\(q:Int)=4:=⟨4,j.out,rfl⟩
  obtain⟨q,y,aa⟩:=y;have HQ:=za y;have l:=za (Fv g _ s (k+1) q N O hr Gr hs (by have:=Hh.out;omega) (by omega) (by omega) (by rw[<-HN.out,iQ,y,show k+(q+1)=k+1+q from by omega]));rw[aa]at l;clear y aa;go_wp2_with fail
  refine l.out.mono ?_;rintro e H ⟨rfl,jd,I⟩;have W:Below B w H:=S.trans (I.below (by have:=S.size;omega) (by simp;omega));have tO:=jj.only I (by simp;omega);have Rx:H.cell? ⟨w.heap.size,0,none⟩=some (.pointer (some ⟨g,0,none⟩)):=yc tO;have ie:=I.own eu (by simp[Value.ownBlock];exact Y);go_wp2_with fail
  rw[E1.out,E2.out];refine(bw g s _ 0 H jd).mono ?_;rintro e w' ⟨rfl,rfl⟩;clear l I eu jj Gr hr S;rcases MZ c n size out.length aE with⟨r,Z⟩|⟨r,Z,U⟩|⟨r,Z,U,e3⟩|⟨r,Z,U,e3,e4,e5⟩;rotate_right
  ·have K:=za r;clear r;have aj:1<=c:=by have:=K.out;omega
   go_wp2_with fail
   go_loopw [1,11] (fun v x wr=>∃(m:Nat) (o:List UInt8) (z u:Nat),v= .slice (some ⟨z,0,none⟩) o.length u/\x= .int .i64 m/\wr.ownsRow base 5 1 (.slice (some ⟨z,0,none⟩) o.length u) o.length (cb o)/\
    ji wr g s (k+1+q) 0/\Below B w wr/\Hid (tY o c m=tY out c n)/\c<=o.length/\o.length+m<=size) (fun _ x _=>(intOf x).toNat)
   case atStart=>exact⟨n,out,F,cap,rfl,rfl,ie,jd,W,za rfl,U,by omega⟩
   case round=>
    obtain⟨m,o,z,u,rfl,rfl,i,E,d,p,ab,Rw⟩:=hrel;obtain⟨Gp,Bg,al,ah⟩:=rF i;have ai:¬u=o.length-c:=by omega
    by_cases Jy:0<m
    ·by_cases Yo:m<=c
     ·have l:=za (vM o (o.length-c) m (by omega));have A:=za (vN i (o.length-c) m (by omega));go_wp2_with (at_builtin;refine y9 _ rfl (.tmp 100) (.tmp 101) 31 rfl base 5 i0 (.int .u8 0) 1 1 zt hi eh cr cE rfl (by decide) _ _ _ rfl i ⟨z,o.length-c,none⟩ m (u-(o.length-c)) (cb ((o.drop (o.length-c)).take m)) rfl l.out A.out (rE _) (by omega) (by simp only[maxLen];omega) (by omega) (by have:=d.size;omega) wr.heap.size rfl ?_;intro M Bh w3 C D L ag)
      have R:=vO i C D E d (by have:=d.size;omega) (by omega) p.out ab (show m<=m from by omega) (show m<=c from by omega) Rw;clear C D L i E d p A l;go_wp2;go_roundw
      case rel=>exact⟨m-m,_,M,Bh,R.1,by go_num,R.2.1,R.2.2.1,R.2.2.2.1,za R.2.2.2.2.1,R.2.2.2.2.2.1,R.2.2.2.2.2.2⟩
      case measure=>simp[intOf];omega
     have l:=za (vM o (o.length-c) c (by omega));have A:=za (vN i (o.length-c) c (by omega));go_wp2_with (at_builtin;refine y9 _ rfl (.tmp 100) (.tmp 101) 31 rfl base 5 i0 (.int .u8 0) 1 1 zt hi eh cr cE rfl (by decide) _ _ _ rfl i ⟨z,o.length-c,none⟩ c (u-(o.length-c)) (cb ((o.drop (o.length-c)).take c)) rfl l.out A.out (rE _) (by omega) (by simp only[maxLen];omega) (by omega) (by have:=d.size;omega) wr.heap.size rfl ?_;intro M Bh w3 C D L ag)
     have R:=vO i C D E d (by have:=d.size;omega) (by omega) p.out ab (show c<=m from by omega) (show c<=c from by omega) Rw;clear C D L i E d p A l;go_wp2;go_roundw
     case rel=>exact⟨m-c,_,M,Bh,R.1,by go_num,R.2.1,R.2.2.1,R.2.2.2.1,za R.2.2.2.2.1,R.2.2.2.2.2.1,R.2.2.2.2.2.2⟩
     case measure=>simp[intOf];omega
    go_wp2;go_ret;obtain rfl:m=0:=by omega
    have p:=p.out;simp only[tY]at p;rw[Lp.out,zh K.out,HQ.out,<-p];exact⟨z,u,_,rfl,i,E,fun _=>by simp;omega,d⟩
  all_goals
   have K:=za r;clear r;go_wp2_with fail
   refine(iX g s _ 3 H jd).mono ?_;rintro e w3 ⟨rfl,tP,lH⟩;have ca:Below B w w3:=W.trans (lH.below (by have:=W.size;omega) (by simp;omega));have fY:=lH.own ie (by simp[Value.ownBlock];exact Y);go_wp2;go_ret;rw[Lp.out,zi K.out];exact⟨F,cap,_,rfl,fY,tP,(fun h=>by cases h),ca⟩
theorem Fw (n size len:Nat)(b:len<=size):(size-len<n/\(size:Int)-len<n)\/(¬size-len<n/\(n:Int)<=size-len):=by omega
theorem IJ (b:Nat)(d:b<256)(h:1<bh b):
 (bits .and .u8 (b:Int) 3=0/\60<=b/4/\∃nb:Nat,1<=nb/\nb<=4/\Hid (bh b=nb+1)/\Hid ((b:Int)/4-59=nb))\/(bits .and .u8 (b:Int) 3=1/\Hid (bh b=1+1))\/(bits .and .u8 (b:Int) 3=2/\Hid (bh b=2+1))\/(bits .and .u8 (b:Int) 3=3/\Hid (bh b=4+1)):=by
 rw[Xi b d];rcases(show b%4=0\/b%4=1\/b%4=2\/b%4=3 from by omega)with hm|hm|hm|hm
 ·have c:60<=b/4:=by
   rcases xG (b/4) 60 with h1|h1
   ·simp[bh,hm,show¬60<=b/4 from by omega]at h
   exact h1
  exact .inl ⟨by rw[hm];rfl,c,b/4-59,by omega,by omega,za (by simp[bh,hm,c];omega),za (by omega)⟩
 ·exact .inr (.inl ⟨by rw[hm];rfl,za (by simp[bh,hm])⟩)
 ·exact .inr (.inr (.inl ⟨by rw[hm];rfl,za (by simp[bh,hm])⟩))
 exact .inr (.inr (.inr ⟨by rw[hm];rfl,za (by simp[bh,hm])⟩))
theorem Fx (g:Nat)(s:ByteArray)(k b:Nat)(w:World)(h:ji w g s k 0)(hk:k<s.size)(I:s.size<=9223372036854775807)(hb:s[k].toNat=b)(fA:b<256)(G:b%4=0)(tK:k+bh b<=s.size)
 (B base cap x size:Nat) (out:List UInt8) (bH:w.ownsRow base 5 1 (.slice (some ⟨x,0,none⟩) out.length cap) out.length (cb out)) (rk:B<=g) (jY:B<=base) (tB:B<=w.heap.size) (je:base<=w.heap.size) (aE:out.length<=size) (eX:size<=4294967295):
 Calls prog 139 #[.pointer (some ⟨g,0,none⟩),.slice (some ⟨x,0,none⟩) out.length cap,.int .i64 size] w (qv g s B base w (bX s size k b out)):=by
 have y:=cy bH h (by decide);have rf:=(vJ g s k _ (h.alloc (.cells #[.pointer (some ⟨g,0,none⟩)] 164)) hk I)
 rw[hb]at rf;have Lo:=za rf;have ec:=bH.alloc (.cells #[.pointer (some ⟨g,0,none⟩)] 164);have kd:=af.new w 164 #[.pointer (some ⟨g,0,none⟩)];have ai:=h.lt;have hB:=(zm B w).alloc tB (.cells #[.pointer (some ⟨g,0,none⟩)] 164);obtain⟨N,hN⟩:∃N,iQ s k b=N:=⟨_,rfl⟩
 have ag:=KI s k b fA tK;rw[hN]at ag;obtain⟨n,hn⟩:∃n,cR b N=n:=⟨_,rfl⟩
 have H:Hid (bX s size k b out=if size-out.length<n then(3,k,out)else if s.size<k+bh b+n then(2,k,out)else(0,k+bh b+n,out++(s.extract (k+bh b) (k+bh b+n)).data.toList)):=by
  refine za ?_;unfold bX;rw[hN,hn,zh (by omega)];simp[G]
 obtain⟨i0,hi,Z,X,S⟩:=yH uk;have HN:=za hN;have Hh:=za tK;have Hn:=za hn;have wU:bits .and .u8 (b:Int) 3=0:=by rw[Xi b fA,G];rfl
 clear rf h bH hb tK hN hn;go_enter ZI,Zy
 go_wp2_with fail
 refine Lo.out.mono ?_;rintro e w1 ⟨rfl,W,U⟩;have J:Below B w w1:=hB.trans (U.below (by simp;omega) (by simp;omega));have O:=U.own ec (by simp[Value.ownBlock];exact y);have K:=kd.only U (by simp;omega);have Gr:w1.cell? ⟨w.heap.size,0,none⟩=some (.pointer (some ⟨g,0,none⟩)):=yc K;clear U kd ec hB Lo;by_cases R:60<=b/4
 ·obtain⟨nb,ab⟩:∃nb:Nat,(b:Int)/4-59=nb:=⟨b/4-59,by omega⟩
  have m:Hid (k+1+nb=k+bh b):=za (by simp[bh,G,R];omega);have E1:Hid ((N:Int)+1=n):=za (by have:=Hn.out;simp[cR,G,R]at this;omega);have ad:=za ab;have Hl:=za (Fv g _ s (k+1) nb N w1 W Gr I (by have:=Hh.out;have:=m.out;omega) (by omega) (by omega) (by rw[<-HN.out,iQ,m.out]));have ah:k+1+nb<=s.size:=by have:=Hh.out;have:=m.out;omega
  clear ab;go_wp2_with fail
  rw[ad.out];refine Hl.out.mono ?_;rintro e w2 ⟨rfl,r,Y⟩;have l:Below B w w2:=J.trans (Y.below (by have:=J.size;omega) (by simp;omega));have tO:=K.only Y (by simp;omega);have Rx:w2.cell? ⟨w.heap.size,0,none⟩=some (.pointer (some ⟨g,0,none⟩)):=yc tO;have F:=Y.own O (by simp[Value.ownBlock];exact y);clear Hl Y O K Gr W J;go_wp2_with fail
  rw[E1.out];refine(bw g s _ 0 _ r).mono ?_;rintro e w' ⟨rfl,rfl⟩;rcases Fw n size out.length aE with⟨o,e1⟩|⟨o,e1⟩
  ·have u:=za o;clear o;go_wp2_with fail
   refine(iX g s _ 3 _ r).mono ?_;rintro e w3 ⟨rfl,j,i⟩;have c:Below B w w3:=l.trans (i.below (by have:=l.size;omega) (by simp;omega));have d:=i.own F (by simp[Value.ownBlock];exact y);go_wp2;go_ret;rw[H.out,zi u.out];exact⟨x,cap,_,rfl,d,j,(fun h=>by cases h),c⟩
  have u:=za o;clear o;by_cases wR:s.size<k+1+nb+n
  ·have C:=za (gA g s (k+1+nb) n _ r (by omega) I wR (by omega));go_wp2_with fail
   refine C.out.mono ?_;rintro e w3 ⟨rfl,j,i⟩;have c:Below B w w3:=l.trans (i.below (by have:=l.size;omega) (by simp;omega));have d:=i.own F (by simp[Value.ownBlock];exact y);have Ry:=cy d j (by decide);go_wp2_with (at_builtin;refine xR _ rfl (.tmp 82) (.tmp 85) 31 9 rfl base 5 i0 zt zN hi Z X S (.slice (some ⟨x,0,none⟩) out.length cap) out.length (cb out) rfl d ByteArray.empty rfl (by simp[maxLen];omega) (by simp;omega) (by have:=c.size;omega) ?_;intro v' w4 p q A)
   obtain⟨z,E,rfl⟩:=pS p (by rw[ne_eq,A];simp);go_wp2;go_ret;rw[H.out,zh u.out,zi (by have:=m.out;omega)];refine⟨z,E,_,by simp,by simpa[Lib.strCells]using p,j.only (ae.fU q) (by simp[Value.ownBlock];omega),(fun h=>by cases h),c.grown q (by have:=c.size;omega) (by simp[Value.ownBlock];have:=rF d;omega)⟩
  have C:=za (eH g s (k+1+nb) n _ r I (by omega));have M:=za (an s (k+1+nb) (k+1+nb+n) (by omega));have aa:Hid (s.extract (k+1+nb) (k+1+nb+n)=s.extract (k+bh b) (k+bh b+n)):=za (by rw[<-m.out]);go_wp2_with fail
  refine C.out.mono ?_;rintro e w3 ⟨rfl,j,i⟩;have c:Below B w w3:=l.trans (i.below (by have:=l.size;omega) (by simp;omega));have d:=i.own F (by simp[Value.ownBlock];exact y);have Ry:=cy d j (by decide);generalize s.extract (k+1+nb) (k+1+nb+n)=D at*;go_wp2_with (at_builtin;refine xR _ rfl (.tmp 82) (.tmp 85) 31 9 rfl base 5 i0 zt zN hi Z X S (.slice (some ⟨x,0,none⟩) out.length cap) out.length (cb out) rfl d D rfl (by rw[M.out];simp only[maxLen];omega) (by rw[M.out];omega) (by have:=c.size;omega) ?_;intro v' w4 p q A)
  obtain⟨z,E,rfl⟩:=pS p (by rw[ne_eq,A];simp);have L:(out++D.data.toList).length=out.length+D.size:=by simp
  go_wp2;go_ret;rw[H.out,zh u.out,zh (by have:=m.out;omega),<-aa.out];refine⟨z,E,_,by rw[L];rfl, ?_,j.only (ae.fU q) (by simp[Value.ownBlock];omega),(fun _=>by have:=m.out;simp;omega),c.grown q (by have:=c.size;omega) (by simp[Value.ownBlock];have:=rF d;omega)⟩;rw[L,gE];exact p
 have m:Hid (k+1=k+bh b):=za (by simp[bh,G,R]);have E1:Hid ((b:Int)/4+1=n):=za (by have:=Hn.out;simp[cR,G,R]at this;omega);have r:=W;have l:=J;have F:=O;have tO:=K;clear W J O K;go_wp2_with fail
 rw[E1.out];refine(bw g s _ 0 _ r).mono ?_;rintro e w' ⟨rfl,rfl⟩;rcases Fw n size out.length aE with⟨o,e1⟩|⟨o,e1⟩
 ·have u:=za o;clear o;go_wp2_with fail
  refine(iX g s _ 3 _ r).mono ?_;rintro e w3 ⟨rfl,j,i⟩;have c:Below B w w3:=l.trans (i.below (by have:=l.size;omega) (by simp;omega));have d:=i.own F (by simp[Value.ownBlock];exact y);go_wp2;go_ret;rw[H.out,zi u.out];exact⟨x,cap,_,rfl,d,j,(fun h=>by cases h),c⟩
 have u:=za o;clear o;by_cases wR:s.size<k+1+n
 ·have C:=za (gA g s (k+1) n _ r (by omega) I wR (by omega));go_wp2_with fail
  refine C.out.mono ?_;rintro e w3 ⟨rfl,j,i⟩;have c:Below B w w3:=l.trans (i.below (by have:=l.size;omega) (by simp;omega));have d:=i.own F (by simp[Value.ownBlock];exact y);have Ry:=cy d j (by decide);go_wp2_with (at_builtin;refine xR _ rfl (.tmp 82) (.tmp 85) 31 9 rfl base 5 i0 zt zN hi Z X S (.slice (some ⟨x,0,none⟩) out.length cap) out.length (cb out) rfl d ByteArray.empty rfl (by simp[maxLen];omega) (by simp;omega) (by have:=c.size;omega) ?_;intro v' w4 p q A)
  obtain⟨z,E,rfl⟩:=pS p (by rw[ne_eq,A];simp);go_wp2;go_ret;rw[H.out,zh u.out,zi (by have:=m.out;omega)];refine⟨z,E,_,by simp,by simpa[Lib.strCells]using p,j.only (ae.fU q) (by simp[Value.ownBlock];omega),(fun h=>by cases h),c.grown q (by have:=c.size;omega) (by simp[Value.ownBlock];have:=rF d;omega)⟩
 have C:=za (eH g s (k+1) n _ r I (by omega));have M:=za (an s (k+1) (k+1+n) (by omega));have aa:Hid (s.extract (k+1) (k+1+n)=s.extract (k+bh b) (k+bh b+n)):=za (by rw[<-m.out]);go_wp2_with fail
 refine C.out.mono ?_;rintro e w3 ⟨rfl,j,i⟩;have c:Below B w w3:=l.trans (i.below (by have:=l.size;omega) (by simp;omega));have d:=i.own F (by simp[Value.ownBlock];exact y);have Ry:=cy d j (by decide);generalize s.extract (k+1) (k+1+n)=D at*;go_wp2_with (at_builtin;refine xR _ rfl (.tmp 82) (.tmp 85) 31 9 rfl base 5 i0 zt zN hi Z X S (.slice (some ⟨x,0,none⟩) out.length cap) out.length (cb out) rfl d D rfl (by rw[M.out];simp only[maxLen];omega) (by rw[M.out];omega) (by have:=c.size;omega) ?_;intro v' w4 p q A)
 obtain⟨z,E,rfl⟩:=pS p (by rw[ne_eq,A];simp);have L:(out++D.data.toList).length=out.length+D.size:=by simp
 go_wp2;go_ret;rw[H.out,zh u.out,zh (by have:=m.out;omega),<-aa.out];refine⟨z,E,_,by rw[L];rfl, ?_,j.only (ae.fU q) (by simp[Value.ownBlock];omega),(fun _=>by have:=m.out;simp;omega),c.grown q (by have:=c.size;omega) (by simp[Value.ownBlock];have:=rF d;omega)⟩;rw[L,gE];exact p
theorem AM (g:Nat)(s:ByteArray)(k b:Nat)(w:World)(h:ji w g s k 0)(X:k<s.size)(M:s.size<=9223372036854775807)(K:s[k].toNat=b)(U:b<256)(L:s.size<k+bh b)
 (B base cap I size:Nat) (out:List UInt8) (H:w.ownsRow base 5 1 (.slice (some ⟨I,0,none⟩) out.length cap) out.length (cb out)) (rk:B<=g) (jY:B<=base) (W:B<=w.heap.size):
 Calls prog 139 #[.pointer (some ⟨g,0,none⟩),.slice (some ⟨I,0,none⟩) out.length cap,.int .i64 size] w (qv g s B base w (bX s size k b out)):=by
 have z:=cy H h (by decide);have J:=(vJ g s k _ (h.alloc (.cells #[.pointer (some ⟨g,0,none⟩)] 164)) X M)
 rw[K]at J;have x:=za J;have u:=H.alloc (.cells #[.pointer (some ⟨g,0,none⟩)] 164);have A:=af.new w 164 #[.pointer (some ⟨g,0,none⟩)];have Y:=h.lt;have y:=(zm B w).alloc W (.cells #[.pointer (some ⟨g,0,none⟩)] 164);have N:Hid (bX s size k b out=(2,k,out)):=by
  refine za ?_;unfold bX;rw[zi L]
 rcases IJ b U (by omega:1<bh b)with⟨O,hv,nb,aa,Z,D,S⟩|⟨O,D⟩|⟨O,D⟩|⟨O,D⟩
 ·have C:s.size<k+1+nb:=by have:=D.out;omega
  clear J h H K L;go_enter ZI,Zy
  go_wp2_with fail
  refine x.out.mono ?_;rintro e i ⟨rfl,m,d⟩;have j:Below B w i:=y.trans (d.below (by simp;omega) (by simp;omega));have n:=d.own u (by simp[Value.ownBlock];exact z);have l:=A.only d (by simp;omega);have p:i.cell? ⟨w.heap.size,0,none⟩=some (.pointer (some ⟨g,0,none⟩)):=yc l;have r:=za (jz g _ s (k+1) nb i m p (by omega) M C (by omega));clear d A u y x;go_wp2_with fail
  rw[S.out];refine r.out.mono ?_;rintro e q ⟨rfl,o,c⟩;have E:Below B w q:=j.trans (c.below (by have:=j.size;omega) (by simp;omega));have G:=l.only c (by simp;omega);have R:q.cell? ⟨w.heap.size,0,none⟩=some (.pointer (some ⟨g,0,none⟩)):=yc G;have F:=c.own n (by simp[Value.ownBlock];exact z);clear r c n l p m j;go_wp2_with fail
  refine(bw g s _ 2 _ o).mono ?_;rintro e w' ⟨rfl,rfl⟩;go_wp2;go_ret;rw[N.out];exact⟨I,cap,_,rfl,F,o,(fun h=>by cases h),E⟩
 ·have C:s.size<k+1+1:=by have:=D.out;omega
  clear J h H K L;go_enter ZI,Zy
  go_wp2_with fail
  refine x.out.mono ?_;rintro e i ⟨rfl,m,d⟩;have j:Below B w i:=y.trans (d.below (by simp;omega) (by simp;omega));have n:=d.own u (by simp[Value.ownBlock];exact z);have l:=A.only d (by simp;omega);have p:i.cell? ⟨w.heap.size,0,none⟩=some (.pointer (some ⟨g,0,none⟩)):=yc l;have r:=za (jz g _ s (k+1) 1 i m p (by omega) M C (by omega));clear d A u y x;go_wp2_with fail
  skip
  refine r.out.mono ?_;rintro e q ⟨rfl,o,c⟩;have E:Below B w q:=j.trans (c.below (by have:=j.size;omega) (by simp;omega));have G:=l.only c (by simp;omega);have R:q.cell? ⟨w.heap.size,0,none⟩=some (.pointer (some ⟨g,0,none⟩)):=yc G;have F:=c.own n (by simp[Value.ownBlock];exact z);clear r c n l p m j;go_wp2_with fail
  refine(bw g s _ 2 _ o).mono ?_;rintro e w' ⟨rfl,rfl⟩;go_wp2;go_ret;rw[N.out];exact⟨I,cap,_,rfl,F,o,(fun h=>by cases h),E⟩
 ·have C:s.size<k+1+2:=by have:=D.out;omega
  clear J h H K L;go_enter ZI,Zy
  go_wp2_with fail
  refine x.out.mono ?_;rintro e i ⟨rfl,m,d⟩;have j:Below B w i:=y.trans (d.below (by simp;omega) (by simp;omega));have n:=d.own u (by simp[Value.ownBlock];exact z);have l:=A.only d (by simp;omega);have p:i.cell? ⟨w.heap.size,0,none⟩=some (.pointer (some ⟨g,0,none⟩)):=yc l;have r:=za (jz g _ s (k+1) 2 i m p (by omega) M C (by omega));clear d A u y x;go_wp2_with fail
  skip
  refine r.out.mono ?_;rintro e q ⟨rfl,o,c⟩;have E:Below B w q:=j.trans (c.below (by have:=j.size;omega) (by simp;omega));have G:=l.only c (by simp;omega);have R:q.cell? ⟨w.heap.size,0,none⟩=some (.pointer (some ⟨g,0,none⟩)):=yc G;have F:=c.own n (by simp[Value.ownBlock];exact z);clear r c n l p m j;go_wp2_with fail
  refine(bw g s _ 2 _ o).mono ?_;rintro e w' ⟨rfl,rfl⟩;go_wp2;go_ret;rw[N.out];exact⟨I,cap,_,rfl,F,o,(fun h=>by cases h),E⟩
 have C:s.size<k+1+4:=by have:=D.out;omega
 clear J h H K L;go_enter ZI,Zy
 go_wp2_with fail
 refine x.out.mono ?_;rintro e i ⟨rfl,m,d⟩;have j:Below B w i:=y.trans (d.below (by simp;omega) (by simp;omega));have n:=d.own u (by simp[Value.ownBlock];exact z);have l:=A.only d (by simp;omega);have p:i.cell? ⟨w.heap.size,0,none⟩=some (.pointer (some ⟨g,0,none⟩)):=yc l;have r:=za (jz g _ s (k+1) 4 i m p (by omega) M C (by omega));clear d A u y x;go_wp2_with fail
 skip
 refine r.out.mono ?_;rintro e q ⟨rfl,o,c⟩;have E:Below B w q:=j.trans (c.below (by have:=j.size;omega) (by simp;omega));have G:=l.only c (by simp;omega);have R:q.cell? ⟨w.heap.size,0,none⟩=some (.pointer (some ⟨g,0,none⟩)):=yc G;have F:=c.own n (by simp[Value.ownBlock];exact z);clear r c n l p m j;go_wp2_with fail
 refine(bw g s _ 2 _ o).mono ?_;rintro e w' ⟨rfl,rfl⟩;go_wp2;go_ret;rw[N.out];exact⟨I,cap,_,rfl,F,o,(fun h=>by cases h),E⟩
theorem Cd (g:Nat)(s:ByteArray)(k:Nat)(w:World)(h:ji w g s k 0)(e:k<s.size)(d:s.size<=9223372036854775807)
 (B base cap b size:Nat) (out:List UInt8) (c:w.ownsRow base 5 1 (.slice (some ⟨b,0,none⟩) out.length cap) out.length (cb out)) (l:B<=g) (i:B<=base) (j:B<=w.heap.size) (q:base<=w.heap.size) (n:out.length<=size) (m:size<=4294967295):
 Calls prog 139 #[.pointer (some ⟨g,0,none⟩),.slice (some ⟨b,0,none⟩) out.length cap,.int .i64 size] w (qv g s B base w (bX s size k s[k].toNat out)):=by
 by_cases p:s.size<k+bh s[k].toNat
 ·exact AM g s k _ w h e d rfl s[k].toNat_lt p B base cap b size out c l i j
 by_cases o:s[k].toNat%4=0
 ·exact Fx g s k _ w h e d rfl s[k].toNat_lt o (by omega) B base cap b size out c l i j q n m
 exact C8 g s k _ w h e d rfl s[k].toNat_lt o (by omega) B base cap b size out c l i j n m
theorem tri {x y:Nat×Nat×Int}{a b c:Int}(h:x=y)(i:a=y.1)(d:b=y.2.1)(e:c=y.2.2):Ending.returned (.tuple #[.int .i64 a,.int .i64 b,.int .i64 c])= .returned (.tuple #[.int .i64 x.1,.int .i64 x.2.1,.int .i64 x.2.2]):=by
 subst h;rw[i,d,e]
theorem two {x:Int×List UInt8}{e:Int}(h:x=(e,l)):Ending.returned (.tuple #[.string ⟨l.toArray⟩,.int .i64 e])= .returned (.tuple #[.string ⟨x.2.toArray⟩,.int .i64 x.1]):=by
 subst h;rfl
theorem C9 (s:ByteArray)(w:World)(p:s.size<=9223372036854775807):
 Calls prog 137 #[.string s] w fun e w'=>e= .returned (.tuple #[.int .i64 (aB s).1,.int .i64 (aB s).2.1,.int .i64 (aB s).2.2])/\w=w':=by
 have d:=fun w=>rQ s w p
 have hz:aB s=if(ay s).2.2=0 then(if 4294967295<(ay s).1 then(0,0,5)else ay s)else(0,0,(ay s).2.2):=rfl
 generalize ay s=x at*;obtain⟨n,hd,o⟩:=x;generalize aB s=y at*;simp only at d hz;have i:=za d;have b:=za hz;clear d hz;rcases eY o with⟨c,j,k⟩|⟨c,j,k⟩
 ·subst c;clear j k;by_cases l:4294967295<n
  ·have h:Hid (y=(0,0,5)):=za (by rw[b.out,zi rfl,zi l]);clear b;go_enter func137,ntmps137
   go_wp2_with fail
   refine(i.out _).mono ?_;rintro e w' ⟨rfl,rfl⟩;go_wp2;go_ret3
   exact⟨tri h.out rfl rfl rfl,rfl⟩
  have h:Hid (y=(n,hd,0)):=za (by rw[b.out,zi rfl,zh l]);clear b;go_enter func137,ntmps137
  go_wp2_with fail
  refine(i.out _).mono ?_;rintro e w' ⟨rfl,rfl⟩;go_wp2;go_ret3
  exact⟨tri h.out rfl rfl rfl,rfl⟩
 have m:=za c;clear c;go_enter func137,ntmps137
 go_wp2_with fail
 refine(i.out _).mono ?_;rintro e w' ⟨rfl,rfl⟩;go_wp2;go_ret3
 exact⟨tri (b.out.trans (by rw[zh m.out])) rfl rfl rfl,rfl⟩
theorem qw (s:ByteArray)(h:(aB s).2.2=0):(aB s).1<=4294967295/\0<(aB s).2.1/\(aB s).2.1<=10/\(aB s).2.1<=s.size:=by
 have hz:aB s=if(ay s).2.2=0 then(if 4294967295<(ay s).1 then(0,0,5)else ay s)else(0,0,(ay s).2.2):=rfl
 by_cases b:(ay s).2.2=0
 ·have d:=il s b;by_cases c:4294967295<(ay s).1
  ·rw[hz,zi b,zi c]at h;simp at h
  rw[hz,zi b,zh c];omega
 rw[hz,zh b]at h;exact absurd h b
def IK (g B size:Nat)(body:ByteArray)(X:Int×List UInt8)(w:World)(gk:Nat)(v:Value)(wr:World):Prop:=
 ∃(k:Nat) (out:List UInt8) (h' aq:Nat) (f:Int),v= .slice (some ⟨h',0,none⟩) out.length aq/\wr.ownsRow B 5 1 (.slice (some ⟨h',0,none⟩) out.length aq) out.length (cb out)/\ji wr g body k f/\Below B w wr/\
  ((f=0/\k<=body.size/\out.length<=size/\Hid (fR body size gk k out=X)/\body.size-k<gk)\/(Hid (f≠0)/\(f==0)=false/\(f !=0)=true/\Hid (X=(f,[]))))
theorem Fy {size:Nat}{body:ByteArray}{X:Int×List UInt8}{i m:World}{gk:Nat}{out:List UInt8}{e:Ending}(q:Below B w i)(h:k<body.size)(x:out.length<=size)(hx:fR body size gk k out=X)(C:body.size-k<gk)
 (A:qv g body B B i (bX body size k body[k].toNat out) e m):∃v,e= .returned v/\(∃d n c,v= .slice (some ⟨d,0,none⟩) n c)/\IK g B size body X w (gk-1) v m:=by
 obtain⟨d,y,s,rfl,p,o,z,r⟩:=A;obtain⟨f,rfl⟩:∃f,gk=f+1:=⟨gk-1,by omega⟩
 refine⟨_,rfl,⟨_,_,_,rfl⟩,s,_,d,y,_,rfl,p,o,q.trans r, ?_⟩;rcases eY (bX body size k body[k].toNat out).1 with⟨b,j,l⟩|⟨b,j,l⟩
 ·have u:=OR body[k].toNat_lt h x b;have:=z b;subst this;exact .inl ⟨b,by omega,u.2.2,za (LV h hx b),by simp;omega⟩
 exact .inr ⟨za b,j,l,za (OS h hx b)⟩
theorem qx {b c:World}{z:Nat}{xs:List Value}{o:Obj}(h:b.ownsRow B e z v n xs)(d:c=b.alloc o):c.ownsRow B e z v n xs:=d▸h.alloc o
theorem IL (s:ByteArray)(most:Int)(w:World)(hs:s.size<=9223372036854775807):
 Calls prog 117 #[.string s,.int .i64 most,.pointer none] w fun e w'=>e= .returned (.tuple #[.string ⟨(aY s most).2.toArray⟩,.int .i64 (aY s most).1])/\Below w.heap.size w w':=by
 have C:=fun w=>C9 s w hs
 have r:=qw s;have hz:aY s most=if(aB s).2.2≠0 then((aB s).2.2,[])else if most<(aB s).1 then(5,[])else jf (s.extract (aB s).2.1 s.size) (aB s).1:=rfl
 generalize aB s=x at*;obtain⟨n,hd,er⟩:=x;generalize aY s most=y at*;simp only at C hz r;have H:=za C;have o:=za hz;clear C hz;obtain⟨i0,hi,J,X,U⟩:=yH uk;rcases eY er with⟨p,h1,h2⟩|⟨p,h1,h2⟩
 ·subst p;obtain⟨hn,ag,ad,ae⟩:=r rfl;clear h1 h2 r;by_cases Y:most<n
  ·have E:Hid (y=(5,[])):=za (by rw[o.out,zh (by simp),zi Y]);clear o;go_enter ZJ,Zz
   go_wp2_with fail
   refine(H.out _).mono ?_;rintro e w' ⟨rfl,rfl⟩;go_wp2;go_ret2
   exact⟨by rw[E.out];rfl,zm _ _⟩
  have E:Hid (y=jf (s.extract hd s.size) n):=za (by rw[o.out,zh (by simp),zh Y]);clear o;have aj:decide (most<(n:Int))=false:=by simp;omega
  by_cases h4:n<=4096;all_goals
   go_enter ZJ,Zz
   go_wp2_with fail
   refine(H.out _).mono ?_;rintro e w' ⟨rfl,rfl⟩;go_wp2_with (at_make;(first|refine ZB _ rfl _ _ 31 rfl w.heap.size 5 i0 (.int .u8 0) 1 zt hi J X .i64 .i64 _ n rfl rfl (by omega) (by rw[U];omega) (by simp only[maxLen];omega) (by omega) ?_|refine ZB _ rfl _ _ 31 rfl w.heap.size 5 i0 (.int .u8 0) 1 zt hi J X .i64 .i64 _ 4096 rfl rfl (by omega) (by rw[U];omega) (by simp only[maxLen];omega) (by omega) ?_);intro j L K)
   have B:=(zm w.heap.size w).grown K (by omega) (by simp);have mc:=B.size;clear K;go_wp2_with fail
   refine(rR _ j).mono ?_;rintro e G ⟨rfl,l⟩;have W:ji G j.heap.size (s.extract hd s.size) 0 0:=by rw[l];exact af.new j _ _
   have eu:=qx L l;have aO:Below w.heap.size w G:=by rw[l];exact B.alloc (by omega) _
   have JG:j.heap.size<G.heap.size:=by rw[l];simp
   clear l L B;obtain⟨g,hg⟩:∃g,g=j.heap.size:=⟨_,rfl⟩
   rw[<-hg]at W JG mc⊢;clear hg;have F:(s.extract hd s.size).size<=9223372036854775807:=by rw[an _ _ _ (zg _)];omega
   generalize s.extract hd s.size=body at*;have Yp:w.heap.size<=g:=by omega
   go_wp2_with fail
   go_loopg [11] (body.size+1) (fun gk v wr=>IK g w.heap.size n body y w gk v wr)
   case atStart=>exact⟨0,[],_,_,0,rfl,eu,W,aO,.inl ⟨rfl,by omega,by simp,za E.out.symm,by omega⟩⟩
   case round=>
    obtain⟨k,out,h',aq,f,rfl,I,b,d,⟨rfl,N,Z,O,ab⟩|⟨hf,Yq,ah,S⟩⟩:=hrel
    ·by_cases z:k<body.size
     ·go_wp2_with fail
      refine(bw g body k 0 wr b).mono ?_;rintro e w' ⟨rfl,rfl⟩;go_wp2_with fail
      refine(vG g body k 0 wr b N F).mono ?_;rintro e w3 ⟨rfl,c,rfl⟩;have M:=za (Cd g body k (wr.drewN c) (b.drewN c) z F w.heap.size w.heap.size aq h' n out (I.bs c) Yp (zg _) (by have:=d.size;simp<;>omega) (by have:=d.size;simp<;>omega) Z hn);go_wp2_with fail
      refine M.out.mono ?_;intro e h R;obtain⟨v4,rfl,⟨h4,n4,c4,rfl⟩,aa⟩:=Fy (d.bs c) z Z O.out ab R;clear R M;go_wp2;go_roundg (gk-1)
      case measure=>omega
      case rel=>exact aa
     have q:=za (Ek z (f:=gk-1) (x:=y) (by rw[show gk-1+1=gk from by omega];exact O.out));go_wp2_with fail
     refine(bw g body k 0 wr b).mono ?_;rintro e w' ⟨rfl,rfl⟩;go_wp2_with fail
     refine(vG g body k 0 wr b N F).mono ?_;rintro e w3 ⟨rfl,c,rfl⟩;by_cases u:out.length<n
     ·have A:Hid (y=(2,[])):=za (by rw[q.out,zi u]);clear q;go_wp2_with fail
      refine(iX g body k 2 _ (b.drewN c)).mono ?_;rintro e h ⟨rfl,m,D⟩;have i:Below w.heap.size w h:=(d.bs c).trans (D.below (by have:=d.size;simp<;>omega) (by simp;omega));go_wp2_with fail
      refine(bw g body _ 2 h m).mono ?_;rintro e w' ⟨rfl,rfl⟩;go_wp2_with fail
      refine(bw g body _ 2 h m).mono ?_;rintro e w' ⟨rfl,rfl⟩;go_wp2;go_ret2
      exact⟨two A.out,i⟩
     have A:Hid (y=(0,out)):=za (by rw[q.out,zh u]);clear q;have ai:=sM zt yw zN (I.bs c);go_wp2_with fail
     refine(bw g body _ 0 _ (b.drewN c)).mono ?_;rintro e w' ⟨rfl,rfl⟩;go_wp2;go_ret2
     have i:=d.bs c;exact⟨two A.out,i⟩
    go_wp2_with fail
    refine(bw g body k f wr b).mono ?_;rintro e w' ⟨rfl,rfl⟩;by_cases u:out.length<n
    ·go_wp2_with fail
     refine(vH g body k f 2 wr b Yq).mono ?_;rintro e h ⟨rfl,m,D⟩;have i:Below w.heap.size w h:=d.trans (D.below (by have:=d.size;omega) (by simp;omega));go_wp2_with fail
     refine(bw g body _ f h m).mono ?_;rintro e w' ⟨rfl,rfl⟩;go_wp2_with fail
     refine(bw g body _ f h m).mono ?_;rintro e w' ⟨rfl,rfl⟩;go_wp2;go_ret2
     exact⟨two S.out,i⟩
    go_wp2_with fail
    refine(bw g body _ f wr b).mono ?_;rintro e w' ⟨rfl,rfl⟩;go_wp2_with fail
    refine(bw g body _ f wr b).mono ?_;rintro e w' ⟨rfl,rfl⟩;go_wp2;go_ret2
    have i:=d;exact⟨two S.out,i⟩
 have H0:=za p;clear p r;go_enter ZJ,Zz
 go_wp2_with fail
 refine(H.out _).mono ?_;rintro e w' ⟨rfl,rfl⟩;go_wp2;go_ret2
 exact⟨by rw[o.out,zi H0.out];rfl,zm _ _⟩
theorem Fz (s:ByteArray)(most:Int)(l:Nat)(w:World)(h:s.size<=9223372036854775807)(hx:(aB s).2.2≠0):
 Calls prog 117 #[.string s,.int .i64 most,.pointer (some ⟨l,0,none⟩)] w fun e w'=>e= .returned (.tuple #[.string ⟨[].toArray⟩,.int .i64 (aB s).2.2])/\w=w':=by
 have c:=fun w=>C9 s w h
 have m:=qw s;have hz:aY s most=if(aB s).2.2≠0 then((aB s).2.2,[])else if most<(aB s).1 then(5,[])else jf (s.extract (aB s).2.1 s.size) (aB s).1:=rfl
 generalize aB s=x at*;obtain⟨n,hd,d⟩:=x;generalize aY s most=y at*;dsimp only at*;have i:=za c;clear c hz;rcases eY d with⟨b,j,k⟩|⟨b,j,k⟩
 ·exact absurd b hx
 clear b hx m;go_enter ZJ,Zz
 go_wp2_with fail
 refine(i.out _).mono ?_;rintro e w' ⟨rfl,rfl⟩;go_wp2;go_ret2
 exact⟨rfl,rfl⟩
theorem C' (s:ByteArray)(most:Int)(i:Nat)(w:World)(d:s.size<=9223372036854775807)(hx:(aB s).2.2=0)(k:most<(aB s).1):
 Calls prog 117 #[.string s,.int .i64 most,.pointer (some ⟨i,0,none⟩)] w fun e w'=>e= .returned (.tuple #[.string ⟨[].toArray⟩,.int .i64 5])/\w=w':=by
 have b:=fun w=>C9 s w d
 have j:=qw s;have hz:aY s most=if(aB s).2.2≠0 then((aB s).2.2,[])else if most<(aB s).1 then(5,[])else jf (s.extract (aB s).2.1 s.size) (aB s).1:=rfl
 generalize aB s=x at*;obtain⟨n,hd,l⟩:=x;generalize aY s most=y at*;dsimp only at*;have h:=za b;have c:=za hz;clear b hz;subst hx;clear j c;go_enter ZJ,Zz
 go_wp2_with fail
 refine(h.out _).mono ?_;rintro e w' ⟨rfl,rfl⟩;go_wp2;go_ret2
 exact⟨rfl,rfl⟩
theorem IM (s:ByteArray)(most:Int)(m a u t p:Nat)(q:World)(hs:s.size<=9223372036854775807)(hM:ra q m a u t p)(ha:a<=9223372036854775807)(hx:(aB s).2.2=0)(hm:((aB s).1:Int)<=most)(ho:u+(aB s).1<=a)(ht:t+(aB s).1<=9223372036854775807):
 Calls prog 117 #[.string s,.int .i64 most,.pointer (some ⟨m,0,none⟩)] q fun e w'=>e= .returned (.tuple #[.string ⟨(aY s most).2.toArray⟩,.int .i64 (aY s most).1])/\ra w' m a (u+(aB s).1) (t+(aB s).1) (max p (u+(aB s).1))/\ae [m] q w':=by
 have Y:=fun w=>C9 s w hs
 have bG:=qw s;have hz:aY s most=if(aB s).2.2≠0 then((aB s).2.2,[])else if most<(aB s).1 then(5,[])else jf (s.extract (aB s).2.1 s.size) (aB s).1:=rfl
 generalize aB s=x at*;obtain⟨n,hd,er⟩:=x;generalize aY s most=y at*;dsimp only at*;have Hl:=za Y;have Hz:=za hz;clear Y hz;subst hx;obtain⟨hn,aj,ad,ag⟩:=bG rfl;have Hy:Hid (y=jf (s.extract hd s.size) n):=za (by rw[Hz.out,zh (by simp),zh (by omega)]);clear bG Hz;obtain⟨i0,hi,J,X,U⟩:=yH uk;have ak:decide (most<(n:Int))=false:=by simp;omega
 have Ht:=za (lV m a u t p n q hM ha ho ht);clear ho ht;generalize u+n=u2 at*;generalize t+n=t2 at*;generalize max p u2=p2 at*;by_cases h4:n<=4096;all_goals
  go_enter ZJ,Zz
  go_wp2_with fail
  refine(Hl.out _).mono ?_;rintro e w' ⟨rfl,rfl⟩;go_wp2_with fail
  refine Ht.out.mono ?_;rintro e w ⟨rfl,z,r⟩;go_wp2_with (at_make;(first|refine ZB _ rfl _ _ 31 rfl w.heap.size 5 i0 (.int .u8 0) 1 zt hi J X .i64 .i64 _ n rfl rfl (by omega) (by rw[U];omega) (by simp only[maxLen];omega) (by omega) ?_|refine ZB _ rfl _ _ 31 rfl w.heap.size 5 i0 (.int .u8 0) 1 zt hi J X .i64 .i64 _ 4096 rfl rfl (by omega) (by rw[U];omega) (by simp only[maxLen];omega) (by omega) ?_);intro j K M)
  have E:=(zm w.heap.size w).grown M (by omega) (by simp);have mc:=E.size;clear M;go_wp2_with fail
  refine(rR _ j).mono ?_;rintro e H ⟨rfl,l⟩;have W:ji H j.heap.size (s.extract hd s.size) 0 0:=by rw[l];exact af.new j _ _
  have eu:=qx K l;have aO:Below w.heap.size w H:=by rw[l];exact E.alloc (by omega) _
  have JG:j.heap.size<H.heap.size:=by rw[l];simp
  clear l K E;obtain⟨g,hg⟩:∃g,g=j.heap.size:=⟨_,rfl⟩
  rw[<-hg]at W JG mc⊢;clear hg;have G:(s.extract hd s.size).size<=9223372036854775807:=by rw[an _ _ _ (zg _)];omega
  generalize s.extract hd s.size=body at*;have Yp:w.heap.size<=g:=by omega
  go_wp2_with fail
  go_loopg [11] (body.size+1) (fun gk v wr=>IK g w.heap.size n body y w gk v wr)
  case atStart=>exact⟨0,[],_,_,0,rfl,eu,W,aO,.inl ⟨rfl,by omega,by simp,za Hy.out.symm,by omega⟩⟩
  case round=>
   obtain⟨k,out,h',aq,f,rfl,I,c,h,⟨rfl,N,Z,O,ab⟩|⟨hf,Yq,ah,S⟩⟩:=hrel
   ·by_cases C:k<body.size
    ·go_wp2_with fail
     refine(bw g body k 0 wr c).mono ?_;rintro e w' ⟨rfl,rfl⟩;go_wp2_with fail
     refine(vG g body k 0 wr c N G).mono ?_;rintro e w3 ⟨rfl,d,rfl⟩;have L:=za (Cd g body k (wr.drewN d) (c.drewN d) C G w.heap.size w.heap.size aq h' n out (I.bs d) Yp (zg _) (by have:=h.size;simp<;>omega) (by have:=h.size;simp<;>omega) Z hn);go_wp2_with fail
     refine L.out.mono ?_;intro e i R;obtain⟨v4,rfl,⟨h4,n4,c4,rfl⟩,aa⟩:=Fy (h.bs d) C Z O.out ab R;clear R L;go_wp2;go_roundg (gk-1)
     case measure=>omega
     case rel=>exact aa
    have A:=za (Ek C (f:=gk-1) (x:=y) (by rw[show gk-1+1=gk from by omega];exact O.out));go_wp2_with fail
    refine(bw g body k 0 wr c).mono ?_;rintro e w' ⟨rfl,rfl⟩;go_wp2_with fail
    refine(vG g body k 0 wr c N G).mono ?_;rintro e w3 ⟨rfl,d,rfl⟩;by_cases B:out.length<n
    ·have D:Hid (y=(2,[])):=za (by rw[A.out,zi B]);clear A;go_wp2_with fail
     refine(iX g body k 2 _ (c.drewN d)).mono ?_;rintro e i ⟨rfl,o,F⟩;have b:Below w.heap.size w i:=(h.bs d).trans (F.below (by have:=h.size;simp<;>omega) (by simp;omega));go_wp2_with fail
     refine(bw g body _ 2 i o).mono ?_;rintro e w' ⟨rfl,rfl⟩;go_wp2_with fail
     refine(bw g body _ 2 i o).mono ?_;rintro e w' ⟨rfl,rfl⟩;go_wp2;go_ret2
     exact⟨two D.out,z.only (ae.ah b (zg _)) (by simp),r.trans' (ae.ah b (zg _)) (by simp)⟩
    have D:Hid (y=(0,out)):=za (by rw[A.out,zh B]);clear A;have ai:=sM zt yw zN (I.bs d);go_wp2_with fail
    refine(bw g body _ 0 _ (c.drewN d)).mono ?_;rintro e w' ⟨rfl,rfl⟩;go_wp2;go_ret2
    have b:=h.bs d;exact⟨two D.out,z.only (ae.ah b (zg _)) (by simp),r.trans' (ae.ah b (zg _)) (by simp)⟩
   go_wp2_with fail
   refine(bw g body k f wr c).mono ?_;rintro e w' ⟨rfl,rfl⟩;by_cases B:out.length<n
   ·go_wp2_with fail
    refine(vH g body k f 2 wr c Yq).mono ?_;rintro e i ⟨rfl,o,F⟩;have b:Below w.heap.size w i:=h.trans (F.below (by have:=h.size;omega) (by simp;omega));go_wp2_with fail
    refine(bw g body _ f i o).mono ?_;rintro e w' ⟨rfl,rfl⟩;go_wp2_with fail
    refine(bw g body _ f i o).mono ?_;rintro e w' ⟨rfl,rfl⟩;go_wp2;go_ret2
    exact⟨two S.out,z.only (ae.ah b (zg _)) (by simp),r.trans' (ae.ah b (zg _)) (by simp)⟩
   go_wp2_with fail
   refine(bw g body _ f wr c).mono ?_;rintro e w' ⟨rfl,rfl⟩;go_wp2_with fail
   refine(bw g body _ f wr c).mono ?_;rintro e w' ⟨rfl,rfl⟩;go_wp2;go_ret2
   have b:=h;exact⟨two S.out,z.only (ae.ah b (zg _)) (by simp),r.trans' (ae.ah b (zg _)) (by simp)⟩
theorem Da :∀(x:Ty) (B:Nat) (w:World) (z r j E:Value),cG w B x z r j E->B<=w.heap.size->x.count<=4611686018427387904->
 Calls prog 53 #[.agg #[z,r,j,E]] w fun e w'=>e= .returned (.int .i64 x.count)/\Below w.heap.size w w':=by
 intro x;induction x using Ty.ind with
 |h ki s l ta ih=>
  intro B w z r j E h X S;obtain⟨rfl,rfl,rfl,J,O,K,hs,A,cap,rfl,so,mA,L⟩:=h;have W:=za ih;have Y:=za L;unfold mL at J O K;obtain⟨RB,RA⟩:=J;obtain⟨Rz,RD⟩:=O;obtain⟨RC,JH⟩:=K;clear ih L;have qN:1+ba l<=4611686018427387904:=by simpa only[Ty.count]using S
  rw[show(Ty.mk ki s l ta).count=1+ba l from by simp only[Ty.count]];clear S;go_enter func53,ntmps53
  go_wp2_with fail
  go_loopw [3,4] (fun n i wr=>∃k m:Nat,k<=l.length/\i= .int .i64 k/\Hid (m=1+ba (l.take k))/\n= .int .i64 m/\Below w.heap.size w wr/\wr.cell? ⟨w.heap.size,2,none⟩=some (.slice A l.length cap)) (fun _ i _=>l.length-(intOf i).toNat)
  case atStart=>exact⟨0,1,by omega,rfl,za (by simp[ba]),rfl,bT,by simp⟩
  case round=>
   obtain⟨k,m,hk,rfl,G,rfl,c,N⟩:=hrel;by_cases u:k<l.length
   ·obtain⟨b,o,d0,d1,d2,d3,rfl,fL,C,D,F,y,hi⟩:=Y.out.at_ k u;simp only[zQ]at C D F y;replace C:=(c.cell (p:=⟨b,o+k*4,none⟩) (by simp;omega)).trans C;replace D:=(c.cell (p:=⟨b,o+k*4+1,none⟩) (by simp;omega)).trans D;replace F:=(c.cell (p:=⟨b,o+k*4+2,none⟩) (by simp;omega)).trans F;replace y:=(c.cell (p:=⟨b,o+k*4+3,none⟩) (by simp;omega)).trans y;have mc:=c.size;have lC:=zR u;have M:=hi.below (c.mono X);have Ou:=Es l k u;have Z:=uP l (k+1);have d:=G.out;obtain⟨q,R⟩:∃q,l[k].count=q:=⟨_,rfl⟩
    have aa:m+q<=4611686018427387904:=by omega
    have Hq:Hid (m+q=1+ba (l.take (k+1))):=za (by omega);have H:=za (W.out _ lC B wr d0 d1 d2 d3 M (by omega) (by omega));rw[R]at H;clear Ou Z d R M hi;go_wp2_with fail
    refine H.out.mono ?_;rintro e w2 ⟨rfl,I⟩;have jJ:=lt_of_cell N;have gC:=(I.cell (p:=⟨w.heap.size,2,none⟩) (by simp;omega)).trans N;have ca:=c.trans (I.mono mc);go_wp2;go_roundw
    case rel=>exact⟨k+1,m+q,by omega,by go_num,Hq,by go_num,ca,gC⟩
    case measure=>simp[intOf];omega
   have d:=G.out;rw[zz (by omega)]at d;have U:=za d;clear d;go_wp2;go_ret;exact⟨by show Ending.returned (.int .i64 m)=_;rw[U.out],c⟩
theorem FA :∀(x:Ty) (B:Nat) (w:World) (F y u I:Value),cG w B x F y u I->B<=w.heap.size->x.deep<=4611686018427387904->
 Calls prog 54 #[.agg #[F,y,u,I]] w fun e w'=>e= .returned (.int .i64 x.deep)/\Below w.heap.size w w':=by
 intro x;induction x using Ty.ind with
 |h ki s l ta ih=>
  intro B w F y u I h hB hc;obtain⟨rfl,rfl,rfl,U,Z,X,hs,A,cap,rfl,so,mA,Y⟩:=h;have IH:=za ih;have HS:=za Y;unfold mL at U Z X;obtain⟨RB,RA⟩:=U;obtain⟨Rz,RD⟩:=Z;obtain⟨RC,JH⟩:=X;clear ih Y;have qN:dJ l+1<=4611686018427387904:=by simpa only[Ty.deep]using hc
  rw[show(Ty.mk ki s l ta).deep=dJ l+1 from by simp only[Ty.deep]];clear hc;go_enter func54,ntmps54
  go_wp2_with fail
  go_loopw [3,4] (fun n i wr=>∃k m:Nat,k<=l.length/\i= .int .i64 k/\Hid (m=dJ (l.take k))/\m<=4611686018427387904/\n= .int .i64 m/\Below w.heap.size w wr/\wr.cell? ⟨w.heap.size,2,none⟩=some (.slice A l.length cap)) (fun _ i _=>l.length-(intOf i).toNat)
  case atStart=>exact⟨0,0,by omega,rfl,za (by simp[dJ]),by omega,rfl,bT,by simp⟩
  case round=>
   obtain⟨k,m,hk,rfl,O,Yo,rfl,c,r⟩:=hrel;by_cases z:k<l.length
   ·obtain⟨b,o,d0,d1,d2,d3,rfl,fL,G,H,J,D,hi⟩:=HS.out.at_ k z;simp only[zQ]at G H J D;replace G:=(c.cell (p:=⟨b,o+k*4,none⟩) (by simp;omega)).trans G;replace H:=(c.cell (p:=⟨b,o+k*4+1,none⟩) (by simp;omega)).trans H;replace J:=(c.cell (p:=⟨b,o+k*4+2,none⟩) (by simp;omega)).trans J;replace D:=(c.cell (p:=⟨b,o+k*4+3,none⟩) (by simp;omega)).trans D;have W:=c.size;have lC:=zR z;have M:=hi.below (c.mono hB);have S:=Hf l k z;have R:=Au l (k+1);have d:=O.out;obtain⟨q,N⟩:∃q,l[k].deep=q:=⟨_,rfl⟩
    have aa:q<=4611686018427387904:=by omega
    have C:=za (IH.out _ lC B wr d0 d1 d2 d3 M (by omega) (by omega));rw[N]at C;by_cases Gi:m<q
    ·have L:Hid (q=dJ (l.take (k+1))):=za (by omega);clear S R d N M hi;go_wp2_with fail
     refine C.out.mono ?_;rintro e w2 ⟨rfl,j⟩;have jJ:=lt_of_cell r;have E:=(j.cell (p:=⟨w.heap.size,2,none⟩) (by simp;omega)).trans r;have K:=c.trans (j.mono W);go_wp2;go_roundw
     case rel=>exact⟨k+1,q,by omega,by go_num,L,by omega,by go_num,K,E⟩
     case measure=>simp[intOf];omega
    have L:Hid (m=dJ (l.take (k+1))):=za (by omega);clear S R d N M hi;go_wp2_with fail
    refine C.out.mono ?_;rintro e w2 ⟨rfl,j⟩;have jJ:=lt_of_cell r;have E:=(j.cell (p:=⟨w.heap.size,2,none⟩) (by simp;omega)).trans r;have K:=c.trans (j.mono W);go_wp2;go_roundw
    case rel=>exact⟨k+1,m,by omega,by go_num,L,by omega,by go_num,K,E⟩
    case measure=>simp[intOf];omega
   have d:=O.out;rw[zz (by omega)]at d;have HM:=za d;clear d;go_wp2;go_ret;exact⟨by show Ending.returned (.int .i64 ((m:Int)+1))=_;rw[HM.out];go_num,c⟩
