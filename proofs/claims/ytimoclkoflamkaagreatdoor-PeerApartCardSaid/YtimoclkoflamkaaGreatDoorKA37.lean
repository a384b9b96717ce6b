/- squeeze.Pack tells 'pack'. -/
import Derived.Test.YtimoclkoflamkaaGreatDoorKA30
set_option linter.all false
set_option maxRecDepth 100000
set_option maxHeartbeats 4000000
open Go.Proofs.Tryz
namespace Go.Proofs.YtimoclkoflamkaaGreatDoor
open Go.RowKit Go.Maps
variable {w wr w':World}{B i d f p j k m n base h cap g:Nat}{s:ByteArray}{D:DataW Unit}{l L X a o:List UInt8}{v:Value}{e:TypeId}
def xM:=@Lib.bytesWorld_size
def xR:=@Lib.wpList_append_own_string
def Zk:=@wpList_lookup_own_ok_int
def ZJ:=@ntmps181
def ZK:=@ntmps146
def ZS:=@func181
def ZT:=@func146
def ZX:=@underlying236
structure PW (s:ByteArray)(w:World)(g0 B mB kI:Nat)(D:DataW Unit)(wr:World):Prop where
 below:Below w.heap.size w wr
 cells:∀k,k<s.size->wr.cell? (g0,k)=some (.int .u8 (s.data.toList.getD k 0).toNat)
 hgB:g0<B
 hBm:B<=mB
 VX:w.heap.size<=B
 map:wr.ownsMap prog 237 (plainElem prog 3) mB kI D
theorem PW.lt {c b:Nat}(h:PW s w c B b d D wr):b<wr.heap.size:=h.map.lt
theorem PW.kept {b:Nat}(h:PW s w d B b i D wr)(c:Kept 5 B wr w'):PW s w d B b i D w':=by
 refine⟨h.below.trans (c.below.mono h.VX),fun k n=>(c.below.cell (p:=(d,k)) h.hgB).trans (h.cells k n),h.hgB,h.hBm,h.VX, ?_⟩;obtain⟨es,clock,j,F,m,l⟩:=h.map;exact⟨es,clock,c.other b _ j (by intro o q e;cases e),F,m,l⟩
theorem PW.later {b c:Nat}(h:PW s w d B b c D wr)(e:Below wr.heap.size wr w'):PW s w d B b c D w':=
 h.kept (Kept.ai e (zd _) (by have:=h.lt;have:=h.hBm;omega))
theorem PW.k6 {c:Nat}{e:DataW Unit}(h:PW s w d B c m D wr)(n:w'.ownsMap prog 237 (plainElem prog 3) c j e)(b:wr.grownBy w' (some c)):PW s w d B c j e w':=by
 have q:=h.lt;have l:=h.hgB;have o:=h.hBm;have p:=h.VX;refine⟨h.below.trans ⟨b.os,b.tape,b.output,b.size,fun k i=>b.block k (by omega) (by simp;omega)⟩,fun k i=>(zB (a:=(d,k)) (b.block d (by omega) (by simp;omega))).trans (h.cells k i),l,o,p,n⟩
theorem PW.buf {o c:Nat}(h:PW s w o B c j D wr)(i:bP wr B 5 v l)(p:wr.grownBy w' (some c)):bP w' B 5 v l:=by
 obtain⟨es,clock,k,_⟩:=h.map;obtain⟨A,cap,m,d,n,b⟩:=i;refine⟨A,cap,m,d,n, ?_⟩;rcases b with b|⟨g,cur,fr,hA,hgb,hh,r⟩
 ·exact .inl b
 refine .inr ⟨g,cur,fr,hA,hgb,(p.block g (yd.1 hh).1 ?_).trans hh,r⟩;intro e;injection e with e;subst e;rw[k]at hh;cases hh
theorem PW.four {b l:Nat}(h:PW s w b B k l D wr)(hi:i+4<=s.size):∃d j e c:Nat,(wr,b,i,Value.int .u8 d)/\(wr,b,i+1,Value.int .u8 j)/\(wr,b,i+2,Value.int .u8 e)/\(wr,b,i+3,Value.int .u8 c)/\
 keyOf prog 237 (.agg #[.int .u8 d,.int .u8 j,.int .u8 e,.int .u8 c])=some (gl s.data.toList i):=
 ⟨_,_,_,_,h.cells i (by omega),h.cells (i+1) (by omega),h.cells (i+2) (by omega),h.cells (i+3) (by omega),rU s.data.toList i⟩
def PAt (s:ByteArray)(w:World)(g0 B mB:Nat)(v5 v7 v8:Value)(wr:World):Prop:=
 ∃(i p f kI:Nat) (A:Option Addr) (n cap:Nat) (l:List UInt8) (D:DataW Unit),v5= .slice A n cap/\v7= .int .i64 p/\v8= .int .i64 i/\p<=i/\i<=s.size/\kI<=i/\s.size-i<f/\
  bP wr B 5 (.slice A n cap) l/\l++pk s.data.toList f p i=pack s.data.toList/\PW s w g0 B mB kI D wr/\MI s.data.toList D i
def PIn (s:ByteArray)(w:World)(g0 B mB i sz:Nat)(A:Option Addr)(n cap:Nat)(l:List UInt8)(v8 N0:Value)(wr:World):Prop:=
 ∃(c kI:Nat) (D:DataW Unit),N0= .int .i64 c/\v8= .int .i64 ((i+c:Nat):Int)/\c<=sz/\kI<=i+c/\bP wr B 5 (.slice A n cap) l/\PW s w g0 B mB kI D wr/\MI s.data.toList D (i+c)
theorem KM (h:l++pk L f p i=X)(c:L.length-i<f)(hi:i<L.length)(b:Ia L i i=none):l++pk L (f-1) p (i+1)=X:=by
 obtain⟨g,rfl⟩:∃g,f=g+1:=⟨f-1,by omega⟩
 unfold pk at h;rw[zj hi,b]at h;exact h
theorem TS (h:l++pk L f p i=X)(e:L.length-i<f)(hi:i<L.length)(c:Ia L i i=some j)(d:a=(L.take i).drop p)(b:mt L j i 64=n):((l++ig a)++kM n (i-j))++pk L (f-1) (i+n) (i+n)=X:=by
 obtain⟨g,rfl⟩:∃g,f=g+1:=⟨f-1,by omega⟩
 unfold pk at h;rw[zj hi,c]at h;subst b;subst d;rw[<-h];simp
theorem XA (h:l++pk L f p i=X)(c:L.length-i<f)(hi:¬i<L.length)(b:a=L.drop p):l++ig a=X:=by
 obtain⟨g,rfl⟩:∃g,f=g+1:=⟨f-1,by omega⟩
 unfold pk at h;rw[zi hi]at h;subst b;exact h
theorem ack (h:l++pk L f p i=pack L)(b:L.length<=65536):l.length<=70000:=by
 have c:=sG L b;have:=yp List.length h;rw[zk]at this;omega
theorem TT (base:Nat)(v:Value)(l:List UInt8)(n d:Nat)(b:Int)(w:World)(h:bP w base 5 v l)(c:base<=w.heap.size)(j:l.length<=1000000)(k:4<=n)(i:n<=64)(hd:d<65536)(e:b=d):
 Calls prog 179 #[v,n,b] w (P5 base w (l++kM n d)):=by
 subst e;exact TO base v l n d w h c j k i hd
theorem Qk {a b:Int}(h:(DataW.lit (.int .i64 a):DataW Unit)= .lit (.int .i64 b)):a=b:=by
 injection h with h;injection h
theorem FP (w:World)(a:Addr)(c:Nat):(Instr.arrayAt 237 (.slice (some a) 4 c)).run prog w= .ok (.pointer (some a)) w:=by
 simp[Instr.arrayAt,xW ZW]
theorem XB (s:ByteArray)(w:World)(hs:s.size<=65536):
 Calls prog 145 #[.string s] w fun e w'=>e= .returned (.tuple #[.string ⟨(pack s.data.toList).toArray⟩,.int .i64 0])/\Below w.heap.size w w':=by
 have kc:=fun(w:World) (s:ByteArray)=>Lib.run_convert_string_bytes (P:=prog) w 9 75 5 s zM zq yt
 have O:= @run_makeMap prog;have kA:=FP;have H1:=za (fun w=>vJ s.size w (by omega));go_enter func145,ntmps145
 go_wp2_with fail
 refine(H1.out _).mono ?_;rintro e b ⟨rfl,q⟩;have cw:=q.size;rw[xM]at cw;have Ry:∀k,k<s.size->b.cell? ⟨w.heap.size,k,none⟩=some (.int .u8 (s.data.toList.getD k 0).toNat):=fun k hk=>(q.cell (p:=⟨w.heap.size,k,none⟩) (by rw[xM];simp)).trans (Lib.bytesWorld_cell w _ s k hk)
 have V7:Below w.heap.size w b:=(Lib.bytesWorld_below w 5 s).trans (q.mono (by rw[xM];omega));have hT:(⟨(aR s.size).toArray⟩:ByteArray).size=(aR s.size).length:=bG _;have VP:=bw 3 s.size (by omega) (by omega);have ad:=bP.conv b b.heap.size 5 ⟨(aR s.size).toArray⟩ (zd _) (by omega);have nH:s.size<=grownCap w s.size 0 5:=grownCap_ge _ _ _ _;have aH:grownCap w s.size 0 5<=9223372036854775807:=by simpa[maxLen]using Zo w s.size 0 5 (by simp[maxLen];omega)
 rw[hT]at ad;have af:PW s w w.heap.size b.heap.size (Lib.bytesWorld b 5 ⟨(aR s.size).toArray⟩).heap.size 0 (.map []) ((Lib.bytesWorld b 5 ⟨(aR s.size).toArray⟩).alloc (.map #[] 0)):=by
  have Cu:=Lib.bytesWorld_below b 5 ⟨(aR s.size).toArray⟩;refine⟨(V7.trans (Cu.mono (by omega))).alloc (by rw[xM];omega) _,fun k hk=> ?_,by omega,by rw[xM];omega,by omega,World.ownsMap_made _ _ _ _⟩;rw[zI _ _ _ (by rw[xM];simp;omega),Cu.cell (p:=⟨w.heap.size,k,none⟩) (by simp;omega)];exact Ry k hk
 have V8:=ad.alloc (.map #[] 0);have mq:=za V8;have al:=za af;clear af V8 ad Ry hT q V7;go_wp2;generalize grownCap w s.size 0 5=DN at*;generalize (Lib.bytesWorld b 5 ⟨(aR s.size).toArray⟩).heap.size=mB at*;generalize (Lib.bytesWorld b 5 ⟨(aR s.size).toArray⟩).alloc (.map #[] 0)=w2 at*;generalize grownCap b (aR s.size).length 0 5=wY at*;go_loopw [5,7,8] (fun v5 v7 r wr=>PAt s w w.heap.size b.heap.size mB v5 v7 r wr) (fun _ _ r _=>s.size-(intOf r).toNat)
 case atStart=>exact⟨0,0,s.size+1,0,_,_,_,_,_,rfl,rfl,rfl,by omega,by omega,by omega,by omega,mq.out,by simp[pack,aa],al.out,MI.start _⟩
 case round=>
  obtain⟨i,p,f,H,A,n,cap,l,ab,rfl,rfl,rfl,aB,hi,qP,hf,K,hl,y,ak⟩:=hrel;have S:=za ak;have W:=za hl;have nJ:=y.lt;have aJ:=y.hBm;have aG:=ack hl (by simpa using hs);have E:=za hf;clear ak hl;by_cases aD:i<s.size
  ·obtain⟨wo,an⟩:∃wo:World,wo=wr:=⟨_,rfl⟩
   subst an;by_cases X:i+4<=s.size
   ·have F:=Pn s.data.toList i (by simpa using X) i (zd _);have R:=S.out.2 i (by simpa using X);obtain⟨c0,c1,J,c3,M,U,N,q3,C⟩:=y.four X;have aE:¬DN=i:=by omega
    have aj:=za C;have Z:=y.map;clear C;cases hlg:jF s.data.toList i i with
    |none=>
     have az:=R.2 hlg;rw[hlg]at F;have L:=za F;clear R hlg F;go_wp2_with (at_lookup;refine Zk _ rfl _ _ 236 rfl 237 3 .i64 rT ZX yF (KG _) mB H _ rfl Z _ _ rfl aj.out ?_;intro cj cG Ow)
     clear cG Ow M U N q3 Z;go_loopw [8,65] (fun r o wr=>PIn s w w.heap.size b.heap.size mB i 1 A n cap l r o wr) (fun _ o _=>1-(intOf o).toNat)
     case atStart=>exact⟨0,H,ab,rfl,rfl,by omega,by omega,K,y,S.out⟩
     case round=>
      obtain⟨c,h,D,rfl,rfl,hc,VY,u,d,B⟩:=hrel;have x:=za B;clear B;by_cases NR:c<1
      ·by_cases z:i+c+4<=s.size
       ·obtain⟨c0,c1,J,c3,M,U,N,q3,C⟩:=d.four z;have HK:=za C;have bC:=d.map;clear C;go_wp2_with (at_mapUpdate;refine wpList_mapUpdate_own _ rfl _ _ _ 236 rfl 237 3 rT ZX _ mB h _ rfl bC (by unfold maxLen;omega) _ _ _ rfl rfl HK.out _ [] (plainElem_int yF (WalkArith.wf_i64 (by omega))) ?_;intro w5 Rz I)
        go_roundw
        case rel=>exact⟨c+1,h+1,_,by go_num,by go_num,by omega,by omega,d.buf u I,d.k6 Rz I,x.out.put (by simpa using z)⟩
        case measure=>simp[intOf];omega
       omega
      go_wp2;go_roundw
      case rel=>exact⟨i+1,p,f-1,h,A,n,cap,l,D,rfl,rfl,by go_num,by omega,by omega,by omega,by have:=E.out;omega,u,KM W.out (by simpa using E.out) (by simpa using aD) L.out,d,by rw[show i+1=i+c from by omega];exact x.out⟩
      case measure=>simp[intOf];omega
    |some j=>
     have sq:=Po _ _ _ _ hlg;obtain⟨az,RA⟩:=R.1 j hlg;have Cq:=za RA;rw[hlg]at F;have L:=za F;have Ov:=(pW _ _ _ _ F).2;have O:=By s.data.toList 64 j i;have aw:=O.2 (by simpa using hi);rw[aa]at aw;have au:=O.1;have ay:=za (fun w=>TP s j i w sq hi hs);generalize VZ:mt s.data.toList j i 64=m at*;have rr:=za VZ;have ai:(s.extract p i).size<=65536:=by rw[ar _ _ _ hi];omega
     have av:=za (TS W.out (by simpa using E.out) (by simpa using aD) L.out (aq s p i) rr.out);have VK:(l++ig (s.extract p i).data.toList).length<=200000:=by
      have:=j8 (s.extract p i).data.toList (by rw[aa];exact ai);rw[aa]at this;have h3:(if(s.extract p i).size=0 then 0 else if(s.extract p i).size<=60 then 1 else if(s.extract p i).size<=256 then 2 else 3)<=3:=by split<;>(try split)<;>(try split)<;>omega
      rw[zk];omega
     clear R hlg F RA O VZ;go_wp2_with (at_lookup;refine Zk _ rfl _ _ 236 rfl 237 3 .i64 rT ZX yF (KG _) mB H _ rfl Z _ _ rfl aj.out ?_;intro cj cG Ow;obtain rfl:=Qk (cG.symm.trans Cq.out);clear cG Ow)
     refine(KE b.heap.size _ l (s.extract p i) _ K (by omega) (by omega) ai).mono ?_;rintro e w3 ⟨A1,n1,aA,rfl,q,G⟩;have aC:=G.size;have ag:=y.kept G;go_wp2_with fail
     refine(ay.out _).mono ?_;rintro e w4 ⟨rfl,Y⟩;have SI:=Y.size;have ae:=ag.later Y;have ah:=q.below Y;go_wp2_with fail
     refine(TT b.heap.size _ _ m (i-j) ((i:Int)-j) _ ah (by omega) (by omega) Ov au (by omega) (by omega)).mono ?_;rintro e w5 ⟨A2,n2,J,rfl,aI,dT⟩;have ao:=ae.kept dT;clear q ah ag ae y K M U N q3 Z G dT Y;go_wp2;go_loopw [8,65] (fun r o wr=>PIn s w w.heap.size b.heap.size mB i m A2 n2 J _ r o wr) (fun _ o _=>m-(intOf o).toNat)
     case atStart=>exact⟨0,H,ab,rfl,rfl,by omega,by omega,aI,ao,S.out⟩
     case round=>
      obtain⟨c,h,D,rfl,rfl,hc,VY,u,d,B⟩:=hrel;have x:=za B;clear B;by_cases NR:c<m
      ·by_cases z:i+c+4<=s.size
       ·obtain⟨c0,c1,J,c3,M,U,N,q3,C⟩:=d.four z;have HK:=za C;have bC:=d.map;clear C;go_wp2_with (at_mapUpdate;refine wpList_mapUpdate_own _ rfl _ _ _ 236 rfl 237 3 rT ZX _ mB h _ rfl bC (by unfold maxLen;omega) _ _ _ rfl rfl HK.out _ [] (plainElem_int yF (WalkArith.wf_i64 (by omega))) ?_;intro w5 Rz I)
        go_roundw
        case rel=>exact⟨c+1,h+1,_,by go_num,by go_num,by omega,by omega,d.buf u I,d.k6 Rz I,x.out.put (by simpa using z)⟩
        case measure=>simp[intOf];omega
       go_wp2;go_roundw
       case rel=>exact⟨c+1,h,D,by go_num,by go_num,by omega,by omega,u,d,x.out.skip (by simpa using z)⟩
       case measure=>simp[intOf];omega
      go_wp2;go_roundw
      case rel=>exact⟨i+m,i+m,f-1,h,A2,n2,J,_,D,rfl,by go_num,by go_num,by omega,by omega,by omega,by have:=E.out;omega,u,av.out,d,by rw[show i+m=i+c from by omega];exact x.out⟩
      case measure=>simp[intOf];omega
   have L:=za (vF s.data.toList i (by simpa using hi) (by simpa using X) i (zd _));go_wp2;go_loopw [8,65] (fun r o wr=>PIn s w w.heap.size b.heap.size mB i 1 A n cap l r o wr) (fun _ o _=>1-(intOf o).toNat)
   case atStart=>exact⟨0,H,ab,rfl,rfl,by omega,by omega,K,y,S.out⟩
   case round=>
    obtain⟨c,h,D,rfl,rfl,hc,VY,u,d,B⟩:=hrel;have x:=za B;have z:¬i+c+4<=s.size:=by omega
    clear B;by_cases NR:c<1
    ·go_wp2;go_roundw
     case rel=>exact⟨c+1,h,D,by go_num,by go_num,by omega,by omega,u,d,x.out.skip (by simpa using z)⟩
     case measure=>simp[intOf];omega
    go_wp2;go_roundw
    case rel=>exact⟨i+1,p,f-1,h,A,n,cap,l,D,rfl,rfl,by go_num,by omega,by omega,by omega,by have:=E.out;omega,u,KM W.out (by simpa using E.out) (by simpa using aD) L.out,d,by rw[show i+1=i+c from by omega];exact x.out⟩
    case measure=>simp[intOf];omega
  have HE:=za (XA W.out (by simpa using E.out) (by simpa using aD) (show(s.extract p s.size).data.toList=s.data.toList.drop p by rw[aq,cP]));have ax:(s.extract p s.size).size<=65536:=by rw[ar _ _ _ (zd _)];omega
  go_wp2_with fail
  refine(KE b.heap.size _ l (s.extract p s.size) _ K (by omega) (by omega) ax).mono ?_;rintro e w3 ⟨A1,n1,c1,rfl,q,G⟩;rw[HE.out]at q;have aF:=q.H' (P:=prog) zq yt zM;have HB:=za ((y.kept G).below);clear q G;go_wp2;go_ret2
  exact⟨rfl,HB.out⟩
open Go.RowKit
theorem uz :(prog.info? 5).map (fun i=>(i.zero,i.size,i.bytes))=some (some (.int .u8 0),1,1):=by kernel_rfl
theorem I0 (g bx:Nat)(s:ByteArray)(k n:Nat)(w:World)(h:iL w g s k 0)(hx:w.cell? (bx,0)=some (.pointer (some (g,0))))(p:s.size<=9223372036854775807)(c:k+n<=s.size)(u:1<=n)(x:n<=4):
 Calls prog 213 #[n,(bx,0)] w fun e w'=>e= .returned (.int .i64 (da (s.extract k (k+n)).data.toList))/\iL w' g s (k+n) 0/\ae [g] w w':=by
 have b:=eD g s k n w h p c;have hz:(s.extract k (k+n)).size=n:=by rw[ar _ _ _ c];omega
 have d:=fun w=>eX (s.extract k (k+n)) w (by omega) (by omega)
 have i:=jy (s.extract k (k+n)).data.toList;have q:2^(8*(s.extract k (k+n)).data.toList.length)<=2^32:=yq (by omega) (by rw[aa,hz];omega);have r:da (s.extract k (k+n)).data.toList<=4294967295:=by omega
 have j:=za b;have m:=za d;clear i q hz b d h;generalize da (s.extract k (k+n)).data.toList=N at*;go_enter func213,ntmps213
 go_wp2_with fail
 refine j.out.mono ?_;rintro e w' ⟨rfl,o,l⟩;go_wp2_with fail
 refine(m.out _).mono ?_;rintro e y ⟨rfl,rfl⟩;go_wp2;go_ret;exact⟨rfl,o,l⟩
theorem jl (g bx:Nat)(s:ByteArray)(k n:Nat)(w:World)(h:iL w g s k 0)(hx:w.cell? (bx,0)=some (.pointer (some (g,0))))(d:k<=s.size)(l:s.size<=9223372036854775807)(i:s.size<k+n)(m:n<=4):
 Calls prog 213 #[n,(bx,0)] w fun e w'=>e= .returned (0:Int)/\iL w' g s k 2/\ae [g] w w':=by
 have b:=za (fZ g s k n w h d l i (by omega));clear h;go_enter func213,ntmps213
 go_wp2_with fail
 refine b.out.mono ?_;rintro e w' ⟨rfl,j,c⟩;go_wp2_with fail
 refine(mZ _ _ rfl).mono ?_;rintro e o ⟨rfl,rfl⟩;go_wp2;go_ret;exact⟨rfl,j,c⟩
theorem XC (b:Nat)(c:b<256):bits .and .u8 (b:Int) 3=((b%4:Nat):Int):=by
 have:=u8_and_nat b 3 c (by omega);rw[nat_mask2]at this;exact this
theorem FQ (g bx:Nat)(s:ByteArray)(k n N:Nat)(w:World)(h:iL w g s k 0)(hx:w.cell? (bx,0)=some (.pointer (some (g,0))))(j:s.size<=9223372036854775807)(c:k+n<=s.size)(b:1<=n)(i:n<=4)(d:da (s.extract k (k+n)).data.toList=N):
 Calls prog 213 #[n,(bx,0)] w fun e w'=>e= .returned N/\iL w' g s (k+n) 0/\ae [g] w w':=by
 subst d;exact I0 g bx s k n w h hx j c b i
theorem KN (s:ByteArray)(k b:Nat)(c:b<256)(h:k+bg b<=s.size):iD s k b<=4294967295:=by
 have i:=jy (s.extract (k+1) (k+bg b)).data.toList;have d:=Bj b c;have e:2^(8*(s.extract (k+1) (k+bg b)).data.toList.length)<=2^32:=yq (by omega) (by rw[aa,ar _ _ _ h];omega);unfold iD;omega
theorem M3 (b n N c:Nat)(h:b<256)(i:b%4≠0)(d:cK b N=n)(e:j4 b N=c):
 (bits .and .u8 (b:Int) 3=1/\Hid (bg b=2)/\Hid (4+(b:Int)/4%8=n)/\Hid ((b:Int)/4/8*256+N=c))\/
 (bits .and .u8 (b:Int) 3=2/\Hid (bg b=3)/\Hid ((b:Int)/4+1=n)/\Hid ((N:Int)=c))\/
 (bits .and .u8 (b:Int) 3=3/\Hid (bg b=5)/\Hid ((b:Int)/4+1=n)/\Hid ((N:Int)=c)):=by
 rw[XC b h];rcases(show b%4=1\/b%4=2\/b%4=3 from by omega)with hm|hm|hm
 ·refine .inl ⟨by rw[hm];rfl,za (by simp[bg,hm]),za ?_,za ?_⟩
  ·simp[cK,hm]at d;omega
  simp[j4,hm]at e;omega
 ·refine .inr (.inl ⟨by rw[hm];rfl,za (by simp[bg,hm]),za ?_,za ?_⟩)
  ·simp[cK,hm]at d;omega
  simp[j4,hm]at e;omega
 refine .inr (.inr ⟨by rw[hm];rfl,za (by simp[bg,hm]),za ?_,za ?_⟩)
 ·simp[cK,hm]at d;omega
 simp[j4,hm]at e;omega
theorem vU (o:List UInt8)(d q:Nat)(h:d+q<=o.length):(cb ((o.drop d).take q)).length=q*1:=by
 rw[aO,zU,zP];omega
theorem vV (b:w.ownsRow base e 1 (.slice (some (h,0)) o.length cap) o.length (cb o))(d q:Nat)(hd:d+q<=o.length):
 ∀j u,(cb ((o.drop d).take q))[j]?=some u->w.cell? (((h,d):Addr).add j)=some u:=by
 intro j u hu;have i:j<q:=by
  have:=(y7.1 hu).1;rw[vU o d q hd]at this;omega
 have c:((h,d):Addr).add j=⟨h,d+j,none⟩:=by
  unfold Addr.add;split<;>simp_all
 rw[c,b.cellAt (d+j) (by omega),<-hu,EC,EC,yr i,xa]
theorem vW {w3:World}{c b q size:Nat}{x:List UInt8}(e:wr.ownsRow base 5 1 (.slice (some (h,0)) o.length cap) o.length (cb o))
 (p:w3.ownsRow base 5 1 (.slice (some (c,0)) (o.length+q) d) (o.length+q) (cb o++cb ((o.drop (o.length-b)).take q)))
 (l:wr.grownBy w3 (Value.slice (some (h,0)) o.length cap).ownBlock) (i:iL wr g s k 0) (r:Below B w wr) (y:B<=wr.heap.size) (D:B<=base)
 (u:ue o b m=x) (n:b<=o.length) (C:q<=m) (z:q<=b) (E:o.length+m<=size):
 Value.slice (some (c,0)) (o.length+q) d= .slice (some (c,0)) (o++(o.drop (o.length-b)).take q).length d/\
 w3.ownsRow base 5 1 (.slice (some (c,0)) (o++(o.drop (o.length-b)).take q).length d) (o++(o.drop (o.length-b)).take q).length (cb (o++(o.drop (o.length-b)).take q))/\
 iL w3 g s k 0/\Below B w w3/\ue (o++(o.drop (o.length-b)).take q) b (m-q)=x/\b<=(o++(o.drop (o.length-b)).take q).length/\(o++(o.drop (o.length-b)).take q).length+(m-q)<=size:=by
 have j:(o++(o.drop (o.length-b)).take q).length=o.length+q:=by
  rw[zk,zU,zP];omega
 have A:=mK e;refine⟨by rw[j],by rw[j,eG];exact p, ?_, ?_, ?_,by omega,by omega⟩
 ·exact i.only (ae.eR l) (by simp[Value.ownBlock];exact(cx e i (by decide)).symm)
 ·exact r.grown l y (by simp[Value.ownBlock];omega)
 rw[<-LM o b q z n,<-J8,show q+(m-q)=m from by omega];exact u
theorem M4 (b n size len:Nat)(c:len<=size):
 (((b=0\/len<b)\/size-len<n)/\((b:Int)==0)=true)\/(((b=0\/len<b)\/size-len<n)/\((b:Int)==0)=false/\len<b)\/
 (((b=0\/len<b)\/size-len<n)/\((b:Int)==0)=false/\b<=len/\(size:Int)-len<n)\/((¬((b=0\/len<b)\/size-len<n))/\((b:Int)==0)=false/\b<=len/\(n:Int)<=size-len/\decide (len<b)=false/\decide ((size:Int)-len<n)=false):=by
 simp only[yO,zp,Yo,yV];omega
def qy (g:Nat)(s:ByteArray)(B base:Nat)(w:World)(x:Int×Nat×List UInt8)(e:Ending)(w':World):Prop:=
 ∃h' an k',e= .returned (.slice (some ⟨h',0,none⟩) x.2.2.length an)/\w'.ownsRow base 5 1 (.slice (some ⟨h',0,none⟩) x.2.2.length an) x.2.2.length (cb x.2.2)/\
  iL w' g s k' x.1/\(x.1=0->k'=x.2.1)/\Below B w w'
theorem Dj (g:Nat)(s:ByteArray)(k b:Nat)(w:World)(h:iL w g s k 0)(hk:k<s.size)(hs:s.size<=9223372036854775807)(hb:s[k].toNat=b)(d:b<256)(Rb:b%4≠0)(l:k+bg b<=s.size)
 (B base cap G size:Nat) (out:List UInt8) (bC:w.ownsRow base 5 1 (.slice (some (G,0)) out.length cap) out.length (cb out)) (pK:B<=g) (my:B<=base) (Cf:B<=w.heap.size) (aD:out.length<=size) (fa:size<=4294967295):
 Calls prog 181 #[(g,0),.slice (some (G,0)) out.length cap,size] w (qy g s B base w (bZ s size k b out)):=by
 have bY:=cx bC h (by decide);have U:=(vQ g s k _ (h.alloc (.cells #[(g,0)] 191)) hk hs)
 rw[hb]at U;have Lu:=za U;have dR:=bC.alloc (.cells #[(g,0)] 191);have A7:=ag.new w 191 #[(g,0)];have ai:=h.lt;have hB:=(zm B w).alloc Cf (.cells #[(g,0)] 191);obtain⟨N,H⟩:∃N,iD s k b=N:=⟨_,rfl⟩
 have ae:=KN s k b d l;rw[H]at ae;obtain⟨n,M⟩:∃n,cK b N=n:=⟨_,rfl⟩
 obtain⟨c,gY⟩:∃n,j4 b N=n:=⟨_,rfl⟩
 have Lt:Hid (bZ s size k b out=if((c=0\/out.length<c))\/size-out.length<n then(3,k,out)else(0,k+bg b,ue out c n)):=by
  refine za ?_;unfold bZ;rw[H,M,gY,zi (by omega)];simp[Rb]
 obtain⟨i0,hi,dF,cw,cF⟩:=yz uz;have HN:=za H;have Hh:=za l;have Hn:=za M;have ad:=za gY;clear U h bC hb l H M gY;go_enter ZS,ZJ
 go_wp2_with fail
 refine Lu.out.mono ?_;rintro e w1 ⟨rfl,hr,F⟩;have W:Below B w w1:=hB.trans (F.below (by simp;omega) (by simp;omega));have dX:=F.own dR (by simp[Value.ownBlock];exact bY);have O:=A7.only F (by simp;omega);have GK:w1.cell? (w.heap.size,0)=some (.pointer (some (g,0))):=zX O;clear F A7 dR hB Lu;rcases M3 b n N c d Rb Hn.out ad.out with⟨Aa,l,Y,S⟩|⟨Aa,l,Y,S⟩|⟨Aa,l,Y,S⟩;all_goals
  first
   |have u:∃q:Nat,bg b=q+1/\(q:Int)=1:=⟨1,l.out,rfl⟩
   |have u:∃q:Nat,bg b=q+1/\(q:Int)=2:=⟨2,l.out,rfl⟩
   |have u:∃q:Nat,bg b=q+1/\(q:Int)=4:=⟨4,l.out,rfl⟩
  obtain⟨q,u,aa⟩:=u;have HQ:=za u;have j:=za (FQ g _ s (k+1) q N w1 hr GK hs (by have:=Hh.out;omega) (by omega) (by omega) (by rw[<-HN.out,iD,u,show k+(q+1)=k+1+q from by omega]));rw[aa]at j;clear u aa;go_wp2_with fail
  refine j.out.mono ?_;rintro e I ⟨rfl,iQ,K⟩;have Z:Below B w I:=W.trans (K.below (by have:=W.size;omega) (by simp;omega));have tZ:=O.only K (by simp;omega);have RC:I.cell? (w.heap.size,0)=some (.pointer (some (g,0))):=zX tZ;have hG:=K.own dX (by simp[Value.ownBlock];exact bY);go_wp2_with fail
  rw[Y.out,S.out];refine(bs g s _ 0 I iQ).mono ?_;rintro e w' ⟨rfl,rfl⟩;clear j K dX O GK hr W;rcases M4 c n size out.length aD with⟨y,e1⟩|⟨y,e1,L⟩|⟨y,e1,L,e3⟩|⟨y,e1,L,e3,e4,e5⟩;rotate_right
  ·have J:=za y;clear y;have ah:1<=c:=by have:=J.out;omega
   go_wp2_with fail
   go_loopw [1,11] (fun v x wr=>∃(m:Nat) (o:List UInt8) (z r:Nat),v= .slice (some (z,0)) o.length r/\x= .int .i64 m/\wr.ownsRow base 5 1 (.slice (some (z,0)) o.length r) o.length (cb o)/\
    iL wr g s (k+1+q) 0/\Below B w wr/\Hid (ue o c m=ue out c n)/\c<=o.length/\o.length+m<=size) (fun _ x _=>(intOf x).toNat)
   case atStart=>exact⟨n,out,G,cap,rfl,rfl,hG,iQ,Z,za rfl,L,by omega⟩
   case round=>
    obtain⟨m,o,z,r,rfl,rfl,i,A,d,p,ab,RB⟩:=hrel;obtain⟨D9,pJ,al,af⟩:=mK i;have aj:¬r=o.length-c:=by omega
    by_cases DZ:0<m
    ·by_cases ak:m<=c
     ·have j:=za (vU o (o.length-c) m (by omega));have D:=za (vV i (o.length-c) m (by omega));go_wp2_with (at_builtin;refine y9 _ rfl (.tmp 100) (.tmp 101) 75 rfl base 5 i0 (.int .u8 0) 1 1 zq hi dF cw cF rfl (by decide) _ _ _ rfl i (z,o.length-c) m (r-(o.length-c)) (cb ((o.drop (o.length-c)).take m)) rfl j.out D.out (uZ _) (by omega) (by simp only[maxLen];omega) (by omega) (by have:=d.size;omega) wr.heap.size rfl ?_;intro g1 X w3 C E cG YH)
      have R:=vW i C E A d (by have:=d.size;omega) (by omega) p.out ab (show m<=m from by omega) (show m<=c from by omega) RB;clear C E cG i A d p D j;go_wp2;go_roundw
      case rel=>exact⟨m-m,_,g1,X,R.1,by go_num,R.2.1,R.2.2.1,R.2.2.2.1,za R.2.2.2.2.1,R.2.2.2.2.2.1,R.2.2.2.2.2.2⟩
      case measure=>simp[intOf];omega
     have j:=za (vU o (o.length-c) c (by omega));have D:=za (vV i (o.length-c) c (by omega));go_wp2_with (at_builtin;refine y9 _ rfl (.tmp 100) (.tmp 101) 75 rfl base 5 i0 (.int .u8 0) 1 1 zq hi dF cw cF rfl (by decide) _ _ _ rfl i (z,o.length-c) c (r-(o.length-c)) (cb ((o.drop (o.length-c)).take c)) rfl j.out D.out (uZ _) (by omega) (by simp only[maxLen];omega) (by omega) (by have:=d.size;omega) wr.heap.size rfl ?_;intro g1 X w3 C E cG YH)
     have R:=vW i C E A d (by have:=d.size;omega) (by omega) p.out ab (show c<=m from by omega) (show c<=c from by omega) RB;clear C E cG i A d p D j;go_wp2;go_roundw
     case rel=>exact⟨m-c,_,g1,X,R.1,by go_num,R.2.1,R.2.2.1,R.2.2.2.1,za R.2.2.2.2.1,R.2.2.2.2.2.1,R.2.2.2.2.2.2⟩
     case measure=>simp[intOf];omega
    go_wp2;go_ret;obtain rfl:m=0:=by omega
    have p:=p.out;simp only[ue]at p;rw[Lt.out,zi J.out,HQ.out,<-p];exact⟨z,r,_,rfl,i,A,fun _=>by simp;omega,d⟩
  all_goals
   have J:=za y;clear y;go_wp2_with fail
   refine(iM g s _ 3 I iQ).mono ?_;rintro e w3 ⟨rfl,tY,fF⟩;have bJ:Below B w w3:=Z.trans (fF.below (by have:=Z.size;omega) (by simp;omega));have fP:=fF.own hG (by simp[Value.ownBlock];exact bY);go_wp2;go_ret;rw[Lt.out,zj J.out];exact⟨G,cap,_,rfl,fP,tY,(fun h=>by cases h),bJ⟩
theorem FR (n size len:Nat)(b:len<=size):(size-len<n/\(size:Int)-len<n)\/(¬size-len<n/\(n:Int)<=size-len):=by omega
theorem I4 (b:Nat)(d:b<256)(h:1<bg b):
 (bits .and .u8 (b:Int) 3=0/\60<=b/4/\∃nb:Nat,1<=nb/\nb<=4/\Hid (bg b=nb+1)/\Hid ((b:Int)/4-59=nb))\/(bits .and .u8 (b:Int) 3=1/\Hid (bg b=1+1))\/(bits .and .u8 (b:Int) 3=2/\Hid (bg b=2+1))\/(bits .and .u8 (b:Int) 3=3/\Hid (bg b=4+1)):=by
 rw[XC b d];rcases(show b%4=0\/b%4=1\/b%4=2\/b%4=3 from by omega)with hm|hm|hm|hm
 ·have c:60<=b/4:=by
   rcases xp (b/4) 60 with h1|h1
   ·simp[bg,hm,show¬60<=b/4 from by omega]at h
   exact h1
  exact .inl ⟨by rw[hm];rfl,c,b/4-59,by omega,by omega,za (by simp[bg,hm,c];omega),za (by omega)⟩
 ·exact .inr (.inl ⟨by rw[hm];rfl,za (by simp[bg,hm])⟩)
 ·exact .inr (.inr (.inl ⟨by rw[hm];rfl,za (by simp[bg,hm])⟩))
 exact .inr (.inr (.inr ⟨by rw[hm];rfl,za (by simp[bg,hm])⟩))
theorem FT (g:Nat)(s:ByteArray)(k b:Nat)(w:World)(h:iL w g s k 0)(hk:k<s.size)(I:s.size<=9223372036854775807)(hb:s[k].toNat=b)(eA:b<256)(H:b%4=0)(tU:k+bg b<=s.size)
 (B base cap x size:Nat) (out:List UInt8) (bC:w.ownsRow base 5 1 (.slice (some (x,0)) out.length cap) out.length (cb out)) (pK:B<=g) (my:B<=base) (Cf:B<=w.heap.size) (kG:base<=w.heap.size) (aD:out.length<=size) (fa:size<=4294967295):
 Calls prog 181 #[(g,0),.slice (some (x,0)) out.length cap,size] w (qy g s B base w (bZ s size k b out)):=by
 have y:=cx bC h (by decide);have oN:=(vQ g s k _ (h.alloc (.cells #[(g,0)] 191)) hk I)
 rw[hb]at oN;have Lu:=za oN;have dR:=bC.alloc (.cells #[(g,0)] 191);have A7:=ag.new w 191 #[(g,0)];have ah:=h.lt;have hB:=(zm B w).alloc Cf (.cells #[(g,0)] 191);obtain⟨N,W⟩:∃N,iD s k b=N:=⟨_,rfl⟩
 have af:=KN s k b eA tU;rw[W]at af;obtain⟨n,hn⟩:∃n,cK b N=n:=⟨_,rfl⟩
 have G:Hid (bZ s size k b out=if size-out.length<n then(3,k,out)else if s.size<k+bg b+n then(2,k,out)else(0,k+bg b+n,out++(s.extract (k+bg b) (k+bg b+n)).data.toList)):=by
  refine za ?_;unfold bZ;rw[W,hn,zi (by omega)];simp[H]
 obtain⟨i0,hi,X,R,Y⟩:=yz uz;have HN:=za W;have Hh:=za tU;have Hn:=za hn;have Aa:bits .and .u8 (b:Int) 3=0:=by rw[XC b eA,H];rfl
 clear oN h bC hb tU W hn;go_enter ZS,ZJ
 go_wp2_with fail
 refine Lu.out.mono ?_;rintro e w1 ⟨rfl,Z,O⟩;have L:Below B w w1:=hB.trans (O.below (by simp;omega) (by simp;omega));have S:=O.own dR (by simp[Value.ownBlock];exact y);have J:=A7.only O (by simp;omega);have GK:w1.cell? (w.heap.size,0)=some (.pointer (some (g,0))):=zX J;clear O A7 dR hB Lu;by_cases U:60<=b/4
 ·obtain⟨nb,ab⟩:∃nb:Nat,(b:Int)/4-59=nb:=⟨b/4-59,by omega⟩
  have m:Hid (k+1+nb=k+bg b):=za (by simp[bg,H,U];omega);have E1:Hid ((N:Int)+1=n):=za (by have:=Hn.out;simp[cK,H,U]at this;omega);have ad:=za ab;have Hl:=za (FQ g _ s (k+1) nb N w1 Z GK I (by have:=Hh.out;have:=m.out;omega) (by omega) (by omega) (by rw[<-HN.out,iD,m.out]));have YC:k+1+nb<=s.size:=by have:=Hh.out;have:=m.out;omega
  clear ab;go_wp2_with fail
  rw[ad.out];refine Hl.out.mono ?_;rintro e w2 ⟨rfl,r,cN⟩;have l:Below B w w2:=L.trans (cN.below (by have:=L.size;omega) (by simp;omega));have tZ:=J.only cN (by simp;omega);have RC:w2.cell? (w.heap.size,0)=some (.pointer (some (g,0))):=zX tZ;have D:=cN.own S (by simp[Value.ownBlock];exact y);clear Hl cN S J GK Z L;go_wp2_with fail
  rw[E1.out];refine(bs g s _ 0 _ r).mono ?_;rintro e w' ⟨rfl,rfl⟩;rcases FR n size out.length aD with⟨q,e1⟩|⟨q,e1⟩
  ·have u:=za q;clear q;go_wp2_with fail
   refine(iM g s _ 3 _ r).mono ?_;rintro e w3 ⟨rfl,j,i⟩;have d:Below B w w3:=l.trans (i.below (by have:=l.size;omega) (by simp;omega));have c:=i.own D (by simp[Value.ownBlock];exact y);go_wp2;go_ret;rw[G.out,zj u.out];exact⟨x,cap,_,rfl,c,j,(fun h=>by cases h),d⟩
  have u:=za q;clear q;by_cases AW:s.size<k+1+nb+n
  ·have A:=za (fZ g s (k+1+nb) n _ r (by omega) I AW (by omega));go_wp2_with fail
   refine A.out.mono ?_;rintro e w3 ⟨rfl,j,i⟩;have d:Below B w w3:=l.trans (i.below (by have:=l.size;omega) (by simp;omega));have c:=i.own D (by simp[Value.ownBlock];exact y);have RD:=cx c j (by decide);go_wp2_with (at_builtin;refine xR _ rfl (.tmp 82) (.tmp 85) 75 9 rfl base 5 i0 zq zM hi X R Y (.slice (some (x,0)) out.length cap) out.length (cb out) rfl c ByteArray.empty rfl (by simp[maxLen];omega) (by simp;omega) (by have:=d.size;omega) ?_;intro v' w4 o p F)
   obtain⟨C,z,rfl⟩:=mL o (by rw[Yo,F];simp);go_wp2;go_ret;rw[G.out,zi u.out,zj (by have:=m.out;omega)];refine⟨C,z,_,by simp,by simpa[Lib.strCells]using o,j.only (ae.eR p) (by simp[Value.ownBlock];omega),(fun h=>by cases h),d.grown p (by have:=d.size;omega) (by simp[Value.ownBlock];have:=mK c;omega)⟩
  have A:=za (eD g s (k+1+nb) n _ r I (by omega));have K:=za (ar s (k+1+nb) (k+1+nb+n) (by omega));have aa:Hid (s.extract (k+1+nb) (k+1+nb+n)=s.extract (k+bg b) (k+bg b+n)):=za (by rw[<-m.out]);go_wp2_with fail
  refine A.out.mono ?_;rintro e w3 ⟨rfl,j,i⟩;have d:Below B w w3:=l.trans (i.below (by have:=l.size;omega) (by simp;omega));have c:=i.own D (by simp[Value.ownBlock];exact y);have RD:=cx c j (by decide);generalize s.extract (k+1+nb) (k+1+nb+n)=E at*;go_wp2_with (at_builtin;refine xR _ rfl (.tmp 82) (.tmp 85) 75 9 rfl base 5 i0 zq zM hi X R Y (.slice (some (x,0)) out.length cap) out.length (cb out) rfl c E rfl (by rw[K.out];simp only[maxLen];omega) (by rw[K.out];omega) (by have:=d.size;omega) ?_;intro v' w4 o p F)
  obtain⟨C,z,rfl⟩:=mL o (by rw[Yo,F];simp);have M:(out++E.data.toList).length=out.length+E.size:=by simp
  go_wp2;go_ret;rw[G.out,zi u.out,zi (by have:=m.out;omega),<-aa.out];refine⟨C,z,_,by rw[M];rfl, ?_,j.only (ae.eR p) (by simp[Value.ownBlock];omega),(fun _=>by have:=m.out;simp;omega),d.grown p (by have:=d.size;omega) (by simp[Value.ownBlock];have:=mK c;omega)⟩;rw[M,eG];exact o
 have m:Hid (k+1=k+bg b):=za (by simp[bg,H,U]);have E1:Hid ((b:Int)/4+1=n):=za (by have:=Hn.out;simp[cK,H,U]at this;omega);have r:=Z;have l:=L;have D:=S;have tZ:=J;clear Z L S J;go_wp2_with fail
 rw[E1.out];refine(bs g s _ 0 _ r).mono ?_;rintro e w' ⟨rfl,rfl⟩;rcases FR n size out.length aD with⟨q,e1⟩|⟨q,e1⟩
 ·have u:=za q;clear q;go_wp2_with fail
  refine(iM g s _ 3 _ r).mono ?_;rintro e w3 ⟨rfl,j,i⟩;have d:Below B w w3:=l.trans (i.below (by have:=l.size;omega) (by simp;omega));have c:=i.own D (by simp[Value.ownBlock];exact y);go_wp2;go_ret;rw[G.out,zj u.out];exact⟨x,cap,_,rfl,c,j,(fun h=>by cases h),d⟩
 have u:=za q;clear q;by_cases AW:s.size<k+1+n
 ·have A:=za (fZ g s (k+1) n _ r (by omega) I AW (by omega));go_wp2_with fail
  refine A.out.mono ?_;rintro e w3 ⟨rfl,j,i⟩;have d:Below B w w3:=l.trans (i.below (by have:=l.size;omega) (by simp;omega));have c:=i.own D (by simp[Value.ownBlock];exact y);have RD:=cx c j (by decide);go_wp2_with (at_builtin;refine xR _ rfl (.tmp 82) (.tmp 85) 75 9 rfl base 5 i0 zq zM hi X R Y (.slice (some (x,0)) out.length cap) out.length (cb out) rfl c ByteArray.empty rfl (by simp[maxLen];omega) (by simp;omega) (by have:=d.size;omega) ?_;intro v' w4 o p F)
  obtain⟨C,z,rfl⟩:=mL o (by rw[Yo,F];simp);go_wp2;go_ret;rw[G.out,zi u.out,zj (by have:=m.out;omega)];refine⟨C,z,_,by simp,by simpa[Lib.strCells]using o,j.only (ae.eR p) (by simp[Value.ownBlock];omega),(fun h=>by cases h),d.grown p (by have:=d.size;omega) (by simp[Value.ownBlock];have:=mK c;omega)⟩
 have A:=za (eD g s (k+1) n _ r I (by omega));have K:=za (ar s (k+1) (k+1+n) (by omega));have aa:Hid (s.extract (k+1) (k+1+n)=s.extract (k+bg b) (k+bg b+n)):=za (by rw[<-m.out]);go_wp2_with fail
 refine A.out.mono ?_;rintro e w3 ⟨rfl,j,i⟩;have d:Below B w w3:=l.trans (i.below (by have:=l.size;omega) (by simp;omega));have c:=i.own D (by simp[Value.ownBlock];exact y);have RD:=cx c j (by decide);generalize s.extract (k+1) (k+1+n)=E at*;go_wp2_with (at_builtin;refine xR _ rfl (.tmp 82) (.tmp 85) 75 9 rfl base 5 i0 zq zM hi X R Y (.slice (some (x,0)) out.length cap) out.length (cb out) rfl c E rfl (by rw[K.out];simp only[maxLen];omega) (by rw[K.out];omega) (by have:=d.size;omega) ?_;intro v' w4 o p F)
 obtain⟨C,z,rfl⟩:=mL o (by rw[Yo,F];simp);have M:(out++E.data.toList).length=out.length+E.size:=by simp
 go_wp2;go_ret;rw[G.out,zi u.out,zi (by have:=m.out;omega),<-aa.out];refine⟨C,z,_,by rw[M];rfl, ?_,j.only (ae.eR p) (by simp[Value.ownBlock];omega),(fun _=>by have:=m.out;simp;omega),d.grown p (by have:=d.size;omega) (by simp[Value.ownBlock];have:=mK c;omega)⟩;rw[M,eG];exact o
theorem AJ (g:Nat)(s:ByteArray)(k b:Nat)(w:World)(h:iL w g s k 0)(W:k<s.size)(L:s.size<=9223372036854775807)(M:s[k].toNat=b)(S:b<256)(K:s.size<k+bg b)
 (B base cap J size:Nat) (out:List UInt8) (H:w.ownsRow base 5 1 (.slice (some (J,0)) out.length cap) out.length (cb out)) (pK:B<=g) (Y:B<=base) (X:B<=w.heap.size):
 Calls prog 181 #[(g,0),.slice (some (J,0)) out.length cap,size] w (qy g s B base w (bZ s size k b out)):=by
 have x:=cx H h (by decide);have I:=(vQ g s k _ (h.alloc (.cells #[(g,0)] 191)) W L)
 rw[M]at I;have z:=za I;have A:=H.alloc (.cells #[(g,0)] 191);have u:=ag.new w 191 #[(g,0)];have aa:=h.lt;have y:=(zm B w).alloc X (.cells #[(g,0)] 191);have N:Hid (bZ s size k b out=(2,k,out)):=by
  refine za ?_;unfold bZ;rw[zj K]
 rcases I4 b S (by omega:1<bg b)with⟨R,hv,nb,ab,Z,F,U⟩|⟨R,F⟩|⟨R,F⟩|⟨R,F⟩
 ·have D:s.size<k+1+nb:=by have:=F.out;omega
  clear I h H M K;go_enter ZS,ZJ
  go_wp2_with fail
  refine z.out.mono ?_;rintro e l ⟨rfl,p,c⟩;have i:Below B w l:=y.trans (c.below (by simp;omega) (by simp;omega));have n:=c.own A (by simp[Value.ownBlock];exact x);have j:=u.only c (by simp;omega);have q:l.cell? (w.heap.size,0)=some (.pointer (some (g,0))):=zX j;have o:=za (jl g _ s (k+1) nb l p q (by omega) L D (by omega));clear c u A y z;go_wp2_with fail
  rw[U.out];refine o.out.mono ?_;rintro e m ⟨rfl,r,d⟩;have E:Below B w m:=i.trans (d.below (by have:=i.size;omega) (by simp;omega));have C:=j.only d (by simp;omega);have O:m.cell? (w.heap.size,0)=some (.pointer (some (g,0))):=zX C;have G:=d.own n (by simp[Value.ownBlock];exact x);clear o d n j q p i;go_wp2_with fail
  refine(bs g s _ 2 _ r).mono ?_;rintro e w' ⟨rfl,rfl⟩;go_wp2;go_ret;rw[N.out];exact⟨J,cap,_,rfl,G,r,(fun h=>by cases h),E⟩
 ·have D:s.size<k+1+1:=by have:=F.out;omega
  clear I h H M K;go_enter ZS,ZJ
  go_wp2_with fail
  refine z.out.mono ?_;rintro e l ⟨rfl,p,c⟩;have i:Below B w l:=y.trans (c.below (by simp;omega) (by simp;omega));have n:=c.own A (by simp[Value.ownBlock];exact x);have j:=u.only c (by simp;omega);have q:l.cell? (w.heap.size,0)=some (.pointer (some (g,0))):=zX j;have o:=za (jl g _ s (k+1) 1 l p q (by omega) L D (by omega));clear c u A y z;go_wp2_with fail
  skip
  refine o.out.mono ?_;rintro e m ⟨rfl,r,d⟩;have E:Below B w m:=i.trans (d.below (by have:=i.size;omega) (by simp;omega));have C:=j.only d (by simp;omega);have O:m.cell? (w.heap.size,0)=some (.pointer (some (g,0))):=zX C;have G:=d.own n (by simp[Value.ownBlock];exact x);clear o d n j q p i;go_wp2_with fail
  refine(bs g s _ 2 _ r).mono ?_;rintro e w' ⟨rfl,rfl⟩;go_wp2;go_ret;rw[N.out];exact⟨J,cap,_,rfl,G,r,(fun h=>by cases h),E⟩
 ·have D:s.size<k+1+2:=by have:=F.out;omega
  clear I h H M K;go_enter ZS,ZJ
  go_wp2_with fail
  refine z.out.mono ?_;rintro e l ⟨rfl,p,c⟩;have i:Below B w l:=y.trans (c.below (by simp;omega) (by simp;omega));have n:=c.own A (by simp[Value.ownBlock];exact x);have j:=u.only c (by simp;omega);have q:l.cell? (w.heap.size,0)=some (.pointer (some (g,0))):=zX j;have o:=za (jl g _ s (k+1) 2 l p q (by omega) L D (by omega));clear c u A y z;go_wp2_with fail
  skip
  refine o.out.mono ?_;rintro e m ⟨rfl,r,d⟩;have E:Below B w m:=i.trans (d.below (by have:=i.size;omega) (by simp;omega));have C:=j.only d (by simp;omega);have O:m.cell? (w.heap.size,0)=some (.pointer (some (g,0))):=zX C;have G:=d.own n (by simp[Value.ownBlock];exact x);clear o d n j q p i;go_wp2_with fail
  refine(bs g s _ 2 _ r).mono ?_;rintro e w' ⟨rfl,rfl⟩;go_wp2;go_ret;rw[N.out];exact⟨J,cap,_,rfl,G,r,(fun h=>by cases h),E⟩
 have D:s.size<k+1+4:=by have:=F.out;omega
 clear I h H M K;go_enter ZS,ZJ
 go_wp2_with fail
 refine z.out.mono ?_;rintro e l ⟨rfl,p,c⟩;have i:Below B w l:=y.trans (c.below (by simp;omega) (by simp;omega));have n:=c.own A (by simp[Value.ownBlock];exact x);have j:=u.only c (by simp;omega);have q:l.cell? (w.heap.size,0)=some (.pointer (some (g,0))):=zX j;have o:=za (jl g _ s (k+1) 4 l p q (by omega) L D (by omega));clear c u A y z;go_wp2_with fail
 skip
 refine o.out.mono ?_;rintro e m ⟨rfl,r,d⟩;have E:Below B w m:=i.trans (d.below (by have:=i.size;omega) (by simp;omega));have C:=j.only d (by simp;omega);have O:m.cell? (w.heap.size,0)=some (.pointer (some (g,0))):=zX C;have G:=d.own n (by simp[Value.ownBlock];exact x);clear o d n j q p i;go_wp2_with fail
 refine(bs g s _ 2 _ r).mono ?_;rintro e w' ⟨rfl,rfl⟩;go_wp2;go_ret;rw[N.out];exact⟨J,cap,_,rfl,G,r,(fun h=>by cases h),E⟩
theorem B8 (g:Nat)(s:ByteArray)(k:Nat)(w:World)(h:iL w g s k 0)(e:k<s.size)(j:s.size<=9223372036854775807)
 (B base cap b size:Nat) (out:List UInt8) (d:w.ownsRow base 5 1 (.slice (some (b,0)) out.length cap) out.length (cb out)) (c:B<=g) (l:B<=base) (i:B<=w.heap.size) (p:base<=w.heap.size) (o:out.length<=size) (n:size<=4294967295):
 Calls prog 181 #[(g,0),.slice (some (b,0)) out.length cap,size] w (qy g s B base w (bZ s size k s[k].toNat out)):=by
 by_cases q:s.size<k+bg s[k].toNat
 ·exact AJ g s k _ w h e j rfl s[k].toNat_lt q B base cap b size out d c l i
 by_cases m:s[k].toNat%4=0
 ·exact FT g s k _ w h e j rfl s[k].toNat_lt m (by omega) B base cap b size out d c l i p o n
 exact Dj g s k _ w h e j rfl s[k].toNat_lt m (by omega) B base cap b size out d c l i o n
theorem tri {x y:Nat×Nat×Int}{a b c:Int}(h:x=y)(i:a=y.1)(d:b=y.2.1)(e:c=y.2.2):Ending.returned (.tuple #[a,b,c])= .returned (.tuple #[x.1,x.2.1,x.2.2]):=by
 subst h;rw[i,d,e]
theorem two {x:Int×List UInt8}{e:Int}(h:x=(e,l)):Ending.returned (.tuple #[.string ⟨l.toArray⟩,e])= .returned (.tuple #[.string ⟨x.2.toArray⟩,x.1]):=by
 subst h;rfl
theorem Dk (s:ByteArray)(w:World)(p:s.size<=9223372036854775807):
 Calls prog 180 #[s] w fun e w'=>e= .returned (.tuple #[.int .i64 (aB s).1,.int .i64 (aB s).2.1,.int .i64 (aB s).2.2])/\w=w':=by
 have d:=fun w=>rP s w p
 have hz:aB s=if(ay s).2.2=0 then(if 4294967295<(ay s).1 then(0,0,5)else ay s)else(0,0,(ay s).2.2):=rfl
 generalize ay s=x at*;obtain⟨n,hd,m⟩:=x;generalize aB s=y at*;simp only at d hz;have h:=za d;have b:=za hz;clear d hz;rcases eN m with⟨c,k,j⟩|⟨c,k,j⟩
 ·subst c;clear k j;by_cases l:4294967295<n
  ·have i:Hid (y=(0,0,5)):=za (by rw[b.out,zj rfl,zj l]);clear b;go_enter func180,ntmps180
   go_wp2_with fail
   refine(h.out _).mono ?_;rintro e w' ⟨rfl,rfl⟩;go_wp2;go_ret3
   exact⟨tri i.out rfl rfl rfl,rfl⟩
  have i:Hid (y=(n,hd,0)):=za (by rw[b.out,zj rfl,zi l]);clear b;go_enter func180,ntmps180
  go_wp2_with fail
  refine(h.out _).mono ?_;rintro e w' ⟨rfl,rfl⟩;go_wp2;go_ret3
  exact⟨tri i.out rfl rfl rfl,rfl⟩
 have o:=za c;clear c;go_enter func180,ntmps180
 go_wp2_with fail
 refine(h.out _).mono ?_;rintro e w' ⟨rfl,rfl⟩;go_wp2;go_ret3
 exact⟨tri (b.out.trans (by rw[zi o.out])) rfl rfl rfl,rfl⟩
theorem qz (s:ByteArray)(h:(aB s).2.2=0):(aB s).1<=4294967295/\0<(aB s).2.1/\(aB s).2.1<=10/\(aB s).2.1<=s.size:=by
 have hz:aB s=if(ay s).2.2=0 then(if 4294967295<(ay s).1 then(0,0,5)else ay s)else(0,0,(ay s).2.2):=rfl
 by_cases b:(ay s).2.2=0
 ·have d:=ia s b;by_cases c:4294967295<(ay s).1
  ·rw[hz,zj b,zj c]at h;simp at h
  rw[hz,zj b,zi c];omega
 rw[hz,zi b]at h;exact absurd h b
def I5 (g B size:Nat)(body:ByteArray)(X:Int×List UInt8)(w:World)(gk:Nat)(v:Value)(wr:World):Prop:=
 ∃(k:Nat) (out:List UInt8) (h' an:Nat) (f:Int),v= .slice (some (h',0)) out.length an/\wr.ownsRow B 5 1 (.slice (some (h',0)) out.length an) out.length (cb out)/\iL wr g body k f/\Below B w wr/\
  ((f=0/\k<=body.size/\out.length<=size/\Hid (gP body size gk k out=X)/\body.size-k<gk)\/(Hid (f≠0)/\(f==0)=false/\(f !=0)=true/\Hid (X=(f,[]))))
theorem FU {size:Nat}{body:ByteArray}{X:Int×List UInt8}{m j:World}{gk:Nat}{out:List UInt8}{e:Ending}(u:Below B w m)(d:k<body.size)(p:out.length<=size)(hx:gP body size gk k out=X)(C:body.size-k<gk)
 (A:qy g body B B m (bZ body size k body[k].toNat out) e j):∃v,e= .returned v/\(∃h n c,v= .slice (some ⟨h,0,none⟩) n c)/\I5 g B size body X w (gk-1) v j:=by
 obtain⟨h,q,z,rfl,o,r,x,y⟩:=A;obtain⟨f,rfl⟩:∃f,gk=f+1:=⟨gk-1,by omega⟩
 refine⟨_,rfl,⟨_,_,_,rfl⟩,z,_,h,q,_,rfl,o,r,u.trans y, ?_⟩;rcases eN (bZ body size k body[k].toNat out).1 with⟨b,l,i⟩|⟨b,l,i⟩
 ·have s:=OG body[k].toNat_lt d p b;have:=x b;subst this;exact .inl ⟨b,by omega,s.2.2,za (LN d hx b),by simp;omega⟩
 exact .inr ⟨za b,l,i,za (OH d hx b)⟩
theorem qA {c b:World}{z:Nat}{xs:List Value}{o:Obj}(h:c.ownsRow B e z v n xs)(d:b=c.alloc o):b.ownsRow B e z v n xs:=d▸h.alloc o
theorem I6 (s:ByteArray)(most:Int)(w:World)(hs:s.size<=9223372036854775807):
 Calls prog 146 #[s,most,.pointer none] w fun e w'=>e= .returned (.tuple #[.string ⟨(a8 s most).2.toArray⟩,.int .i64 (a8 s most).1])/\(w,w'):=by
 have G:=fun w=>Dk s w hs
 have p:=qz s;have hz:a8 s most=if(aB s).2.2≠0 then((aB s).2.2,[])else if most<(aB s).1 then(5,[])else iR (s.extract (aB s).2.1 s.size) (aB s).1:=rfl
 generalize aB s=x at*;obtain⟨n,hd,er⟩:=x;generalize a8 s most=y at*;simp only at G hz p;have E:=za G;have j:=za hz;clear G hz;obtain⟨i0,hi,Y,K,L⟩:=yz uz;rcases eN er with⟨q,O,I⟩|⟨q,O,I⟩
 ·subst q;obtain⟨hn,ak,ai,aj⟩:=p rfl;clear O I p;by_cases h3:most<n
  ·have C:Hid (y=(5,[])):=za (by rw[j.out,zi (by simp),zj h3]);clear j;go_enter ZT,ZK
   go_wp2_with fail
   refine(E.out _).mono ?_;rintro e w' ⟨rfl,rfl⟩;go_wp2;go_ret2
   exact⟨by rw[C.out];rfl,zm _ _⟩
  have C:Hid (y=iR (s.extract hd s.size) n):=za (by rw[j.out,zi (by simp),zi h3]);clear j;have al:decide (most<(n:Int))=false:=by simp;omega
  by_cases h4:n<=4096;all_goals
   go_enter ZT,ZK
   go_wp2_with fail
   refine(E.out _).mono ?_;rintro e w' ⟨rfl,rfl⟩;go_wp2_with (at_make;(first|refine ZM _ rfl _ _ 75 rfl w.heap.size 5 i0 (.int .u8 0) 1 zq hi Y K .i64 .i64 _ n rfl rfl (by omega) (by rw[L];omega) (by simp only[maxLen];omega) (by omega) ?_|refine ZM _ rfl _ _ 75 rfl w.heap.size 5 i0 (.int .u8 0) 1 zq hi Y K .i64 .i64 _ 4096 rfl rfl (by omega) (by rw[L];omega) (by simp only[maxLen];omega) (by omega) ?_);intro o U X)
   have u:=(zm w.heap.size w).grown X (by omega) (by simp);have iA:=u.size;clear X;go_wp2_with fail
   refine(rS _ o).mono ?_;rintro e z ⟨rfl,l⟩;have Z:iL z o.heap.size (s.extract hd s.size) 0 0:=by rw[l];exact ag.new o _ _
   have dX:=qA U l;have aI:Below w.heap.size w z:=by rw[l];exact u.alloc (by omega) _
   have G6:o.heap.size<z.heap.size:=by rw[l];simp
   clear l U u;obtain⟨g,W⟩:∃g,g=o.heap.size:=⟨_,rfl⟩
   rw[<-W]at Z G6 iA⊢;clear W;have H:(s.extract hd s.size).size<=9223372036854775807:=by rw[ar _ _ _ (zd _)];omega
   generalize s.extract hd s.size=body at*;have af:w.heap.size<=g:=by omega
   go_wp2_with fail
   go_loopg [11] (body.size+1) (fun gk v wr=>I5 g w.heap.size n body y w gk v wr)
   case atStart=>exact⟨0,[],_,_,0,rfl,dX,Z,aI,.inl ⟨rfl,by omega,by simp,za C.out.symm,by omega⟩⟩
   case round=>
    obtain⟨k,out,h',an,f,rfl,R,b,d,⟨rfl,S,N,aa,ad⟩|⟨hf,ae,ah,hX⟩⟩:=hrel
    ·by_cases D:k<body.size
     ·go_wp2_with fail
      refine(bs g body k 0 wr b).mono ?_;rintro e w' ⟨rfl,rfl⟩;go_wp2_with fail
      refine(vK g body k 0 wr b S H).mono ?_;rintro e w3 ⟨rfl,c,rfl⟩;have J:=za (B8 g body k (wr.drewN c) (b.drewN c) D H w.heap.size w.heap.size an h' n out (R.bF c) af (zd _) (by have:=d.size;simp<;>omega) (by have:=d.size;simp<;>omega) N hn);go_wp2_with fail
      refine J.out.mono ?_;intro e h M;obtain⟨v4,rfl,⟨h4,n4,c4,rfl⟩,ab⟩:=FU (d.bF c) D N aa.out ad M;clear M J;go_wp2;go_roundg (gk-1)
      case measure=>omega
      case rel=>exact ab
     have r:=za (Er D (f:=gk-1) (x:=y) (by rw[show gk-1+1=gk from by omega];exact aa.out));go_wp2_with fail
     refine(bs g body k 0 wr b).mono ?_;rintro e w' ⟨rfl,rfl⟩;go_wp2_with fail
     refine(vK g body k 0 wr b S H).mono ?_;rintro e w3 ⟨rfl,c,rfl⟩;by_cases B:out.length<n
     ·have A:Hid (y=(2,[])):=za (by rw[r.out,zj B]);clear r;go_wp2_with fail
      refine(iM g body k 2 _ (b.drewN c)).mono ?_;rintro e h ⟨rfl,m,F⟩;have i:Below w.heap.size w h:=(d.bF c).trans (F.below (by have:=d.size;simp<;>omega) (by simp;omega));go_wp2_with fail
      refine(bs g body _ 2 h m).mono ?_;rintro e w' ⟨rfl,rfl⟩;go_wp2_with fail
      refine(bs g body _ 2 h m).mono ?_;rintro e w' ⟨rfl,rfl⟩;go_wp2;go_ret2
      exact⟨two A.out,i⟩
     have A:Hid (y=(0,out)):=za (by rw[r.out,zi B]);clear r;have ao:=sD zq yt zM (R.bF c);go_wp2_with fail
     refine(bs g body _ 0 _ (b.drewN c)).mono ?_;rintro e w' ⟨rfl,rfl⟩;go_wp2;go_ret2
     have i:=d.bF c;exact⟨two A.out,i⟩
    go_wp2_with fail
    refine(bs g body k f wr b).mono ?_;rintro e w' ⟨rfl,rfl⟩;by_cases B:out.length<n
    ·go_wp2_with fail
     refine(vL g body k f 2 wr b ae).mono ?_;rintro e h ⟨rfl,m,F⟩;have i:Below w.heap.size w h:=d.trans (F.below (by have:=d.size;omega) (by simp;omega));go_wp2_with fail
     refine(bs g body _ f h m).mono ?_;rintro e w' ⟨rfl,rfl⟩;go_wp2_with fail
     refine(bs g body _ f h m).mono ?_;rintro e w' ⟨rfl,rfl⟩;go_wp2;go_ret2
     exact⟨two hX.out,i⟩
    go_wp2_with fail
    refine(bs g body _ f wr b).mono ?_;rintro e w' ⟨rfl,rfl⟩;go_wp2_with fail
    refine(bs g body _ f wr b).mono ?_;rintro e w' ⟨rfl,rfl⟩;go_wp2;go_ret2
    have i:=d;exact⟨two hX.out,i⟩
 have H0:=za q;clear q p;go_enter ZT,ZK
 go_wp2_with fail
 refine(E.out _).mono ?_;rintro e w' ⟨rfl,rfl⟩;go_wp2;go_ret2
 exact⟨by rw[j.out,zj H0.out];rfl,zm _ _⟩
abbrev tM (w:World)(g:Nat)(a u t p:Nat):Prop:=ag w g 136 #[a,u,t,p]
theorem I7 (n:Int)(w:World):
 Calls prog 50 #[n] w fun e w'=>e= .returned (w.heap.size,0)/\w'=w.alloc (.cells #[(n.toNat:Nat),(0:Int),(0:Int),(0:Int)] 136):=by
 by_cases h:n<0
 ·have b:((n.toNat:Nat):Int)=0:=by omega
  rw[b];clear b;go_enter func50,ntmps50
  go_wp2;go_ret;exact⟨rfl,rfl⟩
 have b:((n.toNat:Nat):Int)=n:=by omega
 rw[b];clear b;go_enter func50,ntmps50
 go_wp2;go_ret;exact⟨rfl,rfl⟩
theorem TU (g a u t p:Nat)(w:World)(h:tM w g a u t p):
 Calls prog 53 #[(g,0)] w fun e w'=>e= .returned (.int .i64 t)/\w=w':=by
 have b:=h.cell 2;simp at b;clear h;go_enter func53,ntmps53
 go_wp2;go_ret;exact⟨rfl,rfl⟩
theorem FW (a b:Nat)(d:a<=9223372036854775807)(c:b<=9223372036854775807):IntKind.i64.wrap ((a:Int)-b)=(a:Int)-b:=zZ _ (by omega)
theorem vX (g c b a u t n:Nat)(w:World)(o:w.cell? (g,0)=some (.int .i64 a))(s:w.cell? (g,1)=some (.int .i64 u))(p:w.cell? (g,2)=some (.int .i64 t))(q:w.cell? (c,0)=some (.int .i64 n))(i:w.cell? (b,0)=some (.pointer (some (g,0))))
 (m:a<=9223372036854775807) (hu:u<=a) (d:(n:Int)<=a-u) (l:t+n<=9223372036854775807):
 Calls prog 68 #[(c,0),(b,0)] w fun e w'=>e= .returned (0:Int)/\∃k,w.drewN k=w':=by
 have hd:decide ((a:Int)-u<n)=false:=by simpa using d
 have j:=FW a u (by omega) (by omega);have h:IntKind.i64.wrap (9223372036854775807-(t:Int))=9223372036854775807-(t:Int):=zZ _ (by omega);have r:decide (9223372036854775807-(t:Int)<n)=false:=by simp;omega
 go_enter func68,ntmps68
 go_wp2;go_quiet (fail)
 go_wp2;go_ret;exact⟨rfl,_,rfl⟩
theorem Dl (g c b u t n:Nat)(w:World)(o:w.cell? (g,1)=some (.int .i64 u))(l:w.cell? (g,2)=some (.int .i64 t))(f1:w.frozen? (g,1)=false)(f2:w.frozen? (g,2)=false)(k:w.cell? (c,0)=some (.int .i64 n))(i:w.cell? (b,0)=some (.pointer (some (g,0))))
 (n1:g≠c) (n2:g≠b) (hu:u+n<=9223372036854775807) (j:t+n<=9223372036854775807):
 Calls prog 69 #[(b,0),(c,0)] w fun e w'=>e= .returned (.tuple #[])/\∃m,((w.setCell (g,1) (u+n:Nat)).setCell (g,2) (t+n:Nat)).drewN m=w':=by
 have h:((u+n:Nat):Int)=(u:Int)+n:=by omega
 have d:((t+n:Nat):Int)=(t:Int)+n:=by omega
 rw[h,d];clear h d;go_enter func69,ntmps69
 go_wp2;go_region
 all_goals go_wp2
 go_region
 all_goals go_wp2
 go_end0
 exact⟨rfl,2,rfl⟩
theorem TV (g j i a u t p n q s:Nat)(w:World)(c:Hid (u+n=q))(l:Hid (t+n=s))(h:tM w g a u t p)(y:w.cell? (j,0)=some (.int .i64 n))(x:w.cell? (i,0)=some (.pointer (some (g,0))))(n1:g≠j)(n2:g≠i)(E:a<=9223372036854775807)(K:q<=a)(L:s<=9223372036854775807):
 Calls prog 67 #[(g,0),n,.func (.func 68) #[] #[(j,0),(i,0)],.func (.func 69) #[] #[(i,0),(j,0)]] w
  fun e w'=>e= .returned (0:Int)/\tM w' g a q s (max p q)/\ae [g] w w':=by
 have D:=h.cell 0;have r:=h.cell 1;have o:=h.cell 2;have F:=h.frozen 1;have G:=h.frozen 2;simp at D r o;have H:=za h;clear h;rcases Nat.lt_trichotomy p q with hp|hp|hp
 ·rw[Nat.max_eq_right (by omega)];go_enter func67,ntmps67
  go_wp2_with fail
  refine(vX g j i a u t n w D r o y x E (by have:=c.out;omega) (by have:=c.out;omega) (by have:=l.out;omega)).mono ?_;rintro e I ⟨rfl,k,rfl⟩;go_wp2_with fail
  refine(Dl g j i u t n (w.drewN k) r o F G y x n1 n2 (by have:=c.out;omega) (by have:=l.out;omega)).mono ?_;rintro e w3 ⟨rfl,m,d⟩;have b:tM w3 g a q s p:=by
   rw[<-d,c.out,l.out];have h:=H.out;unfold tM at h⊢
   (repeat(first|with_reducible assumption|with_reducible apply ag.drewN|with_reducible apply ag.drew|with_reducible apply ag.alloc|((with_reducible apply ag.beside); · (first|omega|(simp<;>omega)))|with_reducible apply ag.store));all_goals(first|rfl|simp)
  have A:ae [g] w w3:=by rw[<-d];exact CM
  clear d;have B:=b.cell 1;have z:=b.cell 3;have J:=b.frozen 3;simp at B z;have C:=za b;clear b;go_wp2;go_region
  all_goals
   go_wp2;go_ret;refine⟨rfl, ?_,A.up⟩;have h:=C.out;unfold tM at h⊢
   (repeat(first|with_reducible assumption|with_reducible apply ag.drewN|with_reducible apply ag.drew|with_reducible apply ag.alloc|((with_reducible apply ag.beside); · (first|omega|(simp<;>omega)))|with_reducible apply ag.store));all_goals(first|rfl|simp)
 ·obtain rfl:q=p:=hp.symm;rw[Nat.max_self];clear hp;go_enter func67,ntmps67
  go_wp2_with fail
  refine(vX g j i a u t n w D r o y x E (by have:=c.out;omega) (by have:=c.out;omega) (by have:=l.out;omega)).mono ?_;rintro e I ⟨rfl,k,rfl⟩;go_wp2_with fail
  refine(Dl g j i u t n (w.drewN k) r o F G y x n1 n2 (by have:=c.out;omega) (by have:=l.out;omega)).mono ?_;rintro e w3 ⟨rfl,m,d⟩;have b:tM w3 g a q s q:=by
   rw[<-d,c.out,l.out];have h:=H.out;unfold tM at h⊢
   (repeat(first|with_reducible assumption|with_reducible apply ag.drewN|with_reducible apply ag.drew|with_reducible apply ag.alloc|((with_reducible apply ag.beside); · (first|omega|(simp<;>omega)))|with_reducible apply ag.store));all_goals(first|rfl|simp)
  have A:ae [g] w w3:=by rw[<-d];exact CM
  clear d;have B:=b.cell 1;have z:=b.cell 3;have J:=b.frozen 3;simp at B z;have C:=za b;clear b;go_wp2;go_region
  all_goals
   go_wp2;go_ret;refine⟨rfl, ?_,A.up⟩;have h:=C.out;unfold tM at h⊢
   (repeat(first|with_reducible assumption|with_reducible apply ag.drewN|with_reducible apply ag.drew|with_reducible apply ag.alloc|((with_reducible apply ag.beside); · (first|omega|(simp<;>omega)))|with_reducible apply ag.store));all_goals(first|rfl|simp)
 rw[Nat.max_eq_left (by omega)];go_enter func67,ntmps67
 go_wp2_with fail
 refine(vX g j i a u t n w D r o y x E (by have:=c.out;omega) (by have:=c.out;omega) (by have:=l.out;omega)).mono ?_;rintro e I ⟨rfl,k,rfl⟩;go_wp2_with fail
 refine(Dl g j i u t n (w.drewN k) r o F G y x n1 n2 (by have:=c.out;omega) (by have:=l.out;omega)).mono ?_;rintro e w3 ⟨rfl,m,d⟩;have b:tM w3 g a q s p:=by
  rw[<-d,c.out,l.out];have h:=H.out;unfold tM at h⊢
  (repeat(first|with_reducible assumption|with_reducible apply ag.drewN|with_reducible apply ag.drew|with_reducible apply ag.alloc|((with_reducible apply ag.beside); · (first|omega|(simp<;>omega)))|with_reducible apply ag.store));all_goals(first|rfl|simp)
 have A:ae [g] w w3:=by rw[<-d];exact CM
 clear d;have B:=b.cell 1;have z:=b.cell 3;have J:=b.frozen 3;simp at B z;have C:=za b;clear b;go_wp2;go_region
 all_goals
  go_wp2;go_ret;refine⟨rfl, ?_,A.up⟩;have h:=C.out;unfold tM at h⊢
  (repeat(first|with_reducible assumption|with_reducible apply ag.drewN|with_reducible apply ag.drew|with_reducible apply ag.alloc|((with_reducible apply ag.beside); · (first|omega|(simp<;>omega)))|with_reducible apply ag.store));all_goals(first|rfl|simp)
theorem qB (g a u t p n:Nat)(w:World)(h:tM w g a u t p)(m:a<=9223372036854775807)(j:u+n<=a)(k:t+n<=9223372036854775807):
 Calls prog 51 #[(g,0),n] w fun e w'=>e= .returned (0:Int)/\tM w' g a (u+n) (t+n) (max p (u+n))/\ae [g] w w':=by
 have r:=h.lt;have d:=(h.alloc (.cells #[(g,0)] 108)).alloc (.cells #[n] 3);have c:((w.alloc (.cells #[(g,0)] 108)).alloc (.cells #[n] 3)).cell? (w.heap.size+1,0)=some (.int .i64 n):=by
  simp
 have b:((w.alloc (.cells #[(g,0)] 108)).alloc (.cells #[n] 3)).cell? (w.heap.size,0)=some (.pointer (some (g,0))):=by
  simp
 have i:=za (TV g (w.heap.size+1) w.heap.size a u t p n _ _ _ (za rfl) (za rfl) d c b (by omega) (by omega) m j k);clear d c b h;go_enter func51,ntmps51
 go_wp2_with fail
 refine i.out.mono ?_;rintro e q ⟨rfl,o,l⟩;go_wp2;go_ret;exact⟨rfl,o,(((ae.refl [g] w).alloc _).alloc _).trans l⟩
theorem FX (s:ByteArray)(most:Int)(h:Nat)(w:World)(k:s.size<=9223372036854775807)(hx:(aB s).2.2≠0):
 Calls prog 146 #[s,most,(h,0)] w fun e w'=>e= .returned (.tuple #[.string ⟨[].toArray⟩,.int .i64 (aB s).2.2])/\w=w':=by
 have c:=fun w=>Dk s w k
 have m:=qz s;have hz:a8 s most=if(aB s).2.2≠0 then((aB s).2.2,[])else if most<(aB s).1 then(5,[])else iR (s.extract (aB s).2.1 s.size) (aB s).1:=rfl
 generalize aB s=x at*;obtain⟨n,hd,i⟩:=x;generalize a8 s most=y at*;dsimp only at*;have j:=za c;clear c hz;rcases eN i with⟨b,l,d⟩|⟨b,l,d⟩
 ·exact absurd b hx
 clear b hx m;go_enter ZT,ZK
 go_wp2_with fail
 refine(j.out _).mono ?_;rintro e w' ⟨rfl,rfl⟩;go_wp2;go_ret2
 exact⟨rfl,rfl⟩
theorem Dm (s:ByteArray)(most:Int)(d:Nat)(w:World)(i:s.size<=9223372036854775807)(hx:(aB s).2.2=0)(l:most<(aB s).1):
 Calls prog 146 #[s,most,(d,0)] w fun e w'=>e= .returned (.tuple #[.string ⟨[].toArray⟩,(5:Int)])/\w=w':=by
 have b:=fun w=>Dk s w i
 have j:=qz s;have hz:a8 s most=if(aB s).2.2≠0 then((aB s).2.2,[])else if most<(aB s).1 then(5,[])else iR (s.extract (aB s).2.1 s.size) (aB s).1:=rfl
 generalize aB s=x at*;obtain⟨n,hd,k⟩:=x;generalize a8 s most=y at*;dsimp only at*;have h:=za b;have c:=za hz;clear b hz;subst hx;clear j c;go_enter ZT,ZK
 go_wp2_with fail
 refine(h.out _).mono ?_;rintro e w' ⟨rfl,rfl⟩;go_wp2;go_ret2
 exact⟨rfl,rfl⟩
theorem I8 (s:ByteArray)(most:Int)(m a u t p:Nat)(q:World)(hs:s.size<=9223372036854775807)(hM:tM q m a u t p)(ha:a<=9223372036854775807)(hx:(aB s).2.2=0)(hm:((aB s).1:Int)<=most)(K:u+(aB s).1<=a)(M:t+(aB s).1<=9223372036854775807):
 Calls prog 146 #[s,most,(m,0)] q fun e w'=>e= .returned (.tuple #[.string ⟨(a8 s most).2.toArray⟩,.int .i64 (a8 s most).1])/\tM w' m a (u+(aB s).1) (t+(aB s).1) (max p (u+(aB s).1))/\ae [m] q w':=by
 have S:=fun w=>Dk s w hs
 have W:=qz s;have hz:a8 s most=if(aB s).2.2≠0 then((aB s).2.2,[])else if most<(aB s).1 then(5,[])else iR (s.extract (aB s).2.1 s.size) (aB s).1:=rfl
 generalize aB s=x at*;obtain⟨n,hd,er⟩:=x;generalize a8 s most=y at*;dsimp only at*;have Hl:=za S;have J:=za hz;clear S hz;subst hx;obtain⟨hn,al,aj,ak⟩:=W rfl;have Hy:Hid (y=iR (s.extract hd s.size) n):=za (by rw[J.out,zi (by simp),zi (by omega)]);clear W J;obtain⟨i0,hi,dF,L,N⟩:=yz uz;have ao:decide (most<(n:Int))=false:=by simp;omega
 have Ht:=za (qB m a u t p n q hM ha K M);clear K M;generalize u+n=u2 at*;generalize t+n=t2 at*;generalize max p u2=p2 at*;by_cases h4:n<=4096;all_goals
  go_enter ZT,ZK
  go_wp2_with fail
  refine(Hl.out _).mono ?_;rintro e w' ⟨rfl,rfl⟩;go_wp2_with fail
  refine Ht.out.mono ?_;rintro e w ⟨rfl,r,A⟩;go_wp2_with (at_make;(first|refine ZM _ rfl _ _ 75 rfl w.heap.size 5 i0 (.int .u8 0) 1 zq hi dF L .i64 .i64 _ n rfl rfl (by omega) (by rw[N];omega) (by simp only[maxLen];omega) (by omega) ?_|refine ZM _ rfl _ _ 75 rfl w.heap.size 5 i0 (.int .u8 0) 1 zq hi dF L .i64 .i64 _ 4096 rfl rfl (by omega) (by rw[N];omega) (by simp only[maxLen];omega) (by omega) ?_);intro o Y jQ)
  have B:=(zm w.heap.size w).grown jQ (by omega) (by simp);have iA:=B.size;clear jQ;go_wp2_with fail
  refine(rS _ o).mono ?_;rintro e C ⟨rfl,j⟩;have iQ:iL C o.heap.size (s.extract hd s.size) 0 0:=by rw[j];exact ag.new o _ _
  have dX:=qA Y j;have aI:Below w.heap.size w C:=by rw[j];exact B.alloc (by omega) _
  have G6:o.heap.size<C.heap.size:=by rw[j];simp
  clear j Y B;obtain⟨g,Z⟩:∃g,g=o.heap.size:=⟨_,rfl⟩
  rw[<-Z]at iQ G6 iA⊢;clear Z;have H:(s.extract hd s.size).size<=9223372036854775807:=by rw[ar _ _ _ (zd _)];omega
  generalize s.extract hd s.size=body at*;have ah:w.heap.size<=g:=by omega
  go_wp2_with fail
  go_loopg [11] (body.size+1) (fun gk v wr=>I5 g w.heap.size n body y w gk v wr)
  case atStart=>exact⟨0,[],_,_,0,rfl,dX,iQ,aI,.inl ⟨rfl,by omega,by simp,za Hy.out.symm,by omega⟩⟩
  case round=>
   obtain⟨k,out,h',an,f,rfl,U,b,h,⟨rfl,X,R,aa,ad⟩|⟨hf,af,ai,hX⟩⟩:=hrel
   ·by_cases F:k<body.size
    ·go_wp2_with fail
     refine(bs g body k 0 wr b).mono ?_;rintro e w' ⟨rfl,rfl⟩;go_wp2_with fail
     refine(vK g body k 0 wr b X H).mono ?_;rintro e w3 ⟨rfl,d,rfl⟩;have I:=za (B8 g body k (wr.drewN d) (b.drewN d) F H w.heap.size w.heap.size an h' n out (U.bF d) ah (zd _) (by have:=h.size;simp<;>omega) (by have:=h.size;simp<;>omega) R hn);go_wp2_with fail
     refine I.out.mono ?_;intro e i O;obtain⟨v4,rfl,⟨h4,n4,c4,rfl⟩,ab⟩:=FU (h.bF d) F R aa.out ad O;clear O I;go_wp2;go_roundg (gk-1)
     case measure=>omega
     case rel=>exact ab
    have z:=za (Er F (f:=gk-1) (x:=y) (by rw[show gk-1+1=gk from by omega];exact aa.out));go_wp2_with fail
    refine(bs g body k 0 wr b).mono ?_;rintro e w' ⟨rfl,rfl⟩;go_wp2_with fail
    refine(vK g body k 0 wr b X H).mono ?_;rintro e w3 ⟨rfl,d,rfl⟩;by_cases E:out.length<n
    ·have D:Hid (y=(2,[])):=za (by rw[z.out,zj E]);clear z;go_wp2_with fail
     refine(iM g body k 2 _ (b.drewN d)).mono ?_;rintro e i ⟨rfl,l,G⟩;have c:Below w.heap.size w i:=(h.bF d).trans (G.below (by have:=h.size;simp<;>omega) (by simp;omega));go_wp2_with fail
     refine(bs g body _ 2 i l).mono ?_;rintro e w' ⟨rfl,rfl⟩;go_wp2_with fail
     refine(bs g body _ 2 i l).mono ?_;rintro e w' ⟨rfl,rfl⟩;go_wp2;go_ret2
     exact⟨two D.out,r.only (ae.ai c (zd _)) (by simp),A.trans' (ae.ai c (zd _)) (by simp)⟩
    have D:Hid (y=(0,out)):=za (by rw[z.out,zi E]);clear z;have aq:=sD zq yt zM (U.bF d);go_wp2_with fail
    refine(bs g body _ 0 _ (b.drewN d)).mono ?_;rintro e w' ⟨rfl,rfl⟩;go_wp2;go_ret2
    have c:=h.bF d;exact⟨two D.out,r.only (ae.ai c (zd _)) (by simp),A.trans' (ae.ai c (zd _)) (by simp)⟩
   go_wp2_with fail
   refine(bs g body k f wr b).mono ?_;rintro e w' ⟨rfl,rfl⟩;by_cases E:out.length<n
   ·go_wp2_with fail
    refine(vL g body k f 2 wr b af).mono ?_;rintro e i ⟨rfl,l,G⟩;have c:Below w.heap.size w i:=h.trans (G.below (by have:=h.size;omega) (by simp;omega));go_wp2_with fail
    refine(bs g body _ f i l).mono ?_;rintro e w' ⟨rfl,rfl⟩;go_wp2_with fail
    refine(bs g body _ f i l).mono ?_;rintro e w' ⟨rfl,rfl⟩;go_wp2;go_ret2
    exact⟨two hX.out,r.only (ae.ai c (zd _)) (by simp),A.trans' (ae.ai c (zd _)) (by simp)⟩
   go_wp2_with fail
   refine(bs g body _ f wr b).mono ?_;rintro e w' ⟨rfl,rfl⟩;go_wp2_with fail
   refine(bs g body _ f wr b).mono ?_;rintro e w' ⟨rfl,rfl⟩;go_wp2;go_ret2
   have c:=h;exact⟨two hX.out,r.only (ae.ai c (zd _)) (by simp),A.trans' (ae.ai c (zd _)) (by simp)⟩
