/- squeeze.Pack tells 'pack'. -/
import Derived.Test.YtdbmifjankgfpaaGreatDoorKA16
import Derived.Deep.DeepCutAuto
set_option linter.all false
set_option maxRecDepth 100000
set_option maxHeartbeats 4000000
open Go.Proofs.Tryz
namespace Go.Proofs.YtdbmifjankgfpaaGreatDoor
open Go.RowKit Go.Maps
variable {w wr w':World}{B i d k f p m j n base h cap g:Nat}{s:ByteArray}{D:DataW Unit}{l L X a o:List UInt8}{v:Value}{e:TypeId}
def zZ:=@cell_of_one
def yC:=@underlying3
def xL:=@Lib.bytesWorld_size
def xU:=@Lib.wpList_append_own_string
def Zf:=@wpList_lookup_own_ok_int
def Zz:=@ntmps139
def ZA:=@ntmps117
def ZK:=@func139
def ZL:=@func117
def ZP:=@underlying182
structure PW (s:ByteArray)(w:World)(g0 B mB kV:Nat)(D:DataW Unit)(wr:World):Prop where
 below:Below w.heap.size w wr
 cells:∀k,k<s.size->wr.cell? ⟨g0,k,none⟩=some (.int .u8 (s.data.toList.getD k 0).toNat)
 YU:g0<B
 hBm:B<=mB
 V1:w.heap.size<=B
 map:wr.ownsMap prog 184 (plainElem prog 3) mB kV D
theorem PW.lt {c b:Nat}(h:PW s w c B b d D wr):b<wr.heap.size:=h.map.lt
theorem PW.kept {c b:Nat}(h:PW s w c B b i D wr)(d:Kept 5 B wr w'):PW s w c B b i D w':=by
 refine⟨h.below.trans (d.below.mono h.V1),fun k j=>(d.below.cell (p:=⟨c,k,none⟩) h.YU).trans (h.cells k j),h.YU,h.hBm,h.V1, ?_⟩;obtain⟨es,clock,l,F,n,m⟩:=h.map;exact⟨es,clock,d.other b _ l (by intro o q e;cases e),F,n,m⟩
theorem PW.later {c b:Nat}(h:PW s w c B b d D wr)(e:Below wr.heap.size wr w'):PW s w c B b d D w':=
 h.kept (Kept.ah e (zg _) (by have:=h.lt;have:=h.hBm;omega))
theorem PW.ll {c e:Nat}{i:DataW Unit}(h:PW s w d B c m D wr)(p:w'.ownsMap prog 184 (plainElem prog 3) c e i)(b:wr.grownBy w' (some c)):PW s w d B c e i w':=by
 have q:=h.lt;have n:=h.YU;have l:=h.hBm;have o:=h.V1;refine⟨h.below.trans ⟨b.os,b.tape,b.output,b.size,fun k j=>b.block k (by omega) (by simp;omega)⟩,fun k j=>(zF (a:=⟨d,k,none⟩) (b.block d (by omega) (by simp;omega))).trans (h.cells k j),n,l,o,p⟩
theorem PW.buf {c:Nat}(h:PW s w j B c k D wr)(i:bP wr B 5 v l)(m:wr.grownBy w' (some c)):bP w' B 5 v l:=by
 obtain⟨es,clock,o,_⟩:=h.map;obtain⟨A,cap,d,n,p,b⟩:=i;refine⟨A,cap,d,n,p, ?_⟩;rcases b with b|⟨g,cur,fr,hA,hgb,hh,r⟩
 ·exact .inl b
 refine .inr ⟨g,cur,fr,hA,hgb,(m.block g (yd.1 hh).1 ?_).trans hh,r⟩;intro e;injection e with e;subst e;rw[o]at hh;cases hh
theorem PW.four {b l:Nat}(h:PW s w b B k l D wr)(hi:i+4<=s.size):∃c d j e:Nat,wr.cell? ⟨b,i,none⟩=some (.int .u8 c)/\wr.cell? ⟨b,i+1,none⟩=some (.int .u8 d)/\wr.cell? ⟨b,i+2,none⟩=some (.int .u8 j)/\wr.cell? ⟨b,i+3,none⟩=some (.int .u8 e)/\
 keyOf prog 184 (.agg #[.int .u8 c,.int .u8 d,.int .u8 j,.int .u8 e])=some (gl s.data.toList i):=
 ⟨_,_,_,_,h.cells i (by omega),h.cells (i+1) (by omega),h.cells (i+2) (by omega),h.cells (i+3) (by omega),rQ s.data.toList i⟩
def PAt (s:ByteArray)(w:World)(g0 B mB:Nat)(v5 v7 v8:Value)(wr:World):Prop:=
 ∃(i p f kV:Nat) (A:Option Addr) (n cap:Nat) (l:List UInt8) (D:DataW Unit),v5= .slice A n cap/\v7= .int .i64 p/\v8= .int .i64 i/\p<=i/\i<=s.size/\kV<=i/\s.size-i<f/\
  bP wr B 5 (.slice A n cap) l/\l++pk s.data.toList f p i=pack s.data.toList/\PW s w g0 B mB kV D wr/\MI s.data.toList D i
def PIn (s:ByteArray)(w:World)(g0 B mB i sz:Nat)(A:Option Addr)(n cap:Nat)(l:List UInt8)(v8 Ol:Value)(wr:World):Prop:=
 ∃(c kV:Nat) (D:DataW Unit),Ol= .int .i64 c/\v8= .int .i64 ((i+c:Nat):Int)/\c<=sz/\kV<=i+c/\bP wr B 5 (.slice A n cap) l/\PW s w g0 B mB kV D wr/\MI s.data.toList D (i+c)
theorem K6 (h:l++pk L f p i=X)(c:L.length-i<f)(hi:i<L.length)(b:Ie L i i=none):l++pk L (f-1) p (i+1)=X:=by
 obtain⟨g,rfl⟩:∃g,f=g+1:=⟨f-1,by omega⟩
 unfold pk at h;rw[zi hi,b]at h;exact h
theorem T4 (h:l++pk L f p i=X)(e:L.length-i<f)(hi:i<L.length)(d:Ie L i i=some j)(c:a=(L.take i).drop p)(b:mt L j i 64=n):((l++ig a)++kZ n (i-j))++pk L (f-1) (i+n) (i+n)=X:=by
 obtain⟨g,rfl⟩:∃g,f=g+1:=⟨f-1,by omega⟩
 unfold pk at h;rw[zi hi,d]at h;subst b;subst c;rw[<-h];simp
theorem Xt (h:l++pk L f p i=X)(c:L.length-i<f)(hi:¬i<L.length)(b:a=L.drop p):l++ig a=X:=by
 obtain⟨g,rfl⟩:∃g,f=g+1:=⟨f-1,by omega⟩
 unfold pk at h;rw[zh hi]at h;subst b;exact h
theorem acg (h:l++pk L f p i=pack L)(b:L.length<=65536):l.length<=70000:=by
 have c:=sK L b;have:=xu List.length h;rw[zj]at this;omega
theorem T5 (base:Nat)(v:Value)(l:List UInt8)(n d:Nat)(b:Int)(w:World)(h:bP w base 5 v l)(j:base<=w.heap.size)(i:l.length<=1000000)(c:4<=n)(e:n<=64)(hd:d<65536)(k:b=d):
 Calls prog 136 #[v,.int .i64 n,.int .i64 b] w (Qk base w (l++kZ n d)):=by
 subst k;exact TZ base v l n d w h j i c e hd
theorem Qp {a b:Int}(h:(DataW.lit (.int .i64 a):DataW Unit)= .lit (.int .i64 b)):a=b:=by
 injection h with h;injection h
theorem FL (w:World)(a:Addr)(c:Nat):(Instr.arrayAt 184 (.slice (some a) 4 c)).run prog w= .ok (.pointer (some a)) w:=by
 simp[Instr.arrayAt,xW ZO]
theorem Xu (s:ByteArray)(w:World)(hs:s.size<=65536):
 Calls prog 116 #[.string s] w fun e w'=>e= .returned (.tuple #[.string ⟨(pack s.data.toList).toArray⟩,.int .i64 0])/\Below w.heap.size w w':=by
 have kc:=fun(w:World) (s:ByteArray)=>Lib.run_convert_string_bytes (P:=prog) w 9 31 5 s zM zr yq
 have U:= @run_makeMap prog;have kA:=FL;have H1:=za (fun w=>vE s.size w (by omega));go_enter func116,ntmps116
 go_wp2_with fail
 refine(H1.out _).mono ?_;rintro e b ⟨rfl,q⟩;have cc:=q.size;rw[xL]at cc;have RD:∀k,k<s.size->b.cell? ⟨w.heap.size,k,none⟩=some (.int .u8 (s.data.toList.getD k 0).toNat):=fun k hk=>(q.cell (p:=⟨w.heap.size,k,none⟩) (by rw[xL];simp)).trans (Lib.bytesWorld_cell w _ s k hk)
 have V4:Below w.heap.size w b:=(Lib.bytesWorld_below w 5 s).trans (q.mono (by rw[xL];omega));have hT:(⟨(aR s.size).toArray⟩:ByteArray).size=(aR s.size).length:=bI _;have VW:=bB 3 s.size (by omega) (by omega);have YQ:=bP.conv b b.heap.size 5 ⟨(aR s.size).toArray⟩ (zg _) (by omega);have lH:s.size<=grownCap w s.size 0 5:=grownCap_ge _ _ _ _;have az:grownCap w s.size 0 5<=9223372036854775807:=by simpa[maxLen]using ZN w s.size 0 5 (by simp[maxLen];omega)
 rw[hT]at YQ;have ag:PW s w w.heap.size b.heap.size (Lib.bytesWorld b 5 ⟨(aR s.size).toArray⟩).heap.size 0 (.map []) ((Lib.bytesWorld b 5 ⟨(aR s.size).toArray⟩).alloc (.map #[] 0)):=by
  have pT:=Lib.bytesWorld_below b 5 ⟨(aR s.size).toArray⟩;refine⟨(V4.trans (pT.mono (by omega))).alloc (by rw[xL];omega) _,fun k hk=> ?_,by omega,by rw[xL];omega,by omega,World.ownsMap_made _ _ _ _⟩;rw[zA _ _ _ (by rw[xL];simp;omega),pT.cell (p:=⟨w.heap.size,k,none⟩) (by simp;omega)];exact RD k hk
 have V3:=YQ.alloc (.map #[] 0);have jU:=za V3;have al:=za ag;clear ag V3 YQ RD hT q V4;go_wp2;generalize grownCap w s.size 0 5=DI at*;generalize (Lib.bytesWorld b 5 ⟨(aR s.size).toArray⟩).heap.size=mB at*;generalize (Lib.bytesWorld b 5 ⟨(aR s.size).toArray⟩).alloc (.map #[] 0)=w2 at*;generalize grownCap b (aR s.size).length 0 5=Be at*;go_loopw [5,7,8] (fun v5 v7 x wr=>PAt s w w.heap.size b.heap.size mB v5 v7 x wr) (fun _ _ x _=>s.size-(intOf x).toNat)
 case atStart=>exact⟨0,0,s.size+1,0,_,_,_,_,_,rfl,rfl,rfl,by omega,by omega,by omega,by omega,jU.out,by simp[pack,aa],al.out,MI.start _⟩
 case round=>
  obtain⟨i,p,f,H,A,n,cap,l,ab,rfl,rfl,rfl,aw,hi,DD,hf,J,hl,y,af⟩:=hrel;have W:=za af;have HL:=za hl;have ma:=y.lt;have ax:=y.hBm;have aB:=acg hl (by simpa using hs);have F:=za hf;clear af hl;by_cases M:i<s.size
  ·obtain⟨wo,an⟩:∃wo:World,wo=wr:=⟨_,rfl⟩
   subst an;by_cases Y:i+4<=s.size
   ·have D:=PU s.data.toList i (by simpa using Y) i (zg _);have X:=W.out.2 i (by simpa using Y);obtain⟨c0,c1,K,c3,q0,S,N,O,z⟩:=y.four Y;have ay:¬DI=i:=by omega
    have VT:=za z;have LP:=y.map;clear z;cases hlg:jJ s.data.toList i i with
    |none=>
     have YO:=X.2 hlg;rw[hlg]at D;have I:=za D;clear X hlg D;go_wp2_with (at_lookup;refine Zf _ rfl _ _ 182 rfl 184 3 .i64 rP ZP yC (K5 _) mB H _ rfl LP _ _ rfl VT.out ?_;intro cj Z YR)
     clear Z YR q0 S N O LP;go_loopw [8,65] (fun x o wr=>PIn s w w.heap.size b.heap.size mB i 1 A n cap l x o wr) (fun _ o _=>1-(intOf o).toNat)
     case atStart=>exact⟨0,H,ab,rfl,rfl,by omega,by omega,J,y,W.out⟩
     case round=>
      obtain⟨c,h,E,rfl,rfl,hc,V5,r,d,B⟩:=hrel;have u:=za B;clear B;by_cases SY:c<1
      ·by_cases C:i+c+4<=s.size
       ·obtain⟨c0,c1,K,c3,q0,S,N,O,z⟩:=d.four C;have HK:=za z;have bU:=d.map;clear z;go_wp2_with (at_mapUpdate;refine wpList_mapUpdate_own _ rfl _ _ _ 182 rfl 184 3 rP ZP _ mB h _ rfl bU (by unfold maxLen;omega) _ _ _ rfl rfl HK.out _ [] (plainElem_int yC (WalkArith.wf_i64 (by omega))) ?_;intro w5 RE L)
        go_roundw
        case rel=>exact⟨c+1,h+1,_,by go_num,by go_num,by omega,by omega,d.buf r L,d.ll RE L,u.out.put (by simpa using C)⟩
        case measure=>simp[intOf];omega
       omega
      go_wp2;go_roundw
      case rel=>exact⟨i+1,p,f-1,h,A,n,cap,l,E,rfl,rfl,by go_num,by omega,by omega,by omega,by have:=F.out;omega,r,K6 HL.out (by simpa using F.out) (by simpa using M) I.out,d,by rw[show i+1=i+c from by omega];exact u.out⟩
      case measure=>simp[intOf];omega
    |some j=>
     have tR:=PV _ _ _ _ hlg;obtain⟨YO,RF⟩:=X.1 j hlg;have oy:=za RF;rw[hlg]at D;have I:=za D;have ao:=(qh _ _ _ _ D).2;have U:=BG s.data.toList 64 j i;have ak:=U.2 (by simpa using hi);rw[aa]at ak;have aj:=U.1;have YP:=za (fun w=>T3 s j i w tR hi hs);generalize OQ:mt s.data.toList j i 64=m at*;have oW:=za OQ;have V2:(s.extract p i).size<=65536:=by rw[aq _ _ _ hi];omega
     have av:=za (T4 HL.out (by simpa using F.out) (by simpa using M) I.out (ar s p i) oW.out);have VU:(l++ig (s.extract p i).data.toList).length<=200000:=by
      have:=kf (s.extract p i).data.toList (by rw[aa];exact V2);rw[aa]at this;have h3:(if(s.extract p i).size=0 then 0 else if(s.extract p i).size<=60 then 1 else if(s.extract p i).size<=256 then 2 else 3)<=3:=by split<;>(try split)<;>(try split)<;>omega
      rw[zj];omega
     clear X hlg D RF U OQ;go_wp2_with (at_lookup;refine Zf _ rfl _ _ 182 rfl 184 3 .i64 rP ZP yC (K5 _) mB H _ rfl LP _ _ rfl VT.out ?_;intro cj Z YR;obtain rfl:=Qp (Z.symm.trans oy.out);clear Z YR)
     refine(K4 b.heap.size _ l (s.extract p i) _ J (by omega) (by omega) V2).mono ?_;rintro e w3 ⟨A1,n1,aD,rfl,q,G⟩;have aA:=G.size;have ah:=y.kept G;go_wp2_with fail
     refine(YP.out _).mono ?_;rintro e w4 ⟨rfl,R⟩;have Om:=R.size;have ae:=ah.later R;have ad:=q.below R;go_wp2_with fail
     refine(T5 b.heap.size _ _ m (i-j) ((i:Int)-j) _ ad (by omega) (by omega) ao aj (by omega) (by omega)).mono ?_;rintro e w5 ⟨A2,n2,K,rfl,aJ,eD⟩;have ai:=ae.kept eD;clear q ad ah ae y J q0 S N O LP G eD R;go_wp2;go_loopw [8,65] (fun x o wr=>PIn s w w.heap.size b.heap.size mB i m A2 n2 K _ x o wr) (fun _ o _=>m-(intOf o).toNat)
     case atStart=>exact⟨0,H,ab,rfl,rfl,by omega,by omega,aJ,ai,W.out⟩
     case round=>
      obtain⟨c,h,E,rfl,rfl,hc,V5,r,d,B⟩:=hrel;have u:=za B;clear B;by_cases SY:c<m
      ·by_cases C:i+c+4<=s.size
       ·obtain⟨c0,c1,K,c3,q0,S,N,O,z⟩:=d.four C;have HK:=za z;have bU:=d.map;clear z;go_wp2_with (at_mapUpdate;refine wpList_mapUpdate_own _ rfl _ _ _ 182 rfl 184 3 rP ZP _ mB h _ rfl bU (by unfold maxLen;omega) _ _ _ rfl rfl HK.out _ [] (plainElem_int yC (WalkArith.wf_i64 (by omega))) ?_;intro w5 RE L)
        go_roundw
        case rel=>exact⟨c+1,h+1,_,by go_num,by go_num,by omega,by omega,d.buf r L,d.ll RE L,u.out.put (by simpa using C)⟩
        case measure=>simp[intOf];omega
       go_wp2;go_roundw
       case rel=>exact⟨c+1,h,E,by go_num,by go_num,by omega,by omega,r,d,u.out.skip (by simpa using C)⟩
       case measure=>simp[intOf];omega
      go_wp2;go_roundw
      case rel=>exact⟨i+m,i+m,f-1,h,A2,n2,K,_,E,rfl,by go_num,by go_num,by omega,by omega,by omega,by have:=F.out;omega,r,av.out,d,by rw[show i+m=i+c from by omega];exact u.out⟩
      case measure=>simp[intOf];omega
   have I:=za (vB s.data.toList i (by simpa using hi) (by simpa using Y) i (zg _));go_wp2;go_loopw [8,65] (fun x o wr=>PIn s w w.heap.size b.heap.size mB i 1 A n cap l x o wr) (fun _ o _=>1-(intOf o).toNat)
   case atStart=>exact⟨0,H,ab,rfl,rfl,by omega,by omega,J,y,W.out⟩
   case round=>
    obtain⟨c,h,E,rfl,rfl,hc,V5,r,d,B⟩:=hrel;have u:=za B;have C:¬i+c+4<=s.size:=by omega
    clear B;by_cases SY:c<1
    ·go_wp2;go_roundw
     case rel=>exact⟨c+1,h,E,by go_num,by go_num,by omega,by omega,r,d,u.out.skip (by simpa using C)⟩
     case measure=>simp[intOf];omega
    go_wp2;go_roundw
    case rel=>exact⟨i+1,p,f-1,h,A,n,cap,l,E,rfl,rfl,by go_num,by omega,by omega,by omega,by have:=F.out;omega,r,K6 HL.out (by simpa using F.out) (by simpa using M) I.out,d,by rw[show i+1=i+c from by omega];exact u.out⟩
    case measure=>simp[intOf];omega
  have HE:=za (Xt HL.out (by simpa using F.out) (by simpa using M) (show(s.extract p s.size).data.toList=s.data.toList.drop p by rw[ar,dq]));have au:(s.extract p s.size).size<=65536:=by rw[aq _ _ _ (zg _)];omega
  go_wp2_with fail
  refine(K4 b.heap.size _ l (s.extract p s.size) _ J (by omega) (by omega) au).mono ?_;rintro e w3 ⟨A1,n1,c1,rfl,q,G⟩;rw[HE.out]at q;have Rx:=q.EJ (P:=prog) zr yq zM;have HB:=za ((y.kept G).below);clear q G;go_wp2;go_ret2
  exact⟨rfl,HB.out⟩
open Go.RowKit
theorem ur :(prog.info? 5).map (fun i=>(i.zero,i.size,i.bytes))=some (some (.int .u8 0),1,1):=by kernel_rfl
theorem I4 (g bx:Nat)(s:ByteArray)(k n:Nat)(w:World)(h:i' w g s k 0)(hx:w.cell? ⟨bx,0,none⟩=some (.pointer (some ⟨g,0,none⟩)))(q:s.size<=9223372036854775807)(b:k+n<=s.size)(u:1<=n)(x:n<=4):
 Calls prog 164 #[.int .i64 n,.pointer (some ⟨bx,0,none⟩)] w fun e w'=>e= .returned (.int .i64 (du (s.extract k (k+n)).data.toList))/\i' w' g s (k+n) 0/\ae [g] w w':=by
 have d:=eK g s k n w h q b;have hz:(s.extract k (k+n)).size=n:=by rw[aq _ _ _ b];omega
 have c:=fun w=>fg (s.extract k (k+n)) w (by omega) (by omega)
 have j:=jC (s.extract k (k+n)).data.toList;have p:2^(8*(s.extract k (k+n)).data.toList.length)<=2^32:=yp (by omega) (by rw[aa,hz];omega);have y:du (s.extract k (k+n)).data.toList<=4294967295:=by omega
 have o:=za d;have l:=za c;clear j p hz d c h;generalize du (s.extract k (k+n)).data.toList=N at*;go_enter func164,ntmps164
 go_wp2_with fail
 refine o.out.mono ?_;rintro e w' ⟨rfl,m,i⟩;go_wp2_with fail
 refine(l.out _).mono ?_;rintro e r ⟨rfl,rfl⟩;go_wp2;go_ret;exact⟨rfl,m,i⟩
theorem jq (g bx:Nat)(s:ByteArray)(k n:Nat)(w:World)(h:i' w g s k 0)(hx:w.cell? ⟨bx,0,none⟩=some (.pointer (some ⟨g,0,none⟩)))(j:k<=s.size)(l:s.size<=9223372036854775807)(c:s.size<k+n)(o:n<=4):
 Calls prog 164 #[.int .i64 n,.pointer (some ⟨bx,0,none⟩)] w fun e w'=>e= .returned (.int .i64 0)/\i' w' g s k 2/\ae [g] w w':=by
 have i:=za (gb g s k n w h j l c (by omega));clear h;go_enter func164,ntmps164
 go_wp2_with fail
 refine i.out.mono ?_;rintro e w' ⟨rfl,d,b⟩;go_wp2_with fail
 refine(nr _ _ rfl).mono ?_;rintro e m ⟨rfl,rfl⟩;go_wp2;go_ret;exact⟨rfl,d,b⟩
theorem Xv (b:Nat)(c:b<256):bits .and .u8 (b:Int) 3=((b%4:Nat):Int):=by
 have:=u8_and_nat b 3 c (by omega);rw[nat_mask2]at this;exact this
theorem FM (g bx:Nat)(s:ByteArray)(k n N:Nat)(w:World)(h:i' w g s k 0)(hx:w.cell? ⟨bx,0,none⟩=some (.pointer (some ⟨g,0,none⟩)))(j:s.size<=9223372036854775807)(c:k+n<=s.size)(d:1<=n)(i:n<=4)(b:du (s.extract k (k+n)).data.toList=N):
 Calls prog 164 #[.int .i64 n,.pointer (some ⟨bx,0,none⟩)] w fun e w'=>e= .returned (.int .i64 N)/\i' w' g s (k+n) 0/\ae [g] w w':=by
 subst b;exact I4 g bx s k n w h hx j c d i
theorem K7 (s:ByteArray)(k b:Nat)(c:b<256)(h:k+bh b<=s.size):iE s k b<=4294967295:=by
 have e:=jC (s.extract (k+1) (k+bh b)).data.toList;have d:=Br b c;have i:2^(8*(s.extract (k+1) (k+bh b)).data.toList.length)<=2^32:=yp (by omega) (by rw[aa,aq _ _ _ h];omega);unfold iE;omega
theorem Nl (b n N c:Nat)(h:b<256)(i:b%4≠0)(e:cS b N=n)(d:j8 b N=c):
 (bits .and .u8 (b:Int) 3=1/\Hid (bh b=2)/\Hid (4+(b:Int)/4%8=n)/\Hid ((b:Int)/4/8*256+N=c))\/
 (bits .and .u8 (b:Int) 3=2/\Hid (bh b=3)/\Hid ((b:Int)/4+1=n)/\Hid ((N:Int)=c))\/
 (bits .and .u8 (b:Int) 3=3/\Hid (bh b=5)/\Hid ((b:Int)/4+1=n)/\Hid ((N:Int)=c)):=by
 rw[Xv b h];rcases(show b%4=1\/b%4=2\/b%4=3 from by omega)with hm|hm|hm
 ·refine .inl ⟨by rw[hm];rfl,za (by simp[bh,hm]),za ?_,za ?_⟩
  ·simp[cS,hm]at e;omega
  simp[j8,hm]at d;omega
 ·refine .inr (.inl ⟨by rw[hm];rfl,za (by simp[bh,hm]),za ?_,za ?_⟩)
  ·simp[cS,hm]at e;omega
  simp[j8,hm]at d;omega
 refine .inr (.inr ⟨by rw[hm];rfl,za (by simp[bh,hm]),za ?_,za ?_⟩)
 ·simp[cS,hm]at e;omega
 simp[j8,hm]at d;omega
theorem vO (o:List UInt8)(d q:Nat)(h:d+q<=o.length):(cb ((o.drop d).take q)).length=q*1:=by
 rw[bs,zV,zS];omega
theorem vP (c:w.ownsRow base e 1 (.slice (some ⟨h,0,none⟩) o.length cap) o.length (cb o))(d q:Nat)(hd:d+q<=o.length):
 ∀j u,(cb ((o.drop d).take q))[j]?=some u->w.cell? ((⟨h,d,none⟩:Addr).add j)=some u:=by
 intro j u hu;have b:j<q:=by
  have:=(xB.1 hu).1;rw[vO o d q hd]at this;omega
 have i:(⟨h,d,none⟩:Addr).add j=⟨h,d+j,none⟩:=by
  unfold Addr.add;split<;>simp_all
 rw[i,c.cellAt (d+j) (by omega),<-hu,EH,EH,yA b,xx]
theorem vQ {w3:World}{c b q size:Nat}{x:List UInt8}(l:wr.ownsRow base 5 1 (.slice (some ⟨h,0,none⟩) o.length cap) o.length (cb o))
 (y:w3.ownsRow base 5 1 (.slice (some ⟨c,0,none⟩) (o.length+q) d) (o.length+q) (cb o++cb ((o.drop (o.length-b)).take q)))
 (j:wr.grownBy w3 (Value.slice (some ⟨h,0,none⟩) o.length cap).ownBlock) (i:i' wr g s k 0) (r:Below B w wr) (p:B<=wr.heap.size) (A:B<=base)
 (u:tZ o b m=x) (n:b<=o.length) (D:q<=m) (z:q<=b) (E:o.length+m<=size):
 Value.slice (some ⟨c,0,none⟩) (o.length+q) d= .slice (some ⟨c,0,none⟩) (o++(o.drop (o.length-b)).take q).length d/\
 w3.ownsRow base 5 1 (.slice (some ⟨c,0,none⟩) (o++(o.drop (o.length-b)).take q).length d) (o++(o.drop (o.length-b)).take q).length (cb (o++(o.drop (o.length-b)).take q))/\
 i' w3 g s k 0/\Below B w w3/\tZ (o++(o.drop (o.length-b)).take q) b (m-q)=x/\b<=(o++(o.drop (o.length-b)).take q).length/\(o++(o.drop (o.length-b)).take q).length+(m-q)<=size:=by
 have e:(o++(o.drop (o.length-b)).take q).length=o.length+q:=by
  rw[zj,zV,zS];omega
 have C:=rz l;refine⟨by rw[e],by rw[e,gq];exact y, ?_, ?_, ?_,by omega,by omega⟩
 ·exact i.only (ae.dW j) (by simp[Value.ownBlock];exact(dI l i (by decide)).symm)
 ·exact r.grown j p (by simp[Value.ownBlock];omega)
 rw[<-Mn o b q z n,<-Kq,show q+(m-q)=m from by omega];exact u
theorem Nn (b n size len:Nat)(c:len<=size):
 (((b=0\/len<b)\/size-len<n)/\((b:Int)==0)=true)\/(((b=0\/len<b)\/size-len<n)/\((b:Int)==0)=false/\len<b)\/
 (((b=0\/len<b)\/size-len<n)/\((b:Int)==0)=false/\b<=len/\(size:Int)-len<n)\/((¬((b=0\/len<b)\/size-len<n))/\((b:Int)==0)=false/\b<=len/\(n:Int)<=size-len/\decide (len<b)=false/\decide ((size:Int)-len<n)=false):=by
 simp only[yQ,zm,ne_eq,yX];omega
def qF (g:Nat)(s:ByteArray)(B base:Nat)(w:World)(x:Int×Nat×List UInt8)(e:Ending)(w':World):Prop:=
 ∃h' aj k',e= .returned (.slice (some ⟨h',0,none⟩) x.2.2.length aj)/\w'.ownsRow base 5 1 (.slice (some ⟨h',0,none⟩) x.2.2.length aj) x.2.2.length (cb x.2.2)/\
  i' w' g s k' x.1/\(x.1=0->k'=x.2.1)/\Below B w w'
theorem Da (g:Nat)(s:ByteArray)(k b:Nat)(w:World)(h:i' w g s k 0)(hk:k<s.size)(hs:s.size<=9223372036854775807)(hb:s[k].toNat=b)(d:b<256)(Rw:b%4≠0)(j:k+bh b<=s.size)
 (B base cap K size:Nat) (out:List UInt8) (M:w.ownsRow base 5 1 (.slice (some ⟨K,0,none⟩) out.length cap) out.length (cb out)) (oh:B<=g) (kC:B<=base) (tu:B<=w.heap.size) (aC:out.length<=size) (fG:size<=4294967295):
 Calls prog 139 #[.pointer (some ⟨g,0,none⟩),.slice (some ⟨K,0,none⟩) out.length cap,.int .i64 size] w (qF g s B base w (cd s size k b out)):=by
 have U:=dI M h (by decide);have rp:=(vM g s k _ (h.alloc (.cells #[.pointer (some ⟨g,0,none⟩)] 164)) hk hs)
 rw[hb]at rp;have LR:=za rp;have ee:=M.alloc (.cells #[.pointer (some ⟨g,0,none⟩)] 164);have j4:=af.new w 164 #[.pointer (some ⟨g,0,none⟩)];have GQ:=h.lt;have hB:=(zl B w).alloc tu (.cells #[.pointer (some ⟨g,0,none⟩)] 164);obtain⟨N,J⟩:∃N,iE s k b=N:=⟨_,rfl⟩
 have ad:=K7 s k b d j;rw[J]at ad;obtain⟨n,L⟩:∃n,cS b N=n:=⟨_,rfl⟩
 obtain⟨c,O⟩:∃n,j8 b N=n:=⟨_,rfl⟩
 have LQ:Hid (cd s size k b out=if((c=0\/out.length<c))\/size-out.length<n then(3,k,out)else(0,k+bh b,tZ out c n)):=by
  refine za ?_;unfold cd;rw[J,L,O,zh (by omega)];simp[Rw]
 obtain⟨i0,hi,dO,cc,cE⟩:=yG ur;have HN:=za J;have Hh:=za j;have Hn:=za L;have ae:=za O;clear rp h M hb j J L O;go_enter ZK,Zz
 go_wp2_with fail
 refine LR.out.mono ?_;rintro e w1 ⟨rfl,hr,H⟩;have aG:Below B w w1:=hB.trans (H.below (by simp;omega) (by simp;omega));have ep:=H.own ee (by simp[Value.ownBlock];exact U);have S:=j4.only H (by simp;omega);have GP:w1.cell? ⟨w.heap.size,0,none⟩=some (.pointer (some ⟨g,0,none⟩)):=zZ S;clear H j4 ee hB LR;rcases Nl b n N c d Rw Hn.out ae.out with⟨wZ,j,Z,E2⟩|⟨wZ,j,Z,E2⟩|⟨wZ,j,Z,E2⟩;all_goals
  first
   |have y:∃q:Nat,bh b=q+1/\(q:Int)=1:=⟨1,j.out,rfl⟩
   |have y:∃q:Nat,bh b=q+1/\(q:Int)=2:=⟨2,j.out,rfl⟩
   |have y:∃q:Nat,bh b=q+1/\(q:Int)=4:=⟨4,j.out,rfl⟩
  obtain⟨q,y,aa⟩:=y;have HQ:=za y;have l:=za (FM g _ s (k+1) q N w1 hr GP hs (by have:=Hh.out;omega) (by omega) (by omega) (by rw[<-HN.out,iE,y,show k+(q+1)=k+1+q from by omega]));rw[aa]at l;clear y aa;go_wp2_with fail
  refine l.out.mono ?_;rintro e F ⟨rfl,X,I⟩;have aJ:Below B w F:=aG.trans (I.below (by have:=aG.size;omega) (by simp;omega));have tT:=S.only I (by simp;omega);have RH:F.cell? ⟨w.heap.size,0,none⟩=some (.pointer (some ⟨g,0,none⟩)):=zZ tT;have ia:=I.own ep (by simp[Value.ownBlock];exact U);go_wp2_with fail
  rw[Z.out,E2.out];refine(bu g s _ 0 F X).mono ?_;rintro e w' ⟨rfl,rfl⟩;clear l I ep S GP hr aG;rcases Nn c n size out.length aC with⟨r,Y⟩|⟨r,Y,e2⟩|⟨r,Y,e2,e3⟩|⟨r,Y,e2,e3,e4,e5⟩;rotate_right
  ·have G:=za r;clear r;have ai:1<=c:=by have:=G.out;omega
   go_wp2_with fail
   go_loopw [1,11] (fun v x wr=>∃(m:Nat) (o:List UInt8) (z u:Nat),v= .slice (some ⟨z,0,none⟩) o.length u/\x= .int .i64 m/\wr.ownsRow base 5 1 (.slice (some ⟨z,0,none⟩) o.length u) o.length (cb o)/\
    i' wr g s (k+1+q) 0/\Below B w wr/\Hid (tZ o c m=tZ out c n)/\c<=o.length/\o.length+m<=size) (fun _ x _=>(intOf x).toNat)
   case atStart=>exact⟨n,out,K,cap,rfl,rfl,ia,X,aJ,za rfl,e2,by omega⟩
   case round=>
    obtain⟨m,o,z,u,rfl,rfl,i,A,d,p,ab,RG⟩:=hrel;obtain⟨GN,Bd,ag,ak⟩:=rz i;have al:¬u=o.length-c:=by omega
    by_cases G5:0<m
    ·by_cases ah:m<=c
     ·have l:=za (vO o (o.length-c) m (by omega));have E:=za (vP i (o.length-c) m (by omega));go_wp2_with (at_builtin;refine yW _ rfl (.tmp 100) (.tmp 101) 31 rfl base 5 i0 (.int .u8 0) 1 1 zr hi dO cc cE rfl (by decide) _ _ _ rfl i ⟨z,o.length-c,none⟩ m (u-(o.length-c)) (cb ((o.drop (o.length-c)).take m)) rfl l.out E.out (uU _) (by omega) (by simp only[maxLen];omega) (by omega) (by have:=d.size;omega) wr.heap.size rfl ?_;intro g1 W w3 D C dh YS)
      have R:=vQ i D C A d (by have:=d.size;omega) (by omega) p.out ab (show m<=m from by omega) (show m<=c from by omega) RG;clear D C dh i A d p E l;go_wp2;go_roundw
      case rel=>exact⟨m-m,_,g1,W,R.1,by go_num,R.2.1,R.2.2.1,R.2.2.2.1,za R.2.2.2.2.1,R.2.2.2.2.2.1,R.2.2.2.2.2.2⟩
      case measure=>simp[intOf];omega
     have l:=za (vO o (o.length-c) c (by omega));have E:=za (vP i (o.length-c) c (by omega));go_wp2_with (at_builtin;refine yW _ rfl (.tmp 100) (.tmp 101) 31 rfl base 5 i0 (.int .u8 0) 1 1 zr hi dO cc cE rfl (by decide) _ _ _ rfl i ⟨z,o.length-c,none⟩ c (u-(o.length-c)) (cb ((o.drop (o.length-c)).take c)) rfl l.out E.out (uU _) (by omega) (by simp only[maxLen];omega) (by omega) (by have:=d.size;omega) wr.heap.size rfl ?_;intro g1 W w3 D C dh YS)
     have R:=vQ i D C A d (by have:=d.size;omega) (by omega) p.out ab (show c<=m from by omega) (show c<=c from by omega) RG;clear D C dh i A d p E l;go_wp2;go_roundw
     case rel=>exact⟨m-c,_,g1,W,R.1,by go_num,R.2.1,R.2.2.1,R.2.2.2.1,za R.2.2.2.2.1,R.2.2.2.2.2.1,R.2.2.2.2.2.2⟩
     case measure=>simp[intOf];omega
    go_wp2;go_ret;obtain rfl:m=0:=by omega
    have p:=p.out;simp only[tZ]at p;rw[LQ.out,zh G.out,HQ.out,<-p];exact⟨z,u,_,rfl,i,A,fun _=>by simp;omega,d⟩
  all_goals
   have G:=za r;clear r;go_wp2_with fail
   refine(iM g s _ 3 F X).mono ?_;rintro e w3 ⟨rfl,tU,lJ⟩;have bQ:Below B w w3:=aJ.trans (lJ.below (by have:=aJ.size;omega) (by simp;omega));have fQ:=lJ.own ia (by simp[Value.ownBlock];exact U);go_wp2;go_ret;rw[LQ.out,zi G.out];exact⟨K,cap,_,rfl,fQ,tU,(fun h=>by cases h),bQ⟩
theorem FN (n size len:Nat)(b:len<=size):(size-len<n/\(size:Int)-len<n)\/(¬size-len<n/\(n:Int)<=size-len):=by omega
theorem I5 (b:Nat)(d:b<256)(h:1<bh b):
 (bits .and .u8 (b:Int) 3=0/\60<=b/4/\∃nb:Nat,1<=nb/\nb<=4/\Hid (bh b=nb+1)/\Hid ((b:Int)/4-59=nb))\/(bits .and .u8 (b:Int) 3=1/\Hid (bh b=1+1))\/(bits .and .u8 (b:Int) 3=2/\Hid (bh b=2+1))\/(bits .and .u8 (b:Int) 3=3/\Hid (bh b=4+1)):=by
 rw[Xv b d];rcases(show b%4=0\/b%4=1\/b%4=2\/b%4=3 from by omega)with hm|hm|hm|hm
 ·have c:60<=b/4:=by
   rcases xG (b/4) 60 with h1|h1
   ·simp[bh,hm,show¬60<=b/4 from by omega]at h
   exact h1
  exact .inl ⟨by rw[hm];rfl,c,b/4-59,by omega,by omega,za (by simp[bh,hm,c];omega),za (by omega)⟩
 ·exact .inr (.inl ⟨by rw[hm];rfl,za (by simp[bh,hm])⟩)
 ·exact .inr (.inr (.inl ⟨by rw[hm];rfl,za (by simp[bh,hm])⟩))
 exact .inr (.inr (.inr ⟨by rw[hm];rfl,za (by simp[bh,hm])⟩))
theorem FO (g:Nat)(s:ByteArray)(k b:Nat)(w:World)(h:i' w g s k 0)(hk:k<s.size)(H:s.size<=9223372036854775807)(hb:s[k].toNat=b)(fu:b<256)(G:b%4=0)(tM:k+bh b<=s.size)
 (B base cap y size:Nat) (out:List UInt8) (bU:w.ownsRow base 5 1 (.slice (some ⟨y,0,none⟩) out.length cap) out.length (cb out)) (oh:B<=g) (kC:B<=base) (tu:B<=w.heap.size) (gA:base<=w.heap.size) (aC:out.length<=size) (fG:size<=4294967295):
 Calls prog 139 #[.pointer (some ⟨g,0,none⟩),.slice (some ⟨y,0,none⟩) out.length cap,.int .i64 size] w (qF g s B base w (cd s size k b out)):=by
 have x:=dI bU h (by decide);have rp:=(vM g s k _ (h.alloc (.cells #[.pointer (some ⟨g,0,none⟩)] 164)) hk H)
 rw[hb]at rp;have LR:=za rp;have ee:=bU.alloc (.cells #[.pointer (some ⟨g,0,none⟩)] 164);have j4:=af.new w 164 #[.pointer (some ⟨g,0,none⟩)];have GQ:=h.lt;have hB:=(zl B w).alloc tu (.cells #[.pointer (some ⟨g,0,none⟩)] 164);obtain⟨N,U⟩:∃N,iE s k b=N:=⟨_,rfl⟩
 have ad:=K7 s k b fu tM;rw[U]at ad;obtain⟨n,hn⟩:∃n,cS b N=n:=⟨_,rfl⟩
 have I:Hid (cd s size k b out=if size-out.length<n then(3,k,out)else if s.size<k+bh b+n then(2,k,out)else(0,k+bh b+n,out++(s.extract (k+bh b) (k+bh b+n)).data.toList)):=by
  refine za ?_;unfold cd;rw[U,hn,zh (by omega)];simp[G]
 obtain⟨i0,hi,dO,Z,O⟩:=yG ur;have HN:=za U;have Hh:=za tM;have Hn:=za hn;have wZ:bits .and .u8 (b:Int) 3=0:=by rw[Xv b fu,G];rfl
 clear rp h bU hb tM U hn;go_enter ZK,Zz
 go_wp2_with fail
 refine LR.out.mono ?_;rintro e w1 ⟨rfl,W,R⟩;have L:Below B w w1:=hB.trans (R.below (by simp;omega) (by simp;omega));have X:=R.own ee (by simp[Value.ownBlock];exact x);have J:=j4.only R (by simp;omega);have GP:w1.cell? ⟨w.heap.size,0,none⟩=some (.pointer (some ⟨g,0,none⟩)):=zZ J;clear R j4 ee hB LR;by_cases Y:60<=b/4
 ·obtain⟨nb,ab⟩:∃nb:Nat,(b:Int)/4-59=nb:=⟨b/4-59,by omega⟩
  have m:Hid (k+1+nb=k+bh b):=za (by simp[bh,G,Y];omega);have E1:Hid ((N:Int)+1=n):=za (by have:=Hn.out;simp[cS,G,Y]at this;omega);have ag:=za ab;have Hl:=za (FM g _ s (k+1) nb N w1 W GP H (by have:=Hh.out;have:=m.out;omega) (by omega) (by omega) (by rw[<-HN.out,iE,m.out]));have ah:k+1+nb<=s.size:=by have:=Hh.out;have:=m.out;omega
  clear ab;go_wp2_with fail
  rw[ag.out];refine Hl.out.mono ?_;rintro e w2 ⟨rfl,u,S⟩;have l:Below B w w2:=L.trans (S.below (by have:=L.size;omega) (by simp;omega));have tT:=J.only S (by simp;omega);have RH:w2.cell? ⟨w.heap.size,0,none⟩=some (.pointer (some ⟨g,0,none⟩)):=zZ tT;have D:=S.own X (by simp[Value.ownBlock];exact x);clear Hl S X J GP W L;go_wp2_with fail
  rw[E1.out];refine(bu g s _ 0 _ u).mono ?_;rintro e w' ⟨rfl,rfl⟩;rcases FN n size out.length aC with⟨o,e1⟩|⟨o,e1⟩
  ·have r:=za o;clear o;go_wp2_with fail
   refine(iM g s _ 3 _ u).mono ?_;rintro e w3 ⟨rfl,j,i⟩;have c:Below B w w3:=l.trans (i.below (by have:=l.size;omega) (by simp;omega));have d:=i.own D (by simp[Value.ownBlock];exact x);go_wp2;go_ret;rw[I.out,zi r.out];exact⟨y,cap,_,rfl,d,j,(fun h=>by cases h),c⟩
  have r:=za o;clear o;by_cases wW:s.size<k+1+nb+n
  ·have A:=za (gb g s (k+1+nb) n _ u (by omega) H wW (by omega));go_wp2_with fail
   refine A.out.mono ?_;rintro e w3 ⟨rfl,j,i⟩;have c:Below B w w3:=l.trans (i.below (by have:=l.size;omega) (by simp;omega));have d:=i.own D (by simp[Value.ownBlock];exact x);have RI:=dI d j (by decide);go_wp2_with (at_builtin;refine xU _ rfl (.tmp 82) (.tmp 85) 31 9 rfl base 5 i0 zr zM hi dO Z O (.slice (some ⟨y,0,none⟩) out.length cap) out.length (cb out) rfl d ByteArray.empty rfl (by simp[maxLen];omega) (by simp;omega) (by have:=c.size;omega) ?_;intro v' w4 q p F)
   obtain⟨C,E,rfl⟩:=qg q (by rw[ne_eq,F];simp);go_wp2;go_ret;rw[I.out,zh r.out,zi (by have:=m.out;omega)];refine⟨C,E,_,by simp,by simpa[Lib.strCells]using q,j.only (ae.dW p) (by simp[Value.ownBlock];omega),(fun h=>by cases h),c.grown p (by have:=c.size;omega) (by simp[Value.ownBlock];have:=rz d;omega)⟩
  have A:=za (eK g s (k+1+nb) n _ u H (by omega));have M:=za (aq s (k+1+nb) (k+1+nb+n) (by omega));have aa:Hid (s.extract (k+1+nb) (k+1+nb+n)=s.extract (k+bh b) (k+bh b+n)):=za (by rw[<-m.out]);go_wp2_with fail
  refine A.out.mono ?_;rintro e w3 ⟨rfl,j,i⟩;have c:Below B w w3:=l.trans (i.below (by have:=l.size;omega) (by simp;omega));have d:=i.own D (by simp[Value.ownBlock];exact x);have RI:=dI d j (by decide);generalize s.extract (k+1+nb) (k+1+nb+n)=z at*;go_wp2_with (at_builtin;refine xU _ rfl (.tmp 82) (.tmp 85) 31 9 rfl base 5 i0 zr zM hi dO Z O (.slice (some ⟨y,0,none⟩) out.length cap) out.length (cb out) rfl d z rfl (by rw[M.out];simp only[maxLen];omega) (by rw[M.out];omega) (by have:=c.size;omega) ?_;intro v' w4 q p F)
  obtain⟨C,E,rfl⟩:=qg q (by rw[ne_eq,F];simp);have K:(out++z.data.toList).length=out.length+z.size:=by simp
  go_wp2;go_ret;rw[I.out,zh r.out,zh (by have:=m.out;omega),<-aa.out];refine⟨C,E,_,by rw[K];rfl, ?_,j.only (ae.dW p) (by simp[Value.ownBlock];omega),(fun _=>by have:=m.out;simp;omega),c.grown p (by have:=c.size;omega) (by simp[Value.ownBlock];have:=rz d;omega)⟩;rw[K,gq];exact q
 have m:Hid (k+1=k+bh b):=za (by simp[bh,G,Y]);have E1:Hid ((b:Int)/4+1=n):=za (by have:=Hn.out;simp[cS,G,Y]at this;omega);have u:=W;have l:=L;have D:=X;have tT:=J;clear W L X J;go_wp2_with fail
 rw[E1.out];refine(bu g s _ 0 _ u).mono ?_;rintro e w' ⟨rfl,rfl⟩;rcases FN n size out.length aC with⟨o,e1⟩|⟨o,e1⟩
 ·have r:=za o;clear o;go_wp2_with fail
  refine(iM g s _ 3 _ u).mono ?_;rintro e w3 ⟨rfl,j,i⟩;have c:Below B w w3:=l.trans (i.below (by have:=l.size;omega) (by simp;omega));have d:=i.own D (by simp[Value.ownBlock];exact x);go_wp2;go_ret;rw[I.out,zi r.out];exact⟨y,cap,_,rfl,d,j,(fun h=>by cases h),c⟩
 have r:=za o;clear o;by_cases wW:s.size<k+1+n
 ·have A:=za (gb g s (k+1) n _ u (by omega) H wW (by omega));go_wp2_with fail
  refine A.out.mono ?_;rintro e w3 ⟨rfl,j,i⟩;have c:Below B w w3:=l.trans (i.below (by have:=l.size;omega) (by simp;omega));have d:=i.own D (by simp[Value.ownBlock];exact x);have RI:=dI d j (by decide);go_wp2_with (at_builtin;refine xU _ rfl (.tmp 82) (.tmp 85) 31 9 rfl base 5 i0 zr zM hi dO Z O (.slice (some ⟨y,0,none⟩) out.length cap) out.length (cb out) rfl d ByteArray.empty rfl (by simp[maxLen];omega) (by simp;omega) (by have:=c.size;omega) ?_;intro v' w4 q p F)
  obtain⟨C,E,rfl⟩:=qg q (by rw[ne_eq,F];simp);go_wp2;go_ret;rw[I.out,zh r.out,zi (by have:=m.out;omega)];refine⟨C,E,_,by simp,by simpa[Lib.strCells]using q,j.only (ae.dW p) (by simp[Value.ownBlock];omega),(fun h=>by cases h),c.grown p (by have:=c.size;omega) (by simp[Value.ownBlock];have:=rz d;omega)⟩
 have A:=za (eK g s (k+1) n _ u H (by omega));have M:=za (aq s (k+1) (k+1+n) (by omega));have aa:Hid (s.extract (k+1) (k+1+n)=s.extract (k+bh b) (k+bh b+n)):=za (by rw[<-m.out]);go_wp2_with fail
 refine A.out.mono ?_;rintro e w3 ⟨rfl,j,i⟩;have c:Below B w w3:=l.trans (i.below (by have:=l.size;omega) (by simp;omega));have d:=i.own D (by simp[Value.ownBlock];exact x);have RI:=dI d j (by decide);generalize s.extract (k+1) (k+1+n)=z at*;go_wp2_with (at_builtin;refine xU _ rfl (.tmp 82) (.tmp 85) 31 9 rfl base 5 i0 zr zM hi dO Z O (.slice (some ⟨y,0,none⟩) out.length cap) out.length (cb out) rfl d z rfl (by rw[M.out];simp only[maxLen];omega) (by rw[M.out];omega) (by have:=c.size;omega) ?_;intro v' w4 q p F)
 obtain⟨C,E,rfl⟩:=qg q (by rw[ne_eq,F];simp);have K:(out++z.data.toList).length=out.length+z.size:=by simp
 go_wp2;go_ret;rw[I.out,zh r.out,zh (by have:=m.out;omega),<-aa.out];refine⟨C,E,_,by rw[K];rfl, ?_,j.only (ae.dW p) (by simp[Value.ownBlock];omega),(fun _=>by have:=m.out;simp;omega),c.grown p (by have:=c.size;omega) (by simp[Value.ownBlock];have:=rz d;omega)⟩;rw[K,gq];exact q
theorem AP (g:Nat)(s:ByteArray)(k b:Nat)(w:World)(h:i' w g s k 0)(U:k<s.size)(M:s.size<=9223372036854775807)(K:s[k].toNat=b)(S:b<256)(L:s.size<k+bh b)
 (B base cap I size:Nat) (out:List UInt8) (H:w.ownsRow base 5 1 (.slice (some ⟨I,0,none⟩) out.length cap) out.length (cb out)) (oh:B<=g) (kC:B<=base) (X:B<=w.heap.size):
 Calls prog 139 #[.pointer (some ⟨g,0,none⟩),.slice (some ⟨I,0,none⟩) out.length cap,.int .i64 size] w (qF g s B base w (cd s size k b out)):=by
 have u:=dI H h (by decide);have J:=(vM g s k _ (h.alloc (.cells #[.pointer (some ⟨g,0,none⟩)] 164)) U M)
 rw[K]at J;have x:=za J;have y:=H.alloc (.cells #[.pointer (some ⟨g,0,none⟩)] 164);have z:=af.new w 164 #[.pointer (some ⟨g,0,none⟩)];have Y:=h.lt;have A:=(zl B w).alloc X (.cells #[.pointer (some ⟨g,0,none⟩)] 164);have N:Hid (cd s size k b out=(2,k,out)):=by
  refine za ?_;unfold cd;rw[zi L]
 rcases I5 b S (by omega:1<bh b)with⟨O,hv,nb,aa,Z,G,W⟩|⟨O,G⟩|⟨O,G⟩|⟨O,G⟩
 ·have E:s.size<k+1+nb:=by have:=G.out;omega
  clear J h H K L;go_enter ZK,Zz
  go_wp2_with fail
  refine x.out.mono ?_;rintro e l ⟨rfl,q,d⟩;have i:Below B w l:=A.trans (d.below (by simp;omega) (by simp;omega));have r:=d.own y (by simp[Value.ownBlock];exact u);have j:=z.only d (by simp;omega);have m:l.cell? ⟨w.heap.size,0,none⟩=some (.pointer (some ⟨g,0,none⟩)):=zZ j;have p:=za (jq g _ s (k+1) nb l q m (by omega) M E (by omega));clear d z y A x;go_wp2_with fail
  rw[W.out];refine p.out.mono ?_;rintro e n ⟨rfl,o,c⟩;have C:Below B w n:=i.trans (c.below (by have:=i.size;omega) (by simp;omega));have D:=j.only c (by simp;omega);have R:n.cell? ⟨w.heap.size,0,none⟩=some (.pointer (some ⟨g,0,none⟩)):=zZ D;have F:=c.own r (by simp[Value.ownBlock];exact u);clear p c r j m q i;go_wp2_with fail
  refine(bu g s _ 2 _ o).mono ?_;rintro e w' ⟨rfl,rfl⟩;go_wp2;go_ret;rw[N.out];exact⟨I,cap,_,rfl,F,o,(fun h=>by cases h),C⟩
 ·have E:s.size<k+1+1:=by have:=G.out;omega
  clear J h H K L;go_enter ZK,Zz
  go_wp2_with fail
  refine x.out.mono ?_;rintro e l ⟨rfl,q,d⟩;have i:Below B w l:=A.trans (d.below (by simp;omega) (by simp;omega));have r:=d.own y (by simp[Value.ownBlock];exact u);have j:=z.only d (by simp;omega);have m:l.cell? ⟨w.heap.size,0,none⟩=some (.pointer (some ⟨g,0,none⟩)):=zZ j;have p:=za (jq g _ s (k+1) 1 l q m (by omega) M E (by omega));clear d z y A x;go_wp2_with fail
  skip
  refine p.out.mono ?_;rintro e n ⟨rfl,o,c⟩;have C:Below B w n:=i.trans (c.below (by have:=i.size;omega) (by simp;omega));have D:=j.only c (by simp;omega);have R:n.cell? ⟨w.heap.size,0,none⟩=some (.pointer (some ⟨g,0,none⟩)):=zZ D;have F:=c.own r (by simp[Value.ownBlock];exact u);clear p c r j m q i;go_wp2_with fail
  refine(bu g s _ 2 _ o).mono ?_;rintro e w' ⟨rfl,rfl⟩;go_wp2;go_ret;rw[N.out];exact⟨I,cap,_,rfl,F,o,(fun h=>by cases h),C⟩
 ·have E:s.size<k+1+2:=by have:=G.out;omega
  clear J h H K L;go_enter ZK,Zz
  go_wp2_with fail
  refine x.out.mono ?_;rintro e l ⟨rfl,q,d⟩;have i:Below B w l:=A.trans (d.below (by simp;omega) (by simp;omega));have r:=d.own y (by simp[Value.ownBlock];exact u);have j:=z.only d (by simp;omega);have m:l.cell? ⟨w.heap.size,0,none⟩=some (.pointer (some ⟨g,0,none⟩)):=zZ j;have p:=za (jq g _ s (k+1) 2 l q m (by omega) M E (by omega));clear d z y A x;go_wp2_with fail
  skip
  refine p.out.mono ?_;rintro e n ⟨rfl,o,c⟩;have C:Below B w n:=i.trans (c.below (by have:=i.size;omega) (by simp;omega));have D:=j.only c (by simp;omega);have R:n.cell? ⟨w.heap.size,0,none⟩=some (.pointer (some ⟨g,0,none⟩)):=zZ D;have F:=c.own r (by simp[Value.ownBlock];exact u);clear p c r j m q i;go_wp2_with fail
  refine(bu g s _ 2 _ o).mono ?_;rintro e w' ⟨rfl,rfl⟩;go_wp2;go_ret;rw[N.out];exact⟨I,cap,_,rfl,F,o,(fun h=>by cases h),C⟩
 have E:s.size<k+1+4:=by have:=G.out;omega
 clear J h H K L;go_enter ZK,Zz
 go_wp2_with fail
 refine x.out.mono ?_;rintro e l ⟨rfl,q,d⟩;have i:Below B w l:=A.trans (d.below (by simp;omega) (by simp;omega));have r:=d.own y (by simp[Value.ownBlock];exact u);have j:=z.only d (by simp;omega);have m:l.cell? ⟨w.heap.size,0,none⟩=some (.pointer (some ⟨g,0,none⟩)):=zZ j;have p:=za (jq g _ s (k+1) 4 l q m (by omega) M E (by omega));clear d z y A x;go_wp2_with fail
 skip
 refine p.out.mono ?_;rintro e n ⟨rfl,o,c⟩;have C:Below B w n:=i.trans (c.below (by have:=i.size;omega) (by simp;omega));have D:=j.only c (by simp;omega);have R:n.cell? ⟨w.heap.size,0,none⟩=some (.pointer (some ⟨g,0,none⟩)):=zZ D;have F:=c.own r (by simp[Value.ownBlock];exact u);clear p c r j m q i;go_wp2_with fail
 refine(bu g s _ 2 _ o).mono ?_;rintro e w' ⟨rfl,rfl⟩;go_wp2;go_ret;rw[N.out];exact⟨I,cap,_,rfl,F,o,(fun h=>by cases h),C⟩
theorem Ca (g:Nat)(s:ByteArray)(k:Nat)(w:World)(h:i' w g s k 0)(i:k<s.size)(e:s.size<=9223372036854775807)
 (B base cap b size:Nat) (out:List UInt8) (j:w.ownsRow base 5 1 (.slice (some ⟨b,0,none⟩) out.length cap) out.length (cb out)) (l:B<=g) (c:B<=base) (d:B<=w.heap.size) (p:base<=w.heap.size) (o:out.length<=size) (m:size<=4294967295):
 Calls prog 139 #[.pointer (some ⟨g,0,none⟩),.slice (some ⟨b,0,none⟩) out.length cap,.int .i64 size] w (qF g s B base w (cd s size k s[k].toNat out)):=by
 by_cases q:s.size<k+bh s[k].toNat
 ·exact AP g s k _ w h i e rfl s[k].toNat_lt q B base cap b size out j l c d
 by_cases n:s[k].toNat%4=0
 ·exact FO g s k _ w h i e rfl s[k].toNat_lt n (by omega) B base cap b size out j l c d p o m
 exact Da g s k _ w h i e rfl s[k].toNat_lt n (by omega) B base cap b size out j l c d o m
theorem tri {x y:Nat×Nat×Int}{a b c:Int}(h:x=y)(e:a=y.1)(i:b=y.2.1)(d:c=y.2.2):Ending.returned (.tuple #[.int .i64 a,.int .i64 b,.int .i64 c])= .returned (.tuple #[.int .i64 x.1,.int .i64 x.2.1,.int .i64 x.2.2]):=by
 subst h;rw[e,i,d]
theorem two {x:Int×List UInt8}{e:Int}(h:x=(e,l)):Ending.returned (.tuple #[.string ⟨l.toArray⟩,.int .i64 e])= .returned (.tuple #[.string ⟨x.2.toArray⟩,.int .i64 x.1]):=by
 subst h;rfl
theorem Db (s:ByteArray)(w:World)(p:s.size<=9223372036854775807):
 Calls prog 137 #[.string s] w fun e w'=>e= .returned (.tuple #[.int .i64 (aE s).1,.int .i64 (aE s).2.1,.int .i64 (aE s).2.2])/\w=w':=by
 have d:=fun w=>rN s w p
 have hz:aE s=if(aA s).2.2=0 then(if 4294967295<(aA s).1 then(0,0,5)else aA s)else(0,0,(aA s).2.2):=rfl
 generalize aA s=x at*;obtain⟨n,hd,m⟩:=x;generalize aE s=y at*;simp only at d hz;have h:=za d;have b:=za hz;clear d hz;rcases eP m with⟨c,j,k⟩|⟨c,j,k⟩
 ·subst c;clear j k;by_cases l:4294967295<n
  ·have i:Hid (y=(0,0,5)):=za (by rw[b.out,zi rfl,zi l]);clear b;go_enter func137,ntmps137
   go_wp2_with fail
   refine(h.out _).mono ?_;rintro e w' ⟨rfl,rfl⟩;go_wp2;go_ret3
   exact⟨tri i.out rfl rfl rfl,rfl⟩
  have i:Hid (y=(n,hd,0)):=za (by rw[b.out,zi rfl,zh l]);clear b;go_enter func137,ntmps137
  go_wp2_with fail
  refine(h.out _).mono ?_;rintro e w' ⟨rfl,rfl⟩;go_wp2;go_ret3
  exact⟨tri i.out rfl rfl rfl,rfl⟩
 have o:=za c;clear c;go_enter func137,ntmps137
 go_wp2_with fail
 refine(h.out _).mono ?_;rintro e w' ⟨rfl,rfl⟩;go_wp2;go_ret3
 exact⟨tri (b.out.trans (by rw[zh o.out])) rfl rfl rfl,rfl⟩
theorem qG (s:ByteArray)(h:(aE s).2.2=0):(aE s).1<=4294967295/\0<(aE s).2.1/\(aE s).2.1<=10/\(aE s).2.1<=s.size:=by
 have hz:aE s=if(aA s).2.2=0 then(if 4294967295<(aA s).1 then(0,0,5)else aA s)else(0,0,(aA s).2.2):=rfl
 by_cases b:(aA s).2.2=0
 ·have d:=ib s b;by_cases c:4294967295<(aA s).1
  ·rw[hz,zi b,zi c]at h;simp at h
  rw[hz,zi b,zh c];omega
 rw[hz,zh b]at h;exact absurd h b
def I6 (g B size:Nat)(body:ByteArray)(X:Int×List UInt8)(w:World)(gk:Nat)(v:Value)(wr:World):Prop:=
 ∃(k:Nat) (out:List UInt8) (h' aj:Nat) (f:Int),v= .slice (some ⟨h',0,none⟩) out.length aj/\wr.ownsRow B 5 1 (.slice (some ⟨h',0,none⟩) out.length aj) out.length (cb out)/\i' wr g body k f/\Below B w wr/\
  ((f=0/\k<=body.size/\out.length<=size/\Hid (gX body size gk k out=X)/\body.size-k<gk)\/(Hid (f≠0)/\(f==0)=false/\(f !=0)=true/\Hid (X=(f,[]))))
theorem FP {size:Nat}{body:ByteArray}{X:Int×List UInt8}{m j:World}{gk:Nat}{out:List UInt8}{e:Ending}(x:Below B w m)(h:k<body.size)(r:out.length<=size)(hx:gX body size gk k out=X)(C:body.size-k<gk)
 (s:qF g body B B m (cd body size k body[k].toNat out) e j):∃v,e= .returned v/\(∃d n c,v= .slice (some ⟨d,0,none⟩) n c)/\I6 g B size body X w (gk-1) v j:=by
 obtain⟨d,u,o,rfl,p,z,q,y⟩:=s;obtain⟨f,rfl⟩:∃f,gk=f+1:=⟨gk-1,by omega⟩
 refine⟨_,rfl,⟨_,_,_,rfl⟩,o,_,d,u,_,rfl,p,z,x.trans y, ?_⟩;rcases eP (cd body size k body[k].toNat out).1 with⟨b,l,i⟩|⟨b,l,i⟩
 ·have A:=O8 body[k].toNat_lt h r b;have:=q b;subst this;exact .inl ⟨b,by omega,A.2.2,za (Mo h hx b),by simp;omega⟩
 exact .inr ⟨za b,l,i,za (O9 h hx b)⟩
theorem qH {b c:World}{z:Nat}{xs:List Value}{o:Obj}(h:b.ownsRow B e z v n xs)(d:c=b.alloc o):c.ownsRow B e z v n xs:=d▸h.alloc o
theorem I7 (s:ByteArray)(most:Int)(w:World)(hs:s.size<=9223372036854775807):
 Calls prog 117 #[.string s,.int .i64 most,.pointer none] w fun e w'=>e= .returned (.tuple #[.string ⟨(bd s most).2.toArray⟩,.int .i64 (bd s most).1])/\Below w.heap.size w w':=by
 have u:=fun w=>Db s w hs
 have p:=qG s;have hz:bd s most=if(aE s).2.2≠0 then((aE s).2.2,[])else if most<(aE s).1 then(5,[])else iW (s.extract (aE s).2.1 s.size) (aE s).1:=rfl
 generalize aE s=x at*;obtain⟨n,hd,er⟩:=x;generalize bd s most=y at*;simp only at u hz p;have G:=za u;have j:=za hz;clear u hz;obtain⟨i0,hi,dO,X,cE⟩:=yG ur;rcases eP er with⟨q,h1,J⟩|⟨q,h1,J⟩
 ·subst q;obtain⟨hn,ad,UN,ae⟩:=p rfl;clear h1 J p;by_cases S:most<n
  ·have B:Hid (y=(5,[])):=za (by rw[j.out,zh (by simp),zi S]);clear j;go_enter ZL,ZA
   go_wp2_with fail
   refine(G.out _).mono ?_;rintro e w' ⟨rfl,rfl⟩;go_wp2;go_ret2
   exact⟨by rw[B.out];rfl,zl _ _⟩
  have B:Hid (y=iW (s.extract hd s.size) n):=za (by rw[j.out,zh (by simp),zh S]);clear j;have ag:decide (most<(n:Int))=false:=by simp;omega
  by_cases h4:n<=4096;all_goals
   go_enter ZL,ZA
   go_wp2_with fail
   refine(G.out _).mono ?_;rintro e w' ⟨rfl,rfl⟩;go_wp2_with (at_make;(first|refine ZD _ rfl _ _ 31 rfl w.heap.size 5 i0 (.int .u8 0) 1 zr hi dO X .i64 .i64 _ n rfl rfl (by omega) (by rw[cE];omega) (by simp only[maxLen];omega) (by omega) ?_|refine ZD _ rfl _ _ 31 rfl w.heap.size 5 i0 (.int .u8 0) 1 zr hi dO X .i64 .i64 _ 4096 rfl rfl (by omega) (by rw[cE];omega) (by simp only[maxLen];omega) (by omega) ?_);intro o U Y)
   have C:=(zl w.heap.size w).grown Y (by omega) (by simp);have gF:=C.size;clear Y;go_wp2_with fail
   refine(rO _ o).mono ?_;rintro e E ⟨rfl,l⟩;have O:i' E o.heap.size (s.extract hd s.size) 0 0:=by rw[l];exact af.new o _ _
   have ep:=qH U l;have aJ:Below w.heap.size w E:=by rw[l];exact C.alloc (by omega) _
   have LS:o.heap.size<E.heap.size:=by rw[l];simp
   clear l U C;obtain⟨g,M⟩:∃g,g=o.heap.size:=⟨_,rfl⟩
   rw[<-M]at O LS gF⊢;clear M;have F:(s.extract hd s.size).size<=9223372036854775807:=by rw[aq _ _ _ (zg _)];omega
   generalize s.extract hd s.size=body at*;have YU:w.heap.size<=g:=by omega
   go_wp2_with fail
   go_loopg [11] (body.size+1) (fun gk v wr=>I6 g w.heap.size n body y w gk v wr)
   case atStart=>exact⟨0,[],_,_,0,rfl,ep,O,aJ,.inl ⟨rfl,by omega,by simp,za B.out.symm,by omega⟩⟩
   case round=>
    obtain⟨k,out,h',aj,f,rfl,R,b,d,⟨rfl,N,Z,L,ab⟩|⟨hf,YT,ah,K⟩⟩:=hrel
    ·by_cases A:k<body.size
     ·go_wp2_with fail
      refine(bu g body k 0 wr b).mono ?_;rintro e w' ⟨rfl,rfl⟩;go_wp2_with fail
      refine(vJ g body k 0 wr b N F).mono ?_;rintro e w3 ⟨rfl,c,rfl⟩;have W:=za (Ca g body k (wr.drewN c) (b.drewN c) A F w.heap.size w.heap.size aj h' n out (R.bJ c) YU (zg _) (by have:=d.size;simp<;>omega) (by have:=d.size;simp<;>omega) Z hn);go_wp2_with fail
      refine W.out.mono ?_;intro e h I;obtain⟨v4,rfl,⟨h4,n4,c4,rfl⟩,aa⟩:=FP (d.bJ c) A Z L.out ab I;clear I W;go_wp2;go_roundg (gk-1)
      case measure=>omega
      case rel=>exact aa
     have r:=za (Eu A (f:=gk-1) (x:=y) (by rw[show gk-1+1=gk from by omega];exact L.out));go_wp2_with fail
     refine(bu g body k 0 wr b).mono ?_;rintro e w' ⟨rfl,rfl⟩;go_wp2_with fail
     refine(vJ g body k 0 wr b N F).mono ?_;rintro e w3 ⟨rfl,c,rfl⟩;by_cases H:out.length<n
     ·have z:Hid (y=(2,[])):=za (by rw[r.out,zi H]);clear r;go_wp2_with fail
      refine(iM g body k 2 _ (b.drewN c)).mono ?_;rintro e h ⟨rfl,m,D⟩;have i:Below w.heap.size w h:=(d.bJ c).trans (D.below (by have:=d.size;simp<;>omega) (by simp;omega));go_wp2_with fail
      refine(bu g body _ 2 h m).mono ?_;rintro e w' ⟨rfl,rfl⟩;go_wp2_with fail
      refine(bu g body _ 2 h m).mono ?_;rintro e w' ⟨rfl,rfl⟩;go_wp2;go_ret2
      exact⟨two z.out,i⟩
     have z:Hid (y=(0,out)):=za (by rw[r.out,zh H]);clear r;have ai:=sH zr yq zM (R.bJ c);go_wp2_with fail
     refine(bu g body _ 0 _ (b.drewN c)).mono ?_;rintro e w' ⟨rfl,rfl⟩;go_wp2;go_ret2
     have i:=d.bJ c;exact⟨two z.out,i⟩
    go_wp2_with fail
    refine(bu g body k f wr b).mono ?_;rintro e w' ⟨rfl,rfl⟩;by_cases H:out.length<n
    ·go_wp2_with fail
     refine(vK g body k f 2 wr b YT).mono ?_;rintro e h ⟨rfl,m,D⟩;have i:Below w.heap.size w h:=d.trans (D.below (by have:=d.size;omega) (by simp;omega));go_wp2_with fail
     refine(bu g body _ f h m).mono ?_;rintro e w' ⟨rfl,rfl⟩;go_wp2_with fail
     refine(bu g body _ f h m).mono ?_;rintro e w' ⟨rfl,rfl⟩;go_wp2;go_ret2
     exact⟨two K.out,i⟩
    go_wp2_with fail
    refine(bu g body _ f wr b).mono ?_;rintro e w' ⟨rfl,rfl⟩;go_wp2_with fail
    refine(bu g body _ f wr b).mono ?_;rintro e w' ⟨rfl,rfl⟩;go_wp2;go_ret2
    have i:=d;exact⟨two K.out,i⟩
 have H0:=za q;clear q p;go_enter ZL,ZA
 go_wp2_with fail
 refine(G.out _).mono ?_;rintro e w' ⟨rfl,rfl⟩;go_wp2;go_ret2
 exact⟨by rw[j.out,zi H0.out];rfl,zl _ _⟩
theorem FQ (s:ByteArray)(most:Int)(k:Nat)(w:World)(l:s.size<=9223372036854775807)(hx:(aE s).2.2≠0):
 Calls prog 117 #[.string s,.int .i64 most,.pointer (some ⟨k,0,none⟩)] w fun e w'=>e= .returned (.tuple #[.string ⟨[].toArray⟩,.int .i64 (aE s).2.2])/\w=w':=by
 have c:=fun w=>Db s w l
 have h:=qG s;have hz:bd s most=if(aE s).2.2≠0 then((aE s).2.2,[])else if most<(aE s).1 then(5,[])else iW (s.extract (aE s).2.1 s.size) (aE s).1:=rfl
 generalize aE s=x at*;obtain⟨n,hd,m⟩:=x;generalize bd s most=y at*;dsimp only at*;have i:=za c;clear c hz;rcases eP m with⟨b,d,j⟩|⟨b,d,j⟩
 ·exact absurd b hx
 clear b hx h;go_enter ZL,ZA
 go_wp2_with fail
 refine(i.out _).mono ?_;rintro e w' ⟨rfl,rfl⟩;go_wp2;go_ret2
 exact⟨rfl,rfl⟩
theorem Dc (s:ByteArray)(most:Int)(i:Nat)(w:World)(j:s.size<=9223372036854775807)(hx:(aE s).2.2=0)(k:most<(aE s).1):
 Calls prog 117 #[.string s,.int .i64 most,.pointer (some ⟨i,0,none⟩)] w fun e w'=>e= .returned (.tuple #[.string ⟨[].toArray⟩,.int .i64 5])/\w=w':=by
 have b:=fun w=>Db s w j
 have c:=qG s;have hz:bd s most=if(aE s).2.2≠0 then((aE s).2.2,[])else if most<(aE s).1 then(5,[])else iW (s.extract (aE s).2.1 s.size) (aE s).1:=rfl
 generalize aE s=x at*;obtain⟨n,hd,l⟩:=x;generalize bd s most=y at*;dsimp only at*;have d:=za b;have h:=za hz;clear b hz;subst hx;clear c h;go_enter ZL,ZA
 go_wp2_with fail
 refine(d.out _).mono ?_;rintro e w' ⟨rfl,rfl⟩;go_wp2;go_ret2
 exact⟨rfl,rfl⟩
theorem I8 (s:ByteArray)(most:Int)(m a u t p:Nat)(q:World)(hs:s.size<=9223372036854775807)(hM:tH q m a u t p)(ha:a<=9223372036854775807)(hx:(aE s).2.2=0)(hm:((aE s).1:Int)<=most)(X:u+(aE s).1<=a)(W:t+(aE s).1<=9223372036854775807):
 Calls prog 117 #[.string s,.int .i64 most,.pointer (some ⟨m,0,none⟩)] q fun e w'=>e= .returned (.tuple #[.string ⟨(bd s most).2.toArray⟩,.int .i64 (bd s most).1])/\tH w' m a (u+(aE s).1) (t+(aE s).1) (max p (u+(aE s).1))/\ae [m] q w':=by
 have J:=fun w=>Db s w hs
 have I:=qG s;have hz:bd s most=if(aE s).2.2≠0 then((aE s).2.2,[])else if most<(aE s).1 then(5,[])else iW (s.extract (aE s).2.1 s.size) (aE s).1:=rfl
 generalize aE s=x at*;obtain⟨n,hd,er⟩:=x;generalize bd s most=y at*;dsimp only at*;have Hl:=za J;have O:=za hz;clear J hz;subst hx;obtain⟨hn,ag,UN,ah⟩:=I rfl;have Hy:Hid (y=iW (s.extract hd s.size) n):=za (by rw[O.out,zh (by simp),zh (by omega)]);clear I O;obtain⟨i0,hi,dO,cc,cE⟩:=yG ur;have ai:decide (most<(n:Int))=false:=by simp;omega
 have Ht:=za (qD m a u t p n q hM ha X W);clear X W;generalize u+n=u2 at*;generalize t+n=t2 at*;generalize max p u2=p2 at*;by_cases h4:n<=4096;all_goals
  go_enter ZL,ZA
  go_wp2_with fail
  refine(Hl.out _).mono ?_;rintro e w' ⟨rfl,rfl⟩;go_wp2_with fail
  refine Ht.out.mono ?_;rintro e w ⟨rfl,z,r⟩;go_wp2_with (at_make;(first|refine ZD _ rfl _ _ 31 rfl w.heap.size 5 i0 (.int .u8 0) 1 zr hi dO cc .i64 .i64 _ n rfl rfl (by omega) (by rw[cE];omega) (by simp only[maxLen];omega) (by omega) ?_|refine ZD _ rfl _ _ 31 rfl w.heap.size 5 i0 (.int .u8 0) 1 zr hi dO cc .i64 .i64 _ 4096 rfl rfl (by omega) (by rw[cE];omega) (by simp only[maxLen];omega) (by omega) ?_);intro o Y jT)
  have D:=(zl w.heap.size w).grown jT (by omega) (by simp);have gF:=D.size;clear jT;go_wp2_with fail
  refine(rO _ o).mono ?_;rintro e F ⟨rfl,j⟩;have S:i' F o.heap.size (s.extract hd s.size) 0 0:=by rw[j];exact af.new o _ _
  have ep:=qH Y j;have aJ:Below w.heap.size w F:=by rw[j];exact D.alloc (by omega) _
  have LS:o.heap.size<F.heap.size:=by rw[j];simp
  clear j Y D;obtain⟨g,N⟩:∃g,g=o.heap.size:=⟨_,rfl⟩
  rw[<-N]at S LS gF⊢;clear N;have G:(s.extract hd s.size).size<=9223372036854775807:=by rw[aq _ _ _ (zg _)];omega
  generalize s.extract hd s.size=body at*;have YU:w.heap.size<=g:=by omega
  go_wp2_with fail
  go_loopg [11] (body.size+1) (fun gk v wr=>I6 g w.heap.size n body y w gk v wr)
  case atStart=>exact⟨0,[],_,_,0,rfl,ep,S,aJ,.inl ⟨rfl,by omega,by simp,za Hy.out.symm,by omega⟩⟩
  case round=>
   obtain⟨k,out,h',aj,f,rfl,U,c,h,⟨rfl,R,aa,M,ad⟩|⟨hf,YT,ak,L⟩⟩:=hrel
   ·by_cases C:k<body.size
    ·go_wp2_with fail
     refine(bu g body k 0 wr c).mono ?_;rintro e w' ⟨rfl,rfl⟩;go_wp2_with fail
     refine(vJ g body k 0 wr c R G).mono ?_;rintro e w3 ⟨rfl,d,rfl⟩;have Z:=za (Ca g body k (wr.drewN d) (c.drewN d) C G w.heap.size w.heap.size aj h' n out (U.bJ d) YU (zg _) (by have:=h.size;simp<;>omega) (by have:=h.size;simp<;>omega) aa hn);go_wp2_with fail
     refine Z.out.mono ?_;intro e i K;obtain⟨v4,rfl,⟨h4,n4,c4,rfl⟩,ab⟩:=FP (h.bJ d) C aa M.out ad K;clear K Z;go_wp2;go_roundg (gk-1)
     case measure=>omega
     case rel=>exact ab
    have A:=za (Eu C (f:=gk-1) (x:=y) (by rw[show gk-1+1=gk from by omega];exact M.out));go_wp2_with fail
    refine(bu g body k 0 wr c).mono ?_;rintro e w' ⟨rfl,rfl⟩;go_wp2_with fail
    refine(vJ g body k 0 wr c R G).mono ?_;rintro e w3 ⟨rfl,d,rfl⟩;by_cases H:out.length<n
    ·have B:Hid (y=(2,[])):=za (by rw[A.out,zi H]);clear A;go_wp2_with fail
     refine(iM g body k 2 _ (c.drewN d)).mono ?_;rintro e i ⟨rfl,l,E⟩;have b:Below w.heap.size w i:=(h.bJ d).trans (E.below (by have:=h.size;simp<;>omega) (by simp;omega));go_wp2_with fail
     refine(bu g body _ 2 i l).mono ?_;rintro e w' ⟨rfl,rfl⟩;go_wp2_with fail
     refine(bu g body _ 2 i l).mono ?_;rintro e w' ⟨rfl,rfl⟩;go_wp2;go_ret2
     exact⟨two B.out,z.only (ae.ah b (zg _)) (by simp),r.trans' (ae.ah b (zg _)) (by simp)⟩
    have B:Hid (y=(0,out)):=za (by rw[A.out,zh H]);clear A;have al:=sH zr yq zM (U.bJ d);go_wp2_with fail
    refine(bu g body _ 0 _ (c.drewN d)).mono ?_;rintro e w' ⟨rfl,rfl⟩;go_wp2;go_ret2
    have b:=h.bJ d;exact⟨two B.out,z.only (ae.ah b (zg _)) (by simp),r.trans' (ae.ah b (zg _)) (by simp)⟩
   go_wp2_with fail
   refine(bu g body k f wr c).mono ?_;rintro e w' ⟨rfl,rfl⟩;by_cases H:out.length<n
   ·go_wp2_with fail
    refine(vK g body k f 2 wr c YT).mono ?_;rintro e i ⟨rfl,l,E⟩;have b:Below w.heap.size w i:=h.trans (E.below (by have:=h.size;omega) (by simp;omega));go_wp2_with fail
    refine(bu g body _ f i l).mono ?_;rintro e w' ⟨rfl,rfl⟩;go_wp2_with fail
    refine(bu g body _ f i l).mono ?_;rintro e w' ⟨rfl,rfl⟩;go_wp2;go_ret2
    exact⟨two L.out,z.only (ae.ah b (zg _)) (by simp),r.trans' (ae.ah b (zg _)) (by simp)⟩
   go_wp2_with fail
   refine(bu g body _ f wr c).mono ?_;rintro e w' ⟨rfl,rfl⟩;go_wp2_with fail
   refine(bu g body _ f wr c).mono ?_;rintro e w' ⟨rfl,rfl⟩;go_wp2;go_ret2
   have b:=h;exact⟨two L.out,z.only (ae.ah b (zg _)) (by simp),r.trans' (ae.ah b (zg _)) (by simp)⟩
theorem Dd :∀(x:Ty) (B:Nat) (w:World) (F r E C:Value),cC w B x F r E C->B<=w.heap.size->x.count<=4611686018427387904->
 Calls prog 53 #[.agg #[F,r,E,C]] w fun e w'=>e= .returned (.int .i64 x.count)/\Below w.heap.size w w':=by
 intro x;induction x using Ty.ind with
 |h ki s l ta ih=>
  intro B w F r E C h hB O;obtain⟨rfl,rfl,rfl,I,R,L,hs,A,cap,rfl,lH,jR,S⟩:=h;have IH:=za ih;have HS:=za S;unfold mD at I R L;obtain⟨RL,RM⟩:=I;obtain⟨RJ,RN⟩:=R;obtain⟨RK,JZ⟩:=L;clear ih S;have pC:1+ba l<=4611686018427387904:=by simpa only[Ty.count]using O
  rw[show(Ty.mk ki s l ta).count=1+ba l from by simp only[Ty.count]];clear O;go_enter func53,ntmps53
  go_wp2_with fail
  go_loopw [3,4] (fun n i wr=>∃k m:Nat,k<=l.length/\i= .int .i64 k/\Hid (m=1+ba (l.take k))/\n= .int .i64 m/\Below w.heap.size w wr/\wr.cell? ⟨w.heap.size,2,none⟩=some (.slice A l.length cap)) (fun _ i _=>l.length-(intOf i).toNat)
  case atStart=>exact⟨0,1,by omega,rfl,za (by simp[ba]),rfl,bD,by simp⟩
  case round=>
   obtain⟨k,m,hk,rfl,N,rfl,c,K⟩:=hrel;by_cases y:k<l.length
   ·obtain⟨b,o,d0,d1,d2,d3,rfl,cZ,j,u,z,D,hi⟩:=HS.out.at_ k y;simp only[zG]at j u z D;replace j:=(c.cell (p:=⟨b,o+k*4,none⟩) (by simp;omega)).trans j;replace u:=(c.cell (p:=⟨b,o+k*4+1,none⟩) (by simp;omega)).trans u;replace z:=(c.cell (p:=⟨b,o+k*4+2,none⟩) (by simp;omega)).trans z;replace D:=(c.cell (p:=⟨b,o+k*4+3,none⟩) (by simp;omega)).trans D;have gF:=c.size;have eR:=zE y;have M:=hi.below (c.mono hB);have U:=ED l k y;have X:=uT l (k+1);have d:=N.out;obtain⟨q,J⟩:∃q,l[k].count=q:=⟨_,rfl⟩
    have aa:m+q<=4611686018427387904:=by omega
    have Hq:Hid (m+q=1+ba (l.take (k+1))):=za (by omega);have H:=za (IH.out _ eR B wr d0 d1 d2 d3 M (by omega) (by omega));rw[J]at H;clear U X d J M hi;go_wp2_with fail
    refine H.out.mono ?_;rintro e w2 ⟨rfl,G⟩;have gZ:=lt_of_cell K;have Z:=(G.cell (p:=⟨w.heap.size,2,none⟩) (by simp;omega)).trans K;have Y:=c.trans (G.mono gF);go_wp2;go_roundw
    case rel=>exact⟨k+1,m+q,by omega,by go_num,Hq,by go_num,Y,Z⟩
    case measure=>simp[intOf];omega
   have d:=N.out;rw[zv (by omega)]at d;have W:=za d;clear d;go_wp2;go_ret;exact⟨by show Ending.returned (.int .i64 m)=_;rw[W.out],c⟩
theorem FR :∀(x:Ty) (B:Nat) (w:World) (M y L H:Value),cC w B x M y L H->B<=w.heap.size->x.deep<=4611686018427387904->
 Calls prog 54 #[.agg #[M,y,L,H]] w fun e w'=>e= .returned (.int .i64 x.deep)/\Below w.heap.size w w':=by
 intro x;induction x using Ty.ind with
 |h ki s l ta ih=>
  intro B w M y L H h hB X;obtain⟨rfl,rfl,rfl,S,Y,U,hs,A,cap,rfl,lH,jR,cy⟩:=h;have IH:=za ih;have HS:=za cy;unfold mD at S Y U;obtain⟨RL,RM⟩:=S;obtain⟨RJ,RN⟩:=Y;obtain⟨RK,JZ⟩:=U;clear ih cy;have pC:dR l+1<=4611686018427387904:=by simpa only[Ty.deep]using X
  rw[show(Ty.mk ki s l ta).deep=dR l+1 from by simp only[Ty.deep]];clear X;go_enter func54,ntmps54
  go_wp2_with fail
  go_loopw [3,4] (fun n i wr=>∃k m:Nat,k<=l.length/\i= .int .i64 k/\Hid (m=dR (l.take k))/\m<=4611686018427387904/\n= .int .i64 m/\Below w.heap.size w wr/\wr.cell? ⟨w.heap.size,2,none⟩=some (.slice A l.length cap)) (fun _ i _=>l.length-(intOf i).toNat)
  case atStart=>exact⟨0,0,by omega,rfl,za (by simp[dR]),by omega,rfl,bD,by simp⟩
  case round=>
   obtain⟨k,m,hk,rfl,W,aa,rfl,c,r⟩:=hrel;by_cases F:k<l.length
   ·obtain⟨b,o,d0,d1,d2,d3,rfl,cZ,u,E,G,I,hi⟩:=HS.out.at_ k F;simp only[zG]at u E G I;replace u:=(c.cell (p:=⟨b,o+k*4,none⟩) (by simp;omega)).trans u;replace E:=(c.cell (p:=⟨b,o+k*4+1,none⟩) (by simp;omega)).trans E;replace G:=(c.cell (p:=⟨b,o+k*4+2,none⟩) (by simp;omega)).trans G;replace I:=(c.cell (p:=⟨b,o+k*4+3,none⟩) (by simp;omega)).trans I;have Z:=c.size;have eR:=zE F;have K:=hi.below (c.mono hB);have O:=H' l k F;have R:=AE l (k+1);have d:=W.out;obtain⟨q,J⟩:∃q,l[k].deep=q:=⟨_,rfl⟩
    have ab:q<=4611686018427387904:=by omega
    have z:=za (IH.out _ eR B wr d0 d1 d2 d3 K (by omega) (by omega));rw[J]at z;by_cases DE:m<q
    ·have N:Hid (q=dR (l.take (k+1))):=za (by omega);clear O R d J K hi;go_wp2_with fail
     refine z.out.mono ?_;rintro e w2 ⟨rfl,j⟩;have gZ:=lt_of_cell r;have D:=(j.cell (p:=⟨w.heap.size,2,none⟩) (by simp;omega)).trans r;have C:=c.trans (j.mono Z);go_wp2;go_roundw
     case rel=>exact⟨k+1,q,by omega,by go_num,N,by omega,by go_num,C,D⟩
     case measure=>simp[intOf];omega
    have N:Hid (m=dR (l.take (k+1))):=za (by omega);clear O R d J K hi;go_wp2_with fail
    refine z.out.mono ?_;rintro e w2 ⟨rfl,j⟩;have gZ:=lt_of_cell r;have D:=(j.cell (p:=⟨w.heap.size,2,none⟩) (by simp;omega)).trans r;have C:=c.trans (j.mono Z);go_wp2;go_roundw
    case rel=>exact⟨k+1,m,by omega,by go_num,N,by omega,by go_num,C,D⟩
    case measure=>simp[intOf];omega
   have d:=W.out;rw[zv (by omega)]at d;have HM:=za d;clear d;go_wp2;go_ret;exact⟨by show Ending.returned (.int .i64 ((m:Int)+1))=_;rw[HM.out];go_num,c⟩
