/- squeeze.Pack tells 'pack'. -/
import Derived.Test.YtpjgigllldipiaaGreatDoorKA17
import Derived.Deep.DeepCutAuto
set_option linter.all false
set_option maxRecDepth 100000
set_option maxHeartbeats 4000000
namespace Go.Proofs.YtpjgigllldipiaaGreatDoor
open Go.RowKit Go.Maps
def xT:=@Lib.bytesWorld_size
def Za:=@Lib.wpList_append_own_string
def Zs:=@wpList_lookup_own_ok_int
def ZM:=@Tryz.ntmps162
def ZN:=@Tryz.ntmps124
def ZW:=@Tryz.func162
def ZX:=@Tryz.func124
def Z1:=@Tryz.underlying210
structure PW (s:ByteArray)(w:World)(g0 B mB kI:Nat)(D:DataW Unit)(wr:World):Prop where
 below:Below w.heap.size w wr
 cells:∀k,k<s.size->wr.cell? ⟨g0,k,none⟩=some (.int .u8 (s.data.toList.getD k 0).toNat)
 YI:g0<B
 hBm:B<=mB
 Vo:w.heap.size<=B
 map:wr.ownsMap Tryz.prog 211 (plainElem Tryz.prog 3) mB kI D
theorem PW.lt {s:ByteArray}{w:World}{d B b c:Nat}{D:DataW Unit}{wr:World}(h:PW s w d B b c D wr):b<wr.heap.size:=h.map.lt
theorem PW.kept {s:ByteArray}{w:World}{b B d i:Nat}{D:DataW Unit}{wr w':World}(h:PW s w b B d i D wr)(c:Kept 5 B wr w'):PW s w b B d i D w':=by
 refine⟨h.below.trans (c.below.mono h.Vo),fun k n=>(c.below.cell (p:=⟨b,k,none⟩) h.YI).trans (h.cells k n),h.YI,h.hBm,h.Vo, ?_⟩;obtain⟨es,clock,l,F,j,m⟩:=h.map;exact⟨es,clock,c.other d _ l (by intro o q e;cases e),F,j,m⟩
theorem PW.later {s:ByteArray}{w:World}{c B d b:Nat}{D:DataW Unit}{wr w':World}(h:PW s w c B d b D wr)(e:Below wr.heap.size wr w'):PW s w c B d b D w':=
 h.kept (Kept.ah e (zi _) (by have:=h.lt;have:=h.hBm;omega))
theorem PW.kV {s:ByteArray}{w:World}{c B d o e:Nat}{D i:DataW Unit}{wr w':World}(h:PW s w c B d o D wr)(m:w'.ownsMap Tryz.prog 211 (plainElem Tryz.prog 3) d e i)(b:wr.grownBy w' (some d)):PW s w c B d e i w':=by
 have q:=h.lt;have n:=h.YI;have l:=h.hBm;have p:=h.Vo;refine⟨h.below.trans ⟨b.os,b.tape,b.output,b.size,fun k j=>b.block k (by omega) (by simp;omega)⟩,fun k j=>(zK (a:=⟨c,k,none⟩) (b.block c (by omega) (by simp;omega))).trans (h.cells k j),n,l,p,m⟩
theorem PW.buf {s:ByteArray}{w:World}{m B c k:Nat}{D:DataW Unit}{wr w':World}{v:Value}{l:List UInt8}(h:PW s w m B c k D wr)(j:bJ wr B 5 v l)(n:wr.grownBy w' (some c)):bJ w' B 5 v l:=by
 obtain⟨es,clock,i,_⟩:=h.map;obtain⟨A,cap,o,d,p,b⟩:=j;refine⟨A,cap,o,d,p, ?_⟩;rcases b with b|⟨g,cur,fr,hA,hgb,hh,r⟩
 ·exact .inl b
 refine .inr ⟨g,cur,fr,hA,hgb,(n.block g (yj.1 hh).1 ?_).trans hh,r⟩;intro e;injection e with e;subst e;rw[i]at hh;cases hh
theorem PW.four {s:ByteArray}{w:World}{b B l k i:Nat}{D:DataW Unit}{wr:World}(h:PW s w b B l k D wr)(hi:i+4<=s.size):∃d c e j:Nat,wr.cell? ⟨b,i,none⟩=some (.int .u8 d)/\wr.cell? ⟨b,i+1,none⟩=some (.int .u8 c)/\wr.cell? ⟨b,i+2,none⟩=some (.int .u8 e)/\wr.cell? ⟨b,i+3,none⟩=some (.int .u8 j)/\
 keyOf Tryz.prog 211 (.agg #[.int .u8 d,.int .u8 c,.int .u8 e,.int .u8 j])=some (gl s.data.toList i):=
 ⟨_,_,_,_,h.cells i (by omega),h.cells (i+1) (by omega),h.cells (i+2) (by omega),h.cells (i+3) (by omega),rz s.data.toList i⟩
def PAt (s:ByteArray)(w:World)(g0 B mB:Nat)(v5 v7 v8:Value)(wr:World):Prop:=
 ∃(i p f kI:Nat) (A:Option Addr) (n cap:Nat) (l:List UInt8) (D:DataW Unit),v5= .slice A n cap/\v7= .int .i64 p/\v8= .int .i64 i/\p<=i/\i<=s.size/\kI<=i/\s.size-i<f/\
  bJ wr B 5 (.slice A n cap) l/\l++pk s.data.toList f p i=pack s.data.toList/\PW s w g0 B mB kI D wr/\MI s.data.toList D i
def PIn (s:ByteArray)(w:World)(g0 B mB i sz:Nat)(A:Option Addr)(n cap:Nat)(l:List UInt8)(v8 ND:Value)(wr:World):Prop:=
 ∃(c kI:Nat) (D:DataW Unit),ND= .int .i64 c/\v8= .int .i64 ((i+c:Nat):Int)/\c<=sz/\kI<=i+c/\bJ wr B 5 (.slice A n cap) l/\PW s w g0 B mB kI D wr/\MI s.data.toList D (i+c)
theorem Kx {L l X:List UInt8}{f p i:Nat}(h:l++pk L f p i=X)(c:L.length-i<f)(hi:i<L.length)(b:Hb L i i=none):l++pk L (f-1) p (i+1)=X:=by
 obtain⟨g,rfl⟩:∃g,f=g+1:=⟨f-1,by omega⟩
 unfold pk at h;rw[zl hi,b]at h;exact h
theorem Ts {L l X a:List UInt8}{f p i j n:Nat}(h:l++pk L f p i=X)(e:L.length-i<f)(hi:i<L.length)(d:Hb L i i=some j)(c:a=(L.take i).drop p)(b:mt L j i 64=n):((l++gX a)++kM n (i-j))++pk L (f-1) (i+n) (i+n)=X:=by
 obtain⟨g,rfl⟩:∃g,f=g+1:=⟨f-1,by omega⟩
 unfold pk at h;rw[zl hi,d]at h;subst b;subst c;rw[<-h];simp
theorem WN {L l X a:List UInt8}{f p i:Nat}(h:l++pk L f p i=X)(c:L.length-i<f)(hi:¬i<L.length)(b:a=L.drop p):l++gX a=X:=by
 obtain⟨g,rfl⟩:∃g,f=g+1:=⟨f-1,by omega⟩
 unfold pk at h;rw[zj hi]at h;subst b;exact h
theorem abF {L l:List UInt8}{f p i:Nat}(h:l++pk L f p i=pack L)(b:L.length<=65536):l.length<=70000:=by
 have c:=sm L b;have:=xj List.length h;rw[zo]at this;omega
theorem Tt (base:Nat)(v:Value)(l:List UInt8)(n d:Nat)(b:Int)(w:World)(h:bJ w base 5 v l)(j:base<=w.heap.size)(k:l.length<=1000000)(c:4<=n)(e:n<=64)(hd:d<65536)(i:b=d):
 Calls Tryz.prog 160 #[v,.int .i64 n,.int .i64 b] w (Pp base w (l++kM n d)):=by
 subst i;exact Th base v l n d w h j k c e hd
theorem PL {a b:Int}(h:(DataW.lit (.int .i64 a):DataW Unit)= .lit (.int .i64 b)):a=b:=by
 injection h with h;injection h
theorem Fq (w:World)(a:Addr)(c:Nat):(Instr.arrayAt 211 (.slice (some a) 4 c)).run Tryz.prog w= .ok (.pointer (some a)) w:=by
 simp[Instr.arrayAt,Ze Z0]
theorem WO (s:ByteArray)(w:World)(hs:s.size<=65536):
 Calls Tryz.prog 123 #[.string s] w fun e w'=>e= .returned (.tuple #[.string ⟨(pack s.data.toList).toArray⟩,.int .i64 0])/\Below w.heap.size w w':=by
 have kc:=fun(w:World) (s:ByteArray)=>Lib.run_convert_string_bytes (P:=Tryz.prog) w 9 31 5 s zT zx yB
 have R:= @run_makeMap Tryz.prog;have kA:=Fq;have H1:=za (fun w=>vc s.size w (by omega));go_enter Tryz.func123,Tryz.ntmps123
 go_wp2_with fail
 refine(H1.out _).mono ?_;rintro e b ⟨rfl,h⟩;have cc:=h.size;rw[xT]at cc;have QV:∀k,k<s.size->b.cell? ⟨w.heap.size,k,none⟩=some (.int .u8 (s.data.toList.getD k 0).toNat):=fun k hk=>(h.cell (p:=⟨w.heap.size,k,none⟩) (by rw[xT];simp)).trans (Lib.bytesWorld_cell w _ s k hk)
 have Vp:Below w.heap.size w b:=(Lib.bytesWorld_below w 5 s).trans (h.mono (by rw[xT];omega));have hT:(⟨(aO s.size).toArray⟩:ByteArray).size=(aO s.size).length:=bD _;have Vh:=bw 3 s.size (by omega) (by omega);have YG:=bJ.conv b b.heap.size 5 ⟨(aO s.size).toArray⟩ (zi _) (by omega);have nW:s.size<=grownCap w s.size 0 5:=grownCap_ge _ _ _ _;have ay:grownCap w s.size 0 5<=9223372036854775807:=by simpa[maxLen]using ZZ w s.size 0 5 (by simp[maxLen];omega)
 rw[hT]at YG;have ae:PW s w w.heap.size b.heap.size (Lib.bytesWorld b 5 ⟨(aO s.size).toArray⟩).heap.size 0 (.map []) ((Lib.bytesWorld b 5 ⟨(aO s.size).toArray⟩).alloc (.map #[] 0)):=by
  have tV:=Lib.bytesWorld_below b 5 ⟨(aO s.size).toArray⟩;refine⟨(Vp.trans (tV.mono (by omega))).alloc (by rw[xT];omega) _,fun k hk=> ?_,by omega,by rw[xT];omega,by omega,World.ownsMap_made _ _ _ _⟩;rw[zE _ _ _ (by rw[xT];simp;omega),tV.cell (p:=⟨w.heap.size,k,none⟩) (by simp;omega)];exact QV k hk
 have Vr:=YG.alloc (.map #[] 0);have l6:=za Vr;have aw:=za ae;clear ae Vr YG QV hT h Vp;go_wp2;generalize grownCap w s.size 0 5=Dr at*;generalize (Lib.bytesWorld b 5 ⟨(aO s.size).toArray⟩).heap.size=mB at*;generalize (Lib.bytesWorld b 5 ⟨(aO s.size).toArray⟩).alloc (.map #[] 0)=w2 at*;generalize grownCap b (aO s.size).length 0 5=AN at*;go_loopw [5,7,8] (fun v5 v7 x wr=>PAt s w w.heap.size b.heap.size mB v5 v7 x wr) (fun _ _ x _=>s.size-(intOf x).toNat)
 case atStart=>exact⟨0,0,s.size+1,0,_,_,_,_,_,rfl,rfl,rfl,by omega,by omega,by omega,by omega,l6.out,by simp[pack,aa],aw.out,MI.start _⟩
 case round=>
  obtain⟨i,p,f,I,A,n,cap,l,ad,rfl,rfl,rfl,aE,hi,Dm,hf,L,hl,u,ai⟩:=hrel;have ab:=za ai;have N:=za hl;have ny:=u.lt;have az:=u.hBm;have ax:=abF hl (by simpa using hs);have E:=za hf;clear ai hl;by_cases O:i<s.size
  ·obtain⟨wo,ao⟩:∃wo:World,wo=wr:=⟨_,rfl⟩
   subst ao;by_cases Y:i+4<=s.size
   ·have D:=O5 s.data.toList i (by simpa using Y) i (zi _);have S:=ab.out.2 i (by simpa using Y);obtain⟨c0,c1,J,c3,Z,q1,q2,U,C⟩:=u.four Y;have aA:¬Dr=i:=by omega
    have Vf:=za C;have W:=u.map;clear C;cases hlg:jz s.data.toList i i with
    |none=>
     have YE:=S.2 hlg;rw[hlg]at D;have H:=za D;clear S hlg D;go_wp2_with (at_lookup;refine Zs _ rfl _ _ 210 rfl 211 3 .i64 ry Z1 yI (Kv _) mB I _ rfl W _ _ rfl Vf.out ?_;intro cj X YC)
     clear X YC Z q1 q2 U W;go_loopw [8,65] (fun x o wr=>PIn s w w.heap.size b.heap.size mB i 1 A n cap l x o wr) (fun _ o _=>1-(intOf o).toNat)
     case atStart=>exact⟨0,I,ad,rfl,rfl,by omega,by omega,L,u,ab.out⟩
     case round=>
      obtain⟨c,q,F,rfl,rfl,hc,Vq,y,d,B⟩:=hrel;have r:=za B;clear B;by_cases Sd:c<1
      ·by_cases z:i+c+4<=s.size
       ·obtain⟨c0,c1,J,c3,Z,q1,q2,U,C⟩:=d.four z;have HK:=za C;have bR:=d.map;clear C;go_wp2_with (at_mapUpdate;refine wpList_mapUpdate_own _ rfl _ _ _ 210 rfl 211 3 ry Z1 _ mB q _ rfl bR (by unfold maxLen;omega) _ _ _ rfl rfl HK.out _ [] (plainElem_int yI (WalkArith.wf_i64 (by omega))) ?_;intro w5 QU K)
        go_roundw
        case rel=>exact⟨c+1,q+1,_,by go_num,by go_num,by omega,by omega,d.buf y K,d.kV QU K,r.out.put (by simpa using z)⟩
        case measure=>simp[intOf];omega
       omega
      go_wp2;go_roundw
      case rel=>exact⟨i+1,p,f-1,q,A,n,cap,l,F,rfl,rfl,by go_num,by omega,by omega,by omega,by have:=E.out;omega,y,Kx N.out (by simpa using E.out) (by simpa using O) H.out,d,by rw[show i+1=i+c from by omega];exact r.out⟩
      case measure=>simp[intOf];omega
    |some j=>
     have sX:=O6 _ _ _ _ hlg;obtain⟨YE,QT⟩:=S.1 j hlg;have qA:=za QT;rw[hlg]at D;have H:=za D;have ar:=(pE _ _ _ _ D).2;have R:=Bo s.data.toList 64 j i;have aq:=R.2 (by simpa using hi);rw[aa]at aq;have au:=R.1;have YF:=za (fun w=>Tr s j i w sX hi hs);generalize Ci:mt s.data.toList j i 64=m at*;have qN:=za Ci;have Vn:(s.extract p i).size<=65536:=by rw[an _ _ _ hi];omega
     have al:=za (Ts N.out (by simpa using E.out) (by simpa using O) H.out (aj s p i) qN.out);have Ve:(l++gX (s.extract p i).data.toList).length<=200000:=by
      have:=jZ (s.extract p i).data.toList (by rw[aa];exact Vn);rw[aa]at this;have h3:(if(s.extract p i).size=0 then 0 else if(s.extract p i).size<=60 then 1 else if(s.extract p i).size<=256 then 2 else 3)<=3:=by split<;>(try split)<;>(try split)<;>omega
      rw[zo];omega
     clear S hlg D QT R Ci;go_wp2_with (at_lookup;refine Zs _ rfl _ _ 210 rfl 211 3 .i64 ry Z1 yI (Kv _) mB I _ rfl W _ _ rfl Vf.out ?_;intro cj X YC;obtain rfl:=PL (X.symm.trans qA.out);clear X YC)
     refine(Kp b.heap.size _ l (s.extract p i) _ L (by omega) (by omega) Vn).mono ?_;rintro e w3 ⟨A1,n1,aB,rfl,h,G⟩;have aC:=G.size;have ah:=u.kept G;go_wp2_with fail
     refine(YF.out _).mono ?_;rintro e w4 ⟨rfl,M⟩;have NF:=M.size;have ag:=ah.later M;have af:=h.below M;go_wp2_with fail
     refine(Tt b.heap.size _ _ m (i-j) ((i:Int)-j) _ af (by omega) (by omega) ar au (by omega) (by omega)).mono ?_;rintro e w5 ⟨A2,n2,J,rfl,aM,ep⟩;have ak:=ag.kept ep;clear h af ah ag u L Z q1 q2 U W G ep M;go_wp2;go_loopw [8,65] (fun x o wr=>PIn s w w.heap.size b.heap.size mB i m A2 n2 J _ x o wr) (fun _ o _=>m-(intOf o).toNat)
     case atStart=>exact⟨0,I,ad,rfl,rfl,by omega,by omega,aM,ak,ab.out⟩
     case round=>
      obtain⟨c,q,F,rfl,rfl,hc,Vq,y,d,B⟩:=hrel;have r:=za B;clear B;by_cases Sd:c<m
      ·by_cases z:i+c+4<=s.size
       ·obtain⟨c0,c1,J,c3,Z,q1,q2,U,C⟩:=d.four z;have HK:=za C;have bR:=d.map;clear C;go_wp2_with (at_mapUpdate;refine wpList_mapUpdate_own _ rfl _ _ _ 210 rfl 211 3 ry Z1 _ mB q _ rfl bR (by unfold maxLen;omega) _ _ _ rfl rfl HK.out _ [] (plainElem_int yI (WalkArith.wf_i64 (by omega))) ?_;intro w5 QU K)
        go_roundw
        case rel=>exact⟨c+1,q+1,_,by go_num,by go_num,by omega,by omega,d.buf y K,d.kV QU K,r.out.put (by simpa using z)⟩
        case measure=>simp[intOf];omega
       go_wp2;go_roundw
       case rel=>exact⟨c+1,q,F,by go_num,by go_num,by omega,by omega,y,d,r.out.skip (by simpa using z)⟩
       case measure=>simp[intOf];omega
      go_wp2;go_roundw
      case rel=>exact⟨i+m,i+m,f-1,q,A2,n2,J,_,F,rfl,by go_num,by go_num,by omega,by omega,by omega,by have:=E.out;omega,y,al.out,d,by rw[show i+m=i+c from by omega];exact r.out⟩
      case measure=>simp[intOf];omega
   have H:=za (va s.data.toList i (by simpa using hi) (by simpa using Y) i (zi _));go_wp2;go_loopw [8,65] (fun x o wr=>PIn s w w.heap.size b.heap.size mB i 1 A n cap l x o wr) (fun _ o _=>1-(intOf o).toNat)
   case atStart=>exact⟨0,I,ad,rfl,rfl,by omega,by omega,L,u,ab.out⟩
   case round=>
    obtain⟨c,q,F,rfl,rfl,hc,Vq,y,d,B⟩:=hrel;have r:=za B;have z:¬i+c+4<=s.size:=by omega
    clear B;by_cases Sd:c<1
    ·go_wp2;go_roundw
     case rel=>exact⟨c+1,q,F,by go_num,by go_num,by omega,by omega,y,d,r.out.skip (by simpa using z)⟩
     case measure=>simp[intOf];omega
    go_wp2;go_roundw
    case rel=>exact⟨i+1,p,f-1,q,A,n,cap,l,F,rfl,rfl,by go_num,by omega,by omega,by omega,by have:=E.out;omega,y,Kx N.out (by simpa using E.out) (by simpa using O) H.out,d,by rw[show i+1=i+c from by omega];exact r.out⟩
    case measure=>simp[intOf];omega
  have HE:=za (WN N.out (by simpa using E.out) (by simpa using O) (show(s.extract p s.size).data.toList=s.data.toList.drop p by rw[aj,cM]));have av:(s.extract p s.size).size<=65536:=by rw[an _ _ _ (zi _)];omega
  go_wp2_with fail
  refine(Kp b.heap.size _ l (s.extract p s.size) _ L (by omega) (by omega) av).mono ?_;rintro e w3 ⟨A1,n1,c1,rfl,h,G⟩;rw[HE.out]at h;have YD:=h.Ha (P:=Tryz.prog) zx yB zT;have HB:=za ((u.kept G).below);clear h G;go_wp2;go_ret2
  exact⟨rfl,HB.out⟩
open Go.RowKit
theorem tO :(Tryz.prog.info? 5).map (fun i=>(i.zero,i.size,i.bytes))=some (some (.int .u8 0),1,1):=by kernel_rfl
theorem IC (g bx:Nat)(s:ByteArray)(k n:Nat)(w:World)(h:iO w g s k 0)(hx:w.cell? ⟨bx,0,none⟩=some (.pointer (some ⟨g,0,none⟩)))(j:s.size<=9223372036854775807)(b:k+n<=s.size)(r:1<=n)(x:n<=4):
 Calls Tryz.prog 195 #[.int .i64 n,.pointer (some ⟨bx,0,none⟩)] w fun e w'=>e= .returned (.int .i64 (cZ (s.extract k (k+n)).data.toList))/\iO w' g s (k+n) 0/\ae [g] w w':=by
 have c:=eA g s k n w h j b;have hz:(s.extract k (k+n)).size=n:=by rw[an _ _ _ b];omega
 have d:=fun w=>eV (s.extract k (k+n)) w (by omega) (by omega)
 have l:=jq (s.extract k (k+n)).data.toList;have q:2^(8*(s.extract k (k+n)).data.toList.length)<=2^32:=yy (by omega) (by rw[aa,hz];omega);have y:cZ (s.extract k (k+n)).data.toList<=4294967295:=by omega
 have m:=za c;have i:=za d;clear l q hz c d h;generalize cZ (s.extract k (k+n)).data.toList=N at*;go_enter Tryz.func195,Tryz.ntmps195
 go_wp2_with fail
 refine m.out.mono ?_;rintro e w' ⟨rfl,p,o⟩;go_wp2_with fail
 refine(i.out _).mono ?_;rintro e u ⟨rfl,rfl⟩;go_wp2;go_ret;exact⟨rfl,p,o⟩
theorem je (g bx:Nat)(s:ByteArray)(k n:Nat)(w:World)(h:iO w g s k 0)(hx:w.cell? ⟨bx,0,none⟩=some (.pointer (some ⟨g,0,none⟩)))(j:k<=s.size)(c:s.size<=9223372036854775807)(b:s.size<k+n)(o:n<=4):
 Calls Tryz.prog 195 #[.int .i64 n,.pointer (some ⟨bx,0,none⟩)] w fun e w'=>e= .returned (.int .i64 0)/\iO w' g s k 2/\ae [g] w w':=by
 have d:=za (fX g s k n w h j c b (by omega));clear h;go_enter Tryz.func195,Tryz.ntmps195
 go_wp2_with fail
 refine d.out.mono ?_;rintro e w' ⟨rfl,l,i⟩;go_wp2_with fail
 refine(mS _ _ rfl).mono ?_;rintro e m ⟨rfl,rfl⟩;go_wp2;go_ret;exact⟨rfl,l,i⟩
theorem WQ (b:Nat)(c:b<256):bits .and .u8 (b:Int) 3=((b%4:Nat):Int):=by
 have:=u8_and_nat b 3 c (by omega);rw[nat_mask2]at this;exact this
theorem Fs (g bx:Nat)(s:ByteArray)(k n N:Nat)(w:World)(h:iO w g s k 0)(hx:w.cell? ⟨bx,0,none⟩=some (.pointer (some ⟨g,0,none⟩)))(d:s.size<=9223372036854775807)(c:k+n<=s.size)(b:1<=n)(j:n<=4)(i:cZ (s.extract k (k+n)).data.toList=N):
 Calls Tryz.prog 195 #[.int .i64 n,.pointer (some ⟨bx,0,none⟩)] w fun e w'=>e= .returned (.int .i64 N)/\iO w' g s (k+n) 0/\ae [g] w w':=by
 subst i;exact IC g bx s k n w h hx d c b j
theorem Ky (s:ByteArray)(k b:Nat)(c:b<256)(h:k+bg b<=s.size):im s k b<=4294967295:=by
 have i:=jq (s.extract (k+1) (k+bg b)).data.toList;have d:=A8 b c;have e:2^(8*(s.extract (k+1) (k+bg b)).data.toList.length)<=2^32:=yy (by omega) (by rw[aa,an _ _ _ h];omega);unfold im;omega
theorem MD (b n N c:Nat)(h:b<256)(i:b%4≠0)(d:cH b N=n)(e:jU b N=c):
 (bits .and .u8 (b:Int) 3=1/\Hid (bg b=2)/\Hid (4+(b:Int)/4%8=n)/\Hid ((b:Int)/4/8*256+N=c))\/
 (bits .and .u8 (b:Int) 3=2/\Hid (bg b=3)/\Hid ((b:Int)/4+1=n)/\Hid ((N:Int)=c))\/
 (bits .and .u8 (b:Int) 3=3/\Hid (bg b=5)/\Hid ((b:Int)/4+1=n)/\Hid ((N:Int)=c)):=by
 rw[WQ b h];rcases(show b%4=1\/b%4=2\/b%4=3 from by omega)with hm|hm|hm
 ·refine .inl ⟨by rw[hm];rfl,za (by simp[bg,hm]),za ?_,za ?_⟩
  ·simp[cH,hm]at d;omega
  simp[jU,hm]at e;omega
 ·refine .inr (.inl ⟨by rw[hm];rfl,za (by simp[bg,hm]),za ?_,za ?_⟩)
  ·simp[cH,hm]at d;omega
  simp[jU,hm]at e;omega
 refine .inr (.inr ⟨by rw[hm];rfl,za (by simp[bg,hm]),za ?_,za ?_⟩)
 ·simp[cH,hm]at d;omega
 simp[jU,hm]at e;omega
theorem vr (o:List UInt8)(d q:Nat)(h:d+q<=o.length):(cb ((o.drop d).take q)).length=q*1:=by
 rw[bq,yc,zZ];omega
theorem vt {w:World}{base h cap:Nat}{o:List UInt8}{e:TypeId}(i:w.ownsRow base e 1 (.slice (some ⟨h,0,none⟩) o.length cap) o.length (cb o))(d q:Nat)(hd:d+q<=o.length):
 ∀j u,(cb ((o.drop d).take q))[j]?=some u->w.cell? ((⟨h,d,none⟩:Addr).add j)=some u:=by
 intro j u hu;have c:j<q:=by
  have:=(Zo.1 hu).1;rw[vr o d q hd]at this;omega
 have b:(⟨h,d,none⟩:Addr).add j=⟨h,d+j,none⟩:=by
  unfold Addr.add;split<;>simp_all
 rw[b,i.cellAt (d+j) (by omega),<-hu,El,El,yT c,xH]
theorem vu {w wr w3:World}{B base h cap d c g k b m q size:Nat}{s:ByteArray}{o:List UInt8}{x:List UInt8}(l:wr.ownsRow base 5 1 (.slice (some ⟨h,0,none⟩) o.length cap) o.length (cb o))
 (r:w3.ownsRow base 5 1 (.slice (some ⟨d,0,none⟩) (o.length+q) c) (o.length+q) (cb o++cb ((o.drop (o.length-b)).take q)))
 (i:wr.grownBy w3 (Value.slice (some ⟨h,0,none⟩) o.length cap).ownBlock) (e:iO wr g s k 0) (n:Below B w wr) (y:B<=wr.heap.size) (C:B<=base)
 (p:tB o b m=x) (u:b<=o.length) (D:q<=m) (z:q<=b) (E:o.length+m<=size):
 Value.slice (some ⟨d,0,none⟩) (o.length+q) c= .slice (some ⟨d,0,none⟩) (o++(o.drop (o.length-b)).take q).length c/\
 w3.ownsRow base 5 1 (.slice (some ⟨d,0,none⟩) (o++(o.drop (o.length-b)).take q).length c) (o++(o.drop (o.length-b)).take q).length (cb (o++(o.drop (o.length-b)).take q))/\
 iO w3 g s k 0/\Below B w w3/\tB (o++(o.drop (o.length-b)).take q) b (m-q)=x/\b<=(o++(o.drop (o.length-b)).take q).length/\(o++(o.drop (o.length-b)).take q).length+(m-q)<=size:=by
 have j:(o++(o.drop (o.length-b)).take q).length=o.length+q:=by
  rw[zo,yc,zZ];omega
 have A:=qU l;refine⟨by rw[j],by rw[j,gb];exact r, ?_, ?_, ?_,by omega,by omega⟩
 ·exact e.only (ae.cX i) (by simp[Value.ownBlock];exact(dh l e (by decide)).symm)
 ·exact n.grown i y (by simp[Value.ownBlock];omega)
 rw[<-LA o b q z u,<-JS,show q+(m-q)=m from by omega];exact p
theorem ME (b n size len:Nat)(c:len<=size):
 (((b=0\/len<b)\/size-len<n)/\((b:Int)==0)=true)\/(((b=0\/len<b)\/size-len<n)/\((b:Int)==0)=false/\len<b)\/
 (((b=0\/len<b)\/size-len<n)/\((b:Int)==0)=false/\b<=len/\(size:Int)-len<n)\/((¬((b=0\/len<b)\/size-len<n))/\((b:Int)==0)=false/\b<=len/\(n:Int)<=size-len/\decide (len<b)=false/\decide ((size:Int)-len<n)=false):=by
 simp only[xh,zr,ne_eq,xa];omega
def qe (g:Nat)(s:ByteArray)(B base:Nat)(w:World)(x:Int×Nat×List UInt8)(e:Ending)(w':World):Prop:=
 ∃h' aq k',e= .returned (.slice (some ⟨h',0,none⟩) x.2.2.length aq)/\w'.ownsRow base 5 1 (.slice (some ⟨h',0,none⟩) x.2.2.length aq) x.2.2.length (cb x.2.2)/\
  iO w' g s k' x.1/\(x.1=0->k'=x.2.1)/\Below B w w'
theorem C4 (g:Nat)(s:ByteArray)(k b:Nat)(w:World)(h:iO w g s k 0)(hk:k<s.size)(hs:s.size<=9223372036854775807)(hb:s[k].toNat=b)(d:b<256)(QG:b%4≠0)(l:k+bg b<=s.size)
 (B base cap J size:Nat) (out:List UInt8) (Z:w.ownsRow base 5 1 (.slice (some ⟨J,0,none⟩) out.length cap) out.length (cb out)) (pn:B<=g) (kF:B<=base) (sV:B<=w.heap.size) (aD:out.length<=size) (ej:size<=4294967295):
 Calls Tryz.prog 162 #[.pointer (some ⟨g,0,none⟩),.slice (some ⟨J,0,none⟩) out.length cap,.int .i64 size] w (qe g s B base w (bT s size k b out)):=by
 have ch:=dh Z h (by decide);have qH:=(vn g s k _ (h.alloc (.cells #[.pointer (some ⟨g,0,none⟩)] 163)) hk hs)
 rw[hb]at qH;have Ld:=za qH;have dT:=Z.alloc (.cells #[.pointer (some ⟨g,0,none⟩)] 163);have jR:=af.new w 163 #[.pointer (some ⟨g,0,none⟩)];have wF:=h.lt;have hB:=(zq B w).alloc sV (.cells #[.pointer (some ⟨g,0,none⟩)] 163);obtain⟨N,H⟩:∃N,im s k b=N:=⟨_,rfl⟩
 have ae:=Ky s k b d l;rw[H]at ae;obtain⟨n,X⟩:∃n,cH b N=n:=⟨_,rfl⟩
 obtain⟨c,gS⟩:∃n,jU b N=n:=⟨_,rfl⟩
 have Le:Hid (bT s size k b out=if((c=0\/out.length<c))\/size-out.length<n then(3,k,out)else(0,k+bg b,tB out c n)):=by
  refine za ?_;unfold bT;rw[H,X,gS,zj (by omega)];simp[QG]
 obtain⟨i0,hi,eo,cc,cA⟩:=yQ tO;have HN:=za H;have Hh:=za l;have Hn:=za X;have ad:=za gS;clear qH h Z hb l H X gS;go_enter ZW,ZM
 go_wp2_with fail
 refine Ld.out.mono ?_;rintro e w1 ⟨rfl,hr,G⟩;have U:Below B w w1:=hB.trans (G.below (by simp;omega) (by simp;omega));have dZ:=G.own dT (by simp[Value.ownBlock];exact ch);have iQ:=jR.only G (by simp;omega);have Gl:w1.cell? ⟨w.heap.size,0,none⟩=some (.pointer (some ⟨g,0,none⟩)):=yd iQ;clear G jR dT hB Ld;rcases MD b n N c d QG Hn.out ad.out with⟨wG,l,S,E2⟩|⟨wG,l,S,E2⟩|⟨wG,l,S,E2⟩;all_goals
  first
   |have u:∃q:Nat,bg b=q+1/\(q:Int)=1:=⟨1,l.out,rfl⟩
   |have u:∃q:Nat,bg b=q+1/\(q:Int)=2:=⟨2,l.out,rfl⟩
   |have u:∃q:Nat,bg b=q+1/\(q:Int)=4:=⟨4,l.out,rfl⟩
  obtain⟨q,u,ab⟩:=u;have HQ:=za u;have j:=za (Fs g _ s (k+1) q N w1 hr Gl hs (by have:=Hh.out;omega) (by omega) (by omega) (by rw[<-HN.out,im,u,show k+(q+1)=k+1+q from by omega]));rw[ab]at j;clear u ab;go_wp2_with fail
  refine j.out.mono ?_;rintro e K ⟨rfl,W,I⟩;have M:Below B w K:=U.trans (I.below (by have:=U.size;omega) (by simp;omega));have tv:=iQ.only I (by simp;omega);have QX:K.cell? ⟨w.heap.size,0,none⟩=some (.pointer (some ⟨g,0,none⟩)):=yd tv;have gT:=I.own dZ (by simp[Value.ownBlock];exact ch);go_wp2_with fail
  rw[S.out,E2.out];refine(bs g s _ 0 K W).mono ?_;rintro e w' ⟨rfl,rfl⟩;clear j I dZ iQ Gl hr U;rcases ME c n size out.length aD with⟨r,O⟩|⟨r,O,Y⟩|⟨r,O,Y,e3⟩|⟨r,O,Y,e3,e4,e5⟩;rotate_right
  ·have F:=za r;clear r;have ak:1<=c:=by have:=F.out;omega
   go_wp2_with fail
   go_loopw [1,11] (fun v x wr=>∃(m:Nat) (o:List UInt8) (z y:Nat),v= .slice (some ⟨z,0,none⟩) o.length y/\x= .int .i64 m/\wr.ownsRow base 5 1 (.slice (some ⟨z,0,none⟩) o.length y) o.length (cb o)/\
    iO wr g s (k+1+q) 0/\Below B w wr/\Hid (tB o c m=tB out c n)/\c<=o.length/\o.length+m<=size) (fun _ x _=>(intOf x).toNat)
   case atStart=>exact⟨n,out,J,cap,rfl,rfl,gT,W,M,za rfl,Y,by omega⟩
   case round=>
    obtain⟨m,o,z,y,rfl,rfl,i,E,d,p,aa,QW⟩:=hrel;obtain⟨Gh,AL,aj,ah⟩:=qU i;have ag:¬y=o.length-c:=by omega
    by_cases GD:0<m
    ·by_cases ai:m<=c
     ·have j:=za (vr o (o.length-c) m (by omega));have D:=za (vt i (o.length-c) m (by omega));go_wp2_with (at_builtin;refine xm _ rfl (.tmp 100) (.tmp 101) 31 rfl base 5 i0 (.int .u8 0) 1 1 zx hi eo cc cA rfl (by decide) _ _ _ rfl i ⟨z,o.length-c,none⟩ m (y-(o.length-c)) (cb ((o.drop (o.length-c)).take m)) rfl j.out D.out (uw _) (by omega) (by simp only[maxLen];omega) (by omega) (by have:=d.size;omega) wr.heap.size rfl ?_;intro L AN w3 A C cU X9)
      have R:=vu i A C E d (by have:=d.size;omega) (by omega) p.out aa (show m<=m from by omega) (show m<=c from by omega) QW;clear A C cU i E d p D j;go_wp2;go_roundw
      case rel=>exact⟨m-m,_,L,AN,R.1,by go_num,R.2.1,R.2.2.1,R.2.2.2.1,za R.2.2.2.2.1,R.2.2.2.2.2.1,R.2.2.2.2.2.2⟩
      case measure=>simp[intOf];omega
     have j:=za (vr o (o.length-c) c (by omega));have D:=za (vt i (o.length-c) c (by omega));go_wp2_with (at_builtin;refine xm _ rfl (.tmp 100) (.tmp 101) 31 rfl base 5 i0 (.int .u8 0) 1 1 zx hi eo cc cA rfl (by decide) _ _ _ rfl i ⟨z,o.length-c,none⟩ c (y-(o.length-c)) (cb ((o.drop (o.length-c)).take c)) rfl j.out D.out (uw _) (by omega) (by simp only[maxLen];omega) (by omega) (by have:=d.size;omega) wr.heap.size rfl ?_;intro L AN w3 A C cU X9)
     have R:=vu i A C E d (by have:=d.size;omega) (by omega) p.out aa (show c<=m from by omega) (show c<=c from by omega) QW;clear A C cU i E d p D j;go_wp2;go_roundw
     case rel=>exact⟨m-c,_,L,AN,R.1,by go_num,R.2.1,R.2.2.1,R.2.2.2.1,za R.2.2.2.2.1,R.2.2.2.2.2.1,R.2.2.2.2.2.2⟩
     case measure=>simp[intOf];omega
    go_wp2;go_ret;obtain rfl:m=0:=by omega
    have p:=p.out;simp only[tB]at p;rw[Le.out,zj F.out,HQ.out,<-p];exact⟨z,y,_,rfl,i,E,fun _=>by simp;omega,d⟩
  all_goals
   have F:=za r;clear r;go_wp2_with fail
   refine(iA g s _ 3 K W).mono ?_;rintro e w3 ⟨rfl,qO,kg⟩;have bS:Below B w w3:=M.trans (kg.below (by have:=M.size;omega) (by simp;omega));have fM:=kg.own gT (by simp[Value.ownBlock];exact ch);go_wp2;go_ret;rw[Le.out,zl F.out];exact⟨J,cap,_,rfl,fM,qO,(fun h=>by cases h),bS⟩
theorem Ft (n size len:Nat)(b:len<=size):(size-len<n/\(size:Int)-len<n)\/(¬size-len<n/\(n:Int)<=size-len):=by omega
theorem ID (b:Nat)(d:b<256)(h:1<bg b):
 (bits .and .u8 (b:Int) 3=0/\60<=b/4/\∃nb:Nat,1<=nb/\nb<=4/\Hid (bg b=nb+1)/\Hid ((b:Int)/4-59=nb))\/(bits .and .u8 (b:Int) 3=1/\Hid (bg b=1+1))\/(bits .and .u8 (b:Int) 3=2/\Hid (bg b=2+1))\/(bits .and .u8 (b:Int) 3=3/\Hid (bg b=4+1)):=by
 rw[WQ b d];rcases(show b%4=0\/b%4=1\/b%4=2\/b%4=3 from by omega)with hm|hm|hm|hm
 ·have c:60<=b/4:=by
   rcases Zl (b/4) 60 with h1|h1
   ·simp[bg,hm,show¬60<=b/4 from by omega]at h
   exact h1
  exact .inl ⟨by rw[hm];rfl,c,b/4-59,by omega,by omega,za (by simp[bg,hm,c];omega),za (by omega)⟩
 ·exact .inr (.inl ⟨by rw[hm];rfl,za (by simp[bg,hm])⟩)
 ·exact .inr (.inr (.inl ⟨by rw[hm];rfl,za (by simp[bg,hm])⟩))
 exact .inr (.inr (.inr ⟨by rw[hm];rfl,za (by simp[bg,hm])⟩))
theorem Fu (g:Nat)(s:ByteArray)(k b:Nat)(w:World)(h:iO w g s k 0)(hk:k<s.size)(H:s.size<=9223372036854775807)(hb:s[k].toNat=b)(fg:b<256)(G:b%4=0)(tq:k+bg b<=s.size)
 (B base cap x size:Nat) (out:List UInt8) (bR:w.ownsRow base 5 1 (.slice (some ⟨x,0,none⟩) out.length cap) out.length (cb out)) (pn:B<=g) (kF:B<=base) (sV:B<=w.heap.size) (kH:base<=w.heap.size) (aD:out.length<=size) (ej:size<=4294967295):
 Calls Tryz.prog 162 #[.pointer (some ⟨g,0,none⟩),.slice (some ⟨x,0,none⟩) out.length cap,.int .i64 size] w (qe g s B base w (bT s size k b out)):=by
 have y:=dh bR h (by decide);have qH:=(vn g s k _ (h.alloc (.cells #[.pointer (some ⟨g,0,none⟩)] 163)) hk H)
 rw[hb]at qH;have Ld:=za qH;have dT:=bR.alloc (.cells #[.pointer (some ⟨g,0,none⟩)] 163);have jR:=af.new w 163 #[.pointer (some ⟨g,0,none⟩)];have wF:=h.lt;have hB:=(zq B w).alloc sV (.cells #[.pointer (some ⟨g,0,none⟩)] 163);obtain⟨N,X⟩:∃N,im s k b=N:=⟨_,rfl⟩
 have ag:=Ky s k b fg tq;rw[X]at ag;obtain⟨n,hn⟩:∃n,cH b N=n:=⟨_,rfl⟩
 have I:Hid (bT s size k b out=if size-out.length<n then(3,k,out)else if s.size<k+bg b+n then(2,k,out)else(0,k+bg b+n,out++(s.extract (k+bg b) (k+bg b+n)).data.toList)):=by
  refine za ?_;unfold bT;rw[X,hn,zj (by omega)];simp[G]
 obtain⟨i0,hi,O,cc,W⟩:=yQ tO;have HN:=za X;have Hh:=za tq;have Hn:=za hn;have wG:bits .and .u8 (b:Int) 3=0:=by rw[WQ b fg,G];rfl
 clear qH h bR hb tq X hn;go_enter ZW,ZM
 go_wp2_with fail
 refine Ld.out.mono ?_;rintro e w1 ⟨rfl,S,R⟩;have J:Below B w w1:=hB.trans (R.below (by simp;omega) (by simp;omega));have U:=R.own dT (by simp[Value.ownBlock];exact y);have M:=jR.only R (by simp;omega);have Gl:w1.cell? ⟨w.heap.size,0,none⟩=some (.pointer (some ⟨g,0,none⟩)):=yd M;clear R jR dT hB Ld;by_cases Y:60<=b/4
 ·obtain⟨nb,ab⟩:∃nb:Nat,(b:Int)/4-59=nb:=⟨b/4-59,by omega⟩
  have m:Hid (k+1+nb=k+bg b):=za (by simp[bg,G,Y];omega);have E1:Hid ((N:Int)+1=n):=za (by have:=Hn.out;simp[cH,G,Y]at this;omega);have ad:=za ab;have Hl:=za (Fs g _ s (k+1) nb N w1 S Gl H (by have:=Hh.out;have:=m.out;omega) (by omega) (by omega) (by rw[<-HN.out,im,m.out]));have ah:k+1+nb<=s.size:=by have:=Hh.out;have:=m.out;omega
  clear ab;go_wp2_with fail
  rw[ad.out];refine Hl.out.mono ?_;rintro e w2 ⟨rfl,u,Z⟩;have l:Below B w w2:=J.trans (Z.below (by have:=J.size;omega) (by simp;omega));have tv:=M.only Z (by simp;omega);have QX:w2.cell? ⟨w.heap.size,0,none⟩=some (.pointer (some ⟨g,0,none⟩)):=yd tv;have A:=Z.own U (by simp[Value.ownBlock];exact y);clear Hl Z U M Gl S J;go_wp2_with fail
  rw[E1.out];refine(bs g s _ 0 _ u).mono ?_;rintro e w' ⟨rfl,rfl⟩;rcases Ft n size out.length aD with⟨p,e1⟩|⟨p,e1⟩
  ·have r:=za p;clear p;go_wp2_with fail
   refine(iA g s _ 3 _ u).mono ?_;rintro e w3 ⟨rfl,j,i⟩;have d:Below B w w3:=l.trans (i.below (by have:=l.size;omega) (by simp;omega));have c:=i.own A (by simp[Value.ownBlock];exact y);go_wp2;go_ret;rw[I.out,zl r.out];exact⟨x,cap,_,rfl,c,j,(fun h=>by cases h),d⟩
  have r:=za p;clear p;by_cases wC:s.size<k+1+nb+n
  ·have C:=za (fX g s (k+1+nb) n _ u (by omega) H wC (by omega));go_wp2_with fail
   refine C.out.mono ?_;rintro e w3 ⟨rfl,j,i⟩;have d:Below B w w3:=l.trans (i.below (by have:=l.size;omega) (by simp;omega));have c:=i.own A (by simp[Value.ownBlock];exact y);have QY:=dh c j (by decide);go_wp2_with (at_builtin;refine Za _ rfl (.tmp 82) (.tmp 85) 31 9 rfl base 5 i0 zx zT hi O cc W (.slice (some ⟨x,0,none⟩) out.length cap) out.length (cb out) rfl c ByteArray.empty rfl (by simp[maxLen];omega) (by simp;omega) (by have:=d.size;omega) ?_;intro v' w4 o q F)
   obtain⟨z,E,rfl⟩:=pD o (by rw[ne_eq,F];simp);go_wp2;go_ret;rw[I.out,zj r.out,zl (by have:=m.out;omega)];refine⟨z,E,_,by simp,by simpa[Lib.strCells]using o,j.only (ae.cX q) (by simp[Value.ownBlock];omega),(fun h=>by cases h),d.grown q (by have:=d.size;omega) (by simp[Value.ownBlock];have:=qU c;omega)⟩
  have C:=za (eA g s (k+1+nb) n _ u H (by omega));have L:=za (an s (k+1+nb) (k+1+nb+n) (by omega));have aa:Hid (s.extract (k+1+nb) (k+1+nb+n)=s.extract (k+bg b) (k+bg b+n)):=za (by rw[<-m.out]);go_wp2_with fail
  refine C.out.mono ?_;rintro e w3 ⟨rfl,j,i⟩;have d:Below B w w3:=l.trans (i.below (by have:=l.size;omega) (by simp;omega));have c:=i.own A (by simp[Value.ownBlock];exact y);have QY:=dh c j (by decide);generalize s.extract (k+1+nb) (k+1+nb+n)=D at*;go_wp2_with (at_builtin;refine Za _ rfl (.tmp 82) (.tmp 85) 31 9 rfl base 5 i0 zx zT hi O cc W (.slice (some ⟨x,0,none⟩) out.length cap) out.length (cb out) rfl c D rfl (by rw[L.out];simp only[maxLen];omega) (by rw[L.out];omega) (by have:=d.size;omega) ?_;intro v' w4 o q F)
  obtain⟨z,E,rfl⟩:=pD o (by rw[ne_eq,F];simp);have K:(out++D.data.toList).length=out.length+D.size:=by simp
  go_wp2;go_ret;rw[I.out,zj r.out,zj (by have:=m.out;omega),<-aa.out];refine⟨z,E,_,by rw[K];rfl, ?_,j.only (ae.cX q) (by simp[Value.ownBlock];omega),(fun _=>by have:=m.out;simp;omega),d.grown q (by have:=d.size;omega) (by simp[Value.ownBlock];have:=qU c;omega)⟩;rw[K,gb];exact o
 have m:Hid (k+1=k+bg b):=za (by simp[bg,G,Y]);have E1:Hid ((b:Int)/4+1=n):=za (by have:=Hn.out;simp[cH,G,Y]at this;omega);have u:=S;have l:=J;have A:=U;have tv:=M;clear S J U M;go_wp2_with fail
 rw[E1.out];refine(bs g s _ 0 _ u).mono ?_;rintro e w' ⟨rfl,rfl⟩;rcases Ft n size out.length aD with⟨p,e1⟩|⟨p,e1⟩
 ·have r:=za p;clear p;go_wp2_with fail
  refine(iA g s _ 3 _ u).mono ?_;rintro e w3 ⟨rfl,j,i⟩;have d:Below B w w3:=l.trans (i.below (by have:=l.size;omega) (by simp;omega));have c:=i.own A (by simp[Value.ownBlock];exact y);go_wp2;go_ret;rw[I.out,zl r.out];exact⟨x,cap,_,rfl,c,j,(fun h=>by cases h),d⟩
 have r:=za p;clear p;by_cases wC:s.size<k+1+n
 ·have C:=za (fX g s (k+1) n _ u (by omega) H wC (by omega));go_wp2_with fail
  refine C.out.mono ?_;rintro e w3 ⟨rfl,j,i⟩;have d:Below B w w3:=l.trans (i.below (by have:=l.size;omega) (by simp;omega));have c:=i.own A (by simp[Value.ownBlock];exact y);have QY:=dh c j (by decide);go_wp2_with (at_builtin;refine Za _ rfl (.tmp 82) (.tmp 85) 31 9 rfl base 5 i0 zx zT hi O cc W (.slice (some ⟨x,0,none⟩) out.length cap) out.length (cb out) rfl c ByteArray.empty rfl (by simp[maxLen];omega) (by simp;omega) (by have:=d.size;omega) ?_;intro v' w4 o q F)
  obtain⟨z,E,rfl⟩:=pD o (by rw[ne_eq,F];simp);go_wp2;go_ret;rw[I.out,zj r.out,zl (by have:=m.out;omega)];refine⟨z,E,_,by simp,by simpa[Lib.strCells]using o,j.only (ae.cX q) (by simp[Value.ownBlock];omega),(fun h=>by cases h),d.grown q (by have:=d.size;omega) (by simp[Value.ownBlock];have:=qU c;omega)⟩
 have C:=za (eA g s (k+1) n _ u H (by omega));have L:=za (an s (k+1) (k+1+n) (by omega));have aa:Hid (s.extract (k+1) (k+1+n)=s.extract (k+bg b) (k+bg b+n)):=za (by rw[<-m.out]);go_wp2_with fail
 refine C.out.mono ?_;rintro e w3 ⟨rfl,j,i⟩;have d:Below B w w3:=l.trans (i.below (by have:=l.size;omega) (by simp;omega));have c:=i.own A (by simp[Value.ownBlock];exact y);have QY:=dh c j (by decide);generalize s.extract (k+1) (k+1+n)=D at*;go_wp2_with (at_builtin;refine Za _ rfl (.tmp 82) (.tmp 85) 31 9 rfl base 5 i0 zx zT hi O cc W (.slice (some ⟨x,0,none⟩) out.length cap) out.length (cb out) rfl c D rfl (by rw[L.out];simp only[maxLen];omega) (by rw[L.out];omega) (by have:=d.size;omega) ?_;intro v' w4 o q F)
 obtain⟨z,E,rfl⟩:=pD o (by rw[ne_eq,F];simp);have K:(out++D.data.toList).length=out.length+D.size:=by simp
 go_wp2;go_ret;rw[I.out,zj r.out,zj (by have:=m.out;omega),<-aa.out];refine⟨z,E,_,by rw[K];rfl, ?_,j.only (ae.cX q) (by simp[Value.ownBlock];omega),(fun _=>by have:=m.out;simp;omega),d.grown q (by have:=d.size;omega) (by simp[Value.ownBlock];have:=qU c;omega)⟩;rw[K,gb];exact o
theorem Aq (g:Nat)(s:ByteArray)(k b:Nat)(w:World)(h:iO w g s k 0)(X:k<s.size)(K:s.size<=9223372036854775807)(L:s[k].toNat=b)(S:b<256)(M:s.size<k+bg b)
 (B base cap I size:Nat) (out:List UInt8) (J:w.ownsRow base 5 1 (.slice (some ⟨I,0,none⟩) out.length cap) out.length (cb out)) (pn:B<=g) (Z:B<=base) (W:B<=w.heap.size):
 Calls Tryz.prog 162 #[.pointer (some ⟨g,0,none⟩),.slice (some ⟨I,0,none⟩) out.length cap,.int .i64 size] w (qe g s B base w (bT s size k b out)):=by
 have A:=dh J h (by decide);have H:=(vn g s k _ (h.alloc (.cells #[.pointer (some ⟨g,0,none⟩)] 163)) X K)
 rw[L]at H;have y:=za H;have u:=J.alloc (.cells #[.pointer (some ⟨g,0,none⟩)] 163);have x:=af.new w 163 #[.pointer (some ⟨g,0,none⟩)];have wF:=h.lt;have z:=(zq B w).alloc W (.cells #[.pointer (some ⟨g,0,none⟩)] 163);have N:Hid (bT s size k b out=(2,k,out)):=by
  refine za ?_;unfold bT;rw[zl M]
 rcases ID b S (by omega:1<bg b)with⟨O,hv,nb,Y,aa,C,U⟩|⟨O,C⟩|⟨O,C⟩|⟨O,C⟩
 ·have E:s.size<k+1+nb:=by have:=C.out;omega
  clear H h J L M;go_enter ZW,ZM
  go_wp2_with fail
  refine y.out.mono ?_;rintro e l ⟨rfl,r,d⟩;have j:Below B w l:=z.trans (d.below (by simp;omega) (by simp;omega));have o:=d.own u (by simp[Value.ownBlock];exact A);have i:=x.only d (by simp;omega);have m:l.cell? ⟨w.heap.size,0,none⟩=some (.pointer (some ⟨g,0,none⟩)):=yd i;have p:=za (je g _ s (k+1) nb l r m (by omega) K E (by omega));clear d x u z y;go_wp2_with fail
  rw[U.out];refine p.out.mono ?_;rintro e q ⟨rfl,n,c⟩;have D:Below B w q:=j.trans (c.below (by have:=j.size;omega) (by simp;omega));have F:=i.only c (by simp;omega);have R:q.cell? ⟨w.heap.size,0,none⟩=some (.pointer (some ⟨g,0,none⟩)):=yd F;have G:=c.own o (by simp[Value.ownBlock];exact A);clear p c o i m r j;go_wp2_with fail
  refine(bs g s _ 2 _ n).mono ?_;rintro e w' ⟨rfl,rfl⟩;go_wp2;go_ret;rw[N.out];exact⟨I,cap,_,rfl,G,n,(fun h=>by cases h),D⟩
 ·have E:s.size<k+1+1:=by have:=C.out;omega
  clear H h J L M;go_enter ZW,ZM
  go_wp2_with fail
  refine y.out.mono ?_;rintro e l ⟨rfl,r,d⟩;have j:Below B w l:=z.trans (d.below (by simp;omega) (by simp;omega));have o:=d.own u (by simp[Value.ownBlock];exact A);have i:=x.only d (by simp;omega);have m:l.cell? ⟨w.heap.size,0,none⟩=some (.pointer (some ⟨g,0,none⟩)):=yd i;have p:=za (je g _ s (k+1) 1 l r m (by omega) K E (by omega));clear d x u z y;go_wp2_with fail
  skip
  refine p.out.mono ?_;rintro e q ⟨rfl,n,c⟩;have D:Below B w q:=j.trans (c.below (by have:=j.size;omega) (by simp;omega));have F:=i.only c (by simp;omega);have R:q.cell? ⟨w.heap.size,0,none⟩=some (.pointer (some ⟨g,0,none⟩)):=yd F;have G:=c.own o (by simp[Value.ownBlock];exact A);clear p c o i m r j;go_wp2_with fail
  refine(bs g s _ 2 _ n).mono ?_;rintro e w' ⟨rfl,rfl⟩;go_wp2;go_ret;rw[N.out];exact⟨I,cap,_,rfl,G,n,(fun h=>by cases h),D⟩
 ·have E:s.size<k+1+2:=by have:=C.out;omega
  clear H h J L M;go_enter ZW,ZM
  go_wp2_with fail
  refine y.out.mono ?_;rintro e l ⟨rfl,r,d⟩;have j:Below B w l:=z.trans (d.below (by simp;omega) (by simp;omega));have o:=d.own u (by simp[Value.ownBlock];exact A);have i:=x.only d (by simp;omega);have m:l.cell? ⟨w.heap.size,0,none⟩=some (.pointer (some ⟨g,0,none⟩)):=yd i;have p:=za (je g _ s (k+1) 2 l r m (by omega) K E (by omega));clear d x u z y;go_wp2_with fail
  skip
  refine p.out.mono ?_;rintro e q ⟨rfl,n,c⟩;have D:Below B w q:=j.trans (c.below (by have:=j.size;omega) (by simp;omega));have F:=i.only c (by simp;omega);have R:q.cell? ⟨w.heap.size,0,none⟩=some (.pointer (some ⟨g,0,none⟩)):=yd F;have G:=c.own o (by simp[Value.ownBlock];exact A);clear p c o i m r j;go_wp2_with fail
  refine(bs g s _ 2 _ n).mono ?_;rintro e w' ⟨rfl,rfl⟩;go_wp2;go_ret;rw[N.out];exact⟨I,cap,_,rfl,G,n,(fun h=>by cases h),D⟩
 have E:s.size<k+1+4:=by have:=C.out;omega
 clear H h J L M;go_enter ZW,ZM
 go_wp2_with fail
 refine y.out.mono ?_;rintro e l ⟨rfl,r,d⟩;have j:Below B w l:=z.trans (d.below (by simp;omega) (by simp;omega));have o:=d.own u (by simp[Value.ownBlock];exact A);have i:=x.only d (by simp;omega);have m:l.cell? ⟨w.heap.size,0,none⟩=some (.pointer (some ⟨g,0,none⟩)):=yd i;have p:=za (je g _ s (k+1) 4 l r m (by omega) K E (by omega));clear d x u z y;go_wp2_with fail
 skip
 refine p.out.mono ?_;rintro e q ⟨rfl,n,c⟩;have D:Below B w q:=j.trans (c.below (by have:=j.size;omega) (by simp;omega));have F:=i.only c (by simp;omega);have R:q.cell? ⟨w.heap.size,0,none⟩=some (.pointer (some ⟨g,0,none⟩)):=yd F;have G:=c.own o (by simp[Value.ownBlock];exact A);clear p c o i m r j;go_wp2_with fail
 refine(bs g s _ 2 _ n).mono ?_;rintro e w' ⟨rfl,rfl⟩;go_wp2;go_ret;rw[N.out];exact⟨I,cap,_,rfl,G,n,(fun h=>by cases h),D⟩
theorem BX (g:Nat)(s:ByteArray)(k:Nat)(w:World)(h:iO w g s k 0)(j:k<s.size)(c:s.size<=9223372036854775807)
 (B base cap b size:Nat) (out:List UInt8) (e:w.ownsRow base 5 1 (.slice (some ⟨b,0,none⟩) out.length cap) out.length (cb out)) (l:B<=g) (i:B<=base) (d:B<=w.heap.size) (p:base<=w.heap.size) (o:out.length<=size) (n:size<=4294967295):
 Calls Tryz.prog 162 #[.pointer (some ⟨g,0,none⟩),.slice (some ⟨b,0,none⟩) out.length cap,.int .i64 size] w (qe g s B base w (bT s size k s[k].toNat out)):=by
 by_cases q:s.size<k+bg s[k].toNat
 ·exact Aq g s k _ w h j c rfl s[k].toNat_lt q B base cap b size out e l i d
 by_cases m:s[k].toNat%4=0
 ·exact Fu g s k _ w h j c rfl s[k].toNat_lt m (by omega) B base cap b size out e l i d p o n
 exact C4 g s k _ w h j c rfl s[k].toNat_lt m (by omega) B base cap b size out e l i d o n
theorem tri {x y:Nat×Nat×Int}{a b c:Int}(h:x=y)(e:a=y.1)(d:b=y.2.1)(i:c=y.2.2):Ending.returned (.tuple #[.int .i64 a,.int .i64 b,.int .i64 c])= .returned (.tuple #[.int .i64 x.1,.int .i64 x.2.1,.int .i64 x.2.2]):=by
 subst h;rw[e,d,i]
theorem two {x:Int×List UInt8}{e:Int}{l:List UInt8}(h:x=(e,l)):Ending.returned (.tuple #[.string ⟨l.toArray⟩,.int .i64 e])= .returned (.tuple #[.string ⟨x.2.toArray⟩,.int .i64 x.1]):=by
 subst h;rfl
theorem C5 (s:ByteArray)(w:World)(m:s.size<=9223372036854775807):
 Calls Tryz.prog 161 #[.string s] w fun e w'=>e= .returned (.tuple #[.int .i64 (aC s).1,.int .i64 (aC s).2.1,.int .i64 (aC s).2.2])/\w=w':=by
 have i:=fun w=>rp s w m
 have hz:aC s=if(ay s).2.2=0 then(if 4294967295<(ay s).1 then(0,0,5)else ay s)else(0,0,(ay s).2.2):=rfl
 generalize ay s=x at*;obtain⟨n,hd,o⟩:=x;generalize aC s=y at*;simp only at i hz;have d:=za i;have b:=za hz;clear i hz;rcases eH o with⟨c,k,j⟩|⟨c,k,j⟩
 ·subst c;clear k j;by_cases l:4294967295<n
  ·have h:Hid (y=(0,0,5)):=za (by rw[b.out,zl rfl,zl l]);clear b;go_enter Tryz.func161,Tryz.ntmps161
   go_wp2_with fail
   refine(d.out _).mono ?_;rintro e w' ⟨rfl,rfl⟩;go_wp2;go_ret3
   exact⟨tri h.out rfl rfl rfl,rfl⟩
  have h:Hid (y=(n,hd,0)):=za (by rw[b.out,zl rfl,zj l]);clear b;go_enter Tryz.func161,Tryz.ntmps161
  go_wp2_with fail
  refine(d.out _).mono ?_;rintro e w' ⟨rfl,rfl⟩;go_wp2;go_ret3
  exact⟨tri h.out rfl rfl rfl,rfl⟩
 have p:=za c;clear c;go_enter Tryz.func161,Tryz.ntmps161
 go_wp2_with fail
 refine(d.out _).mono ?_;rintro e w' ⟨rfl,rfl⟩;go_wp2;go_ret3
 exact⟨tri (b.out.trans (by rw[zj p.out])) rfl rfl rfl,rfl⟩
theorem qf (s:ByteArray)(h:(aC s).2.2=0):(aC s).1<=4294967295/\0<(aC s).2.1/\(aC s).2.1<=10/\(aC s).2.1<=s.size:=by
 have hz:aC s=if(ay s).2.2=0 then(if 4294967295<(ay s).1 then(0,0,5)else ay s)else(0,0,(ay s).2.2):=rfl
 by_cases b:(ay s).2.2=0
 ·have d:=gU s b;by_cases c:4294967295<(ay s).1
  ·rw[hz,zl b,zl c]at h;simp at h
  rw[hz,zl b,zj c];omega
 rw[hz,zj b]at h;exact absurd h b
def IE (g B size:Nat)(body:ByteArray)(X:Int×List UInt8)(w:World)(gk:Nat)(v:Value)(wr:World):Prop:=
 ∃(k:Nat) (out:List UInt8) (h' aq:Nat) (f:Int),v= .slice (some ⟨h',0,none⟩) out.length aq/\wr.ownsRow B 5 1 (.slice (some ⟨h',0,none⟩) out.length aq) out.length (cb out)/\iO wr g body k f/\Below B w wr/\
  ((f=0/\k<=body.size/\out.length<=size/\Hid (gN body size gk k out=X)/\body.size-k<gk)\/(Hid (f≠0)/\(f==0)=false/\(f !=0)=true/\Hid (X=(f,[]))))
theorem Fv {g B size:Nat}{body:ByteArray}{X:Int×List UInt8}{w m i:World}{gk k:Nat}{out:List UInt8}{e:Ending}(y:Below B w m)(d:k<body.size)(u:out.length<=size)(hx:gN body size gk k out=X)(C:body.size-k<gk)
 (x:qe g body B B m (bT body size k body[k].toNat out) e i):∃v,e= .returned v/\(∃h n c,v= .slice (some ⟨h,0,none⟩) n c)/\IE g B size body X w (gk-1) v i:=by
 obtain⟨h,s,q,rfl,z,A,r,o⟩:=x;obtain⟨f,rfl⟩:∃f,gk=f+1:=⟨gk-1,by omega⟩
 refine⟨_,rfl,⟨_,_,_,rfl⟩,q,_,h,s,_,rfl,z,A,y.trans o, ?_⟩;rcases eH (bT body size k body[k].toNat out).1 with⟨b,j,l⟩|⟨b,j,l⟩
 ·have p:=Om body[k].toNat_lt d u b;have:=r b;subst this;exact .inl ⟨b,by omega,p.2.2,za (LB d hx b),by simp;omega⟩
 exact .inr ⟨za b,j,l,za (On d hx b)⟩
theorem qg {b c:World}{B:Nat}{e:TypeId}{z:Nat}{v:Value}{n:Nat}{xs:List Value}{o:Obj}(h:b.ownsRow B e z v n xs)(d:c=b.alloc o):c.ownsRow B e z v n xs:=d▸h.alloc o
theorem IF (s:ByteArray)(most:Int)(w:World)(hs:s.size<=9223372036854775807):
 Calls Tryz.prog 124 #[.string s,.int .i64 most,.pointer none] w fun e w'=>e= .returned (.tuple #[.string ⟨(bc s most).2.toArray⟩,.int .i64 (bc s most).1])/\Below w.heap.size w w':=by
 have G:=fun w=>C5 s w hs
 have p:=qf s;have hz:bc s most=if(aC s).2.2≠0 then((aC s).2.2,[])else if most<(aC s).1 then(5,[])else iJ (s.extract (aC s).2.1 s.size) (aC s).1:=rfl
 generalize aC s=x at*;obtain⟨n,hd,er⟩:=x;generalize bc s most=y at*;simp only at G hz p;have E:=za G;have m:=za hz;clear G hz;obtain⟨i0,hi,W,O,I⟩:=yQ tO;rcases eH er with⟨q,S,Z⟩|⟨q,S,Z⟩
 ·subst q;obtain⟨hn,ak,ag,al⟩:=p rfl;clear S Z p;by_cases X:most<n
  ·have u:Hid (y=(5,[])):=za (by rw[m.out,zj (by simp),zl X]);clear m;go_enter ZX,ZN
   go_wp2_with fail
   refine(E.out _).mono ?_;rintro e w' ⟨rfl,rfl⟩;go_wp2;go_ret2
   exact⟨by rw[u.out];rfl,zq _ _⟩
  have u:Hid (y=iJ (s.extract hd s.size) n):=za (by rw[m.out,zj (by simp),zj X]);clear m;have aj:decide (most<(n:Int))=false:=by simp;omega
  by_cases h4:n<=4096;all_goals
   go_enter ZX,ZN
   go_wp2_with fail
   refine(E.out _).mono ?_;rintro e w' ⟨rfl,rfl⟩;go_wp2_with (at_make;(first|refine ZP _ rfl _ _ 31 rfl w.heap.size 5 i0 (.int .u8 0) 1 zx hi W O .i64 .i64 _ n rfl rfl (by omega) (by rw[I];omega) (by simp only[maxLen];omega) (by omega) ?_|refine ZP _ rfl _ _ 31 rfl w.heap.size 5 i0 (.int .u8 0) 1 zx hi W O .i64 .i64 _ 4096 rfl rfl (by omega) (by rw[I];omega) (by simp only[maxLen];omega) (by omega) ?_);intro o J N)
   have H:=(zq w.heap.size w).grown N (by omega) (by simp);have hZ:=H.size;clear N;go_wp2_with fail
   refine(ru _ o).mono ?_;rintro e F ⟨rfl,j⟩;have L:iO F o.heap.size (s.extract hd s.size) 0 0:=by rw[j];exact af.new o _ _
   have dZ:=qg J j;have aM:Below w.heap.size w F:=by rw[j];exact H.alloc (by omega) _
   have N6:o.heap.size<F.heap.size:=by rw[j];simp
   clear j J H;obtain⟨g,U⟩:∃g,g=o.heap.size:=⟨_,rfl⟩
   rw[<-U]at L N6 hZ⊢;clear U;have B:(s.extract hd s.size).size<=9223372036854775807:=by rw[an _ _ _ (zi _)];omega
   generalize s.extract hd s.size=body at*;have YI:w.heap.size<=g:=by omega
   go_wp2_with fail
   go_loopg [11] (body.size+1) (fun gk v wr=>IE g w.heap.size n body y w gk v wr)
   case atStart=>exact⟨0,[],_,_,0,rfl,dZ,L,aM,.inl ⟨rfl,by omega,by simp,za u.out.symm,by omega⟩⟩
   case round=>
    obtain⟨k,out,h',aq,f,rfl,AO,b,d,⟨rfl,R,ab,M,ad⟩|⟨hf,YH,ai,K⟩⟩:=hrel
    ·by_cases D:k<body.size
     ·go_wp2_with fail
      refine(bs g body k 0 wr b).mono ?_;rintro e w' ⟨rfl,rfl⟩;go_wp2_with fail
      refine(vj g body k 0 wr b R B).mono ?_;rintro e w3 ⟨rfl,c,rfl⟩;have Y:=za (BX g body k (wr.drewN c) (b.drewN c) D B w.heap.size w.heap.size aq h' n out (AO.bE c) YI (zi _) (by have:=d.size;simp<;>omega) (by have:=d.size;simp<;>omega) ab hn);go_wp2_with fail
      refine Y.out.mono ?_;intro e h aa;obtain⟨v4,rfl,⟨h4,n4,c4,rfl⟩,ae⟩:=Fv (d.bE c) D ab M.out ad aa;clear aa Y;go_wp2;go_roundg (gk-1)
      case measure=>omega
      case rel=>exact ae
     have r:=za (Ea D (f:=gk-1) (x:=y) (by rw[show gk-1+1=gk from by omega];exact M.out));go_wp2_with fail
     refine(bs g body k 0 wr b).mono ?_;rintro e w' ⟨rfl,rfl⟩;go_wp2_with fail
     refine(vj g body k 0 wr b R B).mono ?_;rintro e w3 ⟨rfl,c,rfl⟩;by_cases C:out.length<n
     ·have A:Hid (y=(2,[])):=za (by rw[r.out,zl C]);clear r;go_wp2_with fail
      refine(iA g body k 2 _ (b.drewN c)).mono ?_;rintro e h ⟨rfl,l,z⟩;have i:Below w.heap.size w h:=(d.bE c).trans (z.below (by have:=d.size;simp<;>omega) (by simp;omega));go_wp2_with fail
      refine(bs g body _ 2 h l).mono ?_;rintro e w' ⟨rfl,rfl⟩;go_wp2_with fail
      refine(bs g body _ 2 h l).mono ?_;rintro e w' ⟨rfl,rfl⟩;go_wp2;go_ret2
      exact⟨two A.out,i⟩
     have A:Hid (y=(0,out)):=za (by rw[r.out,zj C]);clear r;have ah:=r9 zx yB zT (AO.bE c);go_wp2_with fail
     refine(bs g body _ 0 _ (b.drewN c)).mono ?_;rintro e w' ⟨rfl,rfl⟩;go_wp2;go_ret2
     have i:=d.bE c;exact⟨two A.out,i⟩
    go_wp2_with fail
    refine(bs g body k f wr b).mono ?_;rintro e w' ⟨rfl,rfl⟩;by_cases C:out.length<n
    ·go_wp2_with fail
     refine(vl g body k f 2 wr b YH).mono ?_;rintro e h ⟨rfl,l,z⟩;have i:Below w.heap.size w h:=d.trans (z.below (by have:=d.size;omega) (by simp;omega));go_wp2_with fail
     refine(bs g body _ f h l).mono ?_;rintro e w' ⟨rfl,rfl⟩;go_wp2_with fail
     refine(bs g body _ f h l).mono ?_;rintro e w' ⟨rfl,rfl⟩;go_wp2;go_ret2
     exact⟨two K.out,i⟩
    go_wp2_with fail
    refine(bs g body _ f wr b).mono ?_;rintro e w' ⟨rfl,rfl⟩;go_wp2_with fail
    refine(bs g body _ f wr b).mono ?_;rintro e w' ⟨rfl,rfl⟩;go_wp2;go_ret2
    have i:=d;exact⟨two K.out,i⟩
 have H0:=za q;clear q p;go_enter ZX,ZN
 go_wp2_with fail
 refine(E.out _).mono ?_;rintro e w' ⟨rfl,rfl⟩;go_wp2;go_ret2
 exact⟨by rw[m.out,zl H0.out];rfl,zq _ _⟩
theorem Fw (s:ByteArray)(most:Int)(k:Nat)(w:World)(j:s.size<=9223372036854775807)(hx:(aC s).2.2≠0):
 Calls Tryz.prog 124 #[.string s,.int .i64 most,.pointer (some ⟨k,0,none⟩)] w fun e w'=>e= .returned (.tuple #[.string ⟨[].toArray⟩,.int .i64 (aC s).2.2])/\w=w':=by
 have c:=fun w=>C5 s w j
 have d:=qf s;have hz:bc s most=if(aC s).2.2≠0 then((aC s).2.2,[])else if most<(aC s).1 then(5,[])else iJ (s.extract (aC s).2.1 s.size) (aC s).1:=rfl
 generalize aC s=x at*;obtain⟨n,hd,l⟩:=x;generalize bc s most=y at*;dsimp only at*;have h:=za c;clear c hz;rcases eH l with⟨b,m,i⟩|⟨b,m,i⟩
 ·exact absurd b hx
 clear b hx d;go_enter ZX,ZN
 go_wp2_with fail
 refine(h.out _).mono ?_;rintro e w' ⟨rfl,rfl⟩;go_wp2;go_ret2
 exact⟨rfl,rfl⟩
theorem C6 (s:ByteArray)(most:Int)(i:Nat)(w:World)(h:s.size<=9223372036854775807)(hx:(aC s).2.2=0)(k:most<(aC s).1):
 Calls Tryz.prog 124 #[.string s,.int .i64 most,.pointer (some ⟨i,0,none⟩)] w fun e w'=>e= .returned (.tuple #[.string ⟨[].toArray⟩,.int .i64 5])/\w=w':=by
 have b:=fun w=>C5 s w h
 have c:=qf s;have hz:bc s most=if(aC s).2.2≠0 then((aC s).2.2,[])else if most<(aC s).1 then(5,[])else iJ (s.extract (aC s).2.1 s.size) (aC s).1:=rfl
 generalize aC s=x at*;obtain⟨n,hd,l⟩:=x;generalize bc s most=y at*;dsimp only at*;have d:=za b;have j:=za hz;clear b hz;subst hx;clear c j;go_enter ZX,ZN
 go_wp2_with fail
 refine(d.out _).mono ?_;rintro e w' ⟨rfl,rfl⟩;go_wp2;go_ret2
 exact⟨rfl,rfl⟩
theorem IG (s:ByteArray)(most:Int)(m a u t p:Nat)(A:World)(hs:s.size<=9223372036854775807)(hM:tj A m a u t p)(ha:a<=9223372036854775807)(hx:(aC s).2.2=0)(hm:((aC s).1:Int)<=most)(Y:u+(aC s).1<=a)(M:t+(aC s).1<=9223372036854775807):
 Calls Tryz.prog 124 #[.string s,.int .i64 most,.pointer (some ⟨m,0,none⟩)] A fun e w'=>e= .returned (.tuple #[.string ⟨(bc s most).2.toArray⟩,.int .i64 (bc s most).1])/\tj w' m a (u+(aC s).1) (t+(aC s).1) (max p (u+(aC s).1))/\ae [m] A w':=by
 have X:=fun w=>C5 s w hs
 have U:=qf s;have hz:bc s most=if(aC s).2.2≠0 then((aC s).2.2,[])else if most<(aC s).1 then(5,[])else iJ (s.extract (aC s).2.1 s.size) (aC s).1:=rfl
 generalize aC s=x at*;obtain⟨n,hd,er⟩:=x;generalize bc s most=y at*;dsimp only at*;have Hl:=za X;have Hz:=za hz;clear X hz;subst hx;obtain⟨hn,ao,ai,ar⟩:=U rfl;have Hy:Hid (y=iJ (s.extract hd s.size) n):=za (by rw[Hz.out,zj (by simp),zj (by omega)]);clear U Hz;obtain⟨i0,hi,Z,R,I⟩:=yQ tO;have al:decide (most<(n:Int))=false:=by simp;omega
 have Ht:=za (qa m a u t p n A hM ha Y M);clear Y M;generalize u+n=u2 at*;generalize t+n=t2 at*;generalize max p u2=p2 at*;by_cases h4:n<=4096;all_goals
  go_enter ZX,ZN
  go_wp2_with fail
  refine(Hl.out _).mono ?_;rintro e w' ⟨rfl,rfl⟩;go_wp2_with fail
  refine Ht.out.mono ?_;rintro e w ⟨rfl,q,r⟩;go_wp2_with (at_make;(first|refine ZP _ rfl _ _ 31 rfl w.heap.size 5 i0 (.int .u8 0) 1 zx hi Z R .i64 .i64 _ n rfl rfl (by omega) (by rw[I];omega) (by simp only[maxLen];omega) (by omega) ?_|refine ZP _ rfl _ _ 31 rfl w.heap.size 5 i0 (.int .u8 0) 1 zx hi Z R .i64 .i64 _ 4096 rfl rfl (by omega) (by rw[I];omega) (by simp only[maxLen];omega) (by omega) ?_);intro o J O)
  have H:=(zq w.heap.size w).grown O (by omega) (by simp);have hZ:=H.size;clear O;go_wp2_with fail
  refine(ru _ o).mono ?_;rintro e G ⟨rfl,j⟩;have L:iO G o.heap.size (s.extract hd s.size) 0 0:=by rw[j];exact af.new o _ _
  have dZ:=qg J j;have aM:Below w.heap.size w G:=by rw[j];exact H.alloc (by omega) _
  have N6:o.heap.size<G.heap.size:=by rw[j];simp
  clear j J H;obtain⟨g,W⟩:∃g,g=o.heap.size:=⟨_,rfl⟩
  rw[<-W]at L N6 hZ⊢;clear W;have D:(s.extract hd s.size).size<=9223372036854775807:=by rw[an _ _ _ (zi _)];omega
  generalize s.extract hd s.size=body at*;have YI:w.heap.size<=g:=by omega
  go_wp2_with fail
  go_loopg [11] (body.size+1) (fun gk v wr=>IE g w.heap.size n body y w gk v wr)
  case atStart=>exact⟨0,[],_,_,0,rfl,dZ,L,aM,.inl ⟨rfl,by omega,by simp,za Hy.out.symm,by omega⟩⟩
  case round=>
   obtain⟨k,out,h',aq,f,rfl,AO,c,h,⟨rfl,S,ad,N,ag⟩|⟨hf,YH,ak,K⟩⟩:=hrel
   ·by_cases F:k<body.size
    ·go_wp2_with fail
     refine(bs g body k 0 wr c).mono ?_;rintro e w' ⟨rfl,rfl⟩;go_wp2_with fail
     refine(vj g body k 0 wr c S D).mono ?_;rintro e w3 ⟨rfl,d,rfl⟩;have aa:=za (BX g body k (wr.drewN d) (c.drewN d) F D w.heap.size w.heap.size aq h' n out (AO.bE d) YI (zi _) (by have:=h.size;simp<;>omega) (by have:=h.size;simp<;>omega) ad hn);go_wp2_with fail
     refine aa.out.mono ?_;intro e i ab;obtain⟨v4,rfl,⟨h4,n4,c4,rfl⟩,ah⟩:=Fv (h.bE d) F ad N.out ag ab;clear ab aa;go_wp2;go_roundg (gk-1)
     case measure=>omega
     case rel=>exact ah
    have z:=za (Ea F (f:=gk-1) (x:=y) (by rw[show gk-1+1=gk from by omega];exact N.out));go_wp2_with fail
    refine(bs g body k 0 wr c).mono ?_;rintro e w' ⟨rfl,rfl⟩;go_wp2_with fail
    refine(vj g body k 0 wr c S D).mono ?_;rintro e w3 ⟨rfl,d,rfl⟩;by_cases E:out.length<n
    ·have C:Hid (y=(2,[])):=za (by rw[z.out,zl E]);clear z;go_wp2_with fail
     refine(iA g body k 2 _ (c.drewN d)).mono ?_;rintro e i ⟨rfl,l,B⟩;have b:Below w.heap.size w i:=(h.bE d).trans (B.below (by have:=h.size;simp<;>omega) (by simp;omega));go_wp2_with fail
     refine(bs g body _ 2 i l).mono ?_;rintro e w' ⟨rfl,rfl⟩;go_wp2_with fail
     refine(bs g body _ 2 i l).mono ?_;rintro e w' ⟨rfl,rfl⟩;go_wp2;go_ret2
     exact⟨two C.out,q.only (ae.ah b (zi _)) (by simp),r.trans' (ae.ah b (zi _)) (by simp)⟩
    have C:Hid (y=(0,out)):=za (by rw[z.out,zj E]);clear z;have aj:=r9 zx yB zT (AO.bE d);go_wp2_with fail
    refine(bs g body _ 0 _ (c.drewN d)).mono ?_;rintro e w' ⟨rfl,rfl⟩;go_wp2;go_ret2
    have b:=h.bE d;exact⟨two C.out,q.only (ae.ah b (zi _)) (by simp),r.trans' (ae.ah b (zi _)) (by simp)⟩
   go_wp2_with fail
   refine(bs g body k f wr c).mono ?_;rintro e w' ⟨rfl,rfl⟩;by_cases E:out.length<n
   ·go_wp2_with fail
    refine(vl g body k f 2 wr c YH).mono ?_;rintro e i ⟨rfl,l,B⟩;have b:Below w.heap.size w i:=h.trans (B.below (by have:=h.size;omega) (by simp;omega));go_wp2_with fail
    refine(bs g body _ f i l).mono ?_;rintro e w' ⟨rfl,rfl⟩;go_wp2_with fail
    refine(bs g body _ f i l).mono ?_;rintro e w' ⟨rfl,rfl⟩;go_wp2;go_ret2
    exact⟨two K.out,q.only (ae.ah b (zi _)) (by simp),r.trans' (ae.ah b (zi _)) (by simp)⟩
   go_wp2_with fail
   refine(bs g body _ f wr c).mono ?_;rintro e w' ⟨rfl,rfl⟩;go_wp2_with fail
   refine(bs g body _ f wr c).mono ?_;rintro e w' ⟨rfl,rfl⟩;go_wp2;go_ret2
   have b:=h;exact⟨two K.out,q.only (ae.ah b (zi _)) (by simp),r.trans' (ae.ah b (zi _)) (by simp)⟩
