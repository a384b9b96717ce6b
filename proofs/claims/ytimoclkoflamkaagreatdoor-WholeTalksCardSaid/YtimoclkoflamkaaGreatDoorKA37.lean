/- squeeze.Pack tells 'pack'. -/
import Derived.Test.YtimoclkoflamkaaGreatDoorKA30
set_option linter.all false
set_option maxRecDepth 100000
set_option maxHeartbeats 4000000
open Go.Proofs.Tryz
namespace Go.Proofs.YtimoclkoflamkaaGreatDoor
open Go.RowKit Go.Maps
variable {w wr w':World}{B i d f p k j m n base h cap g:Nat}{s:ByteArray}{D:DataW Unit}{l L X a o:List UInt8}{v:Value}{e:TypeId}
def xN:=@Lib.bytesWorld_size
def xS:=@Lib.wpList_append_own_string
def Zo:=@wpList_lookup_own_ok_int
def ZP:=@ntmps181
def ZQ:=@ntmps146
def Z3:=@func181
def Z4:=@func146
def Z8:=@underlying236
structure PW (s:ByteArray)(w:World)(g0 B mB cX:Nat)(D:DataW Unit)(wr:World):Prop where
 below:Below w.heap.size w wr
 cells:∀k,k<s.size->wr.cell? (g0,k)=some (.int .u8 (s.data.toList.getD k 0).toNat)
 hgB:g0<B
 hBm:B<=mB
 X9:w.heap.size<=B
 map:wr.ownsMap prog 237 (plainElem prog 3) mB cX D
theorem PW.lt {b c:Nat}(h:PW s w d B b c D wr):b<wr.heap.size:=h.map.lt
theorem PW.kept {c:Nat}(h:PW s w c B d i D wr)(b:Kept 5 B wr w'):PW s w c B d i D w':=by
 refine⟨h.below.trans (b.below.mono h.X9),fun k n=>(b.below.cell (p:=(c,k)) h.hgB).trans (h.cells k n),h.hgB,h.hBm,h.X9, ?_⟩;obtain⟨es,clock,m,F,l,j⟩:=h.map;exact⟨es,clock,b.other d _ m (by intro q o e;cases e),F,l,j⟩
theorem PW.later {b c:Nat}(h:PW s w b B c d D wr)(e:Below wr.heap.size wr w'):PW s w b B c d D w':=
 h.kept (Kept.ai e (ze _) (by have:=h.lt;have:=h.hBm;omega))
theorem PW.Fi {c l:Nat}{i:DataW Unit}(h:PW s w c B d l D wr)(m:w'.ownsMap prog 237 (plainElem prog 3) d j i)(b:wr.grownBy w' (some d)):PW s w c B d j i w':=by
 have q:=h.lt;have n:=h.hgB;have o:=h.hBm;have p:=h.X9;refine⟨h.below.trans ⟨b.os,b.tape,b.output,b.size,fun k e=>b.block k (by omega) (by simp;omega)⟩,fun k e=>(zy (a:=(c,k)) (b.block c (by omega) (by simp;omega))).trans (h.cells k e),n,o,p,m⟩
theorem PW.buf {c:Nat}(h:PW s w i B c m D wr)(o:bR wr B 5 v l)(p:wr.grownBy w' (some c)):bR w' B 5 v l:=by
 obtain⟨es,clock,n,_⟩:=h.map;obtain⟨A,cap,j,k,d,b⟩:=o;refine⟨A,cap,j,k,d, ?_⟩;rcases b with b|⟨g,cur,fr,hA,hgb,hh,r⟩
 ·exact .inl b
 refine .inr ⟨g,cur,fr,hA,hgb,(p.block g (yb.1 hh).1 ?_).trans hh,r⟩;intro e;injection e with e;subst e;rw[n]at hh;cases hh
theorem PW.four {b l:Nat}(h:PW s w b B k l D wr)(hi:i+4<=s.size):∃c j d e:Nat,(wr,b,i,Value.int .u8 c)/\(wr,b,i+1,Value.int .u8 j)/\(wr,b,i+2,Value.int .u8 d)/\(wr,b,i+3,Value.int .u8 e)/\
 keyOf prog 237 (.agg #[.int .u8 c,.int .u8 j,.int .u8 d,.int .u8 e])=some (gl s.data.toList i):=
 ⟨_,_,_,_,h.cells i (by omega),h.cells (i+1) (by omega),h.cells (i+2) (by omega),h.cells (i+3) (by omega),sQ s.data.toList i⟩
def PAt (s:ByteArray)(w:World)(g0 B mB:Nat)(v5 v7 v8:Value)(wr:World):Prop:=
 ∃(i p f cX:Nat) (A:Option Addr) (n cap:Nat) (l:List UInt8) (D:DataW Unit),v5= .slice A n cap/\v7= .int .i64 p/\v8= .int .i64 i/\p<=i/\i<=s.size/\cX<=i/\s.size-i<f/\
  bR wr B 5 (.slice A n cap) l/\l++pk s.data.toList f p i=pack s.data.toList/\PW s w g0 B mB cX D wr/\MI s.data.toList D i
def PIn (s:ByteArray)(w:World)(g0 B mB i sz:Nat)(A:Option Addr)(n cap:Nat)(l:List UInt8)(v8 PK:Value)(wr:World):Prop:=
 ∃(c cX:Nat) (D:DataW Unit),PK= .int .i64 c/\v8= .int .i64 ((i+c:Nat):Int)/\c<=sz/\cX<=i+c/\bR wr B 5 (.slice A n cap) l/\PW s w g0 B mB cX D wr/\MI s.data.toList D (i+c)
theorem Mt (h:l++pk L f p i=X)(c:L.length-i<f)(hi:i<L.length)(b:Ju L i i=none):l++pk L (f-1) p (i+1)=X:=by
 obtain⟨g,rfl⟩:∃g,f=g+1:=⟨f-1,by omega⟩
 unfold pk at h;rw[zg hi,b]at h;exact h
theorem VN (h:l++pk L f p i=X)(e:L.length-i<f)(hi:i<L.length)(b:Ju L i i=some j)(d:a=(L.take i).drop p)(c:mt L j i 64=n):((l++im a)++kW n (i-j))++pk L (f-1) (i+n) (i+n)=X:=by
 obtain⟨g,rfl⟩:∃g,f=g+1:=⟨f-1,by omega⟩
 unfold pk at h;rw[zg hi,b]at h;subst c;subst d;rw[<-h];simp
theorem aaW (h:l++pk L f p i=X)(c:L.length-i<f)(hi:¬i<L.length)(b:a=L.drop p):l++im a=X:=by
 obtain⟨g,rfl⟩:∃g,f=g+1:=⟨f-1,by omega⟩
 unfold pk at h;rw[zf hi]at h;subst b;exact h
theorem aew (h:l++pk L f p i=pack L)(b:L.length<=65536):l.length<=70000:=by
 have c:=tD L b;have:=yi List.length h;rw[zh]at this;omega
theorem VO (base:Nat)(v:Value)(l:List UInt8)(n d:Nat)(b:Int)(w:World)(h:bR w base 5 v l)(j:base<=w.heap.size)(i:l.length<=1000000)(e:4<=n)(k:n<=64)(hd:d<65536)(c:b=d):
 Calls prog 179 #[v,n,b] w (R7 base w (l++kW n d)):=by
 subst c;exact VI base v l n d w h j i e k hd
theorem Sq {a b:Int}(h:(DataW.lit (.int .i64 a):DataW Unit)= .lit (.int .i64 b)):a=b:=by
 injection h with h;injection h
theorem GY (w:World)(a:Addr)(c:Nat):(Instr.arrayAt 237 (.slice (some a) 4 c)).run prog w= .ok (.pointer (some a)) w:=by
 simp[Instr.arrayAt,xX Z7]
theorem aaX (s:ByteArray)(w:World)(hs:s.size<=65536):
 Calls prog 145 #[.string s] w fun e w'=>e= .returned (.tuple #[.string ⟨(pack s.data.toList).toArray⟩,.int .i64 0])/\Below w.heap.size w w':=by
 have kc:=fun(w:World) (s:ByteArray)=>Lib.run_convert_string_bytes (P:=prog) w 9 75 5 s zH zm ym
 have S:= @run_makeMap prog;have kA:=GY;have H1:=za (fun w=>wW s.size w (by omega));go_enter func145,ntmps145
 go_wp2_with fail
 refine(H1.out _).mono ?_;rintro e b ⟨rfl,q⟩;have cg:=q.size;rw[xN]at cg;have TA:∀k,k<s.size->b.cell? ⟨w.heap.size,k,none⟩=some (.int .u8 (s.data.toList.getD k 0).toNat):=fun k hk=>(q.cell (p:=⟨w.heap.size,k,none⟩) (by rw[xN];simp)).trans (Lib.bytesWorld_cell w _ s k hk)
 have X':Below w.heap.size w b:=(Lib.bytesWorld_below w 5 s).trans (q.mono (by rw[xN];omega));have hT:(⟨(aR s.size).toArray⟩:ByteArray).size=(aR s.size).length:=bJ _;have X3:=bC 3 s.size (by omega) (by omega);have ad:=bR.conv b b.heap.size 5 ⟨(aR s.size).toArray⟩ (ze _) (by omega);have od:s.size<=grownCap w s.size 0 5:=grownCap_ge _ _ _ _;have aA:grownCap w s.size 0 5<=9223372036854775807:=by simpa[maxLen]using Zs w s.size 0 5 (by simp[maxLen];omega)
 rw[hT]at ad;have al:PW s w w.heap.size b.heap.size (Lib.bytesWorld b 5 ⟨(aR s.size).toArray⟩).heap.size 0 (.map []) ((Lib.bytesWorld b 5 ⟨(aR s.size).toArray⟩).alloc (.map #[] 0)):=by
  have DA:=Lib.bytesWorld_below b 5 ⟨(aR s.size).toArray⟩;refine⟨(X'.trans (DA.mono (by omega))).alloc (by rw[xN];omega) _,fun k hk=> ?_,by omega,by rw[xN];omega,by omega,World.ownsMap_made _ _ _ _⟩;rw[zF _ _ _ (by rw[xN];simp;omega),DA.cell (p:=⟨w.heap.size,k,none⟩) (by simp;omega)];exact TA k hk
 have YK:=ad.alloc (.map #[] 0);have lJ:=za YK;have av:=za al;clear al YK ad TA hT q X';go_wp2;generalize grownCap w s.size 0 5=EX at*;generalize (Lib.bytesWorld b 5 ⟨(aR s.size).toArray⟩).heap.size=mB at*;generalize (Lib.bytesWorld b 5 ⟨(aR s.size).toArray⟩).alloc (.map #[] 0)=w2 at*;generalize grownCap b (aR s.size).length 0 5=vd at*;go_loopw [5,7,8] (fun v5 v7 r wr=>PAt s w w.heap.size b.heap.size mB v5 v7 r wr) (fun _ _ r _=>s.size-(intOf r).toNat)
 case atStart=>exact⟨0,0,s.size+1,0,_,_,_,_,_,rfl,rfl,rfl,by omega,by omega,by omega,by omega,lJ.out,by simp[pack,aa],av.out,MI.start _⟩
 case round=>
  obtain⟨i,p,f,I,A,n,cap,l,ae,rfl,rfl,rfl,aB,hi,rL,hf,K,hl,y,aj⟩:=hrel;have ab:=za aj;have N:=za hl;have uZ:=y.lt;have aE:=y.hBm;have aC:=aew hl (by simpa using hs);have F:=za hf;clear aj hl;by_cases M:i<s.size
  ·obtain⟨wo,ay⟩:∃wo:World,wo=wr:=⟨_,rfl⟩
   subst ay;by_cases h4:i+4<=s.size
   ·have D:=Ru s.data.toList i (by simpa using h4) i (ze _);have X:=ab.out.2 i (by simpa using h4);obtain⟨c0,c1,H,c3,Z,Y,U,R,B⟩:=y.four h4;have aJ:¬EX=i:=by omega
    have af:=za B;have W:=y.map;clear B;cases hlg:jN s.data.toList i i with
    |none=>
     have au:=X.2 hlg;rw[hlg]at D;have J:=za D;clear X hlg D;go_wp2_with (at_lookup;refine Zo _ rfl _ _ 236 rfl 237 3 .i64 sP Z8 yt (Mn _) mB I _ rfl W _ _ rfl af.out ?_;intro cj bZ Qs)
     clear bZ Qs Z Y U R W;go_loopw [8,65] (fun r h wr=>PIn s w w.heap.size b.heap.size mB i 1 A n cap l r h wr) (fun _ h _=>1-(intOf h).toNat)
     case atStart=>exact⟨0,I,ae,rfl,rfl,by omega,by omega,K,y,ab.out⟩
     case round=>
      obtain⟨c,o,E,rfl,rfl,hc,YJ,u,d,C⟩:=hrel;have x:=za C;clear C;by_cases Py:c<1
      ·by_cases z:i+c+4<=s.size
       ·obtain⟨c0,c1,H,c3,Z,Y,U,R,B⟩:=d.four z;have HK:=za B;have bF:=d.map;clear B;go_wp2_with (at_mapUpdate;refine wpList_mapUpdate_own _ rfl _ _ _ 236 rfl 237 3 sP Z8 _ mB o _ rfl bF (by unfold maxLen;omega) _ _ _ rfl rfl HK.out _ [] (plainElem_int yt (WalkArith.wf_i64 (by omega))) ?_;intro w5 TC L)
        go_roundw
        case rel=>exact⟨c+1,o+1,_,by go_num,by go_num,by omega,by omega,d.buf u L,d.Fi TC L,x.out.put (by simpa using z)⟩
        case measure=>simp[intOf];omega
       omega
      go_wp2;go_roundw
      case rel=>exact⟨i+1,p,f-1,o,A,n,cap,l,E,rfl,rfl,by go_num,by omega,by omega,by omega,by have:=F.out;omega,u,Mt N.out (by simpa using F.out) (by simpa using M) J.out,d,by rw[show i+1=i+c from by omega];exact x.out⟩
      case measure=>simp[intOf];omega
    |some j=>
     have rY:=Rv _ _ _ _ hlg;obtain⟨au,TB⟩:=X.1 j hlg;have Dw:=za TB;rw[hlg]at D;have J:=za D;have TD:=(qw _ _ _ _ D).2;have S:=CD s.data.toList 64 j i;have aw:=S.2 (by simpa using hi);rw[aa]at aw;have az:=S.1;have TE:=za (fun w=>VK s j i w rY hi hs);generalize Ql:mt s.data.toList j i 64=m at*;have sq:=za Ql;have ag:(s.extract p i).size<=65536:=by rw[ar _ _ _ hi];omega
     have ao:=za (VN N.out (by simpa using F.out) (by simpa using M) J.out (aq s p i) sq.out);have UB:(l++im (s.extract p i).data.toList).length<=200000:=by
      have:=kn (s.extract p i).data.toList (by rw[aa];exact ag);rw[aa]at this;have h3:(if(s.extract p i).size=0 then 0 else if(s.extract p i).size<=60 then 1 else if(s.extract p i).size<=256 then 2 else 3)<=3:=by split<;>(try split)<;>(try split)<;>omega
      rw[zh];omega
     clear X hlg D TB S Ql;go_wp2_with (at_lookup;refine Zo _ rfl _ _ 236 rfl 237 3 .i64 sP Z8 yt (Mn _) mB I _ rfl W _ _ rfl af.out ?_;intro cj bZ Qs;obtain rfl:=Sq (bZ.symm.trans Dw.out);clear bZ Qs)
     refine(Ml b.heap.size _ l (s.extract p i) _ K (by omega) (by omega) ag).mono ?_;rintro e w3 ⟨A1,n1,aF,rfl,q,G⟩;have aG:=G.size;have ai:=y.kept G;go_wp2_with fail
     refine(TE.out _).mono ?_;rintro e w4 ⟨rfl,O⟩;have UL:=O.size;have ak:=ai.later O;have ah:=q.below O;go_wp2_with fail
     refine(VO b.heap.size _ _ m (i-j) ((i:Int)-j) _ ah (by omega) (by omega) TD az (by omega) (by omega)).mono ?_;rintro e w5 ⟨A2,n2,H,rfl,aI,dW⟩;have ax:=ak.kept dW;clear q ah ai ak y K Z Y U R W G dW O;go_wp2;go_loopw [8,65] (fun r h wr=>PIn s w w.heap.size b.heap.size mB i m A2 n2 H _ r h wr) (fun _ h _=>m-(intOf h).toNat)
     case atStart=>exact⟨0,I,ae,rfl,rfl,by omega,by omega,aI,ax,ab.out⟩
     case round=>
      obtain⟨c,o,E,rfl,rfl,hc,YJ,u,d,C⟩:=hrel;have x:=za C;clear C;by_cases Py:c<m
      ·by_cases z:i+c+4<=s.size
       ·obtain⟨c0,c1,H,c3,Z,Y,U,R,B⟩:=d.four z;have HK:=za B;have bF:=d.map;clear B;go_wp2_with (at_mapUpdate;refine wpList_mapUpdate_own _ rfl _ _ _ 236 rfl 237 3 sP Z8 _ mB o _ rfl bF (by unfold maxLen;omega) _ _ _ rfl rfl HK.out _ [] (plainElem_int yt (WalkArith.wf_i64 (by omega))) ?_;intro w5 TC L)
        go_roundw
        case rel=>exact⟨c+1,o+1,_,by go_num,by go_num,by omega,by omega,d.buf u L,d.Fi TC L,x.out.put (by simpa using z)⟩
        case measure=>simp[intOf];omega
       go_wp2;go_roundw
       case rel=>exact⟨c+1,o,E,by go_num,by go_num,by omega,by omega,u,d,x.out.skip (by simpa using z)⟩
       case measure=>simp[intOf];omega
      go_wp2;go_roundw
      case rel=>exact⟨i+m,i+m,f-1,o,A2,n2,H,_,E,rfl,by go_num,by go_num,by omega,by omega,by omega,by have:=F.out;omega,u,ao.out,d,by rw[show i+m=i+c from by omega];exact x.out⟩
      case measure=>simp[intOf];omega
   have J:=za (wS s.data.toList i (by simpa using hi) (by simpa using h4) i (ze _));go_wp2;go_loopw [8,65] (fun r h wr=>PIn s w w.heap.size b.heap.size mB i 1 A n cap l r h wr) (fun _ h _=>1-(intOf h).toNat)
   case atStart=>exact⟨0,I,ae,rfl,rfl,by omega,by omega,K,y,ab.out⟩
   case round=>
    obtain⟨c,o,E,rfl,rfl,hc,YJ,u,d,C⟩:=hrel;have x:=za C;have z:¬i+c+4<=s.size:=by omega
    clear C;by_cases Py:c<1
    ·go_wp2;go_roundw
     case rel=>exact⟨c+1,o,E,by go_num,by go_num,by omega,by omega,u,d,x.out.skip (by simpa using z)⟩
     case measure=>simp[intOf];omega
    go_wp2;go_roundw
    case rel=>exact⟨i+1,p,f-1,o,A,n,cap,l,E,rfl,rfl,by go_num,by omega,by omega,by omega,by have:=F.out;omega,u,Mt N.out (by simpa using F.out) (by simpa using M) J.out,d,by rw[show i+1=i+c from by omega];exact x.out⟩
    case measure=>simp[intOf];omega
  have HE:=za (aaW N.out (by simpa using F.out) (by simpa using M) (show(s.extract p s.size).data.toList=s.data.toList.drop p by rw[aq,cQ]));have an:(s.extract p s.size).size<=65536:=by rw[ar _ _ _ (ze _)];omega
  go_wp2_with fail
  refine(Ml b.heap.size _ l (s.extract p s.size) _ K (by omega) (by omega) an).mono ?_;rintro e w3 ⟨A1,n1,c1,rfl,q,G⟩;rw[HE.out]at q;have aH:=q.Jt (P:=prog) zm ym zH;have HB:=za ((y.kept G).below);clear q G;go_wp2;go_ret2
  exact⟨rfl,HB.out⟩
open Go.RowKit
theorem vA :(prog.info? 5).map (fun i=>(i.zero,i.size,i.bytes))=some (some (.int .u8 0),1,1):=by kernel_rfl
theorem Ke (g bx:Nat)(s:ByteArray)(k n:Nat)(w:World)(h:iP w g s k 0)(hx:w.cell? (bx,0)=some (.pointer (some (g,0))))(q:s.size<=9223372036854775807)(c:k+n<=s.size)(u:1<=n)(r:n<=4):
 Calls prog 213 #[n,(bx,0)] w fun e w'=>e= .returned (.int .i64 (dg (s.extract k (k+n)).data.toList))/\iP w' g s (k+n) 0/\ae [g] w w':=by
 have b:=eI g s k n w h q c;have hz:(s.extract k (k+n)).size=n:=by rw[ar _ _ _ c];omega
 have d:=fun w=>fa (s.extract k (k+n)) w (by omega) (by omega)
 have p:=jG (s.extract k (k+n)).data.toList;have i:2^(8*(s.extract k (k+n)).data.toList.length)<=2^32:=yu (by omega) (by rw[aa,hz];omega);have y:dg (s.extract k (k+n)).data.toList<=4294967295:=by omega
 have j:=za b;have o:=za d;clear p i hz b d h;generalize dg (s.extract k (k+n)).data.toList=N at*;go_enter func213,ntmps213
 go_wp2_with fail
 refine j.out.mono ?_;rintro e w' ⟨rfl,l,m⟩;go_wp2_with fail
 refine(o.out _).mono ?_;rintro e x ⟨rfl,rfl⟩;go_wp2;go_ret;exact⟨rfl,l,m⟩
theorem jt (g bx:Nat)(s:ByteArray)(k n:Nat)(w:World)(h:iP w g s k 0)(hx:w.cell? (bx,0)=some (.pointer (some (g,0))))(c:k<=s.size)(l:s.size<=9223372036854775807)(j:s.size<k+n)(m:n<=4):
 Calls prog 213 #[n,(bx,0)] w fun e w'=>e= .returned (0:Int)/\iP w' g s k 2/\ae [g] w w':=by
 have b:=za (gq g s k n w h c l j (by omega));clear h;go_enter func213,ntmps213
 go_wp2_with fail
 refine b.out.mono ?_;rintro e w' ⟨rfl,d,i⟩;go_wp2_with fail
 refine(nE _ _ rfl).mono ?_;rintro e o ⟨rfl,rfl⟩;go_wp2;go_ret;exact⟨rfl,d,i⟩
theorem aaY (b:Nat)(c:b<256):bits .and .u8 (b:Int) 3=((b%4:Nat):Int):=by
 have:=u8_and_nat b 3 c (by omega);rw[nat_mask2]at this;exact this
theorem GZ (g bx:Nat)(s:ByteArray)(k n N:Nat)(w:World)(h:iP w g s k 0)(hx:w.cell? (bx,0)=some (.pointer (some (g,0))))(j:s.size<=9223372036854775807)(i:k+n<=s.size)(d:1<=n)(c:n<=4)(b:dg (s.extract k (k+n)).data.toList=N):
 Calls prog 213 #[n,(bx,0)] w fun e w'=>e= .returned N/\iP w' g s (k+n) 0/\ae [g] w w':=by
 subst b;exact Ke g bx s k n w h hx j i d c
theorem Mu (s:ByteArray)(k b:Nat)(c:b<256)(h:k+bh b<=s.size):iG s k b<=4294967295:=by
 have e:=jG (s.extract (k+1) (k+bh b)).data.toList;have i:=Cp b c;have d:2^(8*(s.extract (k+1) (k+bh b)).data.toList.length)<=2^32:=yu (by omega) (by rw[aa,ar _ _ _ h];omega);unfold iG;omega
theorem OP (b n N c:Nat)(h:b<256)(i:b%4≠0)(e:cN b N=n)(d:kf b N=c):
 (bits .and .u8 (b:Int) 3=1/\Hid (bh b=2)/\Hid (4+(b:Int)/4%8=n)/\Hid ((b:Int)/4/8*256+N=c))\/
 (bits .and .u8 (b:Int) 3=2/\Hid (bh b=3)/\Hid ((b:Int)/4+1=n)/\Hid ((N:Int)=c))\/
 (bits .and .u8 (b:Int) 3=3/\Hid (bh b=5)/\Hid ((b:Int)/4+1=n)/\Hid ((N:Int)=c)):=by
 rw[aaY b h];rcases(show b%4=1\/b%4=2\/b%4=3 from by omega)with hm|hm|hm
 ·refine .inl ⟨by rw[hm];rfl,za (by simp[bh,hm]),za ?_,za ?_⟩
  ·simp[cN,hm]at e;omega
  simp[kf,hm]at d;omega
 ·refine .inr (.inl ⟨by rw[hm];rfl,za (by simp[bh,hm]),za ?_,za ?_⟩)
  ·simp[cN,hm]at e;omega
  simp[kf,hm]at d;omega
 refine .inr (.inr ⟨by rw[hm];rfl,za (by simp[bh,hm]),za ?_,za ?_⟩)
 ·simp[cN,hm]at e;omega
 simp[kf,hm]at d;omega
theorem Ai (o:List UInt8)(d q:Nat)(h:d+q<=o.length):(cb ((o.drop d).take q)).length=q*1:=by
 rw[aO,zQ,zN];omega
theorem Aj (c:w.ownsRow base e 1 (.slice (some (h,0)) o.length cap) o.length (cb o))(d q:Nat)(hd:d+q<=o.length):
 ∀j u,(cb ((o.drop d).take q))[j]?=some u->w.cell? (((h,d):Addr).add j)=some u:=by
 intro j u hu;have b:j<q:=by
  have:=(yR.1 hu).1;rw[Ai o d q hd]at this;omega
 have i:((h,d):Addr).add j=⟨h,d+j,none⟩:=by
  unfold Addr.add;split<;>simp_all
 rw[i,c.cellAt (d+j) (by omega),<-hu,FT,FT,yk b,y8]
theorem Ak {w3:World}{c b q size:Nat}{x:List UInt8}(i:wr.ownsRow base 5 1 (.slice (some (h,0)) o.length cap) o.length (cb o))
 (z:w3.ownsRow base 5 1 (.slice (some (c,0)) (o.length+q) d) (o.length+q) (cb o++cb ((o.drop (o.length-b)).take q)))
 (e:wr.grownBy w3 (Value.slice (some (h,0)) o.length cap).ownBlock) (l:iP wr g s k 0) (r:Below B w wr) (n:B<=wr.heap.size) (A:B<=base)
 (u:vj o b m=x) (y:b<=o.length) (C:q<=m) (p:q<=b) (E:o.length+m<=size):
 Value.slice (some (c,0)) (o.length+q) d= .slice (some (c,0)) (o++(o.drop (o.length-b)).take q).length d/\
 w3.ownsRow base 5 1 (.slice (some (c,0)) (o++(o.drop (o.length-b)).take q).length d) (o++(o.drop (o.length-b)).take q).length (cb (o++(o.drop (o.length-b)).take q))/\
 iP w3 g s k 0/\Below B w w3/\vj (o++(o.drop (o.length-b)).take q) b (m-q)=x/\b<=(o++(o.drop (o.length-b)).take q).length/\(o++(o.drop (o.length-b)).take q).length+(m-q)<=size:=by
 have j:(o++(o.drop (o.length-b)).take q).length=o.length+q:=by
  rw[zh,zQ,zN];omega
 have D:=mX i;refine⟨by rw[j],by rw[j,eL];exact z, ?_, ?_, ?_,by omega,by omega⟩
 ·exact l.only (ae.cn e) (by simp[Value.ownBlock];exact(cw i l (by decide)).symm)
 ·exact r.grown e n (by simp[Value.ownBlock];omega)
 rw[<-NJ o b q p y,<-LA,show q+(m-q)=m from by omega];exact u
theorem OQ (b n size len:Nat)(c:len<=size):
 (((b=0\/len<b)\/size-len<n)/\((b:Int)==0)=true)\/(((b=0\/len<b)\/size-len<n)/\((b:Int)==0)=false/\len<b)\/
 (((b=0\/len<b)\/size-len<n)/\((b:Int)==0)=false/\b<=len/\(size:Int)-len<n)\/((¬((b=0\/len<b)\/size-len<n))/\((b:Int)==0)=false/\b<=len/\(n:Int)<=size-len/\decide (len<b)=false/\decide ((size:Int)-len<n)=false):=by
 simp only[yN,zl,YC,yM];omega
def qZ (g:Nat)(s:ByteArray)(B base:Nat)(w:World)(x:Int×Nat×List UInt8)(e:Ending)(w':World):Prop:=
 ∃h' aj k',e= .returned (.slice (some ⟨h',0,none⟩) x.2.2.length aj)/\w'.ownsRow base 5 1 (.slice (some ⟨h',0,none⟩) x.2.2.length aj) x.2.2.length (cb x.2.2)/\
  iP w' g s k' x.1/\(x.1=0->k'=x.2.1)/\Below B w w'
theorem Ep (g:Nat)(s:ByteArray)(k b:Nat)(w:World)(h:iP w g s k 0)(hk:k<s.size)(hs:s.size<=9223372036854775807)(hb:s[k].toNat=b)(d:b<256)(Qi:b%4≠0)(j:k+bh b<=s.size)
 (B base cap F size:Nat) (out:List UInt8) (Z:w.ownsRow base 5 1 (.slice (some (F,0)) out.length cap) out.length (cb out)) (qj:B<=g) (mN:B<=base) (Dm:B<=w.heap.size) (aD:out.length<=size) (dZ:size<=4294967295):
 Calls prog 181 #[(g,0),.slice (some (F,0)) out.length cap,size] w (qZ g s B base w (b8 s size k b out)):=by
 have L:=cw Z h (by decide);have S:=(Ae g s k _ (h.alloc (.cells #[(g,0)] 191)) hk hs)
 rw[hb]at S;have No:=za S;have dX:=Z.alloc (.cells #[(g,0)] 191);have Ca:=af.new w 191 #[(g,0)];have an:=h.lt;have hB:=(zi B w).alloc Dm (.cells #[(g,0)] 191);obtain⟨N,G⟩:∃N,iG s k b=N:=⟨_,rfl⟩
 have ae:=Mu s k b d j;rw[G]at ae;obtain⟨n,O⟩:∃n,cN b N=n:=⟨_,rfl⟩
 obtain⟨c,gH⟩:∃n,kf b N=n:=⟨_,rfl⟩
 have Nn:Hid (b8 s size k b out=if((c=0\/out.length<c))\/size-out.length<n then(3,k,out)else(0,k+bh b,vj out c n)):=by
  refine za ?_;unfold b8;rw[G,O,gH,zf (by omega)];simp[Qi]
 obtain⟨i0,hi,dB,cg,cC⟩:=yv vA;have HN:=za G;have Hh:=za j;have Hn:=za O;have ag:=za gH;clear S h Z hb j G O gH;go_enter Z3,ZP
 go_wp2_with fail
 refine No.out.mono ?_;rintro e W ⟨rfl,hr,I⟩;have aK:Below B w W:=hB.trans (I.below (by simp;omega) (by simp;omega));have eh:=I.own dX (by simp[Value.ownBlock];exact L);have jc:=Ca.only I (by simp;omega);have IF:W.cell? (w.heap.size,0)=some (.pointer (some (g,0))):=zW jc;clear I Ca dX hB No;rcases OP b n N c d Qi Hn.out ag.out with⟨Bi,j,E1,E2⟩|⟨Bi,j,E1,E2⟩|⟨Bi,j,E1,E2⟩;all_goals
  first
   |have r:∃q:Nat,bh b=q+1/\(q:Int)=1:=⟨1,j.out,rfl⟩
   |have r:∃q:Nat,bh b=q+1/\(q:Int)=2:=⟨2,j.out,rfl⟩
   |have r:∃q:Nat,bh b=q+1/\(q:Int)=4:=⟨4,j.out,rfl⟩
  obtain⟨q,r,aa⟩:=r;have HQ:=za r;have l:=za (GZ g _ s (k+1) q N W hr IF hs (by have:=Hh.out;omega) (by omega) (by omega) (by rw[<-HN.out,iG,r,show k+(q+1)=k+1+q from by omega]));rw[aa]at l;clear r aa;go_wp2_with fail
  refine l.out.mono ?_;rintro e H ⟨rfl,Y,J⟩;have M:Below B w H:=aK.trans (J.below (by have:=aK.size;omega) (by simp;omega));have ve:=jc.only J (by simp;omega);have TF:H.cell? (w.heap.size,0)=some (.pointer (some (g,0))):=zW ve;have ie:=J.own eh (by simp[Value.ownBlock];exact L);go_wp2_with fail
  rw[E1.out,E2.out];refine(bu g s _ 0 H Y).mono ?_;rintro e w' ⟨rfl,rfl⟩;clear l J eh jc IF hr aK;rcases OQ c n size out.length aD with⟨u,U⟩|⟨u,U,e2⟩|⟨u,U,e2,e3⟩|⟨u,U,e2,e3,e4,e5⟩;rotate_right
  ·have K:=za u;clear u;have ai:1<=c:=by have:=K.out;omega
   go_wp2_with fail
   go_loopw [1,11] (fun v x wr=>∃(m:Nat) (o:List UInt8) (z y:Nat),v= .slice (some (z,0)) o.length y/\x= .int .i64 m/\wr.ownsRow base 5 1 (.slice (some (z,0)) o.length y) o.length (cb o)/\
    iP wr g s (k+1+q) 0/\Below B w wr/\Hid (vj o c m=vj out c n)/\c<=o.length/\o.length+m<=size) (fun _ x _=>(intOf x).toNat)
   case atStart=>exact⟨n,out,F,cap,rfl,rfl,ie,Y,M,za rfl,e2,by omega⟩
   case round=>
    obtain⟨m,o,z,y,rfl,rfl,i,D,d,p,ab,Lb⟩:=hrel;obtain⟨Bc,oe,al,ak⟩:=mX i;have Ld:¬y=o.length-c:=by omega
    by_cases Fl:0<m
    ·by_cases ah:m<=c
     ·have l:=za (Ai o (o.length-c) m (by omega));have C:=za (Aj i (o.length-c) m (by omega));go_wp2_with (at_builtin;refine y7 _ rfl (.tmp 100) (.tmp 101) 75 rfl base 5 i0 (.int .u8 0) 1 1 zm hi dB cg cC rfl (by decide) _ _ _ rfl i (z,o.length-c) m (y-(o.length-c)) (cb ((o.drop (o.length-c)).take m)) rfl l.out C.out (vY _) (by omega) (by simp only[maxLen];omega) (by omega) (by have:=d.size;omega) wr.heap.size rfl ?_;intro X vd w3 A E bZ ad)
      have R:=Ak i A E D d (by have:=d.size;omega) (by omega) p.out ab (show m<=m from by omega) (show m<=c from by omega) Lb;clear A E bZ i D d p C l;go_wp2;go_roundw
      case rel=>exact⟨m-m,_,X,vd,R.1,by go_num,R.2.1,R.2.2.1,R.2.2.2.1,za R.2.2.2.2.1,R.2.2.2.2.2.1,R.2.2.2.2.2.2⟩
      case measure=>simp[intOf];omega
     have l:=za (Ai o (o.length-c) c (by omega));have C:=za (Aj i (o.length-c) c (by omega));go_wp2_with (at_builtin;refine y7 _ rfl (.tmp 100) (.tmp 101) 75 rfl base 5 i0 (.int .u8 0) 1 1 zm hi dB cg cC rfl (by decide) _ _ _ rfl i (z,o.length-c) c (y-(o.length-c)) (cb ((o.drop (o.length-c)).take c)) rfl l.out C.out (vY _) (by omega) (by simp only[maxLen];omega) (by omega) (by have:=d.size;omega) wr.heap.size rfl ?_;intro X vd w3 A E bZ ad)
     have R:=Ak i A E D d (by have:=d.size;omega) (by omega) p.out ab (show c<=m from by omega) (show c<=c from by omega) Lb;clear A E bZ i D d p C l;go_wp2;go_roundw
     case rel=>exact⟨m-c,_,X,vd,R.1,by go_num,R.2.1,R.2.2.1,R.2.2.2.1,za R.2.2.2.2.1,R.2.2.2.2.2.1,R.2.2.2.2.2.2⟩
     case measure=>simp[intOf];omega
    go_wp2;go_ret;obtain rfl:m=0:=by omega
    have p:=p.out;simp only[vj]at p;rw[Nn.out,zf K.out,HQ.out,<-p];exact⟨z,y,_,rfl,i,D,fun _=>by simp;omega,d⟩
  all_goals
   have K:=za u;clear u;go_wp2_with fail
   refine(iQ g s _ 3 H Y).mono ?_;rintro e w3 ⟨rfl,va,fI⟩;have bL:Below B w w3:=M.trans (fI.below (by have:=M.size;omega) (by simp;omega));have fS:=fI.own ie (by simp[Value.ownBlock];exact L);go_wp2;go_ret;rw[Nn.out,zg K.out];exact⟨F,cap,_,rfl,fS,va,(fun h=>by cases h),bL⟩
theorem G0 (n size len:Nat)(b:len<=size):(size-len<n/\(size:Int)-len<n)\/(¬size-len<n/\(n:Int)<=size-len):=by omega
theorem Kf (b:Nat)(d:b<256)(h:1<bh b):
 (bits .and .u8 (b:Int) 3=0/\60<=b/4/\∃nb:Nat,1<=nb/\nb<=4/\Hid (bh b=nb+1)/\Hid ((b:Int)/4-59=nb))\/(bits .and .u8 (b:Int) 3=1/\Hid (bh b=1+1))\/(bits .and .u8 (b:Int) 3=2/\Hid (bh b=2+1))\/(bits .and .u8 (b:Int) 3=3/\Hid (bh b=4+1)):=by
 rw[aaY b d];rcases(show b%4=0\/b%4=1\/b%4=2\/b%4=3 from by omega)with hm|hm|hm|hm
 ·have c:60<=b/4:=by
   rcases xp (b/4) 60 with h1|h1
   ·simp[bh,hm,show¬60<=b/4 from by omega]at h
   exact h1
  exact .inl ⟨by rw[hm];rfl,c,b/4-59,by omega,by omega,za (by simp[bh,hm,c];omega),za (by omega)⟩
 ·exact .inr (.inl ⟨by rw[hm];rfl,za (by simp[bh,hm])⟩)
 ·exact .inr (.inr (.inl ⟨by rw[hm];rfl,za (by simp[bh,hm])⟩))
 exact .inr (.inr (.inr ⟨by rw[hm];rfl,za (by simp[bh,hm])⟩))
theorem G1 (g:Nat)(s:ByteArray)(k b:Nat)(w:World)(h:iP w g s k 0)(hk:k<s.size)(H:s.size<=9223372036854775807)(hb:s[k].toNat=b)(eD:b<256)(G:b%4=0)(uV:k+bh b<=s.size)
 (B base cap y size:Nat) (out:List UInt8) (bF:w.ownsRow base 5 1 (.slice (some (y,0)) out.length cap) out.length (cb out)) (qj:B<=g) (mN:B<=base) (Dm:B<=w.heap.size) (jY:base<=w.heap.size) (aD:out.length<=size) (dZ:size<=4294967295):
 Calls prog 181 #[(g,0),.slice (some (y,0)) out.length cap,size] w (qZ g s B base w (b8 s size k b out)):=by
 have x:=cw bF h (by decide);have ph:=(Ae g s k _ (h.alloc (.cells #[(g,0)] 191)) hk H)
 rw[hb]at ph;have No:=za ph;have dX:=bF.alloc (.cells #[(g,0)] 191);have Ca:=af.new w 191 #[(g,0)];have ah:=h.lt;have hB:=(zi B w).alloc Dm (.cells #[(g,0)] 191);obtain⟨N,O⟩:∃N,iG s k b=N:=⟨_,rfl⟩
 have ad:=Mu s k b eD uV;rw[O]at ad;obtain⟨n,hn⟩:∃n,cN b N=n:=⟨_,rfl⟩
 have I:Hid (b8 s size k b out=if size-out.length<n then(3,k,out)else if s.size<k+bh b+n then(2,k,out)else(0,k+bh b+n,out++(s.extract (k+bh b) (k+bh b+n)).data.toList)):=by
  refine za ?_;unfold b8;rw[O,hn,zf (by omega)];simp[G]
 obtain⟨i0,hi,Y,cg,Z⟩:=yv vA;have HN:=za O;have Hh:=za uV;have Hn:=za hn;have Bi:bits .and .u8 (b:Int) 3=0:=by rw[aaY b eD,G];rfl
 clear ph h bF hb uV O hn;go_enter Z3,ZP
 go_wp2_with fail
 refine No.out.mono ?_;rintro e w1 ⟨rfl,W,R⟩;have M:Below B w w1:=hB.trans (R.below (by simp;omega) (by simp;omega));have U:=R.own dX (by simp[Value.ownBlock];exact x);have L:=Ca.only R (by simp;omega);have IF:w1.cell? (w.heap.size,0)=some (.pointer (some (g,0))):=zW L;clear R Ca dX hB No;by_cases S:60<=b/4
 ·obtain⟨nb,ab⟩:∃nb:Nat,(b:Int)/4-59=nb:=⟨b/4-59,by omega⟩
  have m:Hid (k+1+nb=k+bh b):=za (by simp[bh,G,S];omega);have E1:Hid ((N:Int)+1=n):=za (by have:=Hn.out;simp[cN,G,S]at this;omega);have ag:=za ab;have Hl:=za (GZ g _ s (k+1) nb N w1 W IF H (by have:=Hh.out;have:=m.out;omega) (by omega) (by omega) (by rw[<-HN.out,iG,m.out]));have ai:k+1+nb<=s.size:=by have:=Hh.out;have:=m.out;omega
  clear ab;go_wp2_with fail
  rw[ag.out];refine Hl.out.mono ?_;rintro e w2 ⟨rfl,r,X⟩;have l:Below B w w2:=M.trans (X.below (by have:=M.size;omega) (by simp;omega));have ve:=L.only X (by simp;omega);have TF:w2.cell? (w.heap.size,0)=some (.pointer (some (g,0))):=zW ve;have A:=X.own U (by simp[Value.ownBlock];exact x);clear Hl X U L IF W M;go_wp2_with fail
  rw[E1.out];refine(bu g s _ 0 _ r).mono ?_;rintro e w' ⟨rfl,rfl⟩;rcases G0 n size out.length aD with⟨p,e1⟩|⟨p,e1⟩
  ·have u:=za p;clear p;go_wp2_with fail
   refine(iQ g s _ 3 _ r).mono ?_;rintro e w3 ⟨rfl,j,i⟩;have d:Below B w w3:=l.trans (i.below (by have:=l.size;omega) (by simp;omega));have c:=i.own A (by simp[Value.ownBlock];exact x);go_wp2;go_ret;rw[I.out,zg u.out];exact⟨y,cap,_,rfl,c,j,(fun h=>by cases h),d⟩
  have u:=za p;clear p;by_cases B6:s.size<k+1+nb+n
  ·have z:=za (gq g s (k+1+nb) n _ r (by omega) H B6 (by omega));go_wp2_with fail
   refine z.out.mono ?_;rintro e w3 ⟨rfl,j,i⟩;have d:Below B w w3:=l.trans (i.below (by have:=l.size;omega) (by simp;omega));have c:=i.own A (by simp[Value.ownBlock];exact x);have TG:=cw c j (by decide);go_wp2_with (at_builtin;refine xS _ rfl (.tmp 82) (.tmp 85) 75 9 rfl base 5 i0 zm zH hi Y cg Z (.slice (some (y,0)) out.length cap) out.length (cb out) rfl c ByteArray.empty rfl (by simp[maxLen];omega) (by simp;omega) (by have:=d.size;omega) ?_;intro v' w4 o q F)
   obtain⟨C,E,rfl⟩:=mY o (by rw[YC,F];simp);go_wp2;go_ret;rw[I.out,zf u.out,zg (by have:=m.out;omega)];refine⟨C,E,_,by simp,by simpa[Lib.strCells]using o,j.only (ae.cn q) (by simp[Value.ownBlock];omega),(fun h=>by cases h),d.grown q (by have:=d.size;omega) (by simp[Value.ownBlock];have:=mX c;omega)⟩
  have z:=za (eI g s (k+1+nb) n _ r H (by omega));have K:=za (ar s (k+1+nb) (k+1+nb+n) (by omega));have aa:Hid (s.extract (k+1+nb) (k+1+nb+n)=s.extract (k+bh b) (k+bh b+n)):=za (by rw[<-m.out]);go_wp2_with fail
  refine z.out.mono ?_;rintro e w3 ⟨rfl,j,i⟩;have d:Below B w w3:=l.trans (i.below (by have:=l.size;omega) (by simp;omega));have c:=i.own A (by simp[Value.ownBlock];exact x);have TG:=cw c j (by decide);generalize s.extract (k+1+nb) (k+1+nb+n)=D at*;go_wp2_with (at_builtin;refine xS _ rfl (.tmp 82) (.tmp 85) 75 9 rfl base 5 i0 zm zH hi Y cg Z (.slice (some (y,0)) out.length cap) out.length (cb out) rfl c D rfl (by rw[K.out];simp only[maxLen];omega) (by rw[K.out];omega) (by have:=d.size;omega) ?_;intro v' w4 o q F)
  obtain⟨C,E,rfl⟩:=mY o (by rw[YC,F];simp);have J:(out++D.data.toList).length=out.length+D.size:=by simp
  go_wp2;go_ret;rw[I.out,zf u.out,zf (by have:=m.out;omega),<-aa.out];refine⟨C,E,_,by rw[J];rfl, ?_,j.only (ae.cn q) (by simp[Value.ownBlock];omega),(fun _=>by have:=m.out;simp;omega),d.grown q (by have:=d.size;omega) (by simp[Value.ownBlock];have:=mX c;omega)⟩;rw[J,eL];exact o
 have m:Hid (k+1=k+bh b):=za (by simp[bh,G,S]);have E1:Hid ((b:Int)/4+1=n):=za (by have:=Hn.out;simp[cN,G,S]at this;omega);have r:=W;have l:=M;have A:=U;have ve:=L;clear W M U L;go_wp2_with fail
 rw[E1.out];refine(bu g s _ 0 _ r).mono ?_;rintro e w' ⟨rfl,rfl⟩;rcases G0 n size out.length aD with⟨p,e1⟩|⟨p,e1⟩
 ·have u:=za p;clear p;go_wp2_with fail
  refine(iQ g s _ 3 _ r).mono ?_;rintro e w3 ⟨rfl,j,i⟩;have d:Below B w w3:=l.trans (i.below (by have:=l.size;omega) (by simp;omega));have c:=i.own A (by simp[Value.ownBlock];exact x);go_wp2;go_ret;rw[I.out,zg u.out];exact⟨y,cap,_,rfl,c,j,(fun h=>by cases h),d⟩
 have u:=za p;clear p;by_cases B6:s.size<k+1+n
 ·have z:=za (gq g s (k+1) n _ r (by omega) H B6 (by omega));go_wp2_with fail
  refine z.out.mono ?_;rintro e w3 ⟨rfl,j,i⟩;have d:Below B w w3:=l.trans (i.below (by have:=l.size;omega) (by simp;omega));have c:=i.own A (by simp[Value.ownBlock];exact x);have TG:=cw c j (by decide);go_wp2_with (at_builtin;refine xS _ rfl (.tmp 82) (.tmp 85) 75 9 rfl base 5 i0 zm zH hi Y cg Z (.slice (some (y,0)) out.length cap) out.length (cb out) rfl c ByteArray.empty rfl (by simp[maxLen];omega) (by simp;omega) (by have:=d.size;omega) ?_;intro v' w4 o q F)
  obtain⟨C,E,rfl⟩:=mY o (by rw[YC,F];simp);go_wp2;go_ret;rw[I.out,zf u.out,zg (by have:=m.out;omega)];refine⟨C,E,_,by simp,by simpa[Lib.strCells]using o,j.only (ae.cn q) (by simp[Value.ownBlock];omega),(fun h=>by cases h),d.grown q (by have:=d.size;omega) (by simp[Value.ownBlock];have:=mX c;omega)⟩
 have z:=za (eI g s (k+1) n _ r H (by omega));have K:=za (ar s (k+1) (k+1+n) (by omega));have aa:Hid (s.extract (k+1) (k+1+n)=s.extract (k+bh b) (k+bh b+n)):=za (by rw[<-m.out]);go_wp2_with fail
 refine z.out.mono ?_;rintro e w3 ⟨rfl,j,i⟩;have d:Below B w w3:=l.trans (i.below (by have:=l.size;omega) (by simp;omega));have c:=i.own A (by simp[Value.ownBlock];exact x);have TG:=cw c j (by decide);generalize s.extract (k+1) (k+1+n)=D at*;go_wp2_with (at_builtin;refine xS _ rfl (.tmp 82) (.tmp 85) 75 9 rfl base 5 i0 zm zH hi Y cg Z (.slice (some (y,0)) out.length cap) out.length (cb out) rfl c D rfl (by rw[K.out];simp only[maxLen];omega) (by rw[K.out];omega) (by have:=d.size;omega) ?_;intro v' w4 o q F)
 obtain⟨C,E,rfl⟩:=mY o (by rw[YC,F];simp);have J:(out++D.data.toList).length=out.length+D.size:=by simp
 go_wp2;go_ret;rw[I.out,zf u.out,zf (by have:=m.out;omega),<-aa.out];refine⟨C,E,_,by rw[J];rfl, ?_,j.only (ae.cn q) (by simp[Value.ownBlock];omega),(fun _=>by have:=m.out;simp;omega),d.grown q (by have:=d.size;omega) (by simp[Value.ownBlock];have:=mX c;omega)⟩;rw[J,eL];exact o
theorem BR (g:Nat)(s:ByteArray)(k b:Nat)(w:World)(h:iP w g s k 0)(U:k<s.size)(M:s.size<=9223372036854775807)(K:s[k].toNat=b)(S:b<256)(L:s.size<k+bh b)
 (B base cap J size:Nat) (out:List UInt8) (I:w.ownsRow base 5 1 (.slice (some (J,0)) out.length cap) out.length (cb out)) (qj:B<=g) (Z:B<=base) (X:B<=w.heap.size):
 Calls prog 181 #[(g,0),.slice (some (J,0)) out.length cap,size] w (qZ g s B base w (b8 s size k b out)):=by
 have x:=cw I h (by decide);have H:=(Ae g s k _ (h.alloc (.cells #[(g,0)] 191)) U M)
 rw[K]at H;have y:=za H;have u:=I.alloc (.cells #[(g,0)] 191);have z:=af.new w 191 #[(g,0)];have aa:=h.lt;have A:=(zi B w).alloc X (.cells #[(g,0)] 191);have N:Hid (b8 s size k b out=(2,k,out)):=by
  refine za ?_;unfold b8;rw[zg L]
 rcases Kf b S (by omega:1<bh b)with⟨R,hv,nb,Y,ab,E,W⟩|⟨R,E⟩|⟨R,E⟩|⟨R,E⟩
 ·have G:s.size<k+1+nb:=by have:=E.out;omega
  clear H h I K L;go_enter Z3,ZP
  go_wp2_with fail
  refine y.out.mono ?_;rintro e l ⟨rfl,q,c⟩;have j:Below B w l:=A.trans (c.below (by simp;omega) (by simp;omega));have p:=c.own u (by simp[Value.ownBlock];exact x);have i:=z.only c (by simp;omega);have n:l.cell? (w.heap.size,0)=some (.pointer (some (g,0))):=zW i;have m:=za (jt g _ s (k+1) nb l q n (by omega) M G (by omega));clear c z u A y;go_wp2_with fail
  rw[W.out];refine m.out.mono ?_;rintro e r ⟨rfl,o,d⟩;have C:Below B w r:=j.trans (d.below (by have:=j.size;omega) (by simp;omega));have F:=i.only d (by simp;omega);have O:r.cell? (w.heap.size,0)=some (.pointer (some (g,0))):=zW F;have D:=d.own p (by simp[Value.ownBlock];exact x);clear m d p i n q j;go_wp2_with fail
  refine(bu g s _ 2 _ o).mono ?_;rintro e w' ⟨rfl,rfl⟩;go_wp2;go_ret;rw[N.out];exact⟨J,cap,_,rfl,D,o,(fun h=>by cases h),C⟩
 ·have G:s.size<k+1+1:=by have:=E.out;omega
  clear H h I K L;go_enter Z3,ZP
  go_wp2_with fail
  refine y.out.mono ?_;rintro e l ⟨rfl,q,c⟩;have j:Below B w l:=A.trans (c.below (by simp;omega) (by simp;omega));have p:=c.own u (by simp[Value.ownBlock];exact x);have i:=z.only c (by simp;omega);have n:l.cell? (w.heap.size,0)=some (.pointer (some (g,0))):=zW i;have m:=za (jt g _ s (k+1) 1 l q n (by omega) M G (by omega));clear c z u A y;go_wp2_with fail
  skip
  refine m.out.mono ?_;rintro e r ⟨rfl,o,d⟩;have C:Below B w r:=j.trans (d.below (by have:=j.size;omega) (by simp;omega));have F:=i.only d (by simp;omega);have O:r.cell? (w.heap.size,0)=some (.pointer (some (g,0))):=zW F;have D:=d.own p (by simp[Value.ownBlock];exact x);clear m d p i n q j;go_wp2_with fail
  refine(bu g s _ 2 _ o).mono ?_;rintro e w' ⟨rfl,rfl⟩;go_wp2;go_ret;rw[N.out];exact⟨J,cap,_,rfl,D,o,(fun h=>by cases h),C⟩
 ·have G:s.size<k+1+2:=by have:=E.out;omega
  clear H h I K L;go_enter Z3,ZP
  go_wp2_with fail
  refine y.out.mono ?_;rintro e l ⟨rfl,q,c⟩;have j:Below B w l:=A.trans (c.below (by simp;omega) (by simp;omega));have p:=c.own u (by simp[Value.ownBlock];exact x);have i:=z.only c (by simp;omega);have n:l.cell? (w.heap.size,0)=some (.pointer (some (g,0))):=zW i;have m:=za (jt g _ s (k+1) 2 l q n (by omega) M G (by omega));clear c z u A y;go_wp2_with fail
  skip
  refine m.out.mono ?_;rintro e r ⟨rfl,o,d⟩;have C:Below B w r:=j.trans (d.below (by have:=j.size;omega) (by simp;omega));have F:=i.only d (by simp;omega);have O:r.cell? (w.heap.size,0)=some (.pointer (some (g,0))):=zW F;have D:=d.own p (by simp[Value.ownBlock];exact x);clear m d p i n q j;go_wp2_with fail
  refine(bu g s _ 2 _ o).mono ?_;rintro e w' ⟨rfl,rfl⟩;go_wp2;go_ret;rw[N.out];exact⟨J,cap,_,rfl,D,o,(fun h=>by cases h),C⟩
 have G:s.size<k+1+4:=by have:=E.out;omega
 clear H h I K L;go_enter Z3,ZP
 go_wp2_with fail
 refine y.out.mono ?_;rintro e l ⟨rfl,q,c⟩;have j:Below B w l:=A.trans (c.below (by simp;omega) (by simp;omega));have p:=c.own u (by simp[Value.ownBlock];exact x);have i:=z.only c (by simp;omega);have n:l.cell? (w.heap.size,0)=some (.pointer (some (g,0))):=zW i;have m:=za (jt g _ s (k+1) 4 l q n (by omega) M G (by omega));clear c z u A y;go_wp2_with fail
 skip
 refine m.out.mono ?_;rintro e r ⟨rfl,o,d⟩;have C:Below B w r:=j.trans (d.below (by have:=j.size;omega) (by simp;omega));have F:=i.only d (by simp;omega);have O:r.cell? (w.heap.size,0)=some (.pointer (some (g,0))):=zW F;have D:=d.own p (by simp[Value.ownBlock];exact x);clear m d p i n q j;go_wp2_with fail
 refine(bu g s _ 2 _ o).mono ?_;rintro e w' ⟨rfl,rfl⟩;go_wp2;go_ret;rw[N.out];exact⟨J,cap,_,rfl,D,o,(fun h=>by cases h),C⟩
theorem Dc (g:Nat)(s:ByteArray)(k:Nat)(w:World)(h:iP w g s k 0)(c:k<s.size)(e:s.size<=9223372036854775807)
 (B base cap b size:Nat) (out:List UInt8) (i:w.ownsRow base 5 1 (.slice (some (b,0)) out.length cap) out.length (cb out)) (j:B<=g) (d:B<=base) (l:B<=w.heap.size) (p:base<=w.heap.size) (n:out.length<=size) (o:size<=4294967295):
 Calls prog 181 #[(g,0),.slice (some (b,0)) out.length cap,size] w (qZ g s B base w (b8 s size k s[k].toNat out)):=by
 by_cases q:s.size<k+bh s[k].toNat
 ·exact BR g s k _ w h c e rfl s[k].toNat_lt q B base cap b size out i j d l
 by_cases m:s[k].toNat%4=0
 ·exact G1 g s k _ w h c e rfl s[k].toNat_lt m (by omega) B base cap b size out i j d l p n o
 exact Ep g s k _ w h c e rfl s[k].toNat_lt m (by omega) B base cap b size out i j d l n o
theorem tri {x y:Nat×Nat×Int}{a b c:Int}(h:x=y)(d:a=y.1)(i:b=y.2.1)(e:c=y.2.2):Ending.returned (.tuple #[a,b,c])= .returned (.tuple #[x.1,x.2.1,x.2.2]):=by
 subst h;rw[d,i,e]
theorem two {x:Int×List UInt8}{e:Int}(h:x=(e,l)):Ending.returned (.tuple #[.string ⟨l.toArray⟩,e])= .returned (.tuple #[.string ⟨x.2.toArray⟩,x.1]):=by
 subst h;rfl
theorem Er (s:ByteArray)(w:World)(p:s.size<=9223372036854775807):
 Calls prog 180 #[s] w fun e w'=>e= .returned (.tuple #[.int .i64 (aB s).1,.int .i64 (aB s).2.1,.int .i64 (aB s).2.2])/\w=w':=by
 have i:=fun w=>sM s w p
 have hz:aB s=if(ay s).2.2=0 then(if 4294967295<(ay s).1 then(0,0,5)else ay s)else(0,0,(ay s).2.2):=rfl
 generalize ay s=x at*;obtain⟨n,hd,o⟩:=x;generalize aB s=y at*;simp only at i hz;have h:=za i;have b:=za hz;clear i hz;rcases eR o with⟨c,k,l⟩|⟨c,k,l⟩
 ·subst c;clear k l;by_cases j:4294967295<n
  ·have d:Hid (y=(0,0,5)):=za (by rw[b.out,zg rfl,zg j]);clear b;go_enter func180,ntmps180
   go_wp2_with fail
   refine(h.out _).mono ?_;rintro e w' ⟨rfl,rfl⟩;go_wp2;go_ret3
   exact⟨tri d.out rfl rfl rfl,rfl⟩
  have d:Hid (y=(n,hd,0)):=za (by rw[b.out,zg rfl,zf j]);clear b;go_enter func180,ntmps180
  go_wp2_with fail
  refine(h.out _).mono ?_;rintro e w' ⟨rfl,rfl⟩;go_wp2;go_ret3
  exact⟨tri d.out rfl rfl rfl,rfl⟩
 have m:=za c;clear c;go_enter func180,ntmps180
 go_wp2_with fail
 refine(h.out _).mono ?_;rintro e w' ⟨rfl,rfl⟩;go_wp2;go_ret3
 exact⟨tri (b.out.trans (by rw[zf m.out])) rfl rfl rfl,rfl⟩
theorem ra (s:ByteArray)(h:(aB s).2.2=0):(aB s).1<=4294967295/\0<(aB s).2.1/\(aB s).2.1<=10/\(aB s).2.1<=s.size:=by
 have hz:aB s=if(ay s).2.2=0 then(if 4294967295<(ay s).1 then(0,0,5)else ay s)else(0,0,(ay s).2.2):=rfl
 by_cases b:(ay s).2.2=0
 ·have d:=ig s b;by_cases c:4294967295<(ay s).1
  ·rw[hz,zg b,zg c]at h;simp at h
  rw[hz,zg b,zf c];omega
 rw[hz,zf b]at h;exact absurd h b
def Kg (g B size:Nat)(body:ByteArray)(X:Int×List UInt8)(w:World)(gk:Nat)(v:Value)(wr:World):Prop:=
 ∃(k:Nat) (out:List UInt8) (h' aj:Nat) (f:Int),v= .slice (some (h',0)) out.length aj/\wr.ownsRow B 5 1 (.slice (some (h',0)) out.length aj) out.length (cb out)/\iP wr g body k f/\Below B w wr/\
  ((f=0/\k<=body.size/\out.length<=size/\Hid (gX body size gk k out=X)/\body.size-k<gk)\/(Hid (f≠0)/\(f==0)=false/\(f !=0)=true/\Hid (X=(f,[]))))
theorem G2 {size:Nat}{body:ByteArray}{X:Int×List UInt8}{j m:World}{gk:Nat}{out:List UInt8}{e:Ending}(z:Below B w j)(d:k<body.size)(x:out.length<=size)(hx:gX body size gk k out=X)(C:body.size-k<gk)
 (A:qZ g body B B j (b8 body size k body[k].toNat out) e m):∃v,e= .returned v/\(∃h n c,v= .slice (some ⟨h,0,none⟩) n c)/\Kg g B size body X w (gk-1) v m:=by
 obtain⟨h,r,u,rfl,q,s,p,o⟩:=A;obtain⟨f,rfl⟩:∃f,gk=f+1:=⟨gk-1,by omega⟩
 refine⟨_,rfl,⟨_,_,_,rfl⟩,u,_,h,r,_,rfl,q,s,z.trans o, ?_⟩;rcases eR (b8 body size k body[k].toNat out).1 with⟨b,i,l⟩|⟨b,i,l⟩
 ·have y:=QH body[k].toNat_lt d x b;have:=p b;subst this;exact .inl ⟨b,by omega,y.2.2,za (NK d hx b),by simp;omega⟩
 exact .inr ⟨za b,i,l,za (QI d hx b)⟩
theorem rf {b c:World}{z:Nat}{xs:List Value}{o:Obj}(h:b.ownsRow B e z v n xs)(d:c=b.alloc o):c.ownsRow B e z v n xs:=d▸h.alloc o
theorem Kh (s:ByteArray)(most:Int)(w:World)(hs:s.size<=9223372036854775807):
 Calls prog 146 #[s,most,.pointer none] w fun e w'=>e= .returned (.tuple #[.string ⟨(bc s most).2.toArray⟩,.int .i64 (bc s most).1])/\(w,w'):=by
 have A:=fun w=>Er s w hs
 have p:=ra s;have hz:bc s most=if(aB s).2.2≠0 then((aB s).2.2,[])else if most<(aB s).1 then(5,[])else iZ (s.extract (aB s).2.1 s.size) (aB s).1:=rfl
 generalize aB s=x at*;obtain⟨n,hd,er⟩:=x;generalize bc s most=y at*;simp only at A hz p;have u:=za A;have l:=za hz;clear A hz;obtain⟨i0,hi,Y,cg,Z⟩:=yv vA;rcases eR er with⟨q,L,h2⟩|⟨q,L,h2⟩
 ·subst q;obtain⟨hn,an,ag,al⟩:=p rfl;clear L h2 p;by_cases J:most<n
  ·have E:Hid (y=(5,[])):=za (by rw[l.out,zf (by simp),zg J]);clear l;go_enter Z4,ZQ
   go_wp2_with fail
   refine(u.out _).mono ?_;rintro e w' ⟨rfl,rfl⟩;go_wp2;go_ret2
   exact⟨by rw[E.out];rfl,zi _ _⟩
  have E:Hid (y=iZ (s.extract hd s.size) n):=za (by rw[l.out,zf (by simp),zf J]);clear l;have ai:decide (most<(n:Int))=false:=by simp;omega
  by_cases h4:n<=4096;all_goals
   go_enter Z4,ZQ
   go_wp2_with fail
   refine(u.out _).mono ?_;rintro e w' ⟨rfl,rfl⟩;go_wp2_with (at_make;(first|refine ZV _ rfl _ _ 75 rfl w.heap.size 5 i0 (.int .u8 0) 1 zm hi Y cg .i64 .i64 _ n rfl rfl (by omega) (by rw[Z];omega) (by simp only[maxLen];omega) (by omega) ?_|refine ZV _ rfl _ _ 75 rfl w.heap.size 5 i0 (.int .u8 0) 1 zm hi Y cg .i64 .i64 _ 4096 rfl rfl (by omega) (by rw[Z];omega) (by simp only[maxLen];omega) (by omega) ?_);intro o I O)
   have F:=(zi w.heap.size w).grown O (by omega) (by simp);have jg:=F.size;clear O;go_wp2_with fail
   refine(sO _ o).mono ?_;rintro e H ⟨rfl,m⟩;have N:iP H o.heap.size (s.extract hd s.size) 0 0:=by rw[m];exact af.new o _ _
   have eh:=rf I m;have aI:Below w.heap.size w H:=by rw[m];exact F.alloc (by omega) _
   have I6:o.heap.size<H.heap.size:=by rw[m];simp
   clear m I F;obtain⟨g,hg⟩:∃g,g=o.heap.size:=⟨_,rfl⟩
   rw[<-hg]at N I6 jg⊢;clear hg;have G:(s.extract hd s.size).size<=9223372036854775807:=by rw[ar _ _ _ (ze _)];omega
   generalize s.extract hd s.size=body at*;have aa:w.heap.size<=g:=by omega
   go_wp2_with fail
   go_loopg [11] (body.size+1) (fun gk v wr=>Kg g w.heap.size n body y w gk v wr)
   case atStart=>exact⟨0,[],_,_,0,rfl,eh,N,aI,.inl ⟨rfl,by omega,by simp,za E.out.symm,by omega⟩⟩
   case round=>
    obtain⟨k,out,h',aj,f,rfl,X,b,d,⟨rfl,U,W,M,ae⟩|⟨hf,ab,ak,S⟩⟩:=hrel
    ·by_cases C:k<body.size
     ·go_wp2_with fail
      refine(bu g body k 0 wr b).mono ?_;rintro e w' ⟨rfl,rfl⟩;go_wp2_with fail
      refine(wY g body k 0 wr b U G).mono ?_;rintro e w3 ⟨rfl,c,rfl⟩;have K:=za (Dc g body k (wr.drewN c) (b.drewN c) C G w.heap.size w.heap.size aj h' n out (X.bI c) aa (ze _) (by have:=d.size;simp<;>omega) (by have:=d.size;simp<;>omega) W hn);go_wp2_with fail
      refine K.out.mono ?_;intro e h R;obtain⟨v4,rfl,⟨h4,n4,c4,rfl⟩,ad⟩:=G2 (d.bI c) C W M.out ae R;clear R K;go_wp2;go_roundg (gk-1)
      case measure=>omega
      case rel=>exact ad
     have r:=za (FH C (f:=gk-1) (x:=y) (by rw[show gk-1+1=gk from by omega];exact M.out));go_wp2_with fail
     refine(bu g body k 0 wr b).mono ?_;rintro e w' ⟨rfl,rfl⟩;go_wp2_with fail
     refine(wY g body k 0 wr b U G).mono ?_;rintro e w3 ⟨rfl,c,rfl⟩;by_cases z:out.length<n
     ·have B:Hid (y=(2,[])):=za (by rw[r.out,zg z]);clear r;go_wp2_with fail
      refine(iQ g body k 2 _ (b.drewN c)).mono ?_;rintro e h ⟨rfl,j,D⟩;have i:Below w.heap.size w h:=(d.bI c).trans (D.below (by have:=d.size;simp<;>omega) (by simp;omega));go_wp2_with fail
      refine(bu g body _ 2 h j).mono ?_;rintro e w' ⟨rfl,rfl⟩;go_wp2_with fail
      refine(bu g body _ 2 h j).mono ?_;rintro e w' ⟨rfl,rfl⟩;go_wp2;go_ret2
      exact⟨two B.out,i⟩
     have B:Hid (y=(0,out)):=za (by rw[r.out,zf z]);clear r;have ah:=tA zm ym zH (X.bI c);go_wp2_with fail
     refine(bu g body _ 0 _ (b.drewN c)).mono ?_;rintro e w' ⟨rfl,rfl⟩;go_wp2;go_ret2
     have i:=d.bI c;exact⟨two B.out,i⟩
    go_wp2_with fail
    refine(bu g body k f wr b).mono ?_;rintro e w' ⟨rfl,rfl⟩;by_cases z:out.length<n
    ·go_wp2_with fail
     refine(wZ g body k f 2 wr b ab).mono ?_;rintro e h ⟨rfl,j,D⟩;have i:Below w.heap.size w h:=d.trans (D.below (by have:=d.size;omega) (by simp;omega));go_wp2_with fail
     refine(bu g body _ f h j).mono ?_;rintro e w' ⟨rfl,rfl⟩;go_wp2_with fail
     refine(bu g body _ f h j).mono ?_;rintro e w' ⟨rfl,rfl⟩;go_wp2;go_ret2
     exact⟨two S.out,i⟩
    go_wp2_with fail
    refine(bu g body _ f wr b).mono ?_;rintro e w' ⟨rfl,rfl⟩;go_wp2_with fail
    refine(bu g body _ f wr b).mono ?_;rintro e w' ⟨rfl,rfl⟩;go_wp2;go_ret2
    have i:=d;exact⟨two S.out,i⟩
 have H0:=za q;clear q p;go_enter Z4,ZQ
 go_wp2_with fail
 refine(u.out _).mono ?_;rintro e w' ⟨rfl,rfl⟩;go_wp2;go_ret2
 exact⟨by rw[l.out,zg H0.out];rfl,zi _ _⟩
abbrev uP (w:World)(g:Nat)(a u t p:Nat):Prop:=af w g 136 #[a,u,t,p]
theorem Ki (n:Int)(w:World):
 Calls prog 50 #[n] w fun e w'=>e= .returned (w.heap.size,0)/\w'=w.alloc (.cells #[(n.toNat:Nat),(0:Int),(0:Int),(0:Int)] 136):=by
 by_cases h:n<0
 ·have b:((n.toNat:Nat):Int)=0:=by omega
  rw[b];clear b;go_enter func50,ntmps50
  go_wp2;go_ret;exact⟨rfl,rfl⟩
 have b:((n.toNat:Nat):Int)=n:=by omega
 rw[b];clear b;go_enter func50,ntmps50
 go_wp2;go_ret;exact⟨rfl,rfl⟩
theorem VP (g a u t p:Nat)(w:World)(h:uP w g a u t p):
 Calls prog 53 #[(g,0)] w fun e w'=>e= .returned (.int .i64 t)/\w=w':=by
 have b:=h.cell 2;simp at b;clear h;go_enter func53,ntmps53
 go_wp2;go_ret;exact⟨rfl,rfl⟩
theorem G3 (a b:Nat)(c:a<=9223372036854775807)(d:b<=9223372036854775807):IntKind.i64.wrap ((a:Int)-b)=(a:Int)-b:=zY _ (by omega)
theorem Al (g c b a u t n:Nat)(w:World)(j:w.cell? (g,0)=some (.int .i64 a))(s:w.cell? (g,1)=some (.int .i64 u))(p:w.cell? (g,2)=some (.int .i64 t))(o:w.cell? (c,0)=some (.int .i64 n))(i:w.cell? (b,0)=some (.pointer (some (g,0))))
 (q:a<=9223372036854775807) (hu:u<=a) (d:(n:Int)<=a-u) (m:t+n<=9223372036854775807):
 Calls prog 68 #[(c,0),(b,0)] w fun e w'=>e= .returned (0:Int)/\∃k,w.drewN k=w':=by
 have hd:decide ((a:Int)-u<n)=false:=by simpa using d
 have l:=G3 a u (by omega) (by omega);have h:IntKind.i64.wrap (9223372036854775807-(t:Int))=9223372036854775807-(t:Int):=zY _ (by omega);have r:decide (9223372036854775807-(t:Int)<n)=false:=by simp;omega
 go_enter func68,ntmps68
 go_wp2;go_quiet (fail)
 go_wp2;go_ret;exact⟨rfl,_,rfl⟩
theorem Es (g c b u t n:Nat)(w:World)(o:w.cell? (g,1)=some (.int .i64 u))(l:w.cell? (g,2)=some (.int .i64 t))(f1:w.frozen? (g,1)=false)(f2:w.frozen? (g,2)=false)(k:w.cell? (c,0)=some (.int .i64 n))(i:w.cell? (b,0)=some (.pointer (some (g,0))))
 (n1:g≠c) (n2:g≠b) (hu:u+n<=9223372036854775807) (j:t+n<=9223372036854775807):
 Calls prog 69 #[(b,0),(c,0)] w fun e w'=>e= .returned (.tuple #[])/\∃m,((w.setCell (g,1) (u+n:Nat)).setCell (g,2) (t+n:Nat)).drewN m=w':=by
 have d:((u+n:Nat):Int)=(u:Int)+n:=by omega
 have h:((t+n:Nat):Int)=(t:Int)+n:=by omega
 rw[d,h];clear d h;go_enter func69,ntmps69
 go_wp2;go_region
 all_goals go_wp2
 go_region
 all_goals go_wp2
 go_end0
 exact⟨rfl,2,rfl⟩
theorem VQ (g i j a u t p n q y:Nat)(w:World)(c:Hid (u+n=q))(l:Hid (t+n=y))(h:uP w g a u t p)(s:w.cell? (i,0)=some (.int .i64 n))(x:w.cell? (j,0)=some (.pointer (some (g,0))))(n1:g≠i)(n2:g≠j)(E:a<=9223372036854775807)(L:q<=a)(K:y<=9223372036854775807):
 Calls prog 67 #[(g,0),n,.func (.func 68) #[] #[(i,0),(j,0)],.func (.func 69) #[] #[(j,0),(i,0)]] w
  fun e w'=>e= .returned (0:Int)/\uP w' g a q y (max p q)/\ae [g] w w':=by
 have D:=h.cell 0;have o:=h.cell 1;have r:=h.cell 2;have F:=h.frozen 1;have G:=h.frozen 2;simp at D o r;have H:=za h;clear h;rcases Nat.lt_trichotomy p q with hp|hp|hp
 ·rw[Nat.max_eq_right (by omega)];go_enter func67,ntmps67
  go_wp2_with fail
  refine(Al g i j a u t n w D o r s x E (by have:=c.out;omega) (by have:=c.out;omega) (by have:=l.out;omega)).mono ?_;rintro e J ⟨rfl,k,rfl⟩;go_wp2_with fail
  refine(Es g i j u t n (w.drewN k) o r F G s x n1 n2 (by have:=c.out;omega) (by have:=l.out;omega)).mono ?_;rintro e w3 ⟨rfl,m,d⟩;have b:uP w3 g a q y p:=by
   rw[<-d,c.out,l.out];have h:=H.out;unfold uP at h⊢
   (repeat(first|with_reducible assumption|with_reducible apply af.drewN|with_reducible apply af.drew|with_reducible apply af.alloc|((with_reducible apply af.beside); · (first|omega|(simp<;>omega)))|with_reducible apply af.store));all_goals(first|rfl|simp)
  have B:ae [g] w w3:=by rw[<-d];exact DP
  clear d;have A:=b.cell 1;have z:=b.cell 3;have I:=b.frozen 3;simp at A z;have C:=za b;clear b;go_wp2;go_region
  all_goals
   go_wp2;go_ret;refine⟨rfl, ?_,B.up⟩;have h:=C.out;unfold uP at h⊢
   (repeat(first|with_reducible assumption|with_reducible apply af.drewN|with_reducible apply af.drew|with_reducible apply af.alloc|((with_reducible apply af.beside); · (first|omega|(simp<;>omega)))|with_reducible apply af.store));all_goals(first|rfl|simp)
 ·obtain rfl:q=p:=hp.symm;rw[Nat.max_self];clear hp;go_enter func67,ntmps67
  go_wp2_with fail
  refine(Al g i j a u t n w D o r s x E (by have:=c.out;omega) (by have:=c.out;omega) (by have:=l.out;omega)).mono ?_;rintro e J ⟨rfl,k,rfl⟩;go_wp2_with fail
  refine(Es g i j u t n (w.drewN k) o r F G s x n1 n2 (by have:=c.out;omega) (by have:=l.out;omega)).mono ?_;rintro e w3 ⟨rfl,m,d⟩;have b:uP w3 g a q y q:=by
   rw[<-d,c.out,l.out];have h:=H.out;unfold uP at h⊢
   (repeat(first|with_reducible assumption|with_reducible apply af.drewN|with_reducible apply af.drew|with_reducible apply af.alloc|((with_reducible apply af.beside); · (first|omega|(simp<;>omega)))|with_reducible apply af.store));all_goals(first|rfl|simp)
  have B:ae [g] w w3:=by rw[<-d];exact DP
  clear d;have A:=b.cell 1;have z:=b.cell 3;have I:=b.frozen 3;simp at A z;have C:=za b;clear b;go_wp2;go_region
  all_goals
   go_wp2;go_ret;refine⟨rfl, ?_,B.up⟩;have h:=C.out;unfold uP at h⊢
   (repeat(first|with_reducible assumption|with_reducible apply af.drewN|with_reducible apply af.drew|with_reducible apply af.alloc|((with_reducible apply af.beside); · (first|omega|(simp<;>omega)))|with_reducible apply af.store));all_goals(first|rfl|simp)
 rw[Nat.max_eq_left (by omega)];go_enter func67,ntmps67
 go_wp2_with fail
 refine(Al g i j a u t n w D o r s x E (by have:=c.out;omega) (by have:=c.out;omega) (by have:=l.out;omega)).mono ?_;rintro e J ⟨rfl,k,rfl⟩;go_wp2_with fail
 refine(Es g i j u t n (w.drewN k) o r F G s x n1 n2 (by have:=c.out;omega) (by have:=l.out;omega)).mono ?_;rintro e w3 ⟨rfl,m,d⟩;have b:uP w3 g a q y p:=by
  rw[<-d,c.out,l.out];have h:=H.out;unfold uP at h⊢
  (repeat(first|with_reducible assumption|with_reducible apply af.drewN|with_reducible apply af.drew|with_reducible apply af.alloc|((with_reducible apply af.beside); · (first|omega|(simp<;>omega)))|with_reducible apply af.store));all_goals(first|rfl|simp)
 have B:ae [g] w w3:=by rw[<-d];exact DP
 clear d;have A:=b.cell 1;have z:=b.cell 3;have I:=b.frozen 3;simp at A z;have C:=za b;clear b;go_wp2;go_region
 all_goals
  go_wp2;go_ret;refine⟨rfl, ?_,B.up⟩;have h:=C.out;unfold uP at h⊢
  (repeat(first|with_reducible assumption|with_reducible apply af.drewN|with_reducible apply af.drew|with_reducible apply af.alloc|((with_reducible apply af.beside); · (first|omega|(simp<;>omega)))|with_reducible apply af.store));all_goals(first|rfl|simp)
theorem rh (g a u t p n:Nat)(w:World)(h:uP w g a u t p)(k:a<=9223372036854775807)(l:u+n<=a)(i:t+n<=9223372036854775807):
 Calls prog 51 #[(g,0),n] w fun e w'=>e= .returned (0:Int)/\uP w' g a (u+n) (t+n) (max p (u+n))/\ae [g] w w':=by
 have q:=h.lt;have d:=(h.alloc (.cells #[(g,0)] 108)).alloc (.cells #[n] 3);have c:((w.alloc (.cells #[(g,0)] 108)).alloc (.cells #[n] 3)).cell? (w.heap.size+1,0)=some (.int .i64 n):=by
  simp
 have b:((w.alloc (.cells #[(g,0)] 108)).alloc (.cells #[n] 3)).cell? (w.heap.size,0)=some (.pointer (some (g,0))):=by
  simp
 have j:=za (VQ g (w.heap.size+1) w.heap.size a u t p n _ _ _ (za rfl) (za rfl) d c b (by omega) (by omega) k l i);clear d c b h;go_enter func51,ntmps51
 go_wp2_with fail
 refine j.out.mono ?_;rintro e r ⟨rfl,o,m⟩;go_wp2;go_ret;exact⟨rfl,o,(((ae.refl [g] w).alloc _).alloc _).trans m⟩
theorem G4 (s:ByteArray)(most:Int)(h:Nat)(w:World)(m:s.size<=9223372036854775807)(hx:(aB s).2.2≠0):
 Calls prog 146 #[s,most,(h,0)] w fun e w'=>e= .returned (.tuple #[.string ⟨[].toArray⟩,.int .i64 (aB s).2.2])/\w=w':=by
 have c:=fun w=>Er s w m
 have d:=ra s;have hz:bc s most=if(aB s).2.2≠0 then((aB s).2.2,[])else if most<(aB s).1 then(5,[])else iZ (s.extract (aB s).2.1 s.size) (aB s).1:=rfl
 generalize aB s=x at*;obtain⟨n,hd,k⟩:=x;generalize bc s most=y at*;dsimp only at*;have l:=za c;clear c hz;rcases eR k with⟨b,i,j⟩|⟨b,i,j⟩
 ·exact absurd b hx
 clear b hx d;go_enter Z4,ZQ
 go_wp2_with fail
 refine(l.out _).mono ?_;rintro e w' ⟨rfl,rfl⟩;go_wp2;go_ret2
 exact⟨rfl,rfl⟩
theorem Et (s:ByteArray)(most:Int)(d:Nat)(w:World)(i:s.size<=9223372036854775807)(hx:(aB s).2.2=0)(l:most<(aB s).1):
 Calls prog 146 #[s,most,(d,0)] w fun e w'=>e= .returned (.tuple #[.string ⟨[].toArray⟩,(5:Int)])/\w=w':=by
 have b:=fun w=>Er s w i
 have c:=ra s;have hz:bc s most=if(aB s).2.2≠0 then((aB s).2.2,[])else if most<(aB s).1 then(5,[])else iZ (s.extract (aB s).2.1 s.size) (aB s).1:=rfl
 generalize aB s=x at*;obtain⟨n,hd,k⟩:=x;generalize bc s most=y at*;dsimp only at*;have h:=za b;have j:=za hz;clear b hz;subst hx;clear c j;go_enter Z4,ZQ
 go_wp2_with fail
 refine(h.out _).mono ?_;rintro e w' ⟨rfl,rfl⟩;go_wp2;go_ret2
 exact⟨rfl,rfl⟩
theorem Kj (s:ByteArray)(most:Int)(j a u t p:Nat)(q:World)(hs:s.size<=9223372036854775807)(hM:uP q j a u t p)(ha:a<=9223372036854775807)(hx:(aB s).2.2=0)(hm:((aB s).1:Int)<=most)(Z:u+(aB s).1<=a)(X:t+(aB s).1<=9223372036854775807):
 Calls prog 146 #[s,most,(j,0)] q fun e w'=>e= .returned (.tuple #[.string ⟨(bc s most).2.toArray⟩,.int .i64 (bc s most).1])/\uP w' j a (u+(aB s).1) (t+(aB s).1) (max p (u+(aB s).1))/\ae [j] q w':=by
 have O:=fun w=>Er s w hs
 have U:=ra s;have hz:bc s most=if(aB s).2.2≠0 then((aB s).2.2,[])else if most<(aB s).1 then(5,[])else iZ (s.extract (aB s).2.1 s.size) (aB s).1:=rfl
 generalize aB s=x at*;obtain⟨n,hd,er⟩:=x;generalize bc s most=y at*;dsimp only at*;have Hl:=za O;have L:=za hz;clear O hz;subst hx;obtain⟨hn,ao,ah,an⟩:=U rfl;have Hy:Hid (y=iZ (s.extract hd s.size) n):=za (by rw[L.out,zf (by simp),zf (by omega)]);clear U L;obtain⟨i0,hi,dB,cg,cC⟩:=yv vA;have ak:decide (most<(n:Int))=false:=by simp;omega
 have Ht:=za (rh j a u t p n q hM ha Z X);clear Z X;generalize u+n=u2 at*;generalize t+n=t2 at*;generalize max p u2=p2 at*;by_cases h4:n<=4096;all_goals
  go_enter Z4,ZQ
  go_wp2_with fail
  refine(Hl.out _).mono ?_;rintro e w' ⟨rfl,rfl⟩;go_wp2_with fail
  refine Ht.out.mono ?_;rintro e w ⟨rfl,r,A⟩;go_wp2_with (at_make;(first|refine ZV _ rfl _ _ 75 rfl w.heap.size 5 i0 (.int .u8 0) 1 zm hi dB cg .i64 .i64 _ n rfl rfl (by omega) (by rw[cC];omega) (by simp only[maxLen];omega) (by omega) ?_|refine ZV _ rfl _ _ 75 rfl w.heap.size 5 i0 (.int .u8 0) 1 zm hi dB cg .i64 .i64 _ 4096 rfl rfl (by omega) (by rw[cC];omega) (by simp only[maxLen];omega) (by omega) ?_);intro o I N)
  have F:=(zi w.heap.size w).grown N (by omega) (by simp);have jg:=F.size;clear N;go_wp2_with fail
  refine(sO _ o).mono ?_;rintro e H ⟨rfl,m⟩;have M:iP H o.heap.size (s.extract hd s.size) 0 0:=by rw[m];exact af.new o _ _
  have eh:=rf I m;have aI:Below w.heap.size w H:=by rw[m];exact F.alloc (by omega) _
  have I6:o.heap.size<H.heap.size:=by rw[m];simp
  clear m I F;obtain⟨g,hg⟩:∃g,g=o.heap.size:=⟨_,rfl⟩
  rw[<-hg]at M I6 jg⊢;clear hg;have G:(s.extract hd s.size).size<=9223372036854775807:=by rw[ar _ _ _ (ze _)];omega
  generalize s.extract hd s.size=body at*;have aa:w.heap.size<=g:=by omega
  go_wp2_with fail
  go_loopg [11] (body.size+1) (fun gk v wr=>Kg g w.heap.size n body y w gk v wr)
  case atStart=>exact⟨0,[],_,_,0,rfl,eh,M,aI,.inl ⟨rfl,by omega,by simp,za Hy.out.symm,by omega⟩⟩
  case round=>
   obtain⟨k,out,h',aj,f,rfl,Cc,c,h,⟨rfl,W,Y,K,ag⟩|⟨hf,ab,al,S⟩⟩:=hrel
   ·by_cases D:k<body.size
    ·go_wp2_with fail
     refine(bu g body k 0 wr c).mono ?_;rintro e w' ⟨rfl,rfl⟩;go_wp2_with fail
     refine(wY g body k 0 wr c W G).mono ?_;rintro e w3 ⟨rfl,d,rfl⟩;have J:=za (Dc g body k (wr.drewN d) (c.drewN d) D G w.heap.size w.heap.size aj h' n out (Cc.bI d) aa (ze _) (by have:=h.size;simp<;>omega) (by have:=h.size;simp<;>omega) Y hn);go_wp2_with fail
     refine J.out.mono ?_;intro e i R;obtain⟨v4,rfl,⟨h4,n4,c4,rfl⟩,ad⟩:=G2 (h.bI d) D Y K.out ag R;clear R J;go_wp2;go_roundg (gk-1)
     case measure=>omega
     case rel=>exact ad
    have z:=za (FH D (f:=gk-1) (x:=y) (by rw[show gk-1+1=gk from by omega];exact K.out));go_wp2_with fail
    refine(bu g body k 0 wr c).mono ?_;rintro e w' ⟨rfl,rfl⟩;go_wp2_with fail
    refine(wY g body k 0 wr c W G).mono ?_;rintro e w3 ⟨rfl,d,rfl⟩;by_cases B:out.length<n
    ·have C:Hid (y=(2,[])):=za (by rw[z.out,zg B]);clear z;go_wp2_with fail
     refine(iQ g body k 2 _ (c.drewN d)).mono ?_;rintro e i ⟨rfl,l,E⟩;have b:Below w.heap.size w i:=(h.bI d).trans (E.below (by have:=h.size;simp<;>omega) (by simp;omega));go_wp2_with fail
     refine(bu g body _ 2 i l).mono ?_;rintro e w' ⟨rfl,rfl⟩;go_wp2_with fail
     refine(bu g body _ 2 i l).mono ?_;rintro e w' ⟨rfl,rfl⟩;go_wp2;go_ret2
     exact⟨two C.out,r.only (ae.ai b (ze _)) (by simp),A.trans' (ae.ai b (ze _)) (by simp)⟩
    have C:Hid (y=(0,out)):=za (by rw[z.out,zf B]);clear z;have ai:=tA zm ym zH (Cc.bI d);go_wp2_with fail
    refine(bu g body _ 0 _ (c.drewN d)).mono ?_;rintro e w' ⟨rfl,rfl⟩;go_wp2;go_ret2
    have b:=h.bI d;exact⟨two C.out,r.only (ae.ai b (ze _)) (by simp),A.trans' (ae.ai b (ze _)) (by simp)⟩
   go_wp2_with fail
   refine(bu g body k f wr c).mono ?_;rintro e w' ⟨rfl,rfl⟩;by_cases B:out.length<n
   ·go_wp2_with fail
    refine(wZ g body k f 2 wr c ab).mono ?_;rintro e i ⟨rfl,l,E⟩;have b:Below w.heap.size w i:=h.trans (E.below (by have:=h.size;omega) (by simp;omega));go_wp2_with fail
    refine(bu g body _ f i l).mono ?_;rintro e w' ⟨rfl,rfl⟩;go_wp2_with fail
    refine(bu g body _ f i l).mono ?_;rintro e w' ⟨rfl,rfl⟩;go_wp2;go_ret2
    exact⟨two S.out,r.only (ae.ai b (ze _)) (by simp),A.trans' (ae.ai b (ze _)) (by simp)⟩
   go_wp2_with fail
   refine(bu g body _ f wr c).mono ?_;rintro e w' ⟨rfl,rfl⟩;go_wp2_with fail
   refine(bu g body _ f wr c).mono ?_;rintro e w' ⟨rfl,rfl⟩;go_wp2;go_ret2
   have b:=h;exact⟨two S.out,r.only (ae.ai b (ze _)) (by simp),A.trans' (ae.ai b (ze _)) (by simp)⟩
