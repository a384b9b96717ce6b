/- sha.Sum: the digest. -/
import Derived.Test.YtpjgigllldipiaaGreatDoorKShaM
set_option linter.all false
set_option maxRecDepth 100000
set_option maxHeartbeats 4000000
namespace Go.Proofs.YtpjgigllldipiaaGreatDoor
open Tryz
open Go.RowKit
theorem P6 {tmps:Array Value}{V:World}{g:Nat}(u:Sh)(c:tmps.getD 0 undef= .pointer (some ⟨g,0,none⟩))(b:af V g 250 (cF u)):
 (results f208 tmps).run prog V= .ok (j8 u) V:=by
 have k:V.cell? ⟨g,0,none⟩=some (.int .u32 u.a):=b.cell 0;have j:V.cell? ⟨g,1,none⟩=some (.int .u32 u.b):=b.cell 1;have e:V.cell? ⟨g,2,none⟩=some (.int .u32 u.c):=b.cell 2;have d:V.cell? ⟨g,3,none⟩=some (.int .u32 u.d):=b.cell 3;have h:V.cell? ⟨g,4,none⟩=some (.int .u32 u.e):=b.cell 4;have m:V.cell? ⟨g,5,none⟩=some (.int .u32 u.f):=b.cell 5;have i:V.cell? ⟨g,6,none⟩=some (.int .u32 u.g):=b.cell 6;have l:V.cell? ⟨g,7,none⟩=some (.int .u32 u.h):=b.cell 7;simp only[Array.getD_eq_getD_getElem?]at c;simp[results,results208,go_sem,c,k,j,e,d,h,m,i,l,j8]
theorem Tw (w:World):Calls prog 208 #[] w fun e w'=>e= .returned (j8 DB)/\Below w.heap.size w w':=by
 go_enter func208,ntmps208
 go_wp2;refine zo (v:=j8 DB) ?_ rfl ?_
 ·exact P6 DB (g:=w.heap.size) rfl (af.new w _ _)
 exact⟨rfl,bN⟩
theorem ae.kept {E:TypeId}{w W d:World}(h:ae [] w W)(b:Kept E w.heap.size W d):ae [] w d:=
 ⟨b.below.os.trans h.os,b.below.tape.trans h.tape,b.below.output.trans h.output,zK h.size b.below.size,fun k c e=>(b.below.block k c).trans (h.block k c e)⟩
theorem P7 {P:Program}{d i:TypeId}(k:P.underlying d=some (.slice i))(w:World)(E:TypeId)(b:Array Value)(m:List UInt8)(n c g:Nat)(h:m.length=n)(e:g=w.heap.size)(j:b.toList=cb m):Src P 1 d (.slice (some ⟨g,0,none⟩) n c) m.length (cb m) (w.alloc (.cells b E)):=by
 subst h;exact tw k w E b m c g e j
theorem IW (x:Nat)(hx:x<4294967296):(#[Value.int .u8 ((x:Int)/16777216),.int .u8 ((x:Int)/65536%256),.int .u8 ((x:Int)/256%256),.int .u8 ((x:Int)%256)]:Array Value).toList=cb (wB x):=by
 simp[cb,wB];omega
theorem rB.next {w b wr:World}{B i a nq:Nat}{v u:Sh}{s:ByteArray}{top:Nat}{x:Value}(e:a=64*i)(hx:x= .int .i64 ((a+64:Nat):Int))(k:a+64<=top)(hu:ff v s i=u)(h:ae [] w wr)(c:ae [] (wr.drewN nq) b)
 (j:af wr B 250 (cF u)) (d:w.heap.size<=B) (m:top<=s.size):rB w B v s top x (mZ b B (pj tZ u (s.extract a (a+64)))):=by
 have l:af b B 250 (cF u):=(j.drewN nq).only c (by simp);refine⟨i+1,a+64,by omega,hx,k, ?_,sO _ ((h.drewN nq).trans c) d⟩;rw[ff,hu,<-e];exact IV _ l
theorem abx (s:ByteArray)(w:World)(hs:s.size<=100000):
 Calls prog 190 #[.string s] w fun e w'=>e= .returned (.string (sV s))/\Below w.heap.size w w':=by
 obtain⟨W,hW⟩:∃W,64*(s.size/64)=W:=⟨_,rfl⟩
 have e1:(s.size:Int)-(s.size:Int)%64=(W:Int):=by omega
 have ao:W<=s.size:=by omega
 have R:=za hW;clear hW;go_enter func190,ntmps190
 go_wp2_with fail
 refine(Tw _).mono ?_;rintro e w1 ⟨rfl,aI⟩;unfold j8;go_wp2;obtain⟨M,S⟩:∃M,w1.alloc (.cells #[.int .u32 DB.a,.int .u32 DB.b,.int .u32 DB.c,.int .u32 DB.d,.int .u32 DB.e,.int .u32 DB.f,.int .u32 DB.g,.int .u32 DB.h] 250)=M:=⟨_,rfl⟩
 obtain⟨B,hB⟩:∃B,w1.heap.size=B:=⟨_,rfl⟩
 have U1:w.heap.size<=B:=by have:=aI.size;omega
 have NS:Hid (af M B 250 (cF (ff DB s 0))):=za (by rw[<-S,<-hB];exact af.new w1 _ _);have ak:Hid (ae [] w M):=za (by rw[<-S];exact(ae.ag aI (zf _)).alloc _);rw[S,hB];clear S hB aI;go_loopw [5] (fun v wr=>rB w B DB s W v wr) (fun v _=>W-(intOf v).toNat)
 case atStart=>exact⟨0,0,rfl,rfl,ym _,NS.out,ak.out⟩
 case round=>
  obtain⟨i,a,F,rfl,cZ,b,c⟩:=hrel.ex;have j:=D5 VI s i;obtain⟨u,hu⟩:∃u,ff DB s i=u:=⟨_,rfl⟩
  rw[hu]at b j;have HU:=za hu;have U:=za b;have N:=za c;have m:=b.lt;by_cases aC:a<W
  ·have Z:a+64<=W:=by omega
   have YV:a+64<=s.size:=by omega
   have g1:IntKind.i64.wrap ((a:Int)+64)=(a:Int)+64:=yh _ (by omega);have g2:((a:Int)+64).toNat=a+64:=by omega
   have g4:(a:Int)<=(a:Int)+64:=by omega
   have g5:(a:Int)+64<=(s.size:Int):=by omega
   have G:=za (fun w=>UH u j (s.extract a (a+64)) (by rw[an _ _ _ YV];omega) w);obtain⟨E,z,D,q,y,C,n,o⟩:=b.vG;have J:=za (fun(l:World) (nq:Nat) (d:ae [] (wr.drewN nq) l)=>rB.next (x:= .int .i64 ((a+64:Nat):Int)) F rfl Z hu c d b U1 ao);obtain⟨nu,K⟩:∃nu,pj tZ u (s.extract a (a+64))=nu:=⟨_,rfl⟩
   rw[K]at G J;unfold j8 at G;clear F hu b c K j;go_wp2;refine cy 6 (by kernel_rfl) (by kernel_rfl) ?_;simp only[zR,yB,yf,zQ];repeat(go_big_quiet_step (fail))
   refine xS ?_;intro nq;clear E z D q y C n o;go_wp2_with fail
   refine(G.out _).mono ?_;rintro e l ⟨rfl,d⟩;have H:=(U.out.drewN nq).only d (by simp);obtain⟨E,z,D,q,y,C,n,o⟩:=H.vG;obtain⟨f0,f1,f2,f3,f4,f5,f6,f7⟩:=H.UG;have HN:=za (J.out l nq d);clear H d;go_wp2;go_roundw
   case rel=>exact HN.out
   case measure=>simp[intOf];omega
  have az:Hid (i=s.size/64):=za (by have:=R.out;omega);have hp:=fun w=>aa6 s.size w hs
  have HP:=za hp;have aa:=ou s.size;have Gt:=rQ s.size;have Kz:(s.extract W s.size).size<=64:=by rw[an _ _ _ (zf _)];have:=R.out;omega
  have HL:Hid (sV s=⟨(D7 (ff (ff DB s i) (s.extract W s.size++il s.size) ((s.extract W s.size++il s.size).size/64))).toArray⟩):=za (by
   rw[sV,GO s (s.extract W s.size++il s.size) (by rw[R.out]),<-az.out])
  have Y:Hid ((s.extract W s.size++il s.size).size=s.size-W+(dH s.size+9)):=za (by rw[bW,an _ _ _ (zf _),aa]);have ah:Hid ((s.size-W+(dH s.size+9))%64=0):=za (by have:=pn s.size;have:=R.out;omega);rw[HU.out]at HL;have al:a=W:=by omega
  subst al;generalize il s.size=pd at*;have aA:pd.size<=72:=by omega
  clear F hu b c aa;go_wp2_with fail
  refine(HP.out _).mono ?_;rintro e l ⟨rfl,aM⟩;have ay:Hid (af l B 250 (cF u)):=za ((aM.block _ m).trans U.out);have aj:Hid (ae [] w l):=za (N.out.trans (ae.ag aM (zf _)));clear aM;go_wp2;obtain⟨r,hr⟩:∃r,s.extract a s.size++pd=r:=⟨_,rfl⟩
  rw[hr]at HL Y⊢;have aE:r.size<=200:=by have:=Y.out;omega
  obtain⟨O,rfl⟩:∃O,O=u:=⟨u,rfl⟩
  have au:r.size<=r.size:=zf _;obtain⟨i0,hi,eA,cg,cG⟩:=yT oK;clear hr;go_loopw [9] (fun v wr=>rB w B O r r.size v wr) (fun v _=>r.size-(intOf v).toNat)
  case atStart=>exact⟨0,0,rfl,rfl,ym _,ay.out,aj.out⟩
  case round=>
   obtain⟨i,a,F,rfl,cZ,b,c⟩:=hrel.ex;have j:=D5 j r i;obtain⟨u,hu⟩:∃u,ff O r i=u:=⟨_,rfl⟩
   rw[hu]at b j;have HU:=za hu;have U:=za b;have N:=za c;have m:=b.lt;by_cases aC:a+64<=r.size
   ·have Z:a+64<=r.size:=by omega
    have YV:a+64<=r.size:=by omega
    have g1:IntKind.i64.wrap ((a:Int)+64)=(a:Int)+64:=yh _ (by omega);have g2:((a:Int)+64).toNat=a+64:=by omega
    have g4:(a:Int)<=(a:Int)+64:=by omega
    have g5:(a:Int)+64<=(r.size:Int):=by omega
    have G:=za (fun w=>UH u j (r.extract a (a+64)) (by rw[an _ _ _ YV];omega) w);obtain⟨E,z,D,q,y,C,n,o⟩:=b.vG;have J:=za (fun(l:World) (nq:Nat) (d:ae [] (wr.drewN nq) l)=>rB.next (x:= .int .i64 ((a+64:Nat):Int)) F rfl Z hu c d b U1 au);obtain⟨nu,K⟩:∃nu,pj tZ u (r.extract a (a+64))=nu:=⟨_,rfl⟩
    rw[K]at G J;unfold j8 at G;clear F hu b c K j;go_wp2;refine cy 6 (by kernel_rfl) (by kernel_rfl) ?_;simp only[zR,yB,yf,zQ];repeat(go_big_quiet_step (fail))
    refine xS ?_;intro nq;clear E z D q y C n o;go_wp2_with fail
    refine(G.out _).mono ?_;rintro e l ⟨rfl,d⟩;have H:=(U.out.drewN nq).only d (by simp);obtain⟨E,z,D,q,y,C,n,o⟩:=H.vG;obtain⟨f0,f1,f2,f3,f4,f5,f6,f7⟩:=H.UG;have HN:=za (J.out l nq d);clear H d;go_wp2;go_roundw
    case rel=>exact HN.out
    case measure=>simp[intOf];omega
   have av:Hid (i=r.size/64):=za (by have:=Y.out;have:=ah.out;omega);have Nn:Hid (sV s=⟨(D7 u).toArray⟩):=za (by rw[HL.out,<-av.out,hu]);obtain⟨E,z,D,q,y,C,n,o⟩:=b.vG;have HT:=za (fun(k:Nat) (hk:k<8) (w':World)=>lG u w' k _ (MV u k hk));have aw:=za (Sh.abw j);have ax:=N.out.size;have d0:decide ((a:Int)+64<=(r.size:Int))=false:=zz (by omega);clear F hu b c j;go_wp2_with (at_make;refine lN _ (by rfl) _ _ 31 (by rfl) w.heap.size 5 i0 zx hi eA cg cG .i64 .i64 0 32 (by rfl) (by rfl) (by omega) (by omega) ax ?_;intro w3 bS Dd h;have q0:=(h.cell (p:=⟨B,0,none⟩) m).trans E;have q1:=(h.cell (p:=⟨B,1,none⟩) m).trans z;have q2:=(h.cell (p:=⟨B,2,none⟩) m).trans D;have q3:=(h.cell (p:=⟨B,3,none⟩) m).trans q;have q4:=(h.cell (p:=⟨B,4,none⟩) m).trans y;have q5:=(h.cell (p:=⟨B,5,none⟩) m).trans C;have q6:=(h.cell (p:=⟨B,6,none⟩) m).trans n;have q7:=(h.cell (p:=⟨B,7,none⟩) m).trans o)
   have ai:Hid (ae [] w w3):=za (N.out.trans (ae.ag h (zf _)));clear E z D q y C n o q0 q1 q2 q3 q4 q5 q6 q7 Dd h;go_loopw [10,59] (fun v x wr=>∃k:Nat,k<=8/\x= .int .i64 k/\bJ wr w.heap.size 5 v (GM k u)/\ae [] w wr) (fun _ x _=>8-(intOf x).toNat)
   case atStart=>exact⟨0,by omega,rfl,bS,ai.out⟩
   case round=>
    obtain⟨k,hk,rfl,I,c⟩:=hrel;obtain⟨A,L,cap,rfl,hL,aD,nR⟩:=I.dk;have HK:=za c;have fC:=c.size;have aB:=rR u k hk;clear c;by_cases ad:k<8
    ·have aq:=HT.out k ad;have hx:=aw.out k;have ag:=za (AZ u k ad);obtain⟨x,ab⟩:∃x,u.list.getD k 0=x:=⟨_,rfl⟩
     rw[ab]at aq hx ag;have NK:=za (IW x hx);have NL:(wB x).length=4:=rfl;generalize wB x=wb at*;generalize GM k u=LL at*;have Qj:LL.length<=32:=by omega
     clear ab;go_wp2_with (at_builtin;refine aN (by rfl) (.tmp 62) (.tmp 74) 31 31 (by rfl) w.heap.size 5 i0 zx hi eA cg cG (by rfl) (I.alloc _) _ wb (by rfl) (P7 zx _ 5 _ wb 4 4 _ NL (by rfl) NK.out) (by simp only[zt];omega) (by omega) ?_;intro A3 n3 nh w4 bP Jh;have dT:=za bP;have ar:Hid (ae [] w w4):=za ((HK.out.alloc _).kept Jh);clear bP Jh I)
     go_roundw
     case rel=>exact⟨k+1,by omega,by go_num,by rw[ag.out];exact dT.out,ar.out⟩
     case measure=>simp[intOf];omega
    have e8:k=8:=by omega
    subst e8;rw[VJ]at I;have b:=I.Ef (P:=prog) zx yC zO;rw[<-Nn.out]at b;obtain⟨X,HX⟩:∃X,Hid (sV s=X):=⟨_,za rfl⟩
    rw[HX.out]at b;clear I;go_wp2;go_ret;exact⟨by rw[HX.out];rfl,HK.out.below (zf _) (by simp)⟩
def Tx (s:ByteArray):Nat->ByteArray
 |0=>s
 |n+1=>sV (Tx s n)
theorem P8 (s:ByteArray)(h:s.size<=100000):∀n,(Tx s n).size<=100000
 |0=>h
 |n+1=>by rw[Tx,A7];omega
theorem IX (s:ByteArray)(w:World)(m:s.size<=100000):
 Calls prog 153 #[.string s] w fun e w'=>e= .returned (.string (GP s))/\Below w.heap.size w w':=by
 have j:Hid (Tx s 2=GP s):=za rfl;go_enter func153,ntmps153
 go_wp2;go_loopw [0,3] (fun v i wr=>∃k:Nat,k<=2/\i= .int .i64 k/\v= .string (Tx s k)/\Below w.heap.size w wr) (fun _ i _=>2-(intOf i).toNat)
 case atStart=>exact⟨0,by omega,rfl,rfl,zq _ _⟩
 case round=>
  obtain⟨k,o,rfl,rfl,b⟩:=hrel;by_cases p:k<2
  ·have d:=za (fun w=>abx (Tx s k) w (P8 s m k));have l:Hid (Tx s (k+1)=sV (Tx s k)):=za rfl;generalize Tx s k=t at*;generalize sV t=u at*;go_wp2_with fail
   refine(d.out _).mono ?_;rintro e n ⟨rfl,c⟩;have h:=za (b.trans (c.mono b.size));clear c;go_wp2;go_roundw
   case rel=>exact⟨k+1,by omega,by go_num,by rw[l.out],h.out⟩
   case measure=>simp[intOf];omega
  obtain rfl:k=2:=by omega
  rw[j.out];go_wp2;go_ret;exact⟨rfl,b⟩
theorem Ks (s:ByteArray)(w:World)(h:s.size<=100000):
 Calls prog 105 #[.string s] w fun e w'=>e= .returned (.string (eJ s))/\Below w.heap.size w w':=by
 have c:=za (fun w=>IX s w h);have b:Hid (eJ s=(GP s).extract 0 4):=za rfl;have hz:=A8 s;have j:4<=(GP s).size:=by omega
 clear hz;generalize GP s=t at*;go_enter func105,ntmps105
 go_wp2_with fail
 refine(c.out _).mono ?_;rintro e i ⟨rfl,d⟩;go_wp2;go_ret;exact⟨by rw[b.out];rfl,d⟩
theorem MW (s t:ByteArray)(w:World)(k:s.size<=100000):
 Calls prog 116 #[.string s,.string t] w fun e w'=>e= .returned (.bool (decide (eJ s=t)))/\Below w.heap.size w w':=by
 have i:=za (fun w=>Ks s w k);generalize eJ s=u at*;rcases ph t u with⟨b,m,l⟩|⟨b,m,l⟩
 ·have c:Hid (decide (u=t)=true):=za (zH b.symm);clear b;generalize decide (u=t)=d at*;go_enter func116,ntmps116
  go_wp2_with fail
  refine(i.out _).mono ?_;rintro e j ⟨rfl,h⟩;go_wp2;go_ret;exact⟨by rw[c.out];rfl,h⟩
 have c:Hid (decide (u=t)=false):=za (zz (fun e=>b e.symm));clear b;generalize decide (u=t)=d at*;go_enter func116,ntmps116
 go_wp2_with fail
 refine(i.out _).mono ?_;rintro e j ⟨rfl,h⟩;go_wp2;go_ret;exact⟨by rw[c.out];rfl,h⟩
def oS (i:Nat):Nat:=if i=6 then 4 else i+5
theorem IY {i j:Nat}(hi:i<7)(b:j<7)(h:oS i=oS j):i=j:=by
 unfold oS at h;split at h<;>split at h<;>omega
def UI (KL:Array Value)(s d1 d2:ByteArray)(i:Nat):Value:=
 if i=0 then .agg KL else if i=1 then .agg KL else if i=2 then .string s else if i=3 then .string d1 else if i=4 then .string d2 else .string (d2.extract 0 4)
structure CkJ (KL:Array Value)(s d1 d2:ByteArray)(listed:Array Bool)(x:Nat->Value):Prop where
 at_:∀i,i<7->listed.getD i false=true->x (oS i)=UI KL s d1 d2 i
theorem CkJ.put {b:Array Value}{s d c:ByteArray}{listed:Array Bool}{x:Nat->Value}(h:CkJ b s d c listed x)(i:Nat)(hi:i<7):CkJ b s d c (listed.setIfInBounds i true) (kP x (oS i) (UI b s d c i)):=⟨fun j k l=>by
 unfold kP;by_cases e:oS j=oS i
 ·rw[zl e,IY k hi e]
 rw[zj e];rcases df l with h1|h1
 ·subst h1;exact absurd rfl e
 exact h.at_ j k h1⟩
theorem vH (n:Nat)(w:World)(b:n<4294967296):
 Calls prog 104 #[.int .u64 n,.int .i64 4] w fun e w'=>e= .returned (.tuple #[.string (qB n),.int .i64 0])/\Below w.heap.size w w':=
 jz n 4 w (by simpa using b) (by omega) (by omega)
theorem IZ (m:Nat)(nm body:ByteArray)(w:World)(d:m<4294967296)(c:nm.size<=9223372036854775807)(b:b8 nm=false):
 Calls prog 68 #[.int .u32 m,.string nm,.string body] w fun e w'=>e= .returned (.tuple #[.string ByteArray.empty,.int .i64 11])/\w=w':=by
 have H:=za (LZ nm w c b);clear b;go_enter func68,ntmps68
 go_wp2_with fail
 refine H.out.mono ?_;rintro e w' ⟨rfl,rfl⟩;go_wp2;go_ret2
 exact⟨rfl,rfl⟩
theorem C6 (m:Nat)(nm body:ByteArray)(w:World)(h:m<4294967296)(b:b8 nm=true)(d:65536<body.size)(i:body.size<=9223372036854775807):
 Calls prog 68 #[.int .u32 m,.string nm,.string body] w fun e w'=>e= .returned (.tuple #[.string ByteArray.empty,.int .i64 5])/\Below w.heap.size w w':=by
 have H:=za (ES nm w b);clear b;go_enter func68,ntmps68
 go_wp2_with fail
 refine H.out.mono ?_;rintro e w' ⟨rfl,c⟩;go_wp2;go_ret2
 exact⟨rfl,c⟩
theorem MX (m:Nat)(nm body:ByteArray)(w:World)(y:m<4294967296)(i:b8 nm=true)(B:body.size<=65536):
 Calls prog 68 #[.int .u32 m,.string nm,.string body] w fun e w'=>e= .returned (.tuple #[.string (mu m nm body),.int .i64 0])/\Below w.heap.size w w':=by
 have H:=za (ES nm w i);have u:=za (fun w=>vH m w y);have p:=za (fun w=>vH body.size w (by omega));have o:=za (fun w=>Ks body w (by omega));have x:Hid (mu m nm body=qB m++eK nm++qB body.size++eJ body++body):=za rfl;have E:=jq m;have C:=jq body.size;have z3:=gR nm (dW i).2;have z4:=lf body;clear i;generalize qB m=a at*;generalize qB body.size=b at*;generalize eK nm=c at*;generalize eJ body=d at*;go_enter func68,ntmps68
 go_wp2_with fail
 refine H.out.mono ?_;rintro e z ⟨rfl,k⟩;go_wp2_with fail
 refine(u.out _).mono ?_;rintro e D ⟨rfl,h⟩;go_wp2_with fail
 refine(p.out _).mono ?_;rintro e w3 ⟨rfl,j⟩;go_wp2_with fail
 refine(o.out _).mono ?_;rintro e A ⟨rfl,l⟩;have n:=k.size;have q:=h.size;have s:=j.size;have r:=k.trans ((h.mono n).trans ((j.mono (by omega)).trans (l.mono (by omega))));clear k h j l n q s;go_wp2;go_ret2
 exact⟨by rw[x.out];rfl,r⟩
theorem kX (h:Bool)(e:Int)(w:World):Calls prog 109 #[.bool h,.int .i64 e] w fun b w'=>b= .returned (.int .i64 (if h then 0 else e))/\w=w':=by
 cases h
 ·go_enter func109,ntmps109
  go_wp2;go_ret;exact⟨rfl,rfl⟩
 go_enter func109,ntmps109
 go_wp2;go_ret;exact⟨rfl,rfl⟩
theorem vI (s:ByteArray)(b i j:Nat)(w:World)(c:af w b 9 #[.string s])(k:i<j)(h:j<=s.size)(l:j-i<=8)(n:s.size<=9223372036854775807):
 Calls prog 106 #[.int .i64 i,.int .i64 j,.pointer (some ⟨b,0,none⟩)] w fun e w'=>e= .returned (.int .u64 (cV (s.extract i j).data.toList))/\w=w':=by
 have hz:(s.extract i j).size=j-i:=an _ _ _ h;have d:=za (fun w=>eP (s.extract i j) w (by omega) (by omega));have o:w.cell? ⟨b,0,none⟩=some (.string s):=yd c;clear hz;generalize cV (s.extract i j).data.toList=N at*;go_enter func106,ntmps106
 go_wp2_with fail
 refine(d.out _).mono ?_;rintro e m ⟨rfl,rfl⟩;go_wp2;go_ret;exact⟨rfl,rfl⟩
theorem MZ (b k:Nat)(w:World):Calls prog 107 #[.int .i64 k,.pointer (some ⟨b,0,none⟩)] w fun e w'=>e= .returned (.func (.func 108) #[] #[.pointer (some ⟨b,0,none⟩),.pointer (some ⟨w.heap.size,0,none⟩)])/\w'=w.alloc (.cells #[.int .i64 k] 3):=by
 go_enter func107,ntmps107
 go_wp2;go_ret;exact⟨rfl,rfl⟩
theorem tJ (s:ByteArray)(b c k:Nat)(w:World)(i:af w b 9 #[.string s])(l:af w c 3 #[.int .i64 k])(n:s.size<=9223372036854775807)(o:k<=100):
 Calls prog 108 #[.pointer (some ⟨b,0,none⟩),.pointer (some ⟨c,0,none⟩)] w fun e w'=>e= .returned (.int .i64 (if k<=s.size then 0 else 2))/\w=w':=by
 have p:w.cell? ⟨b,0,none⟩=some (.string s):=yd i;have m:w.cell? ⟨c,0,none⟩=some (.int .i64 k):=yd l;have d:=za (fun h w=>kX h 2 w);by_cases h:k<=s.size
 ·rw[zl h];go_enter func108,ntmps108
  go_wp2_with fail
  refine(d.out _ _).mono ?_;rintro e j ⟨rfl,rfl⟩;go_wp2;go_ret;exact⟨rfl,rfl⟩
 rw[zj h];go_enter func108,ntmps108
 go_wp2_with fail
 refine(d.out _ _).mono ?_;rintro e j ⟨rfl,rfl⟩;go_wp2;go_ret;exact⟨rfl,rfl⟩
def UJ (b:Nat):Value:= .func (.func 106) #[] #[.pointer (some ⟨b,0,none⟩)]
theorem Tz (s:ByteArray)(b c d m:Nat)(w:World)(k:af w b 9 #[.string s])(l:af w c 156 #[UJ b])(hd:af w d 22 #[.int .u32 m])(r:m<4294967296)(q:s.size<=9223372036854775807)(p:4<=s.size):
 Calls prog 110 #[.pointer (some ⟨c,0,none⟩),.pointer (some ⟨d,0,none⟩)] w fun e w'=>e= .returned (.int .i64 (if cV (s.extract 0 4).data.toList=m then 0 else 9))/\∃n,w'=w.drewN n:=by
 have j:=za (fun n=>vI s b 0 4 (w.drewN n) (k.drewN n) (by omega) p (by omega) q);have o:w.cell? ⟨c,0,none⟩=some (UJ b):=yd l;have u:w.cell? ⟨d,0,none⟩=some (.int .u32 m):=yd hd;have i:=za (fun h w=>kX h 9 w);unfold UJ at o;generalize cV (s.extract 0 4).data.toList=N at*;by_cases h:N=m
 ·rw[zl h];have hd:((N:Int)==(m:Int))=true:=by rw[h];simp
  clear h;go_enter func110,ntmps110
  go_wp2_with fail
  go_quiet ((first|(go_at_call 106;with_reducible exact Calls.eR (j.out _))|(go_at_call 109;with_reducible exact Calls.eR (i.out _ _))))
  go_wp2;go_ret;exact⟨rfl,nq,rfl⟩
 rw[zj h];have hd:((N:Int)==(m:Int))=false:=zr.2 (by omega);clear h;go_enter func110,ntmps110
 go_wp2_with fail
 go_quiet ((first|(go_at_call 106;with_reducible exact Calls.eR (j.out _))|(go_at_call 109;with_reducible exact Calls.eR (i.out _ _))))
 go_wp2;go_ret;exact⟨rfl,nq,rfl⟩
theorem TA (s:ByteArray)(b nb:Nat)(v:Value)(w:World)(i:af w b 9 #[.string s])(c:af w nb 9 #[v])(q:nb≠b)(n:s.size<=9223372036854775807)(l:16<=s.size):
 Calls prog 111 #[.pointer (some ⟨b,0,none⟩),.pointer (some ⟨nb,0,none⟩)] w fun e w'=>e= .returned (.int .i64 (cS (s.extract 4 16)).1)/\w'=w.setCell ⟨nb,0,none⟩ (.string (cS (s.extract 4 16)).2):=by
 have d:=za (fun w=>OV (s.extract 4 16) w (by rw[an _ _ _ l];omega));have p:w.cell? ⟨b,0,none⟩=some (.string s):=yd i;have m:w.cell? ⟨nb,0,none⟩=some v:=yd c;have o:w.frozen? ⟨nb,0,none⟩=false:=Zw c;have j:=za (fun h w=>kX h 3 w);rcases rS (s.extract 4 16)with hg|⟨t,hg⟩;all_goals
  rw[hg]at d⊢;clear hg;go_enter func111,ntmps111
  go_wp2_with fail
  refine(d.out _).mono ?_;rintro e k ⟨rfl,rfl⟩;go_wp2_with fail
  refine(j.out _ _).mono ?_;rintro e k ⟨rfl,rfl⟩;go_wp2;go_ret;exact⟨rfl,rfl⟩
theorem WJ (s:ByteArray)(b c lb d:Nat)(v:Value)(most:Int)(w:World)(n:af w b 9 #[.string s])(q:af w c 156 #[UJ b])(l:af w lb 3 #[v])(p:af w d 3 #[.int .i64 most])(m:lb≠d)(u:s.size<=9223372036854775807)(o:20<=s.size):
 Calls prog 113 #[.pointer (some ⟨c,0,none⟩),.pointer (some ⟨lb,0,none⟩),.pointer (some ⟨d,0,none⟩)] w fun e w'=>e= .returned (.int .i64 (if(cV (s.extract 16 20).data.toList:Int)<=most then 0 else 5))/\w'=w.setCell ⟨lb,0,none⟩ (.int .i64 (cV (s.extract 16 20).data.toList)):=by
 have k:=za (fun(_:Unit)=>vI s b 16 20 w n (by omega) o (by omega) u);have B:=tz (s.extract 16 20) (an _ _ _ (by omega));have r:w.cell? ⟨c,0,none⟩=some (UJ b):=yd q;have A:w.cell? ⟨d,0,none⟩=some (.int .i64 most):=yd p;have y:w.cell? ⟨lb,0,none⟩=some v:=yd l;have x:w.frozen? ⟨lb,0,none⟩=false:=Zw l;have j:=za (fun h w=>kX h 5 w);unfold UJ at r;have z:(lb=d)=False:=yL m;clear m;generalize cV (s.extract 16 20).data.toList=N at*;by_cases h:(N:Int)<=most
 ·rw[zl h];have hd:decide ((N:Int)<=most)=true:=zH h;clear h;go_enter func113,ntmps113
  go_wp2_with fail
  refine(k.out ()).mono ?_;rintro e i ⟨rfl,rfl⟩;go_wp2_with fail
  refine(j.out _ _).mono ?_;rintro e i ⟨rfl,rfl⟩;go_wp2;go_ret;exact⟨rfl,rfl⟩
 rw[zj h];have hd:decide ((N:Int)<=most)=false:=zz h;clear h;go_enter func113,ntmps113
 go_wp2_with fail
 refine(k.out ()).mono ?_;rintro e i ⟨rfl,rfl⟩;go_wp2_with fail
 refine(j.out _ _).mono ?_;rintro e i ⟨rfl,rfl⟩;go_wp2;go_ret;exact⟨rfl,rfl⟩
theorem TB (s:ByteArray)(b lb N:Nat)(w:World)(d:af w b 9 #[.string s])(j:af w lb 3 #[.int .i64 N])(m:s.size<=9223372036854775807)(l:N<4294967296):
 Calls prog 114 #[.pointer (some ⟨b,0,none⟩),.pointer (some ⟨lb,0,none⟩)] w fun e w'=>e= .returned (.int .i64 (if 24+N<=s.size then 0 else 2))/\w=w':=by
 have n:w.cell? ⟨b,0,none⟩=some (.string s):=yd d;have k:w.cell? ⟨lb,0,none⟩=some (.int .i64 N):=yd j;have c:=za (fun h w=>kX h 2 w);by_cases h:24+N<=s.size
 ·rw[zl h];have hd:decide ((N:Int)<=(s.size:Int)-24)=true:=zH (by omega);clear h;go_enter func114,ntmps114
  go_wp2_with fail
  refine(c.out _ _).mono ?_;rintro e i ⟨rfl,rfl⟩;go_wp2;go_ret;exact⟨rfl,rfl⟩
 rw[zj h];have hd:decide ((N:Int)<=(s.size:Int)-24)=false:=zz (by omega);clear h;go_enter func114,ntmps114
 go_wp2_with fail
 refine(c.out _ _).mono ?_;rintro e i ⟨rfl,rfl⟩;go_wp2;go_ret;exact⟨rfl,rfl⟩
theorem WK (s:ByteArray)(b lb N:Nat)(w:World)(d:af w b 9 #[.string s])(j:af w lb 3 #[.int .i64 N])(A:s.size<=1099511627776)(u:24+N<=s.size)(B:N<=100000):
 Calls prog 115 #[.pointer (some ⟨b,0,none⟩),.pointer (some ⟨lb,0,none⟩)] w fun e w'=>e= .returned (.int .i64 (if eJ (s.extract 24 (24+N))=s.extract 20 24 then 0 else 10))/\Below w.heap.size w w':=by
 have l:w.cell? ⟨b,0,none⟩=some (.string s):=yd d;have n:w.cell? ⟨lb,0,none⟩=some (.int .i64 N):=yd j;have C:=d.lt;have z:=j.lt;have m:=za (fun w=>MW (s.extract 24 (24+N)) (s.extract 20 24) w (by rw[an _ _ _ u];omega));have i:=za (fun h w=>(kX h 10 w).mono (R':=fun o w'=>o= .returned (.int .i64 (if h then 0 else 10))/\Below w.heap.size w w') fun e w' h=>⟨h.1,by rw[<-h.2];exact zq _ _⟩);have k:Hid ((if decide (eJ (s.extract 24 (24+N))=s.extract 20 24)=true then(0:Int)else 10)=if eJ (s.extract 24 (24+N))=s.extract 20 24 then 0 else 10):=za (by simp);rw[<-k.out];generalize decide (eJ (s.extract 24 (24+N))=s.extract 20 24)=D at*;clear k;have H:(24:Int)+N<=s.size:=by omega
 have y:=za (i.out D);clear i;generalize (if D=true then(0:Int)else 10)=r at*;have F:(24:Int)<=24+N:=by omega
 have E:(24:Int)<=s.size:=by omega
 have I:IntKind.i64.wrap (24+(N:Int))=24+N:=yh _ (by omega);have J:(24+(N:Int)).toNat=24+N:=by omega
 go_enter func115,ntmps115
 go_wp2_with fail
 refine iH (by kernel_rfl) (by kernel_rfl) ?_;refine aD (.string s) (by rfl) (fun w' c=>by have q:=(c.cell (p:=⟨b,0,none⟩) (by simpa using by assumption)).trans l;go_simp) ?_;simp only[Act.put,zd,ze,zi];refine aD (.int .i64 N) (by rfl) (fun w' c=>by have q:=(c.cell (p:=⟨lb,0,none⟩) (by simpa using by assumption)).trans n;go_simp) ?_;simp only[Act.put,zd,ze,zi];refine aD (.int .i64 (24+N)) (by rfl) (fun _ _=>by first|rfl|go_simp) ?_;simp only[Act.put,zd,ze,zi];refine aD (.string (s.extract 24 (24+N))) (by rfl) (fun _ _=>by first|rfl|go_simp) ?_;simp only[Act.put,zd,ze,zi];refine aD (.string s) (by rfl) (fun w' c=>by have q:=(c.cell (p:=⟨b,0,none⟩) (by simpa using by assumption)).trans l;go_simp) ?_;simp only[Act.put,zd,ze,zi];refine aD (.string (s.extract 20 24)) (by rfl) (fun _ _=>by first|rfl|go_simp) ?_;simp only[Act.put,zd,ze,zi];refine ep 116 _ _ (by rfl) (fun _=>by first|rfl|go_simp) (fun w _=>m.out _) ?_;simp only[Act.put,zd,ze,zi];refine ep 109 _ _ (by rfl) (fun _=>by first|rfl|go_simp) (fun w _=>y.out _) ?_;simp only[Act.put,zd,ze,zi];refine aD (.int .i64 r) (by rfl) (fun _ _=>by first|rfl|go_simp) ?_;simp only[Act.put,zd,ze,zi];refine xS ?_;intro G x;go_wp2;go_ret;exact⟨rfl,x⟩
def aby (r:Int×ByteArray×ByteArray×Nat):Value:= .tuple #[.agg #[.int .u64 0,.string r.2.1,.string r.2.2.1],.int .i64 r.2.2.2,.int .i64 r.1]
theorem oh {w:World}{g:Nat}{t:TypeId}{i j e:Value}(h:af w g t #[i,j,e])(b c d:Value):af (((w.setCell ⟨g,0,none⟩ b).setCell ⟨g,1,none⟩ c).setCell ⟨g,2,none⟩ d) g t #[b,c,d]:=((h.set 0 b).set 1 c).set 2 d
theorem kn {B:Nat}{w w':World}(h:Below B w w'){g:Nat}(b:B<=g)(d e c:Value):Below B w (((w'.setCell ⟨g,0,none⟩ d).setCell ⟨g,1,none⟩ e).setCell ⟨g,2,none⟩ c):=
 ((h.setCell (by simpa using b) _).setCell (by simpa using b) _).setCell (by simpa using b) _
