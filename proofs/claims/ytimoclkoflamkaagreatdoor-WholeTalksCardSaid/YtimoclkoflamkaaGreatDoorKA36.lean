/- sha.Sum: the digest. -/
import Derived.Test.YtimoclkoflamkaaGreatDoorKShaM
set_option linter.all false
set_option maxRecDepth 100000
set_option maxHeartbeats 4000000
open Go.Proofs.Tryz
namespace Go.Proofs.YtimoclkoflamkaaGreatDoor
open Go.RowKit
variable {w:World}{g B i:Nat}{s:ByteArray}
theorem SS {tmps:Array Value}{V:World}(u:Sh)(c:tmps.getD 0 undef= .pointer (some (g,0)))(b:af V g 274 (cM u)):
 (results f225 tmps).run prog V= .ok (kC u) V:=by
 have h:V.cell? (g,0)=some (.int .u32 u.a):=b.cell 0;have l:V.cell? (g,1)=some (.int .u32 u.b):=b.cell 1;have i:V.cell? (g,2)=some (.int .u32 u.c):=b.cell 2;have j:V.cell? (g,3)=some (.int .u32 u.d):=b.cell 3;have d:V.cell? (g,4)=some (.int .u32 u.e):=b.cell 4;have k:V.cell? (g,5)=some (.int .u32 u.f):=b.cell 5;have m:V.cell? (g,6)=some (.int .u32 u.g):=b.cell 6;have e:V.cell? (g,7)=some (.int .u32 u.h):=b.cell 7;simp only[Array.getD_eq_getD_getElem?]at c;simp[results,results225,go_sem,c,h,l,i,j,d,k,m,e,kC]
theorem Wd (w:World):Calls prog 225 #[] w fun e w'=>e= .returned (kC Fg)/\(w,w'):=by
 go_enter func225,ntmps225
 go_wp2;refine zj (v:=kC Fg) ?_ rfl ?_
 ·exact SS Fg (g:=w.heap.size) rfl (af.new w _ _)
 exact⟨rfl,bQ⟩
theorem ae.kept {E:TypeId}{W d:World}(h:ae [] w W)(b:Kept E w.heap.size W d):ae [] w d:=
 ⟨b.below.os.trans h.os,b.below.tape.trans h.tape,b.below.output.trans h.output,zz h.size b.below.size,fun k c e=>(b.below.block k c).trans (h.block k c e)⟩
theorem SU {P:Program}{d i:TypeId}(h:P.underlying d=some (.slice i))(w:World)(E:TypeId)(b:Array Value)(m:List UInt8)(n c g:Nat)(j:m.length=n)(k:g=w.heap.size)(e:b.toList=cb m):Src P 1 d (.slice (some (g,0)) n c) m.length (cb m) (w.alloc (.cells b E)):=by
 subst j;exact vq h w E b m c g k e
theorem KJ (x:Nat)(hx:x<4294967296):(#[Value.int .u8 ((x:Int)/16777216),.int .u8 ((x:Int)/65536%256),.int .u8 ((x:Int)/256%256),.int .u8 ((x:Int)%256)]:Array Value).toList=cb (wB x):=by
 simp[cb,wB];omega
theorem s5.next {b wr:World}{a nq:Nat}{v u:Sh}{top:Nat}{x:Value}(h:a=64*i)(hx:x= .int .i64 ((a+64:Nat):Int))(e:a+64<=top)(hu:fz v s i=u)(k:ae [] w wr)(c:ae [] (wr.drewN nq) b)
 (j:af wr B 274 (cM u)) (d:w.heap.size<=B) (m:top<=s.size):s5 w B v s top x (nW b B (qq vT u (s.extract a (a+64)))):=by
 have l:af b B 274 (cM u):=(j.drewN nq).only c (by simp);refine⟨i+1,a+64,by omega,hx,e, ?_,uj _ ((k.drewN nq).trans c) d⟩;rw[fz,hu,<-h];exact KI _ l
theorem aeM (s:ByteArray)(w:World)(hs:s.size<=100000):
 Calls prog 208 #[s] w fun e w'=>e= .returned (.string (uG s))/\(w,w'):=by
 obtain⟨W,hW⟩:∃W,64*(s.size/64)=W:=⟨_,rfl⟩
 have e1:(s.size:Int)-(s.size:Int)%64=(W:Int):=by omega
 have an:W<=s.size:=by omega
 have R:=za hW;clear hW;go_enter func208,ntmps208
 go_wp2_with fail
 refine(Wd _).mono ?_;rintro e w1 ⟨rfl,aK⟩;unfold kC;go_wp2;obtain⟨U,S⟩:∃U,w1.alloc (.cells #[.int .u32 Fg.a,.int .u32 Fg.b,.int .u32 Fg.c,.int .u32 Fg.d,.int .u32 Fg.e,.int .u32 Fg.f,.int .u32 Fg.g,.int .u32 Fg.h] 274)=U:=⟨_,rfl⟩
 obtain⟨B,hB⟩:∃B,w1.heap.size=B:=⟨_,rfl⟩
 have X9:w.heap.size<=B:=by have:=aK.size;omega
 have Ln:Hid (af U B 274 (cM (fz Fg s 0))):=za (by rw[<-S,<-hB];exact af.new w1 _ _);have aj:Hid (ae [] w U):=za (by rw[<-S];exact(ae.ai aK (ze _)).alloc _);rw[S,hB];clear S hB aK;go_loopw [5] (fun v wr=>s5 w B Fg s W v wr) (fun v _=>W-(intOf v).toNat)
 case atStart=>exact⟨0,0,rfl,rfl,ya _,Ln.out,aj.out⟩
 case round=>
  obtain⟨i,a,F,rfl,bZ,b,c⟩:=hrel.ex;have j:=FK Z' s i;obtain⟨u,hu⟩:∃u,fz Fg s i=u:=⟨_,rfl⟩
  rw[hu]at b j;have HU:=za hu;have M:=za b;have N:=za c;have l:=b.lt;by_cases aD:a<W
  ·have MX:a+64<=W:=by omega
   have ab:a+64<=s.size:=by omega
   have g1:IntKind.i64.wrap ((a:Int)+64)=(a:Int)+64:=zY _ (by omega);have g2:((a:Int)+64).toNat=a+64:=by omega
   have g4:(a:Int)<=(a:Int)+64:=by omega
   have g5:(a:Int)+64<=(s.size:Int):=by omega
   have H:=za (fun w=>XN u j (s.extract a (a+64)) (by rw[ar _ _ _ ab];omega) w);obtain⟨D,E,n,C,y,q,o,z⟩:=b.AQ;have K:=za (fun(h:World) (nq:Nat) (d:ae [] (wr.drewN nq) h)=>s5.next (x:=((a+64:Nat):Int)) F rfl MX hu c d b X9 an);obtain⟨nu,J⟩:∃nu,qq vT u (s.extract a (a+64))=nu:=⟨_,rfl⟩
   rw[J]at H K;unfold kC at H;clear F hu b c J j;go_wp2;refine cG 6 (by kernel_rfl) (by kernel_rfl) ?_;simp only[zO,yq,zV,zG];repeat(go_big_quiet_step (fail))
   refine xr ?_;intro nq;clear D E n C y q o z;go_wp2_with fail
   refine(H.out _).mono ?_;rintro e h ⟨rfl,d⟩;have G:=(M.out.drewN nq).only d (by simp);obtain⟨D,E,n,C,y,q,o,z⟩:=G.AQ;obtain⟨f0,f1,f2,f3,f4,f5,f6,f7⟩:=G.XM;have HN:=za (K.out h nq d);clear G d;go_wp2;go_roundw
   case rel=>exact HN.out
   case measure=>simp[intOf];omega
  have ay:Hid (i=s.size/64):=za (by have:=R.out;omega);have hp:=fun w=>aen s.size w hs
  have HP:=za hp;have ad:=pC s.size;have IV:=tt s.size;have M0:(s.extract W s.size).size<=64:=by rw[ar _ _ _ (ze _)];have:=R.out;omega
  have Z:Hid (uG s=⟨(FM (fz (fz Fg s i) (s.extract W s.size++iI s.size) ((s.extract W s.size++iI s.size).size/64))).toArray⟩):=za (by
   rw[uG,Jl s (s.extract W s.size++iI s.size) (by rw[R.out]),<-ay.out])
  have aa:Hid ((s.extract W s.size++iI s.size).size=s.size-W+(dP s.size+9)):=za (by rw[bV,ar _ _ _ (ze _),ad]);have aw:Hid ((s.size-W+(dP s.size+9))%64=0):=za (by have:=qs s.size;have:=R.out;omega);rw[HU.out]at Z;have aA:a=W:=by omega
  subst aA;generalize iI s.size=pd at*;have aC:pd.size<=72:=by omega
  clear F hu b c ad;go_wp2_with fail
  refine(HP.out _).mono ?_;rintro e h ⟨rfl,Y⟩;have P4:Hid (af h B 274 (cM u)):=za ((Y.block _ l).trans M.out);have av:Hid (ae [] w h):=za (N.out.trans (ae.ai Y (ze _)));clear Y;go_wp2;obtain⟨r,hr⟩:∃r,s.extract a s.size++pd=r:=⟨_,rfl⟩
  rw[hr]at Z aa⊢;have Pz:r.size<=200:=by have:=aa.out;omega
  obtain⟨O,rfl⟩:∃O,O=u:=⟨u,rfl⟩
  have aq:r.size<=r.size:=ze _;obtain⟨i0,hi,dB,cg,cC⟩:=yv pM;clear hr;go_loopw [9] (fun v wr=>s5 w B O r r.size v wr) (fun v _=>r.size-(intOf v).toNat)
  case atStart=>exact⟨0,0,rfl,rfl,ya _,P4.out,av.out⟩
  case round=>
   obtain⟨i,a,F,rfl,bZ,b,c⟩:=hrel.ex;have j:=FK j r i;obtain⟨u,hu⟩:∃u,fz O r i=u:=⟨_,rfl⟩
   rw[hu]at b j;have HU:=za hu;have M:=za b;have N:=za c;have l:=b.lt;by_cases aD:a+64<=r.size
   ·have MX:a+64<=r.size:=by omega
    have ab:a+64<=r.size:=by omega
    have g1:IntKind.i64.wrap ((a:Int)+64)=(a:Int)+64:=zY _ (by omega);have g2:((a:Int)+64).toNat=a+64:=by omega
    have g4:(a:Int)<=(a:Int)+64:=by omega
    have g5:(a:Int)+64<=(r.size:Int):=by omega
    have H:=za (fun w=>XN u j (r.extract a (a+64)) (by rw[ar _ _ _ ab];omega) w);obtain⟨D,E,n,C,y,q,o,z⟩:=b.AQ;have K:=za (fun(h:World) (nq:Nat) (d:ae [] (wr.drewN nq) h)=>s5.next (x:=((a+64:Nat):Int)) F rfl MX hu c d b X9 aq);obtain⟨nu,J⟩:∃nu,qq vT u (r.extract a (a+64))=nu:=⟨_,rfl⟩
    rw[J]at H K;unfold kC at H;clear F hu b c J j;go_wp2;refine cG 6 (by kernel_rfl) (by kernel_rfl) ?_;simp only[zO,yq,zV,zG];repeat(go_big_quiet_step (fail))
    refine xr ?_;intro nq;clear D E n C y q o z;go_wp2_with fail
    refine(H.out _).mono ?_;rintro e h ⟨rfl,d⟩;have G:=(M.out.drewN nq).only d (by simp);obtain⟨D,E,n,C,y,q,o,z⟩:=G.AQ;obtain⟨f0,f1,f2,f3,f4,f5,f6,f7⟩:=G.XM;have HN:=za (K.out h nq d);clear G d;go_wp2;go_roundw
    case rel=>exact HN.out
    case measure=>simp[intOf];omega
   have ao:Hid (i=r.size/64):=za (by have:=aa.out;have:=aw.out;omega);have I8:Hid (uG s=⟨(FM u).toArray⟩):=za (by rw[Z.out,<-ao.out,hu]);obtain⟨D,E,n,C,y,q,o,z⟩:=b.AQ;have HT:=za (fun(k:Nat) (hk:k<8) (w':World)=>ma u w' k _ (Pj u k hk));have ak:=za (Sh.aeL j);have az:=N.out.size;have d0:decide ((a:Int)+64<=(r.size:Int))=false:=zt (by omega);clear F hu b c j;go_wp2_with (at_make;refine mq _ (by rfl) _ _ 75 (by rfl) w.heap.size 5 i0 zm hi dB cg cC .i64 .i64 0 32 (by rfl) (by rfl) (by omega) (by omega) az ?_;intro w3 bL pt m;have q0:=(m.cell (p:=(B,0)) l).trans D;have q1:=(m.cell (p:=(B,1)) l).trans E;have q2:=(m.cell (p:=(B,2)) l).trans n;have q3:=(m.cell (p:=(B,3)) l).trans C;have q4:=(m.cell (p:=(B,4)) l).trans y;have q5:=(m.cell (p:=(B,5)) l).trans q;have q6:=(m.cell (p:=(B,6)) l).trans o;have q7:=(m.cell (p:=(B,7)) l).trans z)
   have al:Hid (ae [] w w3):=za (N.out.trans (ae.ai m (ze _)));clear D E n C y q o z q0 q1 q2 q3 q4 q5 q6 q7 pt m;go_loopw [10,59] (fun v x wr=>∃k:Nat,k<=8/\x= .int .i64 k/\bR wr w.heap.size 5 v (Jj k u)/\ae [] w wr) (fun _ x _=>8-(intOf x).toNat)
   case atStart=>exact⟨0,by omega,rfl,bL,al.out⟩
   case round=>
    obtain⟨k,hk,rfl,I,c⟩:=hrel;obtain⟨A,L,cap,rfl,hL,aB,od⟩:=I.bK;have HK:=za c;have dZ:=c.size;have aE:=tu u k hk;clear c;by_cases ag:k<8
    ·have ax:=HT.out k ag;have hx:=ak.out k;have ah:=za (Cu u k ag);obtain⟨x,ai⟩:∃x,u.list.getD k 0=x:=⟨_,rfl⟩
     rw[ai]at ax hx ah;have Qj:=za (KJ x hx);have I6:(wB x).length=4:=rfl;generalize wB x=wb at*;generalize Jj k u=LL at*;have Tc:LL.length<=32:=by omega
     clear ai;go_wp2_with (at_builtin;refine aP (by rfl) (.tmp 62) (.tmp 74) 75 75 (by rfl) w.heap.size 5 i0 zm hi dB cg cC (by rfl) (I.alloc _) _ wb (by rfl) (SU zm _ 5 _ wb 4 4 _ I6 (by rfl) Qj.out) (by simp only[zp];omega) (by omega) ?_;intro A3 n3 Is w4 cP Bz;have dK:=za cP;have au:Hid (ae [] w w4):=za ((HK.out.alloc _).kept Bz);clear cP Bz I)
     go_roundw
     case rel=>exact⟨k+1,by omega,by go_num,by rw[ah.out];exact dK.out,au.out⟩
     case measure=>simp[intOf];omega
    have e8:k=8:=by omega
    subst e8;rw[aaa]at I;have b:=I.Jt (P:=prog) zm ym zH;rw[<-I8.out]at b;obtain⟨X,HX⟩:∃X,Hid (uG s=X):=⟨_,za rfl⟩
    rw[HX.out]at b;clear I;go_wp2;go_ret;exact⟨by rw[HX.out];rfl,HK.out.below (ze _) (by simp)⟩
def We (s:ByteArray):Nat->ByteArray
 |0=>s
 |n+1=>uG (We s n)
theorem SV (s:ByteArray)(h:s.size<=100000):∀n,(We s n).size<=100000
 |0=>h
 |n+1=>by rw[We,Cv];omega
theorem KK (s:ByteArray)(w:World)(j:s.size<=100000):
 Calls prog 172 #[s] w fun e w'=>e= .returned (.string (Jm s))/\(w,w'):=by
 have d:Hid (We s 2=Jm s):=za rfl;go_enter func172,ntmps172
 go_wp2;go_loopw [0,3] (fun v i wr=>∃k:Nat,k<=2/\i= .int .i64 k/\v= .string (We s k)/\(w,wr)) (fun _ i _=>2-(intOf i).toNat)
 case atStart=>exact⟨0,by omega,rfl,rfl,zi _ _⟩
 case round=>
  obtain⟨k,n,rfl,rfl,b⟩:=hrel;by_cases o:k<2
  ·have h:=za (fun w=>aeM (We s k) w (SV s j k));have m:Hid (We s (k+1)=uG (We s k)):=za rfl;generalize We s k=t at*;generalize uG t=u at*;go_wp2_with fail
   refine(h.out _).mono ?_;rintro e p ⟨rfl,c⟩;have l:=za (b.trans (c.mono b.size));clear c;go_wp2;go_roundw
   case rel=>exact⟨k+1,by omega,by go_num,by rw[m.out],l.out⟩
   case measure=>simp[intOf];omega
  obtain rfl:k=2:=by omega
  rw[d.out];go_wp2;go_ret;exact⟨rfl,b⟩
theorem MN (s:ByteArray)(w:World)(c:s.size<=100000):
 Calls prog 127 #[s] w fun e w'=>e= .returned (.string (eU s))/\(w,w'):=by
 have b:=za (fun w=>KK s w c);have d:Hid (eU s=(Jm s).extract 0 4):=za rfl;have hz:=Cw s;have i:4<=(Jm s).size:=by omega
 clear hz;generalize Jm s=t at*;go_enter func127,ntmps127
 go_wp2_with fail
 refine(b.out _).mono ?_;rintro e j ⟨rfl,h⟩;go_wp2;go_ret;exact⟨by rw[d.out];rfl,h⟩
theorem Pk (s t:ByteArray)(w:World)(l:s.size<=100000):
 Calls prog 138 #[s,t] w fun e w'=>e= .returned (.bool (decide (eU s=t)))/\(w,w'):=by
 have i:=za (fun w=>MN s w l);generalize eU s=u at*;rcases qo t u with⟨b,k,j⟩|⟨b,k,j⟩
 ·have c:Hid (decide (u=t)=true):=za (zD b.symm);clear b;generalize decide (u=t)=d at*;go_enter func138,ntmps138
  go_wp2_with fail
  refine(i.out _).mono ?_;rintro e m ⟨rfl,h⟩;go_wp2;go_ret;exact⟨by rw[c.out];rfl,h⟩
 have c:Hid (decide (u=t)=false):=za (zt (fun e=>b e.symm));clear b;generalize decide (u=t)=d at*;go_enter func138,ntmps138
 go_wp2_with fail
 refine(i.out _).mono ?_;rintro e m ⟨rfl,h⟩;go_wp2;go_ret;exact⟨by rw[c.out];rfl,h⟩
def pW (i:Nat):Nat:=if i=6 then 4 else i+5
theorem KM {j:Nat}(hi:i<7)(b:j<7)(h:pW i=pW j):i=j:=by
 unfold pW at h;split at h<;>split at h<;>omega
def XO (KL:Array Value)(s d1 d2:ByteArray)(i:Nat):Value:=
 if i=0 then .agg KL else if i=1 then .agg KL else if i=2 then .string s else if i=3 then .string d1 else if i=4 then .string d2 else .string (d2.extract 0 4)
structure CkJ (KL:Array Value)(s d1 d2:ByteArray)(listed:Array Bool)(x:Nat->Value):Prop where
 at_:∀i,i<7->listed.getD i false=true->x (pW i)=XO KL s d1 d2 i
theorem CkJ.put {c:Array Value}{d b:ByteArray}{listed:Array Bool}{x:Nat->Value}(h:CkJ c s d b listed x)(i:Nat)(hi:i<7):CkJ c s d b (listed.setIfInBounds i true) (Fi x (pW i) (XO c s d b i)):=⟨fun j k l=>by
 unfold Fi;by_cases e:pW j=pW i
 ·rw[zg e,KM k hi e]
 rw[zf e];rcases dr l with h1|h1
 ·subst h1;exact absurd rfl e
 exact h.at_ j k h1⟩
theorem AR (n:Nat)(w:World)(b:n<4294967296):
 Calls prog 126 #[.int .u64 n,(4:Int)] w fun e w'=>e= .returned (.tuple #[.string (rV n),(0:Int)])/\(w,w'):=
 jO n 4 w (by simpa using b) (by omega) (by omega)
theorem KN (m:Nat)(nm body:ByteArray)(w:World)(d:m<4294967296)(c:nm.size<=9223372036854775807)(b:ca nm=false):
 Calls prog 89 #[.int .u32 m,nm,body] w fun e w'=>e= .returned (.tuple #[ByteArray.empty,(11:Int)])/\w=w':=by
 have H:=za (Ow nm w c b);clear b;go_enter func89,ntmps89
 go_wp2_with fail
 refine H.out.mono ?_;rintro e w' ⟨rfl,rfl⟩;go_wp2;go_ret2
 exact⟨rfl,rfl⟩
theorem EC (m:Nat)(nm body:ByteArray)(w:World)(d:m<4294967296)(b:ca nm=true)(h:65536<body.size)(i:body.size<=9223372036854775807):
 Calls prog 89 #[.int .u32 m,nm,body] w fun e w'=>e= .returned (.tuple #[ByteArray.empty,(5:Int)])/\(w,w'):=by
 have H:=za (GG nm w b);clear b;go_enter func89,ntmps89
 go_wp2_with fail
 refine H.out.mono ?_;rintro e w' ⟨rfl,c⟩;go_wp2;go_ret2
 exact⟨rfl,c⟩
theorem Pl (m:Nat)(nm body:ByteArray)(w:World)(p:m<4294967296)(j:ca nm=true)(z:body.size<=65536):
 Calls prog 89 #[.int .u32 m,nm,body] w fun e w'=>e= .returned (.tuple #[.string (nk m nm body),(0:Int)])/\(w,w'):=by
 have H:=za (GG nm w j);have u:=za (fun w=>AR m w p);have y:=za (fun w=>AR body.size w (by omega));have q:=za (fun w=>MN body w (by omega));have s:Hid (nk m nm body=rV m++eV nm++rV body.size++eU body++body):=za rfl;have C:=jK m;have A:=jK body.size;have z3:=ij nm (dE j).2;have z4:=lM body;clear j;generalize rV m=a at*;generalize rV body.size=b at*;generalize eV nm=c at*;generalize eU body=d at*;go_enter func89,ntmps89
 go_wp2_with fail
 refine H.out.mono ?_;rintro e D ⟨rfl,i⟩;go_wp2_with fail
 refine(u.out _).mono ?_;rintro e E ⟨rfl,k⟩;go_wp2_with fail
 refine(y.out _).mono ?_;rintro e w3 ⟨rfl,h⟩;go_wp2_with fail
 refine(q.out _).mono ?_;rintro e B ⟨rfl,l⟩;have n:=i.size;have r:=k.size;have x:=h.size;have o:=i.trans ((k.mono n).trans ((h.mono (by omega)).trans (l.mono (by omega))));clear i k h l n r x;go_wp2;go_ret2
 exact⟨by rw[s.out];rfl,o⟩
theorem lA (h:Bool)(e:Int)(w:World):Calls prog 131 #[h,e] w fun b w'=>b= .returned (.int .i64 (if h then 0 else e))/\w=w':=by
 cases h
 ·go_enter func131,ntmps131
  go_wp2;go_ret;exact⟨rfl,rfl⟩
 go_enter func131,ntmps131
 go_wp2;go_ret;exact⟨rfl,rfl⟩
theorem AS (s:ByteArray)(b i j:Nat)(w:World)(h:af w b 9 #[s])(m:i<j)(d:j<=s.size)(k:j-i<=8)(o:s.size<=9223372036854775807):
 Calls prog 128 #[i,j,(b,0)] w fun e w'=>e= .returned (.int .u64 (dg (s.extract i j).data.toList))/\w=w':=by
 have hz:(s.extract i j).size=j-i:=ar _ _ _ d;have c:=za (fun w=>fa (s.extract i j) w (by omega) (by omega));have l:w.cell? (b,0)=some (.string s):=zW h;clear hz;generalize dg (s.extract i j).data.toList=N at*;go_enter func128,ntmps128
 go_wp2_with fail
 refine(c.out _).mono ?_;rintro e n ⟨rfl,rfl⟩;go_wp2;go_ret;exact⟨rfl,rfl⟩
theorem Pm (b k:Nat)(w:World):Calls prog 129 #[k,(b,0)] w fun e w'=>e= .returned (.func (.func 130) #[] #[(b,0),(w.heap.size,0)])/\w'=w.alloc (.cells #[k] 3):=by
 go_enter func129,ntmps129
 go_wp2;go_ret;exact⟨rfl,rfl⟩
theorem vB (s:ByteArray)(b c k:Nat)(w:World)(j:af w b 9 #[s])(l:af w c 3 #[k])(o:s.size<=9223372036854775807)(m:k<=100):
 Calls prog 130 #[(b,0),(c,0)] w fun e w'=>e= .returned (.int .i64 (if k<=s.size then 0 else 2))/\w=w':=by
 have n:w.cell? (b,0)=some (.string s):=zW j;have p:w.cell? (c,0)=some (.int .i64 k):=zW l;have d:=za (fun h w=>lA h 2 w);by_cases h:k<=s.size
 ·rw[zg h];go_enter func130,ntmps130
  go_wp2_with fail
  refine(d.out _ _).mono ?_;rintro e i ⟨rfl,rfl⟩;go_wp2;go_ret;exact⟨rfl,rfl⟩
 rw[zf h];go_enter func130,ntmps130
 go_wp2_with fail
 refine(d.out _ _).mono ?_;rintro e i ⟨rfl,rfl⟩;go_wp2;go_ret;exact⟨rfl,rfl⟩
def XP (b:Nat):Value:= .func (.func 128) #[] #[(b,0)]
theorem Wf (s:ByteArray)(b c d m:Nat)(w:World)(l:af w b 9 #[s])(p:af w c 184 #[XP b])(hd:af w d 22 #[.int .u32 m])(u:m<4294967296)(o:s.size<=9223372036854775807)(k:4<=s.size):
 Calls prog 132 #[(c,0),(d,0)] w fun e w'=>e= .returned (.int .i64 (if dg (s.extract 0 4).data.toList=m then 0 else 9))/\∃n,w'=w.drewN n:=by
 have j:=za (fun n=>AS s b 0 4 (w.drewN n) (l.drewN n) (by omega) k (by omega) o);have q:w.cell? (c,0)=some (XP b):=zW p;have r:w.cell? (d,0)=some (.int .u32 m):=zW hd;have i:=za (fun h w=>lA h 9 w);unfold XP at q;generalize dg (s.extract 0 4).data.toList=N at*;by_cases h:N=m
 ·rw[zg h];have hd:((N:Int)==(m:Int))=true:=by rw[h];simp
  clear h;go_enter func132,ntmps132
  go_wp2_with fail
  go_quiet ((first|(go_at_call 128;with_reducible exact Calls.fe (j.out _))|(go_at_call 131;with_reducible exact Calls.fe (i.out _ _))))
  go_wp2;go_ret;exact⟨rfl,nq,rfl⟩
 rw[zf h];have hd:((N:Int)==(m:Int))=false:=zl.2 (by omega);clear h;go_enter func132,ntmps132
 go_wp2_with fail
 go_quiet ((first|(go_at_call 128;with_reducible exact Calls.fe (j.out _))|(go_at_call 131;with_reducible exact Calls.fe (i.out _ _))))
 go_wp2;go_ret;exact⟨rfl,nq,rfl⟩
theorem Wg (s:ByteArray)(b nb:Nat)(v:Value)(w:World)(k:af w b 9 #[s])(d:af w nb 9 #[v])(m:nb≠b)(p:s.size<=9223372036854775807)(i:16<=s.size):
 Calls prog 133 #[(b,0),(nb,0)] w fun e w'=>e= .returned (.int .i64 (cZ (s.extract 4 16)).1)/\w'=w.setCell (nb,0) (.string (cZ (s.extract 4 16)).2):=by
 have c:=za (fun w=>RI (s.extract 4 16) w (by rw[ar _ _ _ i];omega));have n:w.cell? (b,0)=some (.string s):=zW k;have q:w.cell? (nb,0)=some v:=zW d;have o:w.frozen? (nb,0)=false:=Zu d;have l:=za (fun h w=>lA h 3 w);rcases tv (s.extract 4 16)with hg|⟨t,hg⟩;all_goals
  rw[hg]at c⊢;clear hg;go_enter func133,ntmps133
  go_wp2_with fail
  refine(c.out _).mono ?_;rintro e j ⟨rfl,rfl⟩;go_wp2_with fail
  refine(l.out _ _).mono ?_;rintro e j ⟨rfl,rfl⟩;go_wp2;go_ret;exact⟨rfl,rfl⟩
theorem abk (s:ByteArray)(b c lb d:Nat)(v:Value)(most:Int)(w:World)(p:af w b 9 #[s])(r:af w c 184 #[XP b])(k:af w lb 3 #[v])(o:af w d 3 #[most])(j:lb≠d)(q:s.size<=9223372036854775807)(n:20<=s.size):
 Calls prog 135 #[(c,0),(lb,0),(d,0)] w fun e w'=>e= .returned (.int .i64 (if(dg (s.extract 16 20).data.toList:Int)<=most then 0 else 5))/\w'=w.setCell (lb,0) (.int .i64 (dg (s.extract 16 20).data.toList)):=by
 have m:=za (fun(_:Unit)=>AS s b 16 20 w p (by omega) n (by omega) q);have B:=vr (s.extract 16 20) (ar _ _ _ (by omega));have u:w.cell? (c,0)=some (XP b):=zW r;have y:w.cell? (d,0)=some (.int .i64 most):=zW o;have A:w.cell? (lb,0)=some v:=zW k;have x:w.frozen? (lb,0)=false:=Zu k;have l:=za (fun h w=>lA h 5 w);unfold XP at u;have z:(lb=d)=False:=yG j;clear j;generalize dg (s.extract 16 20).data.toList=N at*;by_cases h:(N:Int)<=most
 ·rw[zg h];have hd:decide ((N:Int)<=most)=true:=zD h;clear h;go_enter func135,ntmps135
  go_wp2_with fail
  refine(m.out ()).mono ?_;rintro e i ⟨rfl,rfl⟩;go_wp2_with fail
  refine(l.out _ _).mono ?_;rintro e i ⟨rfl,rfl⟩;go_wp2;go_ret;exact⟨rfl,rfl⟩
 rw[zf h];have hd:decide ((N:Int)<=most)=false:=zt h;clear h;go_enter func135,ntmps135
 go_wp2_with fail
 refine(m.out ()).mono ?_;rintro e i ⟨rfl,rfl⟩;go_wp2_with fail
 refine(l.out _ _).mono ?_;rintro e i ⟨rfl,rfl⟩;go_wp2;go_ret;exact⟨rfl,rfl⟩
theorem Wh (s:ByteArray)(b lb N:Nat)(w:World)(j:af w b 9 #[s])(i:af w lb 3 #[N])(m:s.size<=9223372036854775807)(l:N<4294967296):
 Calls prog 136 #[(b,0),(lb,0)] w fun e w'=>e= .returned (.int .i64 (if 24+N<=s.size then 0 else 2))/\w=w':=by
 have k:w.cell? (b,0)=some (.string s):=zW j;have n:w.cell? (lb,0)=some (.int .i64 N):=zW i;have c:=za (fun h w=>lA h 2 w);by_cases h:24+N<=s.size
 ·rw[zg h];have hd:decide ((N:Int)<=(s.size:Int)-24)=true:=zD (by omega);clear h;go_enter func136,ntmps136
  go_wp2_with fail
  refine(c.out _ _).mono ?_;rintro e d ⟨rfl,rfl⟩;go_wp2;go_ret;exact⟨rfl,rfl⟩
 rw[zf h];have hd:decide ((N:Int)<=(s.size:Int)-24)=false:=zt (by omega);clear h;go_enter func136,ntmps136
 go_wp2_with fail
 refine(c.out _ _).mono ?_;rintro e d ⟨rfl,rfl⟩;go_wp2;go_ret;exact⟨rfl,rfl⟩
theorem abl (s:ByteArray)(b lb N:Nat)(w:World)(d:af w b 9 #[s])(j:af w lb 3 #[N])(C:s.size<=1099511627776)(x:24+N<=s.size)(G:N<=100000):
 Calls prog 137 #[(b,0),(lb,0)] w fun e w'=>e= .returned (.int .i64 (if eU (s.extract 24 (24+N))=s.extract 20 24 then 0 else 10))/\(w,w'):=by
 have l:w.cell? (b,0)=some (.string s):=zW d;have y:w.cell? (lb,0)=some (.int .i64 N):=zW j;have H:=d.lt;have F:=j.lt;have m:=za (fun w=>Pk (s.extract 24 (24+N)) (s.extract 20 24) w (by rw[ar _ _ _ x];omega));have k:=za (fun h w=>(lA h 10 w).mono (R':=fun u w'=>u= .returned (.int .i64 (if h then 0 else 10))/\(w,w')) fun e w' h=>⟨h.1,by rw[<-h.2];exact zi _ _⟩);have i:Hid ((if decide (eU (s.extract 24 (24+N))=s.extract 20 24)=true then(0:Int)else 10)=if eU (s.extract 24 (24+N))=s.extract 20 24 then 0 else 10):=za (by simp);rw[<-i.out];generalize decide (eU (s.extract 24 (24+N))=s.extract 20 24)=D at*;clear i;have E:(24:Int)+N<=s.size:=by omega
 have n:=za (k.out D);clear k;generalize (if D=true then(0:Int)else 10)=r at*;have B:(24:Int)<=24+N:=by omega
 have A:(24:Int)<=s.size:=by omega
 have I:IntKind.i64.wrap (24+(N:Int))=24+N:=zY _ (by omega);have z:(24+(N:Int)).toNat=24+N:=by omega
 go_enter func137,ntmps137
 go_wp2_with fail
 refine fX (by kernel_rfl) (by kernel_rfl) ?_;refine ag (.string s) (by rfl) (fun w' c=>by have q:=(c.cell (p:=(b,0)) (by simpa using by assumption)).trans l;go_simp) ?_;simp only[Act.put,zb,zc,zd];refine ag (.int .i64 N) (by rfl) (fun w' c=>by have q:=(c.cell (p:=(lb,0)) (by simpa using by assumption)).trans y;go_simp) ?_;simp only[Act.put,zb,zc,zd];refine ag (.int .i64 (24+N)) (by rfl) (fun _ _=>by first|rfl|go_simp) ?_;simp only[Act.put,zb,zc,zd];refine ag (.string (s.extract 24 (24+N))) (by rfl) (fun _ _=>by first|rfl|go_simp) ?_;simp only[Act.put,zb,zc,zd];refine ag (.string s) (by rfl) (fun w' c=>by have q:=(c.cell (p:=(b,0)) (by simpa using by assumption)).trans l;go_simp) ?_;simp only[Act.put,zb,zc,zd];refine ag (.string (s.extract 20 24)) (by rfl) (fun _ _=>by first|rfl|go_simp) ?_;simp only[Act.put,zb,zc,zd];refine eN 138 _ _ (by rfl) (fun _=>by first|rfl|go_simp) (fun w _=>m.out _) ?_;simp only[Act.put,zb,zc,zd];refine eN 131 _ _ (by rfl) (fun _=>by first|rfl|go_simp) (fun w _=>n.out _) ?_;simp only[Act.put,zb,zc,zd];refine ag (.int .i64 r) (by rfl) (fun _ _=>by first|rfl|go_simp) ?_;simp only[Act.put,zb,zc,zd];refine xr ?_;intro J o;go_wp2;go_ret;exact⟨rfl,o⟩
def aeN (r:Int×ByteArray×ByteArray×Nat):Value:= .tuple #[.agg #[.int .u64 0,r.2.1,r.2.2.1],r.2.2.2,r.1]
theorem pf {t:TypeId}{j e i:Value}(h:af w g t #[j,e,i])(c b d:Value):af (((w.setCell (g,0) c).setCell (g,1) b).setCell (g,2) d) g t #[c,b,d]:=((h.set 0 c).set 1 b).set 2 d
theorem kK {w':World}(h:Below B w w')(b:B<=g)(c d e:Value):Below B w (((w'.setCell (g,0) c).setCell (g,1) d).setCell (g,2) e):=
 ((h.setCell (by simpa using b) _).setCell (by simpa using b) _).setCell (by simpa using b) _
