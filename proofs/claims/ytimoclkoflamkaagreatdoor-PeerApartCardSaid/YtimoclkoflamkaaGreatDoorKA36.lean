/- sha.Sum: the digest. -/
import Derived.Test.YtimoclkoflamkaaGreatDoorKShaM
import Derived.Test.YtimoclkoflamkaaGreatDoorKA10
set_option linter.all false
set_option maxRecDepth 100000
set_option maxHeartbeats 4000000
open Go.Proofs.Tryz
namespace Go.Proofs.YtimoclkoflamkaaGreatDoor
open Go.RowKit
variable {w:World}{g B i:Nat}{s:ByteArray}
theorem QJ {tmps:Array Value}{V:World}(u:Sh)(c:tmps.getD 0 undef= .pointer (some (g,0)))(b:ag V g 274 (cJ u)):
 (results f225 tmps).run prog V= .ok (kq u) V:=by
 have h:V.cell? (g,0)=some (.int .u32 u.a):=b.cell 0;have l:V.cell? (g,1)=some (.int .u32 u.b):=b.cell 1;have e:V.cell? (g,2)=some (.int .u32 u.c):=b.cell 2;have i:V.cell? (g,3)=some (.int .u32 u.d):=b.cell 3;have j:V.cell? (g,4)=some (.int .u32 u.e):=b.cell 4;have k:V.cell? (g,5)=some (.int .u32 u.f):=b.cell 5;have m:V.cell? (g,6)=some (.int .u32 u.g):=b.cell 6;have d:V.cell? (g,7)=some (.int .u32 u.h):=b.cell 7;simp only[Array.getD_eq_getD_getElem?]at c;simp[results,results225,go_sem,c,h,l,e,i,j,k,m,d,kq]
theorem Ue (w:World):Calls prog 225 #[] w fun e w'=>e= .returned (kq DV)/\(w,w'):=by
 go_enter func225,ntmps225
 go_wp2;refine zl (v:=kq DV) ?_ rfl ?_
 ·exact QJ DV (g:=w.heap.size) rfl (ag.new w _ _)
 exact⟨rfl,bO⟩
theorem ae.kept {E:TypeId}{W d:World}(h:ae [] w W)(b:Kept E w.heap.size W d):ae [] w d:=
 ⟨b.below.os.trans h.os,b.below.tape.trans h.tape,b.below.output.trans h.output,zG h.size b.below.size,fun k c e=>(b.below.block k c).trans (h.block k c e)⟩
theorem QK {P:Program}{d e:TypeId}(h:P.underlying d=some (.slice e))(w:World)(E:TypeId)(b:Array Value)(m:List UInt8)(n c g:Nat)(i:m.length=n)(j:g=w.heap.size)(k:b.toList=cb m):Src P 1 d (.slice (some (g,0)) n c) m.length (cb m) (w.alloc (.cells b E)):=by
 subst i;exact uj h w E b m c g j k
theorem Jy (x:Nat)(hx:x<4294967296):(#[Value.int .u8 ((x:Int)/16777216),.int .u8 ((x:Int)/65536%256),.int .u8 ((x:Int)/256%256),.int .u8 ((x:Int)%256)]:Array Value).toList=cb (wB x):=by
 simp[cb,wB];omega
theorem sm.next {b wr:World}{a nq:Nat}{v u:Sh}{top:Nat}{x:Value}(j:a=64*i)(hx:x= .int .i64 ((a+64:Nat):Int))(e:a+64<=top)(hu:fw v s i=u)(h:ae [] w wr)(c:ae [] (wr.drewN nq) b)
 (l:ag wr B 274 (cJ u)) (k:w.heap.size<=B) (m:top<=s.size):sm w B v s top x (nE b B (pQ uU u (s.extract a (a+64)))):=by
 have d:ag b B 274 (cJ u):=(l.drewN nq).only c (by simp);refine⟨i+1,a+64,by omega,hx,e, ?_,tj _ ((h.drewN nq).trans c) k⟩;rw[fw,hu,<-j];exact Jx _ d
theorem acC (s:ByteArray)(w:World)(hs:s.size<=100000):
 Calls prog 208 #[s] w fun e w'=>e= .returned (.string (tE s))/\(w,w'):=by
 obtain⟨W,hW⟩:∃W,64*(s.size/64)=W:=⟨_,rfl⟩
 have e1:(s.size:Int)-(s.size:Int)%64=(W:Int):=by omega
 have aw:W<=s.size:=by omega
 have U:=za hW;clear hW;go_enter func208,ntmps208
 go_wp2_with fail
 refine(Ue _).mono ?_;rintro e w1 ⟨rfl,aL⟩;unfold kq;go_wp2;obtain⟨S,O⟩:∃S,w1.alloc (.cells #[.int .u32 DV.a,.int .u32 DV.b,.int .u32 DV.c,.int .u32 DV.d,.int .u32 DV.e,.int .u32 DV.f,.int .u32 DV.g,.int .u32 DV.h] 274)=S:=⟨_,rfl⟩
 obtain⟨B,hB⟩:∃B,w1.heap.size=B:=⟨_,rfl⟩
 have VX:w.heap.size<=B:=by have:=aL.size;omega
 have JZ:Hid (ag S B 274 (cJ (fw DV s 0))):=za (by rw[<-O,<-hB];exact ag.new w1 _ _);have an:Hid (ae [] w S):=za (by rw[<-O];exact(ae.ai aL (zd _)).alloc _);rw[O,hB];clear O hB aL;go_loopw [5] (fun v wr=>sm w B DV s W v wr) (fun v _=>W-(intOf v).toNat)
 case atStart=>exact⟨0,0,rfl,rfl,yb _,JZ.out,an.out⟩
 case round=>
  obtain⟨i,a,H,rfl,cG,b,c⟩:=hrel.ex;have l:=Eu WC s i;obtain⟨u,hu⟩:∃u,fw DV s i=u:=⟨_,rfl⟩
  rw[hu]at b l;have HU:=za hu;have N:=za b;have M:=za c;have m:=b.lt;by_cases aD:a<W
  ·have Lf:a+64<=W:=by omega
   have Z:a+64<=s.size:=by omega
   have g1:IntKind.i64.wrap ((a:Int)+64)=(a:Int)+64:=zZ _ (by omega);have g2:((a:Int)+64).toNat=a+64:=by omega
   have g4:(a:Int)<=(a:Int)+64:=by omega
   have g5:(a:Int)+64<=(s.size:Int):=by omega
   have G:=za (fun w=>VB u l (s.extract a (a+64)) (by rw[ar _ _ _ Z];omega) w);obtain⟨y,o,E,q,n,z,D,C⟩:=b.wI;have K:=za (fun(j:World) (nq:Nat) (d:ae [] (wr.drewN nq) j)=>sm.next (x:=((a+64:Nat):Int)) H rfl Lf hu c d b VX aw);obtain⟨nu,J⟩:∃nu,pQ uU u (s.extract a (a+64))=nu:=⟨_,rfl⟩
   rw[J]at G K;unfold kq at G;clear H hu b c J l;go_wp2;refine cB 6 (by kernel_rfl) (by kernel_rfl) ?_;simp only[zR,yv,ya,zL];repeat(go_big_quiet_step (fail))
   refine xO ?_;intro nq;clear y o E q n z D C;go_wp2_with fail
   refine(G.out _).mono ?_;rintro e j ⟨rfl,d⟩;have F:=(N.out.drewN nq).only d (by simp);obtain⟨y,o,E,q,n,z,D,C⟩:=F.wI;obtain⟨f0,f1,f2,f3,f4,f5,f6,f7⟩:=F.VA;have HN:=za (K.out j nq d);clear F d;go_wp2;go_roundw
   case rel=>exact HN.out
   case measure=>simp[intOf];omega
  have av:Hid (i=s.size/64):=za (by have:=U.out;omega);have hp:=fun w=>acb s.size w hs
  have HP:=za hp;have af:=oX s.size;have GW:=sw s.size;have Li:(s.extract W s.size).size<=64:=by rw[ar _ _ _ (zd _)];have:=U.out;omega
  have HL:Hid (tE s=⟨(Ew (fw (fw DV s i) (s.extract W s.size++iF s.size) ((s.extract W s.size++iF s.size).size/64))).toArray⟩):=za (by
   rw[tE,Hr s (s.extract W s.size++iF s.size) (by rw[U.out]),<-av.out])
  have aa:Hid ((s.extract W s.size++iF s.size).size=s.size-W+(dH s.size+9)):=za (by rw[bT,ar _ _ _ (zd _),af]);have az:Hid ((s.size-W+(dH s.size+9))%64=0):=za (by have:=pR s.size;have:=U.out;omega);rw[HU.out]at HL;have ax:a=W:=by omega
  subst ax;generalize iF s.size=pd at*;have aB:pd.size<=72:=by omega
  clear H hu b c af;go_wp2_with fail
  refine(HP.out _).mono ?_;rintro e j ⟨rfl,aI⟩;have Ob:Hid (ag j B 274 (cJ u)):=za ((aI.block _ m).trans N.out);have ao:Hid (ae [] w j):=za (M.out.trans (ae.ai aI (zd _)));clear aI;go_wp2;obtain⟨r,hr⟩:∃r,s.extract a s.size++pd=r:=⟨_,rfl⟩
  rw[hr]at HL aa⊢;have aE:r.size<=200:=by have:=aa.out;omega
  obtain⟨R,rfl⟩:∃R,R=u:=⟨u,rfl⟩
  have al:r.size<=r.size:=zd _;obtain⟨i0,hi,dF,cw,cF⟩:=yz pe;clear hr;go_loopw [9] (fun v wr=>sm w B R r r.size v wr) (fun v _=>r.size-(intOf v).toNat)
  case atStart=>exact⟨0,0,rfl,rfl,yb _,Ob.out,ao.out⟩
  case round=>
   obtain⟨i,a,H,rfl,cG,b,c⟩:=hrel.ex;have l:=Eu l r i;obtain⟨u,hu⟩:∃u,fw R r i=u:=⟨_,rfl⟩
   rw[hu]at b l;have HU:=za hu;have N:=za b;have M:=za c;have m:=b.lt;by_cases aD:a+64<=r.size
   ·have Lf:a+64<=r.size:=by omega
    have Z:a+64<=r.size:=by omega
    have g1:IntKind.i64.wrap ((a:Int)+64)=(a:Int)+64:=zZ _ (by omega);have g2:((a:Int)+64).toNat=a+64:=by omega
    have g4:(a:Int)<=(a:Int)+64:=by omega
    have g5:(a:Int)+64<=(r.size:Int):=by omega
    have G:=za (fun w=>VB u l (r.extract a (a+64)) (by rw[ar _ _ _ Z];omega) w);obtain⟨y,o,E,q,n,z,D,C⟩:=b.wI;have K:=za (fun(j:World) (nq:Nat) (d:ae [] (wr.drewN nq) j)=>sm.next (x:=((a+64:Nat):Int)) H rfl Lf hu c d b VX al);obtain⟨nu,J⟩:∃nu,pQ uU u (r.extract a (a+64))=nu:=⟨_,rfl⟩
    rw[J]at G K;unfold kq at G;clear H hu b c J l;go_wp2;refine cB 6 (by kernel_rfl) (by kernel_rfl) ?_;simp only[zR,yv,ya,zL];repeat(go_big_quiet_step (fail))
    refine xO ?_;intro nq;clear y o E q n z D C;go_wp2_with fail
    refine(G.out _).mono ?_;rintro e j ⟨rfl,d⟩;have F:=(N.out.drewN nq).only d (by simp);obtain⟨y,o,E,q,n,z,D,C⟩:=F.wI;obtain⟨f0,f1,f2,f3,f4,f5,f6,f7⟩:=F.VA;have HN:=za (K.out j nq d);clear F d;go_wp2;go_roundw
    case rel=>exact HN.out
    case measure=>simp[intOf];omega
   have ay:Hid (i=r.size/64):=za (by have:=aa.out;have:=az.out;omega);have Bb:Hid (tE s=⟨(Ew u).toArray⟩):=za (by rw[HL.out,<-ay.out,hu]);obtain⟨y,o,E,q,n,z,D,C⟩:=b.wI;have HT:=za (fun(k:Nat) (Y:k<8) (w':World)=>lT u w' k _ (NA u k Y));have ak:=za (Sh.acB l);have aq:=M.out.size;have d0:decide ((a:Int)+64<=(r.size:Int))=false:=zv (by omega);clear H hu b c l;go_wp2_with (at_make;refine l5 _ (by rfl) _ _ 75 (by rfl) w.heap.size 5 i0 zq hi dF cw cF .i64 .i64 0 32 (by rfl) (by rfl) (by omega) (by omega) aq ?_;intro w3 bJ oQ h;have q0:=(h.cell (p:=(B,0)) m).trans y;have q1:=(h.cell (p:=(B,1)) m).trans o;have q2:=(h.cell (p:=(B,2)) m).trans E;have q3:=(h.cell (p:=(B,3)) m).trans q;have q4:=(h.cell (p:=(B,4)) m).trans n;have q5:=(h.cell (p:=(B,5)) m).trans z;have q6:=(h.cell (p:=(B,6)) m).trans D;have q7:=(h.cell (p:=(B,7)) m).trans C)
   have aj:Hid (ae [] w w3):=za (M.out.trans (ae.ai h (zd _)));clear y o E q n z D C q0 q1 q2 q3 q4 q5 q6 q7 oQ h;go_loopw [10,59] (fun v x wr=>∃k:Nat,k<=8/\x= .int .i64 k/\bP wr w.heap.size 5 v (Ho k u)/\ae [] w wr) (fun _ x _=>8-(intOf x).toNat)
   case atStart=>exact⟨0,by omega,rfl,bJ,aj.out⟩
   case round=>
    obtain⟨k,Y,rfl,I,c⟩:=hrel;obtain⟨A,L,cap,rfl,hL,aA,nH⟩:=I.cy;have HK:=za c;have fa:=c.size;have aC:=sx u k Y;clear c;by_cases ah:k<8
    ·have au:=HT.out k ah;have hx:=ak.out k;have ad:=za (Bo u k ah);obtain⟨x,ab⟩:∃x,u.list.getD k 0=x:=⟨_,rfl⟩
     rw[ab]at au hx ad;have Ol:=za (Jy x hx);have G6:(wB x).length=4:=rfl;generalize wB x=wb at*;generalize Ho k u=LL at*;have Q6:LL.length<=32:=by omega
     clear ab;go_wp2_with (at_builtin;refine aP (by rfl) (.tmp 62) (.tmp 74) 75 75 (by rfl) w.heap.size 5 i0 zq hi dF cw cF (by rfl) (I.alloc _) _ wb (by rfl) (QK zq _ 5 _ wb 4 4 _ G6 (by rfl) Ol.out) (by simp only[zt];omega) (by omega) ?_;intro A3 n3 DD w4 cT Am;have ey:=za cT;have ai:Hid (ae [] w w4):=za ((HK.out.alloc _).kept Am);clear cT Am I)
     go_roundw
     case rel=>exact⟨k+1,by omega,by go_num,by rw[ad.out];exact ey.out,ai.out⟩
     case measure=>simp[intOf];omega
    have e8:k=8:=by omega
    subst e8;rw[WD]at I;have b:=I.H' (P:=prog) zq yt zM;rw[<-Bb.out]at b;obtain⟨X,HX⟩:∃X,Hid (tE s=X):=⟨_,za rfl⟩
    rw[HX.out]at b;clear I;go_wp2;go_ret;exact⟨by rw[HX.out];rfl,HK.out.below (zd _) (by simp)⟩
def Uf (s:ByteArray):Nat->ByteArray
 |0=>s
 |n+1=>tE (Uf s n)
theorem QL (s:ByteArray)(h:s.size<=100000):∀n,(Uf s n).size<=100000
 |0=>h
 |n+1=>by rw[Uf,Bp];omega
theorem Jz (s:ByteArray)(w:World)(j:s.size<=100000):
 Calls prog 172 #[s] w fun e w'=>e= .returned (.string (Hs s))/\(w,w'):=by
 have m:Hid (Uf s 2=Hs s):=za rfl;go_enter func172,ntmps172
 go_wp2;go_loopw [0,3] (fun v i wr=>∃k:Nat,k<=2/\i= .int .i64 k/\v= .string (Uf s k)/\(w,wr)) (fun _ i _=>2-(intOf i).toNat)
 case atStart=>exact⟨0,by omega,rfl,rfl,zm _ _⟩
 case round=>
  obtain⟨k,o,rfl,rfl,b⟩:=hrel;by_cases n:k<2
  ·have h:=za (fun w=>acC (Uf s k) w (QL s j k));have d:Hid (Uf s (k+1)=tE (Uf s k)):=za rfl;generalize Uf s k=t at*;generalize tE t=u at*;go_wp2_with fail
   refine(h.out _).mono ?_;rintro e p ⟨rfl,c⟩;have l:=za (b.trans (c.mono b.size));clear c;go_wp2;go_roundw
   case rel=>exact⟨k+1,by omega,by go_num,by rw[d.out],l.out⟩
   case measure=>simp[intOf];omega
  obtain rfl:k=2:=by omega
  rw[m.out];go_wp2;go_ret;exact⟨rfl,b⟩
theorem K8 (s:ByteArray)(w:World)(h:s.size<=100000):
 Calls prog 127 #[s] w fun e w'=>e= .returned (.string (eP s))/\(w,w'):=by
 have c:=za (fun w=>Jz s w h);have d:Hid (eP s=(Hs s).extract 0 4):=za rfl;have hz:=Bq s;have j:4<=(Hs s).size:=by omega
 clear hz;generalize Hs s=t at*;go_enter func127,ntmps127
 go_wp2_with fail
 refine(c.out _).mono ?_;rintro e i ⟨rfl,b⟩;go_wp2;go_ret;exact⟨by rw[d.out];rfl,b⟩
theorem NB (s t:ByteArray)(w:World)(l:s.size<=100000):
 Calls prog 138 #[s,t] w fun e w'=>e= .returned (.bool (decide (eP s=t)))/\(w,w'):=by
 have i:=za (fun w=>K8 s w l);generalize eP s=u at*;rcases pO t u with⟨b,j,m⟩|⟨b,j,m⟩
 ·have h:Hid (decide (u=t)=true):=za (zF b.symm);clear b;generalize decide (u=t)=d at*;go_enter func138,ntmps138
  go_wp2_with fail
  refine(i.out _).mono ?_;rintro e k ⟨rfl,c⟩;go_wp2;go_ret;exact⟨by rw[h.out];rfl,c⟩
 have h:Hid (decide (u=t)=false):=za (zv (fun e=>b e.symm));clear b;generalize decide (u=t)=d at*;go_enter func138,ntmps138
 go_wp2_with fail
 refine(i.out _).mono ?_;rintro e k ⟨rfl,c⟩;go_wp2;go_ret;exact⟨by rw[h.out];rfl,c⟩
def pw (i:Nat):Nat:=if i=6 then 4 else i+5
theorem JA {j:Nat}(hi:i<7)(b:j<7)(h:pw i=pw j):i=j:=by
 unfold pw at h;split at h<;>split at h<;>omega
def VC (KL:Array Value)(s d1 d2:ByteArray)(i:Nat):Value:=
 if i=0 then .agg KL else if i=1 then .agg KL else if i=2 then .string s else if i=3 then .string d1 else if i=4 then .string d2 else .string (d2.extract 0 4)
structure CkJ (KL:Array Value)(s d1 d2:ByteArray)(listed:Array Bool)(x:Nat->Value):Prop where
 at_:∀i,i<7->listed.getD i false=true->x (pw i)=VC KL s d1 d2 i
theorem CkJ.put {d:Array Value}{c b:ByteArray}{listed:Array Bool}{x:Nat->Value}(h:CkJ d s c b listed x)(i:Nat)(hi:i<7):CkJ d s c b (listed.setIfInBounds i true) (k6 x (pw i) (VC d s c b i)):=⟨fun j k l=>by
 unfold k6;by_cases e:pw j=pw i
 ·rw[zj e,JA k hi e]
 rw[zi e];rcases dk l with h1|h1
 ·subst h1;exact absurd rfl e
 exact h.at_ j k h1⟩
theorem wJ (n:Nat)(w:World)(b:n<4294967296):
 Calls prog 126 #[.int .u64 n,(4:Int)] w fun e w'=>e= .returned (.tuple #[.string (ra n),(0:Int)])/\(w,w'):=
 jG n 4 w (by simpa using b) (by omega) (by omega)
theorem JB (m:Nat)(nm body:ByteArray)(w:World)(d:m<4294967296)(c:nm.size<=9223372036854775807)(b:b8 nm=false):
 Calls prog 89 #[.int .u32 m,nm,body] w fun e w'=>e= .returned (.tuple #[ByteArray.empty,(11:Int)])/\w=w':=by
 have H:=za (MF nm w c b);clear b;go_enter func89,ntmps89
 go_wp2_with fail
 refine H.out.mono ?_;rintro e w' ⟨rfl,rfl⟩;go_wp2;go_ret2
 exact⟨rfl,rfl⟩
theorem Du (m:Nat)(nm body:ByteArray)(w:World)(i:m<4294967296)(b:b8 nm=true)(d:65536<body.size)(h:body.size<=9223372036854775807):
 Calls prog 89 #[.int .u32 m,nm,body] w fun e w'=>e= .returned (.tuple #[ByteArray.empty,(5:Int)])/\(w,w'):=by
 have H:=za (Fy nm w b);clear b;go_enter func89,ntmps89
 go_wp2_with fail
 refine H.out.mono ?_;rintro e w' ⟨rfl,c⟩;go_wp2;go_ret2
 exact⟨rfl,c⟩
theorem NC (m:Nat)(nm body:ByteArray)(w:World)(p:m<4294967296)(i:b8 nm=true)(D:body.size<=65536):
 Calls prog 89 #[.int .u32 m,nm,body] w fun e w'=>e= .returned (.tuple #[.string (mQ m nm body),(0:Int)])/\(w,w'):=by
 have H:=za (Fy nm w i);have r:=za (fun w=>wJ m w p);have y:=za (fun w=>wJ body.size w (by omega));have q:=za (fun w=>K8 body w (by omega));have x:Hid (mQ m nm body=ra m++eQ nm++ra body.size++eP body++body):=za rfl;have z:=jC m;have C:=jC body.size;have z3:=ib nm (dx i).2;have z4:=lB body;clear i;generalize ra m=a at*;generalize ra body.size=b at*;generalize eQ nm=c at*;generalize eP body=d at*;go_enter func89,ntmps89
 go_wp2_with fail
 refine H.out.mono ?_;rintro e E ⟨rfl,j⟩;go_wp2_with fail
 refine(r.out _).mono ?_;rintro e A ⟨rfl,h⟩;go_wp2_with fail
 refine(y.out _).mono ?_;rintro e w3 ⟨rfl,k⟩;go_wp2_with fail
 refine(q.out _).mono ?_;rintro e B ⟨rfl,l⟩;have n:=j.size;have s:=h.size;have o:=k.size;have u:=j.trans ((h.mono n).trans ((k.mono (by omega)).trans (l.mono (by omega))));clear j h k l n s o;go_wp2;go_ret2
 exact⟨by rw[x.out];rfl,u⟩
theorem lg (h:Bool)(e:Int)(w:World):Calls prog 131 #[h,e] w fun b w'=>b= .returned (.int .i64 (if h then 0 else e))/\w=w':=by
 cases h
 ·go_enter func131,ntmps131
  go_wp2;go_ret;exact⟨rfl,rfl⟩
 go_enter func131,ntmps131
 go_wp2;go_ret;exact⟨rfl,rfl⟩
theorem wK (s:ByteArray)(b i j:Nat)(w:World)(c:ag w b 9 #[s])(o:i<j)(d:j<=s.size)(n:j-i<=8)(l:s.size<=9223372036854775807):
 Calls prog 128 #[i,j,(b,0)] w fun e w'=>e= .returned (.int .u64 (da (s.extract i j).data.toList))/\w=w':=by
 have hz:(s.extract i j).size=j-i:=ar _ _ _ d;have h:=za (fun w=>eX (s.extract i j) w (by omega) (by omega));have k:w.cell? (b,0)=some (.string s):=zX c;clear hz;generalize da (s.extract i j).data.toList=N at*;go_enter func128,ntmps128
 go_wp2_with fail
 refine(h.out _).mono ?_;rintro e m ⟨rfl,rfl⟩;go_wp2;go_ret;exact⟨rfl,rfl⟩
theorem ND (b k:Nat)(w:World):Calls prog 129 #[k,(b,0)] w fun e w'=>e= .returned (.func (.func 130) #[] #[(b,0),(w.heap.size,0)])/\w'=w.alloc (.cells #[k] 3):=by
 go_enter func129,ntmps129
 go_wp2;go_ret;exact⟨rfl,rfl⟩
theorem uA (s:ByteArray)(b c k:Nat)(w:World)(i:ag w b 9 #[s])(l:ag w c 3 #[k])(p:s.size<=9223372036854775807)(o:k<=100):
 Calls prog 130 #[(b,0),(c,0)] w fun e w'=>e= .returned (.int .i64 (if k<=s.size then 0 else 2))/\w=w':=by
 have n:w.cell? (b,0)=some (.string s):=zX i;have m:w.cell? (c,0)=some (.int .i64 k):=zX l;have d:=za (fun h w=>lg h 2 w);by_cases h:k<=s.size
 ·rw[zj h];go_enter func130,ntmps130
  go_wp2_with fail
  refine(d.out _ _).mono ?_;rintro e j ⟨rfl,rfl⟩;go_wp2;go_ret;exact⟨rfl,rfl⟩
 rw[zi h];go_enter func130,ntmps130
 go_wp2_with fail
 refine(d.out _ _).mono ?_;rintro e j ⟨rfl,rfl⟩;go_wp2;go_ret;exact⟨rfl,rfl⟩
def VD (b:Nat):Value:= .func (.func 128) #[] #[(b,0)]
theorem Ug (s:ByteArray)(b c d m:Nat)(w:World)(l:ag w b 9 #[s])(o:ag w c 184 #[VD b])(hd:ag w d 22 #[.int .u32 m])(r:m<4294967296)(p:s.size<=9223372036854775807)(q:4<=s.size):
 Calls prog 132 #[(c,0),(d,0)] w fun e w'=>e= .returned (.int .i64 (if da (s.extract 0 4).data.toList=m then 0 else 9))/\∃n,w'=w.drewN n:=by
 have i:=za (fun n=>wK s b 0 4 (w.drewN n) (l.drewN n) (by omega) q (by omega) p);have k:w.cell? (c,0)=some (VD b):=zX o;have u:w.cell? (d,0)=some (.int .u32 m):=zX hd;have j:=za (fun h w=>lg h 9 w);unfold VD at k;generalize da (s.extract 0 4).data.toList=N at*;by_cases h:N=m
 ·rw[zj h];have hd:((N:Int)==(m:Int))=true:=by rw[h];simp
  clear h;go_enter func132,ntmps132
  go_wp2_with fail
  go_quiet ((first|(go_at_call 128;with_reducible exact Calls.eZ (i.out _))|(go_at_call 131;with_reducible exact Calls.eZ (j.out _ _))))
  go_wp2;go_ret;exact⟨rfl,nq,rfl⟩
 rw[zi h];have hd:((N:Int)==(m:Int))=false:=zp.2 (by omega);clear h;go_enter func132,ntmps132
 go_wp2_with fail
 go_quiet ((first|(go_at_call 128;with_reducible exact Calls.eZ (i.out _))|(go_at_call 131;with_reducible exact Calls.eZ (j.out _ _))))
 go_wp2;go_ret;exact⟨rfl,nq,rfl⟩
theorem Uh (s:ByteArray)(b nb:Nat)(v:Value)(w:World)(i:ag w b 9 #[s])(d:ag w nb 9 #[v])(q:nb≠b)(o:s.size<=9223372036854775807)(j:16<=s.size):
 Calls prog 133 #[(b,0),(nb,0)] w fun e w'=>e= .returned (.int .i64 (cX (s.extract 4 16)).1)/\w'=w.setCell (nb,0) (.string (cX (s.extract 4 16)).2):=by
 have c:=za (fun w=>PD (s.extract 4 16) w (by rw[ar _ _ _ j];omega));have n:w.cell? (b,0)=some (.string s):=zX i;have m:w.cell? (nb,0)=some v:=zX d;have p:w.frozen? (nb,0)=false:=Zr d;have l:=za (fun h w=>lg h 3 w);rcases sA (s.extract 4 16)with hg|⟨t,hg⟩;all_goals
  rw[hg]at c⊢;clear hg;go_enter func133,ntmps133
  go_wp2_with fail
  refine(c.out _).mono ?_;rintro e k ⟨rfl,rfl⟩;go_wp2_with fail
  refine(l.out _ _).mono ?_;rintro e k ⟨rfl,rfl⟩;go_wp2;go_ret;exact⟨rfl,rfl⟩
theorem XZ (s:ByteArray)(b c lb d:Nat)(v:Value)(most:Int)(w:World)(o:ag w b 9 #[s])(r:ag w c 184 #[VD b])(k:ag w lb 3 #[v])(q:ag w d 3 #[most])(l:lb≠d)(u:s.size<=9223372036854775807)(p:20<=s.size):
 Calls prog 135 #[(c,0),(lb,0),(d,0)] w fun e w'=>e= .returned (.int .i64 (if(da (s.extract 16 20).data.toList:Int)<=most then 0 else 5))/\w'=w.setCell (lb,0) (.int .i64 (da (s.extract 16 20).data.toList)):=by
 have j:=za (fun(_:Unit)=>wK s b 16 20 w o (by omega) p (by omega) u);have B:=uk (s.extract 16 20) (ar _ _ _ (by omega));have n:w.cell? (c,0)=some (VD b):=zX r;have A:w.cell? (d,0)=some (.int .i64 most):=zX q;have y:w.cell? (lb,0)=some v:=zX k;have x:w.frozen? (lb,0)=false:=Zr k;have m:=za (fun h w=>lg h 5 w);unfold VD at n;have z:(lb=d)=False:=yH l;clear l;generalize da (s.extract 16 20).data.toList=N at*;by_cases h:(N:Int)<=most
 ·rw[zj h];have hd:decide ((N:Int)<=most)=true:=zF h;clear h;go_enter func135,ntmps135
  go_wp2_with fail
  refine(j.out ()).mono ?_;rintro e i ⟨rfl,rfl⟩;go_wp2_with fail
  refine(m.out _ _).mono ?_;rintro e i ⟨rfl,rfl⟩;go_wp2;go_ret;exact⟨rfl,rfl⟩
 rw[zi h];have hd:decide ((N:Int)<=most)=false:=zv h;clear h;go_enter func135,ntmps135
 go_wp2_with fail
 refine(j.out ()).mono ?_;rintro e i ⟨rfl,rfl⟩;go_wp2_with fail
 refine(m.out _ _).mono ?_;rintro e i ⟨rfl,rfl⟩;go_wp2;go_ret;exact⟨rfl,rfl⟩
theorem Ui (s:ByteArray)(b lb N:Nat)(w:World)(d:ag w b 9 #[s])(i:ag w lb 3 #[N])(n:s.size<=9223372036854775807)(m:N<4294967296):
 Calls prog 136 #[(b,0),(lb,0)] w fun e w'=>e= .returned (.int .i64 (if 24+N<=s.size then 0 else 2))/\w=w':=by
 have l:w.cell? (b,0)=some (.string s):=zX d;have k:w.cell? (lb,0)=some (.int .i64 N):=zX i;have c:=za (fun h w=>lg h 2 w);by_cases h:24+N<=s.size
 ·rw[zj h];have hd:decide ((N:Int)<=(s.size:Int)-24)=true:=zF (by omega);clear h;go_enter func136,ntmps136
  go_wp2_with fail
  refine(c.out _ _).mono ?_;rintro e j ⟨rfl,rfl⟩;go_wp2;go_ret;exact⟨rfl,rfl⟩
 rw[zi h];have hd:decide ((N:Int)<=(s.size:Int)-24)=false:=zv (by omega);clear h;go_enter func136,ntmps136
 go_wp2_with fail
 refine(c.out _ _).mono ?_;rintro e j ⟨rfl,rfl⟩;go_wp2;go_ret;exact⟨rfl,rfl⟩
theorem X1 (s:ByteArray)(b lb N:Nat)(w:World)(l:ag w b 9 #[s])(i:ag w lb 3 #[N])(A:s.size<=1099511627776)(y:24+N<=s.size)(I:N<=100000):
 Calls prog 137 #[(b,0),(lb,0)] w fun e w'=>e= .returned (.int .i64 (if eP (s.extract 24 (24+N))=s.extract 20 24 then 0 else 10))/\(w,w'):=by
 have d:w.cell? (b,0)=some (.string s):=zX l;have n:w.cell? (lb,0)=some (.int .i64 N):=zX i;have B:=l.lt;have C:=i.lt;have o:=za (fun w=>NB (s.extract 24 (24+N)) (s.extract 20 24) w (by rw[ar _ _ _ y];omega));have j:=za (fun h w=>(lg h 10 w).mono (R':=fun m w'=>m= .returned (.int .i64 (if h then 0 else 10))/\(w,w')) fun e w' h=>⟨h.1,by rw[<-h.2];exact zm _ _⟩);have k:Hid ((if decide (eP (s.extract 24 (24+N))=s.extract 20 24)=true then(0:Int)else 10)=if eP (s.extract 24 (24+N))=s.extract 20 24 then 0 else 10):=za (by simp);rw[<-k.out];generalize decide (eP (s.extract 24 (24+N))=s.extract 20 24)=D at*;clear k;have G:(24:Int)+N<=s.size:=by omega
 have u:=za (j.out D);clear j;generalize (if D=true then(0:Int)else 10)=r at*;have F:(24:Int)<=24+N:=by omega
 have J:(24:Int)<=s.size:=by omega
 have E:IntKind.i64.wrap (24+(N:Int))=24+N:=zZ _ (by omega);have H:(24+(N:Int)).toNat=24+N:=by omega
 go_enter func137,ntmps137
 go_wp2_with fail
 refine iV (by kernel_rfl) (by kernel_rfl) ?_;refine aE (.string s) (by rfl) (fun w' c=>by have q:=(c.cell (p:=(b,0)) (by simpa using by assumption)).trans d;go_simp) ?_;simp only[Act.put,zb,ze,zg];refine aE (.int .i64 N) (by rfl) (fun w' c=>by have q:=(c.cell (p:=(lb,0)) (by simpa using by assumption)).trans n;go_simp) ?_;simp only[Act.put,zb,ze,zg];refine aE (.int .i64 (24+N)) (by rfl) (fun _ _=>by first|rfl|go_simp) ?_;simp only[Act.put,zb,ze,zg];refine aE (.string (s.extract 24 (24+N))) (by rfl) (fun _ _=>by first|rfl|go_simp) ?_;simp only[Act.put,zb,ze,zg];refine aE (.string s) (by rfl) (fun w' c=>by have q:=(c.cell (p:=(b,0)) (by simpa using by assumption)).trans d;go_simp) ?_;simp only[Act.put,zb,ze,zg];refine aE (.string (s.extract 20 24)) (by rfl) (fun _ _=>by first|rfl|go_simp) ?_;simp only[Act.put,zb,ze,zg];refine eI 138 _ _ (by rfl) (fun _=>by first|rfl|go_simp) (fun w _=>o.out _) ?_;simp only[Act.put,zb,ze,zg];refine eI 131 _ _ (by rfl) (fun _=>by first|rfl|go_simp) (fun w _=>u.out _) ?_;simp only[Act.put,zb,ze,zg];refine aE (.int .i64 r) (by rfl) (fun _ _=>by first|rfl|go_simp) ?_;simp only[Act.put,zb,ze,zg];refine xO ?_;intro z x;go_wp2;go_ret;exact⟨rfl,x⟩
def acD (r:Int×ByteArray×ByteArray×Nat):Value:= .tuple #[.agg #[.int .u64 0,r.2.1,r.2.2.1],r.2.2.2,r.1]
theorem oK {t:TypeId}{i e j:Value}(h:ag w g t #[i,e,j])(d c b:Value):ag (((w.setCell (g,0) d).setCell (g,1) c).setCell (g,2) b) g t #[d,c,b]:=((h.set 0 d).set 1 c).set 2 b
theorem kB {w':World}(h:Below B w w')(b:B<=g)(e d c:Value):Below B w (((w'.setCell (g,0) e).setCell (g,1) d).setCell (g,2) c):=
 ((h.setCell (by simpa using b) _).setCell (by simpa using b) _).setCell (by simpa using b) _
