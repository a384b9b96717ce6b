/- sha.Sum: the digest. -/
import Derived.Test.YtdbmifjankgfpaaGreatDoorKShaM
import Derived.Test.YtdbmifjankgfpaaGreatDoorRows
import Derived.Test.YtdbmifjankgfpaaGreatDoorKA22
import Derived.Lib.LaidTab
import Derived.Stop.LaidErr
import Derived.MakeChecks
set_option linter.all false
set_option maxRecDepth 100000
set_option maxHeartbeats 4000000
open Go.Proofs.Tryz
namespace Go.Proofs.YtdbmifjankgfpaaGreatDoor
open Go.RowKit
def ZZ:=@MakeChecks.laidMetH_plain
theorem QP {tmps:Array Value}{V:World}{g:Nat}(u:Sh)(c:tmps.getD 0 undef= .pointer (some ⟨g,0,none⟩))(b:af V g 244 (cN u)):
 (results f189 tmps).run prog V= .ok (kG u) V:=by
 have h:V.cell? ⟨g,0,none⟩=some (.int .u32 u.a):=b.cell 0;have e:V.cell? ⟨g,1,none⟩=some (.int .u32 u.b):=b.cell 1;have m:V.cell? ⟨g,2,none⟩=some (.int .u32 u.c):=b.cell 2;have i:V.cell? ⟨g,3,none⟩=some (.int .u32 u.d):=b.cell 3;have d:V.cell? ⟨g,4,none⟩=some (.int .u32 u.e):=b.cell 4;have l:V.cell? ⟨g,5,none⟩=some (.int .u32 u.f):=b.cell 5;have j:V.cell? ⟨g,6,none⟩=some (.int .u32 u.g):=b.cell 6;have k:V.cell? ⟨g,7,none⟩=some (.int .u32 u.h):=b.cell 7;simp only[Array.getD_eq_getD_getElem?]at c;simp[results,results189,go_sem,c,h,e,m,i,d,l,j,k,kG]
theorem Ur (w:World):Calls prog 189 #[] w fun e w'=>e= .returned (kG Eg)/\Below w.heap.size w w':=by
 go_enter func189,ntmps189
 go_wp2;refine zk (v:=kG Eg) ?_ rfl ?_
 ·exact QP Eg (g:=w.heap.size) rfl (af.new w _ _)
 exact⟨rfl,bQ⟩
theorem ae.kept {E:TypeId}{w W d:World}(h:ae [] w W)(b:Kept E w.heap.size W d):ae [] w d:=
 ⟨b.below.os.trans h.os,b.below.tape.trans h.tape,b.below.output.trans h.output,zF h.size b.below.size,fun k c e=>(b.below.block k c).trans (h.block k c e)⟩
theorem QQ {P:Program}{d i:TypeId}(h:P.underlying d=some (.slice i))(w:World)(E:TypeId)(b:Array Value)(m:List UInt8)(n c g:Nat)(k:m.length=n)(j:g=w.heap.size)(e:b.toList=cb m):Src P 1 d (.slice (some ⟨g,0,none⟩) n c) m.length (cb m) (w.alloc (.cells b E)):=by
 subst k;exact ug h w E b m c g j e
theorem Jx (x:Nat)(hx:x<4294967296):(#[Value.int .u8 ((x:Int)/16777216),.int .u8 ((x:Int)/65536%256),.int .u8 ((x:Int)/256%256),.int .u8 ((x:Int)%256)]:Array Value).toList=cb (wB x):=by
 simp[cb,wB];omega
theorem sj.next {w b wr:World}{B i a nq:Nat}{v u:Sh}{s:ByteArray}{top:Nat}{x:Value}(h:a=64*i)(hx:x= .int .i64 ((a+64:Nat):Int))(d:a+64<=top)(hu:fB v s i=u)(l:ae [] w wr)(c:ae [] (wr.drewN nq) b)
 (k:af wr B 244 (cN u)) (j:w.heap.size<=B) (m:top<=s.size):sj w B v s top x (nT b B (qb uW u (s.extract a (a+64)))):=by
 have e:af b B 244 (cN u):=(k.drewN nq).only c (by simp);refine⟨i+1,a+64,by omega,hx,d, ?_,tv _ ((l.drewN nq).trans c) j⟩;rw[fB,hu,<-h];exact Jw _ e
theorem acI (s:ByteArray)(w:World)(hs:s.size<=100000):
 Calls prog 159 #[.string s] w fun e w'=>e= .returned (.string (tD s))/\Below w.heap.size w w':=by
 obtain⟨W,hW⟩:∃W,64*(s.size/64)=W:=⟨_,rfl⟩
 have e1:(s.size:Int)-(s.size:Int)%64=(W:Int):=by omega
 have ao:W<=s.size:=by omega
 have N:=za hW;clear hW;go_enter func159,ntmps159
 go_wp2_with fail
 refine(Ur _).mono ?_;rintro e Y ⟨rfl,aH⟩;unfold kG;go_wp2;obtain⟨M,O⟩:∃M,Y.alloc (.cells #[.int .u32 Eg.a,.int .u32 Eg.b,.int .u32 Eg.c,.int .u32 Eg.d,.int .u32 Eg.e,.int .u32 Eg.f,.int .u32 Eg.g,.int .u32 Eg.h] 244)=M:=⟨_,rfl⟩
 obtain⟨B,hB⟩:∃B,Y.heap.size=B:=⟨_,rfl⟩
 have V1:w.heap.size<=B:=by have:=aH.size;omega
 have OI:Hid (af M B 244 (cN (fB Eg s 0))):=za (by rw[<-O,<-hB];exact af.new Y _ _);have aB:Hid (ae [] w M):=za (by rw[<-O];exact(ae.ah aH (zd _)).alloc _);rw[O,hB];clear O hB aH;go_loopw [5] (fun v wr=>sj w B Eg s W v wr) (fun v _=>W-(intOf v).toNat)
 case atStart=>exact⟨0,0,rfl,rfl,yc _,OI.out,aB.out⟩
 case round=>
  obtain⟨i,a,H,rfl,cX,b,c⟩:=hrel.ex;have l:=EK WO s i;obtain⟨u,hu⟩:∃u,fB Eg s i=u:=⟨_,rfl⟩
  rw[hu]at b l;have HU:=za hu;have S:=za b;have U:=za c;have j:=b.lt;by_cases aD:a<W
  ·have Lx:a+64<=W:=by omega
   have ab:a+64<=s.size:=by omega
   have g1:IntKind.i64.wrap ((a:Int)+64)=(a:Int)+64:=zZ _ (by omega);have g2:((a:Int)+64).toNat=a+64:=by omega
   have g4:(a:Int)<=(a:Int)+64:=by omega
   have g5:(a:Int)+64<=(s.size:Int):=by omega
   have F:=za (fun w=>VI u l (s.extract a (a+64)) (by rw[aj _ _ _ ab];omega) w);obtain⟨q,o,C,n,z,E,D,y⟩:=b.wM;have J:=za (fun(h:World) (nq:Nat) (d:ae [] (wr.drewN nq) h)=>sj.next (x:= .int .i64 ((a+64:Nat):Int)) H rfl Lx hu c d b V1 ao);obtain⟨nu,K⟩:∃nu,qb uW u (s.extract a (a+64))=nu:=⟨_,rfl⟩
   rw[K]at F J;unfold kG at F;clear H hu b c K l;go_wp2;refine cE 6 (by kernel_rfl) (by kernel_rfl) ?_;simp only[zP,yz,yg,zK];repeat(go_big_quiet_step (fail))
   refine xL ?_;intro nq;clear q o C n z E D y;go_wp2_with fail
   refine(F.out _).mono ?_;rintro e h ⟨rfl,d⟩;have G:=(S.out.drewN nq).only d (by simp);obtain⟨q,o,C,n,z,E,D,y⟩:=G.wM;obtain⟨f0,f1,f2,f3,f4,f5,f6,f7⟩:=G.VH;have HN:=za (J.out h nq d);clear G d;go_wp2;go_roundw
   case rel=>exact HN.out
   case measure=>simp[intOf];omega
  have al:Hid (i=s.size/64):=za (by have:=N.out;omega);have hp:=fun w=>ach s.size w hs
  have HP:=za hp;have ah:=pa s.size;have DR:=sJ s.size;have LA:(s.extract W s.size).size<=64:=by rw[aj _ _ _ (zd _)];have:=N.out;omega
  have HL:Hid (tD s=⟨(EM (fB (fB Eg s i) (s.extract W s.size++iM s.size) ((s.extract W s.size++iM s.size).size/64))).toArray⟩):=za (by
   rw[tD,Hw s (s.extract W s.size++iM s.size) (by rw[N.out]),<-al.out])
  have aa:Hid ((s.extract W s.size++iM s.size).size=s.size-W+(dP s.size+9)):=za (by rw[bD,aj _ _ _ (zd _),ah]);have ak:Hid ((s.size-W+(dP s.size+9))%64=0):=za (by have:=qc s.size;have:=N.out;omega);rw[HU.out]at HL;have ar:a=W:=by omega
  subst ar;generalize iM s.size=pd at*;have aF:pd.size<=72:=by omega
  clear H hu b c ah;go_wp2_with fail
  refine(HP.out _).mono ?_;rintro e h ⟨rfl,Z⟩;have az:Hid (af h B 244 (cN u)):=za ((Z.block _ j).trans S.out);have aw:Hid (ae [] w h):=za (U.out.trans (ae.ah Z (zd _)));clear Z;go_wp2;obtain⟨r,hr⟩:∃r,s.extract a s.size++pd=r:=⟨_,rfl⟩
  rw[hr]at HL aa⊢;have aG:r.size<=200:=by have:=aa.out;omega
  obtain⟨R,rfl⟩:∃R,R=u:=⟨u,rfl⟩
  have ay:r.size<=r.size:=zd _;obtain⟨i0,hi,ea,cl,cC⟩:=yE pw;clear hr;go_loopw [9] (fun v wr=>sj w B R r r.size v wr) (fun v _=>r.size-(intOf v).toNat)
  case atStart=>exact⟨0,0,rfl,rfl,yc _,az.out,aw.out⟩
  case round=>
   obtain⟨i,a,H,rfl,cX,b,c⟩:=hrel.ex;have l:=EK l r i;obtain⟨u,hu⟩:∃u,fB R r i=u:=⟨_,rfl⟩
   rw[hu]at b l;have HU:=za hu;have S:=za b;have U:=za c;have j:=b.lt;by_cases aD:a+64<=r.size
   ·have Lx:a+64<=r.size:=by omega
    have ab:a+64<=r.size:=by omega
    have g1:IntKind.i64.wrap ((a:Int)+64)=(a:Int)+64:=zZ _ (by omega);have g2:((a:Int)+64).toNat=a+64:=by omega
    have g4:(a:Int)<=(a:Int)+64:=by omega
    have g5:(a:Int)+64<=(r.size:Int):=by omega
    have F:=za (fun w=>VI u l (r.extract a (a+64)) (by rw[aj _ _ _ ab];omega) w);obtain⟨q,o,C,n,z,E,D,y⟩:=b.wM;have J:=za (fun(h:World) (nq:Nat) (d:ae [] (wr.drewN nq) h)=>sj.next (x:= .int .i64 ((a+64:Nat):Int)) H rfl Lx hu c d b V1 ay);obtain⟨nu,K⟩:∃nu,qb uW u (r.extract a (a+64))=nu:=⟨_,rfl⟩
    rw[K]at F J;unfold kG at F;clear H hu b c K l;go_wp2;refine cE 6 (by kernel_rfl) (by kernel_rfl) ?_;simp only[zP,yz,yg,zK];repeat(go_big_quiet_step (fail))
    refine xL ?_;intro nq;clear q o C n z E D y;go_wp2_with fail
    refine(F.out _).mono ?_;rintro e h ⟨rfl,d⟩;have G:=(S.out.drewN nq).only d (by simp);obtain⟨q,o,C,n,z,E,D,y⟩:=G.wM;obtain⟨f0,f1,f2,f3,f4,f5,f6,f7⟩:=G.VH;have HN:=za (J.out h nq d);clear G d;go_wp2;go_roundw
    case rel=>exact HN.out
    case measure=>simp[intOf];omega
   have ax:Hid (i=r.size/64):=za (by have:=aa.out;have:=ak.out;omega);have N9:Hid (tD s=⟨(EM u).toArray⟩):=za (by rw[HL.out,<-ax.out,hu]);obtain⟨q,o,C,n,z,E,D,y⟩:=b.wM;have HT:=za (fun(k:Nat) (hk:k<8) (w':World)=>mh u w' k _ (NN u k hk));have an:=za (Sh.acH l);have aq:=U.out.size;have d0:decide ((a:Int)+64<=(r.size:Int))=false:=zu (by omega);clear H hu b c l;go_wp2_with (at_make;refine mu _ (by rfl) _ _ 31 (by rfl) w.heap.size 5 i0 zr hi ea cl cC .i64 .i64 0 32 (by rfl) (by rfl) (by omega) (by omega) aq ?_;intro w3 bU DS m;have q0:=(m.cell (p:=⟨B,0,none⟩) j).trans q;have q1:=(m.cell (p:=⟨B,1,none⟩) j).trans o;have q2:=(m.cell (p:=⟨B,2,none⟩) j).trans C;have q3:=(m.cell (p:=⟨B,3,none⟩) j).trans n;have q4:=(m.cell (p:=⟨B,4,none⟩) j).trans z;have q5:=(m.cell (p:=⟨B,5,none⟩) j).trans E;have q6:=(m.cell (p:=⟨B,6,none⟩) j).trans D;have q7:=(m.cell (p:=⟨B,7,none⟩) j).trans y)
   have au:Hid (ae [] w w3):=za (U.out.trans (ae.ah m (zd _)));clear q o C n z E D y q0 q1 q2 q3 q4 q5 q6 q7 DS m;go_loopw [10,59] (fun v x wr=>∃k:Nat,k<=8/\x= .int .i64 k/\bL wr w.heap.size 5 v (Hu k u)/\ae [] w wr) (fun _ x _=>8-(intOf x).toNat)
   case atStart=>exact⟨0,by omega,rfl,bU,au.out⟩
   case round=>
    obtain⟨k,hk,rfl,I,c⟩:=hrel;obtain⟨A,L,cap,rfl,hL,aE,qZ⟩:=I.bT;have HK:=za c;have gF:=c.size;have aC:=sK u k hk;clear c;by_cases ai:k<8
    ·have av:=HT.out k ai;have hx:=an.out k;have ag:=za (BL u k ai);obtain⟨x,ad⟩:∃x,u.list.getD k 0=x:=⟨_,rfl⟩
     rw[ad]at av hx ag;have Ox:=za (Jx x hx);have LJ:(wB x).length=4:=rfl;generalize wB x=wb at*;generalize Hu k u=LL at*;have Rb:LL.length<=32:=by omega
     clear ad;go_wp2_with (at_builtin;refine aT (by rfl) (.tmp 62) (.tmp 74) 31 31 (by rfl) w.heap.size 5 i0 zr hi ea cl cC (by rfl) (I.alloc _) _ wb (by rfl) (QQ zr _ 5 _ wb 4 4 _ LJ (by rfl) Ox.out) (by simp only[zp];omega) (by omega) ?_;intro A3 n3 ra w4 bR J4;have ei:=za bR;have aA:Hid (ae [] w w4):=za ((HK.out.alloc _).kept J4);clear bR J4 I)
     go_roundw
     case rel=>exact⟨k+1,by omega,by go_num,by rw[ag.out];exact ei.out,aA.out⟩
     case measure=>simp[intOf];omega
    have e8:k=8:=by omega
    subst e8;rw[WQ]at I;have b:=I.EV (P:=prog) zr yb zG;rw[<-N9.out]at b;obtain⟨X,HX⟩:∃X,Hid (tD s=X):=⟨_,za rfl⟩
    rw[HX.out]at b;clear I;go_wp2;go_ret;exact⟨by rw[HX.out];rfl,HK.out.below (zd _) (by simp)⟩
def Us (s:ByteArray):Nat->ByteArray
 |0=>s
 |n+1=>tD (Us s n)
theorem QR (s:ByteArray)(h:s.size<=100000):∀n,(Us s n).size<=100000
 |0=>h
 |n+1=>by rw[Us,BM];omega
theorem Jy (s:ByteArray)(w:World)(d:s.size<=100000):
 Calls prog 129 #[.string s] w fun e w'=>e= .returned (.string (Hx s))/\Below w.heap.size w w':=by
 have j:Hid (Us s 2=Hx s):=za rfl;go_enter func129,ntmps129
 go_wp2;go_loopw [0,3] (fun v i wr=>∃k:Nat,k<=2/\i= .int .i64 k/\v= .string (Us s k)/\Below w.heap.size w wr) (fun _ i _=>2-(intOf i).toNat)
 case atStart=>exact⟨0,by omega,rfl,rfl,zl _ _⟩
 case round=>
  obtain⟨k,o,rfl,rfl,b⟩:=hrel;by_cases p:k<2
  ·have h:=za (fun w=>acI (Us s k) w (QR s d k));have l:Hid (Us s (k+1)=tD (Us s k)):=za rfl;generalize Us s k=t at*;generalize tD t=u at*;go_wp2_with fail
   refine(h.out _).mono ?_;rintro e n ⟨rfl,c⟩;have m:=za (b.trans (c.mono b.size));clear c;go_wp2;go_roundw
   case rel=>exact⟨k+1,by omega,by go_num,by rw[l.out],m.out⟩
   case measure=>simp[intOf];omega
  obtain rfl:k=2:=by omega
  rw[j.out];go_wp2;go_ret;exact⟨rfl,b⟩
theorem Lg (s:ByteArray)(w:World)(b:s.size<=100000):
 Calls prog 98 #[.string s] w fun e w'=>e= .returned (.string (eQ s))/\Below w.heap.size w w':=by
 have c:=za (fun w=>Jy s w b);have h:Hid (eQ s=(Hx s).extract 0 4):=za rfl;have hz:=BN s;have j:4<=(Hx s).size:=by omega
 clear hz;generalize Hx s=t at*;go_enter func98,ntmps98
 go_wp2_with fail
 refine(c.out _).mono ?_;rintro e i ⟨rfl,d⟩;go_wp2;go_ret;exact⟨by rw[h.out];rfl,d⟩
theorem NO (s t:ByteArray)(w:World)(k:s.size<=100000):
 Calls prog 109 #[.string s,.string t] w fun e w'=>e= .returned (.bool (decide (eQ s=t)))/\Below w.heap.size w w':=by
 have i:=za (fun w=>Lg s w k);generalize eQ s=u at*;rcases pZ t u with⟨b,l,m⟩|⟨b,l,m⟩
 ·have c:Hid (decide (u=t)=true):=za (zE b.symm);clear b;generalize decide (u=t)=d at*;go_enter func109,ntmps109
  go_wp2_with fail
  refine(i.out _).mono ?_;rintro e j ⟨rfl,h⟩;go_wp2;go_ret;exact⟨by rw[c.out];rfl,h⟩
 have c:Hid (decide (u=t)=false):=za (zu (fun e=>b e.symm));clear b;generalize decide (u=t)=d at*;go_enter func109,ntmps109
 go_wp2_with fail
 refine(i.out _).mono ?_;rintro e j ⟨rfl,h⟩;go_wp2;go_ret;exact⟨by rw[c.out];rfl,h⟩
def pF (i:Nat):Nat:=if i=6 then 4 else i+5
theorem Jz {i j:Nat}(hi:i<7)(b:j<7)(h:pF i=pF j):i=j:=by
 unfold pF at h;split at h<;>split at h<;>omega
def VJ (KL:Array Value)(s d1 d2:ByteArray)(i:Nat):Value:=
 if i=0 then .agg KL else if i=1 then .agg KL else if i=2 then .string s else if i=3 then .string d1 else if i=4 then .string d2 else .string (d2.extract 0 4)
structure CkJ (KL:Array Value)(s d1 d2:ByteArray)(listed:Array Bool)(x:Nat->Value):Prop where
 at_:∀i,i<7->listed.getD i false=true->x (pF i)=VJ KL s d1 d2 i
theorem CkJ.put {c:Array Value}{s b d:ByteArray}{listed:Array Bool}{x:Nat->Value}(h:CkJ c s b d listed x)(i:Nat)(hi:i<7):CkJ c s b d (listed.setIfInBounds i true) (lu x (pF i) (VJ c s b d i)):=⟨fun j k l=>by
 unfold lu;by_cases e:pF j=pF i
 ·rw[zi e,Jz k hi e]
 rw[zh e];rcases dr l with h1|h1
 ·subst h1;exact absurd rfl e
 exact h.at_ j k h1⟩
theorem wN (n:Nat)(w:World)(b:n<4294967296):
 Calls prog 97 #[.int .u64 n,.int .i64 4] w fun e w'=>e= .returned (.tuple #[.string (kx n),.int .i64 0])/\Below w.heap.size w w':=
 jR n 4 w (by simpa using b) (by omega) (by omega)
theorem JA (m:Nat)(nm body:ByteArray)(w:World)(d:m<4294967296)(c:nm.size<=9223372036854775807)(b:b8 nm=false):
 Calls prog 71 #[.int .u32 m,.string nm,.string body] w fun e w'=>e= .returned (.tuple #[.string ByteArray.empty,.int .i64 11])/\w=w':=by
 have H:=za (MW nm w c b);clear b;go_enter func71,ntmps71
 go_wp2_with fail
 refine H.out.mono ?_;rintro e w' ⟨rfl,rfl⟩;go_wp2;go_ret2
 exact⟨rfl,rfl⟩
theorem DH (m:Nat)(nm body:ByteArray)(w:World)(h:m<4294967296)(b:b8 nm=true)(d:65536<body.size)(i:body.size<=9223372036854775807):
 Calls prog 71 #[.int .u32 m,.string nm,.string body] w fun e w'=>e= .returned (.tuple #[.string ByteArray.empty,.int .i64 5])/\Below w.heap.size w w':=by
 have H:=za (FE nm w b);clear b;go_enter func71,ntmps71
 go_wp2_with fail
 refine H.out.mono ?_;rintro e w' ⟨rfl,c⟩;go_wp2;go_ret2
 exact⟨rfl,c⟩
theorem NP (m:Nat)(nm body:ByteArray)(w:World)(r:m<4294967296)(j:b8 nm=true)(z:body.size<=65536):
 Calls prog 71 #[.int .u32 m,.string nm,.string body] w fun e w'=>e= .returned (.tuple #[.string (nw m nm body),.int .i64 0])/\Below w.heap.size w w':=by
 have H:=za (FE nm w j);have o:=za (fun w=>wN m w r);have s:=za (fun w=>wN body.size w (by omega));have y:=za (fun w=>Lg body w (by omega));have q:Hid (nw m nm body=kx m++eY nm++kx body.size++eQ body++body):=za rfl;have A:=df m;have E:=df body.size;have z3:=ik nm (dC j).2;have z4:=lQ body;clear j;generalize kx m=a at*;generalize kx body.size=b at*;generalize eY nm=c at*;generalize eQ body=d at*;go_enter func71,ntmps71
 go_wp2_with fail
 refine H.out.mono ?_;rintro e C ⟨rfl,k⟩;go_wp2_with fail
 refine(o.out _).mono ?_;rintro e D ⟨rfl,i⟩;go_wp2_with fail
 refine(s.out _).mono ?_;rintro e w3 ⟨rfl,h⟩;go_wp2_with fail
 refine(y.out _).mono ?_;rintro e B ⟨rfl,l⟩;have n:=k.size;have x:=i.size;have p:=h.size;have u:=k.trans ((i.mono n).trans ((h.mono (by omega)).trans (l.mono (by omega))));clear k i h l n x p;go_wp2;go_ret2
 exact⟨by rw[q.out];rfl,u⟩
theorem lG (h:Bool)(e:Int)(w:World):Calls prog 102 #[.bool h,.int .i64 e] w fun b w'=>b= .returned (.int .i64 (if h then 0 else e))/\w=w':=by
 cases h
 ·go_enter func102,ntmps102
  go_wp2;go_ret;exact⟨rfl,rfl⟩
 go_enter func102,ntmps102
 go_wp2;go_ret;exact⟨rfl,rfl⟩
theorem wO (s:ByteArray)(b i j:Nat)(w:World)(c:af w b 9 #[.string s])(o:i<j)(d:j<=s.size)(n:j-i<=8)(l:s.size<=9223372036854775807):
 Calls prog 99 #[.int .i64 i,.int .i64 j,.pointer (some ⟨b,0,none⟩)] w fun e w'=>e= .returned (.int .u64 (cZ (s.extract i j).data.toList))/\w=w':=by
 have hz:(s.extract i j).size=j-i:=aj _ _ _ d;have h:=za (fun w=>ff (s.extract i j) w (by omega) (by omega));have k:w.cell? ⟨b,0,none⟩=some (.string s):=zW c;clear hz;generalize cZ (s.extract i j).data.toList=N at*;go_enter func99,ntmps99
 go_wp2_with fail
 refine(h.out _).mono ?_;rintro e m ⟨rfl,rfl⟩;go_wp2;go_ret;exact⟨rfl,rfl⟩
theorem NQ (b k:Nat)(w:World):Calls prog 100 #[.int .i64 k,.pointer (some ⟨b,0,none⟩)] w fun e w'=>e= .returned (.func (.func 101) #[] #[.pointer (some ⟨b,0,none⟩),.pointer (some ⟨w.heap.size,0,none⟩)])/\w'=w.alloc (.cells #[.int .i64 k] 3):=by
 go_enter func100,ntmps100
 go_wp2;go_ret;exact⟨rfl,rfl⟩
theorem uz (s:ByteArray)(b c k:Nat)(w:World)(i:af w b 9 #[.string s])(j:af w c 3 #[.int .i64 k])(n:s.size<=9223372036854775807)(o:k<=100):
 Calls prog 101 #[.pointer (some ⟨b,0,none⟩),.pointer (some ⟨c,0,none⟩)] w fun e w'=>e= .returned (.int .i64 (if k<=s.size then 0 else 2))/\w=w':=by
 have m:w.cell? ⟨b,0,none⟩=some (.string s):=zW i;have p:w.cell? ⟨c,0,none⟩=some (.int .i64 k):=zW j;have d:=za (fun h w=>lG h 2 w);by_cases h:k<=s.size
 ·rw[zi h];go_enter func101,ntmps101
  go_wp2_with fail
  refine(d.out _ _).mono ?_;rintro e l ⟨rfl,rfl⟩;go_wp2;go_ret;exact⟨rfl,rfl⟩
 rw[zh h];go_enter func101,ntmps101
 go_wp2_with fail
 refine(d.out _ _).mono ?_;rintro e l ⟨rfl,rfl⟩;go_wp2;go_ret;exact⟨rfl,rfl⟩
def VK (b:Nat):Value:= .func (.func 99) #[] #[.pointer (some ⟨b,0,none⟩)]
theorem Ut (s:ByteArray)(b c d m:Nat)(w:World)(k:af w b 9 #[.string s])(l:af w c 157 #[VK b])(hd:af w d 22 #[.int .u32 m])(r:m<4294967296)(o:s.size<=9223372036854775807)(q:4<=s.size):
 Calls prog 103 #[.pointer (some ⟨c,0,none⟩),.pointer (some ⟨d,0,none⟩)] w fun e w'=>e= .returned (.int .i64 (if cZ (s.extract 0 4).data.toList=m then 0 else 9))/\∃n,w'=w.drewN n:=by
 have j:=za (fun n=>wO s b 0 4 (w.drewN n) (k.drewN n) (by omega) q (by omega) o);have p:w.cell? ⟨c,0,none⟩=some (VK b):=zW l;have u:w.cell? ⟨d,0,none⟩=some (.int .u32 m):=zW hd;have i:=za (fun h w=>lG h 9 w);unfold VK at p;generalize cZ (s.extract 0 4).data.toList=N at*;by_cases h:N=m
 ·rw[zi h];have hd:((N:Int)==(m:Int))=true:=by rw[h];simp
  clear h;go_enter func103,ntmps103
  go_wp2_with fail
  go_quiet ((first|(go_at_call 99;with_reducible exact Calls.fj (j.out _))|(go_at_call 102;with_reducible exact Calls.fj (i.out _ _))))
  go_wp2;go_ret;exact⟨rfl,nq,rfl⟩
 rw[zh h];have hd:((N:Int)==(m:Int))=false:=zm.2 (by omega);clear h;go_enter func103,ntmps103
 go_wp2_with fail
 go_quiet ((first|(go_at_call 99;with_reducible exact Calls.fj (j.out _))|(go_at_call 102;with_reducible exact Calls.fj (i.out _ _))))
 go_wp2;go_ret;exact⟨rfl,nq,rfl⟩
theorem Uu (s:ByteArray)(b nb:Nat)(v:Value)(w:World)(i:af w b 9 #[.string s])(c:af w nb 9 #[v])(n:nb≠b)(o:s.size<=9223372036854775807)(l:16<=s.size):
 Calls prog 104 #[.pointer (some ⟨b,0,none⟩),.pointer (some ⟨nb,0,none⟩)] w fun e w'=>e= .returned (.int .i64 (cI (s.extract 4 16)).1)/\w'=w.setCell ⟨nb,0,none⟩ (.string (cI (s.extract 4 16)).2):=by
 have d:=za (fun w=>PJ (s.extract 4 16) w (by rw[aj _ _ _ l];omega));have m:w.cell? ⟨b,0,none⟩=some (.string s):=zW i;have q:w.cell? ⟨nb,0,none⟩=some v:=zW c;have p:w.frozen? ⟨nb,0,none⟩=false:=Zl c;have j:=za (fun h w=>lG h 3 w);rcases sL (s.extract 4 16)with hg|⟨t,hg⟩;all_goals
  rw[hg]at d⊢;clear hg;go_enter func104,ntmps104
  go_wp2_with fail
  refine(d.out _).mono ?_;rintro e k ⟨rfl,rfl⟩;go_wp2_with fail
  refine(j.out _ _).mono ?_;rintro e k ⟨rfl,rfl⟩;go_wp2;go_ret;exact⟨rfl,rfl⟩
theorem XY (s:ByteArray)(b c lb d:Nat)(v:Value)(most:Int)(w:World)(o:af w b 9 #[.string s])(n:af w c 157 #[VK b])(j:af w lb 3 #[v])(q:af w d 3 #[.int .i64 most])(l:lb≠d)(p:s.size<=9223372036854775807)(u:20<=s.size):
 Calls prog 106 #[.pointer (some ⟨c,0,none⟩),.pointer (some ⟨lb,0,none⟩),.pointer (some ⟨d,0,none⟩)] w fun e w'=>e= .returned (.int .i64 (if(cZ (s.extract 16 20).data.toList:Int)<=most then 0 else 5))/\w'=w.setCell ⟨lb,0,none⟩ (.int .i64 (cZ (s.extract 16 20).data.toList)):=by
 have m:=za (fun(_:Unit)=>wO s b 16 20 w o (by omega) u (by omega) p);have B:=ui (s.extract 16 20) (aj _ _ _ (by omega));have r:w.cell? ⟨c,0,none⟩=some (VK b):=zW n;have z:w.cell? ⟨d,0,none⟩=some (.int .i64 most):=zW q;have x:w.cell? ⟨lb,0,none⟩=some v:=zW j;have A:w.frozen? ⟨lb,0,none⟩=false:=Zl j;have k:=za (fun h w=>lG h 5 w);unfold VK at r;have y:(lb=d)=False:=yD l;clear l;generalize cZ (s.extract 16 20).data.toList=N at*;by_cases h:(N:Int)<=most
 ·rw[zi h];have hd:decide ((N:Int)<=most)=true:=zE h;clear h;go_enter func106,ntmps106
  go_wp2_with fail
  refine(m.out ()).mono ?_;rintro e i ⟨rfl,rfl⟩;go_wp2_with fail
  refine(k.out _ _).mono ?_;rintro e i ⟨rfl,rfl⟩;go_wp2;go_ret;exact⟨rfl,rfl⟩
 rw[zh h];have hd:decide ((N:Int)<=most)=false:=zu h;clear h;go_enter func106,ntmps106
 go_wp2_with fail
 refine(m.out ()).mono ?_;rintro e i ⟨rfl,rfl⟩;go_wp2_with fail
 refine(k.out _ _).mono ?_;rintro e i ⟨rfl,rfl⟩;go_wp2;go_ret;exact⟨rfl,rfl⟩
theorem Uv (s:ByteArray)(b lb N:Nat)(w:World)(d:af w b 9 #[.string s])(i:af w lb 3 #[.int .i64 N])(l:s.size<=9223372036854775807)(n:N<4294967296):
 Calls prog 107 #[.pointer (some ⟨b,0,none⟩),.pointer (some ⟨lb,0,none⟩)] w fun e w'=>e= .returned (.int .i64 (if 24+N<=s.size then 0 else 2))/\w=w':=by
 have k:w.cell? ⟨b,0,none⟩=some (.string s):=zW d;have m:w.cell? ⟨lb,0,none⟩=some (.int .i64 N):=zW i;have c:=za (fun h w=>lG h 2 w);by_cases h:24+N<=s.size
 ·rw[zi h];have hd:decide ((N:Int)<=(s.size:Int)-24)=true:=zE (by omega);clear h;go_enter func107,ntmps107
  go_wp2_with fail
  refine(c.out _ _).mono ?_;rintro e j ⟨rfl,rfl⟩;go_wp2;go_ret;exact⟨rfl,rfl⟩
 rw[zh h];have hd:decide ((N:Int)<=(s.size:Int)-24)=false:=zu (by omega);clear h;go_enter func107,ntmps107
 go_wp2_with fail
 refine(c.out _ _).mono ?_;rintro e j ⟨rfl,rfl⟩;go_wp2;go_ret;exact⟨rfl,rfl⟩
theorem XZ (s:ByteArray)(b lb N:Nat)(w:World)(i:af w b 9 #[.string s])(d:af w lb 3 #[.int .i64 N])(C:s.size<=1099511627776)(u:24+N<=s.size)(F:N<=100000):
 Calls prog 108 #[.pointer (some ⟨b,0,none⟩),.pointer (some ⟨lb,0,none⟩)] w fun e w'=>e= .returned (.int .i64 (if eQ (s.extract 24 (24+N))=s.extract 20 24 then 0 else 10))/\Below w.heap.size w w':=by
 have l:w.cell? ⟨b,0,none⟩=some (.string s):=zW i;have x:w.cell? ⟨lb,0,none⟩=some (.int .i64 N):=zW d;have H:=i.lt;have G:=d.lt;have y:=za (fun w=>NO (s.extract 24 (24+N)) (s.extract 20 24) w (by rw[aj _ _ _ u];omega));have k:=za (fun h w=>(lG h 10 w).mono (R':=fun o w'=>o= .returned (.int .i64 (if h then 0 else 10))/\Below w.heap.size w w') fun e w' h=>⟨h.1,by rw[<-h.2];exact zl _ _⟩);have j:Hid ((if decide (eQ (s.extract 24 (24+N))=s.extract 20 24)=true then(0:Int)else 10)=if eQ (s.extract 24 (24+N))=s.extract 20 24 then 0 else 10):=za (by simp);rw[<-j.out];generalize decide (eQ (s.extract 24 (24+N))=s.extract 20 24)=D at*;clear j;have z:(24:Int)+N<=s.size:=by omega
 have m:=za (k.out D);clear k;generalize (if D=true then(0:Int)else 10)=r at*;have B:(24:Int)<=24+N:=by omega
 have E:(24:Int)<=s.size:=by omega
 have A:IntKind.i64.wrap (24+(N:Int))=24+N:=zZ _ (by omega);have I:(24+(N:Int)).toNat=24+N:=by omega
 go_enter func108,ntmps108
 go_wp2_with fail
 refine jh (by kernel_rfl) (by kernel_rfl) ?_;refine aE (.string s) (by rfl) (fun w' c=>by have q:=(c.cell (p:=⟨b,0,none⟩) (by simpa using by assumption)).trans l;go_simp) ?_;simp only[Act.put,zc,ze,zg];refine aE (.int .i64 N) (by rfl) (fun w' c=>by have q:=(c.cell (p:=⟨lb,0,none⟩) (by simpa using by assumption)).trans x;go_simp) ?_;simp only[Act.put,zc,ze,zg];refine aE (.int .i64 (24+N)) (by rfl) (fun _ _=>by first|rfl|go_simp) ?_;simp only[Act.put,zc,ze,zg];refine aE (.string (s.extract 24 (24+N))) (by rfl) (fun _ _=>by first|rfl|go_simp) ?_;simp only[Act.put,zc,ze,zg];refine aE (.string s) (by rfl) (fun w' c=>by have q:=(c.cell (p:=⟨b,0,none⟩) (by simpa using by assumption)).trans l;go_simp) ?_;simp only[Act.put,zc,ze,zg];refine aE (.string (s.extract 20 24)) (by rfl) (fun _ _=>by first|rfl|go_simp) ?_;simp only[Act.put,zc,ze,zg];refine eK 109 _ _ (by rfl) (fun _=>by first|rfl|go_simp) (fun w _=>y.out _) ?_;simp only[Act.put,zc,ze,zg];refine eK 102 _ _ (by rfl) (fun _=>by first|rfl|go_simp) (fun w _=>m.out _) ?_;simp only[Act.put,zc,ze,zg];refine aE (.int .i64 r) (by rfl) (fun _ _=>by first|rfl|go_simp) ?_;simp only[Act.put,zc,ze,zg];refine xL ?_;intro J n;go_wp2;go_ret;exact⟨rfl,n⟩
def acJ (r:Int×ByteArray×ByteArray×Nat):Value:= .tuple #[.agg #[.int .u64 0,.string r.2.1,.string r.2.2.1],.int .i64 r.2.2.2,.int .i64 r.1]
theorem o7 {w:World}{g:Nat}{t:TypeId}{i e j:Value}(h:af w g t #[i,e,j])(b d c:Value):af (((w.setCell ⟨g,0,none⟩ b).setCell ⟨g,1,none⟩ d).setCell ⟨g,2,none⟩ c) g t #[b,d,c]:=((h.set 0 b).set 1 d).set 2 c
theorem kO {B:Nat}{w w':World}(h:Below B w w'){g:Nat}(b:B<=g)(e d c:Value):Below B w (((w'.setCell ⟨g,0,none⟩ e).setCell ⟨g,1,none⟩ d).setCell ⟨g,2,none⟩ c):=
 ((h.setCell (by simpa using b) _).setCell (by simpa using b) _).setCell (by simpa using b) _
theorem Lh {W:World}(h:laidMetH prog [("unicode/utf8.acceptRanges",Rows.laid_unicode_utf8_acceptRanges),("hatchway/compact.behind",Rows.laid_hatchway_compact_behind),("hatchway/schema.uintSizes",Rows.laid_hatchway_schema_uintSizes),("unicode/utf8.first",Rows.laid_unicode_utf8_first)] W):Laid W∧ba W:=by
 rw[ZZ _ _ _ (by kernel_rfl)]at h;have d:prog.globalNamed "hatchway/compact.behind" =some 0:=by kernel_rfl
 have b:prog.globalNamed "hatchway/schema.uintSizes" =some 1:=by kernel_rfl
 have e:Lib.TabIs prog W "hatchway/compact.behind" .i64 [2,4,8]:=Lib.tabIs_of_head (k:= .i64) (zs:= [2,4,8]) (n:=3) d (by kernel_rfl) underlying264 yC (by kernel_rfl) (by kernel_rfl) h.tail;have c:Lib.TabIs prog W "hatchway/schema.uintSizes" .i64 [1,2,4,8]:=Lib.tabIs_of_head (k:= .i64) (zs:= [1,2,4,8]) (n:=4) b (by kernel_rfl) underlying292 yC (by kernel_rfl) (by kernel_rfl) h.tail.tail;exact⟨⟨c.cell b 0 (by simp),c.cell b 1 (by simp),c.cell b 2 (by simp),c.cell b 3 (by simp)⟩,⟨e.cell d 0 (by simp),e.cell d 1 (by simp),e.cell d 2 (by simp)⟩⟩
