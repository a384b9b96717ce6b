/- sha.Sum: the digest. -/
import Derived.Test.YtpjgigllldipiaaGreatDoorKShaM
set_option linter.all false
set_option maxRecDepth 100000
set_option maxHeartbeats 4000000
namespace Go.Proofs.YtpjgigllldipiaaGreatDoor
open Go.RowKit
theorem Qh {tmps:Array Value}{V:World}{g:Nat}(u:Sh)(c:tmps.getD 0 undef= .pointer (some ⟨g,0,none⟩))(b:af V g 250 (cG u)):
 (results Tryz.f208 tmps).run Tryz.prog V= .ok (ke u) V:=by
 have k:V.cell? ⟨g,0,none⟩=some (.int .u32 u.a):=b.cell 0;have m:V.cell? ⟨g,1,none⟩=some (.int .u32 u.b):=b.cell 1;have i:V.cell? ⟨g,2,none⟩=some (.int .u32 u.c):=b.cell 2;have l:V.cell? ⟨g,3,none⟩=some (.int .u32 u.d):=b.cell 3;have d:V.cell? ⟨g,4,none⟩=some (.int .u32 u.e):=b.cell 4;have e:V.cell? ⟨g,5,none⟩=some (.int .u32 u.f):=b.cell 5;have j:V.cell? ⟨g,6,none⟩=some (.int .u32 u.g):=b.cell 6;have h:V.cell? ⟨g,7,none⟩=some (.int .u32 u.h):=b.cell 7;simp only[Array.getD_eq_getD_getElem?]at c;simp[results,Tryz.results208,go_sem,c,k,m,i,l,d,e,j,h,ke]
theorem TN (w:World):Calls Tryz.prog 208 #[] w fun e w'=>e= .returned (ke DK)/\Below w.heap.size w w':=by
 go_enter Tryz.func208,Tryz.ntmps208
 go_wp2;refine zp (v:=ke DK) ?_ rfl ?_
 ·exact Qh DK (g:=w.heap.size) rfl (af.new w _ _)
 exact⟨rfl,bM⟩
theorem ae.kept {E:TypeId}{w W d:World}(h:ae [] w W)(b:Kept E w.heap.size W d):ae [] w d:=
 ⟨b.below.os.trans h.os,b.below.tape.trans h.tape,b.below.output.trans h.output,zP h.size b.below.size,fun k c e=>(b.below.block k c).trans (h.block k c e)⟩
theorem Qi {P:Program}{d e:TypeId}(k:P.underlying d=some (.slice e))(w:World)(E:TypeId)(b:Array Value)(m:List UInt8)(n c g:Nat)(h:m.length=n)(j:g=w.heap.size)(i:b.toList=cb m):Src P 1 d (.slice (some ⟨g,0,none⟩) n c) m.length (cb m) (w.alloc (.cells b E)):=by
 subst h;exact tF k w E b m c g j i
theorem Jc (x:Nat)(hx:x<4294967296):(#[Value.int .u8 ((x:Int)/16777216),.int .u8 ((x:Int)/65536%256),.int .u8 ((x:Int)/256%256),.int .u8 ((x:Int)%256)]:Array Value).toList=cb (wB x):=by
 simp[cb,wB];omega
theorem rH.next {w b wr:World}{B i a nq:Nat}{v u:Sh}{s:ByteArray}{top:Nat}{x:Value}(j:a=64*i)(hx:x= .int .i64 ((a+64:Nat):Int))(e:a+64<=top)(hu:fw v s i=u)(k:ae [] w wr)(c:ae [] (wr.drewN nq) b)
 (h:af wr B 250 (cG u)) (l:w.heap.size<=B) (m:top<=s.size):rH w B v s top x (nk b B (px uk u (s.extract a (a+64)))):=by
 have d:af b B 250 (cG u):=(h.drewN nq).only c (by simp);refine⟨i+1,a+64,by omega,hx,e, ?_,sR _ ((k.drewN nq).trans c) l⟩;rw[fw,hu,<-j];exact Jb _ d
theorem abZ (s:ByteArray)(w:World)(hs:s.size<=100000):
 Calls Tryz.prog 190 #[.string s] w fun e w'=>e= .returned (.string (s6 s))/\Below w.heap.size w w':=by
 obtain⟨W,hW⟩:∃W,64*(s.size/64)=W:=⟨_,rfl⟩
 have e1:(s.size:Int)-(s.size:Int)%64=(W:Int):=by omega
 have ak:W<=s.size:=by omega
 have U:=za hW;clear hW;go_enter Tryz.func190,Tryz.ntmps190
 go_wp2_with fail
 refine(TN _).mono ?_;rintro e w1 ⟨rfl,Z⟩;unfold ke;go_wp2;obtain⟨O,M⟩:∃O,w1.alloc (.cells #[.int .u32 DK.a,.int .u32 DK.b,.int .u32 DK.c,.int .u32 DK.d,.int .u32 DK.e,.int .u32 DK.f,.int .u32 DK.g,.int .u32 DK.h] 250)=O:=⟨_,rfl⟩
 obtain⟨B,hB⟩:∃B,w1.heap.size=B:=⟨_,rfl⟩
 have Vo:w.heap.size<=B:=by have:=Z.size;omega
 have Oc:Hid (af O B 250 (cG (fw DK s 0))):=za (by rw[<-M,<-hB];exact af.new w1 _ _);have aq:Hid (ae [] w O):=za (by rw[<-M];exact(ae.ah Z (zi _)).alloc _);rw[M,hB];clear M hB Z;go_loopw [5] (fun v wr=>rH w B DK s W v wr) (fun v _=>W-(intOf v).toNat)
 case atStart=>exact⟨0,0,rfl,rfl,yo _,Oc.out,aq.out⟩
 case round=>
  obtain⟨i,a,F,rfl,cU,b,c⟩:=hrel.ex;have j:=Ed V6 s i;obtain⟨u,hu⟩:∃u,fw DK s i=u:=⟨_,rfl⟩
  rw[hu]at b j;have HU:=za hu;have S:=za b;have R:=za c;have l:=b.lt;by_cases aD:a<W
  ·have KU:a+64<=W:=by omega
   have aa:a+64<=s.size:=by omega
   have g1:IntKind.i64.wrap ((a:Int)+64)=(a:Int)+64:=yg _ (by omega);have g2:((a:Int)+64).toNat=a+64:=by omega
   have g4:(a:Int)<=(a:Int)+64:=by omega
   have g5:(a:Int)+64<=(s.size:Int):=by omega
   have G:=za (fun w=>U4 u j (s.extract a (a+64)) (by rw[an _ _ _ aa];omega) w);obtain⟨C,y,E,o,z,n,q,D⟩:=b.vQ;have K:=za (fun(m:World) (nq:Nat) (d:ae [] (wr.drewN nq) m)=>rH.next (x:= .int .i64 ((a+64:Nat):Int)) F rfl KU hu c d b Vo ak);obtain⟨nu,J⟩:∃nu,px uk u (s.extract a (a+64))=nu:=⟨_,rfl⟩
   rw[J]at G K;unfold ke at G;clear F hu b c J j;go_wp2;refine cy 6 (by kernel_rfl) (by kernel_rfl) ?_;simp only[zV,yE,yh,zN];repeat(go_big_quiet_step (fail))
   refine xN ?_;intro nq;clear C y E o z n q D;go_wp2_with fail
   refine(G.out _).mono ?_;rintro e m ⟨rfl,d⟩;have H:=(S.out.drewN nq).only d (by simp);obtain⟨C,y,E,o,z,n,q,D⟩:=H.vQ;obtain⟨f0,f1,f2,f3,f4,f5,f6,f7⟩:=H.U3;have HN:=za (K.out m nq d);clear H d;go_wp2;go_roundw
   case rel=>exact HN.out
   case measure=>simp[intOf];omega
  have az:Hid (i=s.size/64):=za (by have:=U.out;omega);have hp:=fun w=>aby s.size w hs
  have HP:=za hp;have ab:=oA s.size;have GG:=rW s.size;have KV:(s.extract W s.size).size<=64:=by rw[an _ _ _ (zi _)];have:=U.out;omega
  have HL:Hid (s6 s=⟨(Ef (fw (fw DK s i) (s.extract W s.size++ir s.size) ((s.extract W s.size++ir s.size).size/64))).toArray⟩):=za (by
   rw[s6,G3 s (s.extract W s.size++ir s.size) (by rw[U.out]),<-az.out])
  have Oh:Hid ((s.extract W s.size++ir s.size).size=s.size-W+(dO s.size+9)):=za (by rw[bX,an _ _ _ (zi _),ab]);have ao:Hid ((s.size-W+(dO s.size+9))%64=0):=za (by have:=py s.size;have:=U.out;omega);rw[HU.out]at HL;have aw:a=W:=by omega
  subst aw;generalize ir s.size=pd at*;have aF:pd.size<=72:=by omega
  clear F hu b c ab;go_wp2_with fail
  refine(HP.out _).mono ?_;rintro e m ⟨rfl,Y⟩;have al:Hid (af m B 250 (cG u)):=za ((Y.block _ l).trans S.out);have av:Hid (ae [] w m):=za (R.out.trans (ae.ah Y (zi _)));clear Y;go_wp2;obtain⟨r,hr⟩:∃r,s.extract a s.size++pd=r:=⟨_,rfl⟩
  rw[hr]at HL Oh⊢;have aB:r.size<=200:=by have:=Oh.out;omega
  obtain⟨N,rfl⟩:∃N,N=u:=⟨u,rfl⟩
  have au:r.size<=r.size:=zi _;obtain⟨i0,hi,eo,cc,cA⟩:=yQ oO;clear hr;go_loopw [9] (fun v wr=>rH w B N r r.size v wr) (fun v _=>r.size-(intOf v).toNat)
  case atStart=>exact⟨0,0,rfl,rfl,yo _,al.out,av.out⟩
  case round=>
   obtain⟨i,a,F,rfl,cU,b,c⟩:=hrel.ex;have j:=Ed j r i;obtain⟨u,hu⟩:∃u,fw N r i=u:=⟨_,rfl⟩
   rw[hu]at b j;have HU:=za hu;have S:=za b;have R:=za c;have l:=b.lt;by_cases aD:a+64<=r.size
   ·have KU:a+64<=r.size:=by omega
    have aa:a+64<=r.size:=by omega
    have g1:IntKind.i64.wrap ((a:Int)+64)=(a:Int)+64:=yg _ (by omega);have g2:((a:Int)+64).toNat=a+64:=by omega
    have g4:(a:Int)<=(a:Int)+64:=by omega
    have g5:(a:Int)+64<=(r.size:Int):=by omega
    have G:=za (fun w=>U4 u j (r.extract a (a+64)) (by rw[an _ _ _ aa];omega) w);obtain⟨C,y,E,o,z,n,q,D⟩:=b.vQ;have K:=za (fun(m:World) (nq:Nat) (d:ae [] (wr.drewN nq) m)=>rH.next (x:= .int .i64 ((a+64:Nat):Int)) F rfl KU hu c d b Vo au);obtain⟨nu,J⟩:∃nu,px uk u (r.extract a (a+64))=nu:=⟨_,rfl⟩
    rw[J]at G K;unfold ke at G;clear F hu b c J j;go_wp2;refine cy 6 (by kernel_rfl) (by kernel_rfl) ?_;simp only[zV,yE,yh,zN];repeat(go_big_quiet_step (fail))
    refine xN ?_;intro nq;clear C y E o z n q D;go_wp2_with fail
    refine(G.out _).mono ?_;rintro e m ⟨rfl,d⟩;have H:=(S.out.drewN nq).only d (by simp);obtain⟨C,y,E,o,z,n,q,D⟩:=H.vQ;obtain⟨f0,f1,f2,f3,f4,f5,f6,f7⟩:=H.U3;have HN:=za (K.out m nq d);clear H d;go_wp2;go_roundw
    case rel=>exact HN.out
    case measure=>simp[intOf];omega
   have aA:Hid (i=r.size/64):=za (by have:=Oh.out;have:=ao.out;omega);have NJ:Hid (s6 s=⟨(Ef u).toArray⟩):=za (by rw[HL.out,<-aA.out,hu]);obtain⟨C,y,E,o,z,n,q,D⟩:=b.vQ;have HT:=za (fun(k:Nat) (hk:k<8) (w':World)=>lJ u w' k _ (Nf u k hk));have ay:=za (Sh.abY j);have ax:=R.out.size;have d0:decide ((a:Int)+64<=(r.size:Int))=false:=zz (by omega);clear F hu b c j;go_wp2_with (at_make;refine lR _ (by rfl) _ _ 31 (by rfl) w.heap.size 5 i0 zx hi eo cc cA .i64 .i64 0 32 (by rfl) (by rfl) (by omega) (by omega) ax ?_;intro w3 bS Dl h;have q0:=(h.cell (p:=⟨B,0,none⟩) l).trans C;have q1:=(h.cell (p:=⟨B,1,none⟩) l).trans y;have q2:=(h.cell (p:=⟨B,2,none⟩) l).trans E;have q3:=(h.cell (p:=⟨B,3,none⟩) l).trans o;have q4:=(h.cell (p:=⟨B,4,none⟩) l).trans z;have q5:=(h.cell (p:=⟨B,5,none⟩) l).trans n;have q6:=(h.cell (p:=⟨B,6,none⟩) l).trans q;have q7:=(h.cell (p:=⟨B,7,none⟩) l).trans D)
   have ai:Hid (ae [] w w3):=za (R.out.trans (ae.ah h (zi _)));clear C y E o z n q D q0 q1 q2 q3 q4 q5 q6 q7 Dl h;go_loopw [10,59] (fun v x wr=>∃k:Nat,k<=8/\x= .int .i64 k/\bJ wr w.heap.size 5 v (G1 k u)/\ae [] w wr) (fun _ x _=>8-(intOf x).toNat)
   case atStart=>exact⟨0,by omega,rfl,bS,ai.out⟩
   case round=>
    obtain⟨k,hk,rfl,I,c⟩:=hrel;obtain⟨A,L,cap,rfl,hL,aC,nW⟩:=I.df;have HK:=za c;have ej:=c.size;have aE:=rX u k hk;clear c;by_cases ad:k<8
    ·have ar:=HT.out k ad;have hx:=ay.out k;have ag:=za (Bd u k ad);obtain⟨x,ah⟩:∃x,u.list.getD k 0=x:=⟨_,rfl⟩
     rw[ah]at ar hx ag;have N5:=za (Jc x hx);have N6:(wB x).length=4:=rfl;generalize wB x=wb at*;generalize G1 k u=LL at*;have QB:LL.length<=32:=by omega
     clear ah;go_wp2_with (at_builtin;refine aN (by rfl) (.tmp 62) (.tmp 74) 31 31 (by rfl) w.heap.size 5 i0 zx hi eo cc cA (by rfl) (I.alloc _) _ wb (by rfl) (Qi zx _ 5 _ wb 4 4 _ N6 (by rfl) N5.out) (by simp only[zu];omega) (by omega) ?_;intro A3 n3 nr w4 bP Jy;have dM:=za bP;have aj:Hid (ae [] w w4):=za ((HK.out.alloc _).kept Jy);clear bP Jy I)
     go_roundw
     case rel=>exact⟨k+1,by omega,by go_num,by rw[ag.out];exact dM.out,aj.out⟩
     case measure=>simp[intOf];omega
    have e8:k=8:=by omega
    subst e8;rw[V7]at I;have b:=I.Ha (P:=Tryz.prog) zx yB zT;rw[<-NJ.out]at b;obtain⟨X,HX⟩:∃X,Hid (s6 s=X):=⟨_,za rfl⟩
    rw[HX.out]at b;clear I;go_wp2;go_ret;exact⟨by rw[HX.out];rfl,HK.out.below (zi _) (by simp)⟩
def TO (s:ByteArray):Nat->ByteArray
 |0=>s
 |n+1=>s6 (TO s n)
theorem Qj (s:ByteArray)(h:s.size<=100000):∀n,(TO s n).size<=100000
 |0=>h
 |n+1=>by rw[TO,Be];omega
theorem Jd (s:ByteArray)(w:World)(h:s.size<=100000):
 Calls Tryz.prog 153 #[.string s] w fun e w'=>e= .returned (.string (G4 s))/\Below w.heap.size w w':=by
 have m:Hid (TO s 2=G4 s):=za rfl;go_enter Tryz.func153,Tryz.ntmps153
 go_wp2;go_loopw [0,3] (fun v i wr=>∃k:Nat,k<=2/\i= .int .i64 k/\v= .string (TO s k)/\Below w.heap.size w wr) (fun _ i _=>2-(intOf i).toNat)
 case atStart=>exact⟨0,by omega,rfl,rfl,zq _ _⟩
 case round=>
  obtain⟨k,p,rfl,rfl,b⟩:=hrel;by_cases n:k<2
  ·have d:=za (fun w=>abZ (TO s k) w (Qj s h k));have j:Hid (TO s (k+1)=s6 (TO s k)):=za rfl;generalize TO s k=t at*;generalize s6 t=u at*;go_wp2_with fail
   refine(d.out _).mono ?_;rintro e o ⟨rfl,c⟩;have l:=za (b.trans (c.mono b.size));clear c;go_wp2;go_roundw
   case rel=>exact⟨k+1,by omega,by go_num,by rw[j.out],l.out⟩
   case measure=>simp[intOf];omega
  obtain rfl:k=2:=by omega
  rw[m.out];go_wp2;go_ret;exact⟨rfl,b⟩
theorem KO (s:ByteArray)(w:World)(c:s.size<=100000):
 Calls Tryz.prog 105 #[.string s] w fun e w'=>e= .returned (.string (eR s))/\Below w.heap.size w w':=by
 have b:=za (fun w=>Jd s w c);have h:Hid (eR s=(G4 s).extract 0 4):=za rfl;have hz:=Bf s;have j:4<=(G4 s).size:=by omega
 clear hz;generalize G4 s=t at*;go_enter Tryz.func105,Tryz.ntmps105
 go_wp2_with fail
 refine(b.out _).mono ?_;rintro e i ⟨rfl,d⟩;go_wp2;go_ret;exact⟨by rw[h.out];rfl,d⟩
theorem Ng (s t:ByteArray)(w:World)(l:s.size<=100000):
 Calls Tryz.prog 116 #[.string s,.string t] w fun e w'=>e= .returned (.bool (decide (eR s=t)))/\Below w.heap.size w w':=by
 have i:=za (fun w=>KO s w l);generalize eR s=u at*;rcases pt t u with⟨b,j,m⟩|⟨b,j,m⟩
 ·have c:Hid (decide (u=t)=true):=za (zH b.symm);clear b;generalize decide (u=t)=d at*;go_enter Tryz.func116,Tryz.ntmps116
  go_wp2_with fail
  refine(i.out _).mono ?_;rintro e k ⟨rfl,h⟩;go_wp2;go_ret;exact⟨by rw[c.out];rfl,h⟩
 have c:Hid (decide (u=t)=false):=za (zz (fun e=>b e.symm));clear b;generalize decide (u=t)=d at*;go_enter Tryz.func116,Tryz.ntmps116
 go_wp2_with fail
 refine(i.out _).mono ?_;rintro e k ⟨rfl,h⟩;go_wp2;go_ret;exact⟨by rw[c.out];rfl,h⟩
def oW (i:Nat):Nat:=if i=6 then 4 else i+5
theorem Je {i j:Nat}(hi:i<7)(b:j<7)(h:oW i=oW j):i=j:=by
 unfold oW at h;split at h<;>split at h<;>omega
def U5 (KL:Array Value)(s d1 d2:ByteArray)(i:Nat):Value:=
 if i=0 then .agg KL else if i=1 then .agg KL else if i=2 then .string s else if i=3 then .string d1 else if i=4 then .string d2 else .string (d2.extract 0 4)
structure CkJ (KL:Array Value)(s d1 d2:ByteArray)(listed:Array Bool)(x:Nat->Value):Prop where
 at_:∀i,i<7->listed.getD i false=true->x (oW i)=U5 KL s d1 d2 i
theorem CkJ.put {b:Array Value}{s c d:ByteArray}{listed:Array Bool}{x:Nat->Value}(h:CkJ b s c d listed x)(i:Nat)(hi:i<7):CkJ b s c d (listed.setIfInBounds i true) (kV x (oW i) (U5 b s c d i)):=⟨fun j k l=>by
 unfold kV;by_cases e:oW j=oW i
 ·rw[zl e,Je k hi e]
 rw[zj e];rcases dq l with h1|h1
 ·subst h1;exact absurd rfl e
 exact h.at_ j k h1⟩
theorem vR (n:Nat)(w:World)(b:n<4294967296):
 Calls Tryz.prog 104 #[.int .u64 n,.int .i64 4] w fun e w'=>e= .returned (.tuple #[.string (qG n),.int .i64 0])/\Below w.heap.size w w':=
 jA n 4 w (by simpa using b) (by omega) (by omega)
theorem Jf (m:Nat)(nm body:ByteArray)(w:World)(d:m<4294967296)(c:nm.size<=9223372036854775807)(b:bY nm=false):
 Calls Tryz.prog 68 #[.int .u32 m,.string nm,.string body] w fun e w'=>e= .returned (.tuple #[.string ByteArray.empty,.int .i64 11])/\w=w':=by
 have H:=za (Mo nm w c b);clear b;go_enter Tryz.func68,Tryz.ntmps68
 go_wp2_with fail
 refine H.out.mono ?_;rintro e w' ⟨rfl,rfl⟩;go_wp2;go_ret2
 exact⟨rfl,rfl⟩
theorem Dd (m:Nat)(nm body:ByteArray)(w:World)(d:m<4294967296)(b:bY nm=true)(h:65536<body.size)(i:body.size<=9223372036854775807):
 Calls Tryz.prog 68 #[.int .u32 m,.string nm,.string body] w fun e w'=>e= .returned (.tuple #[.string ByteArray.empty,.int .i64 5])/\Below w.heap.size w w':=by
 have H:=za (E5 nm w b);clear b;go_enter Tryz.func68,Tryz.ntmps68
 go_wp2_with fail
 refine H.out.mono ?_;rintro e w' ⟨rfl,c⟩;go_wp2;go_ret2
 exact⟨rfl,c⟩
theorem Nh (m:Nat)(nm body:ByteArray)(w:World)(q:m<4294967296)(k:bY nm=true)(z:body.size<=65536):
 Calls Tryz.prog 68 #[.int .u32 m,.string nm,.string body] w fun e w'=>e= .returned (.tuple #[.string (mA m nm body),.int .i64 0])/\Below w.heap.size w w':=by
 have H:=za (E5 nm w k);have y:=za (fun w=>vR m w q);have u:=za (fun w=>vR body.size w (by omega));have s:=za (fun w=>KO body w (by omega));have o:Hid (mA m nm body=qG m++eS nm++qG body.size++eR body++body):=za rfl;have D:=jt m;have A:=jt body.size;have z3:=gV nm (dy k).2;have z4:=ll body;clear k;generalize qG m=a at*;generalize qG body.size=b at*;generalize eS nm=c at*;generalize eR body=d at*;go_enter Tryz.func68,Tryz.ntmps68
 go_wp2_with fail
 refine H.out.mono ?_;rintro e E ⟨rfl,h⟩;go_wp2_with fail
 refine(y.out _).mono ?_;rintro e C ⟨rfl,j⟩;go_wp2_with fail
 refine(u.out _).mono ?_;rintro e w3 ⟨rfl,i⟩;go_wp2_with fail
 refine(s.out _).mono ?_;rintro e B ⟨rfl,l⟩;have n:=h.size;have x:=j.size;have r:=i.size;have p:=h.trans ((j.mono n).trans ((i.mono (by omega)).trans (l.mono (by omega))));clear h j i l n x r;go_wp2;go_ret2
 exact⟨by rw[o.out];rfl,p⟩
theorem k9 (h:Bool)(e:Int)(w:World):Calls Tryz.prog 109 #[.bool h,.int .i64 e] w fun b w'=>b= .returned (.int .i64 (if h then 0 else e))/\w=w':=by
 cases h
 ·go_enter Tryz.func109,Tryz.ntmps109
  go_wp2;go_ret;exact⟨rfl,rfl⟩
 go_enter Tryz.func109,Tryz.ntmps109
 go_wp2;go_ret;exact⟨rfl,rfl⟩
theorem vS (s:ByteArray)(b i j:Nat)(w:World)(c:af w b 9 #[.string s])(k:i<j)(d:j<=s.size)(m:j-i<=8)(l:s.size<=9223372036854775807):
 Calls Tryz.prog 106 #[.int .i64 i,.int .i64 j,.pointer (some ⟨b,0,none⟩)] w fun e w'=>e= .returned (.int .u64 (cZ (s.extract i j).data.toList))/\w=w':=by
 have hz:(s.extract i j).size=j-i:=an _ _ _ d;have h:=za (fun w=>eV (s.extract i j) w (by omega) (by omega));have o:w.cell? ⟨b,0,none⟩=some (.string s):=yd c;clear hz;generalize cZ (s.extract i j).data.toList=N at*;go_enter Tryz.func106,Tryz.ntmps106
 go_wp2_with fail
 refine(h.out _).mono ?_;rintro e n ⟨rfl,rfl⟩;go_wp2;go_ret;exact⟨rfl,rfl⟩
theorem Ni (b k:Nat)(w:World):Calls Tryz.prog 107 #[.int .i64 k,.pointer (some ⟨b,0,none⟩)] w fun e w'=>e= .returned (.func (.func 108) #[] #[.pointer (some ⟨b,0,none⟩),.pointer (some ⟨w.heap.size,0,none⟩)])/\w'=w.alloc (.cells #[.int .i64 k] 3):=by
 go_enter Tryz.func107,Tryz.ntmps107
 go_wp2;go_ret;exact⟨rfl,rfl⟩
theorem tR (s:ByteArray)(b c k:Nat)(w:World)(i:af w b 9 #[.string s])(l:af w c 3 #[.int .i64 k])(m:s.size<=9223372036854775807)(n:k<=100):
 Calls Tryz.prog 108 #[.pointer (some ⟨b,0,none⟩),.pointer (some ⟨c,0,none⟩)] w fun e w'=>e= .returned (.int .i64 (if k<=s.size then 0 else 2))/\w=w':=by
 have p:w.cell? ⟨b,0,none⟩=some (.string s):=yd i;have o:w.cell? ⟨c,0,none⟩=some (.int .i64 k):=yd l;have d:=za (fun h w=>k9 h 2 w);by_cases h:k<=s.size
 ·rw[zl h];go_enter Tryz.func108,Tryz.ntmps108
  go_wp2_with fail
  refine(d.out _ _).mono ?_;rintro e j ⟨rfl,rfl⟩;go_wp2;go_ret;exact⟨rfl,rfl⟩
 rw[zj h];go_enter Tryz.func108,Tryz.ntmps108
 go_wp2_with fail
 refine(d.out _ _).mono ?_;rintro e j ⟨rfl,rfl⟩;go_wp2;go_ret;exact⟨rfl,rfl⟩
def U6 (b:Nat):Value:= .func (.func 106) #[] #[.pointer (some ⟨b,0,none⟩)]
theorem TP (s:ByteArray)(b c d m:Nat)(w:World)(o:af w b 9 #[.string s])(q:af w c 156 #[U6 b])(hd:af w d 22 #[.int .u32 m])(r:m<4294967296)(l:s.size<=9223372036854775807)(k:4<=s.size):
 Calls Tryz.prog 110 #[.pointer (some ⟨c,0,none⟩),.pointer (some ⟨d,0,none⟩)] w fun e w'=>e= .returned (.int .i64 (if cZ (s.extract 0 4).data.toList=m then 0 else 9))/\∃n,w'=w.drewN n:=by
 have i:=za (fun n=>vS s b 0 4 (w.drewN n) (o.drewN n) (by omega) k (by omega) l);have p:w.cell? ⟨c,0,none⟩=some (U6 b):=yd q;have u:w.cell? ⟨d,0,none⟩=some (.int .u32 m):=yd hd;have j:=za (fun h w=>k9 h 9 w);unfold U6 at p;generalize cZ (s.extract 0 4).data.toList=N at*;by_cases h:N=m
 ·rw[zl h];have hd:((N:Int)==(m:Int))=true:=by rw[h];simp
  clear h;go_enter Tryz.func110,Tryz.ntmps110
  go_wp2_with fail
  go_quiet ((first|(go_at_call 106;with_reducible exact Calls.eX (i.out _))|(go_at_call 109;with_reducible exact Calls.eX (j.out _ _))))
  go_wp2;go_ret;exact⟨rfl,nq,rfl⟩
 rw[zj h];have hd:((N:Int)==(m:Int))=false:=zr.2 (by omega);clear h;go_enter Tryz.func110,Tryz.ntmps110
 go_wp2_with fail
 go_quiet ((first|(go_at_call 106;with_reducible exact Calls.eX (i.out _))|(go_at_call 109;with_reducible exact Calls.eX (j.out _ _))))
 go_wp2;go_ret;exact⟨rfl,nq,rfl⟩
theorem TQ (s:ByteArray)(b nb:Nat)(v:Value)(w:World)(i:af w b 9 #[.string s])(c:af w nb 9 #[v])(o:nb≠b)(m:s.size<=9223372036854775807)(k:16<=s.size):
 Calls Tryz.prog 111 #[.pointer (some ⟨b,0,none⟩),.pointer (some ⟨nb,0,none⟩)] w fun e w'=>e= .returned (.int .i64 (cW (s.extract 4 16)).1)/\w'=w.setCell ⟨nb,0,none⟩ (.string (cW (s.extract 4 16)).2):=by
 have d:=za (fun w=>Pa (s.extract 4 16) w (by rw[an _ _ _ k];omega));have q:w.cell? ⟨b,0,none⟩=some (.string s):=yd i;have n:w.cell? ⟨nb,0,none⟩=some v:=yd c;have p:w.frozen? ⟨nb,0,none⟩=false:=Zw c;have l:=za (fun h w=>k9 h 3 w);rcases rY (s.extract 4 16)with hg|⟨t,hg⟩;all_goals
  rw[hg]at d⊢;clear hg;go_enter Tryz.func111,Tryz.ntmps111
  go_wp2_with fail
  refine(d.out _).mono ?_;rintro e j ⟨rfl,rfl⟩;go_wp2_with fail
  refine(l.out _ _).mono ?_;rintro e j ⟨rfl,rfl⟩;go_wp2;go_ret;exact⟨rfl,rfl⟩
theorem Xi (s:ByteArray)(b c lb d:Nat)(v:Value)(most:Int)(w:World)(o:af w b 9 #[.string s])(u:af w c 156 #[U6 b])(k:af w lb 3 #[v])(p:af w d 3 #[.int .i64 most])(m:lb≠d)(n:s.size<=9223372036854775807)(q:20<=s.size):
 Calls Tryz.prog 113 #[.pointer (some ⟨c,0,none⟩),.pointer (some ⟨lb,0,none⟩),.pointer (some ⟨d,0,none⟩)] w fun e w'=>e= .returned (.int .i64 (if(cZ (s.extract 16 20).data.toList:Int)<=most then 0 else 5))/\w'=w.setCell ⟨lb,0,none⟩ (.int .i64 (cZ (s.extract 16 20).data.toList)):=by
 have j:=za (fun(_:Unit)=>vS s b 16 20 w o (by omega) q (by omega) n);have A:=tG (s.extract 16 20) (an _ _ _ (by omega));have r:w.cell? ⟨c,0,none⟩=some (U6 b):=yd u;have B:w.cell? ⟨d,0,none⟩=some (.int .i64 most):=yd p;have z:w.cell? ⟨lb,0,none⟩=some v:=yd k;have y:w.frozen? ⟨lb,0,none⟩=false:=Zw k;have l:=za (fun h w=>k9 h 5 w);unfold U6 at r;have x:(lb=d)=False:=yL m;clear m;generalize cZ (s.extract 16 20).data.toList=N at*;by_cases h:(N:Int)<=most
 ·rw[zl h];have hd:decide ((N:Int)<=most)=true:=zH h;clear h;go_enter Tryz.func113,Tryz.ntmps113
  go_wp2_with fail
  refine(j.out ()).mono ?_;rintro e i ⟨rfl,rfl⟩;go_wp2_with fail
  refine(l.out _ _).mono ?_;rintro e i ⟨rfl,rfl⟩;go_wp2;go_ret;exact⟨rfl,rfl⟩
 rw[zj h];have hd:decide ((N:Int)<=most)=false:=zz h;clear h;go_enter Tryz.func113,Tryz.ntmps113
 go_wp2_with fail
 refine(j.out ()).mono ?_;rintro e i ⟨rfl,rfl⟩;go_wp2_with fail
 refine(l.out _ _).mono ?_;rintro e i ⟨rfl,rfl⟩;go_wp2;go_ret;exact⟨rfl,rfl⟩
theorem TR (s:ByteArray)(b lb N:Nat)(w:World)(d:af w b 9 #[.string s])(j:af w lb 3 #[.int .i64 N])(k:s.size<=9223372036854775807)(l:N<4294967296):
 Calls Tryz.prog 114 #[.pointer (some ⟨b,0,none⟩),.pointer (some ⟨lb,0,none⟩)] w fun e w'=>e= .returned (.int .i64 (if 24+N<=s.size then 0 else 2))/\w=w':=by
 have n:w.cell? ⟨b,0,none⟩=some (.string s):=yd d;have m:w.cell? ⟨lb,0,none⟩=some (.int .i64 N):=yd j;have c:=za (fun h w=>k9 h 2 w);by_cases h:24+N<=s.size
 ·rw[zl h];have hd:decide ((N:Int)<=(s.size:Int)-24)=true:=zH (by omega);clear h;go_enter Tryz.func114,Tryz.ntmps114
  go_wp2_with fail
  refine(c.out _ _).mono ?_;rintro e i ⟨rfl,rfl⟩;go_wp2;go_ret;exact⟨rfl,rfl⟩
 rw[zj h];have hd:decide ((N:Int)<=(s.size:Int)-24)=false:=zz (by omega);clear h;go_enter Tryz.func114,Tryz.ntmps114
 go_wp2_with fail
 refine(c.out _ _).mono ?_;rintro e i ⟨rfl,rfl⟩;go_wp2;go_ret;exact⟨rfl,rfl⟩
theorem Xj (s:ByteArray)(b lb N:Nat)(w:World)(i:af w b 9 #[.string s])(k:af w lb 3 #[.int .i64 N])(A:s.size<=1099511627776)(o:24+N<=s.size)(I:N<=100000):
 Calls Tryz.prog 115 #[.pointer (some ⟨b,0,none⟩),.pointer (some ⟨lb,0,none⟩)] w fun e w'=>e= .returned (.int .i64 (if eR (s.extract 24 (24+N))=s.extract 20 24 then 0 else 10))/\Below w.heap.size w w':=by
 have l:w.cell? ⟨b,0,none⟩=some (.string s):=yd i;have x:w.cell? ⟨lb,0,none⟩=some (.int .i64 N):=yd k;have F:=i.lt;have B:=k.lt;have u:=za (fun w=>Ng (s.extract 24 (24+N)) (s.extract 20 24) w (by rw[an _ _ _ o];omega));have j:=za (fun h w=>(k9 h 10 w).mono (R':=fun y w'=>y= .returned (.int .i64 (if h then 0 else 10))/\Below w.heap.size w w') fun e w' h=>⟨h.1,by rw[<-h.2];exact zq _ _⟩);have d:Hid ((if decide (eR (s.extract 24 (24+N))=s.extract 20 24)=true then(0:Int)else 10)=if eR (s.extract 24 (24+N))=s.extract 20 24 then 0 else 10):=za (by simp);rw[<-d.out];generalize decide (eR (s.extract 24 (24+N))=s.extract 20 24)=D at*;clear d;have J:(24:Int)+N<=s.size:=by omega
 have m:=za (j.out D);clear j;generalize (if D=true then(0:Int)else 10)=r at*;have C:(24:Int)<=24+N:=by omega
 have H:(24:Int)<=s.size:=by omega
 have z:IntKind.i64.wrap (24+(N:Int))=24+N:=yg _ (by omega);have E:(24+(N:Int)).toNat=24+N:=by omega
 go_enter Tryz.func115,Tryz.ntmps115
 go_wp2_with fail
 refine fP (by kernel_rfl) (by kernel_rfl) ?_;refine ar (.string s) (by rfl) (fun w' c=>by have q:=(c.cell (p:=⟨b,0,none⟩) (by simpa using by assumption)).trans l;go_simp) ?_;simp only[Act.put,zd,ze,zh];refine ar (.int .i64 N) (by rfl) (fun w' c=>by have q:=(c.cell (p:=⟨lb,0,none⟩) (by simpa using by assumption)).trans x;go_simp) ?_;simp only[Act.put,zd,ze,zh];refine ar (.int .i64 (24+N)) (by rfl) (fun _ _=>by first|rfl|go_simp) ?_;simp only[Act.put,zd,ze,zh];refine ar (.string (s.extract 24 (24+N))) (by rfl) (fun _ _=>by first|rfl|go_simp) ?_;simp only[Act.put,zd,ze,zh];refine ar (.string s) (by rfl) (fun w' c=>by have q:=(c.cell (p:=⟨b,0,none⟩) (by simpa using by assumption)).trans l;go_simp) ?_;simp only[Act.put,zd,ze,zh];refine ar (.string (s.extract 20 24)) (by rfl) (fun _ _=>by first|rfl|go_simp) ?_;simp only[Act.put,zd,ze,zh];refine eE 116 _ _ (by rfl) (fun _=>by first|rfl|go_simp) (fun w _=>u.out _) ?_;simp only[Act.put,zd,ze,zh];refine eE 109 _ _ (by rfl) (fun _=>by first|rfl|go_simp) (fun w _=>m.out _) ?_;simp only[Act.put,zd,ze,zh];refine ar (.int .i64 r) (by rfl) (fun _ _=>by first|rfl|go_simp) ?_;simp only[Act.put,zd,ze,zh];refine xN ?_;intro G n;go_wp2;go_ret;exact⟨rfl,n⟩
def ab0 (r:Int×ByteArray×ByteArray×Nat):Value:= .tuple #[.agg #[.int .u64 0,.string r.2.1,.string r.2.2.1],.int .i64 r.2.2.2,.int .i64 r.1]
theorem ot {w:World}{g:Nat}{t:TypeId}{j e i:Value}(h:af w g t #[j,e,i])(d c b:Value):af (((w.setCell ⟨g,0,none⟩ d).setCell ⟨g,1,none⟩ c).setCell ⟨g,2,none⟩ b) g t #[d,c,b]:=((h.set 0 d).set 1 c).set 2 b
theorem kx {B:Nat}{w w':World}(h:Below B w w'){g:Nat}(b:B<=g)(d c e:Value):Below B w (((w'.setCell ⟨g,0,none⟩ d).setCell ⟨g,1,none⟩ c).setCell ⟨g,2,none⟩ e):=
 ((h.setCell (by simpa using b) _).setCell (by simpa using b) _).setCell (by simpa using b) _
