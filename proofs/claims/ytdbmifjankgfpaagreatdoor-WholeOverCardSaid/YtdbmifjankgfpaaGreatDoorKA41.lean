/- A length over a cap: plain. No program in sight. -/
import Derived.Test.YtdbmifjankgfpaaGreatDoorKA38
set_option linter.all false
set_option maxRecDepth 100000
set_option maxHeartbeats 4000000
open Go.Proofs.Tryz
namespace Go.Proofs.YtdbmifjankgfpaaGreatDoor
def gX (mg n:Nat):ByteArray:=kx mg++⟨#[112,105,110,103,0,0,0,0,0,0,0,0]⟩++kx n
def fE (n:Nat):ByteArray:=⟨(aQ n).toArray⟩
theorem iY (b n:Nat):(gX b n).size=20:=by simp only[gX,bD,df];rfl
theorem Gx {b n:Nat}{most:Int}(e:n<4294967296)(h:most<n):aV b most (gX b n)=(5,ByteArray.empty,ByteArray.empty,0):=by
 have j:(gX b n).extract 0 4=kx b:=iG _ ByteArray.empty (kx b) (⟨#[112,105,110,103,0,0,0,0,0,0,0,0]⟩++kx n) (by simp[gX,Zu]) _ _ rfl (by rw[df]);have i:(gX b n).extract 4 16=⟨#[112,105,110,103,0,0,0,0,0,0,0,0]⟩:=iG _ (kx b) _ (kx n) rfl _ _ (df _) rfl;have c:(gX b n).extract 16 20=kx n:=iG _ (kx b++⟨#[112,105,110,103,0,0,0,0,0,0,0,0]⟩) _ ByteArray.empty (by simp[gX]) _ _ (by rw[bD,df];rfl) (by rw[df]);have d:(cI ⟨#[112,105,110,103,0,0,0,0,0,0,0,0]⟩).1=0:=by decide+kernel
 unfold aV;rw[j,i,c,iY,uh n e,d,zh (by omega),zh (by simp),zh (by omega),zh (by simp),zh (by omega),zi h]
theorem wT {n:Nat}(b:n<18446744073709551616):au (fE n)=(n,(aQ n).length,0):=iO n (fE n) [] (by simp[fE]) b
theorem Gy {n:Nat}(c:n<18446744073709551616):au ((fE n).extract 0 ((fE n).size-1))=(0,0,2):=by
 have hz:(fE n).size=(aQ n).length:=by rw[fE,bB]
 have d:=qj n;rcases nn (fE n) ((fE n).size-1) (by omega)with h|h
 ·exfalso;rw[wT c]at h;have b:=(fZ _ (by rw[h])).2.2.1;rw[h,aj _ _ _ (by omega)]at b;simp only at b;omega
 exact h
theorem Lp (s:ByteArray)(k a b:Nat)(c:b<=k):(s.extract 0 k).extract a b=s.extract a b:=aB (by rw[an,an,an,zK,xe,yw c])
def cr (c:aN)(n:Nat):ByteArray:=if c.fm=1 then gX c.mg n else fE n
theorem pJ (c:aN)(n:Nat):0<(cr c n).size:=by
 unfold cr;split
 ·rw[iY];omega
 rw[fE,bB];exact qj n
theorem X9 {c:aN}{n:Nat}(k:n<18446744073709551616)(i:c.fm=1->n<4294967296)(h:c.fr<n):(bd c (cr c n)).1=5/\(bd c (cr c n)).2.2.2=0:=by
 unfold cr bd;by_cases b:c.fm=1
 ·rw[zi b,zi b,Gx (i b) h];exact⟨rfl,rfl⟩
 rw[zh b,zh b];have j:ar c.fr (fE n)=(0,0,5):=by unfold ar;rw[wT k];simp only[xA];rw[zi h]
 have e:=nr c.fr (fE n) (by rw[j]);by_cases d:c.fm=2
 ·rw[zi d,e];exact⟨rfl,rfl⟩
 rw[zh d];have:aR c.fr c.un (fE n)=(5,0,ByteArray.empty,0,0):=by rw[bu,e];simp
 rw[this];exact⟨rfl,rfl⟩
theorem JF {m:Nat}{most:Int}{s:ByteArray}(hz:s.size=19)(b:s.extract 0 4=kx m)(c:(cI (s.extract 4 16)).1=0):(aV m most s).1=2:=by
 unfold aV;rw[b,hz,c,zh (by omega),zh (by simp),zh (by omega),zh (by simp),zi (by omega)]
theorem DN (b n:Nat)(most:Int):(aV b most ((gX b n).extract 0 19)).1=2:=by
 have c:=iY b n;refine JF (by rw[aj _ _ _ (by omega)]) ?_ ?_
 ·rw[Lp _ _ _ _ (by omega)];exact iG _ ByteArray.empty (kx b) (⟨#[112,105,110,103,0,0,0,0,0,0,0,0]⟩++kx n) (by simp[gX,Zu]) _ _ rfl (by rw[df])
 rw[Lp _ _ _ _ (by omega),iG (gX b n) (kx b) _ (kx n) rfl 4 16 (df _) rfl];decide+kernel
theorem Q4 {c:aN}{n:Nat}(i:n<18446744073709551616):(bd c ((cr c n).extract 0 ((cr c n).size-1))).1=2:=by
 unfold cr;by_cases b:c.fm=1
 ·rw[zi b,iY,show 20-1=19 from rfl];have:=DN c.mg n c.fr;generalize (gX c.mg n).extract 0 19=q at*;unfold bd;rw[zi b];simp only;exact this
 rw[zh b];have h:ar c.fr ((fE n).extract 0 ((fE n).size-1))=(0,0,2):=by unfold ar;rw[Gy i];simp
 have e:ai c.fr ((fE n).extract 0 ((fE n).size-1))=(2,0,ByteArray.empty,0):=by unfold ai;rw[h];simp
 generalize (fE n).extract 0 ((fE n).size-1)=q at*;unfold bd;rw[zh b];by_cases d:c.fm=2
 ·rw[zi d,e]
 rw[zh d,bu,e];simp
theorem Q5 {c:aN}{n:Nat}(l:List bC)(b:c.right=true)(i:n<18446744073709551616)(j:c.fm=1->n<4294967296)(h:c.fr<n):
 mX (aL c l) eU.new ((cr c n).extract 0 ((cr c n).size-1))=(⟨(cr c n).extract 0 ((cr c n).size-1),0,(cr c n).size-1,0⟩,[],0)/\
 mX (aL c l) ⟨(cr c n).extract 0 ((cr c n).size-1),0,(cr c n).size-1,0⟩ ((cr c n).extract ((cr c n).size-1) (cr c n).size)=(⟨cr c n,5,1,0⟩,[],5):=by
 have m:=Q4 (c:=c) i;obtain⟨k,o⟩:=X9 i j h;have q:=pJ c n;generalize cr c n=H at*;have hz:(H.extract 0 (H.size-1)).size=H.size-1:=by rw[aj _ _ _ (by omega)];omega
 have p:(H.extract (H.size-1) H.size).size=1:=by rw[aj _ _ _ (zd _)];omega
 have e:H.extract 0 (H.size-1)++H.extract (H.size-1) H.size=H:=by
  apply aB;rw[aP,an,an,cQ];simp only[zK];exact zJ _ _
 constructor
 ·rw[fq rfl];have:eU.new.buf++H.extract 0 (H.size-1)=H.extract 0 (H.size-1):=by simp[eU.new]
  rw[this,dv (bX c l) (iU.2 (by rw[bz b];exact m)),hz];rfl
 have d:(aK c H).1=5:=by rw[bz b];exact k
 have hx:aL c l H=(5,qv,(aK c H).2.2.1,0):=by rw[Dd (by rw[d];decide),d,bz b,o]
 rw[fq rfl];simp only;rw[e,k8 (bX c l) (by rw[hx];simp) (by rw[hx];simp),hx,p];rfl
def qW (f:Nat)(fr:Nat)(mg:Nat):aN:=⟨1+((f%3:Nat):Int),mg,1+(fr:Int),100,4,9⟩
theorem so (f b c:Nat)(h:b<65536):(qW f b c).right=true:=by
 rw[aN.bW];simp only[qW];omega
theorem Q6 (f b c:Nat)(h:b<65536):mQ (qW f b c) [bP]=0:=by
 rw[oA (so f b c h) (by simp)];have e:fP (qW f b c) [] bP=0:=by
  unfold fP;have d:nW.flat=true:=by unfold Ty.flat;rw[sm];rfl
  rw[zh (by decide),zh (by simp),zh (by simp),pH,zh (by simp),tz,zh (by rw[d];simp)]
 simp[iT,e]
open Go.RowKit
theorem UD (n k:Nat):(⟨(iq n k).toArray⟩:ByteArray)++⟨#[ub ((n:Int)/2^(8*k)%256)]⟩=⟨(iq n (k+1)).toArray⟩:=by
 apply aB;rw[aP,show((n:Int)/2^(8*k)%256)=((n/2^(8*k)%256:Nat):Int)from by simp];simp[iq]
theorem Lr (n:Nat):(⟨(iq n 4).toArray⟩:ByteArray)=kx n:=rfl
theorem Cy (c:aN){n:Nat}(b:n<18446744073709551616):(cr c n).size<=100:=by
 unfold cr;split
 ·rw[iY];omega
 rw[fE,bB];have:=bo 10 n (by omega) (by omega);omega
theorem Gz (f c b:Nat)(h:c<65536)(d:b<4294967296):(qW f c b).ok:=by
 have:f%3<3:=yZ _ (by decide);refine⟨?_, ?_, ?_, ?_, ?_, ?_⟩<;>simp only[qW]<;>(first|omega|(unfold mJ;omega)|decide)
def jY (p:ByteArray)(n k:Nat):ByteArray:=p++⟨(iq n k).toArray⟩
theorem Ls (p:ByteArray)(n k:Nat):jY p n k++⟨#[ub ((n:Int)/2^(8*k)%256)]⟩=jY p n (k+1):=by
 unfold jY;rw[Zu,UD]
theorem UE (p:ByteArray)(n:Nat):jY p n 0=p:=by
 unfold jY;exact aB (by rw[aP];simp[iq])
theorem DO (p:ByteArray)(n k:Nat)(c:k<=4)(b:p.size<=100):(jY p n k).size<=104:=by
 unfold jY;have h:(⟨(iq n k).toArray⟩:ByteArray).size=k:=by rw[bB,bh]
 rw[bD,h];omega
theorem GA (f i more b:Nat)(w:World)(hf:f<256)(mL:i<65536)(aI:more<4294967296)(al:b<4294967296)(hL:Laid w)(ic:ba w):
 Calls prog 5 #[.int .u8 f,.int .u16 i,.int .u32 more,.int .u32 b] w fun e w'=>e= .returned (.bool true)/\Below w.heap.size w w':=by
 have HA:=za (Lo w hL ic);have G:=za (And.intro hL ic);have Tj:Hid (wR w.heap.size):=za ⟨hL.pos,ic.pos⟩;obtain⟨m,hm⟩:∃m,f%3=m:=⟨_,rfl⟩
 have CG:m<3:=by omega
 have e1:((f:Int)).tmod 3=(m:Int):=by rw[xr (by omega)];omega
 have HM:=za hm;clear hm hL ic;go_enter func5,ntmps5
 go_wp2_with fail
 refine HA.out.mono ?_;rintro e r ⟨rfl,aH⟩;have ch:=za aH;clear aH HA;obtain⟨W,hW⟩:∃W,r.alloc (.cells #[.int .i64 (1+(m:Int)),.int .u32 b,.int .i64 (1+(i:Int)),.int .i64 100,.int .i64 4,.int .i64 9] 24)=W:=⟨_,rfl⟩
 have U1:W.heap.size=r.heap.size+1:=by rw[<-hW];simp
 have k7:Below r.heap.size r W:=by rw[<-hW];exact(zl _ r).alloc (zd _) _
 have an:af W r.heap.size 24 #[.int .i64 (1+(m:Int)),.int .u32 b,.int .i64 (1+(i:Int)),.int .i64 100,.int .i64 4,.int .i64 9]:=by rw[<-hW];exact af.new r _ _
 have Oz:Hid (∀V,Below W.heap.size W V->af V r.heap.size 24 #[.int .i64 (1+(m:Int)),.int .u32 b,.int .i64 (1+(i:Int)),.int .i64 100,.int .i64 4,.int .i64 9]):=za (fun V hV=>an.ag hV (by omega));have Ol:=ch.out.size;have rE:Hid (∀V,Below W.heap.size W V->Below w.heap.size w V/\r.heap.size+1<=V.heap.size):=za (fun V hV=>⟨(ch.out.trans (k7.mono Ol)).trans (hV.mono (by omega)),by have:=hV.size;omega⟩);have HW:=za hW;clear hW an k7;obtain⟨q0,q1,q2,q3,q4,q5⟩:=fh (Oz.out W (zl _ _));obtain⟨N,hN⟩:∃N:Nat,i+2+more=N:=⟨_,rfl⟩
 have aG:(1:Int)+(i:Int)+1+(more:Int)=(N:Int):=by omega
 have JZ:N<18446744073709551616:=by omega
 have HN:=za hN;clear hN;by_cases Bn:m=0;focus
  have hq:(((1:Int)+(m:Int))==1)=true:=by rw[Bn];rfl
  have ah:=za Bn;clear Bn;by_cases aJ:4294967295<N
  ·have av:(4294967295:Int)<(N:Int):=by omega
   go_wp2;go_ret;exact⟨rfl,by rw[HW.out];exact(rE.out W (zl _ _)).1⟩
  have av:¬(4294967295:Int)<(N:Int):=by omega
  go_wp2_with fail
  rw[HW.out];go_loopw [11,12] (fun hv M wr=>∃k:Nat,M= .int .i64 k/\k<=4/\hv= .string (jY ByteArray.empty b k)/\Hid (Below W.heap.size W wr)) (fun _ M _=>4-(intOf M).toNat)
  case atStart=>exact⟨0,rfl,by omega,rfl,za (zl _ _)⟩
  case round=>
   have aA:ByteArray.empty.size=0:=rfl;obtain⟨k,rfl,A,rfl,l⟩:=hrel;have E:=l.out.size;by_cases aD:k<4
   ·have nZ:(k:Int)<4:=by omega
    have F:=za (Ls (ByteArray.empty) b k);have Ly:=DO (ByteArray.empty) b k (by omega) (by omega);generalize jY (ByteArray.empty) b k=X at*;have k1:=ni (P:=prog) (src:=31) (dst:=9) zr yb zG wr ((b:Int)/2^(8*k)%256);go_wp2;go_roundw
    case rel=>exact⟨k+1,by go_num,by omega,by rw[F.out],za (l.out.alloc E _)⟩
    case measure=>simp[intOf];omega
   obtain rfl:k=4:=by omega
   have Ly:=DO ByteArray.empty b 4 (by omega) (by omega);obtain⟨X,hX⟩:∃X,jY ByteArray.empty b 4=X:=⟨_,rfl⟩
   rw[hX]at Ly⊢;have HX:=za hX;have az:(X++⟨#[112,105,110,103,0,0,0,0,0,0,0,0]⟩:ByteArray).size=16:=by
    rw[<-hX];simp only[jY,bD,Lr,df];rfl
   have au:(⟨#[112,105,110,103,0,0,0,0,0,0,0,0]⟩:ByteArray).size=12:=rfl;clear hX aA;go_wp2_with fail
   generalize hP:(X++⟨#[112,105,110,103,0,0,0,0,0,0,0,0]⟩:ByteArray)=P at*;have HP:=za hP;clear hP au Ly;go_loopw [11,13] (fun hv M wq=>∃k:Nat,M= .int .i64 k/\k<=4/\hv= .string (jY P N k)/\Hid (Below W.heap.size W wq)) (fun _ M _=>4-(intOf M).toNat)
   case atStart=>exact⟨0,rfl,by omega,by rw[UE],l⟩
   case round=>
    clear l E;obtain⟨k,rfl,A,rfl,l⟩:=hrel;have E:=l.out.size;by_cases aD:k<4
    ·have nZ:(k:Int)<4:=by omega
     have F:=za (Ls (P) N k);have Ly:=DO (P) N k (by omega) (by omega);generalize jY (P) N k=X at*;have k1:=ni (P:=prog) (src:=31) (dst:=9) zr yb zG wr ((N:Int)/2^(8*k)%256);go_wp2;go_roundw
     case rel=>exact⟨k+1,by go_num,by omega,by rw[F.out],za (l.out.alloc E _)⟩
     case measure=>simp[intOf];omega
    obtain rfl:k=4:=by omega
    obtain⟨H,hH⟩:∃H,jY P N 4=H:=⟨_,rfl⟩
    have z:Hid (H=cr (qW f i b) N):=za (by
     rw[<-hH,<-HP.out,<-HX.out];unfold cr;rw[zi (by simp[qW,HM.out,ah.out])];unfold gX jY;simp[Lr,qW])
    have YI:Hid ((qW f i b).fm=1->N<4294967296):=za (fun _=>by omega);rw[hH];clear hH HP HX az;have JS:=(rE.out wr l.out).2;obtain⟨q0,q1,q2,q3,q4,q5⟩:=fh (Oz.out wr l.out);obtain⟨d,o⟩:∃d,wr.alloc (.cells #[.int .u64 5,.string ⟨#[112,105,110,103]⟩,.string ⟨#[117,56]⟩] 48)=d:=⟨_,rfl⟩
    have aS:Below wr.heap.size wr d:=by rw[<-o];exact(zl _ wr).alloc (zd _) _
    have cC:d.heap.size=wr.heap.size+1:=by rw[<-o];simp
    have s:af d wr.heap.size 48 #[.int .u64 5,.string ⟨#[112,105,110,103]⟩,.string ⟨#[117,56]⟩]:=by rw[<-o];exact af.new _ _ _
    have nY:po d d.heap.size (.slice (some ⟨wr.heap.size,0,none⟩) 1 1) [bP]:=⟨_,1,rfl,by simp,by simp,fun j hj=>by
     obtain rfl:j=0:=by simp at hj;omega
     exact⟨_,_,rfl,by omega,s.cell 0,s.cell 1,s.cell 2⟩⟩
    have u:Hid (Below w.heap.size w d):=za ((rE.out wr l.out).1.trans (aS.mono (by omega)));have q:Hid (Laid d/\ba d):=za ⟨G.out.1.below u.out G.out.1.pos,G.out.2.below u.out G.out.2.pos⟩;have D:=za (so f i b mL);have Z:Hid (qW f i b).ok:=za (Gz f i b mL al);have R:=za (pI (qW f i b) [bP] _ d.heap.size d nY (zd _) q.out.1 (by
     intro e he;obtain rfl:=yS.1 he;exact⟨by decide,by simp[bP,ByteArray.size],by simp[bP,ByteArray.size]⟩) (Q6 f i b mL))
    have K:=Q5 (c:=qW f i b) (n:=N) [bP] D.out JZ YI.out (by have:=HN.out;simp only[qW];omega);rw[<-z.out]at K;have aq:1<=H.size:=by rw[z.out];exact pJ _ _
    have ar:H.size<=100:=by rw[z.out];exact Cy _ JZ
    obtain⟨k1,iA⟩:∃k1,H.size-1=k1:=⟨_,rfl⟩
    rw[iA]at K;have nZ:(H.size:Int)-1=(k1:Int):=by omega
    obtain⟨JT,VZ⟩:=K;have Y:=za JT;have L:=za VZ;have J:Hid (qW f i b=⟨1+(m:Int),b,1+(i:Int),100,4,9⟩):=za (by simp[qW,HM.out]);obtain⟨C,hC⟩:∃C,qW f i b=C:=⟨_,rfl⟩
    rw[hC]at R Y L J D Z;have SL:Hid (Calls prog 10 #[.agg #[.int .i64 (1+(m:Int)),.int .u32 b,.int .i64 (1+(i:Int)),.int .i64 100,.int .i64 4,.int .i64 9],.slice (some ⟨wr.heap.size,0,none⟩) 1 1] d fun e w'=>∃lo hi g,d.heap.size<=lo/\e= .returned (.pointer (some ⟨g,0,none⟩))/\dJ w' lo hi g (.slice none 0 0) C [bP] eU.new 0/\Below d.heap.size d w'):=za (by
     have h:=R.out;rw[show C.val= .agg #[.int .i64 (1+(m:Int)),.int .u32 b,.int .i64 (1+(i:Int)),.int .i64 100,.int .i64 4,.int .i64 9]from by rw[J.out];rfl]at h;exact h)
    have pQ:=za o;have ax:w.heap.size<d.heap.size:=by have:=u.out.size;have:=ch.out.size;omega
    clear R JT VZ hC nY s aS o J z YI;go_wp2_with fail
    rw[pQ.out];refine SL.out.mono ?_;rintro e w3 ⟨lo,hi,g,lN,rfl,U,x⟩;have jJ:Hid (Below w.heap.size w w3):=za (u.out.trans (x.mono (by omega)));have S:Hid (Laid w3/\ba w3):=za ⟨q.out.1.below x q.out.1.pos,q.out.2.below x q.out.2.pos⟩;have p:Hid (wR lo):=za ⟨by have:=Tj.out.a;omega,by have:=Tj.out.b;omega⟩;have y:=za (lH lo hi g _ C [bP] eU.new 0 (H.extract 0 k1) w3 D.out Z.out U S.out.1 S.out.2 p.out.a p.out.b (by rw[aj _ _ _ (by omega)];simp[eU.new];omega) (by decide));rw[Y.out]at y;simp only at y;have ab:Hid (∀k∈mH g (.slice none 0 0),lo<=k):=za U.qV;have jI:w.heap.size<=lo:=by omega
    have ao:k1<=H.size:=by omega
    have tR:(H.extract 0 k1).size<=100:=by rw[aj _ _ _ (by omega)];omega
    clear U x SL q0 q1 q2 q3 q4 q5 Y lN;go_wp2_with fail
    refine y.out.mono ?_;rintro e w5 ⟨rv,aa,rfl,ae,O,I,_⟩;obtain⟨A5,n5,ef,rfl,S6,U',Vb⟩:=cd.bT ae;obtain rfl:n5=0:=S6.out;have fT:Hid (Below w.heap.size w w5):=za (jJ.out.trans (I.below jJ.out.size (fun k A=>zF jI (ab.out k A))));have YU:=za (sn S.out p.out I ab.out);have B:=za (lH lo hi g aa C [bP] ⟨H.extract 0 k1,0,k1,0⟩ 0 (H.extract k1 H.size) w5 D.out Z.out O YU.out.1 YU.out.2 p.out.a p.out.b (by rw[aj _ _ _ (zd _)];simp only;omega) (by simp));rw[L.out]at B;simp only at B;have ak:Hid (∀k∈mH g aa,lo<=k):=za O.qV;clear O I ae S6 y L;go_wp2_with fail
    refine B.out.mono ?_;rintro e w6 ⟨rv,aw,rfl,RD,ad,uI,_⟩;obtain⟨A6,n6,dZ,rfl,Sz,aE,U8⟩:=cd.bT RD;obtain rfl:n6=0:=Sz.out;have sD:Hid (Below w.heap.size w w6):=za (fT.out.trans (uI.below fT.out.size (fun k A=>zF jI (ak.out k A))));have ag:=za ad;clear ad uI RD Sz B;go_wp2_with fail
    refine(s6 _ _ _ _ _ _ _ _ _ ag.out).mono ?_;rintro e w' ⟨rfl,rfl⟩;go_wp2_with fail
    refine(vL _ _ _ _ _ _ _ _ _ ag.out).mono ?_;rintro e w' ⟨rfl,rfl⟩;go_wp2;go_ret;exact⟨rfl,sD.out⟩
 have hq:(((1:Int)+(m:Int))==1)=false:=zm.2 (by omega);have ah:Hid (m≠0):=za Bn;clear Bn;go_wp2_with fail
 rw[HW.out];go_loopw [11,10] (fun hv nv wr=>∃(n:Nat) (pre:List UInt8),nv= .int .u64 n/\n<18446744073709551616/\hv= .string ⟨pre.toArray⟩/\Hid (pre++aQ n=aQ N)/\Hid (Below W.heap.size W wr)) (fun _ nv _=>(intOf nv).toNat)
 case atStart=>exact⟨N,[],rfl,JZ,rfl,za rfl,za (zl _ _)⟩
 case round=>
  obtain⟨n,pre,rfl,Rn,rfl,ai,l⟩:=hrel;have E:=l.out.size;have aK:(⟨pre.toArray⟩:ByteArray).size<=10:=by
   rw[bB];have h:=xi List.length ai.out;rw[zj]at h;have:=bo 10 N (by omega) (by omega);omega
  by_cases aD:128<=n
  ·have nZ:(128:Int)<=(n:Int):=by omega
   have F:Hid ((⟨pre.toArray⟩:ByteArray)++⟨#[ub ((n:Int)%128+128)]⟩=⟨(pre++ [ub ((n:Int)%128+128)]).toArray⟩):=za (aB (by rw[aP]));have aC:Hid (pre++ [ub ((n:Int)%128+128)]++aQ (n/128)=aQ N):=za (by
    rw[<-ai.out,il (n:=n) (by omega),zB,show((n:Int)%128+128)=((n%128+128:Nat):Int)from by omega];rfl)
   have e1:=PL n;obtain⟨e2,e3⟩:=PM n Rn;have k1:=ni (P:=prog) (src:=31) (dst:=9) zr yb zG wr ((n:Int)%128+128);generalize (⟨pre.toArray⟩:ByteArray)=X at*;go_wp2;go_roundw
   case rel=>exact⟨n/128,_,by go_num,by omega,by rw[F.out],aC,za (l.out.alloc E _)⟩
   case measure=>simp[intOf];omega
  have nZ:¬(128:Int)<=(n:Int):=by omega
  have F:Hid ((⟨pre.toArray⟩:ByteArray)++⟨#[ub (n:Int)]⟩=cr (qW f i b) N):=za (by
   unfold cr fE;rw[zh (by have:=ah.out;simp[qW,HM.out];omega),<-ai.out,gd (n:=n) (by omega)];exact aB (by rw[aP]))
  have k1:=ni (P:=prog) (src:=31) (dst:=9) zr yb zG wr (n:Int);generalize (⟨pre.toArray⟩:ByteArray)=X at*;obtain⟨H,hH⟩:∃H,X++⟨#[ub (n:Int)]⟩=H:=⟨_,rfl⟩
  obtain⟨wq,R9⟩:∃wq,wr.alloc (.cells #[.int .u8 (n:Int)] 5)=wq:=⟨_,rfl⟩
  have ay:Hid (Below W.heap.size W wq):=za (by rw[<-R9];exact l.out.alloc E _);have z:Hid (H=cr (qW f i b) N):=za (by rw[<-hH];exact F.out);have YI:Hid ((qW f i b).fm=1->N<4294967296):=za (fun h=>absurd h (by have:=ah.out;simp[qW,HM.out];omega));have AJ:=za R9;clear l E F R9;go_upto_region 22 with fail
  rw[AJ.out];clear AJ k1;obtain⟨wr,aF⟩:∃wr,wr=wq:=⟨_,rfl⟩
  subst aF;have l:=ay;have JS:=(rE.out wr l.out).2;obtain⟨q0,q1,q2,q3,q4,q5⟩:=fh (Oz.out wr l.out);obtain⟨d,o⟩:∃d,wr.alloc (.cells #[.int .u64 5,.string ⟨#[112,105,110,103]⟩,.string ⟨#[117,56]⟩] 48)=d:=⟨_,rfl⟩
  have aS:Below wr.heap.size wr d:=by rw[<-o];exact(zl _ wr).alloc (zd _) _
  have cC:d.heap.size=wr.heap.size+1:=by rw[<-o];simp
  have s:af d wr.heap.size 48 #[.int .u64 5,.string ⟨#[112,105,110,103]⟩,.string ⟨#[117,56]⟩]:=by rw[<-o];exact af.new _ _ _
  have nY:po d d.heap.size (.slice (some ⟨wr.heap.size,0,none⟩) 1 1) [bP]:=⟨_,1,rfl,by simp,by simp,fun j hj=>by
   obtain rfl:j=0:=by simp at hj;omega
   exact⟨_,_,rfl,by omega,s.cell 0,s.cell 1,s.cell 2⟩⟩
  have u:Hid (Below w.heap.size w d):=za ((rE.out wr l.out).1.trans (aS.mono (by omega)));have q:Hid (Laid d/\ba d):=za ⟨G.out.1.below u.out G.out.1.pos,G.out.2.below u.out G.out.2.pos⟩;have D:=za (so f i b mL);have Z:Hid (qW f i b).ok:=za (Gz f i b mL al);have R:=za (pI (qW f i b) [bP] _ d.heap.size d nY (zd _) q.out.1 (by
   intro e he;obtain rfl:=yS.1 he;exact⟨by decide,by simp[bP,ByteArray.size],by simp[bP,ByteArray.size]⟩) (Q6 f i b mL))
  have K:=Q5 (c:=qW f i b) (n:=N) [bP] D.out JZ YI.out (by have:=HN.out;simp only[qW];omega);rw[<-z.out]at K;have aq:1<=H.size:=by rw[z.out];exact pJ _ _
  have ar:H.size<=100:=by rw[z.out];exact Cy _ JZ
  obtain⟨k1,iA⟩:∃k1,H.size-1=k1:=⟨_,rfl⟩
  rw[iA]at K;have nZ:(H.size:Int)-1=(k1:Int):=by omega
  obtain⟨JT,VZ⟩:=K;have Y:=za JT;have L:=za VZ;have J:Hid (qW f i b=⟨1+(m:Int),b,1+(i:Int),100,4,9⟩):=za (by simp[qW,HM.out]);obtain⟨C,hC⟩:∃C,qW f i b=C:=⟨_,rfl⟩
  rw[hC]at R Y L J D Z;have SL:Hid (Calls prog 10 #[.agg #[.int .i64 (1+(m:Int)),.int .u32 b,.int .i64 (1+(i:Int)),.int .i64 100,.int .i64 4,.int .i64 9],.slice (some ⟨wr.heap.size,0,none⟩) 1 1] d fun e w'=>∃lo hi g,d.heap.size<=lo/\e= .returned (.pointer (some ⟨g,0,none⟩))/\dJ w' lo hi g (.slice none 0 0) C [bP] eU.new 0/\Below d.heap.size d w'):=za (by
   have h:=R.out;rw[show C.val= .agg #[.int .i64 (1+(m:Int)),.int .u32 b,.int .i64 (1+(i:Int)),.int .i64 100,.int .i64 4,.int .i64 9]from by rw[J.out];rfl]at h;exact h)
  have pQ:=za o;have ax:w.heap.size<d.heap.size:=by have:=u.out.size;have:=ch.out.size;omega
  clear R JT VZ hC nY s aS o J z YI;go_wp2_with fail
  rw[pQ.out];refine SL.out.mono ?_;rintro e w3 ⟨lo,hi,g,lN,rfl,U,x⟩;have jJ:Hid (Below w.heap.size w w3):=za (u.out.trans (x.mono (by omega)));have S:Hid (Laid w3/\ba w3):=za ⟨q.out.1.below x q.out.1.pos,q.out.2.below x q.out.2.pos⟩;have p:Hid (wR lo):=za ⟨by have:=Tj.out.a;omega,by have:=Tj.out.b;omega⟩;have y:=za (lH lo hi g _ C [bP] eU.new 0 (H.extract 0 k1) w3 D.out Z.out U S.out.1 S.out.2 p.out.a p.out.b (by rw[aj _ _ _ (by omega)];simp[eU.new];omega) (by decide));rw[Y.out]at y;simp only at y;have ab:Hid (∀k∈mH g (.slice none 0 0),lo<=k):=za U.qV;have jI:w.heap.size<=lo:=by omega
  have ao:k1<=H.size:=by omega
  have tR:(H.extract 0 k1).size<=100:=by rw[aj _ _ _ (by omega)];omega
  clear U x SL q0 q1 q2 q3 q4 q5 Y lN;go_wp2_with fail
  refine y.out.mono ?_;rintro e w5 ⟨rv,aa,rfl,ae,O,I,_⟩;obtain⟨A5,n5,ef,rfl,S6,U',Vb⟩:=cd.bT ae;obtain rfl:n5=0:=S6.out;have fT:Hid (Below w.heap.size w w5):=za (jJ.out.trans (I.below jJ.out.size (fun k A=>zF jI (ab.out k A))));have YU:=za (sn S.out p.out I ab.out);have B:=za (lH lo hi g aa C [bP] ⟨H.extract 0 k1,0,k1,0⟩ 0 (H.extract k1 H.size) w5 D.out Z.out O YU.out.1 YU.out.2 p.out.a p.out.b (by rw[aj _ _ _ (zd _)];simp only;omega) (by simp));rw[L.out]at B;simp only at B;have ak:Hid (∀k∈mH g aa,lo<=k):=za O.qV;clear O I ae S6 y L;go_wp2_with fail
  refine B.out.mono ?_;rintro e w6 ⟨rv,aw,rfl,RD,ad,uI,_⟩;obtain⟨A6,n6,dZ,rfl,Sz,aE,U8⟩:=cd.bT RD;obtain rfl:n6=0:=Sz.out;have sD:Hid (Below w.heap.size w w6):=za (fT.out.trans (uI.below fT.out.size (fun k A=>zF jI (ak.out k A))));have ag:=za ad;clear ad uI RD Sz B;go_wp2_with fail
  refine(s6 _ _ _ _ _ _ _ _ _ ag.out).mono ?_;rintro e w' ⟨rfl,rfl⟩;go_wp2_with fail
  refine(vL _ _ _ _ _ _ _ _ _ ag.out).mono ?_;rintro e w' ⟨rfl,rfl⟩;go_wp2;go_ret;exact⟨rfl,sD.out⟩
theorem GB (f j i h:Int)(W:World)(l:(Lit.int .u8 f).wf=true)(n:(Lit.int .u16 j).wf=true)(m:(Lit.int .u32 i).wf=true)(o:(Lit.int .u32 h).wf=true)(k:Laid W/\ba W):
 Calls prog 5 #[.int .u8 f,.int .u16 j,.int .u32 i,.int .u32 h] W fun e w'=>e= .returned (.bool true)/\Below W.heap.size W w':=by
 have p:0<=f/\f<=255:=by simpa[Lit.wf,IntKind.min,IntKind.max,IntKind.signed,IntKind.bits]using l
 have k1:0<=j/\j<=65535:=by simpa[Lit.wf,IntKind.min,IntKind.max,IntKind.signed,IntKind.bits]using n
 have k2:0<=i/\i<=4294967295:=by simpa[Lit.wf,IntKind.min,IntKind.max,IntKind.signed,IntKind.bits]using m
 have q:0<=h/\h<=4294967295:=by simpa[Lit.wf,IntKind.min,IntKind.max,IntKind.signed,IntKind.bits]using o
 obtain⟨a,rfl⟩:∃x:Nat,f=(x:Int):=⟨f.toNat,by omega⟩
 obtain⟨b,rfl⟩:∃x:Nat,j=(x:Int):=⟨j.toNat,by omega⟩
 obtain⟨c,rfl⟩:∃x:Nat,i=(x:Int):=⟨i.toNat,by omega⟩
 obtain⟨d,rfl⟩:∃x:Nat,h=(x:Int):=⟨h.toNat,by omega⟩
 exact GA a b c d W (by omega) (by omega) (by omega) (by omega) k.1 k.2
