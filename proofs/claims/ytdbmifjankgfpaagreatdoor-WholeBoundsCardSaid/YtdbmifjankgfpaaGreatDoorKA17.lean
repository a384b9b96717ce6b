/- sha.Sum: the digest. -/
import Derived.Test.YtdbmifjankgfpaaGreatDoorKShaM
set_option linter.all false
set_option maxRecDepth 100000
set_option maxHeartbeats 4000000
open Go.Proofs.Tryz
namespace Go.Proofs.YtdbmifjankgfpaaGreatDoor
open Go.RowKit
variable {w W w':World}{g B i id:Nat}{v:Value}{s:ByteArray}{l:List Oper}
def yd:=@cell_of_one
def Z3:=@free_of_one
theorem QT {tmps:Array Value}{V:World}(u:Sh)(c:tmps.getD 0 undef= .pointer (some ⟨g,0,none⟩))(b:af V g 244 (cQ u)):
 (results f189 tmps).run prog V= .ok (kC u) V:=by
 have i:V.cell? ⟨g,0,none⟩=some (.int .u32 u.a):=b.cell 0;have d:V.cell? ⟨g,1,none⟩=some (.int .u32 u.b):=b.cell 1;have k:V.cell? ⟨g,2,none⟩=some (.int .u32 u.c):=b.cell 2;have e:V.cell? ⟨g,3,none⟩=some (.int .u32 u.d):=b.cell 3;have h:V.cell? ⟨g,4,none⟩=some (.int .u32 u.e):=b.cell 4;have m:V.cell? ⟨g,5,none⟩=some (.int .u32 u.f):=b.cell 5;have l:V.cell? ⟨g,6,none⟩=some (.int .u32 u.g):=b.cell 6;have j:V.cell? ⟨g,7,none⟩=some (.int .u32 u.h):=b.cell 7;simp only[Array.getD_eq_getD_getElem?]at c;simp[results,results189,go_sem,c,i,d,k,e,h,m,l,j,kC]
theorem Um (w:World):Calls prog 189 #[] w fun e w'=>e= .returned (kC DX)/\Below w.heap.size w w':=by
 go_enter func189,ntmps189
 go_wp2;refine zj (v:=kC DX) ?_ rfl ?_
 ·exact QT DX (g:=w.heap.size) rfl (af.new w _ _)
 exact⟨rfl,bT⟩
theorem ae.kept {E:TypeId}{c:World}(h:ae [] w W)(b:Kept E w.heap.size W c):ae [] w c:=
 ⟨b.below.os.trans h.os,b.below.tape.trans h.tape,b.below.output.trans h.output,zF h.size b.below.size,fun k d e=>(b.below.block k d).trans (h.block k d e)⟩
theorem QU {P:Program}{d e:TypeId}(j:P.underlying d=some (.slice e))(w:World)(E:TypeId)(b:Array Value)(m:List UInt8)(n c g:Nat)(k:m.length=n)(i:g=w.heap.size)(h:b.toList=cb m):Src P 1 d (.slice (some ⟨g,0,none⟩) n c) m.length (cb m) (w.alloc (.cells b E)):=by
 subst k;exact ud j w E b m c g i h
theorem Jp (x:Nat)(hx:x<4294967296):(#[Value.int .u8 ((x:Int)/16777216),.int .u8 ((x:Int)/65536%256),.int .u8 ((x:Int)/256%256),.int .u8 ((x:Int)%256)]:Array Value).toList=cb (wB x):=by
 simp[cb,wB];omega
theorem sj.next {b wr:World}{a nq:Nat}{v u:Sh}{top:Nat}{x:Value}(e:a=64*i)(hx:x= .int .i64 ((a+64:Nat):Int))(k:a+64<=top)(hu:fH v s i=u)(d:ae [] w wr)(c:ae [] (wr.drewN nq) b)
 (l:af wr B 244 (cQ u)) (j:w.heap.size<=B) (m:top<=s.size):sj w B v s top x (nM b B (pN uM u (s.extract a (a+64)))):=by
 have h:af b B 244 (cQ u):=(l.drewN nq).only c (by simp);refine⟨i+1,a+64,by omega,hx,k, ?_,tv _ ((d.drewN nq).trans c) j⟩;rw[fH,hu,<-e];exact Jo _ h
theorem ab' (s:ByteArray)(w:World)(hs:s.size<=100000):
 Calls prog 159 #[.string s] w fun e w'=>e= .returned (.string (tD s))/\Below w.heap.size w w':=by
 obtain⟨W,hW⟩:∃W,64*(s.size/64)=W:=⟨_,rfl⟩
 have e1:(s.size:Int)-(s.size:Int)%64=(W:Int):=by omega
 have al:W<=s.size:=by omega
 have O:=za hW;clear hW;go_enter func159,ntmps159
 go_wp2_with fail
 refine(Um _).mono ?_;rintro e Y ⟨rfl,Z⟩;unfold kC;go_wp2;obtain⟨U,M⟩:∃U,Y.alloc (.cells #[.int .u32 DX.a,.int .u32 DX.b,.int .u32 DX.c,.int .u32 DX.d,.int .u32 DX.e,.int .u32 DX.f,.int .u32 DX.g,.int .u32 DX.h] 244)=U:=⟨_,rfl⟩
 obtain⟨B,hB⟩:∃B,Y.heap.size=B:=⟨_,rfl⟩
 have VQ:w.heap.size<=B:=by have:=Z.size;omega
 have OD:Hid (af U B 244 (cQ (fH DX s 0))):=za (by rw[<-M,<-hB];exact af.new Y _ _);have aw:Hid (ae [] w U):=za (by rw[<-M];exact(ae.ah Z (zg _)).alloc _);rw[M,hB];clear M hB Z;go_loopw [5] (fun v wr=>sj w B DX s W v wr) (fun v _=>W-(intOf v).toNat)
 case atStart=>exact⟨0,0,rfl,rfl,yk _,OD.out,aw.out⟩
 case round=>
  obtain⟨i,a,H,rfl,du,b,c⟩:=hrel.ex;have m:=En WA s i;obtain⟨u,hu⟩:∃u,fH DX s i=u:=⟨_,rfl⟩
  rw[hu]at b m;have HU:=za hu;have N:=za b;have R:=za c;have h:=b.lt;by_cases aE:a<W
  ·have Lh:a+64<=W:=by omega
   have ab:a+64<=s.size:=by omega
   have g1:IntKind.i64.wrap ((a:Int)+64)=(a:Int)+64:=zW _ (by omega);have g2:((a:Int)+64).toNat=a+64:=by omega
   have g4:(a:Int)<=(a:Int)+64:=by omega
   have g5:(a:Int)+64<=(s.size:Int):=by omega
   have G:=za (fun w=>VA u m (s.extract a (a+64)) (by rw[an _ _ _ ab];omega) w);obtain⟨D,n,C,q,z,E,o,y⟩:=b.wF;have K:=za (fun(j:World) (nq:Nat) (d:ae [] (wr.drewN nq) j)=>sj.next (x:= .int .i64 ((a+64:Nat):Int)) H rfl Lh hu c d b VQ al);obtain⟨nu,J⟩:∃nu,pN uM u (s.extract a (a+64))=nu:=⟨_,rfl⟩
   rw[J]at G K;unfold kC at G;clear H hu b c J m;go_wp2;refine cH 6 (by kernel_rfl) (by kernel_rfl) ?_;simp only[zT,yC,yf,zL];repeat(go_big_quiet_step (fail))
   refine xg ?_;intro nq;clear D n C q z E o y;go_wp2_with fail
   refine(G.out _).mono ?_;rintro e j ⟨rfl,d⟩;have F:=(N.out.drewN nq).only d (by simp);obtain⟨D,n,C,q,z,E,o,y⟩:=F.wF;obtain⟨f0,f1,f2,f3,f4,f5,f6,f7⟩:=F.Vz;have HN:=za (K.out j nq d);clear F d;go_wp2;go_roundw
   case rel=>exact HN.out
   case measure=>simp[intOf];omega
  have az:Hid (i=s.size/64):=za (by have:=O.out;omega);have hp:=fun w=>abM s.size w hs
  have HP:=za hp;have ai:=o4 s.size;have GQ:=sI s.size;have GO:(s.extract W s.size).size<=64:=by rw[an _ _ _ (zg _)];have:=O.out;omega
  have HL:Hid (tD s=⟨(Ep (fH (fH DX s i) (s.extract W s.size++iS s.size) ((s.extract W s.size++iS s.size).size/64))).toArray⟩):=za (by
   rw[tD,Hb s (s.extract W s.size++iS s.size) (by rw[O.out]),<-az.out])
  have aa:Hid ((s.extract W s.size++iS s.size).size=s.size-W+(dS s.size+9)):=za (by rw[bK,an _ _ _ (zg _),ai]);have ak:Hid ((s.size-W+(dS s.size+9))%64=0):=za (by have:=pO s.size;have:=O.out;omega);rw[HU.out]at HL;have au:a=W:=by omega
  subst au;generalize iS s.size=pd at*;have aH:pd.size<=72:=by omega
  clear H hu b c ai;go_wp2_with fail
  refine(HP.out _).mono ?_;rintro e j ⟨rfl,aO⟩;have ax:Hid (af j B 244 (cQ u)):=za ((aO.block _ h).trans N.out);have av:Hid (ae [] w j):=za (R.out.trans (ae.ah aO (zg _)));clear aO;go_wp2;obtain⟨r,hr⟩:∃r,s.extract a s.size++pd=r:=⟨_,rfl⟩
  rw[hr]at HL aa⊢;have aG:r.size<=200:=by have:=aa.out;omega
  obtain⟨S,rfl⟩:∃S,S=u:=⟨u,rfl⟩
  have aj:r.size<=r.size:=zg _;obtain⟨i0,hi,eh,cr,cE⟩:=yH ph;clear hr;go_loopw [9] (fun v wr=>sj w B S r r.size v wr) (fun v _=>r.size-(intOf v).toNat)
  case atStart=>exact⟨0,0,rfl,rfl,yk _,ax.out,av.out⟩
  case round=>
   obtain⟨i,a,H,rfl,du,b,c⟩:=hrel.ex;have m:=En m r i;obtain⟨u,hu⟩:∃u,fH S r i=u:=⟨_,rfl⟩
   rw[hu]at b m;have HU:=za hu;have N:=za b;have R:=za c;have h:=b.lt;by_cases aE:a+64<=r.size
   ·have Lh:a+64<=r.size:=by omega
    have ab:a+64<=r.size:=by omega
    have g1:IntKind.i64.wrap ((a:Int)+64)=(a:Int)+64:=zW _ (by omega);have g2:((a:Int)+64).toNat=a+64:=by omega
    have g4:(a:Int)<=(a:Int)+64:=by omega
    have g5:(a:Int)+64<=(r.size:Int):=by omega
    have G:=za (fun w=>VA u m (r.extract a (a+64)) (by rw[an _ _ _ ab];omega) w);obtain⟨D,n,C,q,z,E,o,y⟩:=b.wF;have K:=za (fun(j:World) (nq:Nat) (d:ae [] (wr.drewN nq) j)=>sj.next (x:= .int .i64 ((a+64:Nat):Int)) H rfl Lh hu c d b VQ aj);obtain⟨nu,J⟩:∃nu,pN uM u (r.extract a (a+64))=nu:=⟨_,rfl⟩
    rw[J]at G K;unfold kC at G;clear H hu b c J m;go_wp2;refine cH 6 (by kernel_rfl) (by kernel_rfl) ?_;simp only[zT,yC,yf,zL];repeat(go_big_quiet_step (fail))
    refine xg ?_;intro nq;clear D n C q z E o y;go_wp2_with fail
    refine(G.out _).mono ?_;rintro e j ⟨rfl,d⟩;have F:=(N.out.drewN nq).only d (by simp);obtain⟨D,n,C,q,z,E,o,y⟩:=F.wF;obtain⟨f0,f1,f2,f3,f4,f5,f6,f7⟩:=F.Vz;have HN:=za (K.out j nq d);clear F d;go_wp2;go_roundw
    case rel=>exact HN.out
    case measure=>simp[intOf];omega
   have ay:Hid (i=r.size/64):=za (by have:=aa.out;have:=ak.out;omega);have N8:Hid (tD s=⟨(Ep u).toArray⟩):=za (by rw[HL.out,<-ay.out,hu]);obtain⟨D,n,C,q,z,E,o,y⟩:=b.wF;have HT:=za (fun(k:Nat) (hk:k<8) (w':World)=>l9 u w' k _ (NK u k hk));have ao:=za (Sh.ab9 m);have aA:=R.out.size;have d0:decide ((a:Int)+64<=(r.size:Int))=false:=zv (by omega);clear H hu b c m;go_wp2_with (at_make;refine mq _ (by rfl) _ _ 31 (by rfl) w.heap.size 5 i0 zt hi eh cr cE .i64 .i64 0 32 (by rfl) (by rfl) (by omega) (by omega) aA ?_;intro w3 ca Dy l;have q0:=(l.cell (p:=⟨B,0,none⟩) h).trans D;have q1:=(l.cell (p:=⟨B,1,none⟩) h).trans n;have q2:=(l.cell (p:=⟨B,2,none⟩) h).trans C;have q3:=(l.cell (p:=⟨B,3,none⟩) h).trans q;have q4:=(l.cell (p:=⟨B,4,none⟩) h).trans z;have q5:=(l.cell (p:=⟨B,5,none⟩) h).trans E;have q6:=(l.cell (p:=⟨B,6,none⟩) h).trans o;have q7:=(l.cell (p:=⟨B,7,none⟩) h).trans y)
   have ar:Hid (ae [] w w3):=za (R.out.trans (ae.ah l (zg _)));clear D n C q z E o y q0 q1 q2 q3 q4 q5 q6 q7 Dy l;go_loopw [10,59] (fun v x wr=>∃k:Nat,k<=8/\x= .int .i64 k/\bF wr w.heap.size 5 v (G' k u)/\ae [] w wr) (fun _ x _=>8-(intOf x).toNat)
   case atStart=>exact⟨0,by omega,rfl,ca,ar.out⟩
   case round=>
    obtain⟨k,hk,rfl,I,c⟩:=hrel;obtain⟨A,L,cap,rfl,hL,aD,so⟩:=I.cF;have HK:=za c;have eX:=c.size;have aC:=sJ u k hk;clear c;by_cases ad:k<8
    ·have aq:=HT.out k ad;have hx:=ao.out k;have ah:=za (BB u k ad);obtain⟨x,ag⟩:∃x,u.list.getD k 0=x:=⟨_,rfl⟩
     rw[ag]at aq hx ah;have D4:=za (Jp x hx);have JG:(wB x).length=4:=rfl;generalize wB x=wb at*;generalize G' k u=LL at*;have Re:LL.length<=32:=by omega
     clear ag;go_wp2_with (at_builtin;refine aP (by rfl) (.tmp 62) (.tmp 74) 31 31 (by rfl) w.heap.size 5 i0 zt hi eh cr cE (by rfl) (I.alloc _) _ wb (by rfl) (QU zt _ 5 _ wb 4 4 _ JG (by rfl) D4.out) (by simp only[zq];omega) (by omega) ?_;intro A3 n3 qP w4 bN JQ;have cZ:=za bN;have aB:Hid (ae [] w w4):=za ((HK.out.alloc _).kept JQ);clear bN JQ I)
     go_roundw
     case rel=>exact⟨k+1,by omega,by go_num,by rw[ah.out];exact cZ.out,aB.out⟩
     case measure=>simp[intOf];omega
    have e8:k=8:=by omega
    subst e8;rw[WB]at I;have b:=I.Ex (P:=prog) zt yw zN;rw[<-N8.out]at b;obtain⟨X,HX⟩:∃X,Hid (tD s=X):=⟨_,za rfl⟩
    rw[HX.out]at b;clear I;go_wp2;go_ret;exact⟨by rw[HX.out];rfl,HK.out.below (zg _) (by simp)⟩
def Un (s:ByteArray):Nat->ByteArray
 |0=>s
 |n+1=>tD (Un s n)
theorem QV (s:ByteArray)(h:s.size<=100000):∀n,(Un s n).size<=100000
 |0=>h
 |n+1=>by rw[Un,BC];omega
theorem Jq (s:ByteArray)(w:World)(j:s.size<=100000):
 Calls prog 129 #[.string s] w fun e w'=>e= .returned (.string (Hd s))/\Below w.heap.size w w':=by
 have d:Hid (Un s 2=Hd s):=za rfl;go_enter func129,ntmps129
 go_wp2;go_loopw [0,3] (fun v i wr=>∃k:Nat,k<=2/\i= .int .i64 k/\v= .string (Un s k)/\Below w.heap.size w wr) (fun _ i _=>2-(intOf i).toNat)
 case atStart=>exact⟨0,by omega,rfl,rfl,zm _ _⟩
 case round=>
  obtain⟨k,p,rfl,rfl,b⟩:=hrel;by_cases n:k<2
  ·have h:=za (fun w=>ab' (Un s k) w (QV s j k));have m:Hid (Un s (k+1)=tD (Un s k)):=za rfl;generalize Un s k=t at*;generalize tD t=u at*;go_wp2_with fail
   refine(h.out _).mono ?_;rintro e o ⟨rfl,c⟩;have l:=za (b.trans (c.mono b.size));clear c;go_wp2;go_roundw
   case rel=>exact⟨k+1,by omega,by go_num,by rw[m.out],l.out⟩
   case measure=>simp[intOf];omega
  obtain rfl:k=2:=by omega
  rw[d.out];go_wp2;go_ret;exact⟨rfl,b⟩
theorem K7 (s:ByteArray)(w:World)(c:s.size<=100000):
 Calls prog 98 #[.string s] w fun e w'=>e= .returned (.string (eT s))/\Below w.heap.size w w':=by
 have b:=za (fun w=>Jq s w c);have d:Hid (eT s=(Hd s).extract 0 4):=za rfl;have hz:=BD s;have i:4<=(Hd s).size:=by omega
 clear hz;generalize Hd s=t at*;go_enter func98,ntmps98
 go_wp2_with fail
 refine(b.out _).mono ?_;rintro e j ⟨rfl,h⟩;go_wp2;go_ret;exact⟨by rw[d.out];rfl,h⟩
theorem NL (s t:ByteArray)(w:World)(j:s.size<=100000):
 Calls prog 109 #[.string s,.string t] w fun e w'=>e= .returned (.bool (decide (eT s=t)))/\Below w.heap.size w w':=by
 have i:=za (fun w=>K7 s w j);generalize eT s=u at*;rcases Ee t u with⟨b,k,m⟩|⟨b,k,m⟩
 ·have h:Hid (decide (u=t)=true):=za (zD b.symm);clear b;generalize decide (u=t)=d at*;go_enter func109,ntmps109
  go_wp2_with fail
  refine(i.out _).mono ?_;rintro e l ⟨rfl,c⟩;go_wp2;go_ret;exact⟨by rw[h.out];rfl,c⟩
 have h:Hid (decide (u=t)=false):=za (zv (fun e=>b e.symm));clear b;generalize decide (u=t)=d at*;go_enter func109,ntmps109
 go_wp2_with fail
 refine(i.out _).mono ?_;rintro e l ⟨rfl,c⟩;go_wp2;go_ret;exact⟨by rw[h.out];rfl,c⟩
def pz (i:Nat):Nat:=if i=6 then 4 else i+5
theorem Jr {j:Nat}(hi:i<7)(b:j<7)(h:pz i=pz j):i=j:=by
 unfold pz at h;split at h<;>split at h<;>omega
def VB (KL:Array Value)(s d1 d2:ByteArray)(i:Nat):Value:=
 if i=0 then .agg KL else if i=1 then .agg KL else if i=2 then .string s else if i=3 then .string d1 else if i=4 then .string d2 else .string (d2.extract 0 4)
structure CkJ (KL:Array Value)(s d1 d2:ByteArray)(listed:Array Bool)(x:Nat->Value):Prop where
 at_:∀i,i<7->listed.getD i false=true->x (pz i)=VB KL s d1 d2 i
theorem CkJ.put {c:Array Value}{b d:ByteArray}{listed:Array Bool}{x:Nat->Value}(h:CkJ c s b d listed x)(i:Nat)(hi:i<7):CkJ c s b d (listed.setIfInBounds i true) (lj x (pz i) (VB c s b d i)):=⟨fun j k l=>by
 unfold lj;by_cases e:pz j=pz i
 ·rw[zi e,Jr k hi e]
 rw[zh e];rcases dx l with h1|h1
 ·subst h1;exact absurd rfl e
 exact h.at_ j k h1⟩
open Go Go.RowKit
section
variable {P:Program} {ops:Array Oper} {C:World->Prop} {Q:Act->Prop} {o:Oper} {rest:List Oper} {a:Act}
theorem tw (v:Value)(b:Region.wanted o (yielded ops a.tmps)=true)(h:∀w,C w->o.quietAt P a C w v)(c:wpQuiet P ops C Q rest (a.put o.dst v)):wpQuiet P ops C Q (o::rest) a:=by
 unfold wpQuiet;rw[zi b];exact⟨v,h,c⟩
theorem ai (v:Value)(c:Region.wanted o (yielded ops a.tmps)=true)(h:∀w,C w->(execOp a.eval o).run P w= .ok (.value v) w)(d:wpQuiet P ops C Q rest (a.put o.dst v)):wpQuiet P ops C Q (o::rest) a:=
 tw v c (fun w b=>by unfold Oper.quietAt;rw[h w b];exact⟨rfl,rfl⟩) d
theorem bU (f:FuncId)(args:Array Value)(v:Value)(d:Region.wanted o (yielded ops a.tmps)=true)(c:∀w,(execOp a.eval o).run P w= .ok (.enter f args) w)
 (j:∀w,Below W.heap.size W w->Calls P f args w fun e w'=>e= .returned v/\Below w.heap.size w w') (k:wpQuiet P ops (fun w'=>Below W.heap.size W w') Q rest (a.put o.dst v)):wpQuiet P ops (fun w'=>Below W.heap.size W w') Q (o::rest) a:=
 tw v d (fun w b=>by
  unfold Oper.quietAt;rw[c w];exact⟨rfl,(j w b).mono fun e w' ⟨i,h⟩=>⟨i,b.trans (h.mono b.size)⟩⟩) k
theorem eI {Q:Exit->Act->World->Prop}{a:Act}(b:P.follows .mixedOrders=true)(d:Region.lexB .any l.toArray=true)
 (h:wpQuiet P l.toArray (fun w'=>Below w.heap.size w w') (fun c=>∀w',Below w.heap.size w w'->Q .normal c w') l a):(Code.region id l.toArray true).wp P Q a w:=
 wp_region_quiet (C:=fun w'=>Below w.heap.size w w') b d (zm _ _).drew (by simpa using h)
theorem iZ {Q:Exit->Act->World->Prop}{a:Act}(n:Nat)(p:P.follows .mixedOrders=true)(e:Region.lexTailB .any l.toArray n=true)
 (h:wpQuiet P l.toArray (fun w'=>Below w.heap.size w w') (fun c=>∀w',Below w.heap.size w w'->wpList P l.toArray Q (l.drop n) c w') (l.take n) a):(Code.region id l.toArray true).wp P Q a w:=by
 simp only[Region.lexTailB,zy,yb]at e;obtain⟨⟨⟨⟨s,o⟩,x⟩,A⟩,r⟩:=e;have B:n<l.length:=by simpa using o
 have b:(l.take n).length=n:=by simp;omega
 have d:(l.drop n).length=l.toArray.size-n:=by simp
 have y:HeadInv .any l.toArray n (Array.replicate l.toArray.size false):=
  ⟨by simp,fun j C _ m=>(by rw[yA]at m;cases m),fun t _ z=>getD_in (by simpa using z) (yA _ _)⟩
 have H:=nE (md:= .any) (g:=l.toArray.size-n) s x A o (l.take n) 0 _ a (fun j i=>by
  have u:j<n:=by rw[b]at i;exact i
  simp[u]) (by simpa using b) y (by rw[b];exact r) h
 refine wp_region_any p ?_;have:=jT (Q':=Q) (g:=l.toArray.size-n) (fun listed c w' q k=>by
  have:=wpAny_of_seq (md:= .any) (Q':=Q) (l.drop n) n listed c w' (fun j=>by simp[xx]) (by rw[d];exact k.1) (k.2 w' q);rwa [d]at this) _ _ _ _ ((zm _ _).drew) H
 rw[b,show n+(l.toArray.size-n)=l.toArray.size by omega]at this;exact this
end
theorem wG (n:Nat)(w:World)(b:n<4294967296):
 Calls prog 97 #[.int .u64 n,.int .i64 4] w fun e w'=>e= .returned (.tuple #[.string (qa n),.int .i64 0])/\Below w.heap.size w w':=
 jS n 4 w (by simpa using b) (by omega) (by omega)
theorem Js (m:Nat)(nm body:ByteArray)(w:World)(d:m<4294967296)(c:nm.size<=9223372036854775807)(b:cd nm=false):
 Calls prog 71 #[.int .u32 m,.string nm,.string body] w fun e w'=>e= .returned (.tuple #[.string ByteArray.empty,.int .i64 11])/\w=w':=by
 have H:=za (MM nm w c b);clear b;go_enter func71,ntmps71
 go_wp2_with fail
 refine H.out.mono ?_;rintro e w' ⟨rfl,rfl⟩;go_wp2;go_ret2
 exact⟨rfl,rfl⟩
theorem Dp (m:Nat)(nm body:ByteArray)(w:World)(d:m<4294967296)(b:cd nm=true)(h:65536<body.size)(i:body.size<=9223372036854775807):
 Calls prog 71 #[.int .u32 m,.string nm,.string body] w fun e w'=>e= .returned (.tuple #[.string ByteArray.empty,.int .i64 5])/\Below w.heap.size w w':=by
 have H:=za (Fi nm w b);clear b;go_enter func71,ntmps71
 go_wp2_with fail
 refine H.out.mono ?_;rintro e w' ⟨rfl,c⟩;go_wp2;go_ret2
 exact⟨rfl,c⟩
theorem NM (m:Nat)(nm body:ByteArray)(w:World)(o:m<4294967296)(h:cd nm=true)(B:body.size<=65536):
 Calls prog 71 #[.int .u32 m,.string nm,.string body] w fun e w'=>e= .returned (.tuple #[.string (nf m nm body),.int .i64 0])/\Below w.heap.size w w':=by
 have H:=za (Fi nm w h);have x:=za (fun w=>wG m w o);have p:=za (fun w=>wG body.size w (by omega));have y:=za (fun w=>K7 body w (by omega));have q:Hid (nf m nm body=qa m++fc nm++qa body.size++eT body++body):=za rfl;have z:=jN m;have A:=jN body.size;have z3:=im nm (dE h).2;have z4:=lJ body;clear h;generalize qa m=a at*;generalize qa body.size=b at*;generalize fc nm=c at*;generalize eT body=d at*;go_enter func71,ntmps71
 go_wp2_with fail
 refine H.out.mono ?_;rintro e C ⟨rfl,i⟩;go_wp2_with fail
 refine(x.out _).mono ?_;rintro e E ⟨rfl,j⟩;go_wp2_with fail
 refine(p.out _).mono ?_;rintro e w3 ⟨rfl,k⟩;go_wp2_with fail
 refine(y.out _).mono ?_;rintro e D ⟨rfl,l⟩;have n:=i.size;have r:=j.size;have s:=k.size;have u:=i.trans ((j.mono n).trans ((k.mono (by omega)).trans (l.mono (by omega))));clear i j k l n r s;go_wp2;go_ret2
 exact⟨by rw[q.out];rfl,u⟩
theorem lz (h:Bool)(e:Int)(w:World):Calls prog 102 #[.bool h,.int .i64 e] w fun b w'=>b= .returned (.int .i64 (if h then 0 else e))/\w=w':=by
 cases h
 ·go_enter func102,ntmps102
  go_wp2;go_ret;exact⟨rfl,rfl⟩
 go_enter func102,ntmps102
 go_wp2;go_ret;exact⟨rfl,rfl⟩
theorem wH (s:ByteArray)(b i j:Nat)(w:World)(d:af w b 9 #[.string s])(l:i<j)(c:j<=s.size)(m:j-i<=8)(n:s.size<=9223372036854775807):
 Calls prog 99 #[.int .i64 i,.int .i64 j,.pointer (some ⟨b,0,none⟩)] w fun e w'=>e= .returned (.int .u64 (dh (s.extract i j).data.toList))/\w=w':=by
 have hz:(s.extract i j).size=j-i:=an _ _ _ c;have h:=za (fun w=>eo (s.extract i j) w (by omega) (by omega));have k:w.cell? ⟨b,0,none⟩=some (.string s):=yd d;clear hz;generalize dh (s.extract i j).data.toList=N at*;go_enter func99,ntmps99
 go_wp2_with fail
 refine(h.out _).mono ?_;rintro e o ⟨rfl,rfl⟩;go_wp2;go_ret;exact⟨rfl,rfl⟩
theorem NN (b k:Nat)(w:World):Calls prog 100 #[.int .i64 k,.pointer (some ⟨b,0,none⟩)] w fun e w'=>e= .returned (.func (.func 101) #[] #[.pointer (some ⟨b,0,none⟩),.pointer (some ⟨w.heap.size,0,none⟩)])/\w'=w.alloc (.cells #[.int .i64 k] 3):=by
 go_enter func100,ntmps100
 go_wp2;go_ret;exact⟨rfl,rfl⟩
theorem ur (s:ByteArray)(b c k:Nat)(w:World)(i:af w b 9 #[.string s])(l:af w c 3 #[.int .i64 k])(n:s.size<=9223372036854775807)(o:k<=100):
 Calls prog 101 #[.pointer (some ⟨b,0,none⟩),.pointer (some ⟨c,0,none⟩)] w fun e w'=>e= .returned (.int .i64 (if k<=s.size then 0 else 2))/\w=w':=by
 have m:w.cell? ⟨b,0,none⟩=some (.string s):=yd i;have p:w.cell? ⟨c,0,none⟩=some (.int .i64 k):=yd l;have d:=za (fun h w=>lz h 2 w);by_cases h:k<=s.size
 ·rw[zi h];go_enter func101,ntmps101
  go_wp2_with fail
  refine(d.out _ _).mono ?_;rintro e j ⟨rfl,rfl⟩;go_wp2;go_ret;exact⟨rfl,rfl⟩
 rw[zh h];go_enter func101,ntmps101
 go_wp2_with fail
 refine(d.out _ _).mono ?_;rintro e j ⟨rfl,rfl⟩;go_wp2;go_ret;exact⟨rfl,rfl⟩
def VC (b:Nat):Value:= .func (.func 99) #[] #[.pointer (some ⟨b,0,none⟩)]
theorem Uo (s:ByteArray)(b c d m:Nat)(w:World)(o:af w b 9 #[.string s])(p:af w c 157 #[VC b])(hd:af w d 22 #[.int .u32 m])(r:m<4294967296)(k:s.size<=9223372036854775807)(q:4<=s.size):
 Calls prog 103 #[.pointer (some ⟨c,0,none⟩),.pointer (some ⟨d,0,none⟩)] w fun e w'=>e= .returned (.int .i64 (if dh (s.extract 0 4).data.toList=m then 0 else 9))/\∃n,w'=w.drewN n:=by
 have j:=za (fun n=>wH s b 0 4 (w.drewN n) (o.drewN n) (by omega) q (by omega) k);have l:w.cell? ⟨c,0,none⟩=some (VC b):=yd p;have u:w.cell? ⟨d,0,none⟩=some (.int .u32 m):=yd hd;have i:=za (fun h w=>lz h 9 w);unfold VC at l;generalize dh (s.extract 0 4).data.toList=N at*;by_cases h:N=m
 ·rw[zi h];have hd:((N:Int)==(m:Int))=true:=by rw[h];simp
  clear h;go_enter func103,ntmps103
  go_wp2_with fail
  go_quiet ((first|(go_at_call 99;with_reducible exact Calls.fq (j.out _))|(go_at_call 102;with_reducible exact Calls.fq (i.out _ _))))
  go_wp2;go_ret;exact⟨rfl,nq,rfl⟩
 rw[zh h];have hd:((N:Int)==(m:Int))=false:=zo.2 (by omega);clear h;go_enter func103,ntmps103
 go_wp2_with fail
 go_quiet ((first|(go_at_call 99;with_reducible exact Calls.fq (j.out _))|(go_at_call 102;with_reducible exact Calls.fq (i.out _ _))))
 go_wp2;go_ret;exact⟨rfl,nq,rfl⟩
theorem Up (s:ByteArray)(b nb:Nat)(v:Value)(w:World)(k:af w b 9 #[.string s])(c:af w nb 9 #[v])(q:nb≠b)(o:s.size<=9223372036854775807)(i:16<=s.size):
 Calls prog 104 #[.pointer (some ⟨b,0,none⟩),.pointer (some ⟨nb,0,none⟩)] w fun e w'=>e= .returned (.int .i64 (da (s.extract 4 16)).1)/\w'=w.setCell ⟨nb,0,none⟩ (.string (da (s.extract 4 16)).2):=by
 have d:=za (fun w=>PN (s.extract 4 16) w (by rw[an _ _ _ i];omega));have m:w.cell? ⟨b,0,none⟩=some (.string s):=yd k;have p:w.cell? ⟨nb,0,none⟩=some v:=yd c;have n:w.frozen? ⟨nb,0,none⟩=false:=Z3 c;have j:=za (fun h w=>lz h 3 w);rcases sK (s.extract 4 16)with hg|⟨t,hg⟩;all_goals
  rw[hg]at d⊢;clear hg;go_enter func104,ntmps104
  go_wp2_with fail
  refine(d.out _).mono ?_;rintro e l ⟨rfl,rfl⟩;go_wp2_with fail
  refine(j.out _ _).mono ?_;rintro e l ⟨rfl,rfl⟩;go_wp2;go_ret;exact⟨rfl,rfl⟩
theorem XL (s:ByteArray)(b c lb d:Nat)(v:Value)(most:Int)(w:World)(r:af w b 9 #[.string s])(u:af w c 157 #[VC b])(j:af w lb 3 #[v])(n:af w d 3 #[.int .i64 most])(m:lb≠d)(p:s.size<=9223372036854775807)(o:20<=s.size):
 Calls prog 106 #[.pointer (some ⟨c,0,none⟩),.pointer (some ⟨lb,0,none⟩),.pointer (some ⟨d,0,none⟩)] w fun e w'=>e= .returned (.int .i64 (if(dh (s.extract 16 20).data.toList:Int)<=most then 0 else 5))/\w'=w.setCell ⟨lb,0,none⟩ (.int .i64 (dh (s.extract 16 20).data.toList)):=by
 have k:=za (fun(_:Unit)=>wH s b 16 20 w r (by omega) o (by omega) p);have y:=qb (s.extract 16 20) (an _ _ _ (by omega));have q:w.cell? ⟨c,0,none⟩=some (VC b):=yd u;have A:w.cell? ⟨d,0,none⟩=some (.int .i64 most):=yd n;have x:w.cell? ⟨lb,0,none⟩=some v:=yd j;have z:w.frozen? ⟨lb,0,none⟩=false:=Z3 j;have l:=za (fun h w=>lz h 5 w);unfold VC at q;have B:(lb=d)=False:=yG m;clear m;generalize dh (s.extract 16 20).data.toList=N at*;by_cases h:(N:Int)<=most
 ·rw[zi h];have hd:decide ((N:Int)<=most)=true:=zD h;clear h;go_enter func106,ntmps106
  go_wp2_with fail
  refine(k.out ()).mono ?_;rintro e i ⟨rfl,rfl⟩;go_wp2_with fail
  refine(l.out _ _).mono ?_;rintro e i ⟨rfl,rfl⟩;go_wp2;go_ret;exact⟨rfl,rfl⟩
 rw[zh h];have hd:decide ((N:Int)<=most)=false:=zv h;clear h;go_enter func106,ntmps106
 go_wp2_with fail
 refine(k.out ()).mono ?_;rintro e i ⟨rfl,rfl⟩;go_wp2_with fail
 refine(l.out _ _).mono ?_;rintro e i ⟨rfl,rfl⟩;go_wp2;go_ret;exact⟨rfl,rfl⟩
theorem Uq (s:ByteArray)(b lb N:Nat)(w:World)(i:af w b 9 #[.string s])(d:af w lb 3 #[.int .i64 N])(l:s.size<=9223372036854775807)(n:N<4294967296):
 Calls prog 107 #[.pointer (some ⟨b,0,none⟩),.pointer (some ⟨lb,0,none⟩)] w fun e w'=>e= .returned (.int .i64 (if 24+N<=s.size then 0 else 2))/\w=w':=by
 have k:w.cell? ⟨b,0,none⟩=some (.string s):=yd i;have m:w.cell? ⟨lb,0,none⟩=some (.int .i64 N):=yd d;have c:=za (fun h w=>lz h 2 w);by_cases h:24+N<=s.size
 ·rw[zi h];have hd:decide ((N:Int)<=(s.size:Int)-24)=true:=zD (by omega);clear h;go_enter func107,ntmps107
  go_wp2_with fail
  refine(c.out _ _).mono ?_;rintro e j ⟨rfl,rfl⟩;go_wp2;go_ret;exact⟨rfl,rfl⟩
 rw[zh h];have hd:decide ((N:Int)<=(s.size:Int)-24)=false:=zv (by omega);clear h;go_enter func107,ntmps107
 go_wp2_with fail
 refine(c.out _ _).mono ?_;rintro e j ⟨rfl,rfl⟩;go_wp2;go_ret;exact⟨rfl,rfl⟩
theorem XM (s:ByteArray)(b lb N:Nat)(w:World)(j:af w b 9 #[.string s])(k:af w lb 3 #[.int .i64 N])(F:s.size<=1099511627776)(o:24+N<=s.size)(z:N<=100000):
 Calls prog 108 #[.pointer (some ⟨b,0,none⟩),.pointer (some ⟨lb,0,none⟩)] w fun e w'=>e= .returned (.int .i64 (if eT (s.extract 24 (24+N))=s.extract 20 24 then 0 else 10))/\Below w.heap.size w w':=by
 have d:w.cell? ⟨b,0,none⟩=some (.string s):=yd j;have m:w.cell? ⟨lb,0,none⟩=some (.int .i64 N):=yd k;have B:=j.lt;have E:=k.lt;have y:=za (fun w=>NL (s.extract 24 (24+N)) (s.extract 20 24) w (by rw[an _ _ _ o];omega));have l:=za (fun h w=>(lz h 10 w).mono (R':=fun x w'=>x= .returned (.int .i64 (if h then 0 else 10))/\Below w.heap.size w w') fun e w' h=>⟨h.1,by rw[<-h.2];exact zm _ _⟩);have i:Hid ((if decide (eT (s.extract 24 (24+N))=s.extract 20 24)=true then(0:Int)else 10)=if eT (s.extract 24 (24+N))=s.extract 20 24 then 0 else 10):=za (by simp);rw[<-i.out];generalize decide (eT (s.extract 24 (24+N))=s.extract 20 24)=D at*;clear i;have A:(24:Int)+N<=s.size:=by omega
 have u:=za (l.out D);clear l;generalize (if D=true then(0:Int)else 10)=r at*;have C:(24:Int)<=24+N:=by omega
 have H:(24:Int)<=s.size:=by omega
 have I:IntKind.i64.wrap (24+(N:Int))=24+N:=zW _ (by omega);have G:(24+(N:Int)).toNat=24+N:=by omega
 go_enter func108,ntmps108
 go_wp2_with fail
 refine eI (by kernel_rfl) (by kernel_rfl) ?_;refine ai (.string s) (by rfl) (fun w' c=>by have q:=(c.cell (p:=⟨b,0,none⟩) (by simpa using by assumption)).trans d;go_simp) ?_;simp only[Act.put,zc,zd,zf];refine ai (.int .i64 N) (by rfl) (fun w' c=>by have q:=(c.cell (p:=⟨lb,0,none⟩) (by simpa using by assumption)).trans m;go_simp) ?_;simp only[Act.put,zc,zd,zf];refine ai (.int .i64 (24+N)) (by rfl) (fun _ _=>by first|rfl|go_simp) ?_;simp only[Act.put,zc,zd,zf];refine ai (.string (s.extract 24 (24+N))) (by rfl) (fun _ _=>by first|rfl|go_simp) ?_;simp only[Act.put,zc,zd,zf];refine ai (.string s) (by rfl) (fun w' c=>by have q:=(c.cell (p:=⟨b,0,none⟩) (by simpa using by assumption)).trans d;go_simp) ?_;simp only[Act.put,zc,zd,zf];refine ai (.string (s.extract 20 24)) (by rfl) (fun _ _=>by first|rfl|go_simp) ?_;simp only[Act.put,zc,zd,zf];refine bU 109 _ _ (by rfl) (fun _=>by first|rfl|go_simp) (fun w _=>y.out _) ?_;simp only[Act.put,zc,zd,zf];refine bU 102 _ _ (by rfl) (fun _=>by first|rfl|go_simp) (fun w _=>u.out _) ?_;simp only[Act.put,zc,zd,zf];refine ai (.int .i64 r) (by rfl) (fun _ _=>by first|rfl|go_simp) ?_;simp only[Act.put,zc,zd,zf];refine xg ?_;intro J n;go_wp2;go_ret;exact⟨rfl,n⟩
def aca (r:Int×ByteArray×ByteArray×Nat):Value:= .tuple #[.agg #[.int .u64 0,.string r.2.1,.string r.2.2.1],.int .i64 r.2.2.2,.int .i64 r.1]
theorem oV {t:TypeId}{j e i:Value}(h:af w g t #[j,e,i])(c b d:Value):af (((w.setCell ⟨g,0,none⟩ c).setCell ⟨g,1,none⟩ b).setCell ⟨g,2,none⟩ d) g t #[c,b,d]:=((h.set 0 c).set 1 b).set 2 d
theorem kM (h:Below B w w')(b:B<=g)(d e c:Value):Below B w (((w'.setCell ⟨g,0,none⟩ d).setCell ⟨g,1,none⟩ e).setCell ⟨g,2,none⟩ c):=
 ((h.setCell (by simpa using b) _).setCell (by simpa using b) _).setCell (by simpa using b) _
theorem nt.grown {b:Nat}{l:List Fr}{row:Option Nat}(h:nt w b v l)(d:w.grownBy w' row)(c:∀r,row=some r->r<b\/∃o:Obj,w.heap[r]?=some o/\o.isCells=false):nt w' b v l:=by
 refine⟨h.1, ?_⟩;rcases h.2 with h2|⟨g,cap,cur,hv,hb,hh,r⟩
 ·exact .inl h2
 refine .inr ⟨g,cap,cur,hv,hb,(d.block g (yP hh) (fun e=> ?_)).trans hh,r⟩;rcases c g e.symm with h1|⟨o,h1,h2⟩
 ·omega
 rw[hh]at h1;injection h1 with h1;subst h1;cases h2
theorem nt.lower {b lo':Nat}{l:List Fr}(h:nt w b v l)(c:lo'<=b):nt w lo' v l:=by
 refine⟨h.1, ?_⟩;rcases h.2 with h2|⟨g,cap,cur,hv,hb,r⟩
 ·exact .inl h2
 exact .inr ⟨g,cap,cur,hv,by omega,r⟩
theorem Dq {P:Program}{f:FuncId}{args:Array Value}(h:Calls P f args w fun e w'=>e= .returned v/\w=w'):Calls P f args w fun e w'=>e= .returned v/\Below w.heap.size w w':=h.mono fun e w' ⟨b,c⟩=>⟨b,by rw[<-c];exact zm _ _⟩
theorem wI {P:Program}{ops:Array Oper}{C:World->Prop}{Q:Act->Prop}{o:Oper}{rest:List Oper}{a:Act}(b:Region.wanted o (yielded ops a.tmps)=false)(h:wpQuiet P ops C Q rest (a.put o.dst undef)):wpQuiet P ops C Q (o::rest) a:=by
 unfold wpQuiet;rw[zh (by rw[b];simp)];exact h
