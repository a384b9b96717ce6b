/- sha.Sum: the digest. -/
import Derived.Test.YtdbmifjankgfpaaGreatDoorKShaM
set_option linter.all false
set_option maxRecDepth 100000
set_option maxHeartbeats 4000000
open Go.Proofs.Tryz
namespace Go.Proofs.YtdbmifjankgfpaaGreatDoor
open Go.RowKit
variable {w W:World}{g B i id:Nat}{s:ByteArray}{l:List Oper}
def ya:=@cell_of_one
def Z7:=@free_of_one
theorem Q9 {tmps:Array Value}{V:World}(u:Sh)(c:tmps.getD 0 undef= .pointer (some ⟨g,0,none⟩))(b:af V g 244 (cR u)):
 (results f189 tmps).run prog V= .ok (kB u) V:=by
 have m:V.cell? ⟨g,0,none⟩=some (.int .u32 u.a):=b.cell 0;have k:V.cell? ⟨g,1,none⟩=some (.int .u32 u.b):=b.cell 1;have e:V.cell? ⟨g,2,none⟩=some (.int .u32 u.c):=b.cell 2;have l:V.cell? ⟨g,3,none⟩=some (.int .u32 u.d):=b.cell 3;have d:V.cell? ⟨g,4,none⟩=some (.int .u32 u.e):=b.cell 4;have j:V.cell? ⟨g,5,none⟩=some (.int .u32 u.f):=b.cell 5;have h:V.cell? ⟨g,6,none⟩=some (.int .u32 u.g):=b.cell 6;have i:V.cell? ⟨g,7,none⟩=some (.int .u32 u.h):=b.cell 7;simp only[Array.getD_eq_getD_getElem?]at c;simp[results,results189,go_sem,c,m,k,e,l,d,j,h,i,kB]
theorem Ur (w:World):Calls prog 189 #[] w fun e w'=>e= .returned (kB D4)/\Below w.heap.size w w':=by
 go_enter func189,ntmps189
 go_wp2;refine zk (v:=kB D4) ?_ rfl ?_
 ·exact Q9 D4 (g:=w.heap.size) rfl (af.new w _ _)
 exact⟨rfl,bD⟩
theorem ae.kept {E:TypeId}{c:World}(h:ae [] w W)(b:Kept E w.heap.size W c):ae [] w c:=
 ⟨b.below.os.trans h.os,b.below.tape.trans h.tape,b.below.output.trans h.output,zK h.size b.below.size,fun k d e=>(b.below.block k d).trans (h.block k d e)⟩
theorem Ra {P:Program}{d j:TypeId}(k:P.underlying d=some (.slice j))(w:World)(E:TypeId)(b:Array Value)(m:List UInt8)(n c g:Nat)(e:m.length=n)(h:g=w.heap.size)(i:b.toList=cb m):Src P 1 d (.slice (some ⟨g,0,none⟩) n c) m.length (cb m) (w.alloc (.cells b E)):=by
 subst e;exact ue k w E b m c g h i
theorem JG (x:Nat)(hx:x<4294967296):(#[Value.int .u8 ((x:Int)/16777216),.int .u8 ((x:Int)/65536%256),.int .u8 ((x:Int)/256%256),.int .u8 ((x:Int)%256)]:Array Value).toList=cb (wB x):=by
 simp[cb,wB];omega
theorem rZ.next {b wr:World}{a nq:Nat}{v u:Sh}{top:Nat}{x:Value}(l:a=64*i)(hx:x= .int .i64 ((a+64:Nat):Int))(k:a+64<=top)(hu:fA v s i=u)(j:ae [] w wr)(c:ae [] (wr.drewN nq) b)
 (e:af wr B 244 (cR u)) (d:w.heap.size<=B) (m:top<=s.size):rZ w B v s top x (nJ b B (pY uP u (s.extract a (a+64)))):=by
 have h:af b B 244 (cR u):=(e.drewN nq).only c (by simp);refine⟨i+1,a+64,by omega,hx,k, ?_,tk _ ((j.drewN nq).trans c) d⟩;rw[fA,hu,<-l];exact JF _ h
theorem acE (s:ByteArray)(w:World)(hs:s.size<=100000):
 Calls prog 159 #[.string s] w fun e w'=>e= .returned (.string (tC s))/\Below w.heap.size w w':=by
 obtain⟨W,hW⟩:∃W,64*(s.size/64)=W:=⟨_,rfl⟩
 have e1:(s.size:Int)-(s.size:Int)%64=(W:Int):=by omega
 have aj:W<=s.size:=by omega
 have M:=za hW;clear hW;go_enter func159,ntmps159
 go_wp2_with fail
 refine(Ur _).mono ?_;rintro e w1 ⟨rfl,aG⟩;unfold kB;go_wp2;obtain⟨N,S⟩:∃N,w1.alloc (.cells #[.int .u32 D4.a,.int .u32 D4.b,.int .u32 D4.c,.int .u32 D4.d,.int .u32 D4.e,.int .u32 D4.f,.int .u32 D4.g,.int .u32 D4.h] 244)=N:=⟨_,rfl⟩
 obtain⟨B,hB⟩:∃B,w1.heap.size=B:=⟨_,rfl⟩
 have V1:w.heap.size<=B:=by have:=aG.size;omega
 have O0:Hid (af N B 244 (cR (fA D4 s 0))):=za (by rw[<-S,<-hB];exact af.new w1 _ _);have ai:Hid (ae [] w N):=za (by rw[<-S];exact(ae.ah aG (zg _)).alloc _);rw[S,hB];clear S hB aG;go_loopw [5] (fun v wr=>rZ w B D4 s W v wr) (fun v _=>W-(intOf v).toNat)
 case atStart=>exact⟨0,0,rfl,rfl,yh _,O0.out,ai.out⟩
 case round=>
  obtain⟨i,a,H,rfl,dh,b,c⟩:=hrel.ex;have h:=Ex WN s i;obtain⟨u,hu⟩:∃u,fA D4 s i=u:=⟨_,rfl⟩
  rw[hu]at b h;have HU:=za hu;have O:=za b;have U:=za c;have l:=b.lt;by_cases aC:a<W
  ·have LF:a+64<=W:=by omega
   have Z:a+64<=s.size:=by omega
   have g1:IntKind.i64.wrap ((a:Int)+64)=(a:Int)+64:=yc _ (by omega);have g2:((a:Int)+64).toNat=a+64:=by omega
   have g4:(a:Int)<=(a:Int)+64:=by omega
   have g5:(a:Int)+64<=(s.size:Int):=by omega
   have F:=za (fun w=>VK u h (s.extract a (a+64)) (by rw[aq _ _ _ Z];omega) w);obtain⟨o,q,C,D,z,n,E,y⟩:=b.wI;have K:=za (fun(j:World) (nq:Nat) (d:ae [] (wr.drewN nq) j)=>rZ.next (x:= .int .i64 ((a+64:Nat):Int)) H rfl LF hu c d b V1 aj);obtain⟨nu,J⟩:∃nu,pY uP u (s.extract a (a+64))=nu:=⟨_,rfl⟩
   rw[J]at F K;unfold kB at F;clear H hu b c J h;go_wp2;refine cL 6 (by kernel_rfl) (by kernel_rfl) ?_;simp only[zO,yu,zX,zJ];repeat(go_big_quiet_step (fail))
   refine xE ?_;intro nq;clear o q C D z n E y;go_wp2_with fail
   refine(F.out _).mono ?_;rintro e j ⟨rfl,d⟩;have G:=(O.out.drewN nq).only d (by simp);obtain⟨o,q,C,D,z,n,E,y⟩:=G.wI;obtain⟨f0,f1,f2,f3,f4,f5,f6,f7⟩:=G.VJ;have HN:=za (K.out j nq d);clear G d;go_wp2;go_roundw
   case rel=>exact HN.out
   case measure=>simp[intOf];omega
  have aA:Hid (i=s.size/64):=za (by have:=M.out;omega);have hp:=fun w=>acb s.size w hs
  have HP:=za hp;have ad:=o4 s.size;have A9:=sC s.size;have LJ:(s.extract W s.size).size<=64:=by rw[aq _ _ _ (zg _)];have:=M.out;omega
  have HL:Hid (tC s=⟨(Ez (fA (fA D4 s i) (s.extract W s.size++iG s.size) ((s.extract W s.size++iG s.size).size/64))).toArray⟩):=za (by
   rw[tC,Hu s (s.extract W s.size++iG s.size) (by rw[M.out]),<-aA.out])
  have aa:Hid ((s.extract W s.size++iG s.size).size=s.size-W+(dV s.size+9)):=za (by rw[bW,aq _ _ _ (zg _),ad]);have av:Hid ((s.size-W+(dV s.size+9))%64=0):=za (by have:=pZ s.size;have:=M.out;omega);rw[HU.out]at HL;have ay:a=W:=by omega
  subst ay;generalize iG s.size=pd at*;have aD:pd.size<=72:=by omega
  clear H hu b c ad;go_wp2_with fail
  refine(HP.out _).mono ?_;rintro e j ⟨rfl,aJ⟩;have au:Hid (af j B 244 (cR u)):=za ((aJ.block _ l).trans O.out);have az:Hid (ae [] w j):=za (U.out.trans (ae.ah aJ (zg _)));clear aJ;go_wp2;obtain⟨r,hr⟩:∃r,s.extract a s.size++pd=r:=⟨_,rfl⟩
  rw[hr]at HL aa⊢;have aE:r.size<=200:=by have:=aa.out;omega
  obtain⟨R,rfl⟩:∃R,R=u:=⟨u,rfl⟩
  have ar:r.size<=r.size:=zg _;obtain⟨i0,hi,dO,cc,cE⟩:=yG ph;clear hr;go_loopw [9] (fun v wr=>rZ w B R r r.size v wr) (fun v _=>r.size-(intOf v).toNat)
  case atStart=>exact⟨0,0,rfl,rfl,yh _,au.out,az.out⟩
  case round=>
   obtain⟨i,a,H,rfl,dh,b,c⟩:=hrel.ex;have h:=Ex h r i;obtain⟨u,hu⟩:∃u,fA R r i=u:=⟨_,rfl⟩
   rw[hu]at b h;have HU:=za hu;have O:=za b;have U:=za c;have l:=b.lt;by_cases aC:a+64<=r.size
   ·have LF:a+64<=r.size:=by omega
    have Z:a+64<=r.size:=by omega
    have g1:IntKind.i64.wrap ((a:Int)+64)=(a:Int)+64:=yc _ (by omega);have g2:((a:Int)+64).toNat=a+64:=by omega
    have g4:(a:Int)<=(a:Int)+64:=by omega
    have g5:(a:Int)+64<=(r.size:Int):=by omega
    have F:=za (fun w=>VK u h (r.extract a (a+64)) (by rw[aq _ _ _ Z];omega) w);obtain⟨o,q,C,D,z,n,E,y⟩:=b.wI;have K:=za (fun(j:World) (nq:Nat) (d:ae [] (wr.drewN nq) j)=>rZ.next (x:= .int .i64 ((a+64:Nat):Int)) H rfl LF hu c d b V1 ar);obtain⟨nu,J⟩:∃nu,pY uP u (r.extract a (a+64))=nu:=⟨_,rfl⟩
    rw[J]at F K;unfold kB at F;clear H hu b c J h;go_wp2;refine cL 6 (by kernel_rfl) (by kernel_rfl) ?_;simp only[zO,yu,zX,zJ];repeat(go_big_quiet_step (fail))
    refine xE ?_;intro nq;clear o q C D z n E y;go_wp2_with fail
    refine(F.out _).mono ?_;rintro e j ⟨rfl,d⟩;have G:=(O.out.drewN nq).only d (by simp);obtain⟨o,q,C,D,z,n,E,y⟩:=G.wI;obtain⟨f0,f1,f2,f3,f4,f5,f6,f7⟩:=G.VJ;have HN:=za (K.out j nq d);clear G d;go_wp2;go_roundw
    case rel=>exact HN.out
    case measure=>simp[intOf];omega
   have an:Hid (i=r.size/64):=za (by have:=aa.out;have:=av.out;omega);have Ou:Hid (tC s=⟨(Ez u).toArray⟩):=za (by rw[HL.out,<-an.out,hu]);obtain⟨o,q,C,D,z,n,E,y⟩:=b.wI;have HT:=za (fun(k:Nat) (Y:k<8) (w':World)=>l6 u w' k _ (N3 u k Y));have ax:=za (Sh.acD h);have ao:=U.out.size;have d0:decide ((a:Int)+64<=(r.size:Int))=false:=zu (by omega);clear H hu b c h;go_wp2_with (at_make;refine mh _ (by rfl) _ _ 31 (by rfl) w.heap.size 5 i0 zr hi dO cc cE .i64 .i64 0 32 (by rfl) (by rfl) (by omega) (by omega) ao ?_;intro w3 bQ DF m;have q0:=(m.cell (p:=⟨B,0,none⟩) l).trans o;have q1:=(m.cell (p:=⟨B,1,none⟩) l).trans q;have q2:=(m.cell (p:=⟨B,2,none⟩) l).trans C;have q3:=(m.cell (p:=⟨B,3,none⟩) l).trans D;have q4:=(m.cell (p:=⟨B,4,none⟩) l).trans z;have q5:=(m.cell (p:=⟨B,5,none⟩) l).trans n;have q6:=(m.cell (p:=⟨B,6,none⟩) l).trans E;have q7:=(m.cell (p:=⟨B,7,none⟩) l).trans y)
   have aw:Hid (ae [] w w3):=za (U.out.trans (ae.ah m (zg _)));clear o q C D z n E y q0 q1 q2 q3 q4 q5 q6 q7 DF m;go_loopw [10,59] (fun v x wr=>∃k:Nat,k<=8/\x= .int .i64 k/\bP wr w.heap.size 5 v (Hr k u)/\ae [] w wr) (fun _ x _=>8-(intOf x).toNat)
   case atStart=>exact⟨0,by omega,rfl,bQ,aw.out⟩
   case round=>
    obtain⟨k,Y,rfl,I,c⟩:=hrel;obtain⟨A,L,cap,rfl,hL,aF,lH⟩:=I.cH;have HK:=za c;have fG:=c.size;have aB:=sD u k Y;clear c;by_cases ab:k<8
    ·have ak:=HT.out k ab;have hx:=ax.out k;have ah:=za (Bw u k ab);obtain⟨x,ag⟩:∃x,u.list.getD k 0=x:=⟨_,rfl⟩
     rw[ag]at ak hx ah;have OP:=za (JG x hx);have LS:(wB x).length=4:=rfl;generalize wB x=wb at*;generalize Hr k u=LL at*;have Rq:LL.length<=32:=by omega
     clear ag;go_wp2_with (at_builtin;refine aQ (by rfl) (.tmp 62) (.tmp 74) 31 31 (by rfl) w.heap.size 5 i0 zr hi dO cc cE (by rfl) (I.alloc _) _ wb (by rfl) (Ra zr _ 5 _ wb 4 4 _ LS (by rfl) OP.out) (by simp only[zp];omega) (by omega) ?_;intro A3 n3 nN w4 bX J7;have dB:=za bX;have al:Hid (ae [] w w4):=za ((HK.out.alloc _).kept J7);clear bX J7 I)
     go_roundw
     case rel=>exact⟨k+1,by omega,by go_num,by rw[ah.out];exact dB.out,al.out⟩
     case measure=>simp[intOf];omega
    have e8:k=8:=by omega
    subst e8;rw[WO]at I;have b:=I.EJ (P:=prog) zr yq zM;rw[<-Ou.out]at b;obtain⟨X,HX⟩:∃X,Hid (tC s=X):=⟨_,za rfl⟩
    rw[HX.out]at b;clear I;go_wp2;go_ret;exact⟨by rw[HX.out];rfl,HK.out.below (zg _) (by simp)⟩
def Us (s:ByteArray):Nat->ByteArray
 |0=>s
 |n+1=>tC (Us s n)
theorem Rb (s:ByteArray)(h:s.size<=100000):∀n,(Us s n).size<=100000
 |0=>h
 |n+1=>by rw[Us,Bx];omega
theorem JH (s:ByteArray)(w:World)(j:s.size<=100000):
 Calls prog 129 #[.string s] w fun e w'=>e= .returned (.string (Hv s))/\Below w.heap.size w w':=by
 have m:Hid (Us s 2=Hv s):=za rfl;go_enter func129,ntmps129
 go_wp2;go_loopw [0,3] (fun v i wr=>∃k:Nat,k<=2/\i= .int .i64 k/\v= .string (Us s k)/\Below w.heap.size w wr) (fun _ i _=>2-(intOf i).toNat)
 case atStart=>exact⟨0,by omega,rfl,rfl,zl _ _⟩
 case round=>
  obtain⟨k,n,rfl,rfl,b⟩:=hrel;by_cases o:k<2
  ·have d:=za (fun w=>acE (Us s k) w (Rb s j k));have h:Hid (Us s (k+1)=tC (Us s k)):=za rfl;generalize Us s k=t at*;generalize tC t=u at*;go_wp2_with fail
   refine(d.out _).mono ?_;rintro e p ⟨rfl,c⟩;have l:=za (b.trans (c.mono b.size));clear c;go_wp2;go_roundw
   case rel=>exact⟨k+1,by omega,by go_num,by rw[h.out],l.out⟩
   case measure=>simp[intOf];omega
  obtain rfl:k=2:=by omega
  rw[m.out];go_wp2;go_ret;exact⟨rfl,b⟩
theorem Lu (s:ByteArray)(w:World)(h:s.size<=100000):
 Calls prog 98 #[.string s] w fun e w'=>e= .returned (.string (eZ s))/\Below w.heap.size w w':=by
 have c:=za (fun w=>JH s w h);have d:Hid (eZ s=(Hv s).extract 0 4):=za rfl;have hz:=By s;have j:4<=(Hv s).size:=by omega
 clear hz;generalize Hv s=t at*;go_enter func98,ntmps98
 go_wp2_with fail
 refine(c.out _).mono ?_;rintro e i ⟨rfl,b⟩;go_wp2;go_ret;exact⟨by rw[d.out];rfl,b⟩
theorem N4 (s t:ByteArray)(w:World)(l:s.size<=100000):
 Calls prog 109 #[.string s,.string t] w fun e w'=>e= .returned (.bool (decide (eZ s=t)))/\Below w.heap.size w w':=by
 have i:=za (fun w=>Lu s w l);generalize eZ s=u at*;rcases pW t u with⟨b,j,m⟩|⟨b,j,m⟩
 ·have h:Hid (decide (u=t)=true):=za (zD b.symm);clear b;generalize decide (u=t)=d at*;go_enter func109,ntmps109
  go_wp2_with fail
  refine(i.out _).mono ?_;rintro e k ⟨rfl,c⟩;go_wp2;go_ret;exact⟨by rw[h.out];rfl,c⟩
 have h:Hid (decide (u=t)=false):=za (zu (fun e=>b e.symm));clear b;generalize decide (u=t)=d at*;go_enter func109,ntmps109
 go_wp2_with fail
 refine(i.out _).mono ?_;rintro e k ⟨rfl,c⟩;go_wp2;go_ret;exact⟨by rw[h.out];rfl,c⟩
def py (i:Nat):Nat:=if i=6 then 4 else i+5
theorem JI {j:Nat}(hi:i<7)(b:j<7)(h:py i=py j):i=j:=by
 unfold py at h;split at h<;>split at h<;>omega
def VL (KL:Array Value)(s d1 d2:ByteArray)(i:Nat):Value:=
 if i=0 then .agg KL else if i=1 then .agg KL else if i=2 then .string s else if i=3 then .string d1 else if i=4 then .string d2 else .string (d2.extract 0 4)
structure CkJ (KL:Array Value)(s d1 d2:ByteArray)(listed:Array Bool)(x:Nat->Value):Prop where
 at_:∀i,i<7->listed.getD i false=true->x (py i)=VL KL s d1 d2 i
theorem CkJ.put {c:Array Value}{d b:ByteArray}{listed:Array Bool}{x:Nat->Value}(h:CkJ c s d b listed x)(i:Nat)(hi:i<7):CkJ c s d b (listed.setIfInBounds i true) (ll x (py i) (VL c s d b i)):=⟨fun j k l=>by
 unfold ll;by_cases e:py j=py i
 ·rw[zi e,JI k hi e]
 rw[zh e];rcases dx l with h1|h1
 ·subst h1;exact absurd rfl e
 exact h.at_ j k h1⟩
open Go Go.RowKit
section
variable {P:Program} {ops:Array Oper} {C:World->Prop} {Q:Act->Prop} {o:Oper} {rest:List Oper} {a:Act}
theorem tp (v:Value)(b:Region.wanted o (yielded ops a.tmps)=true)(h:∀w,C w->o.quietAt P a C w v)(c:wpQuiet P ops C Q rest (a.put o.dst v)):wpQuiet P ops C Q (o::rest) a:=by
 unfold wpQuiet;rw[zi b];exact⟨v,h,c⟩
theorem ai (v:Value)(b:Region.wanted o (yielded ops a.tmps)=true)(h:∀w,C w->(execOp a.eval o).run P w= .ok (.value v) w)(c:wpQuiet P ops C Q rest (a.put o.dst v)):wpQuiet P ops C Q (o::rest) a:=
 tp v b (fun w d=>by unfold Oper.quietAt;rw[h w d];exact⟨rfl,rfl⟩) c
theorem dN (f:FuncId)(args:Array Value)(v:Value)(i:Region.wanted o (yielded ops a.tmps)=true)(c:∀w,(execOp a.eval o).run P w= .ok (.enter f args) w)
 (k:∀w,Below W.heap.size W w->Calls P f args w fun e w'=>e= .returned v/\Below w.heap.size w w') (d:wpQuiet P ops (fun w'=>Below W.heap.size W w') Q rest (a.put o.dst v)):wpQuiet P ops (fun w'=>Below W.heap.size W w') Q (o::rest) a:=
 tp v i (fun w b=>by
  unfold Oper.quietAt;rw[c w];exact⟨rfl,(k w b).mono fun e w' ⟨j,h⟩=>⟨j,b.trans (h.mono b.size)⟩⟩) d
theorem ja {Q:Exit->Act->World->Prop}{a:Act}(c:P.follows .mixedOrders=true)(d:Region.lexB .any l.toArray=true)
 (h:wpQuiet P l.toArray (fun w'=>Below w.heap.size w w') (fun b=>∀w',Below w.heap.size w w'->Q .normal b w') l a):(Code.region id l.toArray true).wp P Q a w:=
 wp_region_quiet (C:=fun w'=>Below w.heap.size w w') c d (zl _ _).drew (by simpa using h)
theorem nK {Q:Exit->Act->World->Prop}{a:Act}(n:Nat)(u:P.follows .mixedOrders=true)(o:Region.lexTailB .any l.toArray n=true)
 (h:wpQuiet P l.toArray (fun w'=>Below w.heap.size w w') (fun c=>∀w',Below w.heap.size w w'->wpList P l.toArray Q (l.drop n) c w') (l.take n) a):(Code.region id l.toArray true).wp P Q a w:=by
 simp only[Region.lexTailB,zz,zY]at o;obtain⟨⟨⟨⟨y,d⟩,A⟩,x⟩,q⟩:=o;have C:n<l.length:=by simpa using d
 have b:(l.take n).length=n:=by simp;omega
 have m:(l.drop n).length=l.toArray.size-n:=by simp
 have p:HeadInv .any l.toArray n (Array.replicate l.toArray.size false):=
  ⟨by simp,fun j B _ e=>(by rw[yy]at e;cases e),fun t _ r=>getD_in (by simpa using r) (yy _ _)⟩
 have H:=nD (md:= .any) (g:=l.toArray.size-n) y A x d (l.take n) 0 _ a (fun j k=>by
  have z:j<n:=by rw[b]at k;exact k
  simp[z]) (by simpa using b) p (by rw[b];exact q) h
 refine wp_region_any u ?_;have:=jM (Q':=Q) (g:=l.toArray.size-n) (fun listed c w' s i=>by
  have:=wpAny_of_seq (md:= .any) (Q':=Q) (l.drop n) n listed c w' (fun j=>by simp[xx]) (by rw[m];exact i.1) (i.2 w' s);rwa [m]at this) _ _ _ _ ((zl _ _).drew) H
 rw[b,show n+(l.toArray.size-n)=l.toArray.size by omega]at this;exact this
end
theorem wJ (n:Nat)(w:World)(b:n<4294967296):
 Calls prog 97 #[.int .u64 n,.int .i64 4] w fun e w'=>e= .returned (.tuple #[.string (rm n),.int .i64 0])/\Below w.heap.size w w':=
 jK n 4 w (by simpa using b) (by omega) (by omega)
theorem JJ (m:Nat)(nm body:ByteArray)(w:World)(d:m<4294967296)(c:nm.size<=9223372036854775807)(b:bZ nm=false):
 Calls prog 71 #[.int .u32 m,.string nm,.string body] w fun e w'=>e= .returned (.tuple #[.string ByteArray.empty,.int .i64 11])/\w=w':=by
 have H:=za (Nf nm w c b);clear b;go_enter func71,ntmps71
 go_wp2_with fail
 refine H.out.mono ?_;rintro e w' ⟨rfl,rfl⟩;go_wp2;go_ret2
 exact⟨rfl,rfl⟩
theorem Du (m:Nat)(nm body:ByteArray)(w:World)(i:m<4294967296)(b:bZ nm=true)(h:65536<body.size)(d:body.size<=9223372036854775807):
 Calls prog 71 #[.int .u32 m,.string nm,.string body] w fun e w'=>e= .returned (.tuple #[.string ByteArray.empty,.int .i64 5])/\Below w.heap.size w w':=by
 have H:=za (FB nm w b);clear b;go_enter func71,ntmps71
 go_wp2_with fail
 refine H.out.mono ?_;rintro e w' ⟨rfl,c⟩;go_wp2;go_ret2
 exact⟨rfl,c⟩
theorem N5 (m:Nat)(nm body:ByteArray)(w:World)(u:m<4294967296)(h:bZ nm=true)(C:body.size<=65536):
 Calls prog 71 #[.int .u32 m,.string nm,.string body] w fun e w'=>e= .returned (.tuple #[.string (mW m nm body),.int .i64 0])/\Below w.heap.size w w':=by
 have H:=za (FB nm w h);have p:=za (fun w=>wJ m w u);have r:=za (fun w=>wJ body.size w (by omega));have q:=za (fun w=>Lu body w (by omega));have x:Hid (mW m nm body=rm m++fa nm++rm body.size++eZ body++body):=za rfl;have D:=jG m;have z:=jG body.size;have z3:=ic nm (dH h).2;have z4:=lL body;clear h;generalize rm m=a at*;generalize rm body.size=b at*;generalize fa nm=c at*;generalize eZ body=d at*;go_enter func71,ntmps71
 go_wp2_with fail
 refine H.out.mono ?_;rintro e E ⟨rfl,k⟩;go_wp2_with fail
 refine(p.out _).mono ?_;rintro e A ⟨rfl,i⟩;go_wp2_with fail
 refine(r.out _).mono ?_;rintro e w3 ⟨rfl,j⟩;go_wp2_with fail
 refine(q.out _).mono ?_;rintro e B ⟨rfl,l⟩;have n:=k.size;have o:=i.size;have y:=j.size;have s:=k.trans ((i.mono n).trans ((j.mono (by omega)).trans (l.mono (by omega))));clear k i j l n o y;go_wp2;go_ret2
 exact⟨by rw[x.out];rfl,s⟩
theorem lE (h:Bool)(e:Int)(w:World):Calls prog 102 #[.bool h,.int .i64 e] w fun b w'=>b= .returned (.int .i64 (if h then 0 else e))/\w=w':=by
 cases h
 ·go_enter func102,ntmps102
  go_wp2;go_ret;exact⟨rfl,rfl⟩
 go_enter func102,ntmps102
 go_wp2;go_ret;exact⟨rfl,rfl⟩
theorem wK (s:ByteArray)(b i j:Nat)(w:World)(h:af w b 9 #[.string s])(k:i<j)(c:j<=s.size)(o:j-i<=8)(n:s.size<=9223372036854775807):
 Calls prog 99 #[.int .i64 i,.int .i64 j,.pointer (some ⟨b,0,none⟩)] w fun e w'=>e= .returned (.int .u64 (du (s.extract i j).data.toList))/\w=w':=by
 have hz:(s.extract i j).size=j-i:=aq _ _ _ c;have d:=za (fun w=>fg (s.extract i j) w (by omega) (by omega));have l:w.cell? ⟨b,0,none⟩=some (.string s):=ya h;clear hz;generalize du (s.extract i j).data.toList=N at*;go_enter func99,ntmps99
 go_wp2_with fail
 refine(d.out _).mono ?_;rintro e m ⟨rfl,rfl⟩;go_wp2;go_ret;exact⟨rfl,rfl⟩
theorem N6 (b k:Nat)(w:World):Calls prog 100 #[.int .i64 k,.pointer (some ⟨b,0,none⟩)] w fun e w'=>e= .returned (.func (.func 101) #[] #[.pointer (some ⟨b,0,none⟩),.pointer (some ⟨w.heap.size,0,none⟩)])/\w'=w.alloc (.cells #[.int .i64 k] 3):=by
 go_enter func100,ntmps100
 go_wp2;go_ret;exact⟨rfl,rfl⟩
theorem uv (s:ByteArray)(b c k:Nat)(w:World)(i:af w b 9 #[.string s])(j:af w c 3 #[.int .i64 k])(p:s.size<=9223372036854775807)(m:k<=100):
 Calls prog 101 #[.pointer (some ⟨b,0,none⟩),.pointer (some ⟨c,0,none⟩)] w fun e w'=>e= .returned (.int .i64 (if k<=s.size then 0 else 2))/\w=w':=by
 have n:w.cell? ⟨b,0,none⟩=some (.string s):=ya i;have o:w.cell? ⟨c,0,none⟩=some (.int .i64 k):=ya j;have d:=za (fun h w=>lE h 2 w);by_cases h:k<=s.size
 ·rw[zi h];go_enter func101,ntmps101
  go_wp2_with fail
  refine(d.out _ _).mono ?_;rintro e l ⟨rfl,rfl⟩;go_wp2;go_ret;exact⟨rfl,rfl⟩
 rw[zh h];go_enter func101,ntmps101
 go_wp2_with fail
 refine(d.out _ _).mono ?_;rintro e l ⟨rfl,rfl⟩;go_wp2;go_ret;exact⟨rfl,rfl⟩
def VM (b:Nat):Value:= .func (.func 99) #[] #[.pointer (some ⟨b,0,none⟩)]
theorem Ut (s:ByteArray)(b c d m:Nat)(w:World)(l:af w b 9 #[.string s])(o:af w c 157 #[VM b])(hd:af w d 22 #[.int .u32 m])(u:m<4294967296)(q:s.size<=9223372036854775807)(k:4<=s.size):
 Calls prog 103 #[.pointer (some ⟨c,0,none⟩),.pointer (some ⟨d,0,none⟩)] w fun e w'=>e= .returned (.int .i64 (if du (s.extract 0 4).data.toList=m then 0 else 9))/\∃n,w'=w.drewN n:=by
 have i:=za (fun n=>wK s b 0 4 (w.drewN n) (l.drewN n) (by omega) k (by omega) q);have p:w.cell? ⟨c,0,none⟩=some (VM b):=ya o;have r:w.cell? ⟨d,0,none⟩=some (.int .u32 m):=ya hd;have j:=za (fun h w=>lE h 9 w);unfold VM at p;generalize du (s.extract 0 4).data.toList=N at*;by_cases h:N=m
 ·rw[zi h];have hd:((N:Int)==(m:Int))=true:=by rw[h];simp
  clear h;go_enter func103,ntmps103
  go_wp2_with fail
  go_quiet ((first|(go_at_call 99;with_reducible exact Calls.fj (i.out _))|(go_at_call 102;with_reducible exact Calls.fj (j.out _ _))))
  go_wp2;go_ret;exact⟨rfl,nq,rfl⟩
 rw[zh h];have hd:((N:Int)==(m:Int))=false:=zm.2 (by omega);clear h;go_enter func103,ntmps103
 go_wp2_with fail
 go_quiet ((first|(go_at_call 99;with_reducible exact Calls.fj (i.out _))|(go_at_call 102;with_reducible exact Calls.fj (j.out _ _))))
 go_wp2;go_ret;exact⟨rfl,nq,rfl⟩
theorem Uu (s:ByteArray)(b nb:Nat)(v:Value)(w:World)(j:af w b 9 #[.string s])(c:af w nb 9 #[v])(n:nb≠b)(q:s.size<=9223372036854775807)(i:16<=s.size):
 Calls prog 104 #[.pointer (some ⟨b,0,none⟩),.pointer (some ⟨nb,0,none⟩)] w fun e w'=>e= .returned (.int .i64 (dt (s.extract 4 16)).1)/\w'=w.setCell ⟨nb,0,none⟩ (.string (dt (s.extract 4 16)).2):=by
 have d:=za (fun w=>P8 (s.extract 4 16) w (by rw[aq _ _ _ i];omega));have o:w.cell? ⟨b,0,none⟩=some (.string s):=ya j;have p:w.cell? ⟨nb,0,none⟩=some v:=ya c;have m:w.frozen? ⟨nb,0,none⟩=false:=Z7 c;have l:=za (fun h w=>lE h 3 w);rcases sE (s.extract 4 16)with hg|⟨t,hg⟩;all_goals
  rw[hg]at d⊢;clear hg;go_enter func104,ntmps104
  go_wp2_with fail
  refine(d.out _).mono ?_;rintro e k ⟨rfl,rfl⟩;go_wp2_with fail
  refine(l.out _ _).mono ?_;rintro e k ⟨rfl,rfl⟩;go_wp2;go_ret;exact⟨rfl,rfl⟩
theorem X1 (s:ByteArray)(b c lb d:Nat)(v:Value)(most:Int)(w:World)(n:af w b 9 #[.string s])(q:af w c 157 #[VM b])(j:af w lb 3 #[v])(p:af w d 3 #[.int .i64 most])(l:lb≠d)(u:s.size<=9223372036854775807)(o:20<=s.size):
 Calls prog 106 #[.pointer (some ⟨c,0,none⟩),.pointer (some ⟨lb,0,none⟩),.pointer (some ⟨d,0,none⟩)] w fun e w'=>e= .returned (.int .i64 (if(du (s.extract 16 20).data.toList:Int)<=most then 0 else 5))/\w'=w.setCell ⟨lb,0,none⟩ (.int .i64 (du (s.extract 16 20).data.toList)):=by
 have k:=za (fun(_:Unit)=>wK s b 16 20 w n (by omega) o (by omega) u);have B:=uf (s.extract 16 20) (aq _ _ _ (by omega));have r:w.cell? ⟨c,0,none⟩=some (VM b):=ya q;have y:w.cell? ⟨d,0,none⟩=some (.int .i64 most):=ya p;have A:w.cell? ⟨lb,0,none⟩=some v:=ya j;have z:w.frozen? ⟨lb,0,none⟩=false:=Z7 j;have m:=za (fun h w=>lE h 5 w);unfold VM at r;have x:(lb=d)=False:=yF l;clear l;generalize du (s.extract 16 20).data.toList=N at*;by_cases h:(N:Int)<=most
 ·rw[zi h];have hd:decide ((N:Int)<=most)=true:=zD h;clear h;go_enter func106,ntmps106
  go_wp2_with fail
  refine(k.out ()).mono ?_;rintro e i ⟨rfl,rfl⟩;go_wp2_with fail
  refine(m.out _ _).mono ?_;rintro e i ⟨rfl,rfl⟩;go_wp2;go_ret;exact⟨rfl,rfl⟩
 rw[zh h];have hd:decide ((N:Int)<=most)=false:=zu h;clear h;go_enter func106,ntmps106
 go_wp2_with fail
 refine(k.out ()).mono ?_;rintro e i ⟨rfl,rfl⟩;go_wp2_with fail
 refine(m.out _ _).mono ?_;rintro e i ⟨rfl,rfl⟩;go_wp2;go_ret;exact⟨rfl,rfl⟩
theorem Uv (s:ByteArray)(b lb N:Nat)(w:World)(i:af w b 9 #[.string s])(d:af w lb 3 #[.int .i64 N])(n:s.size<=9223372036854775807)(k:N<4294967296):
 Calls prog 107 #[.pointer (some ⟨b,0,none⟩),.pointer (some ⟨lb,0,none⟩)] w fun e w'=>e= .returned (.int .i64 (if 24+N<=s.size then 0 else 2))/\w=w':=by
 have l:w.cell? ⟨b,0,none⟩=some (.string s):=ya i;have m:w.cell? ⟨lb,0,none⟩=some (.int .i64 N):=ya d;have c:=za (fun h w=>lE h 2 w);by_cases h:24+N<=s.size
 ·rw[zi h];have hd:decide ((N:Int)<=(s.size:Int)-24)=true:=zD (by omega);clear h;go_enter func107,ntmps107
  go_wp2_with fail
  refine(c.out _ _).mono ?_;rintro e j ⟨rfl,rfl⟩;go_wp2;go_ret;exact⟨rfl,rfl⟩
 rw[zh h];have hd:decide ((N:Int)<=(s.size:Int)-24)=false:=zu (by omega);clear h;go_enter func107,ntmps107
 go_wp2_with fail
 refine(c.out _ _).mono ?_;rintro e j ⟨rfl,rfl⟩;go_wp2;go_ret;exact⟨rfl,rfl⟩
theorem X3 (s:ByteArray)(b lb N:Nat)(w:World)(i:af w b 9 #[.string s])(d:af w lb 3 #[.int .i64 N])(J:s.size<=1099511627776)(y:24+N<=s.size)(F:N<=100000):
 Calls prog 108 #[.pointer (some ⟨b,0,none⟩),.pointer (some ⟨lb,0,none⟩)] w fun e w'=>e= .returned (.int .i64 (if eZ (s.extract 24 (24+N))=s.extract 20 24 then 0 else 10))/\Below w.heap.size w w':=by
 have k:w.cell? ⟨b,0,none⟩=some (.string s):=ya i;have x:w.cell? ⟨lb,0,none⟩=some (.int .i64 N):=ya d;have A:=i.lt;have C:=d.lt;have n:=za (fun w=>N4 (s.extract 24 (24+N)) (s.extract 20 24) w (by rw[aq _ _ _ y];omega));have l:=za (fun h w=>(lE h 10 w).mono (R':=fun m w'=>m= .returned (.int .i64 (if h then 0 else 10))/\Below w.heap.size w w') fun e w' h=>⟨h.1,by rw[<-h.2];exact zl _ _⟩);have j:Hid ((if decide (eZ (s.extract 24 (24+N))=s.extract 20 24)=true then(0:Int)else 10)=if eZ (s.extract 24 (24+N))=s.extract 20 24 then 0 else 10):=za (by simp);rw[<-j.out];generalize decide (eZ (s.extract 24 (24+N))=s.extract 20 24)=D at*;clear j;have G:(24:Int)+N<=s.size:=by omega
 have o:=za (l.out D);clear l;generalize (if D=true then(0:Int)else 10)=r at*;have z:(24:Int)<=24+N:=by omega
 have H:(24:Int)<=s.size:=by omega
 have E:IntKind.i64.wrap (24+(N:Int))=24+N:=yc _ (by omega);have I:(24+(N:Int)).toNat=24+N:=by omega
 go_enter func108,ntmps108
 go_wp2_with fail
 refine ja (by kernel_rfl) (by kernel_rfl) ?_;refine ai (.string s) (by rfl) (fun w' c=>by have q:=(c.cell (p:=⟨b,0,none⟩) (by simpa using by assumption)).trans k;go_simp) ?_;simp only[Act.put,zc,zd,zf];refine ai (.int .i64 N) (by rfl) (fun w' c=>by have q:=(c.cell (p:=⟨lb,0,none⟩) (by simpa using by assumption)).trans x;go_simp) ?_;simp only[Act.put,zc,zd,zf];refine ai (.int .i64 (24+N)) (by rfl) (fun _ _=>by first|rfl|go_simp) ?_;simp only[Act.put,zc,zd,zf];refine ai (.string (s.extract 24 (24+N))) (by rfl) (fun _ _=>by first|rfl|go_simp) ?_;simp only[Act.put,zc,zd,zf];refine ai (.string s) (by rfl) (fun w' c=>by have q:=(c.cell (p:=⟨b,0,none⟩) (by simpa using by assumption)).trans k;go_simp) ?_;simp only[Act.put,zc,zd,zf];refine ai (.string (s.extract 20 24)) (by rfl) (fun _ _=>by first|rfl|go_simp) ?_;simp only[Act.put,zc,zd,zf];refine dN 109 _ _ (by rfl) (fun _=>by first|rfl|go_simp) (fun w _=>n.out _) ?_;simp only[Act.put,zc,zd,zf];refine dN 102 _ _ (by rfl) (fun _=>by first|rfl|go_simp) (fun w _=>o.out _) ?_;simp only[Act.put,zc,zd,zf];refine ai (.int .i64 r) (by rfl) (fun _ _=>by first|rfl|go_simp) ?_;simp only[Act.put,zc,zd,zf];refine xE ?_;intro B u;go_wp2;go_ret;exact⟨rfl,u⟩
def acF (r:Int×ByteArray×ByteArray×Nat):Value:= .tuple #[.agg #[.int .u64 0,.string r.2.1,.string r.2.2.1],.int .i64 r.2.2.2,.int .i64 r.1]
theorem oS {t:TypeId}{i j e:Value}(h:af w g t #[i,j,e])(c b d:Value):af (((w.setCell ⟨g,0,none⟩ c).setCell ⟨g,1,none⟩ b).setCell ⟨g,2,none⟩ d) g t #[c,b,d]:=((h.set 0 c).set 1 b).set 2 d
theorem kL {w':World}(h:Below B w w')(b:B<=g)(d c e:Value):Below B w (((w'.setCell ⟨g,0,none⟩ d).setCell ⟨g,1,none⟩ c).setCell ⟨g,2,none⟩ e):=
 ((h.setCell (by simpa using b) _).setCell (by simpa using b) _).setCell (by simpa using b) _
theorem X4 {P:Program}{f:FuncId}{args:Array Value}{v:Value}(h:Calls P f args w fun e w'=>e= .returned v/\w=w'):Calls P f args w fun e w'=>e= .returned v/\Below w.heap.size w w':=h.mono fun e w' ⟨c,b⟩=>⟨c,by rw[<-b];exact zl _ _⟩
theorem JK {P:Program}{ops:Array Oper}{C:World->Prop}{Q:Act->Prop}{o:Oper}{rest:List Oper}{a:Act}(b:Region.wanted o (yielded ops a.tmps)=false)(h:wpQuiet P ops C Q rest (a.put o.dst undef)):wpQuiet P ops C Q (o::rest) a:=by
 unfold wpQuiet;rw[zh (by rw[b];simp)];exact h
