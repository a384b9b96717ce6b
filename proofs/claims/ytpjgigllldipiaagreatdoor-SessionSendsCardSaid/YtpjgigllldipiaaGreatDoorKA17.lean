/- The keys of the map of places. -/
import Derived.Test.YtpjgigllldipiaaGreatDoorKA11
import Derived.DeepKeys5
import Derived.Test.YtpjgigllldipiaaGreatDoorKA26
set_option linter.all false
set_option maxRecDepth 100000
set_option maxHeartbeats 4000000
namespace Go.Proofs.YtpjgigllldipiaaGreatDoor
open Go.RowKit
def ym:=@Tryz.results179
def yt:=@Option.some.inj
def yu:=@Tryz.ntmps179
def yz:=@Tryz.func179
def yC:=@Tryz.results101
def xQ:=@Tryz.ntmps101
def xX:=@Tryz.func101
def Z0:=@Tryz.underlying211
def nc (l:List Nat):Array Value:=(l.map fun n=>Value.int .u64 (n:Nat)).toArray
theorem abD (l:List Nat)(i:Nat)(h:i<l.length):(nc l)[i]?=some (.int .u64 (l.getD i 0:Nat)):=by
 simp[nc,zA,zD h]
theorem af.num {w:World}{g:Nat}{t:TypeId}{l:List Nat}(h:af w g t (nc l)){i:Nat}(hi:i<l.length):w.cell? ⟨g,i,none⟩=some (.int .u64 (l.getD i 0:Nat)):=(h.cell i).trans (abD l i hi)
theorem Tr (s:ByteArray)(j i:Nat)(w:World)(d:j<i)(hi:i<=s.size)(h:s.size<=65536):
 Calls Tryz.prog 159 #[.string s,.int .i64 j,.int .i64 i] w fun e w'=>e= .returned (.int .i64 (mt s.data.toList j i 64))/\Below w.heap.size w w':=
 (Tg s j i w d hi (by omega)).mono fun e w' ⟨b,m,c⟩=>⟨b,by rw[c];exact(zq _ _).bE m⟩
def BT (s:ByteArray)(w:World)(i p f:Nat)(out Jt:ByteArray)(wr:World):Prop:=
 p<=i/\i<=s.size/\Jt.data.toList=(s.data.toList.take i).drop p/\out.data.toList++pk s.data.toList f p i=pack s.data.toList/\s.size-i<f/\Below w.heap.size w wr
theorem BT.none {s:ByteArray}{w:World}{i p f:Nat}{out d:ByteArray}{wr:World}(h:BT s w i p f out d wr)(hi:i<s.size)(j:Hb s.data.toList i i=none)(x:ByteArray)(hx:x.data.toList= [s[i]])(c:World)(k:Below w.heap.size w c):BT s w (i+1) p (f-1) out (d++x) c:=by
 obtain⟨l,e,m,b,o,n⟩:=h;obtain⟨g,rfl⟩:∃g,f=g+1:=⟨f-1,by omega⟩
 unfold pk at b;rw[zl (by simpa using hi),j]at b;refine⟨by omega,by omega, ?_,b,by omega,k⟩;rw[ba,m,hx,jh s i hi,yO (by rw[length_take s i e];exact l)]
theorem BT.some {s:ByteArray}{w:World}{i p f j:Nat}{out m a b:ByteArray}{wr:World}(h:BT s w i p f out m wr)(hi:i<s.size)(k:Hb s.data.toList i i=some j)(r:a.data.toList=gX m.data.toList)(o:b.data.toList=kM (mt s.data.toList j i 64) (i-j))(l:World)(q:Below w.heap.size w l)(e:ByteArray)(u:e.data.toList= []):
 BT s w (i+mt s.data.toList j i 64) (i+mt s.data.toList j i 64) (f-1) (out++a++b) e l:=by
 obtain⟨A,n,x,c,B,y⟩:=h;obtain⟨g,rfl⟩:∃g,f=g+1:=⟨f-1,by omega⟩
 unfold pk at c;rw[zl (by simpa using hi),k]at c;simp only at c;have d:=(Bo s.data.toList 64 j i).2 (by simpa using n);have z:=(pE _ _ _ _ k).2;rw[aa]at d;refine⟨zi _,d, ?_, ?_,by simp;omega,q⟩
 ·rw[u,zR];rw[yc];omega
 rw[<-c,ba,ba,r,o,x];simp
open Go.RowKit Go.Maps
theorem laidOut :laidOutB Tryz.prog=true:=by kernel_rfl
theorem ry :Keyed Tryz.prog 211:=Keyed.of_law (deep_law_gate laidOut (yn (by kernel_rfl)) (yn (by kernel_rfl)) (by kernel_rfl) (by kernel_rfl))
theorem Kv (w:World):(zeroValue 3).run Tryz.prog w= .ok (.int .i64 0) w:=by kernel_rfl
theorem afL (a b c d:UInt8):∃l,keyOf Tryz.prog 211 (.agg #[.int .u8 a.toNat,.int .u8 b.toNat,.int .u8 c.toNat,.int .u8 d.toNat])=some l:=by
 have h:∀x:UInt8,(Lit.int .u8 (x.toNat:Int)).wf=true:=by
  intro x;have:=x.toNat_lt;simp[Lit.wf,IntKind.min,IntKind.max,IntKind.signed,IntKind.bits];omega
 have p:(Tryz.prog.keyType 211)=true:=by kernel_rfl
 have e:Tryz.prog.cellsOf 211=4:=by kernel_rfl
 have j:Tryz.prog.cellsOf 5=1:=by kernel_rfl
 obtain⟨m,k⟩:∃m,Tryz.prog.types.size+1=m+2:=⟨Tryz.prog.types.size-1,by have:1<=Tryz.prog.types.size:=yn (by kernel_rfl);omega⟩
 refine⟨.string (keyBytes [.int .u8 a.toNat,.int .u8 b.toNat,.int .u8 c.toNat,.int .u8 d.toNat]), ?_⟩;have i:List.range 4= [0,1,2,3]:=rfl;have n:Value.formed Tryz.prog 211 (.agg #[.int .u8 a.toNat,.int .u8 b.toNat,.int .u8 c.toNat,.int .u8 d.toNat])=true:=by
  simp[Value.formed,Z0,e]
 have o:Tryz.prog.keyLits (m+2) 211 [.int .u8 a.toNat,.int .u8 b.toNat,.int .u8 c.toNat,.int .u8 d.toNat]=some [.int .u8 a.toNat,.int .u8 b.toNat,.int .u8 c.toNat,.int .u8 d.toNat]:=by
  simp[Program.keyLits,Z0,yB,e,j,i,h]
 simp only[keyOf,Z0,p,n,k];have:(Value.agg #[.int .u8 a.toNat,.int .u8 b.toNat,.int .u8 c.toNat,.int .u8 d.toNat]).cells.toList= [.int .u8 a.toNat,.int .u8 b.toNat,.int .u8 c.toNat,.int .u8 d.toNat]:=rfl;rw[this,o];rfl
def gv (L:List UInt8)(i:Nat):Value:= .agg #[.int .u8 (L.getD i 0).toNat,.int .u8 (L.getD (i+1) 0).toNat,.int .u8 (L.getD (i+2) 0).toNat,.int .u8 (L.getD (i+3) 0).toNat]
theorem Py (L:List UInt8)(i:Nat):∃l,keyOf Tryz.prog 211 (gv L i)=some l:=afL _ _ _ _
noncomputable def gl (L:List UInt8)(i:Nat):Lit:=(Py L i).choose
theorem rz (L:List UInt8)(i:Nat):keyOf Tryz.prog 211 (gv L i)=some (gl L i):=(Py L i).choose_spec
theorem ka (L:List UInt8)(a b:Nat)(d:a<L.length)(c:b<L.length):(L.getD a 0).toNat=(L.getD b 0).toNat↔L[a]?=L[b]?:=by
 rw[zA,zA,zD d,zD c];simp[zW]
theorem UT (L:List UInt8)(a b:Nat)(j:a+4<=L.length)(i:b+4<=L.length):gl L a=gl L b↔fC L a b:=by
 constructor
 ·intro h;have d:=rz L a;rw[h]at d;have c:=ry.inj d (rz L b);unfold gv at c;injection c with c;simp only[Array.mk.injEq,List.cons.injEq,Value.int.injEq,true_and,and_true,Int.natCast_inj]at c;exact⟨(ka L _ _ (by omega) (by omega)).1 c.1,(ka L _ _ (by omega) (by omega)).1 c.2.1,(ka L _ _ (by omega) (by omega)).1 c.2.2.1,(ka L _ _ (by omega) (by omega)).1 c.2.2.2⟩
 intro h;have e:gv L a=gv L b:=by
  unfold gv;rw[(ka L _ _ (by omega) (by omega)).2 h.1,(ka L _ _ (by omega) (by omega)).2 h.2.1,(ka L _ _ (by omega) (by omega)).2 h.2.2.1,(ka L _ _ (by omega) (by omega)).2 h.2.2.2]
 have d:=rz L a;rw[e,rz L b]at d;exact(yt d).symm
def MI (L:List UInt8)(D:DataW Unit)(n:Nat):Prop:=IsMap D/\∀a,a+4<=L.length->
 (∀j,jz L a n=some j->Maps.has D (gl L a)=true/\D.atKey (gl L a) (.lit (.int .i64 0))= .lit (.int .i64 j))/\(jz L a n=none->Maps.has D (gl L a)=false)
theorem MI.start (L:List UInt8):MI L (.map []) 0:=⟨⟨[],rfl⟩,fun a _=>⟨fun j h=>by simp[jz]at h,fun _=>rfl⟩⟩
theorem MI.skip {L:List UInt8}{D:DataW Unit}{n:Nat}(h:MI L D n)(c:¬n+4<=L.length):MI L D (n+1):=by
 refine⟨h.1,fun a b=> ?_⟩;rw[sC L a n (fun d=>c d.1)];exact h.2 a b
theorem MI.put {L:List UInt8}{D:DataW Unit}{n:Nat}(h:MI L D n)(c:n+4<=L.length):MI L (D.put (gl L n) (.lit (.int .i64 n))) (n+1):=by
 have m:WideAt.IsKeyLit (gl L n):=ry.key (rz L n);refine⟨h.1.put _ _,fun a d=> ?_⟩;by_cases b:fC L n a
 ·have e:gl L a=gl L n:=((UT L n a c d).2 b).symm;rw[Ij L a n c b,e];refine⟨fun j i=> ?_,fun k=>by cases k⟩;injection i with i;subst i;exact⟨has_put_same h.1 m _,atKey_put_same h.1 m _ _⟩
 rw[sC L a n (fun k=>b k.2)];have l:gl L a≠gl L n:=fun e=>b ((UT L n a c d).1 e.symm)
 rw[has_put_other l,atKey_put_other l];exact h.2 a d
def hdV (r:Bool×Nat×Nat×Int):Value:= .tuple #[.bool r.1,.int .i64 r.2.1,.int .i64 r.2.2.1,.int .i64 r.2.2.2]
theorem MA (s:ByteArray)(d m:Bool)(w:World)(W:s.size<=4611686018427387904):
 Calls Tryz.prog 179 #[.string s,.bool d,.bool m] w fun e w'=>e= .returned (hdV (hd s d m))/\w=w':=by
 unfold hdV;rcases fR s with⟨hz,rfl⟩|⟨hz,X,U⟩
 ·have c:Hid (hd ⟨#[]⟩ d m=(false,0,0,2)):=za (by unfold hd;rw[zl (by simp[ByteArray.size])]);clear hz;go_enter yz,yu
  go_wp2;refine zp (v:= .tuple #[.bool false,.int .i64 (0:Int),.int .i64 (0:Int),.int .i64 2]) (by simp[results,ym,go_sem]) rfl ?_;rw[c.out];exact⟨rfl,rfl⟩
 have O:0<s.size:=by
  rcases Zv s.size with h|h
  ·exact absurd h (by first|exact hz|omega)
  exact h
 cases d with
 |true=>
  have c:Hid (hd s true m=(false,0,0,6)):=za (by unfold hd;rw[zj (by omega),zl rfl]);go_enter yz,yu
  go_wp2;refine zp (v:= .tuple #[.bool false,.int .i64 (0:Int),.int .i64 (0:Int),.int .i64 6]) (by simp[results,ym,go_sem]) rfl ?_;rw[c.out];exact⟨rfl,rfl⟩
 |false=>
 cases m with
 |true=>
  have c:Hid (hd s false true=(false,0,0,4)):=za (by unfold hd;rw[zj (by omega),zj (by simp),zl rfl]);go_enter yz,yu
  go_wp2;refine zp (v:= .tuple #[.bool false,.int .i64 (0:Int),.int .i64 (0:Int),.int .i64 4]) (by simp[results,ym,go_sem]) rfl ?_;rw[c.out];exact⟨rfl,rfl⟩
 |false=>
 have x:hd s false false=Af s:=by unfold hd;rw[zj (by omega),zj (by simp),zj (by simp)]
 have z:s.data.toList.getD 0 0=s[0]:=by rw[zA,gz s 0 O];rfl
 have Z:=s[0].toNat_lt;by_cases D:s[0].toNat<128
 ·have c:Hid (hd s false false=(false,0,1,0)):=za (by rw[x];unfold Af;dsimp only;rw[z,zl D]);clear x;go_enter yz,yu
  go_wp2;refine zp (v:= .tuple #[.bool false,.int .i64 (0:Int),.int .i64 (1:Int),.int .i64 0]) (by simp[results,ym,go_sem]) rfl ?_;rw[c.out];exact⟨rfl,rfl⟩
 by_cases I:192<=s[0].toNat
 ·obtain⟨t,E⟩:∃t,s[0].toNat=192+t:=⟨s[0].toNat-192,by omega⟩
  have b:=x;unfold Af at b;dsimp only at b;rw[z,E,zj (by omega:¬192+t<128),show decide (192<=192+t)=true from by simp,zl (by omega:192<=192+t),show 192+t-192=t from by omega]at b;have S:decide (192<=192+(t:Int))=true:=zH (by omega);have M:t<=63:=by omega
  clear x z D I;by_cases n:t<=55
  ·rw[zl n,zl n,zl n]at b;have G:192+(t:Int)-192=t:=by omega
   by_cases o:s.size<1+t
   ·have c:Hid (hd s false false=(false,0,0,2)):=za (by rw[b,zl o]);clear b;go_enter yz,yu
    go_wp2;refine zp (v:= .tuple #[.bool false,.int .i64 (0:Int),.int .i64 (0:Int),.int .i64 2]) (by simp[results,ym,go_sem]) rfl ?_;rw[c.out];exact⟨rfl,rfl⟩
   have c:Hid (hd s false false=(true,1,t,0)):=za (by rw[b,zj o,zj (by simp)]);clear b;go_enter yz,yu
   go_wp2;refine zp (v:= .tuple #[.bool true,.int .i64 (1:Int),.int .i64 (t:Int),.int .i64 0]) (by simp[results,ym,go_sem]) rfl ?_;rw[c.out];exact⟨rfl,rfl⟩
  rw[zj n,zj n,zj n]at b;obtain⟨k,rfl⟩:∃k,t=55+k:=⟨t-55,by omega⟩
  rw[show 55+k-55=k from by omega]at b;have G:192+(55+(k:Int))-192=55+k:=by omega
  have R:55+(k:Int)-55=k:=by omega
  by_cases o:s.size<1+k
  ·have c:Hid (hd s false false=(false,0,0,2)):=za (by rw[b,zl o]);clear b;go_enter yz,yu
   go_wp2;refine zp (v:= .tuple #[.bool false,.int .i64 (0:Int),.int .i64 (0:Int),.int .i64 2]) (by simp[results,ym,go_sem]) rfl ?_;rw[c.out];exact⟨rfl,rfl⟩
  rw[zj o]at b;have u:1<s.size:=by omega
  have p:s.data.toList.getD 1 0=s[1]:=by rw[zA,gz s 1 u];rfl
  rw[p]at b;have y:(s.extract 1 (1+k)).size=k:=by rw[an _ _ _ (by omega)];omega
  have q:gj (s.extract 1 (1+k)).data.toList=decide (s[1].toNat=0):=by
   have F:(s.extract 1 (1+k)).data.toList=s[1]::(s.extract 1 (1+k)).data.toList.drop 1:=by
    rw[aj];have i:(s.data.toList.take (1+k)).drop 1=((s.data.toList.drop 1).take k):=by rw[Z7,show 1+k-1=k from by omega]
    rw[i,drop_cons s 1 u,show k=(k-1)+1 from by omega,zV];rfl
   rw[F];simp only[gj];by_cases e:s[1]=0
   ·simp[e]
   have:s[1].toNat≠0:=fun h=>e (zW.1 h)
   simp[e,this]
  have j:=za (oQ (s.extract 1 (1+k)) w (by omega));by_cases r:s[1].toNat=0
  ·have l:pe (s.extract 1 (1+k))=3:=by unfold pe;rw[zj (by omega),zj (by omega),q,r];rfl
   have c:Hid (hd s false false=(false,0,0,3)):=za (by rw[b,zl (.inl r)]);rw[l]at j;clear b l q p;generalize vq (s.extract 1 (1+k))=N at*;go_enter yz,yu
   go_wp2_with fail
   refine j.out.mono ?_;rintro e w' ⟨rfl,rfl⟩;go_wp2;refine zp (v:= .tuple #[.bool false,.int .i64 (0:Int),.int .i64 (0:Int),.int .i64 3]) (by simp[results,ym,go_sem]) rfl ?_;rw[c.out];exact⟨rfl,rfl⟩
  have l:pe (s.extract 1 (1+k))=0:=by unfold pe;rw[zj (by omega),zj (by omega),q,zz r];rfl
  have B:vq (s.extract 1 (1+k))=lk (s.extract 1 (1+k)).data.toList:=by unfold vq;rw[zl l]
  have L:lk (s.extract 1 (1+k)).data.toList<18446744073709551616:=by
   have i:=ue (s.extract 1 (1+k)).data.toList;rw[aa,y]at i;have C:2^(8*k)<=2^(8*8):=yy (by omega) (by omega);exact yf i C
  rw[l,B]at j;clear l B q p y;generalize lk (s.extract 1 (1+k)).data.toList=N at*;by_cases i:N<=55
  ·have c:Hid (hd s false false=(false,0,0,3)):=za (by rw[b,zl (.inr i)]);clear b;go_enter yz,yu
   go_wp2_with fail
   refine j.out.mono ?_;rintro e w' ⟨rfl,rfl⟩;go_wp2;refine zp (v:= .tuple #[.bool false,.int .i64 (0:Int),.int .i64 (0:Int),.int .i64 3]) (by simp[results,ym,go_sem]) rfl ?_;rw[c.out];exact⟨rfl,rfl⟩
  rw[zj (fun h=>h.elim r i)]at b;by_cases C:s.size<N
  ·have c:Hid (hd s false false=(false,0,0,2)):=za (by rw[b,zl (by omega)]);clear b;go_enter yz,yu
   go_wp2_with fail
   refine j.out.mono ?_;rintro e w' ⟨rfl,rfl⟩;go_wp2;refine zp (v:= .tuple #[.bool false,.int .i64 (0:Int),.int .i64 (0:Int),.int .i64 2]) (by simp[results,ym,go_sem]) rfl ?_;rw[c.out];exact⟨rfl,rfl⟩
  by_cases A:s.size<1+k+N
  ·have c:Hid (hd s false false=(false,0,0,2)):=za (by rw[b,zl A]);clear b;go_enter yz,yu
   go_wp2_with fail
   refine j.out.mono ?_;rintro e w' ⟨rfl,rfl⟩;go_wp2;refine zp (v:= .tuple #[.bool false,.int .i64 (0:Int),.int .i64 (0:Int),.int .i64 2]) (by simp[results,ym,go_sem]) rfl ?_;rw[c.out];exact⟨rfl,rfl⟩
  have c:Hid (hd s false false=(true,1+k,N,0)):=za (by rw[b,zj A]);have K:((N:Int)==1)=false:=by simp;omega
  clear b;go_enter yz,yu
  go_wp2_with fail
  refine j.out.mono ?_;rintro e w' ⟨rfl,rfl⟩;go_wp2;refine zp (v:= .tuple #[.bool true,.int .i64 ((1+k:Nat):Int),.int .i64 (N:Int),.int .i64 0]) (by simp[results,ym,go_sem]<;>omega) rfl ?_;rw[c.out];exact⟨rfl,rfl⟩
 obtain⟨t,E⟩:∃t,s[0].toNat=128+t:=⟨s[0].toNat-128,by omega⟩
 have b:=x;unfold Af at b;dsimp only at b;have H:¬192<=128+t:=by omega
 rw[z,E,zj (by omega:¬128+t<128),zz H,zj H,show 128+t-128=t from by omega]at b;have S:decide (192<=128+(t:Int))=false:=zz (by omega);have M:t<=63:=by omega
 clear x z D I H;by_cases n:t<=55
 ·rw[zl n,zl n,zl n]at b;have G:128+(t:Int)-128=t:=by omega
  by_cases o:s.size<1+t
  ·have c:Hid (hd s false false=(false,0,0,2)):=za (by rw[b,zl o]);clear b;go_enter yz,yu
   go_wp2;refine zp (v:= .tuple #[.bool false,.int .i64 (0:Int),.int .i64 (0:Int),.int .i64 2]) (by simp[results,ym,go_sem]) rfl ?_;rw[c.out];exact⟨rfl,rfl⟩
  rw[zj o]at b;by_cases J:t=1
  ·subst J;have u:1<s.size:=by omega
   have p:s.data.toList.getD 1 0=s[1]:=by rw[zA,gz s 1 u];rfl
   rw[p]at b;by_cases i:s[1].toNat<128
   ·have c:Hid (hd s false false=(false,0,0,3)):=za (by rw[b,zl ⟨rfl,rfl,i⟩]);clear b p;go_enter yz,yu
    go_wp2;refine zp (v:= .tuple #[.bool false,.int .i64 (0:Int),.int .i64 (0:Int),.int .i64 3]) (by simp[results,ym,go_sem]) rfl ?_;rw[c.out];exact⟨rfl,rfl⟩
   have c:Hid (hd s false false=(false,1,1,0)):=za (by rw[b,zj (by simp;omega)]);clear b p;go_enter yz,yu
   go_wp2;refine zp (v:= .tuple #[.bool false,.int .i64 (1:Int),.int .i64 (1:Int),.int .i64 0]) (by simp[results,ym,go_sem]) rfl ?_;rw[c.out];exact⟨rfl,rfl⟩
  have c:Hid (hd s false false=(false,1,t,0)):=za (by rw[b,zj (fun h=>J h.2.1)]);have Y:((t:Int)==1)=false:=by simp;omega
  clear b;go_enter yz,yu
  go_wp2;refine zp (v:= .tuple #[.bool false,.int .i64 (1:Int),.int .i64 (t:Int),.int .i64 0]) (by simp[results,ym,go_sem]) rfl ?_;rw[c.out];exact⟨rfl,rfl⟩
 rw[zj n,zj n,zj n]at b;obtain⟨k,rfl⟩:∃k,t=55+k:=⟨t-55,by omega⟩
 rw[show 55+k-55=k from by omega]at b;have G:128+(55+(k:Int))-128=55+k:=by omega
 have R:55+(k:Int)-55=k:=by omega
 by_cases o:s.size<1+k
 ·have c:Hid (hd s false false=(false,0,0,2)):=za (by rw[b,zl o]);clear b;go_enter yz,yu
  go_wp2;refine zp (v:= .tuple #[.bool false,.int .i64 (0:Int),.int .i64 (0:Int),.int .i64 2]) (by simp[results,ym,go_sem]) rfl ?_;rw[c.out];exact⟨rfl,rfl⟩
 rw[zj o]at b;have u:1<s.size:=by omega
 have p:s.data.toList.getD 1 0=s[1]:=by rw[zA,gz s 1 u];rfl
 rw[p]at b;have y:(s.extract 1 (1+k)).size=k:=by rw[an _ _ _ (by omega)];omega
 have q:gj (s.extract 1 (1+k)).data.toList=decide (s[1].toNat=0):=by
  have F:(s.extract 1 (1+k)).data.toList=s[1]::(s.extract 1 (1+k)).data.toList.drop 1:=by
   rw[aj];have i:(s.data.toList.take (1+k)).drop 1=((s.data.toList.drop 1).take k):=by rw[Z7,show 1+k-1=k from by omega]
   rw[i,drop_cons s 1 u,show k=(k-1)+1 from by omega,zV];rfl
  rw[F];simp only[gj];by_cases e:s[1]=0
  ·simp[e]
  have:s[1].toNat≠0:=fun h=>e (zW.1 h)
  simp[e,this]
 have j:=za (oQ (s.extract 1 (1+k)) w (by omega));by_cases r:s[1].toNat=0
 ·have l:pe (s.extract 1 (1+k))=3:=by unfold pe;rw[zj (by omega),zj (by omega),q,r];rfl
  have c:Hid (hd s false false=(false,0,0,3)):=za (by rw[b,zl (.inl r)]);rw[l]at j;clear b l q p;generalize vq (s.extract 1 (1+k))=N at*;go_enter yz,yu
  go_wp2_with fail
  refine j.out.mono ?_;rintro e w' ⟨rfl,rfl⟩;go_wp2;refine zp (v:= .tuple #[.bool false,.int .i64 (0:Int),.int .i64 (0:Int),.int .i64 3]) (by simp[results,ym,go_sem]) rfl ?_;rw[c.out];exact⟨rfl,rfl⟩
 have l:pe (s.extract 1 (1+k))=0:=by unfold pe;rw[zj (by omega),zj (by omega),q,zz r];rfl
 have B:vq (s.extract 1 (1+k))=lk (s.extract 1 (1+k)).data.toList:=by unfold vq;rw[zl l]
 have L:lk (s.extract 1 (1+k)).data.toList<18446744073709551616:=by
  have i:=ue (s.extract 1 (1+k)).data.toList;rw[aa,y]at i;have C:2^(8*k)<=2^(8*8):=yy (by omega) (by omega);exact yf i C
 rw[l,B]at j;clear l B q p y;generalize lk (s.extract 1 (1+k)).data.toList=N at*;by_cases i:N<=55
 ·have c:Hid (hd s false false=(false,0,0,3)):=za (by rw[b,zl (.inr i)]);clear b;go_enter yz,yu
  go_wp2_with fail
  refine j.out.mono ?_;rintro e w' ⟨rfl,rfl⟩;go_wp2;refine zp (v:= .tuple #[.bool false,.int .i64 (0:Int),.int .i64 (0:Int),.int .i64 3]) (by simp[results,ym,go_sem]) rfl ?_;rw[c.out];exact⟨rfl,rfl⟩
 rw[zj (fun h=>h.elim r i)]at b;by_cases C:s.size<N
 ·have c:Hid (hd s false false=(false,0,0,2)):=za (by rw[b,zl (by omega)]);clear b;go_enter yz,yu
  go_wp2_with fail
  refine j.out.mono ?_;rintro e w' ⟨rfl,rfl⟩;go_wp2;refine zp (v:= .tuple #[.bool false,.int .i64 (0:Int),.int .i64 (0:Int),.int .i64 2]) (by simp[results,ym,go_sem]) rfl ?_;rw[c.out];exact⟨rfl,rfl⟩
 by_cases A:s.size<1+k+N
 ·have c:Hid (hd s false false=(false,0,0,2)):=za (by rw[b,zl A]);clear b;go_enter yz,yu
  go_wp2_with fail
  refine j.out.mono ?_;rintro e w' ⟨rfl,rfl⟩;go_wp2;refine zp (v:= .tuple #[.bool false,.int .i64 (0:Int),.int .i64 (0:Int),.int .i64 2]) (by simp[results,ym,go_sem]) rfl ?_;rw[c.out];exact⟨rfl,rfl⟩
 have c:Hid (hd s false false=(false,1+k,N,0)):=za (by rw[b,zj A]);have K:((N:Int)==1)=false:=by simp;omega
 clear b;go_enter yz,yu
 go_wp2_with fail
 refine j.out.mono ?_;rintro e w' ⟨rfl,rfl⟩;go_wp2;refine zp (v:= .tuple #[.bool false,.int .i64 ((1+k:Nat):Int),.int .i64 (N:Int),.int .i64 0]) (by simp[results,ym,go_sem]<;>omega) rfl ?_;rw[c.out];exact⟨rfl,rfl⟩
theorem nL (g i:Nat)(s:ByteArray)(p L most:Nat)(k:Int)(w:World)(h:jm w g s p L)(d:af w i 148 #[.pointer (some ⟨g,0,none⟩)])(E:p<=s.size)(z:s.size<=100000)(B:most<=65536):
 Calls Tryz.prog 147 #[.int .i64 k,.int .i64 most,.pointer (some ⟨i,0,none⟩)] w fun e w'=>∃(n:Nat) (ok:Bool) (q:Nat),e= .returned (.tuple #[.agg #[.int .i64 k,.int .i64 n,.slice none 0 0,.int .i64 0],.bool ok])/\jm w' g s q L/\ae [g] w w'/\n7 most s p n ok q:=by
 have K:w.cell? ⟨i,0,none⟩=some (.pointer (some ⟨g,0,none⟩)):=d.cell 0;have N:=d.lt;have O:g<w.heap.size:=af.lt (show af w g _ _ from h);have C:=za (Iu g s p L most (w.alloc (.cells #[.int .i64 0,.int .i64 0,.slice none 0 0,.int .i64 0] 64)) (af.alloc (show af w g _ _ from h) _) E z B);clear h d;go_enter Tryz.func147,Tryz.ntmps147
 go_wp2_with fail
 refine C.out.mono ?_;rintro e u ⟨n,ok,q,rfl,y,j,o⟩;have b:=(af.new w 64 #[.int .i64 0,.int .i64 0,.slice none 0 0,.int .i64 0]).only j (by simp;omega);have A:=za y;have D:Hid (ae [g] w u):=za (((ae.refl [g] w).alloc _).trans j);have F:=za o;obtain⟨M,S,U,R,H,J,I,G⟩:=aL b;have hz:=((((b.set 0 (.int .i64 k)).set 1 (.int .i64 n)).set 2 (.slice none 0 0)).set 3 (.int .i64 0))
 have m:=(b.set 0 (.int .i64 k)).cell 0;have r:=((b.set 0 (.int .i64 k)).set 1 (.int .i64 n)).cell 1;have l:=(((b.set 0 (.int .i64 k)).set 1 (.int .i64 n)).set 2 (.slice none 0 0)).cell 2;have x:=hz.cell 3;simp at m r l x;clear y j o b hz;go_wp2;refine zp (v:= .tuple #[.agg #[.int .i64 k,.int .i64 n,.slice none 0 0,.int .i64 0],.bool ok]) (by simp[results,Tryz.results147,go_sem,m,r,l,x]) rfl ?_;have c:g≠w.heap.size:=by omega
 refine⟨n,ok,q,rfl, ?_,(((D.out.setCell (by simp) _).setCell (by simp) _).setCell (by simp) _).setCell (by simp) _,F.out⟩;exact(((af.dz (show af u g _ _ from A.out) (p:=⟨w.heap.size,0,none⟩) c _).dz (p:=⟨w.heap.size,1,none⟩) c _).dz (p:=⟨w.heap.size,2,none⟩) c _).dz (p:=⟨w.heap.size,3,none⟩) c _
def kb (w:World)(g:Nat)(s:ByteArray)(f L p:Nat)(e:Ending)(w':World):Prop:=
 ∃(t:Ty) (ok:Bool) (q L':Nat) (k z ta:Int) (A:Option Addr) (n cap:Nat),e= .returned (.tuple #[.agg #[.int .i64 k,.int .i64 z,.slice A n cap,.int .i64 ta],.bool ok])/\jm w' g s q L'/\ae [g] w w'/\L'<=L/\s8 f L s p t ok q L'/\(ok=true->fy w' (w.heap.size<= ·) t (.int .i64 k) (.int .i64 z) (.slice A n cap) (.int .i64 ta))
structure sI (w:World)(g:Nat)(s:ByteArray)(p L:Nat)(V:World):Prop where
 box:af V w.heap.size 148 #[.pointer (some ⟨g,0,none⟩)]
 res:af V (w.heap.size+1) 64 #[.int .i64 0,.int .i64 0,.slice none 0 0,.int .i64 0]
 rd:jm V g s p L
 only:ae [g] w V
 siz:w.heap.size+2<=V.heap.size
 glt:g<w.heap.size
theorem sI.start {w:World}{g:Nat}{s:ByteArray}{p L:Nat}(h:jm w g s p L):sI w g s p L ((w.alloc (.cells #[.pointer (some ⟨g,0,none⟩)] 148)).alloc (.cells #[.int .i64 0,.int .i64 0,.slice none 0 0,.int .i64 0] 64)) where
 box:=(af.new w _ _).alloc _
 res:=af.at_ (by simp)
 rd:=(af.alloc (show af w g _ _ from h) _).alloc _
 only:=((ae.refl _ w).alloc _).alloc _
 siz:=by simp
 glt:=af.lt (show af w g _ _ from h)
theorem sI.dC {w V V':World}{g:Nat}{s:ByteArray}{p p' L L':Nat}(h:sI w g s p L V)(b:ae [g] V V')(c:jm V' g s p' L'):sI w g s p' L' V' where
 box:=h.box.only b (by have:=h.glt;simp;omega)
 res:=h.res.only b (by have:=h.glt;simp;omega)
 rd:=c
 only:=h.only.trans b
 siz:=zP h.siz b.size
 glt:=h.glt
theorem sI.below {w V V':World}{g:Nat}{s:ByteArray}{p L:Nat}(h:sI w g s p L V)(b:Below V.heap.size V V'):sI w g s p L V':=h.dC ((ae.ah b (zi _)).mono (by simp)) ((b.block _ (af.lt (show af V g _ _ from h.rd))).trans h.rd)
theorem sI.ends {w V:World}{g:Nat}{s:ByteArray}{p L:Nat}(h:sI w g s p L V)(b c d e:Value):
 jm ((((V.setCell ⟨w.heap.size+1,0,none⟩ b).setCell ⟨w.heap.size+1,1,none⟩ c).setCell ⟨w.heap.size+1,2,none⟩ d).setCell ⟨w.heap.size+1,3,none⟩ e) g s p L/\ae [g] w ((((V.setCell ⟨w.heap.size+1,0,none⟩ b).setCell ⟨w.heap.size+1,1,none⟩ c).setCell ⟨w.heap.size+1,2,none⟩ d).setCell ⟨w.heap.size+1,3,none⟩ e)/\
 (V.setCell ⟨w.heap.size+1,0,none⟩ b).cell? ⟨w.heap.size+1,0,none⟩=some b/\((V.setCell ⟨w.heap.size+1,0,none⟩ b).setCell ⟨w.heap.size+1,1,none⟩ c).cell? ⟨w.heap.size+1,1,none⟩=some c/\(((V.setCell ⟨w.heap.size+1,0,none⟩ b).setCell ⟨w.heap.size+1,1,none⟩ c).setCell ⟨w.heap.size+1,2,none⟩ d).cell? ⟨w.heap.size+1,2,none⟩=some d/\((((V.setCell ⟨w.heap.size+1,0,none⟩ b).setCell ⟨w.heap.size+1,1,none⟩ c).setCell ⟨w.heap.size+1,2,none⟩ d).setCell ⟨w.heap.size+1,3,none⟩ e).cell? ⟨w.heap.size+1,3,none⟩=some e:=
 have n1:g≠w.heap.size+1:=by have:=h.glt;omega
 ⟨(((af.dz (show af V g _ _ from h.rd) (p:=⟨w.heap.size+1,0,none⟩) n1 _).dz (p:=⟨w.heap.size+1,1,none⟩) n1 _).dz (p:=⟨w.heap.size+1,2,none⟩) n1 _).dz (p:=⟨w.heap.size+1,3,none⟩) n1 _,(((h.only.setCell (by simp) _).setCell (by simp) _).setCell (by simp) _).setCell (by simp) _,by have:=(h.res.set 0 b).cell 0;simpa using this,by have:=((h.res.set 0 b).set 1 c).cell 1;simpa using this,by have:=(((h.res.set 0 b).set 1 c).set 2 d).cell 2;simpa using this,by have:=((((h.res.set 0 b).set 1 c).set 2 d).set 3 e).cell 3;simpa using this⟩
theorem sI.step {w W:World}{g:Nat}{s:ByteArray}{p L:Nat}(h:sI w g s p L W)(a b:Int)(n1 n2:Nat){p' L':Nat}(e:a=L')(d:b=p'):sI w g s p' L' ((((W.drewN n1).setCell ⟨g,2,none⟩ (.int .i64 a)).drewN n2).setCell ⟨g,1,none⟩ (.int .i64 b)):=by
 have i:jm (W.drewN n1) g s p L:=h.rd;have c:jm (((W.drewN n1).setCell ⟨g,2,none⟩ (.int .i64 a)).drewN n2) g s p L':=i.less e;exact h.dC (((((ae.refl [g] W).drewN n1).setCell (p:=⟨g,2,none⟩) (by simp) _).drewN n2).setCell (p:=⟨g,1,none⟩) (by simp) _) (c.to d)
theorem qd {s:ByteArray}{p:Nat}{c:UInt8}(b:p<s.size)(d:s[p].toNat=c.toNat):s.data.toList.drop p=c::s.data.toList.drop (p+1):=by
 rw[drop_cons s p b,zW.1 d]
theorem Pz {k:Int}{most f L:Nat}{s:ByteArray}{p n q:Nat}{ok:Bool}(o:0<L)(c:aK (f+1) (s.data.toList.drop p)=s7 k (cg (s.data.toList.drop (p+1))))(i:(∀d r,cg (s.data.toList.drop (p+1))=some (d,r)->most<d)->∀(L:Nat) (t:Ty) (r:List UInt8),s7 k (cg (s.data.toList.drop (p+1)))=some (t,r)->dY L t)(h:n7 most s (p+1) n ok q):s8 (f+1) L s p (.mk k n [] 0) ok q (L-1):=by
 refine⟨fun b=> ?_,fun b j r e=> ?_,h.2.2.1⟩
 ·obtain⟨l,m,u⟩:=h.1 b;exact⟨by rw[c,l];rfl,by simp[Ty.count,aZ];omega,by omega⟩
 rw[c]at e;exact i (h.2.1 b) L j r e
theorem PA (f d:Nat)(hd:d<=8)(g:Nat)(s:ByteArray)(p L:Nat)(w:World)(h:jm w g s p L)(B:p<s.size)(y:s.size<=100000)(A:0<L)(Y:L<=64)(H:s[p].toNat=98):
 Calls Tryz.prog 101 #[.pointer (some ⟨g,0,none⟩),.int .i64 d] w fun e w'=>kb w g s (f+1) L p e w':=by
 have F:Hid (aK (f+1) (s.data.toList.drop p)=s7 2 (cg (s.data.toList.drop (p+1)))):=za (by rw[qd (c:=98) B H,JY]);have j:=za (sI.start h);generalize M:((w.alloc (.cells #[.pointer (some ⟨g,0,none⟩)] 148)).alloc (.cells #[.int .i64 0,.int .i64 0,.slice none 0 0,.int .i64 0] 64))=W at*;obtain⟨g0,g1,g2,f0,f1,f2,S⟩:=j.out.rd.cells;have O:W.cell? ⟨w.heap.size,0,none⟩=some (.pointer (some ⟨g,0,none⟩)):=j.out.box.cell 0;have X:decide ((8:Int)<(d:Int))=false:=zz (by omega);have dL:((L:Int)==0)=false:=zr.2 (by omega);have R:((p:Int)==(s.size:Int))=false:=zr.2 (by omega);have U:IntKind.i64.wrap ((L:Int)-1)=(L:Int)-1:=yg _ (by omega);clear h;go_enter xX,xQ
 go_wp2_with fail
 go_quiet (fail)
 obtain⟨b,rfl⟩:∃b,b=nq:=⟨nq,rfl⟩
 go_wp2_with fail
 go_quiet (fail)
 have i:=za (j.out.step ((L:Int)-1) ((p:Int)+1) b nq (L':=L-1) (p':=p+1) (by omega) (by omega));go_wp2_with fail
 refine(nL g w.heap.size s (p+1) (L-1) 65536 2 _ i.out.rd i.out.box (by omega) y (by omega)).mono ?_;rintro e Z ⟨n,ok,q,rfl,u,o,r⟩;have m:=za (i.out.dC o u);have x:=za r;clear u o r;obtain⟨N,n1,n2,K,m0,m1,m2,m3⟩:=aL m.out.res;obtain⟨k,l,E,I,z,J⟩:=m.out.ends (.int .i64 2) (.int .i64 n) (.slice none 0 0) (.int .i64 0);have D:=za k;have G:=za l;clear k l;go_wp2;refine zp (v:= .tuple #[.agg #[.int .i64 2,.int .i64 n,.slice none 0 0,.int .i64 0],.bool ok]) (by simp[results,yC,go_sem,E,I,z,J]) rfl ?_;exact⟨.mk 2 n [] 0,ok,q,L-1,_,_,_,_,_,_,rfl,D.out,G.out,by omega,Pz A F.out abu x.out,fun C=>fy.leaf (aA (by omega) (by omega)) (aA (by omega) (by have:=(x.out.1 C).2.1;omega)) (aA (by omega) (by omega))⟩
theorem PC (f d:Nat)(hd:d<=8)(g:Nat)(s:ByteArray)(p L:Nat)(w:World)(h:jm w g s p L)(B:p<s.size)(y:s.size<=100000)(A:0<L)(Y:L<=64)(H:s[p].toNat=115):
 Calls Tryz.prog 101 #[.pointer (some ⟨g,0,none⟩),.int .i64 d] w fun e w'=>kb w g s (f+1) L p e w':=by
 have F:Hid (aK (f+1) (s.data.toList.drop p)=s7 3 (cg (s.data.toList.drop (p+1)))):=za (by rw[qd (c:=115) B H,JZ]);have j:=za (sI.start h);generalize M:((w.alloc (.cells #[.pointer (some ⟨g,0,none⟩)] 148)).alloc (.cells #[.int .i64 0,.int .i64 0,.slice none 0 0,.int .i64 0] 64))=W at*;obtain⟨g0,g1,g2,f0,f1,f2,S⟩:=j.out.rd.cells;have O:W.cell? ⟨w.heap.size,0,none⟩=some (.pointer (some ⟨g,0,none⟩)):=j.out.box.cell 0;have X:decide ((8:Int)<(d:Int))=false:=zz (by omega);have dL:((L:Int)==0)=false:=zr.2 (by omega);have R:((p:Int)==(s.size:Int))=false:=zr.2 (by omega);have U:IntKind.i64.wrap ((L:Int)-1)=(L:Int)-1:=yg _ (by omega);clear h;go_enter xX,xQ
 go_wp2_with fail
 go_quiet (fail)
 obtain⟨b,rfl⟩:∃b,b=nq:=⟨nq,rfl⟩
 go_wp2_with fail
 go_quiet (fail)
 have i:=za (j.out.step ((L:Int)-1) ((p:Int)+1) b nq (L':=L-1) (p':=p+1) (by omega) (by omega));go_wp2_with fail
 refine(nL g w.heap.size s (p+1) (L-1) 65536 3 _ i.out.rd i.out.box (by omega) y (by omega)).mono ?_;rintro e Z ⟨n,ok,q,rfl,u,o,r⟩;have m:=za (i.out.dC o u);have x:=za r;clear u o r;obtain⟨N,n1,n2,K,m0,m1,m2,m3⟩:=aL m.out.res;obtain⟨k,l,E,I,z,J⟩:=m.out.ends (.int .i64 3) (.int .i64 n) (.slice none 0 0) (.int .i64 0);have D:=za k;have G:=za l;clear k l;go_wp2;refine zp (v:= .tuple #[.agg #[.int .i64 3,.int .i64 n,.slice none 0 0,.int .i64 0],.bool ok]) (by simp[results,yC,go_sem,E,I,z,J]) rfl ?_;exact⟨.mk 3 n [] 0,ok,q,L-1,_,_,_,_,_,_,rfl,D.out,G.out,by omega,Pz A F.out abv x.out,fun C=>fy.leaf (aA (by omega) (by omega)) (aA (by omega) (by have:=(x.out.1 C).2.1;omega)) (aA (by omega) (by omega))⟩
theorem MB (f d:Nat)(hd:d<=8)(g:Nat)(s:ByteArray)(p L:Nat)(w:World)(h:jm w g s p L)(x:p<s.size)(E:s.size<=100000)(N:0<L)(NC:L<=64)(m:s[p].toNat≠117)(o:s[p].toNat≠98)(n:s[p].toNat≠115)(l:s[p].toNat≠91)(k:s[p].toNat≠123):
 Calls Tryz.prog 101 #[.pointer (some ⟨g,0,none⟩),.int .i64 d] w fun e w'=>kb w g s (f+1) L p e w':=by
 have R:((s[p].toNat:Int)==117)=false:=zr.2 (by omega);have X:((s[p].toNat:Int)==98)=false:=zr.2 (by omega);have F:((s[p].toNat:Int)==115)=false:=zr.2 (by omega);have Z:((s[p].toNat:Int)==91)=false:=zr.2 (by omega);have G:((s[p].toNat:Int)==123)=false:=zr.2 (by omega);have A:Hid (aK (f+1) (s.data.toList.drop p)=none):=za (by rw[drop_cons s p x];exact Ey f _ _ m o n l k);clear m o n l k;have b:=za (sI.start h);generalize I:((w.alloc (.cells #[.pointer (some ⟨g,0,none⟩)] 148)).alloc (.cells #[.int .i64 0,.int .i64 0,.slice none 0 0,.int .i64 0] 64))=W at*;obtain⟨g0,g1,g2,f0,f1,f2,S⟩:=b.out.rd.cells;have K:W.cell? ⟨w.heap.size,0,none⟩=some (.pointer (some ⟨g,0,none⟩)):=b.out.box.cell 0;have O:=b.out.glt;have Y:decide ((8:Int)<(d:Int))=false:=zz (by omega);have dL:((L:Int)==0)=false:=zr.2 (by omega);have M:((p:Int)==(s.size:Int))=false:=zr.2 (by omega);have U:IntKind.i64.wrap ((L:Int)-1)=(L:Int)-1:=yg _ (by omega);clear h;go_enter xX,xQ
 go_wp2_with fail
 go_quiet (fail)
 obtain⟨c,rfl⟩:∃c,c=nq:=⟨nq,rfl⟩
 go_wp2_with fail
 go_quiet (fail)
 have u:=za (b.out.step ((L:Int)-1) ((p:Int)+1) c nq (L':=L-1) (p':=p+1) (by omega) (by omega));obtain⟨J,n1,n2,H,m0,m1,m2,m3⟩:=aL b.out.res;obtain⟨i,j,z,C,q,D⟩:=u.out.ends (.int .i64 0) (.int .i64 0) (.slice none 0 0) (.int .i64 0);have y:=za i;have B:=za j;clear i j;go_wp2;refine zp (v:= .tuple #[.agg #[.int .i64 0,.int .i64 0,.slice none 0 0,.int .i64 0],.bool false]) (by simp[results,yC,go_sem,z,C,q,D]) rfl ?_;exact⟨.mk 0 0 [] 0,false,p+1,L-1,_,_,_,_,_,_,rfl,y.out,B.out,by omega,⟨(by intro h;cases h),(by intro _ t' r h;rw[A.out]at h;cases h),by omega⟩,(by intro h;cases h)⟩
theorem WM {f L:Nat}{s:ByteArray}{p n q:Nat}{ok:Bool}(m:0<L)(e:aK (f+1) (s.data.toList.drop p)=Ae (cg (s.data.toList.drop (p+1))))(h:n7 64 s (p+1) n ok q):s8 (f+1) L s p (.mk 1 ((n/8:Nat):Int) [] 0) (ok&&decide (n%8=0)) q (L-1):=by
 refine⟨fun b=> ?_,fun b k r c=> ?_,h.2.2.1⟩
 ·simp only[zF,yk]at b;obtain⟨d,i,l⟩:=h.1 b.1;exact⟨by rw[e,d,Ae,zl b.2],by simp[Ty.count,aZ];omega,by omega⟩
 rw[e]at c;cases ok with
 |false=>exact abt (h.2.1 rfl) L k r c
 |true=>
  obtain⟨d,i,l⟩:=h.1 rfl;have j:¬n%8=0:=by simpa using b
  rw[d,Ae,zj j]at c;cases c
theorem PD (f d:Nat)(hd:d<=8)(g:Nat)(s:ByteArray)(p L:Nat)(w:World)(h:jm w g s p L)(K:p<s.size)(H:s.size<=100000)(J:0<L)(NC:L<=64)(N:s[p].toNat=117):
 Calls Tryz.prog 101 #[.pointer (some ⟨g,0,none⟩),.int .i64 d] w fun e w'=>kb w g s (f+1) L p e w':=by
 have M:Hid (aK (f+1) (s.data.toList.drop p)=Ae (cg (s.data.toList.drop (p+1)))):=za (by rw[qd (c:=117) K N,JX]);have B:=za (sI.start h);generalize U:((w.alloc (.cells #[.pointer (some ⟨g,0,none⟩)] 148)).alloc (.cells #[.int .i64 0,.int .i64 0,.slice none 0 0,.int .i64 0] 64))=W at*;obtain⟨g0,g1,g2,f0,f1,f2,o7⟩:=B.out.rd.cells;have Y:W.cell? ⟨w.heap.size,0,none⟩=some (.pointer (some ⟨g,0,none⟩)):=B.out.box.cell 0;have d1:decide ((8:Int)<(d:Int))=false:=zz (by omega);have dL:((L:Int)==0)=false:=zr.2 (by omega);have Z:((p:Int)==(s.size:Int))=false:=zr.2 (by omega);have ew:IntKind.i64.wrap ((L:Int)-1)=(L:Int)-1:=yg _ (by omega);clear h;go_enter xX,xQ
 go_wp2_with fail
 go_quiet (fail)
 obtain⟨z,rfl⟩:∃z,z=nq:=⟨nq,rfl⟩
 go_wp2_with fail
 go_quiet (fail)
 have A:=za (B.out.step ((L:Int)-1) ((p:Int)+1) z nq (L':=L-1) (p':=p+1) (by omega) (by omega));go_wp2_with fail
 refine(nL g w.heap.size s (p+1) (L-1) 64 1 _ A.out.rd A.out.box (by omega) H (by omega)).mono ?_;rintro e O ⟨n,ok,q,rfl,G,F,x⟩;have u:=za (A.out.dC F G);have Dp:=za x;obtain⟨b,D⟩:∃b,n/8=b:=⟨_,rfl⟩
 have S:(n:Int)/8=b:=by omega
 have o:=za (WM J M.out x);rw[D]at o;have XH:b<=8:=by have:=x.2.2.2;omega
 clear G F x D;obtain⟨X,n1,n2,R,m0,m1,m2,m3⟩:=aL u.out.res;have Xx:=u.out.siz;have y:w.heap.size+1<O.heap.size:=by omega
 by_cases E:n%8=0
 ·have I:((n:Int)%8==0)=true:=xh.2 (by omega);rw[zH E,Zt]at o;cases ok with
  |true=>
   go_wp2;obtain⟨j,l,k,m,i,r⟩:=u.out.ends (.int .i64 1) (.int .i64 b) (.slice none 0 0) (.int .i64 0);refine zp (v:= .tuple #[.agg #[.int .i64 1,.int .i64 b,.slice none 0 0,.int .i64 0],.bool true]) (by simp[results,yC,go_sem,k,m,i,r,zE,y]) rfl ?_;exact⟨.mk 1 b [] 0,true,q,L-1,_,_,_,_,_,_,rfl,af.alloc (show af _ g _ _ from j) _,l.alloc _,by omega,o.out,fun C=>fy.leaf (aA (by omega) (by omega)) (aA (by omega) (by omega)) (aA (by omega) (by omega))⟩
  |false=>
   go_wp2;obtain⟨j,l,k,m,i,r⟩:=u.out.ends (.int .i64 1) (.int .i64 b) (.slice none 0 0) (.int .i64 0);refine zp (v:= .tuple #[.agg #[.int .i64 1,.int .i64 b,.slice none 0 0,.int .i64 0],.bool false]) (by simp[results,yC,go_sem,k,m,i,r,zE,y]) rfl ?_;exact⟨.mk 1 b [] 0,false,q,L-1,_,_,_,_,_,_,rfl,af.alloc (show af _ g _ _ from j) _,l.alloc _,by omega,o.out,fun C=>fy.leaf (aA (by omega) (by omega)) (aA (by omega) (by omega)) (aA (by omega) (by omega))⟩
 have I:((n:Int)%8==0)=false:=zr.2 (by omega);rw[zz E,Bool.and_false]at o;cases ok with
 |true=>
  go_wp2;obtain⟨j,l,k,m,i,r⟩:=u.out.ends (.int .i64 1) (.int .i64 b) (.slice none 0 0) (.int .i64 0);refine zp (v:= .tuple #[.agg #[.int .i64 1,.int .i64 b,.slice none 0 0,.int .i64 0],.bool false]) (by simp[results,yC,go_sem,k,m,i,r,zE,y]) rfl ?_;exact⟨.mk 1 b [] 0,false,q,L-1,_,_,_,_,_,_,rfl,af.alloc (show af _ g _ _ from j) _,l.alloc _,by omega,o.out,fun C=>fy.leaf (aA (by omega) (by omega)) (aA (by omega) (by omega)) (aA (by omega) (by omega))⟩
 |false=>
  go_wp2;obtain⟨j,l,k,m,i,r⟩:=u.out.ends (.int .i64 1) (.int .i64 b) (.slice none 0 0) (.int .i64 0);refine zp (v:= .tuple #[.agg #[.int .i64 1,.int .i64 b,.slice none 0 0,.int .i64 0],.bool false]) (by simp[results,yC,go_sem,k,m,i,r,zE,y]) rfl ?_;exact⟨.mk 1 b [] 0,false,q,L-1,_,_,_,_,_,_,rfl,af.alloc (show af _ g _ _ from j) _,l.alloc _,by omega,o.out,fun C=>fy.leaf (aA (by omega) (by omega)) (aA (by omega) (by omega)) (aA (by omega) (by omega))⟩
theorem Ix {o:Option (Ty×List UInt8)}{t:Ty}{r:List UInt8}(h:uK o=some (t,r)):∃x b,o=some (x,b)/\gG x b=some (t,r):=by
 match o,h with
 |some (x,b),h=>exact⟨x,b,rfl,h⟩
theorem Iy {f L b:Nat}{s:ByteArray}{p q d:Nat}{x y:Ty}(m:0<L)(j:aK (f+1) (s.data.toList.drop p)=uK (aK f (s.data.toList.drop (p+1))))(h:s8 f (L-1) s (p+1) x false q b)(i:d<=s.size):s8 (f+1) L s p y false d b:=by
 refine⟨(by intro h;cases h),fun _ o r c=> ?_,i⟩;rw[j]at c;obtain⟨z,l,k,e⟩:=Ix c;obtain⟨n,rfl⟩:=LY e;have:=(h.2.1 rfl z l k).list n;rwa [show 1+(L-1)=L from by omega]at this
theorem oR {f L k l:Nat}{s:ByteArray}{p q d:Nat}{x y:Ty}(i:aK (f+1) (s.data.toList.drop p)=uK (aK f (s.data.toList.drop (p+1))))(h:s8 f (L-1) s (p+1) x true q k)(j:∀b r,gG x (s.data.toList.drop q)=some (b,r)->dY L b)(e:d<=s.size):s8 (f+1) L s p y false d l:=by
 refine⟨(by intro h;cases h),fun _ b r c=> ?_,e⟩;rw[i,(h.1 rfl).1]at c;exact j b r c
theorem Iz {f L c:Nat}{s:ByteArray}{p q b n:Nat}{x:Ty}(l:0<L)(e:aK (f+1) (s.data.toList.drop p)=uK (aK f (s.data.toList.drop (p+1))))(h:s8 f (L-1) s (p+1) x true q c)(i:gG x (s.data.toList.drop q)=some (.mk 4 n [x] 0,s.data.toList.drop b))(m:q<b)(d:b<=s.size):s8 (f+1) L s p (.mk 4 n [x] 0) true b c:=by
 obtain⟨j,k,o⟩:=h.1 rfl;refine⟨fun _=>⟨by rw[e,j];exact i, ?_,by omega⟩,(by intro h;cases h),d⟩;simp only[Ty.count,aZ];omega
theorem PF {s:ByteArray}{q:Nat}(x:Ty)(h:∀c:q<s.size,s[q].toNat≠58)(L:Nat):∀d r,gG x (s.data.toList.drop q)=some (d,r)->dY L d:=by
 intro d r b;by_cases c:q<s.size
 ·rw[drop_cons s q c,uL x _ _ (h c)]at b;cases b
 rw[zR (by simpa using c)]at b;cases b
theorem tail_at {s:ByteArray}{q:Nat}(x:Ty)(b:q<s.size)(h:s[q].toNat=58):gG x (s.data.toList.drop q)=iL x (cg (s.data.toList.drop (q+1))):=by
 rw[drop_cons s q b,show s[q]=58 from zW.1 h,mD]
theorem PG {s:ByteArray}{q n i:Nat}(x:Ty)(e:q<s.size)(h:s[q].toNat=58)(d:n7 1024 s (q+1) n false i)(L:Nat):∀b r,gG x (s.data.toList.drop q)=some (b,r)->dY L b:=by
 intro b r c;rw[tail_at x e h]at c;exact LW (d.2.1 rfl) L x b r c
theorem MC {s:ByteArray}{q n c:Nat}(x:Ty)(j:q<s.size)(h:s[q].toNat=58)(k:n7 1024 s (q+1) n true c)(l:∀j:c<s.size,s[c].toNat≠93)(L:Nat):∀e r,gG x (s.data.toList.drop q)=some (e,r)->dY L e:=by
 intro e r b;rw[tail_at x j h,(k.1 rfl).1]at b;by_cases d:c<s.size
 ·rw[drop_cons s c d,iL]at b;split at b
  ·rename_i i
   exact absurd (by first|exact i|simpa using i|(rw[i];rfl)) (l d)
  cases b
 rw[zR (by simpa using d)]at b;cases b
theorem PH {s:ByteArray}{q n b:Nat}(x:Ty)(i:q<s.size)(h:s[q].toNat=58)(e:n7 1024 s (q+1) n true b)(d:b<s.size)(c:s[b].toNat=93):gG x (s.data.toList.drop q)=some (.mk 4 n [x] 0,s.data.toList.drop (b+1)):=by
 rw[tail_at x i h,(e.1 rfl).1,drop_cons s b d,iL,zl (by first|exact c|exact zW.1 c)]
theorem BU (f:Nat){s:ByteArray}{q:Nat}(h:s.size<=q):aK f (s.data.toList.drop q)=none:=by
 rw[zR (by simpa using h)];cases f<;>rfl
theorem qZ.gone {f:Nat}{s:ByteArray}{R:Option (Ty×List UInt8)}{q:Nat}{acc:List Ty}{c:Nat}(d:R=none)(h:s.size<=q):qZ f s R q acc c:=by
 refine⟨0, ?_,by rw[zR (by simpa using h)];simp⟩;subst d;have hi:=BU f h;rw[zR (by simpa using h)]at hi⊢;by_cases b:0<c
 ·simp[tQ,b]
 simp[tQ,b,hi]
theorem IA {f:Nat}{s:ByteArray}{R:Option (Ty×List UInt8)}{p:Nat}(h:eL f s R p [] 0)(c:∀b:p<s.size,s[p].toNat≠125):qZ f s R p [] 0:=by
 by_cases b:p<s.size
 ·exact h.first b (c b)
 exact qZ.gone (h.stop (by omega)) (by omega)
theorem BV {f:Nat}{s:ByteArray}{R:Option (Ty×List UInt8)}{p:Nat}{acc:List Ty}{i:Nat}(h:eL f s R p acc i)(d:acc≠ [])(e:∀b:p<s.size,s[p].toNat≠125)(c:∀b:p<s.size,s[p].toNat≠44):R=none:=by
 by_cases b:p<s.size
 ·exact h.bad b (e b) (c b) d
 exact h.stop (by omega)
theorem Kw {f L L':Nat}{s:ByteArray}{R:Option (Ty×List UInt8)}{q b:Nat}{acc:List Ty}{e:Nat}{y:Ty}(h:OO f s R q acc e)(i:q<=s.size)(d:s8 f L s q y true b L'):eL f s R b (acc++ [y]) e:=by
 obtain⟨j,_,_⟩:=d.1 rfl;have c:=(h.some i j).1;rw[zZ,aa,show s.size-(s.size-b)=b from by have:=d.2.2;omega]at c;exact c
theorem sJ (acc:List Ty)(y:Ty):aZ (acc++ [y])=aZ acc+y.count:=by simp[fH,aZ]
theorem IB {L b:Nat}{s:ByteArray}{R:Option (Ty×List UInt8)}{q:Nat}{acc:List Ty}{c:Nat}(e:R=some (.mk 5 0 acc c,s.data.toList.drop q))(i:L+aZ acc=b)(d:q<=s.size):OR (1+b) s R (.mk 5 0 acc c) true q L:=
 ⟨fun _=>⟨e,by simp[Ty.count];omega⟩,(by intro h;cases h),d⟩
theorem C1 {L b:Nat}{s:ByteArray}{R:Option (Ty×List UInt8)}{q:Nat}(t:Ty)(d:R=none)(c:q<=s.size):OR b s R t false q L:=
 ⟨(by intro h;cases h),(by intro _ e r h;rw[d]at h;cases h),c⟩
theorem PI {f L b i:Nat}{s:ByteArray}{R:Option (Ty×List UInt8)}{q d L':Nat}{acc:List Ty}{j:Nat}{y:Ty}(t:Ty)(h:OO f s R q acc j)(c:s8 f L s q y false d L')(l:L+aZ acc=b):OR (1+b) s R t false d i:=by
 refine⟨(by intro h;cases h),fun _ k r e=> ?_,c.2.2⟩;have:=SS h (c.2.1 rfl) k r e;rwa [show 1+aZ acc+L=1+b from by omega]at this
theorem PJ {f:Nat}{s:ByteArray}{p:Nat}(b:p<s.size)(d:s[p].toNat=123):eL f s (aK (f+1) (s.data.toList.drop p)) (p+1) [] 0:=
 ⟨_,by rw[qd (c:=123) b d,J1],by omega⟩
theorem abE {f L L':Nat}{s:ByteArray}{p q:Nat}{t:Ty}{ok:Bool}(h:OR L s (aK f (s.data.toList.drop p)) t ok q L'):s8 f L s p t ok q L':=by
 refine⟨fun e=> ?_,h.2.1,h.2.2⟩;obtain⟨b,d⟩:=h.1 e;have c:=(gh _ _ _ _ b).2;simp only[zZ,aa]at c;exact⟨b,d,by have:=h.2.2;omega⟩
theorem sK (s:ByteArray)(k:Nat)(h:k<=s.size):s.size-(s.data.toList.drop k).length=k:=by rw[zZ,aa];omega
theorem C2 (x:Int)(c: -9223372036854775808<=x)(b:x<=9223372036854775807):wrap64 x=x:=by unfold wrap64;omega
theorem PK (m b:Nat)(h:m<1000000)(d:48<=b)(c:b<=57):wrap64 (wrap64 (wrap64 (10*(m:Int))+wrap64 (b:Int))-48)=((10*m+(b-48):Nat):Int):=by
 rw[C2 (10*(m:Int)) (by omega) (by omega),C2 (b:Int) (by omega) (by omega),C2 (10*(m:Int)+b) (by omega) (by omega),C2 _ (by omega) (by omega)];omega
def ef (s:ByteArray):Option (Nat×List UInt8)->Ending
 |none=> .returned (.tuple #[.int .i64 0,.int .i64 (-1)])
 |some (n,r)=> .returned (.tuple #[.int .i64 n,.int .i64 ((s.size-r.length:Nat):Int)])
theorem oS (s:ByteArray)(at_:Nat)(w:World)(H:at_<=s.size)(N:s.size<=100000):
 Calls Tryz.prog 53 #[.string s,.int .i64 at_] w fun e w'=>e=ef s (cg (s.data.toList.drop at_))/\w=w':=by
 obtain⟨R,d⟩:∃R,Hid (ef s (cg (s.data.toList.drop at_))=R):=⟨_,za rfl⟩
 rw[d.out];go_enter Tryz.func53,Tryz.ntmps53
 go_wp2_with fail
 go_loop [6,1] (fun n i=>∃k m:Nat,at_<=k/\k<=s.size/\m<=10000100/\Hid (kP s at_ k m)/\n= .int .i64 m/\i= .int .i64 k) (fun _ i=>s.size-(intOf i).toNat)
 case atStart=>exact⟨at_,0,by omega,H,by omega,za (kP.start s at_),rfl,rfl⟩
 case round=>
  obtain⟨k,m,O,p,x,hrel,rfl,rfl⟩:=hrel;by_cases D:k<s.size
  ·by_cases y:48<=s[k].toNat
   ·by_cases r:s[k].toNat<=57
    ·have C:=za (hrel.out.next D ((kO _).2 ⟨y,r⟩));have B:=za (uM m s[k] x r);have z:decide ((48:Int)<=(s[k].toNat:Int))=true:=zH (by omega);have o:decide ((s[k].toNat:Int)<=57)=true:=zH (by omega);have K:=za y;have L:=za r;clear y r;by_cases q:m<1000000
     ·have u:Hid (fo m s[k]=10*m+(s[k].toNat-48)):=za (by simp[fo,q]);have F:decide ((m:Int)<1000000)=true:=zH (by omega);have I:=za q;clear q x;go_wp2_with fail
      go_round
      case rel=>exact⟨k+1,fo m s[k],by omega,by omega,B.out,C,by rw[u.out];have M:=K.out;have J:=L.out;have G:=I.out;rw[PK m s[k].toNat G M J],by go_num⟩
      case measure=>simp[intOf];omega
     have u:Hid (fo m s[k]=m):=za (by simp[fo,q]);have F:decide ((m:Int)<1000000)=false:=zz (by omega);clear q x;go_wp2_with fail
     go_round
     case rel=>exact⟨k+1,fo m s[k],by omega,by omega,B.out,C,by rw[u.out],by go_num⟩
     case measure=>simp[intOf];omega
    have j:Hid (∀h:k<s.size,iU s[k]=false):=za (fun h=>by simp[iU];omega);have z:decide ((s[k].toNat:Int)<=57)=false:=zz (by omega);rcases(show k=at_\/at_<k from by omega)with rfl|hak
    ·have b:Hid (R= .returned (.tuple #[.int .i64 0,.int .i64 (-1)])):=za (by rw[<-d.out,nD j.out];rfl);go_wp2;all_goals
      go_ret2
      exact⟨by rw[b.out];rfl,rfl⟩
    have E:at_<s.size:=(hrel.out.2 at_ (by omega) hak).1;have A:((k:Int)==(at_:Int))=false:=zr.2 (by omega);by_cases c:s[at_].toNat=48
    ·have o:((s[at_].toNat:Int)==48)=true:=by simp[c]
     by_cases l:at_+1<k
     ·have b:Hid (R= .returned (.tuple #[.int .i64 0,.int .i64 (-1)])):=za (by rw[<-d.out,nE hrel.out l (fun _=>c)];rfl);clear c;go_wp2;all_goals
       go_ret2
       exact⟨by rw[b.out];rfl,rfl⟩
     have b:Hid (R= .returned (.tuple #[.int .i64 m,.int .i64 k])):=za (by rw[<-d.out,j4 hrel.out hak j.out (fun h=>absurd h l)];simp only[ef,sK s k p]);clear c;go_wp2;all_goals
      go_ret2
      exact⟨by rw[b.out];rfl,rfl⟩
    have o:((s[at_].toNat:Int)==48)=false:=zr.2 (by omega);have b:Hid (R= .returned (.tuple #[.int .i64 m,.int .i64 k])):=za (by rw[<-d.out,j4 hrel.out hak j.out (fun _ _=>c)];simp only[ef,sK s k p]);clear c;go_wp2;all_goals
     go_ret2
     exact⟨by rw[b.out];rfl,rfl⟩
   have j:Hid (∀h:k<s.size,iU s[k]=false):=za (fun h=>by simp[iU];omega);have z:decide ((48:Int)<=(s[k].toNat:Int))=false:=zz (by omega);rcases(show k=at_\/at_<k from by omega)with rfl|hak
   ·have b:Hid (R= .returned (.tuple #[.int .i64 0,.int .i64 (-1)])):=za (by rw[<-d.out,nD j.out];rfl);go_wp2;all_goals
     go_ret2
     exact⟨by rw[b.out];rfl,rfl⟩
   have E:at_<s.size:=(hrel.out.2 at_ (by omega) hak).1;have A:((k:Int)==(at_:Int))=false:=zr.2 (by omega);by_cases c:s[at_].toNat=48
   ·have o:((s[at_].toNat:Int)==48)=true:=by simp[c]
    by_cases l:at_+1<k
    ·have b:Hid (R= .returned (.tuple #[.int .i64 0,.int .i64 (-1)])):=za (by rw[<-d.out,nE hrel.out l (fun _=>c)];rfl);clear c;go_wp2;all_goals
      go_ret2
      exact⟨by rw[b.out];rfl,rfl⟩
    have b:Hid (R= .returned (.tuple #[.int .i64 m,.int .i64 k])):=za (by rw[<-d.out,j4 hrel.out hak j.out (fun h=>absurd h l)];simp only[ef,sK s k p]);clear c;go_wp2;all_goals
     go_ret2
     exact⟨by rw[b.out];rfl,rfl⟩
   have o:((s[at_].toNat:Int)==48)=false:=zr.2 (by omega);have b:Hid (R= .returned (.tuple #[.int .i64 m,.int .i64 k])):=za (by rw[<-d.out,j4 hrel.out hak j.out (fun _ _=>c)];simp only[ef,sK s k p]);clear c;go_wp2;all_goals
    go_ret2
    exact⟨by rw[b.out];rfl,rfl⟩
  have j:Hid (∀h:k<s.size,iU s[k]=false):=za (fun h=>absurd h D);rcases(show k=at_\/at_<k from by omega)with rfl|hak
  ·have b:Hid (R= .returned (.tuple #[.int .i64 0,.int .i64 (-1)])):=za (by rw[<-d.out,nD j.out];rfl);go_wp2;all_goals
    go_ret2
    exact⟨by rw[b.out];rfl,rfl⟩
  have E:at_<s.size:=(hrel.out.2 at_ (by omega) hak).1;have A:((k:Int)==(at_:Int))=false:=zr.2 (by omega);by_cases c:s[at_].toNat=48
  ·have o:((s[at_].toNat:Int)==48)=true:=by simp[c]
   by_cases l:at_+1<k
   ·have b:Hid (R= .returned (.tuple #[.int .i64 0,.int .i64 (-1)])):=za (by rw[<-d.out,nE hrel.out l (fun _=>c)];rfl);clear c;go_wp2;all_goals
     go_ret2
     exact⟨by rw[b.out];rfl,rfl⟩
   have b:Hid (R= .returned (.tuple #[.int .i64 m,.int .i64 k])):=za (by rw[<-d.out,j4 hrel.out hak j.out (fun h=>absurd h l)];simp only[ef,sK s k p]);clear c;go_wp2;all_goals
    go_ret2
    exact⟨by rw[b.out];rfl,rfl⟩
  have o:((s[at_].toNat:Int)==48)=false:=zr.2 (by omega);have b:Hid (R= .returned (.tuple #[.int .i64 m,.int .i64 k])):=za (by rw[<-d.out,j4 hrel.out hak j.out (fun _ _=>c)];simp only[ef,sK s k p]);clear c;go_wp2;all_goals
   go_ret2
   exact⟨by rw[b.out];rfl,rfl⟩
def lU (s:ByteArray)(w:World)(R:Option (Ty×List UInt8))(e:Ending)(w':World):Prop:=
 Below w.heap.size w w'/\match R with
  |none=>∃v0 v1:Int,e= .returned (.tuple #[.agg #[.int .i64 v0,.int .i64 v1,.slice none 0 0,.int .i64 0],.int .i64 (-1)])
  |some (x,r)=>∃c0 c1 c2 c3,e= .returned (.tuple #[.agg #[c0,c1,c2,c3],.int .i64 (s.size-r.length:Nat)])/\fy w' (w.heap.size<= ·) x c0 c1 c2 c3
theorem BW (f:Nat):aK f []=none:=by cases f<;>rfl
theorem C3 (X:World)(t:TypeId)(b:Array Value)(n:Nat)(h:X.heap.size=n):af (X.alloc (.cells b t)) n t b:=by subst h;exact af.new X t b
def bG (v0 v1:Int):Value:= .tuple #[.agg #[.int .i64 v0,.int .i64 v1,.slice none 0 0,.int .i64 0],.int .i64 (-1)]
