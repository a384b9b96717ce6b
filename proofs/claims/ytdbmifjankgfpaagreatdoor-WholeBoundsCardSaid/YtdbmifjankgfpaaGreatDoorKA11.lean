/- sha.Pad: the padding behind n bytes. -/
import Derived.Test.YtdbmifjankgfpaaGreatDoorKA7
set_option linter.all false
set_option maxRecDepth 100000
set_option maxHeartbeats 4000000
open Go.Proofs.Tryz
namespace Go.Proofs.YtdbmifjankgfpaaGreatDoor
open Go.RowKit
variable {m n k:Nat}{s:ByteArray}{w w':World}
def zq:=@World.size_alloc
def yS:=@beq_iff_eq
def xa:=@ntmps216
def xq:=@func216
def xy:=@IntWalk.u64_in
def ZB:=@wpList_make_own
theorem jS (n sz:Nat)(w:World)(h:n<2^(8*sz))(k:1<=sz)(b:sz<=8):
 Calls prog 97 #[.int .u64 n,.int .i64 sz] w fun e w'=>e= .returned (.tuple #[.string ⟨(jF n sz).toArray⟩,.int .i64 0])/\Below w.heap.size w w':=by
 have o:=le_pow sz b;have j:=za (TN n sz w h k b);have m:=za (Fj n sz w (by omega) b);clear h o;go_enter func97,ntmps97
 go_wp2_with fail
 refine j.out.mono ?_;rintro e w' ⟨rfl,rfl⟩;go_wp2_with fail
 refine m.out.mono ?_;rintro e w' ⟨rfl,d,c⟩;have i:=bF.str (P:=prog) (l:=jF n sz) (A:=some ⟨w.heap.size,0,none⟩) (cap:=sz) zt yw zN (by rw[bd];exact d);rw[bd]at i;have p:=c.below;clear d c;go_wp2;go_ret2
 exact⟨rfl,p⟩
theorem TR (n b k:Nat)(e:b<256)(j:k<8)(c:n<2^(8*k)):
 bits .or .u64 (n:Int) (IntKind.u64.wrap (IntKind.u64.wrap (b:Int)*2^(8*k)))=((n+b*2^(8*k):Nat):Int):=by
 have h:=le_step n b k e c;have i:=le_pow (k+1) (by omega);have d:(b:Int)*2^(8*k)=((b*2^(8*k):Nat):Int):=by simp
 rw[xy (b:Int) (by omega),d,xy _ (by omega),u64_or_nat _ _ (by omega) (by omega),Vb _ _ _ c]
theorem eo (s:ByteArray)(w:World)(o:0<s.size)(l:s.size<=8):
 Calls prog 94 #[.string s] w fun e w'=>e= .returned (.tuple #[.int .u64 (dh s.data.toList),.int .i64 0])/\w=w':=by
 have hz:((s.size:Int)==0)=false:=zo.2 (by omega);go_enter func94,ntmps94
 go_wp2;go_loop [5,15] (fun n i=>∃k m:Nat,k<=s.size/\Hid (m=dh (s.data.toList.take k))/\n= .int .u64 m/\i= .int .i64 k) (fun _ i=>s.size-(intOf i).toNat)
 case atStart=>exact⟨0,0,by omega,rfl,rfl,rfl⟩
 case round=>
  obtain⟨k,m,c,b,rfl,rfl⟩:=hrel;by_cases h:k<s.size
  ·go_wp2;have j:=s[k].toNat_lt;have d:=jK (s.data.toList.take k);rw[length_take s k c,<-b.out]at d;have e:=TR m s[k].toNat k j (by omega) d;go_round
   case rel=>
    refine⟨k+1,_,by omega,za rfl, ?_,by go_num⟩;rw[jC s k h,OP,length_take s k c,<-b.out,<-e]
   case measure=>simp[intOf];omega
  go_wp2;go_ret2
  exact⟨Fk rfl (by rw[b.out,zz (by simp;omega)]),rfl⟩
theorem nB (s:ByteArray)(w:World)(b:s.size=0):
 Calls prog 94 #[.string s] w fun e w'=>e= .returned (.tuple #[.int .u64 0,.int .i64 1])/\w=w':=by
 go_enter func94,ntmps94
 go_wp2;go_ret2
 exact⟨rfl,rfl⟩
theorem PR (m k d:Nat)(h:8*k+d=56):(#[Value.int .u8 ((m:Int)/2^d%256)]:Array Value).toList=cb [UInt8.ofNat (m/2^(56-8*k))]:=by
 have hd:56-8*k=d:=by omega
 rw[hd];simp[cb]
theorem abM (n:Nat)(w:World)(hn:n<=100000):
 Calls prog 191 #[.int .i64 n] w fun e w'=>e= .returned (.tuple #[.string (iS n),.int .i64 0])/\Below w.heap.size w w':=by
 obtain⟨i0,hi,q,C,y⟩:=yH ph;have o:Hid (iS n=⟨((128::List.replicate (dS n) 0)++fM (n*8)).toArray⟩):=za rfl;have hz:=sI n;have Z:Hid (dS n=(64-(n+9)%64)%64):=za rfl;obtain⟨z,l⟩:∃z,dS n=z:=⟨_,rfl⟩
 have aa:=za l;rw[l]at hz;obtain⟨m,p⟩:∃m,1+z=m:=⟨_,rfl⟩
 obtain⟨c,hc⟩:∃c,m+8=c:=⟨_,rfl⟩
 have e1:(64-((n:Int)+9)%64)%64=(z:Int):=by have:=Z.out;omega
 have e2:(1:Int)+(z:Int)=(m:Int):=by omega
 have e3:(m:Int)+8=(c:Int):=by omega
 have Y:m<=c:=by omega
 have M:=za p;clear l p hc;have d1:decide ((n:Int)<0)=false:=zv (by omega);have d2:decide ((1099511627776:Int)<n)=false:=zv (by omega);go_enter func191,ntmps191
 go_wp2_with (at_make;refine mq _ (by rfl) _ _ 31 (by rfl) w.heap.size 5 i0 zt hi q C y .i64 .i64 m c (by rfl) (by rfl) Y (by omega) (zg _) ?_;intro N h F O;obtain⟨W,f0,g0,g1⟩:=h.at_ (k:=0) (by simp;omega))
 have I:Hid (bF (N.setCell ⟨w.heap.size,0,none⟩ (.int .u8 128)) w.heap.size 5 (.slice (some ⟨w.heap.size,0,none⟩) m c) ((128::List.replicate z 0)++(fM (n*8)).take 0)):=za (by
  have:=h.set (k:=0) (by simp;omega) 128;have e:(List.replicate m (0:UInt8)).set 0 128=(128::List.replicate z 0)++(fM (n*8)).take 0:=by
   rw[<-M.out,Zn 1 z,ZG,zd];simp
  rw[e]at this;exact this)
 obtain⟨ad,fr,x,_⟩:=h.block;have VJ:=za (F.store (k:=0) x (zg _) (.int .u8 128));rw[aa.out]at o;clear x h F O W f0;go_loopw [5,26] (fun v i wr=>∃k:Nat,k<=8/\i= .int .i64 k/\bF wr w.heap.size 5 v ((128::List.replicate z 0)++(fM (n*8)).take k)/\Kept 5 w.heap.size w wr) (fun _ i _=>8-(intOf i).toNat)
 case atStart=>exact⟨0,by omega,rfl,I.out,VJ.out⟩
 case round=>
  obtain⟨k,hk,rfl,b,j⟩:=hrel;obtain⟨A,L,cap,rfl,hL,ab,so⟩:=b.cF;have r:=za j;have eX:=j.size;clear j;by_cases J:k<8
  ·obtain⟨d,hd⟩:∃d,56-8*k=d:=⟨_,rfl⟩
   have K:8*k+d=56:=by omega
   have e4:(56:Int)-8*(k:Int)=(d:Int):=by omega
   have E:=za (PR (n*8) k d K);have Re:((128::List.replicate z (0:UInt8))++(fM (n*8)).take k).length<=100:=by simp[iJ];omega
   have U:Hid (((128::List.replicate z (0:UInt8))++(fM (n*8)).take k)++ [UInt8.ofNat (n*8/2^(56-8*k))]=(128::List.replicate z 0)++(fM (n*8)).take (k+1)):=za (by rw[Eo _ _ J,zE]);generalize ((128::List.replicate z (0:UInt8))++(fM (n*8)).take k)=LL at*;generalize UInt8.ofNat (n*8/2^(56-8*k))=s at*;simp only[Int.natCast_mul]at E;clear hd;go_wp2_with (at_builtin;refine aP (by rfl) (.tmp 29) (.tmp 38) 31 31 (by rfl) w.heap.size 5 i0 zt hi q C y (by rfl) (b.alloc _) _ [s] (by rfl) (ud zt _ 5 _ [s] 1 _ (by rfl) E.out) (by simp only[zq];omega) (by simp;omega) ?_;intro A3 n3 qP w3 H B;have R:=za H;have S:=za ((r.out.alloc (by omega) _).trans B);clear H B b)
   go_roundw
   case rel=>exact⟨k+1,by omega,by go_num,by rw[<-U.out];exact R.out,S.out⟩
   case measure=>simp[intOf];omega
  have D:(fM (n*8)).take k=fM (n*8):=zz (by rw[iJ];omega);rw[D]at b;have u:=b.Ex (P:=prog) zt yw zN;rw[<-o.out]at u;clear b D o;obtain⟨X,G⟩:∃X,Hid (iS n=X):=⟨_,za rfl⟩
  rw[G.out]at u;go_wp2;go_ret2
  exact⟨by rw[G.out];rfl,r.out.below⟩
theorem rP :(prog.info? 5).map (fun i=>(i.zero,i.size,i.bytes))=some (some (.int .u8 0),1,1):=by kernel_rfl
theorem abN :∀x:Fin 256,x.val|||128=x.val%128+128:=by decide+kernel
theorem WT (m:Nat):bits .or .u8 ((m:Int)%256) 128=((m%128+128:Nat):Int):=by
 have h:=u8_or_nat (m%256) 128 (by omega) (by omega);have b:=abN ⟨m%256,by omega⟩;simp only at b;rw[b,show m%256%128=m%128 from by omega]at h;rw[<-h];rfl
theorem qq {pre:List UInt8}(h:pre++aR m=aR n)(b:128<=m):(pre++ [ub (m%128+128:Nat)])++aR (m/128)=aR n:=by
 rw[<-h,jE (n:=m) (by omega)];simp
theorem C4 {pre:List UInt8}(h:pre++aR m=aR n)(b:¬128<=m):pre++ [ub (m:Nat)]=aR n:=by
 rw[<-h,iq (n:=m) (by omega)]
theorem IE {pre:List UInt8}(h:pre++aR m=aR n)(e:n<18446744073709551616):pre.length<10:=by
 have c:=bA 10 n (by omega) (by omega);have d:=Ey m;have b:=xo List.length h;simp only[zl]at b;omega
def WU (n:Nat)(w:World)(b:Value)(x:Value)(wr:World):Prop:=
 ∃(m:Nat) (pre:List UInt8),pre++aR m=aR n/\m<18446744073709551616/\pre.length<10/\x= .int .u64 m/\bF wr w.heap.size 5 b pre/\Kept 5 w.heap.size w wr
theorem vB (n:Nat)(w:World)(C:n<18446744073709551616):
 Calls prog 111 #[.int .u64 n] w fun e w'=>e= .returned (.string ⟨(aR n).toArray⟩)/\Below w.heap.size w w':=by
 obtain⟨i0,hi,h,o,l⟩:=yH rP;go_enter func111,ntmps111
 go_wp2_with (at_make;refine ZB _ rfl _ _ 31 rfl w.heap.size 5 i0 (.int .u8 0) 1 zt hi h o .i64 .i64 _ 10 rfl rfl (by omega) (by rw[l];omega) (by simp only[maxLen];omega) (by omega) ?_;intro y u s)
 have z:bF y w.heap.size 5 (.slice (some ⟨w.heap.size,0,none⟩) 0 10) []:=bF.own u;have B:Kept 5 w.heap.size w y:=Kept.J8 s (zg _);clear u s;go_loopw [3,0] (fun b x wr=>WU n w b x wr) (fun _ x _=>(intOf x).toNat)
 case atStart=>exact⟨n,[],rfl,C,by simp,rfl,z,B⟩
 case round=>
  obtain⟨m,pre,r,I,K,rfl,q,k⟩:=hrel;have j:=za r;have L:=k.size;obtain⟨A,cap,rfl,J,N⟩:=q.form;clear r z B;by_cases p:128<=m
  ·go_wp2_with (at_builtin;refine aP (by rfl) (.tmp 7) (.tmp 11) 31 31 (by rfl) w.heap.size 5 i0 zt hi h o l (by rfl) (q.alloc _) _ [ub (m%128+128:Nat)] (by rfl) (kn zt wr 5 _ [ub (m%128+128:Nat)] 1 (o5 (WT m) (by omega))) (by rw[zq];omega) (by simp only[zx,zJ];omega) ?_)
   intro D F G H c d;have E:=za c;have i:=za ((k.alloc (by omega) _).trans d);clear c d;go_wp2;go_roundw
   case rel=>exact⟨m/128,_,qq j.out p,by omega,IE (qq j.out p) C,by go_num,E.out,i.out⟩
   case measure=>simp[intOf];omega
  go_wp2_with (at_builtin;refine aP (by rfl) (.tmp 15) (.tmp 18) 31 31 (by rfl) w.heap.size 5 i0 zt hi h o l (by rfl) (q.alloc _) _ [ub (m:Nat)] (by rfl) (kn zt wr 5 _ [ub (m:Nat)] 1 (o5 rfl (by omega))) (by rw[zq];omega) (by simp only[zx,zJ];omega) ?_)
  intro D F G H c d;rw[C4 j.out p]at c;have i:=za ((k.alloc (by omega) _).trans d);have M:=c.Ex (P:=prog) zt yw zN;clear d c;go_wp2;go_ret;exact⟨rfl,i.out.below⟩
theorem vC (m b k:Nat)(j:b<256)(d:k<=9)(c:m<2^(7*k))(e:¬((k=9/\1<b)\/(0<k/\b=0))):
 bits .or .u64 (m:Int) (IntKind.u64.wrap (IntKind.u64.wrap (bits .and .u8 (b:Int) 127)*2^(7*k)))=((m+b%128*2^(7*k):Nat):Int):=by
 have h:bits .and .u8 (b:Int) 127=((b%128:Nat):Int):=by
  have:=u8_and_nat b 127 j (by omega);rw[nat_mask7]at this;exact this
 have l:=Ei m b k d c e;have n:=J5 k d;have i:((b%128:Nat):Int)*2^(7*k)=((b%128*2^(7*k):Nat):Int):=by simp
 rw[h,xy ((b%128:Nat):Int) (by omega),i,xy _ (by omega),u64_or_nat _ _ (by omega) (by omega),Wy _ _ _ c]
theorem ui {a b:Nat}{c:Int}{x:Nat×Nat×Int}{v:Int}(h:x=(a,b,c))(d:v=(a:Int)):Ending.returned (.tuple #[.int .u64 v,.int .i64 b,.int .i64 c])= .returned (.tuple #[.int .u64 x.1,.int .i64 x.2.1,.int .i64 x.2.2]):=by
 subst h;subst d;rfl
theorem PT {x:Nat×Nat×Int}(c:k<s.size)(h:k<=8)(e:cq s (10-k) k m=x)(d:¬((k=9/\1<s[k].toNat)\/(0<k/\s[k].toNat=0)))(b:¬s[k].toNat<128):
 cq s (10-(k+1)) (k+1) (m+s[k].toNat%128*2^(7*k))=x:=by
 rw[<-e,show 10-k=(10-(k+1))+1 from by omega,ik s _ k m c d b]
theorem Fo {x:Nat×Nat×Int}(c:k<s.size)(h:k<=9)(e:cq s (10-k) k m=x)(d:¬((k=9/\1<s[k].toNat)\/(0<k/\s[k].toNat=0)))(b:s[k].toNat<128):
 x=(m+s[k].toNat%128*2^(7*k),k+1,0):=by
 rw[<-e,show 10-k=(9-k)+1 from by omega,ij s _ k m c d b]
theorem WV {x:Nat×Nat×Int}(c:k<s.size)(e:k<=9)(b:cq s (10-k) k m=x)(d:(k=9/\1<s[k].toNat)\/(0<k/\s[k].toNat=0)):x=(0,0,3):=by
 rw[<-b,show 10-k=(9-k)+1 from by omega,kW s _ k m c d]
theorem PU {x:Nat×Nat×Int}(e:k<=s.size)(d:¬(k<s.size/\k<10))(c:k<=10)(b:cq s (10-k) k m=x):x=(0,0,2):=by
 rw[<-b];rcases xG k 10 with h|h
 ·exact jD s _ k m (by omega)
 rw[show 10-k=0 from by omega];rfl
theorem PV (k b:Nat)(c:k<10):
 (((k=9/\1<b)\/(0<k/\b=0))/\((((k:Int)==9)=true/\1<b)\/(((k:Int)==9)=true/\b<=1/\0<k/\((b:Int)==0)=true)\/(((k:Int)==9)=false/\0<k/\((b:Int)==0)=true)))\/
 ((¬((k=9/\1<b)\/(0<k/\b=0)))/\((((k:Int)==9)=true/\b<=1/\0<k/\((b:Int)==0)=false)\/(((k:Int)==9)=false/\0<k/\((b:Int)==0)=false/\k<=8)\/(((k:Int)==9)=false/\k<=0))):=by
 simp only[yS,yb,xj,zo,ne_eq];omega
theorem rQ (s:ByteArray)(w:World)(B:s.size<=9223372036854775807):
 Calls prog 115 #[.string s] w fun e w'=>e= .returned (.tuple #[.int .u64 (ay s).1,.int .i64 (ay s).2.1,.int .i64 (ay s).2.2])/\w=w':=by
 by_cases A:s.size<=10;all_goals
  go_enter func115,ntmps115
  go_wp2;go_loop [5,11] (fun n i=>∃k m:Nat,k<=10/\k<=s.size/\Hid (m<2^(7*k))/\Hid (cq s (10-k) k m=ay s)/\n= .int .u64 m/\i= .int .i64 k) (fun _ i=>10-(intOf i).toNat)
  case atStart=>exact⟨0,0,by omega,by omega,za (by simp),rfl,rfl,rfl⟩
  case round=>
   obtain⟨k,m,z,x,o,j,rfl,rfl⟩:=hrel;by_cases c:k<s.size/\k<10
   ·obtain⟨c,y⟩:=c;rcases PV k s[k].toNat y with⟨d,p⟩|⟨d,p⟩
    ·have b:=za d;clear d;rcases p with⟨h,l⟩|⟨h,l,q,u⟩|⟨h,l,q⟩;all_goals
      go_wp2;go_ret3
      exact⟨ui (WV c (by omega) j.out b.out) rfl,rfl⟩
    have b:=za d;clear d;have r:=za (s[k].toNat_lt);rcases p with⟨h,l,q,u⟩|⟨h,l,q,u⟩|⟨h,l⟩
    ·go_wp2;go_ret3
     exact⟨ui (Fo c (by omega) j.out b.out (by omega)) (vC m _ k r.out (by omega) o.out b.out),rfl⟩
    all_goals
     go_wp2
     ·go_ret3
      exact⟨ui (Fo c (by omega) j.out b.out (by omega)) (vC m _ k r.out (by omega) o.out b.out),rfl⟩
     go_round
     case rel=>exact⟨k+1,_,by omega,by omega,za (uH m s[k].toNat k o.out),za (PT c (by omega) j.out b.out (by omega)),by rw[vC m _ k r.out (by omega) o.out b.out],by go_num⟩
     case measure=>simp[intOf];omega
   go_wp2;go_ret3
   exact⟨ui (PU x c z j.out) rfl,rfl⟩
def bq (w:World):Prop:=w.cell? ⟨0,0,none⟩=some (.int .i64 2)/\w.cell? ⟨0,1,none⟩=some (.int .i64 4)/\w.cell? ⟨0,2,none⟩=some (.int .i64 8)
theorem bq.pos (h:bq w):0<w.heap.size:=lt_of_cell h.1
theorem bq.same (h:bq w)(b:w'.heap[0]?=w.heap[0]?):bq w':=
 ⟨(zG b).trans h.1,(zG b).trans h.2.1,(zG b).trans h.2.2⟩
theorem bq.below {B:Nat}(h:bq w)(b:Below B w w')(c:0<B):bq w':=h.same (b.block 0 c)
theorem bq.only {L:List Nat}(h:bq w)(c:ae L w w')(b:0∉L):bq w':=h.same (c.block 0 h.pos b)
theorem KA (n:Nat):(n<253/\bz n=n)\/(¬n<253/\n<65536/\bz n=253)\/(¬n<253/\¬n<65536/\n<4294967296/\bz n=254)\/(¬n<253/\¬n<65536/\¬n<4294967296/\bz n=255):=by
 unfold bz;split
 ·exact .inl ⟨‹_›,rfl⟩
 split
 ·exact .inr (.inl ⟨‹_›,‹_›,rfl⟩)
 split
 ·exact .inr (.inr (.inl ⟨‹_›,‹_›,‹_›,rfl⟩))
 exact .inr (.inr (.inr ⟨‹_›,‹_›,‹_›,rfl⟩))
theorem nZ (n:Nat)(w:World)(k:n<18446744073709551616):
 Calls prog 215 #[.int .u64 n] w fun e w'=>e= .returned (.int .u8 (bz n))/\w=w':=by
 rcases KA n with⟨c,e⟩|⟨c,d,e⟩|⟨c,d,j,e⟩|⟨c,d,j,e⟩
 ·rw[e];clear e;have b:decide ((n:Int)<253)=true:=zD (by omega);go_enter func215,ntmps215
  go_wp2;go_ret;exact⟨by go_num,rfl⟩
 ·rw[e];clear e;have b:decide ((n:Int)<253)=false:=zv (by omega);have h:decide ((n:Int)<65536)=true:=zD (by omega);go_enter func215,ntmps215
  go_wp2;go_ret;exact⟨by go_num,rfl⟩
 ·rw[e];clear e;have b:decide ((n:Int)<253)=false:=zv (by omega);have h:decide ((n:Int)<65536)=false:=zv (by omega);have i:decide ((n:Int)<4294967296)=true:=zD (by omega);go_enter func215,ntmps215
  go_wp2;go_ret;exact⟨by go_num,rfl⟩
 rw[e];clear e;have b:decide ((n:Int)<253)=false:=zv (by omega);have h:decide ((n:Int)<65536)=false:=zv (by omega);have i:decide ((n:Int)<4294967296)=false:=zv (by omega);go_enter func215,ntmps215
 go_wp2;go_ret;exact⟨by go_num,rfl⟩
theorem Fp (h:n<253):dC n= [ub n]:=by unfold dC;rw[zi h]
theorem nC {f:Nat}(h:¬n<253)(b:bz n=f)(c:bp f=k):(⟨#[ub f]⟩++⟨(jF n k).toArray⟩:ByteArray)=⟨(dC n).toArray⟩:=
 aM (by rw[bc];unfold dC;rw[zh h,b,c];rfl)
theorem KB (n:Nat)(w:World)(d:n<18446744073709551616)(l:bq w):
 Calls prog 180 #[.int .u64 n] w fun e w'=>e= .returned (.string ⟨(dC n).toArray⟩)/\Below w.heap.size w w':=by
 have u:=l.pos;obtain⟨q,p,s⟩:=l;have c:=za (nZ n w d);have k1:=fun(w:World) (a:Int)=>O2 zt yw zN w a
 rcases KA n with⟨b,e⟩|⟨b,o,e⟩|⟨b,o,r,e⟩|⟨b,o,r,e⟩
 ·have h:=za (Fp b);rw[e]at c;clear e d q p s;go_enter func180,ntmps180
  go_wp2_with fail
  refine c.out.mono ?_;rintro e w' ⟨rfl,rfl⟩;go_wp2;go_ret;exact⟨nU (by rw[h.out]),bT⟩
 ·have j:=za (fun w=>jS n 2 w (by have:=ue b d;rw[e]at this;simpa[bp]using this) (by omega) (by omega));have h:=za (nC (k:=2) b e (by decide));have m:(⟨(jF n 2).toArray⟩:ByteArray).size=2:=by rw[bP,bd]
  generalize (⟨(jF n 2).toArray⟩:ByteArray)=T at*;rw[e]at c;clear e d;go_enter func180,ntmps180
  go_wp2_with fail
  refine c.out.mono ?_;rintro e w' ⟨rfl,rfl⟩;go_wp2_with fail
  refine(j.out _).mono ?_;rintro e w' ⟨rfl,i⟩;go_wp2;go_ret;exact⟨nU (by rw[<-h.out];rfl),((zm w.heap.size w).alloc (zg _) _).trans (i.mono (by simp))⟩
 ·have j:=za (fun w=>jS n 4 w (by have:=ue b d;rw[e]at this;simpa[bp]using this) (by omega) (by omega));have h:=za (nC (k:=4) b e (by decide));have m:(⟨(jF n 4).toArray⟩:ByteArray).size=4:=by rw[bP,bd]
  generalize (⟨(jF n 4).toArray⟩:ByteArray)=T at*;rw[e]at c;clear e d;go_enter func180,ntmps180
  go_wp2_with fail
  refine c.out.mono ?_;rintro e w' ⟨rfl,rfl⟩;go_wp2_with fail
  refine(j.out _).mono ?_;rintro e w' ⟨rfl,i⟩;go_wp2;go_ret;exact⟨nU (by rw[<-h.out];rfl),((zm w.heap.size w).alloc (zg _) _).trans (i.mono (by simp))⟩
 have j:=za (fun w=>jS n 8 w (by have:=ue b d;rw[e]at this;simpa[bp]using this) (by omega) (by omega));have h:=za (nC (k:=8) b e (by decide));have m:(⟨(jF n 8).toArray⟩:ByteArray).size=8:=by rw[bP,bd]
 generalize (⟨(jF n 8).toArray⟩:ByteArray)=T at*;rw[e]at c;clear e d;go_enter func180,ntmps180
 go_wp2_with fail
 refine c.out.mono ?_;rintro e w' ⟨rfl,rfl⟩;go_wp2_with fail
 refine(j.out _).mono ?_;rintro e w' ⟨rfl,i⟩;go_wp2;go_ret;exact⟨nU (by rw[<-h.out];rfl),((zm w.heap.size w).alloc (zg _) _).trans (i.mono (by simp))⟩
def Cb (N:Nat×Nat×Int):Ending:= .returned (.tuple #[.int .u64 N.1,.int .i64 N.2.1,.int .i64 N.2.2])
theorem nD (s:ByteArray)(k:Nat):(s.extract 1 (1+k)).data.toList=(s.data.toList.drop 1).take k:=by
 simp[ByteArray.extract,ByteArray.copySlice,Array.toList_extract]
theorem PY (s:ByteArray)(w:World)(E:s.size<=9223372036854775807)(y:bq w):
 Calls prog 216 #[.string s] w fun e w'=>e=Cb (aA s.data.toList)/\w=w':=by
 obtain⟨G,A,D⟩:=y;unfold Cb;rcases gq s with⟨u,rfl⟩|⟨u,C,B⟩
 ·go_enter xq,xa
  go_wp2;go_ret3
  exact⟨rfl,rfl⟩
 have x:0<s.size:=by omega
 have i:=drop_cons s 0 x;rw[zL]at i;have o:=s[0].toNat_lt;by_cases z:s[0].toNat<253
 ·have c:Hid (aA s.data.toList=(s[0].toNat,1,0)):=za (by rw[i];simp only[aA,zi z]);generalize aA s.data.toList=N at*;clear i;go_enter xq,xa
  go_wp2;go_ret3
  exact⟨by rw[c.out];rfl,rfl⟩
 rcases(show s[0].toNat=253\/s[0].toNat=254\/s[0].toNat=255 by omega)with o|o|o
 ·have p:s[0].toNat=253:=o;have b:Hid (aA s.data.toList=if(s.data.toList.drop 1).length<2 then(0,0,2)else if bz (dh ((s.data.toList.drop 1).take 2))=253 then(dh ((s.data.toList.drop 1).take 2),1+2,0)else(0,0,3)):=za (by
   rw[i];simp only[aA,p];rfl)
  rw[zK,aa]at b;generalize aA s.data.toList=N at*;by_cases q:s.size<1+2
  ·have c:Hid (N=(0,0,2)):=za (by rw[b.out,zi (by omega)]);clear b i;go_enter xq,xa
   go_wp2;go_ret3
   exact⟨by rw[c.out];rfl,rfl⟩
  have d:(s.extract 1 (1+2)).data.toList=(s.data.toList.drop 1).take 2:=nD s 2;have k:(s.extract 1 (1+2)).size=2:=by rw[an s 1 (1+2) (by omega)]
  have n:=za (eo (s.extract 1 (1+2)) w (by omega) (by omega));rw[d]at n;have j:=jK ((s.data.toList.drop 1).take 2);rw[<-d,aa,k]at j;rw[d]at j;rw[zh (by omega)]at b;generalize dh ((s.data.toList.drop 1).take 2)=m at*;have l:=za (nZ m w (by omega));by_cases h:bz m=253
  ·have c:Hid (N=(m,1+2,0)):=za (by rw[b.out,zi h]);rw[h]at l;clear b i d k j h;go_enter xq,xa
   go_wp2_with fail
   refine n.out.mono ?_;rintro e w' ⟨rfl,rfl⟩;go_wp2_with fail
   refine l.out.mono ?_;rintro e w' ⟨rfl,rfl⟩;go_wp2;go_ret3
   exact⟨by rw[c.out];rfl,rfl⟩
  have c:Hid (N=(0,0,3)):=za (by rw[b.out,zh h]);have r:((bz m:Int) !=253)=true:=by rw[yz];omega
  generalize bz m=F at*;clear b i d k j h;go_enter xq,xa
  go_wp2_with fail
  refine n.out.mono ?_;rintro e w' ⟨rfl,rfl⟩;go_wp2_with fail
  refine l.out.mono ?_;rintro e w' ⟨rfl,rfl⟩;go_wp2;go_ret3
  exact⟨by rw[c.out];rfl,rfl⟩
 ·have p:s[0].toNat=254:=o;have b:Hid (aA s.data.toList=if(s.data.toList.drop 1).length<4 then(0,0,2)else if bz (dh ((s.data.toList.drop 1).take 4))=254 then(dh ((s.data.toList.drop 1).take 4),1+4,0)else(0,0,3)):=za (by
   rw[i];simp only[aA,p];rfl)
  rw[zK,aa]at b;generalize aA s.data.toList=N at*;by_cases q:s.size<1+4
  ·have c:Hid (N=(0,0,2)):=za (by rw[b.out,zi (by omega)]);clear b i;go_enter xq,xa
   go_wp2;go_ret3
   exact⟨by rw[c.out];rfl,rfl⟩
  have d:(s.extract 1 (1+4)).data.toList=(s.data.toList.drop 1).take 4:=nD s 4;have k:(s.extract 1 (1+4)).size=4:=by rw[an s 1 (1+4) (by omega)]
  have n:=za (eo (s.extract 1 (1+4)) w (by omega) (by omega));rw[d]at n;have j:=jK ((s.data.toList.drop 1).take 4);rw[<-d,aa,k]at j;rw[d]at j;rw[zh (by omega)]at b;generalize dh ((s.data.toList.drop 1).take 4)=m at*;have l:=za (nZ m w (by omega));by_cases h:bz m=254
  ·have c:Hid (N=(m,1+4,0)):=za (by rw[b.out,zi h]);rw[h]at l;clear b i d k j h;go_enter xq,xa
   go_wp2_with fail
   refine n.out.mono ?_;rintro e w' ⟨rfl,rfl⟩;go_wp2_with fail
   refine l.out.mono ?_;rintro e w' ⟨rfl,rfl⟩;go_wp2;go_ret3
   exact⟨by rw[c.out];rfl,rfl⟩
  have c:Hid (N=(0,0,3)):=za (by rw[b.out,zh h]);have r:((bz m:Int) !=254)=true:=by rw[yz];omega
  generalize bz m=F at*;clear b i d k j h;go_enter xq,xa
  go_wp2_with fail
  refine n.out.mono ?_;rintro e w' ⟨rfl,rfl⟩;go_wp2_with fail
  refine l.out.mono ?_;rintro e w' ⟨rfl,rfl⟩;go_wp2;go_ret3
  exact⟨by rw[c.out];rfl,rfl⟩
 have p:s[0].toNat=255:=o;have b:Hid (aA s.data.toList=if(s.data.toList.drop 1).length<8 then(0,0,2)else if bz (dh ((s.data.toList.drop 1).take 8))=255 then(dh ((s.data.toList.drop 1).take 8),1+8,0)else(0,0,3)):=za (by
  rw[i];simp only[aA,p];rfl)
 rw[zK,aa]at b;generalize aA s.data.toList=N at*;by_cases q:s.size<1+8
 ·have c:Hid (N=(0,0,2)):=za (by rw[b.out,zi (by omega)]);clear b i;go_enter xq,xa
  go_wp2;go_ret3
  exact⟨by rw[c.out];rfl,rfl⟩
 have d:(s.extract 1 (1+8)).data.toList=(s.data.toList.drop 1).take 8:=nD s 8;have k:(s.extract 1 (1+8)).size=8:=by rw[an s 1 (1+8) (by omega)]
 have n:=za (eo (s.extract 1 (1+8)) w (by omega) (by omega));rw[d]at n;have j:=jK ((s.data.toList.drop 1).take 8);rw[<-d,aa,k]at j;rw[d]at j;rw[zh (by omega)]at b;generalize dh ((s.data.toList.drop 1).take 8)=m at*;have l:=za (nZ m w (by omega));by_cases h:bz m=255
 ·have c:Hid (N=(m,1+8,0)):=za (by rw[b.out,zi h]);rw[h]at l;clear b i d k j h;go_enter xq,xa
  go_wp2_with fail
  refine n.out.mono ?_;rintro e w' ⟨rfl,rfl⟩;go_wp2_with fail
  refine l.out.mono ?_;rintro e w' ⟨rfl,rfl⟩;go_wp2;go_ret3
  exact⟨by rw[c.out];rfl,rfl⟩
 have c:Hid (N=(0,0,3)):=za (by rw[b.out,zh h]);have r:((bz m:Int) !=255)=true:=by rw[yz];omega
 generalize bz m=F at*;clear b i d k j h;go_enter xq,xa
 go_wp2_with fail
 refine n.out.mono ?_;rintro e w' ⟨rfl,rfl⟩;go_wp2_with fail
 refine l.out.mono ?_;rintro e w' ⟨rfl,rfl⟩;go_wp2;go_ret3
 exact⟨by rw[c.out];rfl,rfl⟩
