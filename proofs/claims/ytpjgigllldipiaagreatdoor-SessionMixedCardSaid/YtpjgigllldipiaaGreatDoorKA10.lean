/- sha.Pad: the padding behind n bytes. -/
import Derived.Test.YtpjgigllldipiaaGreatDoorKA7
set_option linter.all false
set_option maxRecDepth 100000
set_option maxHeartbeats 4000000
namespace Go.Proofs.YtpjgigllldipiaaGreatDoor
open Tryz
open Go.RowKit
def zt:=@World.size_alloc
def xe:=@beq_iff_eq
def xi:=@ntmps184
def xy:=@func184
def xZ:=@IntWalk.u64_in
def ZO:=@wpList_make_own
theorem jz (n sz:Nat)(w:World)(d:n<2^(8*sz))(k:1<=sz)(b:sz<=8):
 Calls prog 104 #[.int .u64 n,.int .i64 sz] w fun e w'=>e= .returned (.tuple #[.string ⟨(je n sz).toArray⟩,.int .i64 0])/\Below w.heap.size w w':=by
 have p:=le_pow sz b;have m:=za (SO n sz w d k b);have j:=za (ET n sz w (by omega) b);clear d p;go_enter func104,ntmps104
 go_wp2_with fail
 refine m.out.mono ?_;rintro e w' ⟨rfl,rfl⟩;go_wp2_with fail
 refine j.out.mono ?_;rintro e w' ⟨rfl,c,h⟩;have o:=bJ.str (P:=prog) (l:=je n sz) (A:=some ⟨w.heap.size,0,none⟩) (cap:=sz) zx yC zO (by rw[bc];exact c);rw[bc]at o;have i:=h.below;clear c h;go_wp2;go_ret2
 exact⟨rfl,i⟩
theorem SX (n b k:Nat)(d:b<256)(i:k<8)(c:n<2^(8*k)):
 bits .or .u64 (n:Int) (IntKind.u64.wrap (IntKind.u64.wrap (b:Int)*2^(8*k)))=((n+b*2^(8*k):Nat):Int):=by
 have h:=le_step n b k d c;have j:=le_pow (k+1) (by omega);have e:(b:Int)*2^(8*k)=((b*2^(8*k):Nat):Int):=by simp
 rw[xZ (b:Int) (by omega),e,xZ _ (by omega),u64_or_nat _ _ (by omega) (by omega),Uk _ _ _ c]
theorem eP (s:ByteArray)(w:World)(o:0<s.size)(l:s.size<=8):
 Calls prog 83 #[.string s] w fun e w'=>e= .returned (.tuple #[.int .u64 (cV s.data.toList),.int .i64 0])/\w=w':=by
 have hz:((s.size:Int)==0)=false:=zr.2 (by omega);go_enter func83,ntmps83
 go_wp2;go_loop [5,15] (fun n i=>∃k m:Nat,k<=s.size/\Hid (m=cV (s.data.toList.take k))/\n= .int .u64 m/\i= .int .i64 k) (fun _ i=>s.size-(intOf i).toNat)
 case atStart=>exact⟨0,0,by omega,rfl,rfl,rfl⟩
 case round=>
  obtain⟨k,m,d,b,rfl,rfl⟩:=hrel;by_cases j:k<s.size
  ·go_wp2;have h:=s[k].toNat_lt;have c:=jm (s.data.toList.take k);rw[length_take s k d,<-b.out]at c;have e:=SX m s[k].toNat k h (by omega) c;go_round
   case rel=>
    refine⟨k+1,_,by omega,za rfl, ?_,by go_num⟩;rw[ja s k j,NZ,length_take s k d,<-b.out,<-e]
   case measure=>simp[intOf];omega
  go_wp2;go_ret2
  exact⟨EU rfl (by rw[b.out,zC (by simp;omega)]),rfl⟩
theorem mN (s:ByteArray)(w:World)(b:s.size=0):
 Calls prog 83 #[.string s] w fun e w'=>e= .returned (.tuple #[.int .u64 0,.int .i64 1])/\w=w':=by
 go_enter func83,ntmps83
 go_wp2;go_ret2
 exact⟨rfl,rfl⟩
theorem OZ (m k d:Nat)(h:8*k+d=56):(#[Value.int .u8 ((m:Int)/2^d%256)]:Array Value).toList=cb [UInt8.ofNat (m/2^(56-8*k))]:=by
 have hd:56-8*k=d:=by omega
 rw[hd];simp[cb]
theorem aa6 (n:Nat)(w:World)(hn:n<=100000):
 Calls prog 210 #[.int .i64 n] w fun e w'=>e= .returned (.tuple #[.string (il n),.int .i64 0])/\Below w.heap.size w w':=by
 obtain⟨i0,hi,r,y,u⟩:=yT oK;have o:Hid (il n=⟨((128::List.replicate (dH n) 0)++fo (n*8)).toArray⟩):=za rfl;have hz:=rQ n;have W:Hid (dH n=(64-(n+9)%64)%64):=za rfl;obtain⟨z,j⟩:∃z,dH n=z:=⟨_,rfl⟩
 have Y:=za j;rw[j]at hz;obtain⟨m,C⟩:∃m,1+z=m:=⟨_,rfl⟩
 obtain⟨c,Z⟩:∃c,m+8=c:=⟨_,rfl⟩
 have e1:(64-((n:Int)+9)%64)%64=(z:Int):=by have:=W.out;omega
 have e2:(1:Int)+(z:Int)=(m:Int):=by omega
 have e3:(m:Int)+8=(c:Int):=by omega
 have rF:m<=c:=by omega
 have U:=za C;clear j C Z;have d1:decide ((n:Int)<0)=false:=zz (by omega);have d2:decide ((1099511627776:Int)<n)=false:=zz (by omega);go_enter func210,ntmps210
 go_wp2_with (at_make;refine lN _ (by rfl) _ _ 31 (by rfl) w.heap.size 5 i0 zx hi r y u .i64 .i64 m c (by rfl) (by rfl) rF (by omega) (zf _) ?_;intro I h F S;obtain⟨O,f0,g0,g1⟩:=h.at_ (k:=0) (by simp;omega))
 have J:Hid (bJ (I.setCell ⟨w.heap.size,0,none⟩ (.int .u8 128)) w.heap.size 5 (.slice (some ⟨w.heap.size,0,none⟩) m c) ((128::List.replicate z 0)++(fo (n*8)).take 0)):=za (by
  have:=h.set (k:=0) (by simp;omega) 128;have e:(List.replicate m (0:UInt8)).set 0 128=(128::List.replicate z 0)++(fo (n*8)).take 0:=by
   rw[<-U.out,ZA 1 z,ZT,ze];simp
  rw[e]at this;exact this)
 obtain⟨ab,fr,D,_⟩:=h.block;have N:=za (F.store (k:=0) D (zf _) (.int .u8 128));rw[Y.out]at o;clear D h F S O f0;go_loopw [5,26] (fun v i wr=>∃k:Nat,k<=8/\i= .int .i64 k/\bJ wr w.heap.size 5 v ((128::List.replicate z 0)++(fo (n*8)).take k)/\Kept 5 w.heap.size w wr) (fun _ i _=>8-(intOf i).toNat)
 case atStart=>exact⟨0,by omega,rfl,J.out,N.out⟩
 case round=>
  obtain⟨k,hk,rfl,b,l⟩:=hrel;obtain⟨A,L,cap,rfl,hL,ad,nR⟩:=b.dk;have G:=za l;have fC:=l.size;clear l;by_cases M:k<8
  ·obtain⟨d,hd⟩:∃d,56-8*k=d:=⟨_,rfl⟩
   have K:8*k+d=56:=by omega
   have e4:(56:Int)-8*(k:Int)=(d:Int):=by omega
   have E:=za (OZ (n*8) k d K);have Qj:((128::List.replicate z (0:UInt8))++(fo (n*8)).take k).length<=100:=by simp[hZ];omega
   have TQ:Hid (((128::List.replicate z (0:UInt8))++(fo (n*8)).take k)++ [UInt8.ofNat (n*8/2^(56-8*k))]=(128::List.replicate z 0)++(fo (n*8)).take (k+1)):=za (by rw[D6 _ _ M,zI]);generalize ((128::List.replicate z (0:UInt8))++(fo (n*8)).take k)=LL at*;generalize UInt8.ofNat (n*8/2^(56-8*k))=q at*;simp only[Int.natCast_mul]at E;clear hd;go_wp2_with (at_builtin;refine aN (by rfl) (.tmp 29) (.tmp 38) 31 31 (by rfl) w.heap.size 5 i0 zx hi r y u (by rfl) (b.alloc _) _ [q] (by rfl) (tw zx _ 5 _ [q] 1 _ (by rfl) E.out) (by simp only[zt];omega) (by simp;omega) ?_;intro A3 n3 nh w3 B p;have R:=za B;have aa:=za ((G.out.alloc (by omega) _).trans p);clear B p b)
   go_roundw
   case rel=>exact⟨k+1,by omega,by go_num,by rw[<-TQ.out];exact R.out,aa.out⟩
   case measure=>simp[intOf];omega
  have s:(fo (n*8)).take k=fo (n*8):=zC (by rw[hZ];omega);rw[s]at b;have x:=b.Ef (P:=prog) zx yC zO;rw[<-o.out]at x;clear b s o;obtain⟨X,H⟩:∃X,Hid (il n=X):=⟨_,za rfl⟩
  rw[H.out]at x;go_wp2;go_ret2
  exact⟨by rw[H.out];rfl,G.out.below⟩
theorem rh :(prog.info? 5).map (fun i=>(i.zero,i.size,i.bytes))=some (some (.int .u8 0),1,1):=by kernel_rfl
theorem aa7 :∀x:Fin 256,x.val|||128=x.val%128+128:=by decide+kernel
theorem VY (m:Nat):bits .or .u8 ((m:Int)%256) 128=((m%128+128:Nat):Int):=by
 have h:=u8_or_nat (m%256) 128 (by omega) (by omega);have b:=aa7 ⟨m%256,by omega⟩;simp only at b;rw[b,show m%256%128=m%128 from by omega]at h;rw[<-h];rfl
theorem pO {n m:Nat}{pre:List UInt8}(h:pre++aQ m=aQ n)(b:128<=m):(pre++ [ub (m%128+128:Nat)])++aQ (m/128)=aQ n:=by
 rw[<-h,jd (n:=m) (by omega)];simp
theorem CL {n m:Nat}{pre:List UInt8}(h:pre++aQ m=aQ n)(b:¬128<=m):pre++ [ub (m:Nat)]=aQ n:=by
 rw[<-h,gS (n:=m) (by omega)]
theorem H6 {n m:Nat}{pre:List UInt8}(h:pre++aQ m=aQ n)(c:n<18446744073709551616):pre.length<10:=by
 have d:=bF 10 n (by omega) (by omega);have e:=Eh m;have b:=xC List.length h;simp only[zp]at b;omega
def VZ (n:Nat)(w:World)(b:Value)(x:Value)(wr:World):Prop:=
 ∃(m:Nat) (pre:List UInt8),pre++aQ m=aQ n/\m<18446744073709551616/\pre.length<10/\x= .int .u64 m/\bJ wr w.heap.size 5 b pre/\Kept 5 w.heap.size w wr
theorem uT (n:Nat)(w:World)(z:n<18446744073709551616):
 Calls prog 118 #[.int .u64 n] w fun e w'=>e= .returned (.string ⟨(aQ n).toArray⟩)/\Below w.heap.size w w':=by
 obtain⟨i0,hi,h,o,k⟩:=yT rh;go_enter func118,ntmps118
 go_wp2_with (at_make;refine ZO _ rfl _ _ 31 rfl w.heap.size 5 i0 (.int .u8 0) 1 zx hi h o .i64 .i64 _ 10 rfl rfl (by omega) (by rw[k];omega) (by simp only[maxLen];omega) (by omega) ?_;intro r u s)
 have y:bJ r w.heap.size 5 (.slice (some ⟨w.heap.size,0,none⟩) 0 10) []:=bJ.own u;have C:Kept 5 w.heap.size w r:=Kept.Jx s (zf _);clear u s;go_loopw [3,0] (fun b x wr=>VZ n w b x wr) (fun _ x _=>(intOf x).toNat)
 case atStart=>exact⟨n,[],rfl,z,by simp,rfl,y,C⟩
 case round=>
  obtain⟨m,pre,B,L,K,rfl,j,l⟩:=hrel;have p:=za B;have I:=l.size;obtain⟨A,cap,rfl,N,M⟩:=j.form;clear B y C;by_cases i:128<=m
  ·go_wp2_with (at_builtin;refine aN (by rfl) (.tmp 7) (.tmp 11) 31 31 (by rfl) w.heap.size 5 i0 zx hi h o k (by rfl) (j.alloc _) _ [ub (m%128+128:Nat)] (by rfl) (jR zx wr 5 _ [ub (m%128+128:Nat)] 1 (ox (VY m) (by omega))) (by rw[zt];omega) (by simp only[zD,zS];omega) ?_)
   intro D E H F c d;have G:=za c;have q:=za ((l.alloc (by omega) _).trans d);clear c d;go_wp2;go_roundw
   case rel=>exact⟨m/128,_,pO p.out i,by omega,H6 (pO p.out i) z,by go_num,G.out,q.out⟩
   case measure=>simp[intOf];omega
  go_wp2_with (at_builtin;refine aN (by rfl) (.tmp 15) (.tmp 18) 31 31 (by rfl) w.heap.size 5 i0 zx hi h o k (by rfl) (j.alloc _) _ [ub (m:Nat)] (by rfl) (jR zx wr 5 _ [ub (m:Nat)] 1 (ox rfl (by omega))) (by rw[zt];omega) (by simp only[zD,zS];omega) ?_)
  intro D E H F c d;rw[CL p.out i]at c;have q:=za ((l.alloc (by omega) _).trans d);have J:=c.Ef (P:=prog) zx yC zO;clear d c;go_wp2;go_ret;exact⟨rfl,q.out.below⟩
theorem uU (m b k:Nat)(e:b<256)(d:k<=9)(c:m<2^(7*k))(i:¬((k=9/\1<b)\/(0<k/\b=0))):
 bits .or .u64 (m:Int) (IntKind.u64.wrap (IntKind.u64.wrap (bits .and .u8 (b:Int) 127)*2^(7*k)))=((m+b%128*2^(7*k):Nat):Int):=by
 have h:bits .and .u8 (b:Int) 127=((b%128:Nat):Int):=by
  have:=u8_and_nat b 127 e (by omega);rw[nat_mask7]at this;exact this
 have l:=DY m b k d c i;have n:=Ju k d;have j:((b%128:Nat):Int)*2^(7*k)=((b%128*2^(7*k):Nat):Int):=by simp
 rw[h,xZ ((b%128:Nat):Int) (by omega),j,xZ _ (by omega),u64_or_nat _ _ (by omega) (by omega),VG _ _ _ c]
theorem tE {a b:Nat}{c:Int}{x:Nat×Nat×Int}{v:Int}(h:x=(a,b,c))(d:v=(a:Int)):Ending.returned (.tuple #[.int .u64 v,.int .i64 b,.int .i64 c])= .returned (.tuple #[.int .u64 x.1,.int .i64 x.2.1,.int .i64 x.2.2]):=by
 subst h;subst d;rfl
theorem O0 {s:ByteArray}{k m:Nat}{x:Nat×Nat×Int}(d:k<s.size)(h:k<=8)(b:ca s (10-k) k m=x)(e:¬((k=9/\1<s[k].toNat)\/(0<k/\s[k].toNat=0)))(c:¬s[k].toNat<128):
 ca s (10-(k+1)) (k+1) (m+s[k].toNat%128*2^(7*k))=x:=by
 rw[<-b,show 10-k=(10-(k+1))+1 from by omega,jo s _ k m d e c]
theorem EZ {s:ByteArray}{k m:Nat}{x:Nat×Nat×Int}(d:k<s.size)(h:k<=9)(b:ca s (10-k) k m=x)(e:¬((k=9/\1<s[k].toNat)\/(0<k/\s[k].toNat=0)))(c:s[k].toNat<128):
 x=(m+s[k].toNat%128*2^(7*k),k+1,0):=by
 rw[<-b,show 10-k=(9-k)+1 from by omega,jn s _ k m d e c]
theorem V0 {s:ByteArray}{k m:Nat}{x:Nat×Nat×Int}(b:k<s.size)(e:k<=9)(c:ca s (10-k) k m=x)(d:(k=9/\1<s[k].toNat)\/(0<k/\s[k].toNat=0)):x=(0,0,3):=by
 rw[<-c,show 10-k=(9-k)+1 from by omega,nr s _ k m b d]
theorem O1 {s:ByteArray}{k m:Nat}{x:Nat×Nat×Int}(c:k<=s.size)(d:¬(k<s.size/\k<10))(e:k<=10)(b:ca s (10-k) k m=x):x=(0,0,2):=by
 rw[<-b];rcases Zl k 10 with h|h
 ·exact jc s _ k m (by omega)
 rw[show 10-k=0 from by omega];rfl
theorem O2 (k b:Nat)(c:k<10):
 (((k=9/\1<b)\/(0<k/\b=0))/\((((k:Int)==9)=true/\1<b)\/(((k:Int)==9)=true/\b<=1/\0<k/\((b:Int)==0)=true)\/(((k:Int)==9)=false/\0<k/\((b:Int)==0)=true)))\/
 ((¬((k=9/\1<b)\/(0<k/\b=0)))/\((((k:Int)==9)=true/\b<=1/\0<k/\((b:Int)==0)=false)\/(((k:Int)==9)=false/\0<k/\((b:Int)==0)=false/\k<=8)\/(((k:Int)==9)=false/\k<=0))):=by
 simp only[xe,yj,yV,zr,ne_eq];omega
theorem ri (s:ByteArray)(w:World)(B:s.size<=9223372036854775807):
 Calls prog 122 #[.string s] w fun e w'=>e= .returned (.tuple #[.int .u64 (aw s).1,.int .i64 (aw s).2.1,.int .i64 (aw s).2.2])/\w=w':=by
 by_cases A:s.size<=10;all_goals
  go_enter func122,ntmps122
  go_wp2;go_loop [5,11] (fun n i=>∃k m:Nat,k<=10/\k<=s.size/\Hid (m<2^(7*k))/\Hid (ca s (10-k) k m=aw s)/\n= .int .u64 m/\i= .int .i64 k) (fun _ i=>10-(intOf i).toNat)
  case atStart=>exact⟨0,0,by omega,by omega,za (by simp),rfl,rfl,rfl⟩
  case round=>
   obtain⟨k,m,z,x,o,d,rfl,rfl⟩:=hrel;by_cases c:k<s.size/\k<10
   ·obtain⟨c,y⟩:=c;rcases O2 k s[k].toNat y with⟨l,q⟩|⟨l,q⟩
    ·have b:=za l;clear l;rcases q with⟨h,j⟩|⟨h,j,r,u⟩|⟨h,j,r⟩;all_goals
      go_wp2;go_ret3
      exact⟨tE (V0 c (by omega) d.out b.out) rfl,rfl⟩
    have b:=za l;clear l;have p:=za (s[k].toNat_lt);rcases q with⟨h,j,r,u⟩|⟨h,j,r,u⟩|⟨h,j⟩
    ·go_wp2;go_ret3
     exact⟨tE (EZ c (by omega) d.out b.out (by omega)) (uU m _ k p.out (by omega) o.out b.out),rfl⟩
    all_goals
     go_wp2
     ·go_ret3
      exact⟨tE (EZ c (by omega) d.out b.out (by omega)) (uU m _ k p.out (by omega) o.out b.out),rfl⟩
     go_round
     case rel=>exact⟨k+1,_,by omega,by omega,za (tU m s[k].toNat k o.out),za (O0 c (by omega) d.out b.out (by omega)),by rw[uU m _ k p.out (by omega) o.out b.out],by go_num⟩
     case measure=>simp[intOf];omega
   go_wp2;go_ret3
   exact⟨tE (O1 x c z d.out) rfl,rfl⟩
def bj (w:World):Prop:=w.cell? ⟨0,0,none⟩=some (.int .i64 2)/\w.cell? ⟨0,1,none⟩=some (.int .i64 4)/\w.cell? ⟨0,2,none⟩=some (.int .i64 8)
theorem bj.pos {w:World}(h:bj w):0<w.heap.size:=lt_of_cell h.1
theorem bj.same {w w':World}(h:bj w)(b:w'.heap[0]?=w.heap[0]?):bj w':=
 ⟨(zL b).trans h.1,(zL b).trans h.2.1,(zL b).trans h.2.2⟩
theorem bj.below {w w':World}{B:Nat}(h:bj w)(b:Below B w w')(c:0<B):bj w':=h.same (b.block 0 c)
theorem bj.only {w w':World}{L:List Nat}(h:bj w)(c:ae L w w')(b:0∉L):bj w':=h.same (c.block 0 h.pos b)
theorem J0 (n:Nat):(n<253/\bu n=n)\/(¬n<253/\n<65536/\bu n=253)\/(¬n<253/\¬n<65536/\n<4294967296/\bu n=254)\/(¬n<253/\¬n<65536/\¬n<4294967296/\bu n=255):=by
 unfold bu;split
 ·exact .inl ⟨‹_›,rfl⟩
 split
 ·exact .inr (.inl ⟨‹_›,‹_›,rfl⟩)
 split
 ·exact .inr (.inr (.inl ⟨‹_›,‹_›,‹_›,rfl⟩))
 exact .inr (.inr (.inr ⟨‹_›,‹_›,‹_›,rfl⟩))
theorem nD (n:Nat)(w:World)(k:n<18446744073709551616):
 Calls prog 182 #[.int .u64 n] w fun e w'=>e= .returned (.int .u8 (bu n))/\w=w':=by
 rcases J0 n with⟨c,e⟩|⟨c,h,e⟩|⟨c,h,j,e⟩|⟨c,h,j,e⟩
 ·rw[e];clear e;have b:decide ((n:Int)<253)=true:=zH (by omega);go_enter func182,ntmps182
  go_wp2;go_ret;exact⟨by go_num,rfl⟩
 ·rw[e];clear e;have b:decide ((n:Int)<253)=false:=zz (by omega);have d:decide ((n:Int)<65536)=true:=zH (by omega);go_enter func182,ntmps182
  go_wp2;go_ret;exact⟨by go_num,rfl⟩
 ·rw[e];clear e;have b:decide ((n:Int)<253)=false:=zz (by omega);have d:decide ((n:Int)<65536)=false:=zz (by omega);have i:decide ((n:Int)<4294967296)=true:=zH (by omega);go_enter func182,ntmps182
  go_wp2;go_ret;exact⟨by go_num,rfl⟩
 rw[e];clear e;have b:decide ((n:Int)<253)=false:=zz (by omega);have d:decide ((n:Int)<65536)=false:=zz (by omega);have i:decide ((n:Int)<4294967296)=false:=zz (by omega);go_enter func182,ntmps182
 go_wp2;go_ret;exact⟨by go_num,rfl⟩
theorem E3 {n:Nat}(h:n<253):dq n= [ub n]:=by unfold dq;rw[zl h]
theorem mO {n f k:Nat}(h:¬n<253)(b:bu n=f)(c:bh f=k):(⟨#[ub f]⟩++⟨(je n k).toArray⟩:ByteArray)=⟨(dq n).toArray⟩:=
 aL (by rw[bn];unfold dq;rw[zj h,b,c];rfl)
theorem J1 (n:Nat)(w:World)(c:n<18446744073709551616)(m:bj w):
 Calls prog 140 #[.int .u64 n] w fun e w'=>e= .returned (.string ⟨(dq n).toArray⟩)/\Below w.heap.size w w':=by
 have u:=m.pos;obtain⟨r,p,q⟩:=m;have d:=za (nD n w c);have k1:=fun(w:World) (a:Int)=>Ob zx yC zO w a
 rcases J0 n with⟨b,e⟩|⟨b,o,e⟩|⟨b,o,s,e⟩|⟨b,o,s,e⟩
 ·have h:=za (E3 b);rw[e]at d;clear e c r p q;go_enter func140,ntmps140
  go_wp2_with fail
  refine d.out.mono ?_;rintro e w' ⟨rfl,rfl⟩;go_wp2;go_ret;exact⟨nt (by rw[h.out]),bN⟩
 ·have j:=za (fun w=>jz n 2 w (by have:=tA b c;rw[e]at this;simpa[bh]using this) (by omega) (by omega));have h:=za (mO (k:=2) b e (by decide));have l:(⟨(je n 2).toArray⟩:ByteArray).size=2:=by rw[bH,bc]
  generalize (⟨(je n 2).toArray⟩:ByteArray)=T at*;rw[e]at d;clear e c;go_enter func140,ntmps140
  go_wp2_with fail
  refine d.out.mono ?_;rintro e w' ⟨rfl,rfl⟩;go_wp2_with fail
  refine(j.out _).mono ?_;rintro e w' ⟨rfl,i⟩;go_wp2;go_ret;exact⟨nt (by rw[<-h.out];rfl),((zq w.heap.size w).alloc (zf _) _).trans (i.mono (by simp))⟩
 ·have j:=za (fun w=>jz n 4 w (by have:=tA b c;rw[e]at this;simpa[bh]using this) (by omega) (by omega));have h:=za (mO (k:=4) b e (by decide));have l:(⟨(je n 4).toArray⟩:ByteArray).size=4:=by rw[bH,bc]
  generalize (⟨(je n 4).toArray⟩:ByteArray)=T at*;rw[e]at d;clear e c;go_enter func140,ntmps140
  go_wp2_with fail
  refine d.out.mono ?_;rintro e w' ⟨rfl,rfl⟩;go_wp2_with fail
  refine(j.out _).mono ?_;rintro e w' ⟨rfl,i⟩;go_wp2;go_ret;exact⟨nt (by rw[<-h.out];rfl),((zq w.heap.size w).alloc (zf _) _).trans (i.mono (by simp))⟩
 have j:=za (fun w=>jz n 8 w (by have:=tA b c;rw[e]at this;simpa[bh]using this) (by omega) (by omega));have h:=za (mO (k:=8) b e (by decide));have l:(⟨(je n 8).toArray⟩:ByteArray).size=8:=by rw[bH,bc]
 generalize (⟨(je n 8).toArray⟩:ByteArray)=T at*;rw[e]at d;clear e c;go_enter func140,ntmps140
 go_wp2_with fail
 refine d.out.mono ?_;rintro e w' ⟨rfl,rfl⟩;go_wp2_with fail
 refine(j.out _).mono ?_;rintro e w' ⟨rfl,i⟩;go_wp2;go_ret;exact⟨nt (by rw[<-h.out];rfl),((zq w.heap.size w).alloc (zf _) _).trans (i.mono (by simp))⟩
def BF (N:Nat×Nat×Int):Ending:= .returned (.tuple #[.int .u64 N.1,.int .i64 N.2.1,.int .i64 N.2.2])
theorem mP (s:ByteArray)(k:Nat):(s.extract 1 (1+k)).data.toList=(s.data.toList.drop 1).take k:=by
 simp[ByteArray.extract,ByteArray.copySlice,Array.toList_extract]
theorem O3 (s:ByteArray)(w:World)(B:s.size<=9223372036854775807)(z:bj w):
 Calls prog 184 #[.string s] w fun e w'=>e=BF (au s.data.toList)/\w=w':=by
 obtain⟨G,D,A⟩:=z;unfold BF;rcases fJ s with⟨u,rfl⟩|⟨u,E,C⟩
 ·go_enter xy,xi
  go_wp2;go_ret3
  exact⟨rfl,rfl⟩
 have x:0<s.size:=by omega
 have i:=drop_cons s 0 x;rw[zQ]at i;have o:=s[0].toNat_lt;by_cases y:s[0].toNat<253
 ·have c:Hid (au s.data.toList=(s[0].toNat,1,0)):=za (by rw[i];simp only[au,zl y]);generalize au s.data.toList=N at*;clear i;go_enter xy,xi
  go_wp2;go_ret3
  exact⟨by rw[c.out];rfl,rfl⟩
 rcases(show s[0].toNat=253\/s[0].toNat=254\/s[0].toNat=255 by omega)with o|o|o
 ·have p:s[0].toNat=253:=o;have b:Hid (au s.data.toList=if(s.data.toList.drop 1).length<2 then(0,0,2)else if bu (cV ((s.data.toList.drop 1).take 2))=253 then(cV ((s.data.toList.drop 1).take 2),1+2,0)else(0,0,3)):=za (by
   rw[i];simp only[au,p];rfl)
  rw[zZ,aa]at b;generalize au s.data.toList=N at*;by_cases q:s.size<1+2
  ·have c:Hid (N=(0,0,2)):=za (by rw[b.out,zl (by omega)]);clear b i;go_enter xy,xi
   go_wp2;go_ret3
   exact⟨by rw[c.out];rfl,rfl⟩
  have d:(s.extract 1 (1+2)).data.toList=(s.data.toList.drop 1).take 2:=mP s 2;have n:(s.extract 1 (1+2)).size=2:=by rw[an s 1 (1+2) (by omega)]
  have l:=za (eP (s.extract 1 (1+2)) w (by omega) (by omega));rw[d]at l;have j:=jm ((s.data.toList.drop 1).take 2);rw[<-d,aa,n]at j;rw[d]at j;rw[zj (by omega)]at b;generalize cV ((s.data.toList.drop 1).take 2)=m at*;have k:=za (nD m w (by omega));by_cases h:bu m=253
  ·have c:Hid (N=(m,1+2,0)):=za (by rw[b.out,zl h]);rw[h]at k;clear b i d n j h;go_enter xy,xi
   go_wp2_with fail
   refine l.out.mono ?_;rintro e w' ⟨rfl,rfl⟩;go_wp2_with fail
   refine k.out.mono ?_;rintro e w' ⟨rfl,rfl⟩;go_wp2;go_ret3
   exact⟨by rw[c.out];rfl,rfl⟩
  have c:Hid (N=(0,0,3)):=za (by rw[b.out,zj h]);have r:((bu m:Int) !=253)=true:=by rw[yQ];omega
  generalize bu m=F at*;clear b i d n j h;go_enter xy,xi
  go_wp2_with fail
  refine l.out.mono ?_;rintro e w' ⟨rfl,rfl⟩;go_wp2_with fail
  refine k.out.mono ?_;rintro e w' ⟨rfl,rfl⟩;go_wp2;go_ret3
  exact⟨by rw[c.out];rfl,rfl⟩
 ·have p:s[0].toNat=254:=o;have b:Hid (au s.data.toList=if(s.data.toList.drop 1).length<4 then(0,0,2)else if bu (cV ((s.data.toList.drop 1).take 4))=254 then(cV ((s.data.toList.drop 1).take 4),1+4,0)else(0,0,3)):=za (by
   rw[i];simp only[au,p];rfl)
  rw[zZ,aa]at b;generalize au s.data.toList=N at*;by_cases q:s.size<1+4
  ·have c:Hid (N=(0,0,2)):=za (by rw[b.out,zl (by omega)]);clear b i;go_enter xy,xi
   go_wp2;go_ret3
   exact⟨by rw[c.out];rfl,rfl⟩
  have d:(s.extract 1 (1+4)).data.toList=(s.data.toList.drop 1).take 4:=mP s 4;have n:(s.extract 1 (1+4)).size=4:=by rw[an s 1 (1+4) (by omega)]
  have l:=za (eP (s.extract 1 (1+4)) w (by omega) (by omega));rw[d]at l;have j:=jm ((s.data.toList.drop 1).take 4);rw[<-d,aa,n]at j;rw[d]at j;rw[zj (by omega)]at b;generalize cV ((s.data.toList.drop 1).take 4)=m at*;have k:=za (nD m w (by omega));by_cases h:bu m=254
  ·have c:Hid (N=(m,1+4,0)):=za (by rw[b.out,zl h]);rw[h]at k;clear b i d n j h;go_enter xy,xi
   go_wp2_with fail
   refine l.out.mono ?_;rintro e w' ⟨rfl,rfl⟩;go_wp2_with fail
   refine k.out.mono ?_;rintro e w' ⟨rfl,rfl⟩;go_wp2;go_ret3
   exact⟨by rw[c.out];rfl,rfl⟩
  have c:Hid (N=(0,0,3)):=za (by rw[b.out,zj h]);have r:((bu m:Int) !=254)=true:=by rw[yQ];omega
  generalize bu m=F at*;clear b i d n j h;go_enter xy,xi
  go_wp2_with fail
  refine l.out.mono ?_;rintro e w' ⟨rfl,rfl⟩;go_wp2_with fail
  refine k.out.mono ?_;rintro e w' ⟨rfl,rfl⟩;go_wp2;go_ret3
  exact⟨by rw[c.out];rfl,rfl⟩
 have p:s[0].toNat=255:=o;have b:Hid (au s.data.toList=if(s.data.toList.drop 1).length<8 then(0,0,2)else if bu (cV ((s.data.toList.drop 1).take 8))=255 then(cV ((s.data.toList.drop 1).take 8),1+8,0)else(0,0,3)):=za (by
  rw[i];simp only[au,p];rfl)
 rw[zZ,aa]at b;generalize au s.data.toList=N at*;by_cases q:s.size<1+8
 ·have c:Hid (N=(0,0,2)):=za (by rw[b.out,zl (by omega)]);clear b i;go_enter xy,xi
  go_wp2;go_ret3
  exact⟨by rw[c.out];rfl,rfl⟩
 have d:(s.extract 1 (1+8)).data.toList=(s.data.toList.drop 1).take 8:=mP s 8;have n:(s.extract 1 (1+8)).size=8:=by rw[an s 1 (1+8) (by omega)]
 have l:=za (eP (s.extract 1 (1+8)) w (by omega) (by omega));rw[d]at l;have j:=jm ((s.data.toList.drop 1).take 8);rw[<-d,aa,n]at j;rw[d]at j;rw[zj (by omega)]at b;generalize cV ((s.data.toList.drop 1).take 8)=m at*;have k:=za (nD m w (by omega));by_cases h:bu m=255
 ·have c:Hid (N=(m,1+8,0)):=za (by rw[b.out,zl h]);rw[h]at k;clear b i d n j h;go_enter xy,xi
  go_wp2_with fail
  refine l.out.mono ?_;rintro e w' ⟨rfl,rfl⟩;go_wp2_with fail
  refine k.out.mono ?_;rintro e w' ⟨rfl,rfl⟩;go_wp2;go_ret3
  exact⟨by rw[c.out];rfl,rfl⟩
 have c:Hid (N=(0,0,3)):=za (by rw[b.out,zj h]);have r:((bu m:Int) !=255)=true:=by rw[yQ];omega
 generalize bu m=F at*;clear b i d n j h;go_enter xy,xi
 go_wp2_with fail
 refine l.out.mono ?_;rintro e w' ⟨rfl,rfl⟩;go_wp2_with fail
 refine k.out.mono ?_;rintro e w' ⟨rfl,rfl⟩;go_wp2;go_ret3
 exact⟨by rw[c.out];rfl,rfl⟩
