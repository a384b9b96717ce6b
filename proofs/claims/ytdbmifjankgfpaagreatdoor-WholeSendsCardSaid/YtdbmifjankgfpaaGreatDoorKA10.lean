/- sha.Pad: the padding behind n bytes. -/
import Derived.Test.YtdbmifjankgfpaaGreatDoorKA7
set_option linter.all false
set_option maxRecDepth 100000
set_option maxHeartbeats 4000000
open Go.Proofs.Tryz
namespace Go.Proofs.YtdbmifjankgfpaaGreatDoor
open Go.RowKit
variable {w w' W:World}{m n k g:Nat}{s:ByteArray}{i d j e v:Value}{t:TypeId}{ops:Array Oper}{o:Oper}{a:Act}{Q:Exit->Act->World->Prop}{S:Nat->Prop}
def zp:=@World.size_alloc
def yQ:=@beq_iff_eq
def xe:=@ntmps216
def xq:=@func216
def xy:=@IntWalk.u64_in
def ZD:=@wpList_make_own
theorem jK (n sz:Nat)(w:World)(d:n<2^(8*sz))(i:1<=sz)(b:sz<=8):
 Calls prog 97 #[.int .u64 n,.int .i64 sz] w fun e w'=>e= .returned (.tuple #[.string ⟨(jw n sz).toArray⟩,.int .i64 0])/\Below w.heap.size w w':=by
 have o:=le_pow sz b;have k:=za (TP n sz w d i b);have m:=za (FC n sz w (by omega) b);clear d o;go_enter func97,ntmps97
 go_wp2_with fail
 refine k.out.mono ?_;rintro e w' ⟨rfl,rfl⟩;go_wp2_with fail
 refine m.out.mono ?_;rintro e w' ⟨rfl,c,h⟩;have p:=bP.str (P:=prog) (l:=jw n sz) (A:=some ⟨w.heap.size,0,none⟩) (cap:=sz) zr yq zM (by rw[bg];exact c);rw[bg]at p;have j:=h.below;clear c h;go_wp2;go_ret2
 exact⟨rfl,j⟩
theorem TQ (n b k:Nat)(d:b<256)(j:k<8)(c:n<2^(8*k)):
 bits .or .u64 (n:Int) (IntKind.u64.wrap (IntKind.u64.wrap (b:Int)*2^(8*k)))=((n+b*2^(8*k):Nat):Int):=by
 have h:=le_step n b k d c;have i:=le_pow (k+1) (by omega);have e:(b:Int)*2^(8*k)=((b*2^(8*k):Nat):Int):=by simp
 rw[xy (b:Int) (by omega),e,xy _ (by omega),u64_or_nat _ _ (by omega) (by omega),Vm _ _ _ c]
theorem fg (s:ByteArray)(w:World)(l:0<s.size)(o:s.size<=8):
 Calls prog 94 #[.string s] w fun e w'=>e= .returned (.tuple #[.int .u64 (du s.data.toList),.int .i64 0])/\w=w':=by
 have hz:((s.size:Int)==0)=false:=zm.2 (by omega);go_enter func94,ntmps94
 go_wp2;go_loop [5,15] (fun n i=>∃k m:Nat,k<=s.size/\Hid (m=du (s.data.toList.take k))/\n= .int .u64 m/\i= .int .i64 k) (fun _ i=>s.size-(intOf i).toNat)
 case atStart=>exact⟨0,0,by omega,rfl,rfl,rfl⟩
 case round=>
  obtain⟨k,m,d,b,rfl,rfl⟩:=hrel;by_cases j:k<s.size
  ·go_wp2;have h:=s[k].toNat_lt;have c:=jC (s.data.toList.take k);rw[length_take s k d,<-b.out]at c;have e:=TQ m s[k].toNat k h (by omega) c;go_round
   case rel=>
    refine⟨k+1,_,by omega,za rfl, ?_,by go_num⟩;rw[jt s k j,O6,length_take s k d,<-b.out,<-e]
   case measure=>simp[intOf];omega
  go_wp2;go_ret2
  exact⟨FD rfl (by rw[b.out,zv (by simp;omega)]),rfl⟩
theorem nr (s:ByteArray)(w:World)(b:s.size=0):
 Calls prog 94 #[.string s] w fun e w'=>e= .returned (.tuple #[.int .u64 0,.int .i64 1])/\w=w':=by
 go_enter func94,ntmps94
 go_wp2;go_ret2
 exact⟨rfl,rfl⟩
theorem P9 (m k d:Nat)(h:8*k+d=56):(#[Value.int .u8 ((m:Int)/2^d%256)]:Array Value).toList=cb [UInt8.ofNat (m/2^(56-8*k))]:=by
 have hd:56-8*k=d:=by omega
 rw[hd];simp[cb]
theorem acb (n:Nat)(w:World)(hn:n<=100000):
 Calls prog 191 #[.int .i64 n] w fun e w'=>e= .returned (.tuple #[.string (iG n),.int .i64 0])/\Below w.heap.size w w':=by
 obtain⟨i0,hi,H,B,E⟩:=yG ph;have l:Hid (iG n=⟨((128::List.replicate (dV n) 0)++fH (n*8)).toArray⟩):=za rfl;have hz:=sC n;have K:Hid (dV n=(64-(n+9)%64)%64):=za rfl;obtain⟨z,o⟩:∃z,dV n=z:=⟨_,rfl⟩
 have S:=za o;rw[o]at hz;obtain⟨m,C⟩:∃m,1+z=m:=⟨_,rfl⟩
 obtain⟨c,W⟩:∃c,m+8=c:=⟨_,rfl⟩
 have e1:(64-((n:Int)+9)%64)%64=(z:Int):=by have:=K.out;omega
 have e2:(1:Int)+(z:Int)=(m:Int):=by omega
 have e3:(m:Int)+8=(c:Int):=by omega
 have Z:m<=c:=by omega
 have J:=za C;clear o C W;have d1:decide ((n:Int)<0)=false:=zu (by omega);have d2:decide ((1099511627776:Int)<n)=false:=zu (by omega);go_enter func191,ntmps191
 go_wp2_with (at_make;refine mh _ (by rfl) _ _ 31 (by rfl) w.heap.size 5 i0 zr hi H B E .i64 .i64 m c (by rfl) (by rfl) Z (by omega) (zg _) ?_;intro w1 h r aa;obtain⟨Y,f0,g0,g1⟩:=h.at_ (k:=0) (by simp;omega))
 have N:Hid (bP (w1.setCell ⟨w.heap.size,0,none⟩ (.int .u8 128)) w.heap.size 5 (.slice (some ⟨w.heap.size,0,none⟩) m c) ((128::List.replicate z 0)++(fH (n*8)).take 0)):=za (by
  have:=h.set (k:=0) (by simp;omega) 128;have e:(List.replicate m (0:UInt8)).set 0 128=(128::List.replicate z 0)++(fH (n*8)).take 0:=by
   rw[<-J.out,Zo 1 z,ZI,zd];simp
  rw[e]at this;exact this)
 obtain⟨ad,fr,G,_⟩:=h.block;have O:=za (r.store (k:=0) G (zg _) (.int .u8 128));rw[S.out]at l;clear G h r aa Y f0;go_loopw [5,26] (fun v i wr=>∃k:Nat,k<=8/\i= .int .i64 k/\bP wr w.heap.size 5 v ((128::List.replicate z 0)++(fH (n*8)).take k)/\Kept 5 w.heap.size w wr) (fun _ i _=>8-(intOf i).toNat)
 case atStart=>exact⟨0,by omega,rfl,N.out,O.out⟩
 case round=>
  obtain⟨k,hk,rfl,b,j⟩:=hrel;obtain⟨A,L,cap,rfl,hL,ab,lH⟩:=b.cH;have D:=za j;have fG:=j.size;clear j;by_cases I:k<8
  ·obtain⟨d,hd⟩:∃d,56-8*k=d:=⟨_,rfl⟩
   have U:8*k+d=56:=by omega
   have e4:(56:Int)-8*(k:Int)=(d:Int):=by omega
   have p:=za (P9 (n*8) k d U);have Rq:((128::List.replicate z (0:UInt8))++(fH (n*8)).take k).length<=100:=by simp[iw];omega
   have M:Hid (((128::List.replicate z (0:UInt8))++(fH (n*8)).take k)++ [UInt8.ofNat (n*8/2^(56-8*k))]=(128::List.replicate z 0)++(fH (n*8)).take (k+1)):=za (by rw[Ey _ _ I,zB]);generalize ((128::List.replicate z (0:UInt8))++(fH (n*8)).take k)=LL at*;generalize UInt8.ofNat (n*8/2^(56-8*k))=s at*;simp only[Int.natCast_mul]at p;clear hd;go_wp2_with (at_builtin;refine aQ (by rfl) (.tmp 29) (.tmp 38) 31 31 (by rfl) w.heap.size 5 i0 zr hi H B E (by rfl) (b.alloc _) _ [s] (by rfl) (ue zr _ 5 _ [s] 1 _ (by rfl) p.out) (by simp only[zp];omega) (by simp;omega) ?_;intro A3 n3 nN w3 u y;have dB:=za u;have R:=za ((D.out.alloc (by omega) _).trans y);clear u y b)
   go_roundw
   case rel=>exact⟨k+1,by omega,by go_num,by rw[<-M.out];exact dB.out,R.out⟩
   case measure=>simp[intOf];omega
  have q:(fH (n*8)).take k=fH (n*8):=zv (by rw[iw];omega);rw[q]at b;have x:=b.EJ (P:=prog) zr yq zM;rw[<-l.out]at x;clear b q l;obtain⟨X,F⟩:∃X,Hid (iG n=X):=⟨_,za rfl⟩
  rw[F.out]at x;go_wp2;go_ret2
  exact⟨by rw[F.out];rfl,D.out.below⟩
theorem rM :(prog.info? 5).map (fun i=>(i.zero,i.size,i.bytes))=some (some (.int .u8 0),1,1):=by kernel_rfl
theorem acd :∀x:Fin 256,x.val|||128=x.val%128+128:=by decide+kernel
theorem Xg (m:Nat):bits .or .u8 ((m:Int)%256) 128=((m%128+128:Nat):Int):=by
 have h:=u8_or_nat (m%256) 128 (by omega) (by omega);have b:=acd ⟨m%256,by omega⟩;simp only at b;rw[b,show m%256%128=m%128 from by omega]at h;rw[<-h];rfl
theorem qz {pre:List UInt8}(h:pre++aR m=aR n)(b:128<=m):(pre++ [ub (m%128+128:Nat)])++aR (m/128)=aR n:=by
 rw[<-h,jv (n:=m) (by omega)];simp
theorem C0 {pre:List UInt8}(h:pre++aR m=aR n)(b:¬128<=m):pre++ [ub (m:Nat)]=aR n:=by
 rw[<-h,ie (n:=m) (by omega)]
theorem IW {pre:List UInt8}(h:pre++aR m=aR n)(e:n<18446744073709551616):pre.length<10:=by
 have d:=bB 10 n (by omega) (by omega);have c:=EK m;have b:=xu List.length h;simp only[zj]at b;omega
def Xh (n:Nat)(w:World)(b:Value)(x:Value)(wr:World):Prop:=
 ∃(m:Nat) (pre:List UInt8),pre++aR m=aR n/\m<18446744073709551616/\pre.length<10/\x= .int .u64 m/\bP wr w.heap.size 5 b pre/\Kept 5 w.heap.size w wr
theorem vE (n:Nat)(w:World)(r:n<18446744073709551616):
 Calls prog 111 #[.int .u64 n] w fun e w'=>e= .returned (.string ⟨(aR n).toArray⟩)/\Below w.heap.size w w':=by
 obtain⟨i0,hi,q,l,p⟩:=yG rM;go_enter func111,ntmps111
 go_wp2_with (at_make;refine ZD _ rfl _ _ 31 rfl w.heap.size 5 i0 (.int .u8 0) 1 zr hi q l .i64 .i64 _ 10 rfl rfl (by omega) (by rw[p];omega) (by simp only[maxLen];omega) (by omega) ?_;intro C y z)
 have u:bP C w.heap.size 5 (.slice (some ⟨w.heap.size,0,none⟩) 0 10) []:=bP.own y;have s:Kept 5 w.heap.size w C:=Kept.Ks z (zg _);clear y z;go_loopw [3,0] (fun b x wr=>Xh n w b x wr) (fun _ x _=>(intOf x).toNat)
 case atStart=>exact⟨n,[],rfl,r,by simp,rfl,u,s⟩
 case round=>
  obtain⟨m,pre,B,M,J,rfl,h,k⟩:=hrel;have i:=za B;have K:=k.size;obtain⟨A,cap,rfl,I,L⟩:=h.form;clear B u s;by_cases j:128<=m
  ·go_wp2_with (at_builtin;refine aQ (by rfl) (.tmp 7) (.tmp 11) 31 31 (by rfl) w.heap.size 5 i0 zr hi q l p (by rfl) (h.alloc _) _ [ub (m%128+128:Nat)] (by rfl) (ka zr wr 5 _ [ub (m%128+128:Nat)] 1 (o6 (Xg m) (by omega))) (by rw[zp];omega) (by simp only[zy,zL];omega) ?_)
   intro E D H F c d;have G:=za c;have o:=za ((k.alloc (by omega) _).trans d);clear c d;go_wp2;go_roundw
   case rel=>exact⟨m/128,_,qz i.out j,by omega,IW (qz i.out j) r,by go_num,G.out,o.out⟩
   case measure=>simp[intOf];omega
  go_wp2_with (at_builtin;refine aQ (by rfl) (.tmp 15) (.tmp 18) 31 31 (by rfl) w.heap.size 5 i0 zr hi q l p (by rfl) (h.alloc _) _ [ub (m:Nat)] (by rfl) (ka zr wr 5 _ [ub (m:Nat)] 1 (o6 rfl (by omega))) (by rw[zp];omega) (by simp only[zy,zL];omega) ?_)
  intro E D H F c d;rw[C0 i.out j]at c;have o:=za ((k.alloc (by omega) _).trans d);have N:=c.EJ (P:=prog) zr yq zM;clear d c;go_wp2;go_ret;exact⟨rfl,o.out.below⟩
theorem vF (m b k:Nat)(h:b<256)(d:k<=9)(c:m<2^(7*k))(i:¬((k=9/\1<b)\/(0<k/\b=0))):
 bits .or .u64 (m:Int) (IntKind.u64.wrap (IntKind.u64.wrap (bits .and .u8 (b:Int) 127)*2^(7*k)))=((m+b%128*2^(7*k):Nat):Int):=by
 have e:bits .and .u8 (b:Int) 127=((b%128:Nat):Int):=by
  have:=u8_and_nat b 127 h (by omega);rw[nat_mask7]at this;exact this
 have l:=Es m b k d c i;have n:=Kp k d;have j:((b%128:Nat):Int)*2^(7*k)=((b%128*2^(7*k):Nat):Int):=by simp
 rw[e,xy ((b%128:Nat):Int) (by omega),j,xy _ (by omega),u64_or_nat _ _ (by omega) (by omega),WL _ _ _ c]
theorem uk {a b:Nat}{c:Int}{x:Nat×Nat×Int}{v:Int}(h:x=(a,b,c))(d:v=(a:Int)):Ending.returned (.tuple #[.int .u64 v,.int .i64 b,.int .i64 c])= .returned (.tuple #[.int .u64 x.1,.int .i64 x.2.1,.int .i64 x.2.2]):=by
 subst h;subst d;rfl
theorem P' {x:Nat×Nat×Int}(e:k<s.size)(h:k<=8)(d:cw s (10-k) k m=x)(c:¬((k=9/\1<s[k].toNat)\/(0<k/\s[k].toNat=0)))(b:¬s[k].toNat<128):
 cw s (10-(k+1)) (k+1) (m+s[k].toNat%128*2^(7*k))=x:=by
 rw[<-d,show 10-k=(10-(k+1))+1 from by omega,jE s _ k m e c b]
theorem FE {x:Nat×Nat×Int}(e:k<s.size)(h:k<=9)(d:cw s (10-k) k m=x)(c:¬((k=9/\1<s[k].toNat)\/(0<k/\s[k].toNat=0)))(b:s[k].toNat<128):
 x=(m+s[k].toNat%128*2^(7*k),k+1,0):=by
 rw[<-d,show 10-k=(9-k)+1 from by omega,jD s _ k m e c b]
theorem Xi {x:Nat×Nat×Int}(d:k<s.size)(e:k<=9)(c:cw s (10-k) k m=x)(b:(k=9/\1<s[k].toNat)\/(0<k/\s[k].toNat=0)):x=(0,0,3):=by
 rw[<-c,show 10-k=(9-k)+1 from by omega,nR s _ k m d b]
theorem Qa {x:Nat×Nat×Int}(d:k<=s.size)(e:¬(k<s.size/\k<10))(c:k<=10)(b:cw s (10-k) k m=x):x=(0,0,2):=by
 rw[<-b];rcases xG k 10 with h|h
 ·exact ju s _ k m (by omega)
 rw[show 10-k=0 from by omega];rfl
theorem Qb (k b:Nat)(c:k<10):
 (((k=9/\1<b)\/(0<k/\b=0))/\((((k:Int)==9)=true/\1<b)\/(((k:Int)==9)=true/\b<=1/\0<k/\((b:Int)==0)=true)\/(((k:Int)==9)=false/\0<k/\((b:Int)==0)=true)))\/
 ((¬((k=9/\1<b)\/(0<k/\b=0)))/\((((k:Int)==9)=true/\b<=1/\0<k/\((b:Int)==0)=false)\/(((k:Int)==9)=false/\0<k/\((b:Int)==0)=false/\k<=8)\/(((k:Int)==9)=false/\k<=0))):=by
 simp only[yQ,zY,yX,zm,ne_eq];omega
theorem rN (s:ByteArray)(w:World)(B:s.size<=9223372036854775807):
 Calls prog 115 #[.string s] w fun e w'=>e= .returned (.tuple #[.int .u64 (aA s).1,.int .i64 (aA s).2.1,.int .i64 (aA s).2.2])/\w=w':=by
 by_cases A:s.size<=10;all_goals
  go_enter func115,ntmps115
  go_wp2;go_loop [5,11] (fun n i=>∃k m:Nat,k<=10/\k<=s.size/\Hid (m<2^(7*k))/\Hid (cw s (10-k) k m=aA s)/\n= .int .u64 m/\i= .int .i64 k) (fun _ i=>10-(intOf i).toNat)
  case atStart=>exact⟨0,0,by omega,by omega,za (by simp),rfl,rfl,rfl⟩
  case round=>
   obtain⟨k,m,x,y,o,h,rfl,rfl⟩:=hrel;by_cases c:k<s.size/\k<10
   ·obtain⟨c,z⟩:=c;rcases Qb k s[k].toNat z with⟨j,r⟩|⟨j,r⟩
    ·have b:=za j;clear j;rcases r with⟨l,d⟩|⟨l,d,q,u⟩|⟨l,d,q⟩;all_goals
      go_wp2;go_ret3
      exact⟨uk (Xi c (by omega) h.out b.out) rfl,rfl⟩
    have b:=za j;clear j;have p:=za (s[k].toNat_lt);rcases r with⟨l,d,q,u⟩|⟨l,d,q,u⟩|⟨l,d⟩
    ·go_wp2;go_ret3
     exact⟨uk (FE c (by omega) h.out b.out (by omega)) (vF m _ k p.out (by omega) o.out b.out),rfl⟩
    all_goals
     go_wp2
     ·go_ret3
      exact⟨uk (FE c (by omega) h.out b.out (by omega)) (vF m _ k p.out (by omega) o.out b.out),rfl⟩
     go_round
     case rel=>exact⟨k+1,_,by omega,by omega,za (uK m s[k].toNat k o.out),za (P' c (by omega) h.out b.out (by omega)),by rw[vF m _ k p.out (by omega) o.out b.out],by go_num⟩
     case measure=>simp[intOf];omega
   go_wp2;go_ret3
   exact⟨uk (Qa y c x h.out) rfl,rfl⟩
def bj (w:World):Prop:=w.cell? ⟨0,0,none⟩=some (.int .i64 2)/\w.cell? ⟨0,1,none⟩=some (.int .i64 4)/\w.cell? ⟨0,2,none⟩=some (.int .i64 8)
theorem bj.pos (h:bj w):0<w.heap.size:=lt_of_cell h.1
theorem bj.same (h:bj w)(b:w'.heap[0]?=w.heap[0]?):bj w':=
 ⟨(zF b).trans h.1,(zF b).trans h.2.1,(zF b).trans h.2.2⟩
theorem bj.below {B:Nat}(h:bj w)(c:Below B w w')(b:0<B):bj w':=h.same (c.block 0 b)
theorem bj.only {L:List Nat}(h:bj w)(b:ae L w w')(c:0∉L):bj w':=h.same (b.block 0 h.pos c)
theorem KT (n:Nat):(n<253/\bw n=n)\/(¬n<253/\n<65536/\bw n=253)\/(¬n<253/\¬n<65536/\n<4294967296/\bw n=254)\/(¬n<253/\¬n<65536/\¬n<4294967296/\bw n=255):=by
 unfold bw;split
 ·exact .inl ⟨‹_›,rfl⟩
 split
 ·exact .inr (.inl ⟨‹_›,‹_›,rfl⟩)
 split
 ·exact .inr (.inr (.inl ⟨‹_›,‹_›,‹_›,rfl⟩))
 exact .inr (.inr (.inr ⟨‹_›,‹_›,‹_›,rfl⟩))
theorem nX (n:Nat)(w:World)(k:n<18446744073709551616):
 Calls prog 215 #[.int .u64 n] w fun e w'=>e= .returned (.int .u8 (bw n))/\w=w':=by
 rcases KT n with⟨b,e⟩|⟨b,d,e⟩|⟨b,d,j,e⟩|⟨b,d,j,e⟩
 ·rw[e];clear e;have c:decide ((n:Int)<253)=true:=zD (by omega);go_enter func215,ntmps215
  go_wp2;go_ret;exact⟨by go_num,rfl⟩
 ·rw[e];clear e;have c:decide ((n:Int)<253)=false:=zu (by omega);have h:decide ((n:Int)<65536)=true:=zD (by omega);go_enter func215,ntmps215
  go_wp2;go_ret;exact⟨by go_num,rfl⟩
 ·rw[e];clear e;have c:decide ((n:Int)<253)=false:=zu (by omega);have h:decide ((n:Int)<65536)=false:=zu (by omega);have i:decide ((n:Int)<4294967296)=true:=zD (by omega);go_enter func215,ntmps215
  go_wp2;go_ret;exact⟨by go_num,rfl⟩
 rw[e];clear e;have c:decide ((n:Int)<253)=false:=zu (by omega);have h:decide ((n:Int)<65536)=false:=zu (by omega);have i:decide ((n:Int)<4294967296)=false:=zu (by omega);go_enter func215,ntmps215
 go_wp2;go_ret;exact⟨by go_num,rfl⟩
theorem FF (h:n<253):dF n= [ub n]:=by unfold dF;rw[zi h]
theorem nt {f:Nat}(h:¬n<253)(c:bw n=f)(b:bo f=k):(⟨#[ub f]⟩++⟨(jw n k).toArray⟩:ByteArray)=⟨(dF n).toArray⟩:=
 aF (by rw[aU];unfold dF;rw[zh h,c,b];rfl)
theorem KU (n:Nat)(w:World)(c:n<18446744073709551616)(o:bj w):
 Calls prog 180 #[.int .u64 n] w fun e w'=>e= .returned (.string ⟨(dF n).toArray⟩)/\Below w.heap.size w w':=by
 have u:=o.pos;obtain⟨r,q,s⟩:=o;have d:=za (nX n w c);have k1:=fun(w:World) (a:Int)=>Pl zr yq zM w a
 rcases KT n with⟨b,e⟩|⟨b,m,e⟩|⟨b,m,p,e⟩|⟨b,m,p,e⟩
 ·have h:=za (FF b);rw[e]at d;clear e c r q s;go_enter func180,ntmps180
  go_wp2_with fail
  refine d.out.mono ?_;rintro e w' ⟨rfl,rfl⟩;go_wp2;go_ret;exact⟨nS (by rw[h.out]),bD⟩
 ·have j:=za (fun w=>jK n 2 w (by have:=ug b c;rw[e]at this;simpa[bo]using this) (by omega) (by omega));have h:=za (nt (k:=2) b e (by decide));have l:(⟨(jw n 2).toArray⟩:ByteArray).size=2:=by rw[bI,bg]
  generalize (⟨(jw n 2).toArray⟩:ByteArray)=T at*;rw[e]at d;clear e c;go_enter func180,ntmps180
  go_wp2_with fail
  refine d.out.mono ?_;rintro e w' ⟨rfl,rfl⟩;go_wp2_with fail
  refine(j.out _).mono ?_;rintro e w' ⟨rfl,i⟩;go_wp2;go_ret;exact⟨nS (by rw[<-h.out];rfl),((zl w.heap.size w).alloc (zg _) _).trans (i.mono (by simp))⟩
 ·have j:=za (fun w=>jK n 4 w (by have:=ug b c;rw[e]at this;simpa[bo]using this) (by omega) (by omega));have h:=za (nt (k:=4) b e (by decide));have l:(⟨(jw n 4).toArray⟩:ByteArray).size=4:=by rw[bI,bg]
  generalize (⟨(jw n 4).toArray⟩:ByteArray)=T at*;rw[e]at d;clear e c;go_enter func180,ntmps180
  go_wp2_with fail
  refine d.out.mono ?_;rintro e w' ⟨rfl,rfl⟩;go_wp2_with fail
  refine(j.out _).mono ?_;rintro e w' ⟨rfl,i⟩;go_wp2;go_ret;exact⟨nS (by rw[<-h.out];rfl),((zl w.heap.size w).alloc (zg _) _).trans (i.mono (by simp))⟩
 have j:=za (fun w=>jK n 8 w (by have:=ug b c;rw[e]at this;simpa[bo]using this) (by omega) (by omega));have h:=za (nt (k:=8) b e (by decide));have l:(⟨(jw n 8).toArray⟩:ByteArray).size=8:=by rw[bI,bg]
 generalize (⟨(jw n 8).toArray⟩:ByteArray)=T at*;rw[e]at d;clear e c;go_enter func180,ntmps180
 go_wp2_with fail
 refine d.out.mono ?_;rintro e w' ⟨rfl,rfl⟩;go_wp2_with fail
 refine(j.out _).mono ?_;rintro e w' ⟨rfl,i⟩;go_wp2;go_ret;exact⟨nS (by rw[<-h.out];rfl),((zl w.heap.size w).alloc (zg _) _).trans (i.mono (by simp))⟩
def B8 (N:Nat×Nat×Int):Ending:= .returned (.tuple #[.int .u64 N.1,.int .i64 N.2.1,.int .i64 N.2.2])
theorem nw (s:ByteArray)(k:Nat):(s.extract 1 (1+k)).data.toList=(s.data.toList.drop 1).take k:=by
 simp[ByteArray.extract,ByteArray.copySlice,Array.toList_extract]
theorem Qc (s:ByteArray)(w:World)(G:s.size<=9223372036854775807)(x:bj w):
 Calls prog 216 #[.string s] w fun e w'=>e=B8 (aw s.data.toList)/\w=w':=by
 obtain⟨B,A,C⟩:=x;unfold B8;rcases eu s with⟨z,rfl⟩|⟨z,D,E⟩
 ·go_enter xq,xe
  go_wp2;go_ret3
  exact⟨rfl,rfl⟩
 have y:0<s.size:=by omega
 have i:=drop_cons s 0 y;rw[zJ]at i;have o:=s[0].toNat_lt;by_cases u:s[0].toNat<253
 ·have c:Hid (aw s.data.toList=(s[0].toNat,1,0)):=za (by rw[i];simp only[aw,zi u]);generalize aw s.data.toList=N at*;clear i;go_enter xq,xe
  go_wp2;go_ret3
  exact⟨by rw[c.out];rfl,rfl⟩
 rcases(show s[0].toNat=253\/s[0].toNat=254\/s[0].toNat=255 by omega)with o|o|o
 ·have p:s[0].toNat=253:=o;have b:Hid (aw s.data.toList=if(s.data.toList.drop 1).length<2 then(0,0,2)else if bw (du ((s.data.toList.drop 1).take 2))=253 then(du ((s.data.toList.drop 1).take 2),1+2,0)else(0,0,3)):=za (by
   rw[i];simp only[aw,p];rfl)
  rw[zS,aa]at b;generalize aw s.data.toList=N at*;by_cases r:s.size<1+2
  ·have c:Hid (N=(0,0,2)):=za (by rw[b.out,zi (by omega)]);clear b i;go_enter xq,xe
   go_wp2;go_ret3
   exact⟨by rw[c.out];rfl,rfl⟩
  have d:(s.extract 1 (1+2)).data.toList=(s.data.toList.drop 1).take 2:=nw s 2;have l:(s.extract 1 (1+2)).size=2:=by rw[aq s 1 (1+2) (by omega)]
  have n:=za (fg (s.extract 1 (1+2)) w (by omega) (by omega));rw[d]at n;have j:=jC ((s.data.toList.drop 1).take 2);rw[<-d,aa,l]at j;rw[d]at j;rw[zh (by omega)]at b;generalize du ((s.data.toList.drop 1).take 2)=m at*;have k:=za (nX m w (by omega));by_cases h:bw m=253
  ·have c:Hid (N=(m,1+2,0)):=za (by rw[b.out,zi h]);rw[h]at k;clear b i d l j h;go_enter xq,xe
   go_wp2_with fail
   refine n.out.mono ?_;rintro e w' ⟨rfl,rfl⟩;go_wp2_with fail
   refine k.out.mono ?_;rintro e w' ⟨rfl,rfl⟩;go_wp2;go_ret3
   exact⟨by rw[c.out];rfl,rfl⟩
  have c:Hid (N=(0,0,3)):=za (by rw[b.out,zh h]);have q:((bw m:Int) !=253)=true:=by rw[yO];omega
  generalize bw m=F at*;clear b i d l j h;go_enter xq,xe
  go_wp2_with fail
  refine n.out.mono ?_;rintro e w' ⟨rfl,rfl⟩;go_wp2_with fail
  refine k.out.mono ?_;rintro e w' ⟨rfl,rfl⟩;go_wp2;go_ret3
  exact⟨by rw[c.out];rfl,rfl⟩
 ·have p:s[0].toNat=254:=o;have b:Hid (aw s.data.toList=if(s.data.toList.drop 1).length<4 then(0,0,2)else if bw (du ((s.data.toList.drop 1).take 4))=254 then(du ((s.data.toList.drop 1).take 4),1+4,0)else(0,0,3)):=za (by
   rw[i];simp only[aw,p];rfl)
  rw[zS,aa]at b;generalize aw s.data.toList=N at*;by_cases r:s.size<1+4
  ·have c:Hid (N=(0,0,2)):=za (by rw[b.out,zi (by omega)]);clear b i;go_enter xq,xe
   go_wp2;go_ret3
   exact⟨by rw[c.out];rfl,rfl⟩
  have d:(s.extract 1 (1+4)).data.toList=(s.data.toList.drop 1).take 4:=nw s 4;have l:(s.extract 1 (1+4)).size=4:=by rw[aq s 1 (1+4) (by omega)]
  have n:=za (fg (s.extract 1 (1+4)) w (by omega) (by omega));rw[d]at n;have j:=jC ((s.data.toList.drop 1).take 4);rw[<-d,aa,l]at j;rw[d]at j;rw[zh (by omega)]at b;generalize du ((s.data.toList.drop 1).take 4)=m at*;have k:=za (nX m w (by omega));by_cases h:bw m=254
  ·have c:Hid (N=(m,1+4,0)):=za (by rw[b.out,zi h]);rw[h]at k;clear b i d l j h;go_enter xq,xe
   go_wp2_with fail
   refine n.out.mono ?_;rintro e w' ⟨rfl,rfl⟩;go_wp2_with fail
   refine k.out.mono ?_;rintro e w' ⟨rfl,rfl⟩;go_wp2;go_ret3
   exact⟨by rw[c.out];rfl,rfl⟩
  have c:Hid (N=(0,0,3)):=za (by rw[b.out,zh h]);have q:((bw m:Int) !=254)=true:=by rw[yO];omega
  generalize bw m=F at*;clear b i d l j h;go_enter xq,xe
  go_wp2_with fail
  refine n.out.mono ?_;rintro e w' ⟨rfl,rfl⟩;go_wp2_with fail
  refine k.out.mono ?_;rintro e w' ⟨rfl,rfl⟩;go_wp2;go_ret3
  exact⟨by rw[c.out];rfl,rfl⟩
 have p:s[0].toNat=255:=o;have b:Hid (aw s.data.toList=if(s.data.toList.drop 1).length<8 then(0,0,2)else if bw (du ((s.data.toList.drop 1).take 8))=255 then(du ((s.data.toList.drop 1).take 8),1+8,0)else(0,0,3)):=za (by
  rw[i];simp only[aw,p];rfl)
 rw[zS,aa]at b;generalize aw s.data.toList=N at*;by_cases r:s.size<1+8
 ·have c:Hid (N=(0,0,2)):=za (by rw[b.out,zi (by omega)]);clear b i;go_enter xq,xe
  go_wp2;go_ret3
  exact⟨by rw[c.out];rfl,rfl⟩
 have d:(s.extract 1 (1+8)).data.toList=(s.data.toList.drop 1).take 8:=nw s 8;have l:(s.extract 1 (1+8)).size=8:=by rw[aq s 1 (1+8) (by omega)]
 have n:=za (fg (s.extract 1 (1+8)) w (by omega) (by omega));rw[d]at n;have j:=jC ((s.data.toList.drop 1).take 8);rw[<-d,aa,l]at j;rw[d]at j;rw[zh (by omega)]at b;generalize du ((s.data.toList.drop 1).take 8)=m at*;have k:=za (nX m w (by omega));by_cases h:bw m=255
 ·have c:Hid (N=(m,1+8,0)):=za (by rw[b.out,zi h]);rw[h]at k;clear b i d l j h;go_enter xq,xe
  go_wp2_with fail
  refine n.out.mono ?_;rintro e w' ⟨rfl,rfl⟩;go_wp2_with fail
  refine k.out.mono ?_;rintro e w' ⟨rfl,rfl⟩;go_wp2;go_ret3
  exact⟨by rw[c.out];rfl,rfl⟩
 have c:Hid (N=(0,0,3)):=za (by rw[b.out,zh h]);have q:((bw m:Int) !=255)=true:=by rw[yO];omega
 generalize bw m=F at*;clear b i d l j h;go_enter xq,xe
 go_wp2_with fail
 refine n.out.mono ?_;rintro e w' ⟨rfl,rfl⟩;go_wp2_with fail
 refine k.out.mono ?_;rintro e w' ⟨rfl,rfl⟩;go_wp2;go_ret3
 exact⟨by rw[c.out];rfl,rfl⟩
theorem qA {K:Act->World->Prop}{J:Prop}(F:o.guard=none)(s x:Operand)
 (G:o.op= .call {callee:= .builtin .append,args:= #[s,x],argTypes:= #[26,26]}) (c:Nat) (acc:List It)  (W:a.eval s=v) (E:Acc w c acc v) (y:It) {h:Value}
 (q:ga w (fun k=>c<=k/\v.ownBlock≠some k) y i d h) (g:Nat) (hx:a.eval x= .slice (some ⟨g,0,none⟩) 1 1) (M:w.cell? ⟨g,0,none⟩=some i) (I:w.cell? ⟨g,1,none⟩=some d) (D:w.cell? ⟨g,2,none⟩=some h)
 (X:acc.length<=1000000) (R:c<=w.heap.size)
 (L:∀b m cap w',Hid (m=acc.length+1)->Acc w' c (acc++ [y]) (.slice (some ⟨b,0,none⟩) m cap)->w.grownBy w' v.ownBlock->c<=b->K (a.put o.dst (.slice (some ⟨b,0,none⟩) m cap)) w'):
 if Region.wanted o (yielded ops a.tmps)=true then Oper.wp prog o a w K Q else J:=by
 obtain⟨i0,hi,U,H,S⟩:=yG B7;obtain⟨z,N,A⟩:=E;refine step_append_lies w F s x 26 G c 28 i0 _ 3 48 underlying26 hi U H S rfl (by decide) v acc.length z W N ⟨g,0,none⟩ 1 1 [i,d,h] hx rfl ?_ (agm q) (by decide) (by simp only[maxLen];omega) (by omega) R w.heap.size rfl ?_
 ·intro j u hu;have C:∀j,(⟨g,0,none⟩:Addr).add j=⟨g,j,none⟩:=by intro j;unfold Addr.add;split<;>simp_all
  rw[C];match j,hu with
  |0,hu=>simp at hu;subst hu;exact M
  |1,hu=>simp at hu;subst hu;exact I
  |2,hu=>simp at hu;subst hu;exact D
 intro b cap w' r n l Y;have O:=IU r b rfl;refine L b _ cap w' (za rfl) ⟨z++ [i,d,h],by rw[zj];exact r, ?_⟩ n O;refine((A.snoc q).ag (fun k Z hS=>⟨hS.1, ?_⟩) fun p B hS=>zF (n.block _ B (fun e=>hS.2 e.symm)));intro e;have e:b=k:=by simpa[Value.ownBlock]using e
 rcases l with l|l
 ·exact hS.2 (by rw[l,e])
 omega
theorem kr {a b c:Value}(h:af w g t #[a,b,c]):w.cell? ⟨g,0,none⟩=some a/\w.cell? ⟨g,1,none⟩=some b/\w.cell? ⟨g,2,none⟩=some c:=⟨h.cell 0,h.cell 1,h.cell 2⟩
theorem ace {c t3 b:Value}(h:(w.alloc (.cells #[j,i,c,t3] 43)).alloc (.cells #[b,e,d] 28)=W):
 W.heap.size=w.heap.size+2/\Below w.heap.size w W/\af W w.heap.size 43 #[j,i,c,t3]/\af W (w.heap.size+1) 28 #[b,e,d]:=by
 subst h;exact⟨by simp,((zl _ w).alloc (zg _) _).alloc (by simp) _,(af.new w _ _).alloc _,af.at_ (by simp)⟩
def vG (w w':World)(x:It)(er:Int)(e:Ending):Prop:=
 Below w.heap.size w w'/\∃c0 c1 c2,e= .returned (.tuple #[.agg #[c0,c1,c2],.int .i64 er])/\ga w' (w.heap.size<= ·) x c0 c1 c2
theorem ny (w:World)(S:Nat->Prop):ga w S jk (.string ⟨#[]⟩) (.bool false) (.slice none 0 0):=ga.text false (by simp[ByteArray.size])
theorem ago {b c:Value}(h:W=w.alloc (.cells #[b,d,c] 28)):Below w.heap.size w W/\W.heap.size=w.heap.size+1/\af W w.heap.size 28 #[b,d,c]:=by
 subst h;exact⟨(zl _ _).alloc (zg _) _,by simp,af.new w _ _⟩
theorem ef (h:af w g t #[i,j,e])(c b d:Value):af (((w.setCell ⟨g,0,none⟩ c).setCell ⟨g,1,none⟩ b).setCell ⟨g,2,none⟩ d) g t #[c,b,d]:=((h.set 0 c).set 1 b).set 2 d
theorem fz (h:af w g t #[i,j,e])(b c d:Value):(w.setCell ⟨g,0,none⟩ b).cell? ⟨g,0,none⟩=some b/\((w.setCell ⟨g,0,none⟩ b).setCell ⟨g,1,none⟩ c).cell? ⟨g,1,none⟩=some c/\(((w.setCell ⟨g,0,none⟩ b).setCell ⟨g,1,none⟩ c).setCell ⟨g,2,none⟩ d).cell? ⟨g,2,none⟩=some d:=
 ⟨by have:=(h.set 0 b).cell 0;simpa using this,by have:=((h.set 0 b).set 1 c).cell 1;simpa using this,by have:=(((h.set 0 b).set 1 c).set 2 d).cell 2;simpa using this⟩
theorem Qd (w:World)(B:Nat)(t:ByteArray)(l:Bool)(h:t.size<=9223372036854775807):bT w B (.mk t l []) (.string t) (.bool l) (.slice none 0 0):=⟨rfl,rfl,h,by simp,none,0,rfl,by simp,by simp,trivial⟩
def FG (w:World)(R:Option Ty)(e:Ending)(w':World):Prop:=
 Below w.heap.size w w'/\match R with
  |none=>e= .returned (.tuple #[.agg #[.int .i64 0,.int .i64 0,.slice none 0 0,.int .i64 0],.int .i64 3])
  |some x=>∃c0 c1 c2 c3,e= .returned (.tuple #[.agg #[c0,c1,c2,c3],.int .i64 0])/\fE w' (w.heap.size<= ·) x c0 c1 c2 c3
theorem fK.append {t:List Ms}{c:List Value}(d:fK w S t c):∀{s:List Ms} {b:List Value},fK w S s b->fK w S (s++t) (b++c)
 | [],b,h=>by
  have h:b= []:=h;subst h;exact d
 |x::xs,b,h=>by
  obtain⟨j,m,i,l,es,rfl,e,k⟩:=h;exact⟨j,m,i,l,es++c,by simp,e,d.append k⟩
theorem fK.one :∀{s:List Ms} {b:List Value},fK w S s b->∀u∈b,u.oneCell'=true
 | [],b,h=>by
  have h:b= []:=h;subst h;simp
 |x::xs,b,h=>by
  obtain⟨i,l,e,k,es,rfl,d,j⟩:=h;intro u hu;have c:=Vu d;rcases(by simpa using hu:u=i\/u=l\/u=e\/u=k\/u∈es)with rfl|rfl|rfl|rfl|h
  ·exact c _ (by simp)
  ·exact c _ (by simp)
  ·exact c _ (by simp)
  ·exact c _ (by simp)
  exact j.one u h
theorem pj {rest:List Oper}(G:o.guard=none)(s x:Operand)
 (H:o.op= .call {callee:= .builtin .append,args:= #[s,x],argTypes:= #[50,50]}) (D S1:Nat->Prop) (q GJ:Nat) (acc b:List Ms) {l:Value} (O:a.eval s=v) (B:cW w D q acc v) (hx:a.eval x=l) (Z:cW w S1 GJ b l)
 (YE:∀k,S1 k->D k) (J:∀k,v.ownBlock=some k->¬S1 k) (ab:acc.length+b.length<=1000000) (ox:q<=w.heap.size)
 (L:∀r d cap w',Hid (d=(acc++b).length)->cW w' D q (acc++b) (.slice r d cap)->w.grownBy w' v.ownBlock->((Value.slice r d cap).ownBlock=v.ownBlock\/∃k,(Value.slice r d cap).ownBlock=some k/\w.heap.size<=k)->wpList prog ops Q rest (a.put o.dst (.slice r d cap)) w'):wpList prog ops Q (o::rest) a w:=by
 obtain⟨i0,hi,X,cc,cE⟩:=yG Fz;obtain⟨E,f1,f2⟩:=Z;by_cases C:b= []
 ·subst C;obtain⟨A,n,cap,rfl,R,Y,_⟩:=cW.cH B;have U:Src prog i0.size 50 l 0 [] w:=by
   rcases f1.2 with⟨c,_⟩|⟨I,K,aa,c,_⟩
   ·rw[c];exact Src.ofNil w Zl 0
   rw[c];exact Src.ofSlice w Zl _ _ _ [] (by simp) (by simp) (by simp)
  have ou:=Yp (P:=prog) w 50 50 o.type 30 i0 Zl hi A n cap Y l U;refine wpList_plain G fun ad W=> ?_
  unfold Oper.wp;simp[execOp,H,resolve,invoke,builtin,O,hx,ou,Result.andThen];exact W _ _ (L A n cap w (by simpa using R) (by simpa using B) (World.grownBy.refl _ _) (.inl rfl))
 rcases f1.2 with⟨c,e2⟩|⟨I,K,aa,c,jS,hh,_⟩
 ·exact absurd (zo e2) C
 subst c;have h0:0<b.length:=List.length_pos_iff.2 C;obtain⟨M,h1,S⟩:=B;refine yW w G s x 50 H q 30 i0 _ 4 64 Zl hi X cc cE rfl (by decide) v acc.length M O h1 ⟨I,0,none⟩ b.length K E hx f1.1 (fun j u hu=>f1.cells rfl j u hu) f2.one h0 (by simp only[maxLen];omega) (by omega) ox w.heap.size rfl ?_;intro g2 F w' uy z i aC;have e:(acc++b).length=acc.length+b.length:=by simp
 refine L _ _ F w' (za e.symm) ⟨M++E,by rw[e];exact uy, ?_⟩ z (by
  rcases i with h|h
  ·exact .inl h.symm
  exact .inr ⟨g2,rfl,by omega⟩)
 have N:∀k,k<w.heap.size->v.ownBlock≠some k->(Value.slice (some ⟨g2,0,none⟩) (acc.length+b.length) F).ownBlock≠some k:=by
  intro k m hv e;have e:g2=k:=by simpa[Value.ownBlock]using e
  rcases i with i|i
  ·exact hv (by rw[i,e])
  omega
 refine fK.append ?_ ?_
 ·exact f2.ag (fun k m hS=>⟨YE k hS.1,N k m (fun e=>J k e hS.1)⟩) fun p y hS=>zF (z.block _ y (fun e=>J _ e.symm hS.1))
 exact S.ag (fun k m hS=>⟨hS.1,N k m hS.2⟩) fun p y hS=>zF (z.block _ y (fun e=>hS.2 e.symm))
