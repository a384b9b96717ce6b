/- sha.Pad: the padding behind n bytes. -/
import Derived.Test.YtpjgigllldipiaaGreatDoorKA7
set_option linter.all false
set_option maxRecDepth 100000
set_option maxHeartbeats 4000000
namespace Go.Proofs.YtpjgigllldipiaaGreatDoor
open Go.RowKit
def zu:=@World.size_alloc
def xh:=@beq_iff_eq
def xo:=@Tryz.ntmps184
def xD:=@Tryz.func184
def Zc:=@IntWalk.u64_in
def ZP:=@wpList_make_own
theorem jA (n sz:Nat)(w:World)(c:n<2^(8*sz))(m:1<=sz)(b:sz<=8):
 Calls Tryz.prog 104 #[.int .u64 n,.int .i64 sz] w fun e w'=>e= .returned (.tuple #[.string ⟨(jk n sz).toArray⟩,.int .i64 0])/\Below w.heap.size w w':=by
 have p:=le_pow sz b;have o:=za (S7 n sz w c m b);have k:=za (Fa n sz w (by omega) b);clear c p;go_enter Tryz.func104,Tryz.ntmps104
 go_wp2_with fail
 refine o.out.mono ?_;rintro e w' ⟨rfl,rfl⟩;go_wp2_with fail
 refine k.out.mono ?_;rintro e w' ⟨rfl,d,h⟩;have i:=bJ.str (P:=Tryz.prog) (l:=jk n sz) (A:=some ⟨w.heap.size,0,none⟩) (cap:=sz) zx yB zT (by rw[bd];exact d);rw[bd]at i;have j:=h.below;clear d h;go_wp2;go_ret2
 exact⟨rfl,j⟩
theorem Te (n b k:Nat)(e:b<256)(i:k<8)(c:n<2^(8*k)):
 bits .or .u64 (n:Int) (IntKind.u64.wrap (IntKind.u64.wrap (b:Int)*2^(8*k)))=((n+b*2^(8*k):Nat):Int):=by
 have h:=le_step n b k e c;have j:=le_pow (k+1) (by omega);have d:(b:Int)*2^(8*k)=((b*2^(8*k):Nat):Int):=by simp
 rw[Zc (b:Int) (by omega),d,Zc _ (by omega),u64_or_nat _ _ (by omega) (by omega),UF _ _ _ c]
theorem eV (s:ByteArray)(w:World)(l:0<s.size)(o:s.size<=8):
 Calls Tryz.prog 83 #[.string s] w fun e w'=>e= .returned (.tuple #[.int .u64 (cZ s.data.toList),.int .i64 0])/\w=w':=by
 have hz:((s.size:Int)==0)=false:=zr.2 (by omega);go_enter Tryz.func83,Tryz.ntmps83
 go_wp2;go_loop [5,15] (fun n i=>∃k m:Nat,k<=s.size/\Hid (m=cZ (s.data.toList.take k))/\n= .int .u64 m/\i= .int .i64 k) (fun _ i=>s.size-(intOf i).toNat)
 case atStart=>exact⟨0,0,by omega,rfl,rfl,rfl⟩
 case round=>
  obtain⟨k,m,d,b,rfl,rfl⟩:=hrel;by_cases j:k<s.size
  ·go_wp2;have h:=s[k].toNat_lt;have c:=jq (s.data.toList.take k);rw[length_take s k d,<-b.out]at c;have e:=Te m s[k].toNat k h (by omega) c;go_round
   case rel=>
    refine⟨k+1,_,by omega,za rfl, ?_,by go_num⟩;rw[jh s k j,Ok,length_take s k d,<-b.out,<-e]
   case measure=>simp[intOf];omega
  go_wp2;go_ret2
  exact⟨Fb rfl (by rw[b.out,zC (by simp;omega)]),rfl⟩
theorem mS (s:ByteArray)(w:World)(b:s.size=0):
 Calls Tryz.prog 83 #[.string s] w fun e w'=>e= .returned (.tuple #[.int .u64 0,.int .i64 1])/\w=w':=by
 go_enter Tryz.func83,Tryz.ntmps83
 go_wp2;go_ret2
 exact⟨rfl,rfl⟩
theorem Pd (m k d:Nat)(h:8*k+d=56):(#[Value.int .u8 ((m:Int)/2^d%256)]:Array Value).toList=cb [UInt8.ofNat (m/2^(56-8*k))]:=by
 have hd:56-8*k=d:=by omega
 rw[hd];simp[cb]
theorem aby (n:Nat)(w:World)(hn:n<=100000):
 Calls Tryz.prog 210 #[.int .i64 n] w fun e w'=>e= .returned (.tuple #[.string (ir n),.int .i64 0])/\Below w.heap.size w w':=by
 obtain⟨i0,hi,C,x,p⟩:=yQ oO;have j:Hid (ir n=⟨((128::List.replicate (dO n) 0)++fA (n*8)).toArray⟩):=za rfl;have hz:=rW n;have N:Hid (dO n=(64-(n+9)%64)%64):=za rfl;obtain⟨z,l⟩:∃z,dO n=z:=⟨_,rfl⟩
 have R:=za l;rw[l]at hz;obtain⟨m,u⟩:∃m,1+z=m:=⟨_,rfl⟩
 obtain⟨c,hc⟩:∃c,m+8=c:=⟨_,rfl⟩
 have e1:(64-((n:Int)+9)%64)%64=(z:Int):=by have:=N.out;omega
 have e2:(1:Int)+(z:Int)=(m:Int):=by omega
 have e3:(m:Int)+8=(c:Int):=by omega
 have I:m<=c:=by omega
 have U:=za u;clear l u hc;have d1:decide ((n:Int)<0)=false:=zz (by omega);have d2:decide ((1099511627776:Int)<n)=false:=zz (by omega);go_enter Tryz.func210,Tryz.ntmps210
 go_wp2_with (at_make;refine lR _ (by rfl) _ _ 31 (by rfl) w.heap.size 5 i0 zx hi C x p .i64 .i64 m c (by rfl) (by rfl) I (by omega) (zi _) ?_;intro w1 h y Z;obtain⟨c0,f0,g0,g1⟩:=h.at_ (k:=0) (by simp;omega))
 have M:Hid (bJ (w1.setCell ⟨w.heap.size,0,none⟩ (.int .u8 128)) w.heap.size 5 (.slice (some ⟨w.heap.size,0,none⟩) m c) ((128::List.replicate z 0)++(fA (n*8)).take 0)):=za (by
  have:=h.set (k:=0) (by simp;omega) 128;have e:(List.replicate m (0:UInt8)).set 0 128=(128::List.replicate z 0)++(fA (n*8)).take 0:=by
   rw[<-U.out,ZB 1 z,ZU,ze];simp
  rw[e]at this;exact this)
 obtain⟨aa,fr,s,_⟩:=h.block;have O:=za (y.store (k:=0) s (zi _) (.int .u8 128));rw[R.out]at j;clear s h y Z c0 f0;go_loopw [5,26] (fun v i wr=>∃k:Nat,k<=8/\i= .int .i64 k/\bJ wr w.heap.size 5 v ((128::List.replicate z 0)++(fA (n*8)).take k)/\Kept 5 w.heap.size w wr) (fun _ i _=>8-(intOf i).toNat)
 case atStart=>exact⟨0,by omega,rfl,M.out,O.out⟩
 case round=>
  obtain⟨k,hk,rfl,b,o⟩:=hrel;obtain⟨A,L,cap,rfl,hL,ab,nW⟩:=b.df;have H:=za o;have ej:=o.size;clear o;by_cases W:k<8
  ·obtain⟨d,hd⟩:∃d,56-8*k=d:=⟨_,rfl⟩
   have J:8*k+d=56:=by omega
   have e4:(56:Int)-8*(k:Int)=(d:Int):=by omega
   have r:=za (Pd (n*8) k d J);have QB:((128::List.replicate z (0:UInt8))++(fA (n*8)).take k).length<=100:=by simp[ib];omega
   have Y:Hid (((128::List.replicate z (0:UInt8))++(fA (n*8)).take k)++ [UInt8.ofNat (n*8/2^(56-8*k))]=(128::List.replicate z 0)++(fA (n*8)).take (k+1)):=za (by rw[Ee _ _ W,zI]);generalize ((128::List.replicate z (0:UInt8))++(fA (n*8)).take k)=LL at*;generalize UInt8.ofNat (n*8/2^(56-8*k))=B at*;simp only[Int.natCast_mul]at r;clear hd;go_wp2_with (at_builtin;refine aN (by rfl) (.tmp 29) (.tmp 38) 31 31 (by rfl) w.heap.size 5 i0 zx hi C x p (by rfl) (b.alloc _) _ [B] (by rfl) (tF zx _ 5 _ [B] 1 _ (by rfl) r.out) (by simp only[zu];omega) (by simp;omega) ?_;intro A3 n3 nr w3 G F;have S:=za G;have K:=za ((H.out.alloc (by omega) _).trans F);clear G F b)
   go_roundw
   case rel=>exact⟨k+1,by omega,by go_num,by rw[<-Y.out];exact S.out,K.out⟩
   case measure=>simp[intOf];omega
  have q:(fA (n*8)).take k=fA (n*8):=zC (by rw[ib];omega);rw[q]at b;have E:=b.Ha (P:=Tryz.prog) zx yB zT;rw[<-j.out]at E;clear b q j;obtain⟨X,D⟩:∃X,Hid (ir n=X):=⟨_,za rfl⟩
  rw[D.out]at E;go_wp2;go_ret2
  exact⟨by rw[D.out];rfl,H.out.below⟩
theorem rm :(Tryz.prog.info? 5).map (fun i=>(i.zero,i.size,i.bytes))=some (some (.int .u8 0),1,1):=by kernel_rfl
theorem abz :∀x:Fin 256,x.val|||128=x.val%128+128:=by decide+kernel
theorem Wm (m:Nat):bits .or .u8 ((m:Int)%256) 128=((m%128+128:Nat):Int):=by
 have h:=u8_or_nat (m%256) 128 (by omega) (by omega);have b:=abz ⟨m%256,by omega⟩;simp only at b;rw[b,show m%256%128=m%128 from by omega]at h;rw[<-h];rfl
theorem pW {n m:Nat}{pre:List UInt8}(h:pre++aO m=aO n)(b:128<=m):(pre++ [ub (m%128+128:Nat)])++aO (m/128)=aO n:=by
 rw[<-h,jj (n:=m) (by omega)];simp
theorem CR {n m:Nat}{pre:List UInt8}(h:pre++aO m=aO n)(b:¬128<=m):pre++ [ub (m:Nat)]=aO n:=by
 rw[<-h,gW (n:=m) (by omega)]
theorem Io {n m:Nat}{pre:List UInt8}(h:pre++aO m=aO n)(d:n<18446744073709551616):pre.length<10:=by
 have e:=bw 10 n (by omega) (by omega);have c:=Eo m;have b:=xj List.length h;simp only[zo]at b;omega
def Wn (n:Nat)(w:World)(b:Value)(x:Value)(wr:World):Prop:=
 ∃(m:Nat) (pre:List UInt8),pre++aO m=aO n/\m<18446744073709551616/\pre.length<10/\x= .int .u64 m/\bJ wr w.heap.size 5 b pre/\Kept 5 w.heap.size w wr
theorem vc (n:Nat)(w:World)(z:n<18446744073709551616):
 Calls Tryz.prog 118 #[.int .u64 n] w fun e w'=>e= .returned (.string ⟨(aO n).toArray⟩)/\Below w.heap.size w w':=by
 obtain⟨i0,hi,o,j,h⟩:=yQ rm;go_enter Tryz.func118,Tryz.ntmps118
 go_wp2_with (at_make;refine ZP _ rfl _ _ 31 rfl w.heap.size 5 i0 (.int .u8 0) 1 zx hi o j .i64 .i64 _ 10 rfl rfl (by omega) (by rw[h];omega) (by simp only[maxLen];omega) (by omega) ?_;intro C r s)
 have B:bJ C w.heap.size 5 (.slice (some ⟨w.heap.size,0,none⟩) 0 10) []:=bJ.own r;have y:Kept 5 w.heap.size w C:=Kept.JU s (zi _);clear r s;go_loopw [3,0] (fun b x wr=>Wn n w b x wr) (fun _ x _=>(intOf x).toNat)
 case atStart=>exact⟨n,[],rfl,z,by simp,rfl,B,y⟩
 case round=>
  obtain⟨m,pre,u,M,N,rfl,k,p⟩:=hrel;have l:=za u;have K:=p.size;obtain⟨A,cap,rfl,J,L⟩:=k.form;clear u B y;by_cases i:128<=m
  ·go_wp2_with (at_builtin;refine aN (by rfl) (.tmp 7) (.tmp 11) 31 31 (by rfl) w.heap.size 5 i0 zx hi o j h (by rfl) (k.alloc _) _ [ub (m%128+128:Nat)] (by rfl) (jW zx wr 5 _ [ub (m%128+128:Nat)] 1 (oC (Wm m) (by omega))) (by rw[zu];omega) (by simp only[zB,zO];omega) ?_)
   intro H D G F c d;have E:=za c;have q:=za ((p.alloc (by omega) _).trans d);clear c d;go_wp2;go_roundw
   case rel=>exact⟨m/128,_,pW l.out i,by omega,Io (pW l.out i) z,by go_num,E.out,q.out⟩
   case measure=>simp[intOf];omega
  go_wp2_with (at_builtin;refine aN (by rfl) (.tmp 15) (.tmp 18) 31 31 (by rfl) w.heap.size 5 i0 zx hi o j h (by rfl) (k.alloc _) _ [ub (m:Nat)] (by rfl) (jW zx wr 5 _ [ub (m:Nat)] 1 (oC rfl (by omega))) (by rw[zu];omega) (by simp only[zB,zO];omega) ?_)
  intro H D G F c d;rw[CR l.out i]at c;have q:=za ((p.alloc (by omega) _).trans d);have I:=c.Ha (P:=Tryz.prog) zx yB zT;clear d c;go_wp2;go_ret;exact⟨rfl,q.out.below⟩
theorem vd (m b k:Nat)(i:b<256)(d:k<=9)(c:m<2^(7*k))(h:¬((k=9/\1<b)\/(0<k/\b=0))):
 bits .or .u64 (m:Int) (IntKind.u64.wrap (IntKind.u64.wrap (bits .and .u8 (b:Int) 127)*2^(7*k)))=((m+b%128*2^(7*k):Nat):Int):=by
 have j:bits .and .u8 (b:Int) 127=((b%128:Nat):Int):=by
  have:=u8_and_nat b 127 i (by omega);rw[nat_mask7]at this;exact this
 have l:=D8 m b k d c h;have n:=JR k d;have e:((b%128:Nat):Int)*2^(7*k)=((b%128*2^(7*k):Nat):Int):=by simp
 rw[j,Zc ((b%128:Nat):Int) (by omega),e,Zc _ (by omega),u64_or_nat _ _ (by omega) (by omega),V4 _ _ _ c]
theorem tL {a b:Nat}{c:Int}{x:Nat×Nat×Int}{v:Int}(h:x=(a,b,c))(d:v=(a:Int)):Ending.returned (.tuple #[.int .u64 v,.int .i64 b,.int .i64 c])= .returned (.tuple #[.int .u64 x.1,.int .i64 x.2.1,.int .i64 x.2.2]):=by
 subst h;subst d;rfl
theorem Pe {s:ByteArray}{k m:Nat}{x:Nat×Nat×Int}(d:k<s.size)(h:k<=8)(e:cd s (10-k) k m=x)(b:¬((k=9/\1<s[k].toNat)\/(0<k/\s[k].toNat=0)))(c:¬s[k].toNat<128):
 cd s (10-(k+1)) (k+1) (m+s[k].toNat%128*2^(7*k))=x:=by
 rw[<-e,show 10-k=(10-(k+1))+1 from by omega,js s _ k m d b c]
theorem Ff {s:ByteArray}{k m:Nat}{x:Nat×Nat×Int}(d:k<s.size)(h:k<=9)(e:cd s (10-k) k m=x)(b:¬((k=9/\1<s[k].toNat)\/(0<k/\s[k].toNat=0)))(c:s[k].toNat<128):
 x=(m+s[k].toNat%128*2^(7*k),k+1,0):=by
 rw[<-e,show 10-k=(9-k)+1 from by omega,jr s _ k m d b c]
theorem Wo {s:ByteArray}{k m:Nat}{x:Nat×Nat×Int}(b:k<s.size)(e:k<=9)(c:cd s (10-k) k m=x)(d:(k=9/\1<s[k].toNat)\/(0<k/\s[k].toNat=0)):x=(0,0,3):=by
 rw[<-c,show 10-k=(9-k)+1 from by omega,nB s _ k m b d]
theorem Pf {s:ByteArray}{k m:Nat}{x:Nat×Nat×Int}(d:k<=s.size)(c:¬(k<s.size/\k<10))(e:k<=10)(b:cd s (10-k) k m=x):x=(0,0,2):=by
 rw[<-b];rcases Zl k 10 with h|h
 ·exact ji s _ k m (by omega)
 rw[show 10-k=0 from by omega];rfl
theorem Pg (k b:Nat)(c:k<10):
 (((k=9/\1<b)\/(0<k/\b=0))/\((((k:Int)==9)=true/\1<b)\/(((k:Int)==9)=true/\b<=1/\0<k/\((b:Int)==0)=true)\/(((k:Int)==9)=false/\0<k/\((b:Int)==0)=true)))\/
 ((¬((k=9/\1<b)\/(0<k/\b=0)))/\((((k:Int)==9)=true/\b<=1/\0<k/\((b:Int)==0)=false)\/(((k:Int)==9)=false/\0<k/\((b:Int)==0)=false/\k<=8)\/(((k:Int)==9)=false/\k<=0))):=by
 simp only[xh,yk,xa,zr,ne_eq];omega
theorem rp (s:ByteArray)(w:World)(A:s.size<=9223372036854775807):
 Calls Tryz.prog 122 #[.string s] w fun e w'=>e= .returned (.tuple #[.int .u64 (ay s).1,.int .i64 (ay s).2.1,.int .i64 (ay s).2.2])/\w=w':=by
 by_cases B:s.size<=10;all_goals
  go_enter Tryz.func122,Tryz.ntmps122
  go_wp2;go_loop [5,11] (fun n i=>∃k m:Nat,k<=10/\k<=s.size/\Hid (m<2^(7*k))/\Hid (cd s (10-k) k m=ay s)/\n= .int .u64 m/\i= .int .i64 k) (fun _ i=>10-(intOf i).toNat)
  case atStart=>exact⟨0,0,by omega,by omega,za (by simp),rfl,rfl,rfl⟩
  case round=>
   obtain⟨k,m,z,x,o,l,rfl,rfl⟩:=hrel;by_cases c:k<s.size/\k<10
   ·obtain⟨c,y⟩:=c;rcases Pg k s[k].toNat y with⟨h,q⟩|⟨h,q⟩
    ·have b:=za h;clear h;rcases q with⟨d,j⟩|⟨d,j,r,u⟩|⟨d,j,r⟩;all_goals
      go_wp2;go_ret3
      exact⟨tL (Wo c (by omega) l.out b.out) rfl,rfl⟩
    have b:=za h;clear h;have p:=za (s[k].toNat_lt);rcases q with⟨d,j,r,u⟩|⟨d,j,r,u⟩|⟨d,j⟩
    ·go_wp2;go_ret3
     exact⟨tL (Ff c (by omega) l.out b.out (by omega)) (vd m _ k p.out (by omega) o.out b.out),rfl⟩
    all_goals
     go_wp2
     ·go_ret3
      exact⟨tL (Ff c (by omega) l.out b.out (by omega)) (vd m _ k p.out (by omega) o.out b.out),rfl⟩
     go_round
     case rel=>exact⟨k+1,_,by omega,by omega,za (uf m s[k].toNat k o.out),za (Pe c (by omega) l.out b.out (by omega)),by rw[vd m _ k p.out (by omega) o.out b.out],by go_num⟩
     case measure=>simp[intOf];omega
   go_wp2;go_ret3
   exact⟨tL (Pf x c z l.out) rfl,rfl⟩
def bn (w:World):Prop:=w.cell? ⟨0,0,none⟩=some (.int .i64 2)/\w.cell? ⟨0,1,none⟩=some (.int .i64 4)/\w.cell? ⟨0,2,none⟩=some (.int .i64 8)
theorem bn.pos {w:World}(h:bn w):0<w.heap.size:=lt_of_cell h.1
theorem bn.same {w w':World}(h:bn w)(b:w'.heap[0]?=w.heap[0]?):bn w':=
 ⟨(zK b).trans h.1,(zK b).trans h.2.1,(zK b).trans h.2.2⟩
theorem bn.below {w w':World}{B:Nat}(h:bn w)(b:Below B w w')(c:0<B):bn w':=h.same (b.block 0 c)
theorem bn.only {w w':World}{L:List Nat}(h:bn w)(c:ae L w w')(b:0∉L):bn w':=h.same (c.block 0 h.pos b)
theorem Kk (n:Nat):(n<253/\bu n=n)\/(¬n<253/\n<65536/\bu n=253)\/(¬n<253/\¬n<65536/\n<4294967296/\bu n=254)\/(¬n<253/\¬n<65536/\¬n<4294967296/\bu n=255):=by
 unfold bu;split
 ·exact .inl ⟨‹_›,rfl⟩
 split
 ·exact .inr (.inl ⟨‹_›,‹_›,rfl⟩)
 split
 ·exact .inr (.inr (.inl ⟨‹_›,‹_›,‹_›,rfl⟩))
 exact .inr (.inr (.inr ⟨‹_›,‹_›,‹_›,rfl⟩))
theorem nH (n:Nat)(w:World)(k:n<18446744073709551616):
 Calls Tryz.prog 182 #[.int .u64 n] w fun e w'=>e= .returned (.int .u8 (bu n))/\w=w':=by
 rcases Kk n with⟨c,e⟩|⟨c,d,e⟩|⟨c,d,j,e⟩|⟨c,d,j,e⟩
 ·rw[e];clear e;have b:decide ((n:Int)<253)=true:=zH (by omega);go_enter Tryz.func182,Tryz.ntmps182
  go_wp2;go_ret;exact⟨by go_num,rfl⟩
 ·rw[e];clear e;have b:decide ((n:Int)<253)=false:=zz (by omega);have h:decide ((n:Int)<65536)=true:=zH (by omega);go_enter Tryz.func182,Tryz.ntmps182
  go_wp2;go_ret;exact⟨by go_num,rfl⟩
 ·rw[e];clear e;have b:decide ((n:Int)<253)=false:=zz (by omega);have h:decide ((n:Int)<65536)=false:=zz (by omega);have i:decide ((n:Int)<4294967296)=true:=zH (by omega);go_enter Tryz.func182,Tryz.ntmps182
  go_wp2;go_ret;exact⟨by go_num,rfl⟩
 rw[e];clear e;have b:decide ((n:Int)<253)=false:=zz (by omega);have h:decide ((n:Int)<65536)=false:=zz (by omega);have i:decide ((n:Int)<4294967296)=false:=zz (by omega);go_enter Tryz.func182,Tryz.ntmps182
 go_wp2;go_ret;exact⟨by go_num,rfl⟩
theorem Fg {n:Nat}(h:n<253):dv n= [ub n]:=by unfold dv;rw[zl h]
theorem mT {n f k:Nat}(h:¬n<253)(c:bu n=f)(b:bj f=k):(⟨#[ub f]⟩++⟨(jk n k).toArray⟩:ByteArray)=⟨(dv n).toArray⟩:=
 aG (by rw[ba];unfold dv;rw[zj h,c,b];rfl)
theorem Kl (n:Nat)(w:World)(c:n<18446744073709551616)(m:bn w):
 Calls Tryz.prog 140 #[.int .u64 n] w fun e w'=>e= .returned (.string ⟨(dv n).toArray⟩)/\Below w.heap.size w w':=by
 have u:=m.pos;obtain⟨q,r,p⟩:=m;have d:=za (nH n w c);have k1:=fun(w:World) (a:Int)=>OA zx yB zT w a
 rcases Kk n with⟨b,e⟩|⟨b,l,e⟩|⟨b,l,s,e⟩|⟨b,l,s,e⟩
 ·have h:=za (Fg b);rw[e]at d;clear e c q r p;go_enter Tryz.func140,Tryz.ntmps140
  go_wp2_with fail
  refine d.out.mono ?_;rintro e w' ⟨rfl,rfl⟩;go_wp2;go_ret;exact⟨nC (by rw[h.out]),bM⟩
 ·have j:=za (fun w=>jA n 2 w (by have:=tH b c;rw[e]at this;simpa[bj]using this) (by omega) (by omega));have h:=za (mT (k:=2) b e (by decide));have o:(⟨(jk n 2).toArray⟩:ByteArray).size=2:=by rw[bD,bd]
  generalize (⟨(jk n 2).toArray⟩:ByteArray)=T at*;rw[e]at d;clear e c;go_enter Tryz.func140,Tryz.ntmps140
  go_wp2_with fail
  refine d.out.mono ?_;rintro e w' ⟨rfl,rfl⟩;go_wp2_with fail
  refine(j.out _).mono ?_;rintro e w' ⟨rfl,i⟩;go_wp2;go_ret;exact⟨nC (by rw[<-h.out];rfl),((zq w.heap.size w).alloc (zi _) _).trans (i.mono (by simp))⟩
 ·have j:=za (fun w=>jA n 4 w (by have:=tH b c;rw[e]at this;simpa[bj]using this) (by omega) (by omega));have h:=za (mT (k:=4) b e (by decide));have o:(⟨(jk n 4).toArray⟩:ByteArray).size=4:=by rw[bD,bd]
  generalize (⟨(jk n 4).toArray⟩:ByteArray)=T at*;rw[e]at d;clear e c;go_enter Tryz.func140,Tryz.ntmps140
  go_wp2_with fail
  refine d.out.mono ?_;rintro e w' ⟨rfl,rfl⟩;go_wp2_with fail
  refine(j.out _).mono ?_;rintro e w' ⟨rfl,i⟩;go_wp2;go_ret;exact⟨nC (by rw[<-h.out];rfl),((zq w.heap.size w).alloc (zi _) _).trans (i.mono (by simp))⟩
 have j:=za (fun w=>jA n 8 w (by have:=tH b c;rw[e]at this;simpa[bj]using this) (by omega) (by omega));have h:=za (mT (k:=8) b e (by decide));have o:(⟨(jk n 8).toArray⟩:ByteArray).size=8:=by rw[bD,bd]
 generalize (⟨(jk n 8).toArray⟩:ByteArray)=T at*;rw[e]at d;clear e c;go_enter Tryz.func140,Tryz.ntmps140
 go_wp2_with fail
 refine d.out.mono ?_;rintro e w' ⟨rfl,rfl⟩;go_wp2_with fail
 refine(j.out _).mono ?_;rintro e w' ⟨rfl,i⟩;go_wp2;go_ret;exact⟨nC (by rw[<-h.out];rfl),((zq w.heap.size w).alloc (zi _) _).trans (i.mono (by simp))⟩
def BP (N:Nat×Nat×Int):Ending:= .returned (.tuple #[.int .u64 N.1,.int .i64 N.2.1,.int .i64 N.2.2])
theorem mU (s:ByteArray)(k:Nat):(s.extract 1 (1+k)).data.toList=(s.data.toList.drop 1).take k:=by
 simp[ByteArray.extract,ByteArray.copySlice,Array.toList_extract]
theorem Ph (s:ByteArray)(w:World)(B:s.size<=9223372036854775807)(x:bn w):
 Calls Tryz.prog 184 #[.string s] w fun e w'=>e=BP (aw s.data.toList)/\w=w':=by
 obtain⟨G,E,C⟩:=x;unfold BP;rcases fR s with⟨z,rfl⟩|⟨z,D,A⟩
 ·go_enter xD,xo
  go_wp2;go_ret3
  exact⟨rfl,rfl⟩
 have y:0<s.size:=by omega
 have i:=drop_cons s 0 y;rw[zN]at i;have o:=s[0].toNat_lt;by_cases u:s[0].toNat<253
 ·have c:Hid (aw s.data.toList=(s[0].toNat,1,0)):=za (by rw[i];simp only[aw,zl u]);generalize aw s.data.toList=N at*;clear i;go_enter xD,xo
  go_wp2;go_ret3
  exact⟨by rw[c.out];rfl,rfl⟩
 rcases(show s[0].toNat=253\/s[0].toNat=254\/s[0].toNat=255 by omega)with o|o|o
 ·have p:s[0].toNat=253:=o;have b:Hid (aw s.data.toList=if(s.data.toList.drop 1).length<2 then(0,0,2)else if bu (cZ ((s.data.toList.drop 1).take 2))=253 then(cZ ((s.data.toList.drop 1).take 2),1+2,0)else(0,0,3)):=za (by
   rw[i];simp only[aw,p];rfl)
  rw[zZ,aa]at b;generalize aw s.data.toList=N at*;by_cases q:s.size<1+2
  ·have c:Hid (N=(0,0,2)):=za (by rw[b.out,zl (by omega)]);clear b i;go_enter xD,xo
   go_wp2;go_ret3
   exact⟨by rw[c.out];rfl,rfl⟩
  have d:(s.extract 1 (1+2)).data.toList=(s.data.toList.drop 1).take 2:=mU s 2;have k:(s.extract 1 (1+2)).size=2:=by rw[an s 1 (1+2) (by omega)]
  have n:=za (eV (s.extract 1 (1+2)) w (by omega) (by omega));rw[d]at n;have j:=jq ((s.data.toList.drop 1).take 2);rw[<-d,aa,k]at j;rw[d]at j;rw[zj (by omega)]at b;generalize cZ ((s.data.toList.drop 1).take 2)=m at*;have l:=za (nH m w (by omega));by_cases h:bu m=253
  ·have c:Hid (N=(m,1+2,0)):=za (by rw[b.out,zl h]);rw[h]at l;clear b i d k j h;go_enter xD,xo
   go_wp2_with fail
   refine n.out.mono ?_;rintro e w' ⟨rfl,rfl⟩;go_wp2_with fail
   refine l.out.mono ?_;rintro e w' ⟨rfl,rfl⟩;go_wp2;go_ret3
   exact⟨by rw[c.out];rfl,rfl⟩
  have c:Hid (N=(0,0,3)):=za (by rw[b.out,zj h]);have r:((bu m:Int) !=253)=true:=by rw[yP];omega
  generalize bu m=F at*;clear b i d k j h;go_enter xD,xo
  go_wp2_with fail
  refine n.out.mono ?_;rintro e w' ⟨rfl,rfl⟩;go_wp2_with fail
  refine l.out.mono ?_;rintro e w' ⟨rfl,rfl⟩;go_wp2;go_ret3
  exact⟨by rw[c.out];rfl,rfl⟩
 ·have p:s[0].toNat=254:=o;have b:Hid (aw s.data.toList=if(s.data.toList.drop 1).length<4 then(0,0,2)else if bu (cZ ((s.data.toList.drop 1).take 4))=254 then(cZ ((s.data.toList.drop 1).take 4),1+4,0)else(0,0,3)):=za (by
   rw[i];simp only[aw,p];rfl)
  rw[zZ,aa]at b;generalize aw s.data.toList=N at*;by_cases q:s.size<1+4
  ·have c:Hid (N=(0,0,2)):=za (by rw[b.out,zl (by omega)]);clear b i;go_enter xD,xo
   go_wp2;go_ret3
   exact⟨by rw[c.out];rfl,rfl⟩
  have d:(s.extract 1 (1+4)).data.toList=(s.data.toList.drop 1).take 4:=mU s 4;have k:(s.extract 1 (1+4)).size=4:=by rw[an s 1 (1+4) (by omega)]
  have n:=za (eV (s.extract 1 (1+4)) w (by omega) (by omega));rw[d]at n;have j:=jq ((s.data.toList.drop 1).take 4);rw[<-d,aa,k]at j;rw[d]at j;rw[zj (by omega)]at b;generalize cZ ((s.data.toList.drop 1).take 4)=m at*;have l:=za (nH m w (by omega));by_cases h:bu m=254
  ·have c:Hid (N=(m,1+4,0)):=za (by rw[b.out,zl h]);rw[h]at l;clear b i d k j h;go_enter xD,xo
   go_wp2_with fail
   refine n.out.mono ?_;rintro e w' ⟨rfl,rfl⟩;go_wp2_with fail
   refine l.out.mono ?_;rintro e w' ⟨rfl,rfl⟩;go_wp2;go_ret3
   exact⟨by rw[c.out];rfl,rfl⟩
  have c:Hid (N=(0,0,3)):=za (by rw[b.out,zj h]);have r:((bu m:Int) !=254)=true:=by rw[yP];omega
  generalize bu m=F at*;clear b i d k j h;go_enter xD,xo
  go_wp2_with fail
  refine n.out.mono ?_;rintro e w' ⟨rfl,rfl⟩;go_wp2_with fail
  refine l.out.mono ?_;rintro e w' ⟨rfl,rfl⟩;go_wp2;go_ret3
  exact⟨by rw[c.out];rfl,rfl⟩
 have p:s[0].toNat=255:=o;have b:Hid (aw s.data.toList=if(s.data.toList.drop 1).length<8 then(0,0,2)else if bu (cZ ((s.data.toList.drop 1).take 8))=255 then(cZ ((s.data.toList.drop 1).take 8),1+8,0)else(0,0,3)):=za (by
  rw[i];simp only[aw,p];rfl)
 rw[zZ,aa]at b;generalize aw s.data.toList=N at*;by_cases q:s.size<1+8
 ·have c:Hid (N=(0,0,2)):=za (by rw[b.out,zl (by omega)]);clear b i;go_enter xD,xo
  go_wp2;go_ret3
  exact⟨by rw[c.out];rfl,rfl⟩
 have d:(s.extract 1 (1+8)).data.toList=(s.data.toList.drop 1).take 8:=mU s 8;have k:(s.extract 1 (1+8)).size=8:=by rw[an s 1 (1+8) (by omega)]
 have n:=za (eV (s.extract 1 (1+8)) w (by omega) (by omega));rw[d]at n;have j:=jq ((s.data.toList.drop 1).take 8);rw[<-d,aa,k]at j;rw[d]at j;rw[zj (by omega)]at b;generalize cZ ((s.data.toList.drop 1).take 8)=m at*;have l:=za (nH m w (by omega));by_cases h:bu m=255
 ·have c:Hid (N=(m,1+8,0)):=za (by rw[b.out,zl h]);rw[h]at l;clear b i d k j h;go_enter xD,xo
  go_wp2_with fail
  refine n.out.mono ?_;rintro e w' ⟨rfl,rfl⟩;go_wp2_with fail
  refine l.out.mono ?_;rintro e w' ⟨rfl,rfl⟩;go_wp2;go_ret3
  exact⟨by rw[c.out];rfl,rfl⟩
 have c:Hid (N=(0,0,3)):=za (by rw[b.out,zj h]);have r:((bu m:Int) !=255)=true:=by rw[yP];omega
 generalize bu m=F at*;clear b i d k j h;go_enter xD,xo
 go_wp2_with fail
 refine n.out.mono ?_;rintro e w' ⟨rfl,rfl⟩;go_wp2_with fail
 refine l.out.mono ?_;rintro e w' ⟨rfl,rfl⟩;go_wp2;go_ret3
 exact⟨by rw[c.out];rfl,rfl⟩
