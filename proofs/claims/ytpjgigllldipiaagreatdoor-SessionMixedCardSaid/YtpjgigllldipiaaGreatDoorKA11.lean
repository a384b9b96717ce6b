/- sha: the constants that the program holds are the document's roots. -/
import Derived.Test.YtpjgigllldipiaaGreatDoorKA13
set_option linter.all false
set_option maxRecDepth 100000
set_option maxHeartbeats 2000000
namespace Go.Proofs.YtpjgigllldipiaaGreatDoor
open Tryz
open Go.RowKit
def yh:=@IntWalk.i64_in
def xS:=@wpQuiet_nil
theorem L7 (n:Nat)(c:1<=n)(d:n<=31):bits .and .u64 (IntKind.u64.wrap (-(n:Int))) 31=((32-n:Nat):Int):=by
 have e:IntKind.u64.wrap (-(n:Int))=((18446744073709551616-n:Nat):Int):=by
  simp[IntKind.wrap,IntKind.signed,IntKind.bits];omega
 have h:=u64_and_nat (18446744073709551616-n) 31 (by omega) (by omega);rw[e];have b:((31:Nat):Int)=31:=rfl;rw[b]at h;rw[h,show(31:Nat)=2^5-1 from rfl,Nat.and_two_pow_sub_one_eq_mod];omega
theorem SY (x n:Nat)(hx:x<4294967296):bits .or .u32 ((x:Int)*2^(32-n)%4294967296) ((x:Int)/2^n)=((ik x n:Nat):Int):=by
 have h:=u32_or_nat (x*2^(32-n)%4294967296) (x/2^n) (xw _ (by omega)) (mi n hx);have c:((x*2^(32-n)%4294967296:Nat):Int)=(x:Int)*2^(32-n)%4294967296:=by simp
 have b:((x/2^n:Nat):Int)=(x:Int)/2^n:=by simp
 rw[c,b]at h;rw[h,Nat.or_comm];rfl
theorem CM (x n:Nat)(w:World)(hx:x<4294967296)(h:1<=n)(i:n<=31):
 Calls prog 229 #[.int .u32 x,.int .i64 n] w fun e w'=>e= .returned (.int .u32 (ik x n))/\w=w':=by
 have c:=L7 n h i;obtain⟨k,b⟩:∃k:Nat,32-n=k:=⟨_,rfl⟩
 rw[b]at c;have j:(32:Int)-(k:Int)=(n:Int):=by omega
 have d:=za b;clear b;go_enter func229,ntmps229
 go_wp2;go_ret;exact⟨lh (by rw[<-d.out];exact SY x n hx),rfl⟩
theorem xor_val {a b:Nat}(d:a<4294967296)(c:b<4294967296):bits .xor .u32 (a:Int) (b:Int)=((a^^^b:Nat):Int):=u32_xor_nat a b d c
theorem Fa (x a b c:Nat)(w:World)(hx:x<4294967296)(j:1<=a/\a<=31)(h:1<=b/\b<=31)(i:1<=c/\c<=31):
 Calls prog 222 #[.int .u32 x,.int .i64 a,.int .i64 b,.int .i64 c] w fun e w'=>e= .returned (.int .u32 (ik x a^^^ik x b^^^ik x c:Nat))/\w=w':=by
 have s:=za (fun w=>CM x a w hx j.1 j.2);have o:=za (fun w=>CM x b w hx h.1 h.2);have m:=za (fun w=>CM x c w hx i.1 i.2);have k:=dV a hx;have l:=dV b hx;have A:=dV c hx;generalize ik x a=p at*;generalize ik x b=q at*;generalize ik x c=r at*;have n:=xor_val k l;have u:=xor_val (dj k l) A;obtain⟨y,d⟩:∃y,p^^^q=y:=⟨_,rfl⟩
 obtain⟨z,hz⟩:∃z,p^^^q^^^r=z:=⟨_,rfl⟩
 rw[d]at n;rw[hz,d]at u;rw[hz];clear d hz;go_enter func222,ntmps222
 go_wp2_with fail
 refine(s.out _).mono ?_;rintro e w' ⟨rfl,rfl⟩;go_wp2_with fail
 refine(o.out _).mono ?_;rintro e w' ⟨rfl,rfl⟩;go_wp2_with fail
 refine(m.out _).mono ?_;rintro e w' ⟨rfl,rfl⟩;go_wp2;go_ret;exact⟨rfl,rfl⟩
theorem V1 (x n:Nat)(w:World)(hx:x<4294967296)(c:1<=n)(h:n<=31):
 Calls prog 229 #[.int .u32 x,.int .i64 n] w fun e w'=>e= .returned (.int .u32 (ik x n))/\w'=w:=(CM x n w hx c h).mono fun _ _ ⟨b,d⟩=>⟨b,d.symm⟩
theorem uW (x a b c:Nat)(w:World)(hx:x<4294967296)(q:1<=a/\a<=31)(o:1<=b/\b<=31)(p:1<=c/\c<=31):
 Calls prog 228 #[.int .u32 x,.int .i64 a,.int .i64 b,.int .i64 c] w fun e w'=>e= .returned (.int .u32 (ik x a^^^ik x b^^^x/2^c:Nat))/\∃n,w'=w.drewN n:=by
 have h:=dV a hx;have k:=dV b hx;have m:=mi c hx;have l:=xor_val h k;have i:=xor_val (dj h k) m;have j:((x/2^c:Nat):Int)=(x:Int)/2^c:=by simp
 rw[j]at i;obtain⟨y,d⟩:∃y:Nat,ik x a^^^ik x b=y:=⟨_,rfl⟩
 obtain⟨z,hz⟩:∃z:Nat,ik x a^^^ik x b^^^x/2^c=z:=⟨_,rfl⟩
 rw[d]at l;rw[hz,d]at i;rw[hz];clear d hz j;go_enter func228,ntmps228
 go_wp2;go_quiet ((go_at_call 229;exact Calls.quiet_of_same (V1 _ _ _ hx (by omega) (by omega))))
 go_wp2;go_ret;exact⟨rfl,_,rfl⟩
theorem O6 (a b c d:Nat)(n:a<256)(l:b<256)(m:c<256)(hd:d<256):
 bits .or .u32 (bits .or .u32 (bits .or .u32 ((a:Int)*2^24) ((b:Int)*2^16)) ((c:Int)*2^8)) (d:Int)=((a*16777216+b*65536+c*256+d:Nat):Int):=by
 have e:((a:Int)*2^24)=((a*2^24:Nat):Int):=by simp
 have i:((b:Int)*2^16)=((b*2^16:Nat):Int):=by simp
 have j:((c:Int)*2^8)=((c*2^8:Nat):Int):=by simp
 rw[e,i,j,u32_or_nat _ _ (by omega) (by omega)];have h:a*2^24|||b*2^16=a*2^24+b*2^16:=by rw[Zz,<-xz (by omega)]
 rw[h,u32_or_nat _ _ (by omega) (by omega)];have g2:a*2^24+b*2^16|||c*2^8=a*2^24+b*2^16+c*2^8:=by
  rw[show a*2^24+b*2^16=2^16*(a*256+b)from by omega,<-xz (by omega)]
 rw[g2,u32_or_nat _ _ (by omega) (by omega)];have k:a*2^24+b*2^16+c*2^8|||d=a*2^24+b*2^16+c*2^8+d:=by
  rw[show a*2^24+b*2^16+c*2^8=2^8*(a*65536+b*256+c)from by omega,<-xz (by omega)]
 rw[k]
theorem O7 (s:ByteArray)(i:Nat)(w:World)(hi:4*i+4<=s.size)(z:s.size<=100000):
 Calls prog 220 #[.string s,.int .i64 i] w fun e w'=>e= .returned (.int .u32 (mm s i))/\∃n,w'=w.drewN n:=by
 obtain⟨E,A,o,k⟩:∃E:ByteArray,s.extract (4*i) (4*i+4)=E/\∃o:E.size=4,Hid (mm s i=E[0].toNat*16777216+E[1].toNat*65536+E[2].toNat*256+E[3].toNat):=by
  have hz:(s.extract (4*i) (4*i+4)).size=4:=by rw[an _ _ _ hi];omega
  refine⟨_,rfl,hz,za ?_⟩;have b:∀j (c:j<(s.extract (4*i) (4*i+4)).size),(s.extract (4*i) (4*i+4))[j]=s.data.toList.getD (4*i+j) 0:=by
   intro j c;have d:=gq (s.extract (4*i) (4*i+4)) j c;rw[aq,xE,yP (by omega)]at d;rw[zA,d];rfl
  rw[b 0,b 1,b 2,b 3];rfl
 have D:0<E.size:=by omega
 have B:1<E.size:=by omega
 have x:2<E.size:=by omega
 have y:3<E.size:=by omega
 have r:=E[0].toNat_lt;have p:=E[1].toNat_lt;have l:=E[2].toNat_lt;have m:=E[3].toNat_lt;have q:=za (O6 E[0].toNat E[1].toNat E[2].toNat E[3].toNat r p l m);have C:IntKind.u32.wrap ((E[0].toNat:Nat):Int)=((E[0].toNat:Nat):Int):=IntWalk.u32_in _ (by omega);have u:IntKind.u32.wrap ((E[1].toNat:Nat):Int)=((E[1].toNat:Nat):Int):=IntWalk.u32_in _ (by omega);have G:IntKind.u32.wrap ((E[2].toNat:Nat):Int)=((E[2].toNat:Nat):Int):=IntWalk.u32_in _ (by omega);have F:IntKind.u32.wrap ((E[3].toNat:Nat):Int)=((E[3].toNat:Nat):Int):=IntWalk.u32_in _ (by omega);go_enter func220,ntmps220
 go_wp2;go_quiet (fail)
 go_wp2;go_ret;refine⟨lh ?_,_,rfl⟩;have h:=q.out;rw[show(2:Int)^24=16777216 from rfl,show(2:Int)^16=65536 from rfl,show(2:Int)^8=256 from rfl]at h;rw[k.out];exact h
theorem and_val {a b:Nat}(d:a<4294967296)(c:b<4294967296):bits .and .u32 (a:Int) (b:Int)=((a&&&b:Nat):Int):=u32_and_nat a b d c
def V2 :ByteArray:=⟨#[66,138,47,152,113,55,68,145,181,192,251,207,233,181,219,165,57,86,194,91,89,241,17,241,146,63,130,164,171,28,94,213,216,7,170,152,18,131,91,1,36,49,133,190,85,12,125,195,114,190,93,116,128,222,177,254,155,220,6,167,193,155,241,116,228,155,105,193,239,190,71,134,15,193,157,198,36,12,161,204,45,233,44,111,74,116,132,170,92,176,169,220,118,249,136,218,152,62,81,82,168,49,198,109,176,3,39,200,191,89,127,199,198,224,11,243,213,167,145,71,6,202,99,81,20,41,41,103,39,183,10,133,46,27,33,56,77,44,109,252,83,56,13,19,101,10,115,84,118,106,10,187,129,194,201,46,146,114,44,133,162,191,232,161,168,26,102,75,194,75,139,112,199,108,81,163,209,146,232,25,214,153,6,36,244,14,53,133,16,106,160,112,25,164,193,22,30,55,108,8,39,72,119,76,52,176,188,181,57,28,12,179,78,216,170,74,91,156,202,79,104,46,111,243,116,143,130,238,120,165,99,111,132,200,120,20,140,199,2,8,144,190,255,250,164,80,108,235,190,249,163,247,198,113,120,242]⟩
theorem L8 :((List.range 64).all fun i=>mm V2 i==GK.getD i 0)=true:=by decide+kernel
theorem uX (i:Nat)(h:i<64):mm ⟨#[66,138,47,152,113,55,68,145,181,192,251,207,233,181,219,165,57,86,194,91,89,241,17,241,146,63,130,164,171,28,94,213,216,7,170,152,18,131,91,1,36,49,133,190,85,12,125,195,114,190,93,116,128,222,177,254,155,220,6,167,193,155,241,116,228,155,105,193,239,190,71,134,15,193,157,198,36,12,161,204,45,233,44,111,74,116,132,170,92,176,169,220,118,249,136,218,152,62,81,82,168,49,198,109,176,3,39,200,191,89,127,199,198,224,11,243,213,167,145,71,6,202,99,81,20,41,41,103,39,183,10,133,46,27,33,56,77,44,109,252,83,56,13,19,101,10,115,84,118,106,10,187,129,194,201,46,146,114,44,133,162,191,232,161,168,26,102,75,194,75,139,112,199,108,81,163,209,146,232,25,214,153,6,36,244,14,53,133,16,106,160,112,25,164,193,22,30,55,108,8,39,72,119,76,52,176,188,181,57,28,12,179,78,216,170,74,91,156,202,79,104,46,111,243,116,143,130,238,120,165,99,111,132,200,120,20,140,199,2,8,144,190,255,250,164,80,108,235,190,249,163,247,198,113,120,242]⟩ i=tZ.getD i 0:=by
 have:=ZK.1 L8 i (ZB.2 h);rw[Ci];exact xe.1 this
theorem afj (i:Nat):tZ.getD i 0<4294967296:=by
 rw[Ci];by_cases h:i<64
 ·rw[<-Ci,<-uX i h];exact AV _ _
 rw[zA,xh (by simp[GK];omega)];simp
theorem V3 (i:Nat)(w:World)(h:i<64):Calls prog 219 #[.int .i64 i] w fun e w'=>e= .returned (.int .u32 (tZ.getD i 0:Nat))/\∃n,w'=w.drewN n:=by
 have b:=za (uX i h);generalize c:tZ.getD i 0=K at*;go_enter func219,ntmps219
 go_wp2_with fail
 refine(O7 _ i _ (by simp[ByteArray.size];omega) (by simp[ByteArray.size])).mono ?_;rintro e w' ⟨rfl,n,rfl⟩;rw[b.out];go_wp2;go_ret;exact⟨rfl,_,rfl⟩
abbrev iI (w:World)(g:Nat)(s:ByteArray)(at_:Nat)(f:Int):Prop:=af w g 208 #[.string s,.int .i64 at_,.int .i64 f]
theorem bs (g:Nat)(s:ByteArray)(k:Nat)(f:Int)(w:World)(h:iI w g s k f):
 Calls prog 121 #[.pointer (some ⟨g,0,none⟩)] w fun e w'=>e= .returned (.int .i64 f)/\w=w':=by
 have b:=h.cell 2;simp at b;clear h;go_enter func121,ntmps121
 go_wp2;go_ret;exact⟨rfl,rfl⟩
theorem uY (g:Nat)(s:ByteArray)(k:Nat)(f:Int)(w:World)(h:iI w g s k f)(i:k<=s.size)(d:s.size<=9223372036854775807):
 Calls prog 142 #[.pointer (some ⟨g,0,none⟩)] w fun e w'=>e= .returned (.int .i64 ((s.size:Int)-k))/\∃n,w.drewN n=w':=by
 have c:=h.cell 0;have b:=h.cell 1;simp at c b;clear h;go_enter func142,ntmps142
 go_wp2;go_quiet (fail)
 go_wp2;go_ret;exact⟨rfl,_,rfl⟩
theorem iu (g:Nat)(s:ByteArray)(k:Nat)(f:Int)(w:World)(h:iI w g s k 0):
 Calls prog 141 #[.pointer (some ⟨g,0,none⟩),.int .i64 f] w fun e w'=>e= .returned (.tuple #[])/\iI w' g s (k) (f)/\ae [g] w w':=by
 have b:=h.cell 2;have d:=h.frozen 2;have c:=h.lt;simp at b;have H:=za h;clear h;go_enter func141,ntmps141
 go_wp2;go_end0
 go_wp2;go_end0
 refine⟨rfl, ?_,Cr⟩;have h:=H.out;unfold iI at h⊢
 (repeat(first|with_reducible assumption|with_reducible apply af.drewN|with_reducible apply af.drew|with_reducible apply af.alloc|((with_reducible apply af.beside); · (first|omega|(simp<;>omega)))|with_reducible apply af.store));all_goals(first|rfl|simp)
theorem uZ (g:Nat)(s:ByteArray)(k:Nat)(f e:Int)(w:World)(h:iI w g s k f)(c:(f==0)=false):
 Calls prog 141 #[.pointer (some ⟨g,0,none⟩),.int .i64 e] w fun e w'=>e= .returned (.tuple #[])/\iI w' g s (k) (f)/\ae [g] w w':=by
 have b:=h.cell 2;have d:=h.lt;simp at b;have H:=za h;clear h;go_enter func141,ntmps141
 go_wp2;go_end0
 go_wp2;go_end0
 refine⟨rfl, ?_,Cr⟩;have h:=H.out;unfold iI at h⊢
 (repeat(first|with_reducible assumption|with_reducible apply af.drewN|with_reducible apply af.drew|with_reducible apply af.alloc|((with_reducible apply af.beside); · (first|omega|(simp<;>omega)))|with_reducible apply af.store));all_goals(first|rfl|simp)
theorem u9 (g:Nat)(s:ByteArray)(k:Nat)(f n:Int)(w:World)(h:iI w g s k f)(l:(f==0)=false):
 Calls prog 120 #[.pointer (some ⟨g,0,none⟩),.int .i64 n] w fun e w'=>e= .returned (.string ByteArray.empty)/\iI w' g s (k) (f)/\ae [g] w w':=by
 have c:=h.cell 0;have d:=h.cell 1;have b:=h.cell 2;have m:=h.frozen 1;have o:=h.frozen 2;have i:=h.lt;simp at c d b;have H:=za h;clear h;have j:=rW i b;go_enter func120,ntmps120
 go_wp2;go_end0
 go_wp2;go_ret;refine⟨rfl, ?_,Cr⟩;have h:=H.out;unfold iI at h⊢
 (repeat(first|with_reducible assumption|with_reducible apply af.drewN|with_reducible apply af.drew|with_reducible apply af.alloc|((with_reducible apply af.beside); · (first|omega|(simp<;>omega)))|with_reducible apply af.store));all_goals(first|rfl|simp)
theorem fP (g:Nat)(s:ByteArray)(k:Nat)(n:Nat)(w:World)(h:iI w g s k 0)(x:k<=s.size)(u:s.size<=9223372036854775807)(p:s.size<k+n)(r:n<=9223372036854775807):
 Calls prog 120 #[.pointer (some ⟨g,0,none⟩),.int .i64 n] w fun e w'=>e= .returned (.string ByteArray.empty)/\iI w' g s (k) (2)/\ae [g] w w':=by
 have c:=h.cell 0;have d:=h.cell 1;have i:=h.cell 2;have q:=h.frozen 1;have j:=h.frozen 2;have b:=h.lt;simp at c d i;have H:=za h;clear h;have m:=rW b c;have l:=rW b d;have o:=rW b i;have g2:=Cq b j;go_enter func120,ntmps120
 go_wp2;go_quiet (fail)
 go_wp2;go_end0
 go_wp2;go_ret;refine⟨rfl, ?_,Cr⟩;have h:=H.out;unfold iI at h⊢
 (repeat(first|with_reducible assumption|with_reducible apply af.drewN|with_reducible apply af.drew|with_reducible apply af.alloc|((with_reducible apply af.beside); · (first|omega|(simp<;>omega)))|with_reducible apply af.store));all_goals(first|rfl|simp)
theorem ei (g:Nat)(s:ByteArray)(k:Nat)(n:Nat)(w:World)(h:iI w g s k 0)(u:s.size<=9223372036854775807)(q:k+n<=s.size):
 Calls prog 120 #[.pointer (some ⟨g,0,none⟩),.int .i64 n] w fun e w'=>e= .returned (.string (s.extract k (k+n)))/\iI w' g s (k+n) (0)/\ae [g] w w':=by
 have c:=h.cell 0;have d:=h.cell 1;have i:=h.cell 2;have j:=h.frozen 1;have l:=h.frozen 2;have b:=h.lt;simp at c d i;have H:=za h;clear h;have o:=rW b c;have m:=rW b d;have p:=rW b i;have r:=Cq b j;have g2:=Cq b l;go_enter func120,ntmps120
 go_wp2;go_quiet (fail)
 go_wp2;go_region
 all_goals go_wp2
 go_region
 all_goals go_wp2
 go_end0
 go_wp2;go_ret;refine⟨rfl, ?_,Cr⟩;have h:=H.out;unfold iI at h⊢
 (repeat(first|with_reducible assumption|with_reducible apply af.drewN|with_reducible apply af.drew|with_reducible apply af.alloc|((with_reducible apply af.beside); · (first|omega|(simp<;>omega)))|with_reducible apply af.store));all_goals(first|rfl|simp)
theorem rk (s:ByteArray)(w:World):
 Calls prog 119 #[.string s] w fun e w'=>e= .returned (.pointer (some ⟨w.heap.size,0,none⟩))/\w'=w.alloc (.cells #[.string s,.int .i64 0,.int .i64 0] 208):=by
 go_enter func119,ntmps119
 go_wp2;go_ret;exact⟨rfl,rfl⟩
theorem u' (g:Nat)(s:ByteArray)(k:Nat)(w:World)(h:iI w g s k 0)(n:k<s.size)(m:s.size<=9223372036854775807):
 Calls prog 196 #[.pointer (some ⟨g,0,none⟩)] w fun e w'=>e= .returned (.int .u8 s[k].toNat)/\iI w' g s (k+1) (0)/\ae [g] w w':=by
 have b:=h.cell 0;have c:=h.cell 1;have d:=h.cell 2;have i:=h.frozen 1;have j:=h.frozen 2;have l:=h.lt;simp at b c d;have H:=za h;clear h;go_enter func196,ntmps196
 go_wp2;go_quiet (fail)
 go_wp2;go_region
 all_goals go_wp2
 go_end0
 go_wp2;go_ret;refine⟨rfl, ?_,Cr⟩;have h:=H.out;unfold iI at h⊢
 (repeat(first|with_reducible assumption|with_reducible apply af.drewN|with_reducible apply af.drew|with_reducible apply af.alloc|((with_reducible apply af.beside); · (first|omega|(simp<;>omega)))|with_reducible apply af.store));all_goals(first|rfl|simp)
theorem nE {x:Nat×Nat×Int}{a b:Nat}{c:Int}(h:x=(a,b,c)):Ending.returned (.tuple #[.int .i64 a,.int .i64 b,.int .i64 c])= .returned (.tuple #[.int .i64 x.1,.int .i64 x.2.1,.int .i64 x.2.2]):=by rw[h]
theorem sx (most:Int)(s:ByteArray)(w:World)(q:s.size<=9223372036854775807)(r: -9223372036854775808<=most)(u:most<=9223372036854775807):
 Calls prog 82 #[.int .i64 most,.string s] w fun e w'=>e= .returned (.tuple #[.int .i64 (ar most s).1,.int .i64 (ar most s).2.1,.int .i64 (ar most s).2.2])/\w=w':=by
 have h:=gQ s;have c:=za (fun w=>ri s w q);have j:=za (show ar most s=(if(aw s).2.2=0 then(if most<(aw s).1 then(0,0,5)else((aw s).1,(aw s).2.1,0))else(0,0,(aw s).2.2))from rfl);generalize aw s=x at*;obtain⟨n,k,o⟩:=x;dsimp only at*;rcases eF o with⟨d,m,p⟩|⟨d,m,p⟩
 ·subst d;have y:=h rfl;clear h;by_cases i:most<n
  ·have b:=za (by have:=j.out;rw[zl rfl,zl i]at this;exact this);rcases Int.lt_or_le most 0 with Gr|Gr
   ·go_enter func82,ntmps82
    go_wp2_with fail
    refine(c.out _).mono ?_;rintro e w' ⟨rfl,rfl⟩;go_wp2;go_ret3
    exact⟨nE b.out,rfl⟩
   have l:IntKind.u64.wrap most=most:=xZ _ (by omega);go_enter func82,ntmps82
   go_wp2_with fail
   refine(c.out _).mono ?_;rintro e w' ⟨rfl,rfl⟩;go_wp2;go_ret3
   exact⟨nE b.out,rfl⟩
  have b:=za (by have:=j.out;rw[zl rfl,zj i]at this;exact this);have l:IntKind.u64.wrap most=most:=xZ _ (by omega);have z:decide (most<(n:Int))=false:=zz i;go_enter func82,ntmps82
  go_wp2_with fail
  refine(c.out _).mono ?_;rintro e w' ⟨rfl,rfl⟩;go_wp2;go_ret3
  exact⟨nE b.out,rfl⟩
 have b:=za (by have:=j.out;rw[zj d]at this;exact this);clear h d;go_enter func82,ntmps82
 go_wp2_with fail
 refine(c.out _).mono ?_;rintro e w' ⟨rfl,rfl⟩;go_wp2;go_ret3
 exact⟨nE b.out,rfl⟩
theorem nQ :ByteArray.empty=⟨#[]⟩:=rfl
def J2 (x:Int×Nat×ByteArray×Nat)(w:World)(e:Ending)(w':World):Prop:=
 e= .returned (.tuple #[.agg #[.int .u64 x.2.1,.string ByteArray.empty,.string x.2.2.1],.int .i64 x.2.2.2,.int .i64 x.1])/\Below w.heap.size w w'
theorem tF {x:Int×Nat×ByteArray×Nat}{w w':World}{a:Int}{b:Nat}{c:ByteArray}{d:Nat}{e:Int}(h:x=(a,b,c,d))(hd:e=d)(i:Below w.heap.size w w'):
 J2 x w (.returned (.tuple #[.agg #[.int .u64 b,.string ByteArray.empty,.string c],.int .i64 e,.int .i64 a])) w':=by
 subst h;subst hd;exact⟨rfl,i⟩
theorem jZ (most:Int)(s:ByteArray)(w:World)(z:s.size<=9223372036854775807)(Z: -9223372036854775808<=most)(rF:most<=9223372036854775807):
 Calls prog 75 #[.int .i64 most,.string s] w (J2 (ai most s) w):=by
 have I:=qQ most s;have E:=za (fun w=>sx most s w z Z rF);have y:=za (eo most s);generalize ai most s=X at*;generalize ar most s=ab at*;obtain⟨n,k,S⟩:=ab;dsimp only at*;rcases eF S with⟨G,h1,h2⟩|⟨G,h1,h2⟩
 ·subst G;obtain⟨hn,hk,KB,ae⟩:=I rfl;clear I;by_cases F:s.size<k+n
  ·have A:=za (by have:=y.out;rw[zj (by simp),zl F]at this;exact this);clear y;go_enter func75,ntmps75
   go_wp2_with fail
   refine(E.out _).mono ?_;rintro e w' ⟨rfl,rfl⟩;go_wp2_with fail
   refine(rk s _).mono ?_;rintro e d ⟨rfl,c⟩;have q:iI d (w.heap.size+1) s 0 0:=by rw[c];have:=af.new (w.alloc (.cells #[.int .u64 0,.string ⟨#[]⟩,.string ⟨#[]⟩] 74)) 208 #[.string s,.int .i64 0,.int .i64 0];rw[zt]at this;exact this
   have j:af d w.heap.size 74 #[.int .u64 0,.string ⟨#[]⟩,.string ⟨#[]⟩]:=by rw[c];exact(af.new w _ _).alloc _
   have p:Below w.heap.size w d:=by rw[c];exact bN
   have O:d.heap.size=w.heap.size+2:=by rw[c];simp
   rw[zt];clear c;go_wp2_with fail
   refine(ei (w.heap.size+1) s 0 k _ q z (by omega)).mono ?_;rintro e U ⟨rfl,h,i⟩;rw[zT]at h;have m:=j.only i (by simp);have L:=i.size;have r:=p.trans (i.below (B:=w.heap.size) (by omega) (by simp));clear q j p;go_wp2_with fail
   refine(fP (w.heap.size+1) s k n _ h hk z F (by omega)).mono ?_;rintro e w3 ⟨rfl,C,x⟩;have b:=m.only x (by simp);have D:=za (r.trans (x.below (B:=w.heap.size) (by omega) (by simp)));have o:=b.cell 0;have l:=b.cell 1;have u:=b.cell 2;have N:=b.frozen 0;have J:=b.frozen 1;have Y:=b.frozen 2;simp at o l u;clear m r h;go_wp2_with fail
   refine(bs (w.heap.size+1) s _ _ _ C).mono ?_;rintro e w' ⟨rfl,rfl⟩;go_wp2;refine zo (v:= .tuple #[.agg #[.int .u64 0,.string ByteArray.empty,.string ByteArray.empty],.int .i64 0,.int .i64 2]) (by simp[results,results75,go_sem,nQ,o,l,u]) rfl ?_;exact tF A.out rfl (((D.out.setCell (by simp) _).setCell (by simp) _).setCell (by simp) _)
  have K:=za (fun w=>ri (s.extract k (k+n)) w (by rw[an _ _ _ (by omega)];omega));have H:=gQ (s.extract k (k+n));rw[an _ _ _ (by omega:k+n<=s.size),Nat.add_sub_cancel_left]at H;have ad:(s.extract k (k+n)).size=n:=by rw[an _ _ _ (by omega)];omega
  generalize W:s.extract k (k+n)=M at*;have R:=za W;generalize aw M=aa at*;obtain⟨id,sz,f⟩:=aa;dsimp only at*;clear W;rcases eF f with⟨g0,g1,g2⟩|⟨g0,g1,g2⟩
  ·subst g0;obtain⟨l1,l2,l3,l4⟩:=H rfl;have A:=za (by have:=y.out;rw[zj (by simp),zj F,zj (by simp)]at this;exact this);clear y H;go_enter func75,ntmps75
   go_wp2_with fail
   refine(E.out _).mono ?_;rintro e w' ⟨rfl,rfl⟩;go_wp2_with fail
   refine(rk s _).mono ?_;rintro e d ⟨rfl,c⟩;have q:iI d (w.heap.size+1) s 0 0:=by rw[c];have:=af.new (w.alloc (.cells #[.int .u64 0,.string ⟨#[]⟩,.string ⟨#[]⟩] 74)) 208 #[.string s,.int .i64 0,.int .i64 0];rw[zt]at this;exact this
   have j:af d w.heap.size 74 #[.int .u64 0,.string ⟨#[]⟩,.string ⟨#[]⟩]:=by rw[c];exact(af.new w _ _).alloc _
   have p:Below w.heap.size w d:=by rw[c];exact bN
   have O:d.heap.size=w.heap.size+2:=by rw[c];simp
   rw[zt];clear c;go_wp2_with fail
   refine(ei (w.heap.size+1) s 0 k _ q z (by omega)).mono ?_;rintro e U ⟨rfl,h,i⟩;rw[zT]at h;have m:=j.only i (by simp);have L:=i.size;have r:=p.trans (i.below (B:=w.heap.size) (by omega) (by simp));clear q j p;go_wp2_with fail
   refine(ei (w.heap.size+1) s k n _ h z (by omega)).mono ?_;rintro e w3 ⟨rfl,C,x⟩;rw[R.out];have b:=m.only x (by simp);have D:=za (r.trans (x.below (B:=w.heap.size) (by omega) (by simp)));have o:=b.cell 0;have l:=b.cell 1;have u:=b.cell 2;have N:=b.frozen 0;have J:=b.frozen 1;have Y:=b.frozen 2;simp at o l u;clear m r h;go_wp2_with fail
   refine(bs (w.heap.size+1) s _ _ _ C).mono ?_;rintro e w' ⟨rfl,rfl⟩;go_wp2_with fail
   refine(K.out _).mono ?_;rintro e w' ⟨rfl,rfl⟩;go_wp2;refine zo (v:= .tuple #[.agg #[.int .u64 id,.string ByteArray.empty,.string (M.extract sz n)],.int .i64 ((k:Int)+n),.int .i64 0]) (by simp[results,results75,go_sem,nQ,o,l,u]) rfl ?_;exact tF A.out (by omega) (((D.out.setCell (by simp) _).setCell (by simp) _).setCell (by simp) _)
  have A:=za (by have:=y.out;rw[zj (by simp),zj F,zl g0]at this;exact this);clear y H g0;go_enter func75,ntmps75
  go_wp2_with fail
  refine(E.out _).mono ?_;rintro e w' ⟨rfl,rfl⟩;go_wp2_with fail
  refine(rk s _).mono ?_;rintro e d ⟨rfl,c⟩;have q:iI d (w.heap.size+1) s 0 0:=by rw[c];have:=af.new (w.alloc (.cells #[.int .u64 0,.string ⟨#[]⟩,.string ⟨#[]⟩] 74)) 208 #[.string s,.int .i64 0,.int .i64 0];rw[zt]at this;exact this
  have j:af d w.heap.size 74 #[.int .u64 0,.string ⟨#[]⟩,.string ⟨#[]⟩]:=by rw[c];exact(af.new w _ _).alloc _
  have p:Below w.heap.size w d:=by rw[c];exact bN
  have O:d.heap.size=w.heap.size+2:=by rw[c];simp
  rw[zt];clear c;go_wp2_with fail
  refine(ei (w.heap.size+1) s 0 k _ q z (by omega)).mono ?_;rintro e U ⟨rfl,h,i⟩;rw[zT]at h;have m:=j.only i (by simp);have L:=i.size;have r:=p.trans (i.below (B:=w.heap.size) (by omega) (by simp));clear q j p;go_wp2_with fail
  refine(ei (w.heap.size+1) s k n _ h z (by omega)).mono ?_;rintro e w3 ⟨rfl,C,x⟩;rw[R.out];have b:=m.only x (by simp);have D:=za (r.trans (x.below (B:=w.heap.size) (by omega) (by simp)));have o:=b.cell 0;have l:=b.cell 1;have u:=b.cell 2;have N:=b.frozen 0;have J:=b.frozen 1;have Y:=b.frozen 2;simp at o l u;clear m r h;go_wp2_with fail
  refine(bs (w.heap.size+1) s _ _ _ C).mono ?_;rintro e w' ⟨rfl,rfl⟩;go_wp2_with fail
  refine(K.out _).mono ?_;rintro e w' ⟨rfl,rfl⟩;go_wp2;refine zo (v:= .tuple #[.agg #[.int .u64 0,.string ByteArray.empty,.string ByteArray.empty],.int .i64 0,.int .i64 3]) (by simp[results,results75,go_sem,nQ,o,l,u]) rfl ?_;exact tF A.out rfl (((D.out.setCell (by simp) _).setCell (by simp) _).setCell (by simp) _)
 have A:=za (by have:=y.out;rw[zl G]at this;exact this);clear y I G;go_enter func75,ntmps75
 go_wp2_with fail
 refine(E.out _).mono ?_;rintro e w' ⟨rfl,rfl⟩;go_wp2;refine zo (v:= .tuple #[.agg #[.int .u64 0,.string ByteArray.empty,.string ByteArray.empty],.int .i64 0,.int .i64 S]) (by simp[results,results75,go_sem,nQ]) rfl ?_;exact tF A.out rfl bN
theorem V4 {L:List UInt8}{j i n:Nat}{X:Nat}(c:n+mt L (j+n) (i+n) (64-n)=X)(e:n<64)(b:i+n<L.length)(d:L[j+n]?=L[i+n]?):(n+1)+mt L (j+(n+1)) (i+(n+1)) (64-(n+1))=X:=by
 rw[<-c,show 64-n=(64-(n+1))+1 from by omega,mt,zl ⟨b,d⟩];rw[show j+(n+1)=j+n+1 from by omega,show i+(n+1)=i+n+1 from by omega];omega
theorem O8 {L:List UInt8}{j i n:Nat}{X:Nat}(c:n+mt L (j+n) (i+n) (64-n)=X)(k:n<=64)(h:¬n<64\/¬i+n<L.length\/L[j+n]?≠L[i+n]?):X=n:=by
 rw[<-c];by_cases b:n<64
 ·rw[show 64-n=(64-(n+1))+1 from by omega,mt,zj (by
   rintro⟨d,e⟩;rcases h with h|h|h
   ·exact h b
   ·exact h d
   exact h e)];rfl
 rw[show 64-n=0 from by omega];rfl
theorem J3 {s:ByteArray}{a b:Nat}(d:a<s.size)(c:b<s.size):(s[a].toNat==s[b].toNat)=true↔s.data.toList[a]?=s.data.toList[b]?:=by
 rw[gq s a d,gq s b c];simp[zW]
theorem Ia (w:World)(a b:Nat):(w.drewN a).drewN b=w.drewN (a+b):=by simp[World.drewN,yw]
theorem CN {k:IntKind}{a b:Nat}(h:a=b):Ending.returned (.int k b)= .returned (.int k a):=by rw[h]
theorem SZ (s:ByteArray)(j i:Nat)(w:World)(D:j<i)(hi:i<=s.size)(A:s.size<=9223372036854775000):
 Calls prog 159 #[.string s,.int .i64 j,.int .i64 i] w fun e w'=>e= .returned (.int .i64 (mt s.data.toList j i 64))/\∃m,w'=w.drewN m:=by
 go_enter func159,ntmps159
 go_wp2;go_loopw [7] (fun v wr=>∃n:Nat,n<=64/\n<=64/\v= .int .i64 n/\Hid (n+mt s.data.toList (j+n) (i+n) (64-n)=mt s.data.toList j i 64)/\∃m,wr=w.drewN m) (fun v _=>64-(intOf v).toNat)
 case atStart=>exact⟨0,by omega,by omega,rfl,za (by simp),0,rfl⟩
 case round=>
  obtain⟨n,d,_,rfl,b,m,rfl⟩:=hrel;by_cases l:n<64
  ·have q:decide ((n:Int)<64)=true:=zH (by omega);have E:IntKind.i64.wrap ((i:Int)+n)=(i:Int)+n:=yh _ (by omega);have y:IntKind.i64.wrap ((j:Int)+n)=(j:Int)+n:=yh _ (by omega);by_cases c:i+n<s.size
   ·have r:decide ((i:Int)+n<s.size)=true:=zH (by omega);have F:((j:Int)+n).toNat=j+n:=by omega
    have z:((i:Int)+n).toNat=i+n:=by omega
    have x:0<=(j:Int)+n:=by omega
    have u:0<=(i:Int)+n:=by omega
    have C:(j:Int)+n<s.size:=by omega
    have B:(i:Int)+n<s.size:=by omega
    have o:j+n<s.size:=by omega
    rcases xk (s[j+n].toNat==s[i+n].toNat)with hb|hb
    ·have k:=za ((J3 o c).1 hb);have p:((s[j+n].toNat:Int)==s[i+n].toNat)=true:=by
      have:=eq_of_beq hb;rw[this];simp
     clear hb;go_wp2;go_quiet (fail)
     go_wp2;go_roundw
     case rel=>exact⟨n+1,by omega,by omega,by go_num,za (V4 b.out l (by simpa using c) k.out),_,rfl⟩
     case measure=>simp[intOf];omega
    have k:Hid (¬(s.data.toList[j+n]?=s.data.toList[i+n]?)):=za (by
     intro h;rw[(J3 o c).2 h]at hb;exact absurd hb (by decide))
    have p:((s[j+n].toNat:Int)==s[i+n].toNat)=false:=by
     have:=ne_of_beq_false hb;exact zr.2 (by omega)
    clear hb;go_wp2;go_quiet (fail)
    go_wp2;go_ret;exact⟨CN (O8 b.out d (.inr (.inr k.out))),_,Ia _ _ _⟩
   have r:decide ((i:Int)+n<s.size)=false:=zz (by omega);go_wp2;go_quiet (fail)
   go_wp2;go_ret;exact⟨CN (O8 b.out d (.inr (.inl (by simpa using c)))),_,Ia _ _ _⟩
  have q:decide ((n:Int)<64)=false:=zz (by omega);go_wp2;go_quiet (fail)
  go_wp2;go_ret;exact⟨CN (O8 b.out d (.inl l)),_,Ia _ _ _⟩
def O9 (base:Nat)(w:World)(l:List UInt8)(e:Ending)(w':World):Prop:=
 ∃(A:Option Addr) (n cap:Nat),e= .returned (.slice A n cap)/\bJ w' base 5 (.slice A n cap) l/\Kept 5 base w w'
theorem V5 {l:List UInt8}(h:l.length=0):gT l= []:=by unfold gT;rw[zl h]
theorem V6 {l:List UInt8}(h:l.length≠0)(b:l.length<=60):gT l= [ub (4*(l.length-1):Nat)]++l:=by unfold gT;rw[zj h,zl b];rfl
theorem V7 {l:List UInt8}(h:¬l.length<=60)(b:l.length<=256):gT l= [ub (240:Nat),ub (l.length-1:Nat)]++l:=by unfold gT;rw[zj (by omega),zj h,zl b];rfl
theorem V8 {l:List UInt8}(h:¬l.length<=256)(b:l.length<=65536):gT l= [ub (244:Nat)]++(je (l.length-1) 2++l):=by
 unfold gT;rw[zj (by omega),zj (by omega),zj h];simp only[je];simp;refine⟨rfl, ?_⟩;rw[Int.emod_eq_of_lt (by omega) (by omega)]
theorem J4 (base:Nat)(v:Value)(l:List UInt8)(s:ByteArray)(w:World)(h:bJ w base 5 v l)(y:base<=w.heap.size)(W:l.length<=1000000)(U:s.size<=65536):
 Calls prog 158 #[v,.string s] w (O9 base w (l++gT s.data.toList)):=by
 obtain⟨i0,hi,c,k,i⟩:=yT rh;obtain⟨A,cap,rfl,oU,lI⟩:=h.form;generalize Y:l.length=n at*;have j:=aa s;by_cases p:s.size=0
 ·have O:((s.size:Int)==0)=true:=by simp[p]
  have d:=za (V5 (l:=s.data.toList) (by omega));clear p j;go_enter func158,ntmps158
  go_wp2;go_ret;exact⟨A,n,cap,rfl,by rw[d.out,xp];exact h,Kept.refl _ _ _⟩
 have O:((s.size:Int)==0)=false:=zr.2 (by omega);have eT:1<=s.size:=by omega
 by_cases h1:s.size<=60
 ·have d:=za (V6 (l:=s.data.toList) (by omega) (by omega));have r:=za (show s.data.toList.length-1=s.size-1 by rw[j]);clear p j;go_enter func158,ntmps158
  go_wp2_with (first|(at_builtin;refine aN (by rfl) (.tmp 29) (.tmp 34) 31 31 (by rfl) base 5 i0 zx hi c k i (by rfl) (h.alloc _) _ [ub (4*(s.size-1):Nat)] (by rfl) (jR zx w 5 _ [ub (4*(s.size-1):Nat)] 1 (ox (by omega) (by omega))) (by rw[zt];omega) (by simp only[zD,zS];omega) ?_;intro F n1 E D q b)|(at_builtin;refine aN (by rfl) (.tmp 45) (.tmp 46) 31 9 (by rfl) base 5 i0 zx hi c k i (by rfl) q _ s.data.toList (by rfl) (iS zO _ s) (zK (by rw[zt];omega) b.size) (by simp only[zp,zD,zS,aa];omega) ?_;intro x n2 u H o m))
  go_ret;refine⟨x,n2,u,rfl, ?_,((Kept.refl _ _ _).alloc y _).trans (b.trans m)⟩;rw[d.out,r.out,<-zI];exact o
 by_cases X:s.size<=256
 ·have d:=za (V7 (l:=s.data.toList) (by omega) (by omega));have r:=za (show s.data.toList.length-1=s.size-1 by rw[j]);clear p j;go_enter func158,ntmps158
  go_wp2_with (first|(at_builtin;refine aN (by rfl) (.tmp 39) (.tmp 43) 31 31 (by rfl) base 5 i0 zx hi c k i (by rfl) (h.alloc _) _ [ub (240:Nat),ub (s.size-1:Nat)] (by rfl) (jR zx w 5 _ [ub (240:Nat),ub (s.size-1:Nat)] 2 (Oc (by omega) (by omega) (by omega) (by omega))) (by rw[zt];omega) (by simp only[zD,zS];omega) ?_;intro F n1 E D q b)|(at_builtin;refine aN (by rfl) (.tmp 45) (.tmp 46) 31 9 (by rfl) base 5 i0 zx hi c k i (by rfl) q _ s.data.toList (by rfl) (iS zO _ s) (zK (by rw[zt];omega) b.size) (by simp only[zp,zD,zS,aa];omega) ?_;intro x n2 u H o m))
  go_ret;refine⟨x,n2,u,rfl, ?_,((Kept.refl _ _ _).alloc y _).trans (b.trans m)⟩;rw[d.out,r.out,<-zI];exact o
 have d:=za (V8 (l:=s.data.toList) (by omega) (by omega));have r:=za (show s.data.toList.length-1=s.size-1 by rw[j]);have C:=za (jz (s.size-1) 2 w (by omega) (by omega) (by omega));rw[show((s.size-1:Nat):Int)=(s.size:Int)-1 from by omega]at C;have B:(⟨(je (s.size-1) 2).toArray⟩:ByteArray).data.toList=je (s.size-1) 2:=rfl;generalize (⟨(je (s.size-1) 2).toArray⟩:ByteArray)=T at*;have Z:T.data.toList.length=2:=by rw[B,bc]
 have R:=za B;clear p j B;go_enter func158,ntmps158
 go_wp2_with fail
 refine C.out.mono ?_;rintro e I ⟨rfl,z⟩;have hz:=z.size;have N:=h.below z;have L:Kept 5 base w I:=Kept.ag z (zf _) y;go_wp2_with (first|(at_builtin;refine aN (by rfl) (.tmp 17) (.tmp 18) 31 31 (by rfl) base 5 i0 zx hi c k i (by rfl) (N.alloc _) _ [ub (244:Nat)] (by rfl) (jR zx I 5 _ [ub (244:Nat)] 1 (ox (by omega) (by omega))) (by rw[zt];omega) (by simp only[zD,zS];omega) ?_;intro F n1 E D q b)|(at_builtin;refine aN (by rfl) (.tmp 19) (.tmp 20) 31 9 (by rfl) base 5 i0 zx hi c k i (by rfl) q _ T.data.toList (by rfl) (iS zO _ T) (zK (by rw[zt];omega) b.size) (by simp only[zp,zD,zS];omega) ?_;intro x n2 u H o m)|(at_builtin;refine aN (by rfl) (.tmp 45) (.tmp 46) 31 9 (by rfl) base 5 i0 zx hi c k i (by rfl) o _ s.data.toList (by rfl) (iS zO _ s) (zK (by rw[zt];omega) (b.trans m).size) (by simp only[zp,zD,zS,aa];rw[<-aa T];omega) ?_;intro M K S w3 G J))
 go_ret;refine⟨M,K,S,rfl, ?_,L.trans (((Kept.refl _ _ _).alloc (by omega) _).trans (b.trans (m.trans J)))⟩;rw[R.out]at G;rw[d.out,r.out,<-zI,<-zI];exact G
theorem V9 {n d:Nat}(h:n<=11)(b:d<2048):kG n d= [ub (1+4*(n-4)+32*(d/256):Nat),ub (d%256:Nat)]:=by unfold kG;rw[zl ⟨h,b⟩]
theorem Wa {n d:Nat}(h:¬(n<=11/\d<2048))(hd:d<65536):kG n d= [ub (2+4*(n-1):Nat)]++je d 2:=by
 unfold kG;rw[zj h];simp only[je];simp;rw[Int.emod_eq_of_lt (by omega) (by omega)]
theorem S3 (base:Nat)(v:Value)(l:List UInt8)(n d:Nat)(w:World)(h:bJ w base 5 v l)(s:base<=w.heap.size)(O:l.length<=1000000)(K:4<=n)(R:n<=64)(hd:d<65536):
 Calls prog 160 #[v,.int .i64 n,.int .i64 d] w (O9 base w (l++kG n d)):=by
 obtain⟨i0,hi,i,m,k⟩:=yT rh;obtain⟨A,cap,rfl,X,U⟩:=h.form;generalize M:l.length=N at*;by_cases b:n<=11/\d<2048
 ·obtain⟨b,y⟩:=b;have j:=za (V9 b y);have L:decide ((d:Int)<2048)=true:=zH (by omega);go_enter func160,ntmps160
  go_wp2_with (at_builtin;refine aN (by rfl) (.tmp 15) (.tmp 28) 31 31 (by rfl) base 5 i0 zx hi i m k (by rfl) (h.alloc _) _ [ub (1+4*(n-4)+32*(d/256):Nat),ub (d%256:Nat)] (by rfl) (jR zx w 5 _ [ub (1+4*(n-4)+32*(d/256):Nat),ub (d%256:Nat)] 2 (Oc (by omega) (by omega) (by omega) (by omega))) (by rw[zt];omega) (by simp only[zD,zS];omega) ?_;intro x n1 r C o c)
  go_ret;exact⟨x,n1,r,rfl,by rw[j.out];exact o,((Kept.refl _ _ _).alloc s _).trans c⟩
 have j:=za (Wa b hd);have E:11<n\/(n<=11/\2048<=d):=by omega
 have B:=za (jz d 2 w (by omega) (by omega) (by omega));have q:(⟨(je d 2).toArray⟩:ByteArray).data.toList=je d 2:=rfl;generalize (⟨(je d 2).toArray⟩:ByteArray)=T at*;have S:T.data.toList.length=2:=by rw[q,bc]
 have H:=za q;clear b q;rcases E with b|⟨b,y⟩;all_goals
  go_enter func160,ntmps160
  go_wp2_with fail
  refine B.out.mono ?_;rintro e z ⟨rfl,p⟩;have hz:=p.size;have G:=h.below p;have F:Kept 5 base w z:=Kept.ag p (zf _) s;go_wp2_with (first|(at_builtin;refine aN (by rfl) (.tmp 36) (.tmp 42) 31 31 (by rfl) base 5 i0 zx hi i m k (by rfl) (G.alloc _) _ [ub (2+4*(n-1):Nat)] (by rfl) (jR zx z 5 _ [ub (2+4*(n-1):Nat)] 1 (ox (by omega) (by omega))) (by rw[zt];omega) (by simp only[zD,zS];omega) ?_;intro x n1 r C o c)|(at_builtin;refine aN (by rfl) (.tmp 43) (.tmp 44) 31 9 (by rfl) base 5 i0 zx hi i m k (by rfl) o _ T.data.toList (by rfl) (iS zO _ T) (zK (by rw[zt];omega) c.size) (by simp only[zp,zD,zS];omega) ?_;intro J n2 I W u D))
  go_ret;refine⟨J,n2,I,rfl, ?_,F.trans (((Kept.refl _ _ _).alloc (by omega) _).trans (c.trans D))⟩;rw[H.out]at u;rw[j.out,<-zI];exact u
abbrev s0 (w:World)(g:Nat)(a u t p:Nat):Prop:=af w g 109 #[.int .i64 a,.int .i64 u,.int .i64 t,.int .i64 p]
theorem Ib (n:Int)(w:World):
 Calls prog 30 #[.int .i64 n] w fun e w'=>e= .returned (.pointer (some ⟨w.heap.size,0,none⟩))/\w'=w.alloc (.cells #[.int .i64 (n.toNat:Nat),.int .i64 0,.int .i64 0,.int .i64 0] 109):=by
 by_cases h:n<0
 ·have b:((n.toNat:Nat):Int)=0:=by omega
  rw[b];clear b;go_enter func30,ntmps30
  go_wp2;go_ret;exact⟨rfl,rfl⟩
 have b:((n.toNat:Nat):Int)=n:=by omega
 rw[b];clear b;go_enter func30,ntmps30
 go_wp2;go_ret;exact⟨rfl,rfl⟩
theorem S4 (g a u t p:Nat)(w:World)(h:s0 w g a u t p):
 Calls prog 33 #[.pointer (some ⟨g,0,none⟩)] w fun e w'=>e= .returned (.int .i64 t)/\w=w':=by
 have b:=h.cell 2;simp at b;clear h;go_enter func33,ntmps33
 go_wp2;go_ret;exact⟨rfl,rfl⟩
theorem Fb (a b:Nat)(d:a<=9223372036854775807)(c:b<=9223372036854775807):IntKind.i64.wrap ((a:Int)-b)=(a:Int)-b:=yh _ (by omega)
theorem va (g c b a u t n:Nat)(w:World)(i:w.cell? ⟨g,0,none⟩=some (.int .i64 a))(h:w.cell? ⟨g,1,none⟩=some (.int .i64 u))(j:w.cell? ⟨g,2,none⟩=some (.int .i64 t))(m:w.cell? ⟨c,0,none⟩=some (.int .i64 n))(q:w.cell? ⟨b,0,none⟩=some (.pointer (some ⟨g,0,none⟩)))
 (o:a<=9223372036854775807) (hu:u<=a) (d:(n:Int)<=a-u) (s:t+n<=9223372036854775807):
 Calls prog 46 #[.pointer (some ⟨c,0,none⟩),.pointer (some ⟨b,0,none⟩)] w fun e w'=>e= .returned (.int .i64 0)/\∃k,w.drewN k=w':=by
 have hd:decide ((a:Int)-u<n)=false:=by simpa using d
 have r:=Fb a u (by omega) (by omega);have p:IntKind.i64.wrap (9223372036854775807-(t:Int))=9223372036854775807-(t:Int):=yh _ (by omega);have l:decide (9223372036854775807-(t:Int)<n)=false:=by simp;omega
 go_enter func46,ntmps46
 go_wp2;go_quiet (fail)
 go_wp2;go_ret;exact⟨rfl,_,rfl⟩
theorem CO (g c b u t n:Nat)(w:World)(i:w.cell? ⟨g,1,none⟩=some (.int .i64 u))(j:w.cell? ⟨g,2,none⟩=some (.int .i64 t))(f1:w.frozen? ⟨g,1,none⟩=false)(f2:w.frozen? ⟨g,2,none⟩=false)(k:w.cell? ⟨c,0,none⟩=some (.int .i64 n))(l:w.cell? ⟨b,0,none⟩=some (.pointer (some ⟨g,0,none⟩)))
 (n1:g≠c) (n2:g≠b) (hu:u+n<=9223372036854775807) (o:t+n<=9223372036854775807):
 Calls prog 47 #[.pointer (some ⟨b,0,none⟩),.pointer (some ⟨c,0,none⟩)] w fun e w'=>e= .returned (.tuple #[])/\∃m,((w.setCell ⟨g,1,none⟩ (.int .i64 (u+n:Nat))).setCell ⟨g,2,none⟩ (.int .i64 (t+n:Nat))).drewN m=w':=by
 have h:((u+n:Nat):Int)=(u:Int)+n:=by omega
 have d:((t+n:Nat):Int)=(t:Int)+n:=by omega
 rw[h,d];clear h d;go_enter func47,ntmps47
 go_wp2;go_region
 all_goals go_wp2
 go_region
 all_goals go_wp2
 go_end0
 exact⟨rfl,2,rfl⟩
theorem S5 (g j i a u t p n q x:Nat)(w:World)(c:Hid (u+n=q))(l:Hid (t+n=x))(h:s0 w g a u t p)(y:w.cell? ⟨j,0,none⟩=some (.int .i64 n))(s:w.cell? ⟨i,0,none⟩=some (.pointer (some ⟨g,0,none⟩)))(n1:g≠j)(n2:g≠i)(F:a<=9223372036854775807)(K:q<=a)(L:x<=9223372036854775807):
 Calls prog 45 #[.pointer (some ⟨g,0,none⟩),.int .i64 n,.func (.func 46) #[] #[.pointer (some ⟨j,0,none⟩),.pointer (some ⟨i,0,none⟩)],.func (.func 47) #[] #[.pointer (some ⟨i,0,none⟩),.pointer (some ⟨j,0,none⟩)]] w
  fun e w'=>e= .returned (.int .i64 0)/\s0 w' g a q x (max p q)/\ae [g] w w':=by
 have D:=h.cell 0;have r:=h.cell 1;have o:=h.cell 2;have E:=h.frozen 1;have G:=h.frozen 2;simp at D r o;have H:=za h;clear h;rcases Nat.lt_trichotomy p q with hp|hp|hp
 ·rw[Nat.max_eq_right (by omega)];go_enter func45,ntmps45
  go_wp2_with fail
  refine(va g j i a u t n w D r o y s F (by have:=c.out;omega) (by have:=c.out;omega) (by have:=l.out;omega)).mono ?_;rintro e I ⟨rfl,k,rfl⟩;go_wp2_with fail
  refine(CO g j i u t n (w.drewN k) r o E G y s n1 n2 (by have:=c.out;omega) (by have:=l.out;omega)).mono ?_;rintro e w3 ⟨rfl,m,d⟩;have b:s0 w3 g a q x p:=by
   rw[<-d,c.out,l.out];have h:=H.out;unfold s0 at h⊢
   (repeat(first|with_reducible assumption|with_reducible apply af.drewN|with_reducible apply af.drew|with_reducible apply af.alloc|((with_reducible apply af.beside); · (first|omega|(simp<;>omega)))|with_reducible apply af.store));all_goals(first|rfl|simp)
  have C:ae [g] w w3:=by rw[<-d];exact Cr
  clear d;have z:=b.cell 1;have B:=b.cell 3;have J:=b.frozen 3;simp at z B;have A:=za b;clear b;go_wp2;go_region
  all_goals
   go_wp2;go_ret;refine⟨rfl, ?_,C.up⟩;have h:=A.out;unfold s0 at h⊢
   (repeat(first|with_reducible assumption|with_reducible apply af.drewN|with_reducible apply af.drew|with_reducible apply af.alloc|((with_reducible apply af.beside); · (first|omega|(simp<;>omega)))|with_reducible apply af.store));all_goals(first|rfl|simp)
 ·obtain rfl:q=p:=hp.symm;rw[Nat.max_self];clear hp;go_enter func45,ntmps45
  go_wp2_with fail
  refine(va g j i a u t n w D r o y s F (by have:=c.out;omega) (by have:=c.out;omega) (by have:=l.out;omega)).mono ?_;rintro e I ⟨rfl,k,rfl⟩;go_wp2_with fail
  refine(CO g j i u t n (w.drewN k) r o E G y s n1 n2 (by have:=c.out;omega) (by have:=l.out;omega)).mono ?_;rintro e w3 ⟨rfl,m,d⟩;have b:s0 w3 g a q x q:=by
   rw[<-d,c.out,l.out];have h:=H.out;unfold s0 at h⊢
   (repeat(first|with_reducible assumption|with_reducible apply af.drewN|with_reducible apply af.drew|with_reducible apply af.alloc|((with_reducible apply af.beside); · (first|omega|(simp<;>omega)))|with_reducible apply af.store));all_goals(first|rfl|simp)
  have C:ae [g] w w3:=by rw[<-d];exact Cr
  clear d;have z:=b.cell 1;have B:=b.cell 3;have J:=b.frozen 3;simp at z B;have A:=za b;clear b;go_wp2;go_region
  all_goals
   go_wp2;go_ret;refine⟨rfl, ?_,C.up⟩;have h:=A.out;unfold s0 at h⊢
   (repeat(first|with_reducible assumption|with_reducible apply af.drewN|with_reducible apply af.drew|with_reducible apply af.alloc|((with_reducible apply af.beside); · (first|omega|(simp<;>omega)))|with_reducible apply af.store));all_goals(first|rfl|simp)
 rw[Nat.max_eq_left (by omega)];go_enter func45,ntmps45
 go_wp2_with fail
 refine(va g j i a u t n w D r o y s F (by have:=c.out;omega) (by have:=c.out;omega) (by have:=l.out;omega)).mono ?_;rintro e I ⟨rfl,k,rfl⟩;go_wp2_with fail
 refine(CO g j i u t n (w.drewN k) r o E G y s n1 n2 (by have:=c.out;omega) (by have:=l.out;omega)).mono ?_;rintro e w3 ⟨rfl,m,d⟩;have b:s0 w3 g a q x p:=by
  rw[<-d,c.out,l.out];have h:=H.out;unfold s0 at h⊢
  (repeat(first|with_reducible assumption|with_reducible apply af.drewN|with_reducible apply af.drew|with_reducible apply af.alloc|((with_reducible apply af.beside); · (first|omega|(simp<;>omega)))|with_reducible apply af.store));all_goals(first|rfl|simp)
 have C:ae [g] w w3:=by rw[<-d];exact Cr
 clear d;have z:=b.cell 1;have B:=b.cell 3;have J:=b.frozen 3;simp at z B;have A:=za b;clear b;go_wp2;go_region
 all_goals
  go_wp2;go_ret;refine⟨rfl, ?_,C.up⟩;have h:=A.out;unfold s0 at h⊢
  (repeat(first|with_reducible assumption|with_reducible apply af.drewN|with_reducible apply af.drew|with_reducible apply af.alloc|((with_reducible apply af.beside); · (first|omega|(simp<;>omega)))|with_reducible apply af.store));all_goals(first|rfl|simp)
theorem pS (g a u t p n:Nat)(w:World)(h:s0 w g a u t p)(l:a<=9223372036854775807)(j:u+n<=a)(o:t+n<=9223372036854775807):
 Calls prog 31 #[.pointer (some ⟨g,0,none⟩),.int .i64 n] w fun e w'=>e= .returned (.int .i64 0)/\s0 w' g a (u+n) (t+n) (max p (u+n))/\ae [g] w w':=by
 have q:=h.lt;have b:=(h.alloc (.cells #[.pointer (some ⟨g,0,none⟩)] 79)).alloc (.cells #[.int .i64 n] 3);have c:((w.alloc (.cells #[.pointer (some ⟨g,0,none⟩)] 79)).alloc (.cells #[.int .i64 n] 3)).cell? ⟨w.heap.size+1,0,none⟩=some (.int .i64 n):=by
  simp
 have d:((w.alloc (.cells #[.pointer (some ⟨g,0,none⟩)] 79)).alloc (.cells #[.int .i64 n] 3)).cell? ⟨w.heap.size,0,none⟩=some (.pointer (some ⟨g,0,none⟩)):=by
  simp
 have m:=za (S5 g (w.heap.size+1) w.heap.size a u t p n _ _ _ (za rfl) (za rfl) b c d (by omega) (by omega) l j o);clear b c d h;go_enter func31,ntmps31
 go_wp2_with fail
 refine m.out.mono ?_;rintro e r ⟨rfl,i,k⟩;go_wp2;go_ret;exact⟨rfl,i,(((ae.refl [g] w).alloc _).alloc _).trans k⟩
def jg (w:World)(g:Nat)(s:ByteArray)(p L:Nat):Prop:=af w g 150 #[.string s,.int .i64 p,.int .i64 L]
theorem jg.cells {w:World}{g:Nat}{s:ByteArray}{p L:Nat}(h:jg w g s p L):w.cell? ⟨g,0,none⟩=some (.string s)/\w.cell? ⟨g,1,none⟩=some (.int .i64 p)/\w.cell? ⟨g,2,none⟩=some (.int .i64 L)/\w.frozen? ⟨g,0,none⟩=false/\w.frozen? ⟨g,1,none⟩=false/\w.frozen? ⟨g,2,none⟩=false/\g<w.heap.size:=by
 obtain⟨a,b,c,d,e,f⟩:=a8 h;exact⟨a,b,c,d,e,f,af.lt h⟩
theorem jg.to {w:World}{g:Nat}{s:ByteArray}{p L:Nat}{n:Int}{q:Nat}(h:jg w g s p L)(b:n=q):jg (w.setCell ⟨g,1,none⟩ (.int .i64 n)) g s q L:=by
 subst b;exact af.store h rfl
theorem jg.less {w:World}{g:Nat}{s:ByteArray}{p L:Nat}{n:Int}{q:Nat}(h:jg w g s p L)(b:n=q):jg (w.setCell ⟨g,2,none⟩ (.int .i64 n)) g s p q:=by
 subst b;exact af.store h rfl
theorem eQ (g:Nat)(s:ByteArray)(p L:Nat)(b:Nat)(w:World)(h:jg w g s p L)(i:p<s.size)(k:s.size<=100000)(c:s[p].toNat=b):
 Calls prog 149 #[.pointer (some ⟨g,0,none⟩),.int .u8 b] w fun e w'=>e= .returned (.bool true)/\jg w' g s (p+1) L/\ae [g] w w':=by
 obtain⟨g0,g1,g2,f0,f1,f2,j⟩:=h.cells;have d:=za h;subst c;clear h;have i1:((p:Int)==(s.size:Int))=false:=zr.2 (by omega);go_enter func149,ntmps149
 go_wp2_with fail
 go_quiet (fail)
 go_wp2;go_ret;exact⟨rfl,(show jg (w.drewN _) g s p L from d.out).to (by go_num),Cr⟩
theorem fZ (g:Nat)(s:ByteArray)(p L:Nat)(b:Nat)(w:World)(h:jg w g s p L)(k:p<=s.size)(j:s.size<=100000)(c:∀d:p<s.size,s[p].toNat≠b):
 Calls prog 149 #[.pointer (some ⟨g,0,none⟩),.int .u8 b] w fun e w'=>e= .returned (.bool false)/\∃n,w'=w.drewN n:=by
 obtain⟨g0,g1,g2,f0,f1,f2,i⟩:=h.cells;clear h;by_cases d:p<s.size
 ·have i1:((p:Int)==(s.size:Int))=false:=zr.2 (by omega);have i2:((s[p].toNat:Int) !=(b:Int))=true:=yQ.2 (by have:=c d;omega);clear c;go_enter func149,ntmps149
  go_wp2_with fail
  go_quiet (fail)
  go_wp2;go_ret;exact⟨rfl,_,rfl⟩
 have i1:((p:Int)==(s.size:Int))=true:=xe.2 (by omega);clear c;go_enter func149,ntmps149
 go_wp2_with fail
 go_quiet (fail)
 go_wp2;go_ret;exact⟨rfl,_,rfl⟩
def O' :Option Value->Nat
 |some (.int _ z)=>z.toNat
 |_=>0
theorem Ic (g:Nat)(s:ByteArray)(p L most:Nat)(w:World)(h:jg w g s p L)(J:p<=s.size)(hs:s.size<=100000)(hm:most<=65536):
 Calls prog 148 #[.pointer (some ⟨g,0,none⟩),.int .i64 most] w fun e w'=>∃(n:Nat) (ok:Bool) (q:Nat),e= .returned (.tuple #[.int .i64 n,.bool ok])/\jg w' g s q L/\ae [g] w w'/\nV most s p n ok q:=by
 obtain⟨g0,g1,g2,f0,f1,f2,hl⟩:=h.cells;have R:=za h;clear h;go_enter func148,ntmps148
 go_wp2_with fail
 go_loopw [7] (fun O wr=>∃k m:Nat,p<=k/\k<=s.size/\O= .int .i64 m/\m<=most/\Hid (kJ s p k m)/\Hid (jg wr g s k L)/\ae [g] w wr) (fun _ wr=>s.size-O' (wr.cell? ⟨g,1,none⟩))
 case atStart=>exact⟨p,0,by omega,J,rfl,by omega,za (kJ.start s p),R,Cr⟩
 case round=>
  obtain⟨k,m,ad,hk,rfl,Qx,o,c,j⟩:=hrel;obtain⟨c0,K,c2,aa,ag,af,Y⟩:=c.out.cells;clear g0 g1 g2 f0 f1 f2;have E:(∃_:k<s.size,48<=s[k].toNat/\s[k].toNat<=57)\/(∀h:k<s.size,iO s[k]=false)/\((∃_:k<s.size,48<=s[k].toNat/\¬s[k].toNat<=57)\/(∃_:k<s.size,¬48<=s[k].toNat)\/¬k<s.size):=by
   by_cases b:k<s.size
   ·by_cases i:48<=s[k].toNat
    ·by_cases l:s[k].toNat<=57
     ·exact .inl ⟨b,i,l⟩
     exact .inr ⟨fun _=>by rw[ZE];intro hd;exact l ((kI _).1 hd).2,.inl ⟨b,i,l⟩⟩
    exact .inr ⟨fun _=>by rw[ZE];intro hd;exact i ((kI _).1 hd).1,.inr (.inl ⟨b,i⟩)⟩
   exact .inr ⟨fun h=>absurd h b,.inr (.inr b)⟩
  rcases E with⟨b,i,l⟩|⟨H,E⟩
  ·have i1:decide ((k:Int)<(s.size:Int))=true:=zH (by omega);have i2:decide ((48:Int)<=(s[k].toNat:Int))=true:=zH (by omega);have U:decide ((s[k].toNat:Int)<=(57:Int))=true:=zH (by omega);obtain⟨d,hd⟩:∃d:Nat,s[k].toNat-48=d:=⟨_,rfl⟩
   have e1:IntKind.u8.wrap ((s[k].toNat:Int)-48)=d:=by rw[show(s[k].toNat:Int)-48=d from by omega];exact IntWalk.u8_in _ (by omega)
   have Z:IntKind.i64.wrap (10*(m:Int))=10*m:=yh _ (by omega);have e3:IntKind.i64.wrap (d:Int)=d:=yh _ (by omega);have e4:IntKind.i64.wrap (10*(m:Int)+d)=10*(m:Int)+d:=yh _ (by omega);have F:Hid (kJ s p (k+1) (10*m+d)):=za (by
    have:=o.out.next b ((kI _).2 ⟨i,l⟩);rwa [fa,zl (by omega),hd]at this)
   have y:Hid (∀V,jg V g s k L->jg (V.setCell ⟨g,1,none⟩ (.int .i64 ((k:Int)+1))) g s (k+1) L):=za (fun V x=>x.to (by omega));by_cases ab:(most:Int)<10*(m:Int)+d
   ·have N:Hid (∀u r,cc (s.data.toList.drop p)=some (u,r)->most<u):=za (fun u r D=>by have:=Lx F.out u r D;omega);go_wp2_with fail
    go_quiet (fail)
    go_wp2_with fail
    go_quiet (fail)
    go_wp2;go_ret2
    exact⟨0,false,k+1,rfl,y.out _ (by exact c.out),j.up,Ev N.out (by omega) (by omega)⟩
   go_wp2_with fail
   go_quiet (fail)
   go_wp2_with fail
   go_quiet (fail)
   go_wp2;go_roundw
   case rel=>exact⟨k+1,10*m+d,by omega,by omega,by go_num,by omega,F,za (y.out _ (by exact c.out)),j.up⟩
   case measure=>
    have D:=fun V (x:jg V g s k L)=>(y.out V x).cells.2.1
    rw[K,D]
    ·simp only[O'];omega
    exact c.out
  have C:=za H;clear H;rcases E with⟨b,i,l⟩|⟨b,i⟩|b;all_goals
   first
    |(have i1:decide ((k:Int)<(s.size:Int))=true:=zH (by omega);have i2:decide ((48:Int)<=(s[k].toNat:Int))=true:=zH (by omega);have U:decide ((s[k].toNat:Int)<=(57:Int))=false:=zz (by omega))
    |(have i1:decide ((k:Int)<(s.size:Int))=true:=zH (by omega);have i2:decide ((48:Int)<=(s[k].toNat:Int))=false:=zz (by omega))
    |have i1:decide ((k:Int)<(s.size:Int))=false:=zz (by omega)
   have X:IntKind.i64.wrap ((k:Int)-p)=(k:Int)-p:=yh _ (by omega);by_cases A:k=p
   ·have I:(((k:Int)-p)==1)=false:=zr.2 (by omega);have S:decide ((1:Int)<(k:Int)-p)=false:=zz (by omega);have z:=za (nw (s:=s) (at_:=p) (fun h=>by have:=C.out (by omega);simpa[A]using this));clear A;go_wp2_with fail
    go_quiet (fail)
    go_wp2_with fail
    go_quiet (fail)
    go_wp2;go_ret2
    exact⟨m,false,k,rfl,c.out,j.up,uG z.out (by omega) (by omega)⟩
   have G:Hid (p<k):=za (by omega);by_cases W:k=p+1
   ·have I:(((k:Int)-p)==1)=true:=xe.2 (by omega);have B:=za (jV o.out (by omega) C.out (fun h=>absurd h (by omega)));clear W A;go_wp2_with fail
    go_quiet (fail)
    go_wp2_with fail
    go_quiet (fail)
    go_wp2;go_ret2
    exact⟨m,true,k,rfl,c.out,j.up,Bq B.out (by omega) G.out (by omega)⟩
   have I:(((k:Int)-p)==1)=false:=zr.2 (by omega);have S:decide ((1:Int)<(k:Int)-p)=true:=zH (by omega);have ah:p<s.size:=by omega
   by_cases hz:s[p].toNat=48
   ·have M:((s[p].toNat:Int) !=48)=false:=by simp[hz]
    have z:=za (ny o.out (by omega) (fun _=>hz));clear hz;go_wp2_with fail
    go_quiet (fail)
    go_wp2_with fail
    go_quiet (fail)
    go_wp2;go_ret2
    exact⟨m,false,k,rfl,c.out,j.up,uG z.out (by omega) (by omega)⟩
   have M:((s[p].toNat:Int) !=48)=true:=yQ.2 (by omega);have B:=za (jV o.out (by omega) C.out (fun _ _=>hz));clear hz;go_wp2_with fail
   go_quiet (fail)
   go_wp2_with fail
   go_quiet (fail)
   go_wp2;go_ret2
   exact⟨m,true,k,rfl,c.out,j.up,Bq B.out (by omega) G.out (by omega)⟩
theorem Pa (g a b c:Nat)(s:ByteArray)(k:Nat)(v:Value)(w:World)(h:iI w g s k 0)(n:af w a 3 #[.int .i64 9])(m:af w b 163 #[.pointer (some ⟨g,0,none⟩)])(i:af w c 9 #[v])(y:k<=s.size)(x:s.size<=9223372036854775807):
 Calls prog 207 #[.pointer (some ⟨a,0,none⟩),.pointer (some ⟨b,0,none⟩),.pointer (some ⟨c,0,none⟩)] w fun e w'=>e= .returned (.int .i64 0)/\af w' c 9 #[.string (s.extract k (k+min 9 (s.size-k)))]/\ae [c] w w':=by
 have p:w.cell? ⟨g,0,none⟩=some (.string s):=h.cell 0;have u:w.cell? ⟨g,1,none⟩=some (.int .i64 k):=h.cell 1;have r:w.cell? ⟨a,0,none⟩=some (.int .i64 9):=n.cell 0;have k1:w.cell? ⟨b,0,none⟩=some (.pointer (some ⟨g,0,none⟩)):=m.cell 0;have k2:=i.frozen 0;have q:w.cell? ⟨c,0,none⟩=some v:=i.cell 0;have l:=za i;clear h n m i;by_cases o:s.size<k+9
 ·have d:¬(9:Int)<=(s.size:Int)-k:=by omega
  have j:Hid (s.extract k (k+min 9 (s.size-k))=s.extract k s.size):=za (by congr 1;omega);generalize s.extract k (k+min 9 (s.size-k))=X at*;go_enter func207,ntmps207
  go_wp2;refine cy 26 (by kernel_rfl) (by kernel_rfl) ?_;simp only[zR,yB,yf,zQ];repeat(go_big_quiet_step (fail))
  refine xS ?_;intro nq;go_wp2;go_ret;refine⟨rfl, ?_,Cr⟩;have h:=l.out;rw[j.out]
  (repeat(first|with_reducible assumption|with_reducible apply af.drewN|with_reducible apply af.drew|with_reducible apply af.alloc|((with_reducible apply af.beside); · (first|omega|(simp<;>omega)))|with_reducible apply af.store));all_goals(first|rfl|simp)
 have d:(9:Int)<=(s.size:Int)-k:=by omega
 have j:Hid (s.extract k (k+min 9 (s.size-k))=s.extract k ((k:Int)+9).toNat):=za (by congr 1;omega);generalize s.extract k (k+min 9 (s.size-k))=X at*;go_enter func207,ntmps207
 go_wp2;refine cy 26 (by kernel_rfl) (by kernel_rfl) ?_;simp only[zR,yB,yf,zQ];repeat(go_big_quiet_step (fail))
 refine xS ?_;intro nq;go_wp2;go_ret;refine⟨rfl, ?_,Cr⟩;have h:=l.out;rw[j.out]
 (repeat(first|with_reducible assumption|with_reducible apply af.drewN|with_reducible apply af.drew|with_reducible apply af.alloc|((with_reducible apply af.beside); · (first|omega|(simp<;>omega)))|with_reducible apply af.store));all_goals(first|rfl|simp)
theorem S6 (g:Nat)(s:ByteArray)(k:Nat)(w:World)(h:iI w g s k 0)(o:k<=s.size)(n:s.size<=9223372036854775807):
 Calls prog 185 #[.pointer (some ⟨g,0,none⟩),.int .i64 9] w fun e w'=>e= .returned (.string (s.extract k (k+min 9 (s.size-k))))/\iI w' g s k 0/\ae [g] w w':=by
 have d:=h.cell 2;have r:=h.frozen 2;have m:=h.lt;simp at d;have H:=za h;have q:=rW m d;have l:=za (Pa g (w.heap.size+1) w.heap.size (w.heap.size+1+1) s k (.string ⟨#[]⟩) (((w.alloc (.cells #[.pointer (some ⟨g,0,none⟩)] 163)).alloc (.cells #[.int .i64 9] 3)).alloc (.cells #[.string ⟨#[]⟩] 9)) (((h.alloc _).alloc _).alloc _) ((af.at_ (by simp)).alloc _) (((af.new _ _ _).alloc _).alloc _) (af.at_ (by simp)) o n);generalize s.extract k (k+min 9 (s.size-k))=X at*;clear h;go_enter func185,ntmps185
 go_wp2_with fail
 go_enter func156,ntmps156
 go_wp2_with fail
 refine l.out.mono ?_;rintro e w' ⟨rfl,hx,b⟩;have x:w'.cell? ⟨w.heap.size+1+1,0,none⟩=some (.string X):=hx.cell 0;have c:iI w' g s k 0:=(((H.out.alloc _).alloc _).alloc _).only b (by simp;omega);have u:=c.frozen 2;have p:w'.cell? ⟨g,2,none⟩=some (.int .i64 0):=c.cell 2;have j:=za c;have i:=za ((((ae.refl [g] w).alloc _).alloc _).alloc _|>.trans' b (by simp;omega));clear c hx b;go_wp2;go_end0
 go_wp2;go_ret;refine⟨rfl, ?_, ?_⟩
 ·have h:=j.out;unfold iI at h⊢
  (repeat(first|with_reducible assumption|with_reducible apply af.drewN|with_reducible apply af.drew|with_reducible apply af.alloc|((with_reducible apply af.beside); · (first|omega|(simp<;>omega)))|with_reducible apply af.store));all_goals(first|rfl|simp)
 have b:=i.out;exact b.up
def nY (N:Nat×Nat×Int)(most:Nat):Int:=if N.2.2≠0 then N.2.2 else if most<N.1 then 5 else 0
def pT (N:Nat×Nat×Int)(most:Nat):Nat:=if nY N most=0 then N.1 else 0
def sA (N:Nat×Nat×Int)(most k:Nat):Nat:=if nY N most=0 then k+N.2.1 else k
theorem nF (N:Nat×Nat×Int)(most k:Nat):(N.2.2≠0/\nY N most=N.2.2/\pT N most=0/\sA N most k=k)\/(N.2.2=0/\most<N.1/\nY N most=5/\pT N most=0/\sA N most k=k)\/(N.2.2=0/\¬most<N.1/\nY N most=0/\pT N most=N.1/\sA N most k=k+N.2.1):=by
 unfold pT sA nY;by_cases h:N.2.2≠0
 ·simp[h]
 by_cases b:most<N.1
 ·simp only[zJ]at h;simp[h,b]
 simp only[zJ]at h;simp[h,b]
theorem Pb (g:Nat)(s:ByteArray)(k most:Nat)(w:World)(h:iI w g s k 0)(L:k<=s.size)(C:s.size<=9223372036854775807)(hm:most<18446744073709551616)(H:bj w)(Y:g≠0):
 Calls prog 144 #[.pointer (some ⟨g,0,none⟩),.int .u64 most] w fun e w'=>e= .returned (.int .u64 (pT (au (s.data.toList.drop k)) most))/\iI w' g s (sA (au (s.data.toList.drop k)) most k) (nY (au (s.data.toList.drop k)) most)/\ae [g] w w':=by
 have A:=za (bs g s k 0 w h);have y:=za (S6 g s k w h L C);have F:(s.extract k (k+min 9 (s.size-k))).data.toList=(s.data.toList.drop k).take 9:=by
  rw[aq,Z6,show k+min 9 (s.size-k)-k=min 9 (s.size-k)from by omega];by_cases S:9<=s.size-k
  ·rw[yK S]
  rw[Nat.min_eq_right (by omega),zC (by simp),zC (by simp;omega)]
 have J:(s.extract k (k+min 9 (s.size-k))).size<=9223372036854775807:=by rw[an _ _ _ (by omega)];omega
 have B:Hid (∀b,bj b->Calls prog 184 #[.string (s.extract k (k+min 9 (s.size-k)))] b fun e w'=>e=BF (au (s.data.toList.drop k))/\b=w'):=za (fun b W=>by
  have:=O3 _ b J W;rwa [F,Ez]at this)
 have u:(au (s.data.toList.drop k)).2.2=0->k+(au (s.data.toList.drop k)).2.1<=s.size:=fun R=>by
  have:=(ir (s.data.toList.drop k) (au (s.data.toList.drop k)).1 (au (s.data.toList.drop k)).2.1 (by rw[<-R])).2.1;rw[zZ,aa]at this;omega
 have x:=za (fun b (c:ae [g] w b)=>H.only c (by simp;omega));have Z:=za h;generalize s.extract k (k+min 9 (s.size-k))=X at*;generalize au (s.data.toList.drop k)=N at*;obtain⟨m,z,r⟩:=N;have I:=nF (m,z,r) most k;generalize nY (m,z,r) most=E at*;generalize pT (m,z,r) most=M at*;generalize sA (m,z,r) most k=K at*;simp only at I u;have O:=za u;clear h H F J u;rcases I with⟨D,rfl,rfl,rfl⟩|⟨rfl,U,rfl,rfl,rfl⟩|⟨rfl,U,rfl,rfl,rfl⟩
 ·have b1:(E==0)=false:=zr.2 D;have b2:(E !=0)=true:=yQ.2 D;go_enter func144,ntmps144
  go_wp2_with fail
  refine A.out.mono ?_;rintro e w' ⟨rfl,rfl⟩;go_wp2_with fail
  refine y.out.mono ?_;rintro e b ⟨rfl,i,c⟩;have q:=za i;have o:=za c;have p:=za (B.out b (x.out b c));clear i c;go_wp2_with fail
  refine p.out.mono ?_;rintro e w' ⟨rfl,rfl⟩;unfold BF;go_wp2_with fail
  refine(iu g s K E b q.out).mono ?_;rintro e G ⟨rfl,d,j⟩;have n:=za d;have l:=za j;clear d j;go_wp2;go_ret;exact⟨rfl,n.out,o.out.trans l.out⟩
 ·skip
  go_enter func144,ntmps144
  go_wp2_with fail
  refine A.out.mono ?_;rintro e w' ⟨rfl,rfl⟩;go_wp2_with fail
  refine y.out.mono ?_;rintro e b ⟨rfl,i,c⟩;have q:=za i;have o:=za c;have p:=za (B.out b (x.out b c));clear i c;go_wp2_with fail
  refine p.out.mono ?_;rintro e w' ⟨rfl,rfl⟩;unfold BF;go_wp2_with fail
  refine(iu g s K 5 b q.out).mono ?_;rintro e G ⟨rfl,d,j⟩;have n:=za d;have l:=za j;clear d j;go_wp2;go_ret;exact⟨rfl,n.out,o.out.trans l.out⟩
 skip
 go_enter func144,ntmps144
 go_wp2_with fail
 refine A.out.mono ?_;rintro e w' ⟨rfl,rfl⟩;go_wp2_with fail
 refine y.out.mono ?_;rintro e b ⟨rfl,i,c⟩;have q:=za i;have o:=za c;have p:=za (B.out b (x.out b c));clear i c;go_wp2_with fail
 refine p.out.mono ?_;rintro e w' ⟨rfl,rfl⟩;unfold BF;go_wp2_with fail
 refine(ei g s k z b q.out C (O.out trivial)).mono ?_;rintro e G ⟨rfl,d,j⟩;have n:=za d;have l:=za j;clear d j;go_wp2;go_ret;exact⟨rfl,n.out,o.out.trans l.out⟩
