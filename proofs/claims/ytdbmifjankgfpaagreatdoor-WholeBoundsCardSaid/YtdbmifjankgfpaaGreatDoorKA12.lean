/- sha: the constants that the program holds are the document's roots. -/
import Derived.Test.YtdbmifjankgfpaaGreatDoorKA14
set_option linter.all false
set_option maxRecDepth 100000
set_option maxHeartbeats 2000000
open Go.Proofs.Tryz
namespace Go.Proofs.YtdbmifjankgfpaaGreatDoor
open Go.RowKit
variable {a n d g p L j i X q:Nat}{w:World}{s:ByteArray}{l:List UInt8}
def zW:=@IntWalk.i64_in
def xg:=@wpQuiet_nil
theorem MU (n:Nat)(c:1<=n)(d:n<=31):bits .and .u64 (IntKind.u64.wrap (-(n:Int))) 31=((32-n:Nat):Int):=by
 have e:IntKind.u64.wrap (-(n:Int))=((18446744073709551616-n:Nat):Int):=by
  simp[IntKind.wrap,IntKind.signed,IntKind.bits];omega
 have h:=u64_and_nat (18446744073709551616-n) 31 (by omega) (by omega);rw[e];have b:((31:Nat):Int)=31:=rfl;rw[b]at h;rw[h,show(31:Nat)=2^5-1 from rfl,Nat.and_two_pow_sub_one_eq_mod];omega
theorem TS (x n:Nat)(hx:x<4294967296):bits .or .u32 ((x:Int)*2^(32-n)%4294967296) ((x:Int)/2^n)=((iR x n:Nat):Int):=by
 have h:=u32_or_nat (x*2^(32-n)%4294967296) (x/2^n) (xm _ (by omega)) (mT n hx);have b:((x*2^(32-n)%4294967296:Nat):Int)=(x:Int)*2^(32-n)%4294967296:=by simp
 have c:((x/2^n:Nat):Int)=(x:Int)/2^n:=by simp
 rw[b,c]at h;rw[h,Nat.or_comm];rfl
theorem C5 (x n:Nat)(w:World)(hx:x<4294967296)(d:1<=n)(i:n<=31):
 Calls prog 242 #[.int .u32 x,.int .i64 n] w fun e w'=>e= .returned (.int .u32 (iR x n))/\w=w':=by
 have h:=MU n d i;obtain⟨k,b⟩:∃k:Nat,32-n=k:=⟨_,rfl⟩
 rw[b]at h;have j:(32:Int)-(k:Int)=(n:Int):=by omega
 have c:=za b;clear b;go_enter func242,ntmps242
 go_wp2;go_ret;exact⟨gd (by rw[<-c.out];exact TS x n hx),rfl⟩
theorem xor_val {b:Nat}(d:a<4294967296)(c:b<4294967296):bits .xor .u32 (a:Int) (b:Int)=((a^^^b:Nat):Int):=u32_xor_nat a b d c
theorem Fs (x a b c:Nat)(w:World)(hx:x<4294967296)(i:1<=a/\a<=31)(l:1<=b/\b<=31)(h:1<=c/\c<=31):
 Calls prog 225 #[.int .u32 x,.int .i64 a,.int .i64 b,.int .i64 c] w fun e w'=>e= .returned (.int .u32 (iR x a^^^iR x b^^^iR x c:Nat))/\w=w':=by
 have m:=za (fun w=>C5 x a w hx i.1 i.2);have u:=za (fun w=>C5 x b w hx l.1 l.2);have n:=za (fun w=>C5 x c w hx h.1 h.2);have j:=ey a hx;have k:=ey b hx;have A:=ey c hx;generalize iR x a=p at*;generalize iR x b=q at*;generalize iR x c=r at*;have o:=xor_val j k;have s:=xor_val (dB j k) A;obtain⟨y,d⟩:∃y,p^^^q=y:=⟨_,rfl⟩
 obtain⟨z,hz⟩:∃z,p^^^q^^^r=z:=⟨_,rfl⟩
 rw[d]at o;rw[hz,d]at s;rw[hz];clear d hz;go_enter func225,ntmps225
 go_wp2_with fail
 refine(m.out _).mono ?_;rintro e w' ⟨rfl,rfl⟩;go_wp2_with fail
 refine(u.out _).mono ?_;rintro e w' ⟨rfl,rfl⟩;go_wp2_with fail
 refine(n.out _).mono ?_;rintro e w' ⟨rfl,rfl⟩;go_wp2;go_ret;exact⟨rfl,rfl⟩
theorem WW (x n:Nat)(w:World)(hx:x<4294967296)(c:1<=n)(d:n<=31):
 Calls prog 242 #[.int .u32 x,.int .i64 n] w fun e w'=>e= .returned (.int .u32 (iR x n))/\w'=w:=(C5 x n w hx c d).mono fun _ _ ⟨h,b⟩=>⟨h,b.symm⟩
theorem vE (x a b c:Nat)(w:World)(hx:x<4294967296)(p:1<=a/\a<=31)(q:1<=b/\b<=31)(o:1<=c/\c<=31):
 Calls prog 241 #[.int .u32 x,.int .i64 a,.int .i64 b,.int .i64 c] w fun e w'=>e= .returned (.int .u32 (iR x a^^^iR x b^^^x/2^c:Nat))/\∃n,w'=w.drewN n:=by
 have h:=ey a hx;have j:=ey b hx;have m:=mT c hx;have l:=xor_val h j;have k:=xor_val (dB h j) m;have i:((x/2^c:Nat):Int)=(x:Int)/2^c:=by simp
 rw[i]at k;obtain⟨y,d⟩:∃y:Nat,iR x a^^^iR x b=y:=⟨_,rfl⟩
 obtain⟨z,hz⟩:∃z:Nat,iR x a^^^iR x b^^^x/2^c=z:=⟨_,rfl⟩
 rw[d]at l;rw[hz,d]at k;rw[hz];clear d hz i;go_enter func241,ntmps241
 go_wp2;go_quiet ((go_at_call 242;exact Calls.quiet_of_same (WW _ _ _ hx (by omega) (by omega))))
 go_wp2;go_ret;exact⟨rfl,_,rfl⟩
theorem P0 (a b c d:Nat)(l:a<256)(m:b<256)(n:c<256)(hd:d<256):
 bits .or .u32 (bits .or .u32 (bits .or .u32 ((a:Int)*2^24) ((b:Int)*2^16)) ((c:Int)*2^8)) (d:Int)=((a*16777216+b*65536+c*256+d:Nat):Int):=by
 have h:((a:Int)*2^24)=((a*2^24:Nat):Int):=by simp
 have k:((b:Int)*2^16)=((b*2^16:Nat):Int):=by simp
 have i:((c:Int)*2^8)=((c*2^8:Nat):Int):=by simp
 rw[h,k,i,u32_or_nat _ _ (by omega) (by omega)];have j:a*2^24|||b*2^16=a*2^24+b*2^16:=by rw[Zm,<-xr (by omega)]
 rw[j,u32_or_nat _ _ (by omega) (by omega)];have g2:a*2^24+b*2^16|||c*2^8=a*2^24+b*2^16+c*2^8:=by
  rw[show a*2^24+b*2^16=2^16*(a*256+b)from by omega,<-xr (by omega)]
 rw[g2,u32_or_nat _ _ (by omega) (by omega)];have e:a*2^24+b*2^16+c*2^8|||d=a*2^24+b*2^16+c*2^8+d:=by
  rw[show a*2^24+b*2^16+c*2^8=2^8*(a*65536+b*256+c)from by omega,<-xr (by omega)]
 rw[e]
theorem P4 (s:ByteArray)(i:Nat)(w:World)(hi:4*i+4<=s.size)(A:s.size<=100000):
 Calls prog 223 #[.string s,.int .i64 i] w fun e w'=>e= .returned (.int .u32 (mU s i))/\∃n,w'=w.drewN n:=by
 obtain⟨E,B,q,o⟩:∃E:ByteArray,s.extract (4*i) (4*i+4)=E/\∃q:E.size=4,Hid (mU s i=E[0].toNat*16777216+E[1].toNat*65536+E[2].toNat*256+E[3].toNat):=by
  have hz:(s.extract (4*i) (4*i+4)).size=4:=by rw[an _ _ _ hi];omega
  refine⟨_,rfl,hz,za ?_⟩;have b:∀j (c:j<(s.extract (4*i) (4*i+4)).size),(s.extract (4*i) (4*i+4))[j]=s.data.toList.getD (4*i+j) 0:=by
   intro j c;have d:=gR (s.extract (4*i) (4*i+4)) j c;rw[ar,xx,yO (by omega)]at d;rw[zw,d];rfl
  rw[b 0,b 1,b 2,b 3];rfl
 have y:0<E.size:=by omega
 have z:1<E.size:=by omega
 have D:2<E.size:=by omega
 have u:3<E.size:=by omega
 have p:=E[0].toNat_lt;have l:=E[1].toNat_lt;have k:=E[2].toNat_lt;have m:=E[3].toNat_lt;have r:=za (P0 E[0].toNat E[1].toNat E[2].toNat E[3].toNat p l k m);have x:IntKind.u32.wrap ((E[0].toNat:Nat):Int)=((E[0].toNat:Nat):Int):=IntWalk.u32_in _ (by omega);have G:IntKind.u32.wrap ((E[1].toNat:Nat):Int)=((E[1].toNat:Nat):Int):=IntWalk.u32_in _ (by omega);have C:IntKind.u32.wrap ((E[2].toNat:Nat):Int)=((E[2].toNat:Nat):Int):=IntWalk.u32_in _ (by omega);have F:IntKind.u32.wrap ((E[3].toNat:Nat):Int)=((E[3].toNat:Nat):Int):=IntWalk.u32_in _ (by omega);go_enter func223,ntmps223
 go_wp2;go_quiet (fail)
 go_wp2;go_ret;refine⟨gd ?_,_,rfl⟩;have h:=r.out;rw[show(2:Int)^24=16777216 from rfl,show(2:Int)^16=65536 from rfl,show(2:Int)^8=256 from rfl]at h;rw[o.out];exact h
theorem and_val {b:Nat}(d:a<4294967296)(c:b<4294967296):bits .and .u32 (a:Int) (b:Int)=((a&&&b:Nat):Int):=u32_and_nat a b d c
def WX :ByteArray:=⟨#[66,138,47,152,113,55,68,145,181,192,251,207,233,181,219,165,57,86,194,91,89,241,17,241,146,63,130,164,171,28,94,213,216,7,170,152,18,131,91,1,36,49,133,190,85,12,125,195,114,190,93,116,128,222,177,254,155,220,6,167,193,155,241,116,228,155,105,193,239,190,71,134,15,193,157,198,36,12,161,204,45,233,44,111,74,116,132,170,92,176,169,220,118,249,136,218,152,62,81,82,168,49,198,109,176,3,39,200,191,89,127,199,198,224,11,243,213,167,145,71,6,202,99,81,20,41,41,103,39,183,10,133,46,27,33,56,77,44,109,252,83,56,13,19,101,10,115,84,118,106,10,187,129,194,201,46,146,114,44,133,162,191,232,161,168,26,102,75,194,75,139,112,199,108,81,163,209,146,232,25,214,153,6,36,244,14,53,133,16,106,160,112,25,164,193,22,30,55,108,8,39,72,119,76,52,176,188,181,57,28,12,179,78,216,170,74,91,156,202,79,104,46,111,243,116,143,130,238,120,165,99,111,132,200,120,20,140,199,2,8,144,190,255,250,164,80,108,235,190,249,163,247,198,113,120,242]⟩
theorem MV :((List.range 64).all fun i=>mU WX i==G8.getD i 0)=true:=by decide+kernel
theorem vF (i:Nat)(h:i<64):mU ⟨#[66,138,47,152,113,55,68,145,181,192,251,207,233,181,219,165,57,86,194,91,89,241,17,241,146,63,130,164,171,28,94,213,216,7,170,152,18,131,91,1,36,49,133,190,85,12,125,195,114,190,93,116,128,222,177,254,155,220,6,167,193,155,241,116,228,155,105,193,239,190,71,134,15,193,157,198,36,12,161,204,45,233,44,111,74,116,132,170,92,176,169,220,118,249,136,218,152,62,81,82,168,49,198,109,176,3,39,200,191,89,127,199,198,224,11,243,213,167,145,71,6,202,99,81,20,41,41,103,39,183,10,133,46,27,33,56,77,44,109,252,83,56,13,19,101,10,115,84,118,106,10,187,129,194,201,46,146,114,44,133,162,191,232,161,168,26,102,75,194,75,139,112,199,108,81,163,209,146,232,25,214,153,6,36,244,14,53,133,16,106,160,112,25,164,193,22,30,55,108,8,39,72,119,76,52,176,188,181,57,28,12,179,78,216,170,74,91,156,202,79,104,46,111,243,116,143,130,238,120,165,99,111,132,200,120,20,140,199,2,8,144,190,255,250,164,80,108,235,190,249,163,247,198,113,120,242]⟩ i=uM.getD i 0:=by
 have:=Zw.1 MV i (Zo.2 h);rw[CE];exact yS.1 this
theorem afF (i:Nat):uM.getD i 0<4294967296:=by
 rw[CE];by_cases h:i<64
 ·rw[<-CE,<-vF i h];exact Bx _ _
 rw[zw,y8 (by simp[G8];omega)];simp
theorem WY (i:Nat)(w:World)(h:i<64):Calls prog 222 #[.int .i64 i] w fun e w'=>e= .returned (.int .u32 (uM.getD i 0:Nat))/\∃n,w'=w.drewN n:=by
 have b:=za (vF i h);generalize c:uM.getD i 0=K at*;go_enter func222,ntmps222
 go_wp2_with fail
 refine(P4 _ i _ (by simp[ByteArray.size];omega) (by simp[ByteArray.size])).mono ?_;rintro e w' ⟨rfl,n,rfl⟩;rw[b.out];go_wp2;go_ret;exact⟨rfl,_,rfl⟩
abbrev ji (w:World)(g:Nat)(s:ByteArray)(at_:Nat)(f:Int):Prop:=af w g 180 #[.string s,.int .i64 at_,.int .i64 f]
theorem bw (g:Nat)(s:ByteArray)(k:Nat)(f:Int)(w:World)(h:ji w g s k f):
 Calls prog 114 #[.pointer (some ⟨g,0,none⟩)] w fun e w'=>e= .returned (.int .i64 f)/\w=w':=by
 have b:=h.cell 2;simp at b;clear h;go_enter func114,ntmps114
 go_wp2;go_ret;exact⟨rfl,rfl⟩
theorem vG (g:Nat)(s:ByteArray)(k:Nat)(f:Int)(w:World)(h:ji w g s k f)(i:k<=s.size)(d:s.size<=9223372036854775807):
 Calls prog 138 #[.pointer (some ⟨g,0,none⟩)] w fun e w'=>e= .returned (.int .i64 ((s.size:Int)-k))/\∃n,w.drewN n=w':=by
 have c:=h.cell 0;have b:=h.cell 1;simp at c b;clear h;go_enter func138,ntmps138
 go_wp2;go_quiet (fail)
 go_wp2;go_ret;exact⟨rfl,_,rfl⟩
theorem iX (g:Nat)(s:ByteArray)(k:Nat)(f:Int)(w:World)(h:ji w g s k 0):
 Calls prog 140 #[.pointer (some ⟨g,0,none⟩),.int .i64 f] w fun e w'=>e= .returned (.tuple #[])/\ji w' g s (k) (f)/\ae [g] w w':=by
 have b:=h.cell 2;have c:=h.frozen 2;have d:=h.lt;simp at b;have H:=za h;clear h;go_enter func140,ntmps140
 go_wp2;go_end0
 go_wp2;go_end0
 refine⟨rfl, ?_,CL⟩;have h:=H.out;unfold ji at h⊢
 (repeat(first|with_reducible assumption|with_reducible apply af.drewN|with_reducible apply af.drew|with_reducible apply af.alloc|((with_reducible apply af.beside); · (first|omega|(simp<;>omega)))|with_reducible apply af.store));all_goals(first|rfl|simp)
theorem vH (g:Nat)(s:ByteArray)(k:Nat)(f e:Int)(w:World)(h:ji w g s k f)(c:(f==0)=false):
 Calls prog 140 #[.pointer (some ⟨g,0,none⟩),.int .i64 e] w fun e w'=>e= .returned (.tuple #[])/\ji w' g s (k) (f)/\ae [g] w w':=by
 have b:=h.cell 2;have d:=h.lt;simp at b;have H:=za h;clear h;go_enter func140,ntmps140
 go_wp2;go_end0
 go_wp2;go_end0
 refine⟨rfl, ?_,CL⟩;have h:=H.out;unfold ji at h⊢
 (repeat(first|with_reducible assumption|with_reducible apply af.drewN|with_reducible apply af.drew|with_reducible apply af.alloc|((with_reducible apply af.beside); · (first|omega|(simp<;>omega)))|with_reducible apply af.store));all_goals(first|rfl|simp)
theorem vI (g:Nat)(s:ByteArray)(k:Nat)(f n:Int)(w:World)(h:ji w g s k f)(m:(f==0)=false):
 Calls prog 113 #[.pointer (some ⟨g,0,none⟩),.int .i64 n] w fun e w'=>e= .returned (.string ByteArray.empty)/\ji w' g s (k) (f)/\ae [g] w w':=by
 have i:=h.cell 0;have d:=h.cell 1;have b:=h.cell 2;have j:=h.frozen 1;have o:=h.frozen 2;have c:=h.lt;simp at i d b;have H:=za h;clear h;have l:=sN c b;go_enter func113,ntmps113
 go_wp2;go_end0
 go_wp2;go_ret;refine⟨rfl, ?_,CL⟩;have h:=H.out;unfold ji at h⊢
 (repeat(first|with_reducible assumption|with_reducible apply af.drewN|with_reducible apply af.drew|with_reducible apply af.alloc|((with_reducible apply af.beside); · (first|omega|(simp<;>omega)))|with_reducible apply af.store));all_goals(first|rfl|simp)
theorem gA (g:Nat)(s:ByteArray)(k:Nat)(n:Nat)(w:World)(h:ji w g s k 0)(u:k<=s.size)(q:s.size<=9223372036854775807)(x:s.size<k+n)(p:n<=9223372036854775807):
 Calls prog 113 #[.pointer (some ⟨g,0,none⟩),.int .i64 n] w fun e w'=>e= .returned (.string ByteArray.empty)/\ji w' g s (k) (2)/\ae [g] w w':=by
 have i:=h.cell 0;have c:=h.cell 1;have d:=h.cell 2;have l:=h.frozen 1;have j:=h.frozen 2;have b:=h.lt;simp at i c d;have H:=za h;clear h;have o:=sN b i;have r:=sN b c;have m:=sN b d;have g2:=CK b j;go_enter func113,ntmps113
 go_wp2;go_quiet (fail)
 go_wp2;go_end0
 go_wp2;go_ret;refine⟨rfl, ?_,CL⟩;have h:=H.out;unfold ji at h⊢
 (repeat(first|with_reducible assumption|with_reducible apply af.drewN|with_reducible apply af.drew|with_reducible apply af.alloc|((with_reducible apply af.beside); · (first|omega|(simp<;>omega)))|with_reducible apply af.store));all_goals(first|rfl|simp)
theorem eH (g:Nat)(s:ByteArray)(k:Nat)(n:Nat)(w:World)(h:ji w g s k 0)(p:s.size<=9223372036854775807)(u:k+n<=s.size):
 Calls prog 113 #[.pointer (some ⟨g,0,none⟩),.int .i64 n] w fun e w'=>e= .returned (.string (s.extract k (k+n)))/\ji w' g s (k+n) (0)/\ae [g] w w':=by
 have i:=h.cell 0;have c:=h.cell 1;have d:=h.cell 2;have j:=h.frozen 1;have l:=h.frozen 2;have b:=h.lt;simp at i c d;have H:=za h;clear h;have o:=sN b i;have q:=sN b c;have m:=sN b d;have r:=CK b j;have g2:=CK b l;go_enter func113,ntmps113
 go_wp2;go_quiet (fail)
 go_wp2;go_region
 all_goals go_wp2
 go_region
 all_goals go_wp2
 go_end0
 go_wp2;go_ret;refine⟨rfl, ?_,CL⟩;have h:=H.out;unfold ji at h⊢
 (repeat(first|with_reducible assumption|with_reducible apply af.drewN|with_reducible apply af.drew|with_reducible apply af.alloc|((with_reducible apply af.beside); · (first|omega|(simp<;>omega)))|with_reducible apply af.store));all_goals(first|rfl|simp)
theorem rR (s:ByteArray)(w:World):
 Calls prog 112 #[.string s] w fun e w'=>e= .returned (.pointer (some ⟨w.heap.size,0,none⟩))/\w'=w.alloc (.cells #[.string s,.int .i64 0,.int .i64 0] 180):=by
 go_enter func112,ntmps112
 go_wp2;go_ret;exact⟨rfl,rfl⟩
theorem vJ (g:Nat)(s:ByteArray)(k:Nat)(w:World)(h:ji w g s k 0)(n:k<s.size)(l:s.size<=9223372036854775807):
 Calls prog 165 #[.pointer (some ⟨g,0,none⟩)] w fun e w'=>e= .returned (.int .u8 s[k].toNat)/\ji w' g s (k+1) (0)/\ae [g] w w':=by
 have d:=h.cell 0;have b:=h.cell 1;have c:=h.cell 2;have i:=h.frozen 1;have m:=h.frozen 2;have j:=h.lt;simp at d b c;have H:=za h;clear h;go_enter func165,ntmps165
 go_wp2;go_quiet (fail)
 go_wp2;go_region
 all_goals go_wp2
 go_end0
 go_wp2;go_ret;refine⟨rfl, ?_,CL⟩;have h:=H.out;unfold ji at h⊢
 (repeat(first|with_reducible assumption|with_reducible apply af.drewN|with_reducible apply af.drew|with_reducible apply af.alloc|((with_reducible apply af.beside); · (first|omega|(simp<;>omega)))|with_reducible apply af.store));all_goals(first|rfl|simp)
theorem n7 {x:Nat×Nat×Int}{b:Nat}{c:Int}(h:x=(a,b,c)):Ending.returned (.tuple #[.int .i64 a,.int .i64 b,.int .i64 c])= .returned (.tuple #[.int .i64 x.1,.int .i64 x.2.1,.int .i64 x.2.2]):=by rw[h]
theorem nG (most:Int)(s:ByteArray)(w:World)(m:s.size<=9223372036854775807)(u: -9223372036854775808<=most)(y:most<=9223372036854775807):
 Calls prog 93 #[.int .i64 most,.string s] w fun e w'=>e= .returned (.tuple #[.int .i64 (au most s).1,.int .i64 (au most s).2.1,.int .i64 (au most s).2.2])/\w=w':=by
 have j:=il s;have c:=za (fun w=>rQ s w m);have i:=za (show au most s=(if(ay s).2.2=0 then(if most<(ay s).1 then(0,0,5)else((ay s).1,(ay s).2.1,0))else(0,0,(ay s).2.2))from rfl);generalize ay s=x at*;obtain⟨n,k,l⟩:=x;dsimp only at*;rcases eY l with⟨d,p,q⟩|⟨d,p,q⟩
 ·subst d;have z:=j rfl;clear j;by_cases h:most<n
  ·have b:=za (by have:=i.out;rw[zi rfl,zi h]at this;exact this);rcases Int.lt_or_le most 0 with Jy|Jy
   ·go_enter func93,ntmps93
    go_wp2_with fail
    refine(c.out _).mono ?_;rintro e w' ⟨rfl,rfl⟩;go_wp2;go_ret3
    exact⟨n7 b.out,rfl⟩
   have o:IntKind.u64.wrap most=most:=xy _ (by omega);go_enter func93,ntmps93
   go_wp2_with fail
   refine(c.out _).mono ?_;rintro e w' ⟨rfl,rfl⟩;go_wp2;go_ret3
   exact⟨n7 b.out,rfl⟩
  have b:=za (by have:=i.out;rw[zi rfl,zh h]at this;exact this);have o:IntKind.u64.wrap most=most:=xy _ (by omega);have r:decide (most<(n:Int))=false:=zv h;go_enter func93,ntmps93
  go_wp2_with fail
  refine(c.out _).mono ?_;rintro e w' ⟨rfl,rfl⟩;go_wp2;go_ret3
  exact⟨n7 b.out,rfl⟩
 have b:=za (by have:=i.out;rw[zh d]at this;exact this);clear j d;go_enter func93,ntmps93
 go_wp2_with fail
 refine(c.out _).mono ?_;rintro e w' ⟨rfl,rfl⟩;go_wp2;go_ret3
 exact⟨n7 b.out,rfl⟩
theorem oA :ByteArray.empty=⟨#[]⟩:=rfl
def KC (x:Int×Nat×ByteArray×Nat)(w:World)(e:Ending)(w':World):Prop:=
 e= .returned (.tuple #[.agg #[.int .u64 x.2.1,.string ByteArray.empty,.string x.2.2.1],.int .i64 x.2.2.2,.int .i64 x.1])/\Below w.heap.size w w'
theorem uj {x:Int×Nat×ByteArray×Nat}{w':World}{a:Int}{b:Nat}{c:ByteArray}{e:Int}(h:x=(a,b,c,d))(hd:e=d)(i:Below w.heap.size w w'):
 KC x w (.returned (.tuple #[.agg #[.int .u64 b,.string ByteArray.empty,.string c],.int .i64 e,.int .i64 a])) w':=by
 subst h;subst hd;exact⟨rfl,i⟩
theorem kv (most:Int)(s:ByteArray)(w:World)(C:s.size<=9223372036854775807)(gP: -9223372036854775808<=most)(sn:most<=9223372036854775807):
 Calls prog 78 #[.int .i64 most,.string s] w (KC (aj most s) w):=by
 have J:=k7 most s;have I:=za (fun w=>nG most s w C gP sn);have u:=za (dV most s);generalize aj most s=X at*;generalize au most s=aa at*;obtain⟨n,k,S⟩:=aa;dsimp only at*;rcases eY S with⟨H,h1,h2⟩|⟨H,h1,h2⟩
 ·subst H;obtain⟨hn,hk,A9,ab⟩:=J rfl;clear J;by_cases F:s.size<k+n
  ·have A:=za (by have:=u.out;rw[zh (by simp),zi F]at this;exact this);clear u;go_enter func78,ntmps78
   go_wp2_with fail
   refine(I.out _).mono ?_;rintro e w' ⟨rfl,rfl⟩;go_wp2_with fail
   refine(rR s _).mono ?_;rintro e d ⟨rfl,c⟩;have l:ji d (w.heap.size+1) s 0 0:=by rw[c];have:=af.new (w.alloc (.cells #[.int .u64 0,.string ⟨#[]⟩,.string ⟨#[]⟩] 84)) 180 #[.string s,.int .i64 0,.int .i64 0];rw[zq]at this;exact this
   have o:af d w.heap.size 84 #[.int .u64 0,.string ⟨#[]⟩,.string ⟨#[]⟩]:=by rw[c];exact(af.new w _ _).alloc _
   have q:Below w.heap.size w d:=by rw[c];exact bT
   have R:d.heap.size=w.heap.size+2:=by rw[c];simp
   rw[zq];clear c;go_wp2_with fail
   refine(eH (w.heap.size+1) s 0 k _ l C (by omega)).mono ?_;rintro e Y ⟨rfl,h,i⟩;rw[zQ]at h;have z:=o.only i (by simp);have O:=i.size;have x:=q.trans (i.below (B:=w.heap.size) (by omega) (by simp));clear l o q;go_wp2_with fail
   refine(gA (w.heap.size+1) s k n _ h hk C F (by omega)).mono ?_;rintro e w3 ⟨rfl,D,p⟩;have b:=z.only p (by simp);have E:=za (x.trans (p.below (B:=w.heap.size) (by omega) (by simp)));have r:=b.cell 0;have m:=b.cell 1;have j:=b.cell 2;have K:=b.frozen 0;have Z:=b.frozen 1;have U:=b.frozen 2;simp at r m j;clear z x h;go_wp2_with fail
   refine(bw (w.heap.size+1) s _ _ _ D).mono ?_;rintro e w' ⟨rfl,rfl⟩;go_wp2;refine zj (v:= .tuple #[.agg #[.int .u64 0,.string ByteArray.empty,.string ByteArray.empty],.int .i64 0,.int .i64 2]) (by simp[results,results78,go_sem,oA,r,m,j]) rfl ?_;exact uj A.out rfl (((E.out.setCell (by simp) _).setCell (by simp) _).setCell (by simp) _)
  have N:=za (fun w=>rQ (s.extract k (k+n)) w (by rw[an _ _ _ (by omega)];omega));have G:=il (s.extract k (k+n));rw[an _ _ _ (by omega:k+n<=s.size),Nat.add_sub_cancel_left]at G;have ad:(s.extract k (k+n)).size=n:=by rw[an _ _ _ (by omega)];omega
  generalize L:s.extract k (k+n)=M at*;have W:=za L;generalize ay M=y at*;obtain⟨id,sz,f⟩:=y;dsimp only at*;clear L;rcases eY f with⟨g0,g1,g2⟩|⟨g0,g1,g2⟩
  ·subst g0;obtain⟨l1,l2,l3,l4⟩:=G rfl;have A:=za (by have:=u.out;rw[zh (by simp),zh F,zh (by simp)]at this;exact this);clear u G;go_enter func78,ntmps78
   go_wp2_with fail
   refine(I.out _).mono ?_;rintro e w' ⟨rfl,rfl⟩;go_wp2_with fail
   refine(rR s _).mono ?_;rintro e d ⟨rfl,c⟩;have l:ji d (w.heap.size+1) s 0 0:=by rw[c];have:=af.new (w.alloc (.cells #[.int .u64 0,.string ⟨#[]⟩,.string ⟨#[]⟩] 84)) 180 #[.string s,.int .i64 0,.int .i64 0];rw[zq]at this;exact this
   have o:af d w.heap.size 84 #[.int .u64 0,.string ⟨#[]⟩,.string ⟨#[]⟩]:=by rw[c];exact(af.new w _ _).alloc _
   have q:Below w.heap.size w d:=by rw[c];exact bT
   have R:d.heap.size=w.heap.size+2:=by rw[c];simp
   rw[zq];clear c;go_wp2_with fail
   refine(eH (w.heap.size+1) s 0 k _ l C (by omega)).mono ?_;rintro e Y ⟨rfl,h,i⟩;rw[zQ]at h;have z:=o.only i (by simp);have O:=i.size;have x:=q.trans (i.below (B:=w.heap.size) (by omega) (by simp));clear l o q;go_wp2_with fail
   refine(eH (w.heap.size+1) s k n _ h C (by omega)).mono ?_;rintro e w3 ⟨rfl,D,p⟩;rw[W.out];have b:=z.only p (by simp);have E:=za (x.trans (p.below (B:=w.heap.size) (by omega) (by simp)));have r:=b.cell 0;have m:=b.cell 1;have j:=b.cell 2;have K:=b.frozen 0;have Z:=b.frozen 1;have U:=b.frozen 2;simp at r m j;clear z x h;go_wp2_with fail
   refine(bw (w.heap.size+1) s _ _ _ D).mono ?_;rintro e w' ⟨rfl,rfl⟩;go_wp2_with fail
   refine(N.out _).mono ?_;rintro e w' ⟨rfl,rfl⟩;go_wp2;refine zj (v:= .tuple #[.agg #[.int .u64 id,.string ByteArray.empty,.string (M.extract sz n)],.int .i64 ((k:Int)+n),.int .i64 0]) (by simp[results,results78,go_sem,oA,r,m,j]) rfl ?_;exact uj A.out (by omega) (((E.out.setCell (by simp) _).setCell (by simp) _).setCell (by simp) _)
  have A:=za (by have:=u.out;rw[zh (by simp),zh F,zi g0]at this;exact this);clear u G g0;go_enter func78,ntmps78
  go_wp2_with fail
  refine(I.out _).mono ?_;rintro e w' ⟨rfl,rfl⟩;go_wp2_with fail
  refine(rR s _).mono ?_;rintro e d ⟨rfl,c⟩;have l:ji d (w.heap.size+1) s 0 0:=by rw[c];have:=af.new (w.alloc (.cells #[.int .u64 0,.string ⟨#[]⟩,.string ⟨#[]⟩] 84)) 180 #[.string s,.int .i64 0,.int .i64 0];rw[zq]at this;exact this
  have o:af d w.heap.size 84 #[.int .u64 0,.string ⟨#[]⟩,.string ⟨#[]⟩]:=by rw[c];exact(af.new w _ _).alloc _
  have q:Below w.heap.size w d:=by rw[c];exact bT
  have R:d.heap.size=w.heap.size+2:=by rw[c];simp
  rw[zq];clear c;go_wp2_with fail
  refine(eH (w.heap.size+1) s 0 k _ l C (by omega)).mono ?_;rintro e Y ⟨rfl,h,i⟩;rw[zQ]at h;have z:=o.only i (by simp);have O:=i.size;have x:=q.trans (i.below (B:=w.heap.size) (by omega) (by simp));clear l o q;go_wp2_with fail
  refine(eH (w.heap.size+1) s k n _ h C (by omega)).mono ?_;rintro e w3 ⟨rfl,D,p⟩;rw[W.out];have b:=z.only p (by simp);have E:=za (x.trans (p.below (B:=w.heap.size) (by omega) (by simp)));have r:=b.cell 0;have m:=b.cell 1;have j:=b.cell 2;have K:=b.frozen 0;have Z:=b.frozen 1;have U:=b.frozen 2;simp at r m j;clear z x h;go_wp2_with fail
  refine(bw (w.heap.size+1) s _ _ _ D).mono ?_;rintro e w' ⟨rfl,rfl⟩;go_wp2_with fail
  refine(N.out _).mono ?_;rintro e w' ⟨rfl,rfl⟩;go_wp2;refine zj (v:= .tuple #[.agg #[.int .u64 0,.string ByteArray.empty,.string ByteArray.empty],.int .i64 0,.int .i64 3]) (by simp[results,results78,go_sem,oA,r,m,j]) rfl ?_;exact uj A.out rfl (((E.out.setCell (by simp) _).setCell (by simp) _).setCell (by simp) _)
 have A:=za (by have:=u.out;rw[zi H]at this;exact this);clear u J H;go_enter func78,ntmps78
 go_wp2_with fail
 refine(I.out _).mono ?_;rintro e w' ⟨rfl,rfl⟩;go_wp2;refine zj (v:= .tuple #[.agg #[.int .u64 0,.string ByteArray.empty,.string ByteArray.empty],.int .i64 0,.int .i64 S]) (by simp[results,results78,go_sem,oA]) rfl ?_;exact uj A.out rfl bT
theorem WZ {L:List UInt8}(d:n+mt L (j+n) (i+n) (64-n)=X)(e:n<64)(c:i+n<L.length)(b:L[j+n]?=L[i+n]?):(n+1)+mt L (j+(n+1)) (i+(n+1)) (64-(n+1))=X:=by
 rw[<-d,show 64-n=(64-(n+1))+1 from by omega,mt,zi ⟨c,b⟩];rw[show j+(n+1)=j+n+1 from by omega,show i+(n+1)=i+n+1 from by omega];omega
theorem P5 {L:List UInt8}(b:n+mt L (j+n) (i+n) (64-n)=X)(k:n<=64)(h:¬n<64\/¬i+n<L.length\/L[j+n]?≠L[i+n]?):X=n:=by
 rw[<-b];by_cases e:n<64
 ·rw[show 64-n=(64-(n+1))+1 from by omega,mt,zh (by
   rintro⟨c,d⟩;rcases h with h|h|h
   ·exact h e
   ·exact h c
   exact h d)];rfl
 rw[show 64-n=0 from by omega];rfl
theorem KD {b:Nat}(d:a<s.size)(c:b<s.size):(s[a].toNat==s[b].toNat)=true↔s.data.toList[a]?=s.data.toList[b]?:=by
 rw[gR s a d,gR s b c];simp[zS]
theorem IF (w:World)(a b:Nat):(w.drewN a).drewN b=w.drewN (a+b):=by simp[World.drewN,yh]
theorem C6 {k:IntKind}{b:Nat}(h:a=b):Ending.returned (.int k b)= .returned (.int k a):=by rw[h]
theorem TT (s:ByteArray)(j i:Nat)(w:World)(x:j<i)(hi:i<=s.size)(D:s.size<=9223372036854775000):
 Calls prog 135 #[.string s,.int .i64 j,.int .i64 i] w fun e w'=>e= .returned (.int .i64 (mt s.data.toList j i 64))/\∃m,w'=w.drewN m:=by
 go_enter func135,ntmps135
 go_wp2;go_loopw [7] (fun v wr=>∃n:Nat,n<=64/\n<=64/\v= .int .i64 n/\Hid (n+mt s.data.toList (j+n) (i+n) (64-n)=mt s.data.toList j i 64)/\∃m,wr=w.drewN m) (fun v _=>64-(intOf v).toNat)
 case atStart=>exact⟨0,by omega,by omega,rfl,za (by simp),0,rfl⟩
 case round=>
  obtain⟨n,k,_,rfl,b,m,rfl⟩:=hrel;by_cases o:n<64
  ·have r:decide ((n:Int)<64)=true:=zD (by omega);have E:IntKind.i64.wrap ((i:Int)+n)=(i:Int)+n:=zW _ (by omega);have F:IntKind.i64.wrap ((j:Int)+n)=(j:Int)+n:=zW _ (by omega);by_cases c:i+n<s.size
   ·have p:decide ((i:Int)+n<s.size)=true:=zD (by omega);have B:((j:Int)+n).toNat=j+n:=by omega
    have y:((i:Int)+n).toNat=i+n:=by omega
    have u:0<=(j:Int)+n:=by omega
    have z:0<=(i:Int)+n:=by omega
    have A:(j:Int)+n<s.size:=by omega
    have C:(i:Int)+n<s.size:=by omega
    have l:j+n<s.size:=by omega
    rcases xf (s[j+n].toNat==s[i+n].toNat)with hb|hb
    ·have d:=za ((KD l c).1 hb);have q:((s[j+n].toNat:Int)==s[i+n].toNat)=true:=by
      have:=eq_of_beq hb;rw[this];simp
     clear hb;go_wp2;go_quiet (fail)
     go_wp2;go_roundw
     case rel=>exact⟨n+1,by omega,by omega,by go_num,za (WZ b.out o (by simpa using c) d.out),_,rfl⟩
     case measure=>simp[intOf];omega
    have d:Hid (¬(s.data.toList[j+n]?=s.data.toList[i+n]?)):=za (by
     intro h;rw[(KD l c).2 h]at hb;exact absurd hb (by decide))
    have q:((s[j+n].toNat:Int)==s[i+n].toNat)=false:=by
     have:=ne_of_beq_false hb;exact zo.2 (by omega)
    clear hb;go_wp2;go_quiet (fail)
    go_wp2;go_ret;exact⟨C6 (P5 b.out k (.inr (.inr d.out))),_,IF _ _ _⟩
   have p:decide ((i:Int)+n<s.size)=false:=zv (by omega);go_wp2;go_quiet (fail)
   go_wp2;go_ret;exact⟨C6 (P5 b.out k (.inr (.inl (by simpa using c)))),_,IF _ _ _⟩
  have r:decide ((n:Int)<64)=false:=zv (by omega);go_wp2;go_quiet (fail)
  go_wp2;go_ret;exact⟨C6 (P5 b.out k (.inl o)),_,IF _ _ _⟩
def P6 (base:Nat)(w:World)(l:List UInt8)(e:Ending)(w':World):Prop:=
 ∃(A:Option Addr) (n cap:Nat),e= .returned (.slice A n cap)/\bF w' base 5 (.slice A n cap) l/\Kept 5 base w w'
theorem Xa (h:l.length=0):ir l= []:=by unfold ir;rw[zi h]
theorem Xb (h:l.length≠0)(b:l.length<=60):ir l= [ub (4*(l.length-1):Nat)]++l:=by unfold ir;rw[zh h,zi b];rfl
theorem Xc (h:¬l.length<=60)(b:l.length<=256):ir l= [ub (240:Nat),ub (l.length-1:Nat)]++l:=by unfold ir;rw[zh (by omega),zh h,zi b];rfl
theorem Xd (h:¬l.length<=256)(b:l.length<=65536):ir l= [ub (244:Nat)]++(jF (l.length-1) 2++l):=by
 unfold ir;rw[zh (by omega),zh (by omega),zh h];simp only[jF];simp;refine⟨rfl, ?_⟩;rw[Int.emod_eq_of_lt (by omega) (by omega)]
theorem KE (base:Nat)(v:Value)(l:List UInt8)(s:ByteArray)(w:World)(h:bF w base 5 v l)(z:base<=w.heap.size)(X:l.length<=1000000)(Y:s.size<=65536):
 Calls prog 134 #[v,.string s] w (P6 base w (l++ir s.data.toList)):=by
 obtain⟨i0,hi,c,i,d⟩:=yH rP;obtain⟨A,cap,rfl,W,Z⟩:=h.form;generalize hn:l.length=n at*;have j:=aa s;by_cases p:s.size=0
 ·have M:((s.size:Int)==0)=true:=by simp[p]
  have k:=za (Xa (l:=s.data.toList) (by omega));clear p j;go_enter func134,ntmps134
  go_wp2;go_ret;exact⟨A,n,cap,rfl,by rw[k.out,yW];exact h,Kept.refl _ _ _⟩
 have M:((s.size:Int)==0)=false:=zo.2 (by omega);have gB:1<=s.size:=by omega
 by_cases h1:s.size<=60
 ·have k:=za (Xb (l:=s.data.toList) (by omega) (by omega));have r:=za (show s.data.toList.length-1=s.size-1 by rw[j]);clear p j;go_enter func134,ntmps134
  go_wp2_with (first|(at_builtin;refine aP (by rfl) (.tmp 29) (.tmp 34) 31 31 (by rfl) base 5 i0 zt hi c i d (by rfl) (h.alloc _) _ [ub (4*(s.size-1):Nat)] (by rfl) (kn zt w 5 _ [ub (4*(s.size-1):Nat)] 1 (o5 (by omega) (by omega))) (by rw[zq];omega) (by simp only[zx,zJ];omega) ?_;intro F n1 D E o b)|(at_builtin;refine aP (by rfl) (.tmp 45) (.tmp 46) 31 9 (by rfl) base 5 i0 zt hi c i d (by rfl) o _ s.data.toList (by rfl) (iN zN _ s) (zF (by rw[zq];omega) b.size) (by simp only[zl,zx,zJ,aa];omega) ?_;intro x n2 u H q m))
  go_ret;refine⟨x,n2,u,rfl, ?_,((Kept.refl _ _ _).alloc z _).trans (b.trans m)⟩;rw[k.out,r.out,<-zE];exact q
 by_cases h2:s.size<=256
 ·have k:=za (Xc (l:=s.data.toList) (by omega) (by omega));have r:=za (show s.data.toList.length-1=s.size-1 by rw[j]);clear p j;go_enter func134,ntmps134
  go_wp2_with (first|(at_builtin;refine aP (by rfl) (.tmp 39) (.tmp 43) 31 31 (by rfl) base 5 i0 zt hi c i d (by rfl) (h.alloc _) _ [ub (240:Nat),ub (s.size-1:Nat)] (by rfl) (kn zt w 5 _ [ub (240:Nat),ub (s.size-1:Nat)] 2 (O3 (by omega) (by omega) (by omega) (by omega))) (by rw[zq];omega) (by simp only[zx,zJ];omega) ?_;intro F n1 D E o b)|(at_builtin;refine aP (by rfl) (.tmp 45) (.tmp 46) 31 9 (by rfl) base 5 i0 zt hi c i d (by rfl) o _ s.data.toList (by rfl) (iN zN _ s) (zF (by rw[zq];omega) b.size) (by simp only[zl,zx,zJ,aa];omega) ?_;intro x n2 u H q m))
  go_ret;refine⟨x,n2,u,rfl, ?_,((Kept.refl _ _ _).alloc z _).trans (b.trans m)⟩;rw[k.out,r.out,<-zE];exact q
 have k:=za (Xd (l:=s.data.toList) (by omega) (by omega));have r:=za (show s.data.toList.length-1=s.size-1 by rw[j]);have I:=za (jS (s.size-1) 2 w (by omega) (by omega) (by omega));rw[show((s.size-1:Nat):Int)=(s.size:Int)-1 from by omega]at I;have B:(⟨(jF (s.size-1) 2).toArray⟩:ByteArray).data.toList=jF (s.size-1) 2:=rfl;generalize (⟨(jF (s.size-1) 2).toArray⟩:ByteArray)=T at*;have U:T.data.toList.length=2:=by rw[B,bd]
 have O:=za B;clear p j B;go_enter func134,ntmps134
 go_wp2_with fail
 refine I.out.mono ?_;rintro e C ⟨rfl,y⟩;have hz:=y.size;have J:=h.below y;have K:Kept 5 base w C:=Kept.ah y (zg _) z;go_wp2_with (first|(at_builtin;refine aP (by rfl) (.tmp 17) (.tmp 18) 31 31 (by rfl) base 5 i0 zt hi c i d (by rfl) (J.alloc _) _ [ub (244:Nat)] (by rfl) (kn zt C 5 _ [ub (244:Nat)] 1 (o5 (by omega) (by omega))) (by rw[zq];omega) (by simp only[zx,zJ];omega) ?_;intro F n1 D E o b)|(at_builtin;refine aP (by rfl) (.tmp 19) (.tmp 20) 31 9 (by rfl) base 5 i0 zt hi c i d (by rfl) o _ T.data.toList (by rfl) (iN zN _ T) (zF (by rw[zq];omega) b.size) (by simp only[zl,zx,zJ];omega) ?_;intro x n2 u H q m)|(at_builtin;refine aP (by rfl) (.tmp 45) (.tmp 46) 31 9 (by rfl) base 5 i0 zt hi c i d (by rfl) q _ s.data.toList (by rfl) (iN zN _ s) (zF (by rw[zq];omega) (b.trans m).size) (by simp only[zl,zx,zJ,aa];rw[<-aa T];omega) ?_;intro R S N w3 G L))
 go_ret;refine⟨R,S,N,rfl, ?_,K.trans (((Kept.refl _ _ _).alloc (by omega) _).trans (b.trans (m.trans L)))⟩;rw[O.out]at G;rw[k.out,r.out,<-zE,<-zE];exact G
theorem Xe (h:n<=11)(b:d<2048):kY n d= [ub (1+4*(n-4)+32*(d/256):Nat),ub (d%256:Nat)]:=by unfold kY;rw[zi ⟨h,b⟩]
theorem Xf (h:¬(n<=11/\d<2048))(hd:d<65536):kY n d= [ub (2+4*(n-1):Nat)]++jF d 2:=by
 unfold kY;rw[zh h];simp only[jF];simp;rw[Int.emod_eq_of_lt (by omega) (by omega)]
theorem TU (base:Nat)(v:Value)(l:List UInt8)(n d:Nat)(w:World)(h:bF w base 5 v l)(u:base<=w.heap.size)(S:l.length<=1000000)(M:4<=n)(W:n<=64)(hd:d<65536):
 Calls prog 136 #[v,.int .i64 n,.int .i64 d] w (P6 base w (l++kY n d)):=by
 obtain⟨i0,hi,i,o,k⟩:=yH rP;obtain⟨A,cap,rfl,N,U⟩:=h.form;generalize O:l.length=R at*;by_cases b:n<=11/\d<2048
 ·obtain⟨b,z⟩:=b;have q:=za (Xe b z);have K:decide ((d:Int)<2048)=true:=zD (by omega);go_enter func136,ntmps136
  go_wp2_with (at_builtin;refine aP (by rfl) (.tmp 15) (.tmp 28) 31 31 (by rfl) base 5 i0 zt hi i o k (by rfl) (h.alloc _) _ [ub (1+4*(n-4)+32*(d/256):Nat),ub (d%256:Nat)] (by rfl) (kn zt w 5 _ [ub (1+4*(n-4)+32*(d/256):Nat),ub (d%256:Nat)] 2 (O3 (by omega) (by omega) (by omega) (by omega))) (by rw[zq];omega) (by simp only[zx,zJ];omega) ?_;intro y n1 s F m c)
  go_ret;exact⟨y,n1,s,rfl,by rw[q.out];exact m,((Kept.refl _ _ _).alloc u _).trans c⟩
 have q:=za (Xf b hd);have I:11<n\/(n<=11/\2048<=d):=by omega
 have J:=za (jS d 2 w (by omega) (by omega) (by omega));have p:(⟨(jF d 2).toArray⟩:ByteArray).data.toList=jF d 2:=rfl;generalize (⟨(jF d 2).toArray⟩:ByteArray)=T at*;have L:T.data.toList.length=2:=by rw[p,bd]
 have H:=za p;clear b p;rcases I with b|⟨b,z⟩;all_goals
  go_enter func136,ntmps136
  go_wp2_with fail
  refine J.out.mono ?_;rintro e r ⟨rfl,j⟩;have hz:=j.size;have C:=h.below j;have G:Kept 5 base w r:=Kept.ah j (zg _) u;go_wp2_with (first|(at_builtin;refine aP (by rfl) (.tmp 36) (.tmp 42) 31 31 (by rfl) base 5 i0 zt hi i o k (by rfl) (C.alloc _) _ [ub (2+4*(n-1):Nat)] (by rfl) (kn zt r 5 _ [ub (2+4*(n-1):Nat)] 1 (o5 (by omega) (by omega))) (by rw[zq];omega) (by simp only[zx,zJ];omega) ?_;intro y n1 s F m c)|(at_builtin;refine aP (by rfl) (.tmp 43) (.tmp 44) 31 9 (by rfl) base 5 i0 zt hi i o k (by rfl) m _ T.data.toList (by rfl) (iN zN _ T) (zF (by rw[zq];omega) c.size) (by simp only[zl,zx,zJ];omega) ?_;intro E n2 B X x D))
  go_ret;refine⟨E,n2,B,rfl, ?_,G.trans (((Kept.refl _ _ _).alloc (by omega) _).trans (c.trans D))⟩;rw[H.out]at x;rw[q.out,<-zE];exact x
abbrev ra (w:World)(g:Nat)(a u t p:Nat):Prop:=af w g 131 #[.int .i64 a,.int .i64 u,.int .i64 t,.int .i64 p]
theorem vK (n:Int)(w:World):
 Calls prog 40 #[.int .i64 n] w fun e w'=>e= .returned (.pointer (some ⟨w.heap.size,0,none⟩))/\w'=w.alloc (.cells #[.int .i64 (n.toNat:Nat),.int .i64 0,.int .i64 0,.int .i64 0] 131):=by
 by_cases h:n<0
 ·have b:((n.toNat:Nat):Int)=0:=by omega
  rw[b];clear b;go_enter func40,ntmps40
  go_wp2;go_ret;exact⟨rfl,rfl⟩
 have b:((n.toNat:Nat):Int)=n:=by omega
 rw[b];clear b;go_enter func40,ntmps40
 go_wp2;go_ret;exact⟨rfl,rfl⟩
theorem KF (g a u t p:Nat)(w:World)(h:ra w g a u t p):
 Calls prog 43 #[.pointer (some ⟨g,0,none⟩)] w fun e w'=>e= .returned (.int .i64 t)/\w=w':=by
 have b:=h.cell 2;simp at b;clear h;go_enter func43,ntmps43
 go_wp2;go_ret;exact⟨rfl,rfl⟩
theorem Ft (a b:Nat)(d:a<=9223372036854775807)(c:b<=9223372036854775807):IntKind.i64.wrap ((a:Int)-b)=(a:Int)-b:=zW _ (by omega)
theorem vL (g b c a u t n:Nat)(w:World)(j:w.cell? ⟨g,0,none⟩=some (.int .i64 a))(m:w.cell? ⟨g,1,none⟩=some (.int .i64 u))(i:w.cell? ⟨g,2,none⟩=some (.int .i64 t))(p:w.cell? ⟨b,0,none⟩=some (.int .i64 n))(r:w.cell? ⟨c,0,none⟩=some (.pointer (some ⟨g,0,none⟩)))
 (l:a<=9223372036854775807) (hu:u<=a) (d:(n:Int)<=a-u) (s:t+n<=9223372036854775807):
 Calls prog 60 #[.pointer (some ⟨b,0,none⟩),.pointer (some ⟨c,0,none⟩)] w fun e w'=>e= .returned (.int .i64 0)/\∃k,w.drewN k=w':=by
 have hd:decide ((a:Int)-u<n)=false:=by simpa using d
 have q:=Ft a u (by omega) (by omega);have h:IntKind.i64.wrap (9223372036854775807-(t:Int))=9223372036854775807-(t:Int):=zW _ (by omega);have o:decide (9223372036854775807-(t:Int)<n)=false:=by simp;omega
 go_enter func60,ntmps60
 go_wp2;go_quiet (fail)
 go_wp2;go_ret;exact⟨rfl,_,rfl⟩
theorem C7 (g b c u t n:Nat)(w:World)(j:w.cell? ⟨g,1,none⟩=some (.int .i64 u))(i:w.cell? ⟨g,2,none⟩=some (.int .i64 t))(f1:w.frozen? ⟨g,1,none⟩=false)(f2:w.frozen? ⟨g,2,none⟩=false)(k:w.cell? ⟨b,0,none⟩=some (.int .i64 n))(l:w.cell? ⟨c,0,none⟩=some (.pointer (some ⟨g,0,none⟩)))
 (n1:g≠b) (n2:g≠c) (hu:u+n<=9223372036854775807) (o:t+n<=9223372036854775807):
 Calls prog 61 #[.pointer (some ⟨c,0,none⟩),.pointer (some ⟨b,0,none⟩)] w fun e w'=>e= .returned (.tuple #[])/\∃m,((w.setCell ⟨g,1,none⟩ (.int .i64 (u+n:Nat))).setCell ⟨g,2,none⟩ (.int .i64 (t+n:Nat))).drewN m=w':=by
 have d:((u+n:Nat):Int)=(u:Int)+n:=by omega
 have h:((t+n:Nat):Int)=(t:Int)+n:=by omega
 rw[d,h];clear d h;go_enter func61,ntmps61
 go_wp2;go_region
 all_goals go_wp2
 go_region
 all_goals go_wp2
 go_end0
 exact⟨rfl,2,rfl⟩
theorem TV (g j i a u t p n q s:Nat)(w:World)(c:Hid (u+n=q))(l:Hid (t+n=s))(h:ra w g a u t p)(x:w.cell? ⟨j,0,none⟩=some (.int .i64 n))(y:w.cell? ⟨i,0,none⟩=some (.pointer (some ⟨g,0,none⟩)))(n1:g≠j)(n2:g≠i)(E:a<=9223372036854775807)(K:q<=a)(L:s<=9223372036854775807):
 Calls prog 59 #[.pointer (some ⟨g,0,none⟩),.int .i64 n,.func (.func 60) #[] #[.pointer (some ⟨j,0,none⟩),.pointer (some ⟨i,0,none⟩)],.func (.func 61) #[] #[.pointer (some ⟨i,0,none⟩),.pointer (some ⟨j,0,none⟩)]] w
  fun e w'=>e= .returned (.int .i64 0)/\ra w' g a q s (max p q)/\ae [g] w w':=by
 have D:=h.cell 0;have o:=h.cell 1;have r:=h.cell 2;have G:=h.frozen 1;have F:=h.frozen 2;simp at D o r;have H:=za h;clear h;rcases Nat.lt_trichotomy p q with hp|hp|hp
 ·rw[Nat.max_eq_right (by omega)];go_enter func59,ntmps59
  go_wp2_with fail
  refine(vL g j i a u t n w D o r x y E (by have:=c.out;omega) (by have:=c.out;omega) (by have:=l.out;omega)).mono ?_;rintro e J ⟨rfl,k,rfl⟩;go_wp2_with fail
  refine(C7 g j i u t n (w.drewN k) o r G F x y n1 n2 (by have:=c.out;omega) (by have:=l.out;omega)).mono ?_;rintro e w3 ⟨rfl,m,d⟩;have b:ra w3 g a q s p:=by
   rw[<-d,c.out,l.out];have h:=H.out;unfold ra at h⊢
   (repeat(first|with_reducible assumption|with_reducible apply af.drewN|with_reducible apply af.drew|with_reducible apply af.alloc|((with_reducible apply af.beside); · (first|omega|(simp<;>omega)))|with_reducible apply af.store));all_goals(first|rfl|simp)
  have B:ae [g] w w3:=by rw[<-d];exact CL
  clear d;have z:=b.cell 1;have C:=b.cell 3;have I:=b.frozen 3;simp at z C;have A:=za b;clear b;go_wp2;go_region
  all_goals
   go_wp2;go_ret;refine⟨rfl, ?_,B.up⟩;have h:=A.out;unfold ra at h⊢
   (repeat(first|with_reducible assumption|with_reducible apply af.drewN|with_reducible apply af.drew|with_reducible apply af.alloc|((with_reducible apply af.beside); · (first|omega|(simp<;>omega)))|with_reducible apply af.store));all_goals(first|rfl|simp)
 ·obtain rfl:q=p:=hp.symm;rw[Nat.max_self];clear hp;go_enter func59,ntmps59
  go_wp2_with fail
  refine(vL g j i a u t n w D o r x y E (by have:=c.out;omega) (by have:=c.out;omega) (by have:=l.out;omega)).mono ?_;rintro e J ⟨rfl,k,rfl⟩;go_wp2_with fail
  refine(C7 g j i u t n (w.drewN k) o r G F x y n1 n2 (by have:=c.out;omega) (by have:=l.out;omega)).mono ?_;rintro e w3 ⟨rfl,m,d⟩;have b:ra w3 g a q s q:=by
   rw[<-d,c.out,l.out];have h:=H.out;unfold ra at h⊢
   (repeat(first|with_reducible assumption|with_reducible apply af.drewN|with_reducible apply af.drew|with_reducible apply af.alloc|((with_reducible apply af.beside); · (first|omega|(simp<;>omega)))|with_reducible apply af.store));all_goals(first|rfl|simp)
  have B:ae [g] w w3:=by rw[<-d];exact CL
  clear d;have z:=b.cell 1;have C:=b.cell 3;have I:=b.frozen 3;simp at z C;have A:=za b;clear b;go_wp2;go_region
  all_goals
   go_wp2;go_ret;refine⟨rfl, ?_,B.up⟩;have h:=A.out;unfold ra at h⊢
   (repeat(first|with_reducible assumption|with_reducible apply af.drewN|with_reducible apply af.drew|with_reducible apply af.alloc|((with_reducible apply af.beside); · (first|omega|(simp<;>omega)))|with_reducible apply af.store));all_goals(first|rfl|simp)
 rw[Nat.max_eq_left (by omega)];go_enter func59,ntmps59
 go_wp2_with fail
 refine(vL g j i a u t n w D o r x y E (by have:=c.out;omega) (by have:=c.out;omega) (by have:=l.out;omega)).mono ?_;rintro e J ⟨rfl,k,rfl⟩;go_wp2_with fail
 refine(C7 g j i u t n (w.drewN k) o r G F x y n1 n2 (by have:=c.out;omega) (by have:=l.out;omega)).mono ?_;rintro e w3 ⟨rfl,m,d⟩;have b:ra w3 g a q s p:=by
  rw[<-d,c.out,l.out];have h:=H.out;unfold ra at h⊢
  (repeat(first|with_reducible assumption|with_reducible apply af.drewN|with_reducible apply af.drew|with_reducible apply af.alloc|((with_reducible apply af.beside); · (first|omega|(simp<;>omega)))|with_reducible apply af.store));all_goals(first|rfl|simp)
 have B:ae [g] w w3:=by rw[<-d];exact CL
 clear d;have z:=b.cell 1;have C:=b.cell 3;have I:=b.frozen 3;simp at z C;have A:=za b;clear b;go_wp2;go_region
 all_goals
  go_wp2;go_ret;refine⟨rfl, ?_,B.up⟩;have h:=A.out;unfold ra at h⊢
  (repeat(first|with_reducible assumption|with_reducible apply af.drewN|with_reducible apply af.drew|with_reducible apply af.alloc|((with_reducible apply af.beside); · (first|omega|(simp<;>omega)))|with_reducible apply af.store));all_goals(first|rfl|simp)
theorem lV (g a u t p n:Nat)(w:World)(h:ra w g a u t p)(l:a<=9223372036854775807)(m:u+n<=a)(o:t+n<=9223372036854775807):
 Calls prog 41 #[.pointer (some ⟨g,0,none⟩),.int .i64 n] w fun e w'=>e= .returned (.int .i64 0)/\ra w' g a (u+n) (t+n) (max p (u+n))/\ae [g] w w':=by
 have q:=h.lt;have b:=(h.alloc (.cells #[.pointer (some ⟨g,0,none⟩)] 96)).alloc (.cells #[.int .i64 n] 3);have c:((w.alloc (.cells #[.pointer (some ⟨g,0,none⟩)] 96)).alloc (.cells #[.int .i64 n] 3)).cell? ⟨w.heap.size+1,0,none⟩=some (.int .i64 n):=by
  simp
 have d:((w.alloc (.cells #[.pointer (some ⟨g,0,none⟩)] 96)).alloc (.cells #[.int .i64 n] 3)).cell? ⟨w.heap.size,0,none⟩=some (.pointer (some ⟨g,0,none⟩)):=by
  simp
 have k:=za (TV g (w.heap.size+1) w.heap.size a u t p n _ _ _ (za rfl) (za rfl) b c d (by omega) (by omega) l m o);clear b c d h;go_enter func41,ntmps41
 go_wp2_with fail
 refine k.out.mono ?_;rintro e r ⟨rfl,i,j⟩;go_wp2;go_ret;exact⟨rfl,i,(((ae.refl [g] w).alloc _).alloc _).trans j⟩
def jH (w:World)(g:Nat)(s:ByteArray)(p L:Nat):Prop:=af w g 205 #[.string s,.int .i64 p,.int .i64 L]
theorem jH.cells (h:jH w g s p L):w.cell? ⟨g,0,none⟩=some (.string s)/\w.cell? ⟨g,1,none⟩=some (.int .i64 p)/\w.cell? ⟨g,2,none⟩=some (.int .i64 L)/\w.frozen? ⟨g,0,none⟩=false/\w.frozen? ⟨g,1,none⟩=false/\w.frozen? ⟨g,2,none⟩=false/\g<w.heap.size:=by
 obtain⟨a,b,c,d,e,f⟩:=a8 h;exact⟨a,b,c,d,e,f,af.lt h⟩
theorem jH.to {n:Int}(h:jH w g s p L)(b:n=q):jH (w.setCell ⟨g,1,none⟩ (.int .i64 n)) g s q L:=by
 subst b;exact af.store h rfl
theorem jH.less {n:Int}(h:jH w g s p L)(b:n=q):jH (w.setCell ⟨g,2,none⟩ (.int .i64 n)) g s p q:=by
 subst b;exact af.store h rfl
theorem fp (g:Nat)(s:ByteArray)(p L:Nat)(b:Nat)(w:World)(h:jH w g s p L)(k:p<s.size)(j:s.size<=100000)(d:s[p].toNat=b):
 Calls prog 187 #[.pointer (some ⟨g,0,none⟩),.int .u8 b] w fun e w'=>e= .returned (.bool true)/\jH w' g s (p+1) L/\ae [g] w w':=by
 obtain⟨g0,g1,g2,f0,f1,f2,i⟩:=h.cells;have c:=za h;subst d;clear h;have i1:((p:Int)==(s.size:Int))=false:=zo.2 (by omega);go_enter func187,ntmps187
 go_wp2_with fail
 go_quiet (fail)
 go_wp2;go_ret;exact⟨rfl,(show jH (w.drewN _) g s p L from c.out).to (by go_num),CL⟩
theorem gH (g:Nat)(s:ByteArray)(p L:Nat)(b:Nat)(w:World)(h:jH w g s p L)(k:p<=s.size)(j:s.size<=100000)(c:∀d:p<s.size,s[p].toNat≠b):
 Calls prog 187 #[.pointer (some ⟨g,0,none⟩),.int .u8 b] w fun e w'=>e= .returned (.bool false)/\∃n,w'=w.drewN n:=by
 obtain⟨g0,g1,g2,f0,f1,f2,i⟩:=h.cells;clear h;by_cases d:p<s.size
 ·have i1:((p:Int)==(s.size:Int))=false:=zo.2 (by omega);have i2:((s[p].toNat:Int) !=(b:Int))=true:=yz.2 (by have:=c d;omega);clear c;go_enter func187,ntmps187
  go_wp2_with fail
  go_quiet (fail)
  go_wp2;go_ret;exact⟨rfl,_,rfl⟩
 have i1:((p:Int)==(s.size:Int))=true:=yS.2 (by omega);clear c;go_enter func187,ntmps187
 go_wp2_with fail
 go_quiet (fail)
 go_wp2;go_ret;exact⟨rfl,_,rfl⟩
def P7 :Option Value->Nat
 |some (.int _ z)=>z.toNat
 |_=>0
theorem IG (g:Nat)(s:ByteArray)(p L most:Nat)(w:World)(h:jH w g s p L)(N:p<=s.size)(hs:s.size<=100000)(X:most<=65536):
 Calls prog 186 #[.pointer (some ⟨g,0,none⟩),.int .i64 most] w fun e w'=>∃(n:Nat) (ok:Bool) (q:Nat),e= .returned (.tuple #[.int .i64 n,.bool ok])/\jH w' g s q L/\ae [g] w w'/\oI most s p n ok q:=by
 obtain⟨g0,g1,g2,f0,f1,f2,hl⟩:=h.cells;have R:=za h;clear h;go_enter func186,ntmps186
 go_wp2_with fail
 go_loopw [7] (fun M wr=>∃k m:Nat,p<=k/\k<=s.size/\M= .int .i64 m/\m<=most/\Hid (k6 s p k m)/\Hid (jH wr g s k L)/\ae [g] w wr) (fun _ wr=>s.size-P7 (wr.cell? ⟨g,1,none⟩))
 case atStart=>exact⟨p,0,by omega,N,rfl,by omega,za (k6.start s p),R,CL⟩
 case round=>
  obtain⟨k,m,ab,hk,rfl,Rr,o,i,l⟩:=hrel;obtain⟨c0,J,Y,af,Z,aa,qN⟩:=i.out.cells;clear g0 g1 g2 f0 f1 f2;have D:(∃_:k<s.size,48<=s[k].toNat/\s[k].toNat<=57)\/(∀h:k<s.size,jm s[k]=false)/\((∃_:k<s.size,48<=s[k].toNat/\¬s[k].toNat<=57)\/(∃_:k<s.size,¬48<=s[k].toNat)\/¬k<s.size):=by
   by_cases b:k<s.size
   ·by_cases c:48<=s[k].toNat
    ·by_cases j:s[k].toNat<=57
     ·exact .inl ⟨b,c,j⟩
     exact .inr ⟨fun _=>by rw[Zp];intro hd;exact j ((kZ _).1 hd).2,.inl ⟨b,c,j⟩⟩
    exact .inr ⟨fun _=>by rw[Zp];intro hd;exact c ((kZ _).1 hd).1,.inr (.inl ⟨b,c⟩)⟩
   exact .inr ⟨fun h=>absurd h b,.inr (.inr b)⟩
  rcases D with⟨b,c,j⟩|⟨I,D⟩
  ·have i1:decide ((k:Int)<(s.size:Int))=true:=zD (by omega);have i2:decide ((48:Int)<=(s[k].toNat:Int))=true:=zD (by omega);have S:decide ((s[k].toNat:Int)<=(57:Int))=true:=zD (by omega);obtain⟨d,hd⟩:∃d:Nat,s[k].toNat-48=d:=⟨_,rfl⟩
   have e1:IntKind.u8.wrap ((s[k].toNat:Int)-48)=d:=by rw[show(s[k].toNat:Int)-48=d from by omega];exact IntWalk.u8_in _ (by omega)
   have e2:IntKind.i64.wrap (10*(m:Int))=10*m:=zW _ (by omega);have e3:IntKind.i64.wrap (d:Int)=d:=zW _ (by omega);have e4:IntKind.i64.wrap (10*(m:Int)+d)=10*(m:Int)+d:=zW _ (by omega);have H:Hid (k6 s p (k+1) (10*m+d)):=za (by
    have:=o.out.next b ((kZ _).2 ⟨c,j⟩);rwa [fC,zi (by omega),hd]at this)
   have C:Hid (∀V,jH V g s k L->jH (V.setCell ⟨g,1,none⟩ (.int .i64 ((k:Int)+1))) g s (k+1) L):=za (fun V x=>x.to (by omega));by_cases ag:(most:Int)<10*(m:Int)+d
   ·have U:Hid (∀u r,cx (s.data.toList.drop p)=some (u,r)->most<u):=za (fun u r E=>by have:=Me H.out u r E;omega);go_wp2_with fail
    go_quiet (fail)
    go_wp2_with fail
    go_quiet (fail)
    go_wp2;go_ret2
    exact⟨0,false,k+1,rfl,C.out _ (by exact i.out),l.up,EG U.out (by omega) (by omega)⟩
   go_wp2_with fail
   go_quiet (fail)
   go_wp2_with fail
   go_quiet (fail)
   go_wp2;go_roundw
   case rel=>exact⟨k+1,10*m+d,by omega,by omega,by go_num,by omega,H,za (C.out _ (by exact i.out)),l.up⟩
   case measure=>
    have E:=fun V (x:jH V g s k L)=>(C.out V x).cells.2.1
    rw[J,E]
    ·simp only[P7];omega
    exact i.out
  have y:=za I;clear I;rcases D with⟨b,c,j⟩|⟨b,c⟩|b;all_goals
   first
    |(have i1:decide ((k:Int)<(s.size:Int))=true:=zD (by omega);have i2:decide ((48:Int)<=(s[k].toNat:Int))=true:=zD (by omega);have S:decide ((s[k].toNat:Int)<=(57:Int))=false:=zv (by omega))
    |(have i1:decide ((k:Int)<(s.size:Int))=true:=zD (by omega);have i2:decide ((48:Int)<=(s[k].toNat:Int))=false:=zv (by omega))
    |have i1:decide ((k:Int)<(s.size:Int))=false:=zv (by omega)
   have ek:IntKind.i64.wrap ((k:Int)-p)=(k:Int)-p:=zW _ (by omega);by_cases A:k=p
   ·have F:(((k:Int)-p)==1)=false:=zo.2 (by omega);have W:decide ((1:Int)<(k:Int)-p)=false:=zv (by omega);have z:=za (nV (s:=s) (at_:=p) (fun h=>by have:=y.out (by omega);simpa[A]using this));clear A;go_wp2_with fail
    go_quiet (fail)
    go_wp2_with fail
    go_quiet (fail)
    go_wp2;go_ret2
    exact⟨m,false,k,rfl,i.out,l.up,uX z.out (by omega) (by omega)⟩
   have G:Hid (p<k):=za (by omega);by_cases O:k=p+1
   ·have F:(((k:Int)-p)==1)=true:=yS.2 (by omega);have B:=za (ks o.out (by omega) y.out (fun h=>absurd h (by omega)));clear O A;go_wp2_with fail
    go_quiet (fail)
    go_wp2_with fail
    go_quiet (fail)
    go_wp2;go_ret2
    exact⟨m,true,k,rfl,i.out,l.up,BR B.out (by omega) G.out (by omega)⟩
   have F:(((k:Int)-p)==1)=false:=zo.2 (by omega);have W:decide ((1:Int)<(k:Int)-p)=true:=zD (by omega);have ad:p<s.size:=by omega
   by_cases hz:s[p].toNat=48
   ·have K:((s[p].toNat:Int) !=48)=false:=by simp[hz]
    have z:=za (nW o.out (by omega) (fun _=>hz));clear hz;go_wp2_with fail
    go_quiet (fail)
    go_wp2_with fail
    go_quiet (fail)
    go_wp2;go_ret2
    exact⟨m,false,k,rfl,i.out,l.up,uX z.out (by omega) (by omega)⟩
   have K:((s[p].toNat:Int) !=48)=true:=yz.2 (by omega);have B:=za (ks o.out (by omega) y.out (fun _ _=>hz));clear hz;go_wp2_with fail
   go_quiet (fail)
   go_wp2_with fail
   go_quiet (fail)
   go_wp2;go_ret2
   exact⟨m,true,k,rfl,i.out,l.up,BR B.out (by omega) G.out (by omega)⟩
theorem P8 (g a b c:Nat)(s:ByteArray)(k:Nat)(v:Value)(w:World)(h:ji w g s k 0)(l:af w a 3 #[.int .i64 9])(n:af w b 164 #[.pointer (some ⟨g,0,none⟩)])(i:af w c 9 #[v])(y:k<=s.size)(q:s.size<=9223372036854775807):
 Calls prog 239 #[.pointer (some ⟨a,0,none⟩),.pointer (some ⟨b,0,none⟩),.pointer (some ⟨c,0,none⟩)] w fun e w'=>e= .returned (.int .i64 0)/\af w' c 9 #[.string (s.extract k (k+min 9 (s.size-k)))]/\ae [c] w w':=by
 have r:w.cell? ⟨g,0,none⟩=some (.string s):=h.cell 0;have x:w.cell? ⟨g,1,none⟩=some (.int .i64 k):=h.cell 1;have u:w.cell? ⟨a,0,none⟩=some (.int .i64 9):=l.cell 0;have k1:w.cell? ⟨b,0,none⟩=some (.pointer (some ⟨g,0,none⟩)):=n.cell 0;have k2:=i.frozen 0;have p:w.cell? ⟨c,0,none⟩=some v:=i.cell 0;have m:=za i;clear h l n i;by_cases o:s.size<k+9
 ·have d:¬(9:Int)<=(s.size:Int)-k:=by omega
  have j:Hid (s.extract k (k+min 9 (s.size-k))=s.extract k s.size):=za (by congr 1;omega);generalize s.extract k (k+min 9 (s.size-k))=X at*;go_enter func239,ntmps239
  go_wp2;refine cH 26 (by kernel_rfl) (by kernel_rfl) ?_;simp only[zT,yC,yf,zL];repeat(go_big_quiet_step (fail))
  refine xg ?_;intro nq;go_wp2;go_ret;refine⟨rfl, ?_,CL⟩;have h:=m.out;rw[j.out]
  (repeat(first|with_reducible assumption|with_reducible apply af.drewN|with_reducible apply af.drew|with_reducible apply af.alloc|((with_reducible apply af.beside); · (first|omega|(simp<;>omega)))|with_reducible apply af.store));all_goals(first|rfl|simp)
 have d:(9:Int)<=(s.size:Int)-k:=by omega
 have j:Hid (s.extract k (k+min 9 (s.size-k))=s.extract k ((k:Int)+9).toNat):=za (by congr 1;omega);generalize s.extract k (k+min 9 (s.size-k))=X at*;go_enter func239,ntmps239
 go_wp2;refine cH 26 (by kernel_rfl) (by kernel_rfl) ?_;simp only[zT,yC,yf,zL];repeat(go_big_quiet_step (fail))
 refine xg ?_;intro nq;go_wp2;go_ret;refine⟨rfl, ?_,CL⟩;have h:=m.out;rw[j.out]
 (repeat(first|with_reducible assumption|with_reducible apply af.drewN|with_reducible apply af.drew|with_reducible apply af.alloc|((with_reducible apply af.beside); · (first|omega|(simp<;>omega)))|with_reducible apply af.store));all_goals(first|rfl|simp)
theorem TW (g:Nat)(s:ByteArray)(k:Nat)(w:World)(h:ji w g s k 0)(o:k<=s.size)(m:s.size<=9223372036854775807):
 Calls prog 217 #[.pointer (some ⟨g,0,none⟩),.int .i64 9] w fun e w'=>e= .returned (.string (s.extract k (k+min 9 (s.size-k))))/\ji w' g s k 0/\ae [g] w w':=by
 have d:=h.cell 2;have u:=h.frozen 2;have l:=h.lt;simp at d;have H:=za h;have p:=sN l d;have j:=za (P8 g (w.heap.size+1) w.heap.size (w.heap.size+1+1) s k (.string ⟨#[]⟩) (((w.alloc (.cells #[.pointer (some ⟨g,0,none⟩)] 164)).alloc (.cells #[.int .i64 9] 3)).alloc (.cells #[.string ⟨#[]⟩] 9)) (((h.alloc _).alloc _).alloc _) ((af.at_ (by simp)).alloc _) (((af.new _ _ _).alloc _).alloc _) (af.at_ (by simp)) o m);generalize s.extract k (k+min 9 (s.size-k))=X at*;clear h;go_enter func217,ntmps217
 go_wp2_with fail
 go_enter func132,ntmps132
 go_wp2_with fail
 refine j.out.mono ?_;rintro e w' ⟨rfl,hx,b⟩;have q:w'.cell? ⟨w.heap.size+1+1,0,none⟩=some (.string X):=hx.cell 0;have c:ji w' g s k 0:=(((H.out.alloc _).alloc _).alloc _).only b (by simp;omega);have x:=c.frozen 2;have r:w'.cell? ⟨g,2,none⟩=some (.int .i64 0):=c.cell 2;have n:=za c;have i:=za ((((ae.refl [g] w).alloc _).alloc _).alloc _|>.trans' b (by simp;omega));clear c hx b;go_wp2;go_end0
 go_wp2;go_ret;refine⟨rfl, ?_, ?_⟩
 ·have h:=n.out;unfold ji at h⊢
  (repeat(first|with_reducible assumption|with_reducible apply af.drewN|with_reducible apply af.drew|with_reducible apply af.alloc|((with_reducible apply af.beside); · (first|omega|(simp<;>omega)))|with_reducible apply af.store));all_goals(first|rfl|simp)
 have b:=i.out;exact b.up
def oO (N:Nat×Nat×Int)(most:Nat):Int:=if N.2.2≠0 then N.2.2 else if most<N.1 then 5 else 0
def qu (N:Nat×Nat×Int)(most:Nat):Nat:=if oO N most=0 then N.1 else 0
def s9 (N:Nat×Nat×Int)(most k:Nat):Nat:=if oO N most=0 then k+N.2.1 else k
theorem oa (N:Nat×Nat×Int)(most k:Nat):(N.2.2≠0/\oO N most=N.2.2/\qu N most=0/\s9 N most k=k)\/(N.2.2=0/\most<N.1/\oO N most=5/\qu N most=0/\s9 N most k=k)\/(N.2.2=0/\¬most<N.1/\oO N most=0/\qu N most=N.1/\s9 N most k=k+N.2.1):=by
 unfold qu s9 oO;by_cases h:N.2.2≠0
 ·simp[h]
 by_cases b:most<N.1
 ·simp only[zC]at h;simp[h,b]
 simp only[zC]at h;simp[h,b]
theorem P9 (g:Nat)(s:ByteArray)(k most:Nat)(w:World)(h:ji w g s k 0)(W:k<=s.size)(G:s.size<=9223372036854775807)(Y:most<18446744073709551616)(F:bq w)(hg:g≠0):
 Calls prog 182 #[.pointer (some ⟨g,0,none⟩),.int .u64 most] w fun e w'=>e= .returned (.int .u64 (qu (aA (s.data.toList.drop k)) most))/\ji w' g s (s9 (aA (s.data.toList.drop k)) most k) (oO (aA (s.data.toList.drop k)) most)/\ae [g] w w':=by
 have y:=za (bw g s k 0 w h);have u:=za (TW g s k w h W G);have C:(s.extract k (k+min 9 (s.size-k))).data.toList=(s.data.toList.drop k).take 9:=by
  rw[ar,ZP,show k+min 9 (s.size-k)-k=min 9 (s.size-k)from by omega];by_cases L:9<=s.size-k
  ·rw[yF L]
  rw[Nat.min_eq_right (by omega),zz (by simp),zz (by simp;omega)]
 have D:(s.extract k (k+min 9 (s.size-k))).size<=9223372036854775807:=by rw[an _ _ _ (by omega)];omega
 have B:Hid (∀b,bq b->Calls prog 216 #[.string (s.extract k (k+min 9 (s.size-k)))] b fun e w'=>e=Cb (aA (s.data.toList.drop k))/\b=w'):=za (fun b U=>by
  have:=PY _ b D U;rwa [C,ES]at this)
 have A:(aA (s.data.toList.drop k)).2.2=0->k+(aA (s.data.toList.drop k)).2.1<=s.size:=fun O=>by
  have:=(iW (s.data.toList.drop k) (aA (s.data.toList.drop k)).1 (aA (s.data.toList.drop k)).2.1 (by rw[<-O])).2.1;rw[zK,aa]at this;omega
 have x:=za (fun b (c:ae [g] w b)=>F.only c (by simp;omega));have HH:=za h;generalize s.extract k (k+min 9 (s.size-k))=X at*;generalize aA (s.data.toList.drop k)=N at*;obtain⟨m,z,r⟩:=N;have J:=oa (m,z,r) most k;generalize oO (m,z,r) most=E at*;generalize qu (m,z,r) most=M at*;generalize s9 (m,z,r) most k=K at*;simp only at J A;have S:=za A;clear h F C D A;rcases J with⟨H,rfl,rfl,rfl⟩|⟨rfl,R,rfl,rfl,rfl⟩|⟨rfl,R,rfl,rfl,rfl⟩
 ·have b1:(E==0)=false:=zo.2 H;have Z:(E !=0)=true:=yz.2 H;go_enter func182,ntmps182
  go_wp2_with fail
  refine y.out.mono ?_;rintro e w' ⟨rfl,rfl⟩;go_wp2_with fail
  refine u.out.mono ?_;rintro e b ⟨rfl,d,c⟩;have o:=za d;have q:=za c;have p:=za (B.out b (x.out b c));clear d c;go_wp2_with fail
  refine p.out.mono ?_;rintro e w' ⟨rfl,rfl⟩;unfold Cb;go_wp2_with fail
  refine(iX g s K E b o.out).mono ?_;rintro e I ⟨rfl,i,j⟩;have n:=za i;have l:=za j;clear i j;go_wp2;go_ret;exact⟨rfl,n.out,q.out.trans l.out⟩
 ·skip
  go_enter func182,ntmps182
  go_wp2_with fail
  refine y.out.mono ?_;rintro e w' ⟨rfl,rfl⟩;go_wp2_with fail
  refine u.out.mono ?_;rintro e b ⟨rfl,d,c⟩;have o:=za d;have q:=za c;have p:=za (B.out b (x.out b c));clear d c;go_wp2_with fail
  refine p.out.mono ?_;rintro e w' ⟨rfl,rfl⟩;unfold Cb;go_wp2_with fail
  refine(iX g s K 5 b o.out).mono ?_;rintro e I ⟨rfl,i,j⟩;have n:=za i;have l:=za j;clear i j;go_wp2;go_ret;exact⟨rfl,n.out,q.out.trans l.out⟩
 skip
 go_enter func182,ntmps182
 go_wp2_with fail
 refine y.out.mono ?_;rintro e w' ⟨rfl,rfl⟩;go_wp2_with fail
 refine u.out.mono ?_;rintro e b ⟨rfl,d,c⟩;have o:=za d;have q:=za c;have p:=za (B.out b (x.out b c));clear d c;go_wp2_with fail
 refine p.out.mono ?_;rintro e w' ⟨rfl,rfl⟩;unfold Cb;go_wp2_with fail
 refine(eH g s k z b o.out G (S.out trivial)).mono ?_;rintro e I ⟨rfl,i,j⟩;have n:=za i;have l:=za j;clear i j;go_wp2;go_ret;exact⟨rfl,n.out,q.out.trans l.out⟩
