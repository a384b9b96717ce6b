/- sha: the constants that the program holds are the document's roots. -/
import Derived.Test.YtdbmifjankgfpaaGreatDoorKA11
import Derived.DeepKeys5
set_option linter.all false
set_option maxRecDepth 100000
set_option maxHeartbeats 2000000
namespace Go.Proofs.YtdbmifjankgfpaaGreatDoor
open Tryz
open Go.RowKit
def zZ:=@IntWalk.i64_in
def yh:=@Option.some.inj
def xL:=@wpQuiet_nil
def ZT:=@underlying184
theorem M3 (n:Nat)(d:1<=n)(c:n<=31):bits .and .u64 (IntKind.u64.wrap (-(n:Int))) 31=((32-n:Nat):Int):=by
 have e:IntKind.u64.wrap (-(n:Int))=((18446744073709551616-n:Nat):Int):=by
  simp[IntKind.wrap,IntKind.signed,IntKind.bits];omega
 have h:=u64_and_nat (18446744073709551616-n) 31 (by omega) (by omega);rw[e];have b:((31:Nat):Int)=31:=rfl;rw[b]at h;rw[h,show(31:Nat)=2^5-1 from rfl,Nat.and_two_pow_sub_one_eq_mod];omega
theorem TX (x n:Nat)(hx:x<4294967296):bits .or .u32 ((x:Int)*2^(32-n)%4294967296) ((x:Int)/2^n)=((iL x n:Nat):Int):=by
 have h:=u32_or_nat (x*2^(32-n)%4294967296) (x/2^n) (yZ _ (by omega)) (mY n hx);have b:((x*2^(32-n)%4294967296:Nat):Int)=(x:Int)*2^(32-n)%4294967296:=by simp
 have c:((x/2^n:Nat):Int)=(x:Int)/2^n:=by simp
 rw[b,c]at h;rw[h,Nat.or_comm];rfl
theorem Dm (x n:Nat)(w:World)(hx:x<4294967296)(h:1<=n)(c:n<=31):
 Calls prog 242 #[.int .u32 x,.int .i64 n] w fun e w'=>e= .returned (.int .u32 (iL x n))/\w=w':=by
 have i:=M3 n h c;obtain⟨k,b⟩:∃k:Nat,32-n=k:=⟨_,rfl⟩
 rw[b]at i;have j:(32:Int)-(k:Int)=(n:Int):=by omega
 have d:=za b;clear b;go_enter func242,ntmps242
 go_wp2;go_ret;exact⟨lU (by rw[<-d.out];exact TX x n hx),rfl⟩
theorem xor_val {a b:Nat}(d:a<4294967296)(c:b<4294967296):bits .xor .u32 (a:Int) (b:Int)=((a^^^b:Nat):Int):=u32_xor_nat a b d c
theorem FN (x a b c:Nat)(w:World)(hx:x<4294967296)(k:1<=a/\a<=31)(h:1<=b/\b<=31)(i:1<=c/\c<=31):
 Calls prog 225 #[.int .u32 x,.int .i64 a,.int .i64 b,.int .i64 c] w fun e w'=>e= .returned (.int .u32 (iL x a^^^iL x b^^^iL x c:Nat))/\w=w':=by
 have m:=za (fun w=>Dm x a w hx k.1 k.2);have s:=za (fun w=>Dm x b w hx h.1 h.2);have A:=za (fun w=>Dm x c w hx i.1 i.2);have l:=eo a hx;have j:=eo b hx;have u:=eo c hx;generalize iL x a=p at*;generalize iL x b=q at*;generalize iL x c=r at*;have o:=xor_val l j;have n:=xor_val (dw l j) u;obtain⟨y,d⟩:∃y,p^^^q=y:=⟨_,rfl⟩
 obtain⟨z,hz⟩:∃z,p^^^q^^^r=z:=⟨_,rfl⟩
 rw[d]at o;rw[hz,d]at n;rw[hz];clear d hz;go_enter func225,ntmps225
 go_wp2_with fail
 refine(m.out _).mono ?_;rintro e w' ⟨rfl,rfl⟩;go_wp2_with fail
 refine(s.out _).mono ?_;rintro e w' ⟨rfl,rfl⟩;go_wp2_with fail
 refine(A.out _).mono ?_;rintro e w' ⟨rfl,rfl⟩;go_wp2;go_ret;exact⟨rfl,rfl⟩
theorem Xj (x n:Nat)(w:World)(hx:x<4294967296)(h:1<=n)(c:n<=31):
 Calls prog 242 #[.int .u32 x,.int .i64 n] w fun e w'=>e= .returned (.int .u32 (iL x n))/\w'=w:=(Dm x n w hx h c).mono fun _ _ ⟨b,d⟩=>⟨b,d.symm⟩
theorem vN (x a b c:Nat)(w:World)(hx:x<4294967296)(q:1<=a/\a<=31)(o:1<=b/\b<=31)(p:1<=c/\c<=31):
 Calls prog 241 #[.int .u32 x,.int .i64 a,.int .i64 b,.int .i64 c] w fun e w'=>e= .returned (.int .u32 (iL x a^^^iL x b^^^x/2^c:Nat))/\∃n,w'=w.drewN n:=by
 have k:=eo a hx;have i:=eo b hx;have m:=mY c hx;have l:=xor_val k i;have j:=xor_val (dw k i) m;have h:((x/2^c:Nat):Int)=(x:Int)/2^c:=by simp
 rw[h]at j;obtain⟨y,d⟩:∃y:Nat,iL x a^^^iL x b=y:=⟨_,rfl⟩
 obtain⟨z,hz⟩:∃z:Nat,iL x a^^^iL x b^^^x/2^c=z:=⟨_,rfl⟩
 rw[d]at l;rw[hz,d]at j;rw[hz];clear d hz h;go_enter func241,ntmps241
 go_wp2;go_quiet ((go_at_call 242;exact Calls.quiet_of_same (Xj _ _ _ hx (by omega) (by omega))))
 go_wp2;go_ret;exact⟨rfl,_,rfl⟩
theorem PZ (a b c d:Nat)(n:a<256)(l:b<256)(m:c<256)(hd:d<256):
 bits .or .u32 (bits .or .u32 (bits .or .u32 ((a:Int)*2^24) ((b:Int)*2^16)) ((c:Int)*2^8)) (d:Int)=((a*16777216+b*65536+c*256+d:Nat):Int):=by
 have k:((a:Int)*2^24)=((a*2^24:Nat):Int):=by simp
 have i:((b:Int)*2^16)=((b*2^16:Nat):Int):=by simp
 have e:((c:Int)*2^8)=((c*2^8:Nat):Int):=by simp
 rw[k,i,e,u32_or_nat _ _ (by omega) (by omega)];have j:a*2^24|||b*2^16=a*2^24+b*2^16:=by rw[Zr,<-xp (by omega)]
 rw[j,u32_or_nat _ _ (by omega) (by omega)];have g2:a*2^24+b*2^16|||c*2^8=a*2^24+b*2^16+c*2^8:=by
  rw[show a*2^24+b*2^16=2^16*(a*256+b)from by omega,<-xp (by omega)]
 rw[g2,u32_or_nat _ _ (by omega) (by omega)];have h:a*2^24+b*2^16+c*2^8|||d=a*2^24+b*2^16+c*2^8+d:=by
  rw[show a*2^24+b*2^16+c*2^8=2^8*(a*65536+b*256+c)from by omega,<-xp (by omega)]
 rw[h]
theorem P0 (s:ByteArray)(i:Nat)(w:World)(hi:4*i+4<=s.size)(z:s.size<=100000):
 Calls prog 223 #[.string s,.int .i64 i] w fun e w'=>e= .returned (.int .u32 (mZ s i))/\∃n,w'=w.drewN n:=by
 obtain⟨E,G,k,o⟩:∃E:ByteArray,s.extract (4*i) (4*i+4)=E/\∃k:E.size=4,Hid (mZ s i=E[0].toNat*16777216+E[1].toNat*65536+E[2].toNat*256+E[3].toNat):=by
  have hz:(s.extract (4*i) (4*i+4)).size=4:=by rw[aj _ _ _ hi];omega
  refine⟨_,rfl,hz,za ?_⟩;have b:∀j (d:j<(s.extract (4*i) (4*i+4)).size),(s.extract (4*i) (4*i+4))[j]=s.data.toList.getD (4*i+j) 0:=by
   intro j d;have c:=gL (s.extract (4*i) (4*i+4)) j d;rw[an,xq,yA (by omega)]at c;rw[zv,c];rfl
  rw[b 0,b 1,b 2,b 3];rfl
 have B:0<E.size:=by omega
 have C:1<E.size:=by omega
 have F:2<E.size:=by omega
 have A:3<E.size:=by omega
 have r:=E[0].toNat_lt;have q:=E[1].toNat_lt;have m:=E[2].toNat_lt;have p:=E[3].toNat_lt;have l:=za (PZ E[0].toNat E[1].toNat E[2].toNat E[3].toNat r q m p);have y:IntKind.u32.wrap ((E[0].toNat:Nat):Int)=((E[0].toNat:Nat):Int):=IntWalk.u32_in _ (by omega);have u:IntKind.u32.wrap ((E[1].toNat:Nat):Int)=((E[1].toNat:Nat):Int):=IntWalk.u32_in _ (by omega);have x:IntKind.u32.wrap ((E[2].toNat:Nat):Int)=((E[2].toNat:Nat):Int):=IntWalk.u32_in _ (by omega);have D:IntKind.u32.wrap ((E[3].toNat:Nat):Int)=((E[3].toNat:Nat):Int):=IntWalk.u32_in _ (by omega);go_enter func223,ntmps223
 go_wp2;go_quiet (fail)
 go_wp2;go_ret;refine⟨lU ?_,_,rfl⟩;have h:=l.out;rw[show(2:Int)^24=16777216 from rfl,show(2:Int)^16=65536 from rfl,show(2:Int)^8=256 from rfl]at h;rw[o.out];exact h
theorem and_val {a b:Nat}(d:a<4294967296)(c:b<4294967296):bits .and .u32 (a:Int) (b:Int)=((a&&&b:Nat):Int):=u32_and_nat a b d c
def Xk :ByteArray:=⟨#[66,138,47,152,113,55,68,145,181,192,251,207,233,181,219,165,57,86,194,91,89,241,17,241,146,63,130,164,171,28,94,213,216,7,170,152,18,131,91,1,36,49,133,190,85,12,125,195,114,190,93,116,128,222,177,254,155,220,6,167,193,155,241,116,228,155,105,193,239,190,71,134,15,193,157,198,36,12,161,204,45,233,44,111,74,116,132,170,92,176,169,220,118,249,136,218,152,62,81,82,168,49,198,109,176,3,39,200,191,89,127,199,198,224,11,243,213,167,145,71,6,202,99,81,20,41,41,103,39,183,10,133,46,27,33,56,77,44,109,252,83,56,13,19,101,10,115,84,118,106,10,187,129,194,201,46,146,114,44,133,162,191,232,161,168,26,102,75,194,75,139,112,199,108,81,163,209,146,232,25,214,153,6,36,244,14,53,133,16,106,160,112,25,164,193,22,30,55,108,8,39,72,119,76,52,176,188,181,57,28,12,179,78,216,170,74,91,156,202,79,104,46,111,243,116,143,130,238,120,165,99,111,132,200,120,20,140,199,2,8,144,190,255,250,164,80,108,235,190,249,163,247,198,113,120,242]⟩
theorem M4 :((List.range 64).all fun i=>mZ Xk i==Hr.getD i 0)=true:=by decide+kernel
theorem vO (i:Nat)(h:i<64):mZ ⟨#[66,138,47,152,113,55,68,145,181,192,251,207,233,181,219,165,57,86,194,91,89,241,17,241,146,63,130,164,171,28,94,213,216,7,170,152,18,131,91,1,36,49,133,190,85,12,125,195,114,190,93,116,128,222,177,254,155,220,6,167,193,155,241,116,228,155,105,193,239,190,71,134,15,193,157,198,36,12,161,204,45,233,44,111,74,116,132,170,92,176,169,220,118,249,136,218,152,62,81,82,168,49,198,109,176,3,39,200,191,89,127,199,198,224,11,243,213,167,145,71,6,202,99,81,20,41,41,103,39,183,10,133,46,27,33,56,77,44,109,252,83,56,13,19,101,10,115,84,118,106,10,187,129,194,201,46,146,114,44,133,162,191,232,161,168,26,102,75,194,75,139,112,199,108,81,163,209,146,232,25,214,153,6,36,244,14,53,133,16,106,160,112,25,164,193,22,30,55,108,8,39,72,119,76,52,176,188,181,57,28,12,179,78,216,170,74,91,156,202,79,104,46,111,243,116,143,130,238,120,165,99,111,132,200,120,20,140,199,2,8,144,190,255,250,164,80,108,235,190,249,163,247,198,113,120,242]⟩ i=uW.getD i 0:=by
 have:=Za.1 M4 i (Zt.2 h);rw[CV];exact yN.1 this
theorem agH (i:Nat):uW.getD i 0<4294967296:=by
 rw[CV];by_cases h:i<64
 ·rw[<-CV,<-vO i h];exact BH _ _
 rw[zv,yY (by simp[Hr];omega)];simp
theorem Xl (i:Nat)(w:World)(h:i<64):Calls prog 222 #[.int .i64 i] w fun e w'=>e= .returned (.int .u32 (uW.getD i 0:Nat))/\∃n,w'=w.drewN n:=by
 have b:=za (vO i h);generalize c:uW.getD i 0=K at*;go_enter func222,ntmps222
 go_wp2_with fail
 refine(P0 _ i _ (by simp[ByteArray.size];omega) (by simp[ByteArray.size])).mono ?_;rintro e w' ⟨rfl,n,rfl⟩;rw[b.out];go_wp2;go_ret;exact⟨rfl,_,rfl⟩
def nc (l:List Nat):Array Value:=(l.map fun n=>Value.int .u64 (n:Nat)).toArray
theorem acm (l:List Nat)(i:Nat)(h:i<l.length):(nc l)[i]?=some (.int .u64 (l.getD i 0:Nat)):=by
 simp[nc,zv,zA h]
theorem af.num {w:World}{g:Nat}{t:TypeId}{l:List Nat}(h:af w g t (nc l)){i:Nat}(hi:i<l.length):w.cell? ⟨g,i,none⟩=some (.int .u64 (l.getD i 0:Nat)):=(h.cell i).trans (acm l i hi)
abbrev ji (w:World)(g:Nat)(s:ByteArray)(at_:Nat)(f:Int):Prop:=af w g 180 #[.string s,.int .i64 at_,.int .i64 f]
theorem bw (g:Nat)(s:ByteArray)(k:Nat)(f:Int)(w:World)(h:ji w g s k f):
 Calls prog 114 #[.pointer (some ⟨g,0,none⟩)] w fun e w'=>e= .returned (.int .i64 f)/\w=w':=by
 have b:=h.cell 2;simp at b;clear h;go_enter func114,ntmps114
 go_wp2;go_ret;exact⟨rfl,rfl⟩
theorem vP (g:Nat)(s:ByteArray)(k:Nat)(f:Int)(w:World)(h:ji w g s k f)(i:k<=s.size)(d:s.size<=9223372036854775807):
 Calls prog 138 #[.pointer (some ⟨g,0,none⟩)] w fun e w'=>e= .returned (.int .i64 ((s.size:Int)-k))/\∃n,w.drewN n=w':=by
 have b:=h.cell 0;have c:=h.cell 1;simp at b c;clear h;go_enter func138,ntmps138
 go_wp2;go_quiet (fail)
 go_wp2;go_ret;exact⟨rfl,_,rfl⟩
theorem iV (g:Nat)(s:ByteArray)(k:Nat)(f:Int)(w:World)(h:ji w g s k 0):
 Calls prog 140 #[.pointer (some ⟨g,0,none⟩),.int .i64 f] w fun e w'=>e= .returned (.tuple #[])/\ji w' g s (k) (f)/\ae [g] w w':=by
 have b:=h.cell 2;have c:=h.frozen 2;have d:=h.lt;simp at b;have H:=za h;clear h;go_enter func140,ntmps140
 go_wp2;go_end0
 go_wp2;go_end0
 refine⟨rfl, ?_,C2⟩;have h:=H.out;unfold ji at h⊢
 (repeat(first|with_reducible assumption|with_reducible apply af.drewN|with_reducible apply af.drew|with_reducible apply af.alloc|((with_reducible apply af.beside); · (first|omega|(simp<;>omega)))|with_reducible apply af.store));all_goals(first|rfl|simp)
theorem vQ (g:Nat)(s:ByteArray)(k:Nat)(f e:Int)(w:World)(h:ji w g s k f)(c:(f==0)=false):
 Calls prog 140 #[.pointer (some ⟨g,0,none⟩),.int .i64 e] w fun e w'=>e= .returned (.tuple #[])/\ji w' g s (k) (f)/\ae [g] w w':=by
 have b:=h.cell 2;have d:=h.lt;simp at b;have H:=za h;clear h;go_enter func140,ntmps140
 go_wp2;go_end0
 go_wp2;go_end0
 refine⟨rfl, ?_,C2⟩;have h:=H.out;unfold ji at h⊢
 (repeat(first|with_reducible assumption|with_reducible apply af.drewN|with_reducible apply af.drew|with_reducible apply af.alloc|((with_reducible apply af.beside); · (first|omega|(simp<;>omega)))|with_reducible apply af.store));all_goals(first|rfl|simp)
theorem vR (g:Nat)(s:ByteArray)(k:Nat)(f n:Int)(w:World)(h:ji w g s k f)(j:(f==0)=false):
 Calls prog 113 #[.pointer (some ⟨g,0,none⟩),.int .i64 n] w fun e w'=>e= .returned (.string ByteArray.empty)/\ji w' g s (k) (f)/\ae [g] w w':=by
 have c:=h.cell 0;have d:=h.cell 1;have b:=h.cell 2;have m:=h.frozen 1;have o:=h.frozen 2;have i:=h.lt;simp at c d b;have H:=za h;clear h;have l:=sP i b;go_enter func113,ntmps113
 go_wp2;go_end0
 go_wp2;go_ret;refine⟨rfl, ?_,C2⟩;have h:=H.out;unfold ji at h⊢
 (repeat(first|with_reducible assumption|with_reducible apply af.drewN|with_reducible apply af.drew|with_reducible apply af.alloc|((with_reducible apply af.beside); · (first|omega|(simp<;>omega)))|with_reducible apply af.store));all_goals(first|rfl|simp)
theorem gu (g:Nat)(s:ByteArray)(k:Nat)(n:Nat)(w:World)(h:ji w g s k 0)(p:k<=s.size)(l:s.size<=9223372036854775807)(u:s.size<k+n)(x:n<=9223372036854775807):
 Calls prog 113 #[.pointer (some ⟨g,0,none⟩),.int .i64 n] w fun e w'=>e= .returned (.string ByteArray.empty)/\ji w' g s (k) (2)/\ae [g] w w':=by
 have c:=h.cell 0;have i:=h.cell 1;have d:=h.cell 2;have r:=h.frozen 1;have j:=h.frozen 2;have b:=h.lt;simp at c i d;have H:=za h;clear h;have m:=sP b c;have o:=sP b i;have q:=sP b d;have g2:=C1 b j;go_enter func113,ntmps113
 go_wp2;go_quiet (fail)
 go_wp2;go_end0
 go_wp2;go_ret;refine⟨rfl, ?_,C2⟩;have h:=H.out;unfold ji at h⊢
 (repeat(first|with_reducible assumption|with_reducible apply af.drewN|with_reducible apply af.drew|with_reducible apply af.alloc|((with_reducible apply af.beside); · (first|omega|(simp<;>omega)))|with_reducible apply af.store));all_goals(first|rfl|simp)
theorem eE (g:Nat)(s:ByteArray)(k:Nat)(n:Nat)(w:World)(h:ji w g s k 0)(m:s.size<=9223372036854775807)(u:k+n<=s.size):
 Calls prog 113 #[.pointer (some ⟨g,0,none⟩),.int .i64 n] w fun e w'=>e= .returned (.string (s.extract k (k+n)))/\ji w' g s (k+n) (0)/\ae [g] w w':=by
 have c:=h.cell 0;have i:=h.cell 1;have d:=h.cell 2;have j:=h.frozen 1;have l:=h.frozen 2;have b:=h.lt;simp at c i d;have H:=za h;clear h;have o:=sP b c;have p:=sP b i;have q:=sP b d;have r:=C1 b j;have g2:=C1 b l;go_enter func113,ntmps113
 go_wp2;go_quiet (fail)
 go_wp2;go_region
 all_goals go_wp2
 go_region
 all_goals go_wp2
 go_end0
 go_wp2;go_ret;refine⟨rfl, ?_,C2⟩;have h:=H.out;unfold ji at h⊢
 (repeat(first|with_reducible assumption|with_reducible apply af.drewN|with_reducible apply af.drew|with_reducible apply af.alloc|((with_reducible apply af.beside); · (first|omega|(simp<;>omega)))|with_reducible apply af.store));all_goals(first|rfl|simp)
theorem rS (s:ByteArray)(w:World):
 Calls prog 112 #[.string s] w fun e w'=>e= .returned (.pointer (some ⟨w.heap.size,0,none⟩))/\w'=w.alloc (.cells #[.string s,.int .i64 0,.int .i64 0] 180):=by
 go_enter func112,ntmps112
 go_wp2;go_ret;exact⟨rfl,rfl⟩
theorem vS (g:Nat)(s:ByteArray)(k:Nat)(w:World)(h:ji w g s k 0)(j:k<s.size)(i:s.size<=9223372036854775807):
 Calls prog 165 #[.pointer (some ⟨g,0,none⟩)] w fun e w'=>e= .returned (.int .u8 s[k].toNat)/\ji w' g s (k+1) (0)/\ae [g] w w':=by
 have b:=h.cell 0;have d:=h.cell 1;have c:=h.cell 2;have l:=h.frozen 1;have m:=h.frozen 2;have n:=h.lt;simp at b d c;have H:=za h;clear h;go_enter func165,ntmps165
 go_wp2;go_quiet (fail)
 go_wp2;go_region
 all_goals go_wp2
 go_end0
 go_wp2;go_ret;refine⟨rfl, ?_,C2⟩;have h:=H.out;unfold ji at h⊢
 (repeat(first|with_reducible assumption|with_reducible apply af.drewN|with_reducible apply af.drew|with_reducible apply af.alloc|((with_reducible apply af.beside); · (first|omega|(simp<;>omega)))|with_reducible apply af.store));all_goals(first|rfl|simp)
theorem ou {x:Nat×Nat×Int}{a b:Nat}{c:Int}(h:x=(a,b,c)):Ending.returned (.tuple #[.int .i64 a,.int .i64 b,.int .i64 c])= .returned (.tuple #[.int .i64 x.1,.int .i64 x.2.1,.int .i64 x.2.2]):=by rw[h]
theorem s8 (most:Int)(s:ByteArray)(w:World)(l:s.size<=9223372036854775807)(r: -9223372036854775808<=most)(z:most<=9223372036854775807):
 Calls prog 93 #[.int .i64 most,.string s] w fun e w'=>e= .returned (.tuple #[.int .i64 (ar most s).1,.int .i64 (ar most s).2.1,.int .i64 (ar most s).2.2])/\w=w':=by
 have j:=fZ s;have d:=za (fun w=>rQ s w l);have i:=za (show ar most s=(if(au s).2.2=0 then(if most<(au s).1 then(0,0,5)else((au s).1,(au s).2.1,0))else(0,0,(au s).2.2))from rfl);generalize au s=x at*;obtain⟨n,k,q⟩:=x;dsimp only at*;rcases eT q with⟨c,o,m⟩|⟨c,o,m⟩
 ·subst c;have y:=j rfl;clear j;by_cases h:most<n
  ·have b:=za (by have:=i.out;rw[zi rfl,zi h]at this;exact this);rcases Int.lt_or_le most 0 with Bn|Bn
   ·go_enter func93,ntmps93
    go_wp2_with fail
    refine(d.out _).mono ?_;rintro e w' ⟨rfl,rfl⟩;go_wp2;go_ret3
    exact⟨ou b.out,rfl⟩
   have p:IntKind.u64.wrap most=most:=xg _ (by omega);go_enter func93,ntmps93
   go_wp2_with fail
   refine(d.out _).mono ?_;rintro e w' ⟨rfl,rfl⟩;go_wp2;go_ret3
   exact⟨ou b.out,rfl⟩
  have b:=za (by have:=i.out;rw[zi rfl,zh h]at this;exact this);have p:IntKind.u64.wrap most=most:=xg _ (by omega);have u:decide (most<(n:Int))=false:=zu h;go_enter func93,ntmps93
  go_wp2_with fail
  refine(d.out _).mono ?_;rintro e w' ⟨rfl,rfl⟩;go_wp2;go_ret3
  exact⟨ou b.out,rfl⟩
 have b:=za (by have:=i.out;rw[zh c]at this;exact this);clear j c;go_enter func93,ntmps93
 go_wp2_with fail
 refine(d.out _).mono ?_;rintro e w' ⟨rfl,rfl⟩;go_wp2;go_ret3
 exact⟨ou b.out,rfl⟩
theorem oM :ByteArray.empty=⟨#[]⟩:=rfl
def KM (x:Int×Nat×ByteArray×Nat)(w:World)(e:Ending)(w':World):Prop:=
 e= .returned (.tuple #[.agg #[.int .u64 x.2.1,.string ByteArray.empty,.string x.2.2.1],.int .i64 x.2.2.2,.int .i64 x.1])/\Below w.heap.size w w'
theorem uv {x:Int×Nat×ByteArray×Nat}{w w':World}{a:Int}{b:Nat}{c:ByteArray}{d:Nat}{e:Int}(h:x=(a,b,c,d))(hd:e=d)(i:Below w.heap.size w w'):
 KM x w (.returned (.tuple #[.agg #[.int .u64 b,.string ByteArray.empty,.string c],.int .i64 e,.int .i64 a])) w':=by
 subst h;subst hd;exact⟨rfl,i⟩
theorem kB (most:Int)(s:ByteArray)(w:World)(z:s.size<=9223372036854775807)(gJ: -9223372036854775808<=most)(su:most<=9223372036854775807):
 Calls prog 78 #[.int .i64 most,.string s] w (KM (ai most s) w):=by
 have I:=oh most s;have H:=za (fun w=>s8 most s w z gJ su);have m:=za (dT most s);generalize ai most s=X at*;generalize ar most s=aa at*;obtain⟨n,k,M⟩:=aa;dsimp only at*;rcases eT M with⟨F,h1,Z⟩|⟨F,h1,Z⟩
 ·subst F;obtain⟨hn,hk,Bq,ad⟩:=I rfl;clear I;by_cases E:s.size<k+n
  ·have A:=za (by have:=m.out;rw[zh (by simp),zi E]at this;exact this);clear m;go_enter func78,ntmps78
   go_wp2_with fail
   refine(H.out _).mono ?_;rintro e w' ⟨rfl,rfl⟩;go_wp2_with fail
   refine(rS s _).mono ?_;rintro e d ⟨rfl,c⟩;have q:ji d (w.heap.size+1) s 0 0:=by rw[c];have:=af.new (w.alloc (.cells #[.int .u64 0,.string ⟨#[]⟩,.string ⟨#[]⟩] 84)) 180 #[.string s,.int .i64 0,.int .i64 0];rw[zp]at this;exact this
   have o:af d w.heap.size 84 #[.int .u64 0,.string ⟨#[]⟩,.string ⟨#[]⟩]:=by rw[c];exact(af.new w _ _).alloc _
   have u:Below w.heap.size w d:=by rw[c];exact bQ
   have Y:d.heap.size=w.heap.size+2:=by rw[c];simp
   rw[zp];clear c;go_wp2_with fail
   refine(eE (w.heap.size+1) s 0 k _ q z (by omega)).mono ?_;rintro e U ⟨rfl,h,i⟩;rw[zM]at h;have y:=o.only i (by simp);have S:=i.size;have x:=u.trans (i.below (B:=w.heap.size) (by omega) (by simp));clear q o u;go_wp2_with fail
   refine(gu (w.heap.size+1) s k n _ h hk z E (by omega)).mono ?_;rintro e w3 ⟨rfl,D,p⟩;have b:=y.only p (by simp);have C:=za (x.trans (p.below (B:=w.heap.size) (by omega) (by simp)));have j:=b.cell 0;have r:=b.cell 1;have l:=b.cell 2;have L:=b.frozen 0;have J:=b.frozen 1;have K:=b.frozen 2;simp at j r l;clear y x h;go_wp2_with fail
   refine(bw (w.heap.size+1) s _ _ _ D).mono ?_;rintro e w' ⟨rfl,rfl⟩;go_wp2;refine zk (v:= .tuple #[.agg #[.int .u64 0,.string ByteArray.empty,.string ByteArray.empty],.int .i64 0,.int .i64 2]) (by simp[results,results78,go_sem,oM,j,r,l]) rfl ?_;exact uv A.out rfl (((C.out.setCell (by simp) _).setCell (by simp) _).setCell (by simp) _)
  have W:=za (fun w=>rQ (s.extract k (k+n)) w (by rw[aj _ _ _ (by omega)];omega));have G:=fZ (s.extract k (k+n));rw[aj _ _ _ (by omega:k+n<=s.size),Nat.add_sub_cancel_left]at G;have ae:(s.extract k (k+n)).size=n:=by rw[aj _ _ _ (by omega)];omega
  generalize O:s.extract k (k+n)=R at*;have N:=za O;generalize au R=ab at*;obtain⟨id,sz,f⟩:=ab;dsimp only at*;clear O;rcases eT f with⟨g0,g1,g2⟩|⟨g0,g1,g2⟩
  ·subst g0;obtain⟨l1,l2,l3,l4⟩:=G rfl;have A:=za (by have:=m.out;rw[zh (by simp),zh E,zh (by simp)]at this;exact this);clear m G;go_enter func78,ntmps78
   go_wp2_with fail
   refine(H.out _).mono ?_;rintro e w' ⟨rfl,rfl⟩;go_wp2_with fail
   refine(rS s _).mono ?_;rintro e d ⟨rfl,c⟩;have q:ji d (w.heap.size+1) s 0 0:=by rw[c];have:=af.new (w.alloc (.cells #[.int .u64 0,.string ⟨#[]⟩,.string ⟨#[]⟩] 84)) 180 #[.string s,.int .i64 0,.int .i64 0];rw[zp]at this;exact this
   have o:af d w.heap.size 84 #[.int .u64 0,.string ⟨#[]⟩,.string ⟨#[]⟩]:=by rw[c];exact(af.new w _ _).alloc _
   have u:Below w.heap.size w d:=by rw[c];exact bQ
   have Y:d.heap.size=w.heap.size+2:=by rw[c];simp
   rw[zp];clear c;go_wp2_with fail
   refine(eE (w.heap.size+1) s 0 k _ q z (by omega)).mono ?_;rintro e U ⟨rfl,h,i⟩;rw[zM]at h;have y:=o.only i (by simp);have S:=i.size;have x:=u.trans (i.below (B:=w.heap.size) (by omega) (by simp));clear q o u;go_wp2_with fail
   refine(eE (w.heap.size+1) s k n _ h z (by omega)).mono ?_;rintro e w3 ⟨rfl,D,p⟩;rw[N.out];have b:=y.only p (by simp);have C:=za (x.trans (p.below (B:=w.heap.size) (by omega) (by simp)));have j:=b.cell 0;have r:=b.cell 1;have l:=b.cell 2;have L:=b.frozen 0;have J:=b.frozen 1;have K:=b.frozen 2;simp at j r l;clear y x h;go_wp2_with fail
   refine(bw (w.heap.size+1) s _ _ _ D).mono ?_;rintro e w' ⟨rfl,rfl⟩;go_wp2_with fail
   refine(W.out _).mono ?_;rintro e w' ⟨rfl,rfl⟩;go_wp2;refine zk (v:= .tuple #[.agg #[.int .u64 id,.string ByteArray.empty,.string (R.extract sz n)],.int .i64 ((k:Int)+n),.int .i64 0]) (by simp[results,results78,go_sem,oM,j,r,l]) rfl ?_;exact uv A.out (by omega) (((C.out.setCell (by simp) _).setCell (by simp) _).setCell (by simp) _)
  have A:=za (by have:=m.out;rw[zh (by simp),zh E,zi g0]at this;exact this);clear m G g0;go_enter func78,ntmps78
  go_wp2_with fail
  refine(H.out _).mono ?_;rintro e w' ⟨rfl,rfl⟩;go_wp2_with fail
  refine(rS s _).mono ?_;rintro e d ⟨rfl,c⟩;have q:ji d (w.heap.size+1) s 0 0:=by rw[c];have:=af.new (w.alloc (.cells #[.int .u64 0,.string ⟨#[]⟩,.string ⟨#[]⟩] 84)) 180 #[.string s,.int .i64 0,.int .i64 0];rw[zp]at this;exact this
  have o:af d w.heap.size 84 #[.int .u64 0,.string ⟨#[]⟩,.string ⟨#[]⟩]:=by rw[c];exact(af.new w _ _).alloc _
  have u:Below w.heap.size w d:=by rw[c];exact bQ
  have Y:d.heap.size=w.heap.size+2:=by rw[c];simp
  rw[zp];clear c;go_wp2_with fail
  refine(eE (w.heap.size+1) s 0 k _ q z (by omega)).mono ?_;rintro e U ⟨rfl,h,i⟩;rw[zM]at h;have y:=o.only i (by simp);have S:=i.size;have x:=u.trans (i.below (B:=w.heap.size) (by omega) (by simp));clear q o u;go_wp2_with fail
  refine(eE (w.heap.size+1) s k n _ h z (by omega)).mono ?_;rintro e w3 ⟨rfl,D,p⟩;rw[N.out];have b:=y.only p (by simp);have C:=za (x.trans (p.below (B:=w.heap.size) (by omega) (by simp)));have j:=b.cell 0;have r:=b.cell 1;have l:=b.cell 2;have L:=b.frozen 0;have J:=b.frozen 1;have K:=b.frozen 2;simp at j r l;clear y x h;go_wp2_with fail
  refine(bw (w.heap.size+1) s _ _ _ D).mono ?_;rintro e w' ⟨rfl,rfl⟩;go_wp2_with fail
  refine(W.out _).mono ?_;rintro e w' ⟨rfl,rfl⟩;go_wp2;refine zk (v:= .tuple #[.agg #[.int .u64 0,.string ByteArray.empty,.string ByteArray.empty],.int .i64 0,.int .i64 3]) (by simp[results,results78,go_sem,oM,j,r,l]) rfl ?_;exact uv A.out rfl (((C.out.setCell (by simp) _).setCell (by simp) _).setCell (by simp) _)
 have A:=za (by have:=m.out;rw[zi F]at this;exact this);clear m I F;go_enter func78,ntmps78
 go_wp2_with fail
 refine(H.out _).mono ?_;rintro e w' ⟨rfl,rfl⟩;go_wp2;refine zk (v:= .tuple #[.agg #[.int .u64 0,.string ByteArray.empty,.string ByteArray.empty],.int .i64 0,.int .i64 M]) (by simp[results,results78,go_sem,oM]) rfl ?_;exact uv A.out rfl bQ
theorem Xm {L:List UInt8}{j i n:Nat}{X:Nat}(b:n+mt L (j+n) (i+n) (64-n)=X)(e:n<64)(d:i+n<L.length)(c:L[j+n]?=L[i+n]?):(n+1)+mt L (j+(n+1)) (i+(n+1)) (64-(n+1))=X:=by
 rw[<-b,show 64-n=(64-(n+1))+1 from by omega,mt,zi ⟨d,c⟩];rw[show j+(n+1)=j+n+1 from by omega,show i+(n+1)=i+n+1 from by omega];omega
theorem P4 {L:List UInt8}{j i n:Nat}{X:Nat}(b:n+mt L (j+n) (i+n) (64-n)=X)(k:n<=64)(h:¬n<64\/¬i+n<L.length\/L[j+n]?≠L[i+n]?):X=n:=by
 rw[<-b];by_cases d:n<64
 ·rw[show 64-n=(64-(n+1))+1 from by omega,mt,zh (by
   rintro⟨e,c⟩;rcases h with h|h|h
   ·exact h d
   ·exact h e
   exact h c)];rfl
 rw[show 64-n=0 from by omega];rfl
theorem KN {s:ByteArray}{a b:Nat}(d:a<s.size)(c:b<s.size):(s[a].toNat==s[b].toNat)=true↔s.data.toList[a]?=s.data.toList[b]?:=by
 rw[gL s a d,gL s b c];simp[zO]
theorem IQ (w:World)(a b:Nat):(w.drewN a).drewN b=w.drewN (a+b):=by simp[World.drewN,ym]
theorem Dn {k:IntKind}{a b:Nat}(h:a=b):Ending.returned (.int k b)= .returned (.int k a):=by rw[h]
theorem TY (s:ByteArray)(j i:Nat)(w:World)(z:j<i)(hi:i<=s.size)(x:s.size<=9223372036854775000):
 Calls prog 135 #[.string s,.int .i64 j,.int .i64 i] w fun e w'=>e= .returned (.int .i64 (mt s.data.toList j i 64))/\∃m,w'=w.drewN m:=by
 go_enter func135,ntmps135
 go_wp2;go_loopw [7] (fun v wr=>∃n:Nat,n<=64/\n<=64/\v= .int .i64 n/\Hid (n+mt s.data.toList (j+n) (i+n) (64-n)=mt s.data.toList j i 64)/\∃m,wr=w.drewN m) (fun v _=>64-(intOf v).toNat)
 case atStart=>exact⟨0,by omega,by omega,rfl,za (by simp),0,rfl⟩
 case round=>
  obtain⟨n,k,_,rfl,b,m,rfl⟩:=hrel;by_cases o:n<64
  ·have r:decide ((n:Int)<64)=true:=zE (by omega);have u:IntKind.i64.wrap ((i:Int)+n)=(i:Int)+n:=zZ _ (by omega);have F:IntKind.i64.wrap ((j:Int)+n)=(j:Int)+n:=zZ _ (by omega);by_cases c:i+n<s.size
   ·have p:decide ((i:Int)+n<s.size)=true:=zE (by omega);have C:((j:Int)+n).toNat=j+n:=by omega
    have A:((i:Int)+n).toNat=i+n:=by omega
    have B:0<=(j:Int)+n:=by omega
    have D:0<=(i:Int)+n:=by omega
    have y:(j:Int)+n<s.size:=by omega
    have E:(i:Int)+n<s.size:=by omega
    have l:j+n<s.size:=by omega
    rcases xa (s[j+n].toNat==s[i+n].toNat)with hb|hb
    ·have d:=za ((KN l c).1 hb);have q:((s[j+n].toNat:Int)==s[i+n].toNat)=true:=by
      have:=eq_of_beq hb;rw[this];simp
     clear hb;go_wp2;go_quiet (fail)
     go_wp2;go_roundw
     case rel=>exact⟨n+1,by omega,by omega,by go_num,za (Xm b.out o (by simpa using c) d.out),_,rfl⟩
     case measure=>simp[intOf];omega
    have d:Hid (¬(s.data.toList[j+n]?=s.data.toList[i+n]?)):=za (by
     intro h;rw[(KN l c).2 h]at hb;exact absurd hb (by decide))
    have q:((s[j+n].toNat:Int)==s[i+n].toNat)=false:=by
     have:=ne_of_beq_false hb;exact zm.2 (by omega)
    clear hb;go_wp2;go_quiet (fail)
    go_wp2;go_ret;exact⟨Dn (P4 b.out k (.inr (.inr d.out))),_,IQ _ _ _⟩
   have p:decide ((i:Int)+n<s.size)=false:=zu (by omega);go_wp2;go_quiet (fail)
   go_wp2;go_ret;exact⟨Dn (P4 b.out k (.inr (.inl (by simpa using c)))),_,IQ _ _ _⟩
  have r:decide ((n:Int)<64)=false:=zu (by omega);go_wp2;go_quiet (fail)
  go_wp2;go_ret;exact⟨Dn (P4 b.out k (.inl o)),_,IQ _ _ _⟩
def P5 (base:Nat)(w:World)(l:List UInt8)(e:Ending)(w':World):Prop:=
 ∃(A:Option Addr) (n cap:Nat),e= .returned (.slice A n cap)/\bL w' base 5 (.slice A n cap) l/\Kept 5 base w w'
theorem Xn {l:List UInt8}(h:l.length=0):im l= []:=by unfold im;rw[zi h]
theorem Xo {l:List UInt8}(h:l.length≠0)(b:l.length<=60):im l= [ub (4*(l.length-1):Nat)]++l:=by unfold im;rw[zh h,zi b];rfl
theorem Xp {l:List UInt8}(h:¬l.length<=60)(b:l.length<=256):im l= [ub (240:Nat),ub (l.length-1:Nat)]++l:=by unfold im;rw[zh (by omega),zh h,zi b];rfl
theorem Xq {l:List UInt8}(h:¬l.length<=256)(b:l.length<=65536):im l= [ub (244:Nat)]++(iq (l.length-1) 2++l):=by
 unfold im;rw[zh (by omega),zh (by omega),zh h];simp only[iq];simp;refine⟨rfl, ?_⟩;rw[Int.emod_eq_of_lt (by omega) (by omega)]
theorem KO (base:Nat)(v:Value)(l:List UInt8)(s:ByteArray)(w:World)(h:bL w base 5 v l)(y:base<=w.heap.size)(U:l.length<=1000000)(X:s.size<=65536):
 Calls prog 134 #[v,.string s] w (P5 base w (l++im s.data.toList)):=by
 obtain⟨i0,hi,d,k,i⟩:=yE rP;obtain⟨A,cap,rfl,W,mR⟩:=h.form;generalize hn:l.length=n at*;have c:=aa s;by_cases o:s.size=0
 ·have K:((s.size:Int)==0)=true:=by simp[o]
  have j:=za (Xn (l:=s.data.toList) (by omega));clear o c;go_enter func134,ntmps134
  go_wp2;go_ret;exact⟨A,n,cap,rfl,by rw[j.out,yO];exact h,Kept.refl _ _ _⟩
 have K:((s.size:Int)==0)=false:=zm.2 (by omega);have Y:1<=s.size:=by omega
 by_cases h1:s.size<=60
 ·have j:=za (Xo (l:=s.data.toList) (by omega) (by omega));have r:=za (show s.data.toList.length-1=s.size-1 by rw[c]);clear o c;go_enter func134,ntmps134
  go_wp2_with (first|(at_builtin;refine aT (by rfl) (.tmp 29) (.tmp 34) 31 31 (by rfl) base 5 i0 zr hi d k i (by rfl) (h.alloc _) _ [ub (4*(s.size-1):Nat)] (by rfl) (kr zr w 5 _ [ub (4*(s.size-1):Nat)] 1 (pc (by omega) (by omega))) (by rw[zp];omega) (by simp only[zw,zL];omega) ?_;intro C n1 H E p b)|(at_builtin;refine aT (by rfl) (.tmp 45) (.tmp 46) 31 9 (by rfl) base 5 i0 zr hi d k i (by rfl) p _ s.data.toList (by rfl) (jt zG _ s) (zF (by rw[zp];omega) b.size) (by simp only[zj,zw,zL,aa];omega) ?_;intro u n2 x G q m))
  go_ret;refine⟨u,n2,x,rfl, ?_,((Kept.refl _ _ _).alloc y _).trans (b.trans m)⟩;rw[j.out,r.out,<-zB];exact q
 by_cases Z:s.size<=256
 ·have j:=za (Xp (l:=s.data.toList) (by omega) (by omega));have r:=za (show s.data.toList.length-1=s.size-1 by rw[c]);clear o c;go_enter func134,ntmps134
  go_wp2_with (first|(at_builtin;refine aT (by rfl) (.tmp 39) (.tmp 43) 31 31 (by rfl) base 5 i0 zr hi d k i (by rfl) (h.alloc _) _ [ub (240:Nat),ub (s.size-1:Nat)] (by rfl) (kr zr w 5 _ [ub (240:Nat),ub (s.size-1:Nat)] 2 (O5 (by omega) (by omega) (by omega) (by omega))) (by rw[zp];omega) (by simp only[zw,zL];omega) ?_;intro C n1 H E p b)|(at_builtin;refine aT (by rfl) (.tmp 45) (.tmp 46) 31 9 (by rfl) base 5 i0 zr hi d k i (by rfl) p _ s.data.toList (by rfl) (jt zG _ s) (zF (by rw[zp];omega) b.size) (by simp only[zj,zw,zL,aa];omega) ?_;intro u n2 x G q m))
  go_ret;refine⟨u,n2,x,rfl, ?_,((Kept.refl _ _ _).alloc y _).trans (b.trans m)⟩;rw[j.out,r.out,<-zB];exact q
 have j:=za (Xq (l:=s.data.toList) (by omega) (by omega));have r:=za (show s.data.toList.length-1=s.size-1 by rw[c]);have I:=za (jR (s.size-1) 2 w (by omega) (by omega) (by omega));rw[show((s.size-1:Nat):Int)=(s.size:Int)-1 from by omega]at I;have B:(⟨(iq (s.size-1) 2).toArray⟩:ByteArray).data.toList=iq (s.size-1) 2:=rfl;generalize (⟨(iq (s.size-1) 2).toArray⟩:ByteArray)=T at*;have N2:T.data.toList.length=2:=by rw[B,bh]
 have O:=za B;clear o c B;go_enter func134,ntmps134
 go_wp2_with fail
 refine I.out.mono ?_;rintro e D ⟨rfl,z⟩;have hz:=z.size;have N:=h.below z;have J:Kept 5 base w D:=Kept.ah z (zd _) y;go_wp2_with (first|(at_builtin;refine aT (by rfl) (.tmp 17) (.tmp 18) 31 31 (by rfl) base 5 i0 zr hi d k i (by rfl) (N.alloc _) _ [ub (244:Nat)] (by rfl) (kr zr D 5 _ [ub (244:Nat)] 1 (pc (by omega) (by omega))) (by rw[zp];omega) (by simp only[zw,zL];omega) ?_;intro C n1 H E p b)|(at_builtin;refine aT (by rfl) (.tmp 19) (.tmp 20) 31 9 (by rfl) base 5 i0 zr hi d k i (by rfl) p _ T.data.toList (by rfl) (jt zG _ T) (zF (by rw[zp];omega) b.size) (by simp only[zj,zw,zL];omega) ?_;intro u n2 x G q m)|(at_builtin;refine aT (by rfl) (.tmp 45) (.tmp 46) 31 9 (by rfl) base 5 i0 zr hi d k i (by rfl) q _ s.data.toList (by rfl) (jt zG _ s) (zF (by rw[zp];omega) (b.trans m).size) (by simp only[zj,zw,zL,aa];rw[<-aa T];omega) ?_;intro S R L w3 F M))
 go_ret;refine⟨S,R,L,rfl, ?_,J.trans (((Kept.refl _ _ _).alloc (by omega) _).trans (b.trans (m.trans M)))⟩;rw[O.out]at F;rw[j.out,r.out,<-zB,<-zB];exact F
theorem Xr {n d:Nat}(h:n<=11)(b:d<2048):lh n d= [ub (1+4*(n-4)+32*(d/256):Nat),ub (d%256:Nat)]:=by unfold lh;rw[zi ⟨h,b⟩]
theorem Xs {n d:Nat}(h:¬(n<=11/\d<2048))(hd:d<65536):lh n d= [ub (2+4*(n-1):Nat)]++iq d 2:=by
 unfold lh;rw[zh h];simp only[iq];simp;rw[Int.emod_eq_of_lt (by omega) (by omega)]
theorem TZ (base:Nat)(v:Value)(l:List UInt8)(n d:Nat)(w:World)(h:bL w base 5 v l)(s:base<=w.heap.size)(K:l.length<=1000000)(N:4<=n)(X:n<=64)(hd:d<65536):
 Calls prog 136 #[v,.int .i64 n,.int .i64 d] w (P5 base w (l++lh n d)):=by
 obtain⟨i0,hi,i,q,o⟩:=yE rP;obtain⟨A,cap,rfl,M,S⟩:=h.form;generalize R:l.length=W at*;by_cases b:n<=11/\d<2048
 ·obtain⟨b,u⟩:=b;have p:=za (Xr b u);have L:decide ((d:Int)<2048)=true:=zE (by omega);go_enter func136,ntmps136
  go_wp2_with (at_builtin;refine aT (by rfl) (.tmp 15) (.tmp 28) 31 31 (by rfl) base 5 i0 zr hi i q o (by rfl) (h.alloc _) _ [ub (1+4*(n-4)+32*(d/256):Nat),ub (d%256:Nat)] (by rfl) (kr zr w 5 _ [ub (1+4*(n-4)+32*(d/256):Nat),ub (d%256:Nat)] 2 (O5 (by omega) (by omega) (by omega) (by omega))) (by rw[zp];omega) (by simp only[zw,zL];omega) ?_;intro r n1 z G k c)
  go_ret;exact⟨r,n1,z,rfl,by rw[p.out];exact k,((Kept.refl _ _ _).alloc s _).trans c⟩
 have p:=za (Xs b hd);have C:11<n\/(n<=11/\2048<=d):=by omega
 have J:=za (jR d 2 w (by omega) (by omega) (by omega));have m:(⟨(iq d 2).toArray⟩:ByteArray).data.toList=iq d 2:=rfl;generalize (⟨(iq d 2).toArray⟩:ByteArray)=T at*;have O:T.data.toList.length=2:=by rw[m,bh]
 have I:=za m;clear b m;rcases C with b|⟨b,u⟩;all_goals
  go_enter func136,ntmps136
  go_wp2_with fail
  refine J.out.mono ?_;rintro e x ⟨rfl,j⟩;have hz:=j.size;have H:=h.below j;have D:Kept 5 base w x:=Kept.ah j (zd _) s;go_wp2_with (first|(at_builtin;refine aT (by rfl) (.tmp 36) (.tmp 42) 31 31 (by rfl) base 5 i0 zr hi i q o (by rfl) (H.alloc _) _ [ub (2+4*(n-1):Nat)] (by rfl) (kr zr x 5 _ [ub (2+4*(n-1):Nat)] 1 (pc (by omega) (by omega))) (by rw[zp];omega) (by simp only[zw,zL];omega) ?_;intro r n1 z G k c)|(at_builtin;refine aT (by rfl) (.tmp 43) (.tmp 44) 31 9 (by rfl) base 5 i0 zr hi i q o (by rfl) k _ T.data.toList (by rfl) (jt zG _ T) (zF (by rw[zp];omega) c.size) (by simp only[zj,zw,zL];omega) ?_;intro B n2 E U y F))
  go_ret;refine⟨B,n2,E,rfl, ?_,D.trans (((Kept.refl _ _ _).alloc (by omega) _).trans (c.trans F))⟩;rw[I.out]at y;rw[p.out,<-zB];exact y
theorem T0 (s:ByteArray)(j i:Nat)(w:World)(d:j<i)(hi:i<=s.size)(h:s.size<=65536):
 Calls prog 135 #[.string s,.int .i64 j,.int .i64 i] w fun e w'=>e= .returned (.int .i64 (mt s.data.toList j i 64))/\Below w.heap.size w w':=
 (TY s j i w d hi (by omega)).mono fun e w' ⟨c,m,b⟩=>⟨c,by rw[b];exact(zl _ _).bG m⟩
def Cn (s:ByteArray)(w:World)(i p f:Nat)(out JQ:ByteArray)(wr:World):Prop:=
 p<=i/\i<=s.size/\JQ.data.toList=(s.data.toList.take i).drop p/\out.data.toList++pk s.data.toList f p i=pack s.data.toList/\s.size-i<f/\Below w.heap.size w wr
theorem Cn.none {s:ByteArray}{w:World}{i p f:Nat}{out c:ByteArray}{wr:World}(h:Cn s w i p f out c wr)(hi:i<s.size)(e:Ia s.data.toList i i=none)(x:ByteArray)(hx:x.data.toList= [s[i]])(d:World)(k:Below w.heap.size w d):Cn s w (i+1) p (f-1) out (c++x) d:=by
 obtain⟨l,j,m,b,o,n⟩:=h;obtain⟨g,rfl⟩:∃g,f=g+1:=⟨f-1,by omega⟩
 unfold pk at b;rw[zi (by simpa using hi),e]at b;refine⟨by omega,by omega, ?_,b,by omega,k⟩;rw[aP,m,hx,jC s i hi,yI (by rw[length_take s i j];exact l)]
theorem Cn.some {s:ByteArray}{w:World}{i p f j:Nat}{out k a b:ByteArray}{wr:World}(h:Cn s w i p f out k wr)(hi:i<s.size)(d:Ia s.data.toList i i=some j)(u:a.data.toList=im k.data.toList)(n:b.data.toList=lh (mt s.data.toList j i 64) (i-j))(m:World)(r:Below w.heap.size w m)(e:ByteArray)(o:e.data.toList= []):
 Cn s w (i+mt s.data.toList j i 64) (i+mt s.data.toList j i 64) (f-1) (out++a++b) e m:=by
 obtain⟨B,q,x,c,A,z⟩:=h;obtain⟨g,rfl⟩:∃g,f=g+1:=⟨f-1,by omega⟩
 unfold pk at c;rw[zi (by simpa using hi),d]at c;simp only at c;have l:=(BX s.data.toList 64 j i).2 (by simpa using q);have y:=(qk _ _ _ _ d).2;rw[aa]at l;refine⟨zd _,l, ?_, ?_,by simp;omega,r⟩
 ·rw[o,zI];rw[zU];omega
 rw[<-c,aP,aP,u,n,x];simp
open Go.RowKit Go.Maps
theorem laidOut :laidOutB prog=true:=by kernel_rfl
theorem rT :Keyed prog 184:=Keyed.of_law (deep_law_gate laidOut (ye (by kernel_rfl)) (ye (by kernel_rfl)) (by kernel_rfl) (by kernel_rfl))
theorem KP (w:World):(zeroValue 3).run prog w= .ok (.int .i64 0) w:=by kernel_rfl
theorem agI (a b c d:UInt8):∃l,keyOf prog 184 (.agg #[.int .u8 a.toNat,.int .u8 b.toNat,.int .u8 c.toNat,.int .u8 d.toNat])=some l:=by
 have j:∀x:UInt8,(Lit.int .u8 (x.toNat:Int)).wf=true:=by
  intro x;have:=x.toNat_lt;simp[Lit.wf,IntKind.min,IntKind.max,IntKind.signed,IntKind.bits];omega
 have n:(prog.keyType 184)=true:=by kernel_rfl
 have e:prog.cellsOf 184=4:=by kernel_rfl
 have o:prog.cellsOf 5=1:=by kernel_rfl
 obtain⟨m,k⟩:∃m,prog.types.size+1=m+2:=⟨prog.types.size-1,by have:1<=prog.types.size:=ye (by kernel_rfl);omega⟩
 refine⟨.string (keyBytes [.int .u8 a.toNat,.int .u8 b.toNat,.int .u8 c.toNat,.int .u8 d.toNat]), ?_⟩;have p:List.range 4= [0,1,2,3]:=rfl;have i:Value.formed prog 184 (.agg #[.int .u8 a.toNat,.int .u8 b.toNat,.int .u8 c.toNat,.int .u8 d.toNat])=true:=by
  simp[Value.formed,ZT,e]
 have h:prog.keyLits (m+2) 184 [.int .u8 a.toNat,.int .u8 b.toNat,.int .u8 c.toNat,.int .u8 d.toNat]=some [.int .u8 a.toNat,.int .u8 b.toNat,.int .u8 c.toNat,.int .u8 d.toNat]:=by
  simp[Program.keyLits,ZT,yb,e,o,p,j]
 simp only[keyOf,ZT,n,i,k];have:(Value.agg #[.int .u8 a.toNat,.int .u8 b.toNat,.int .u8 c.toNat,.int .u8 d.toNat]).cells.toList= [.int .u8 a.toNat,.int .u8 b.toNat,.int .u8 c.toNat,.int .u8 d.toNat]:=rfl;rw[this,h];rfl
def gv (L:List UInt8)(i:Nat):Value:= .agg #[.int .u8 (L.getD i 0).toNat,.int .u8 (L.getD (i+1) 0).toNat,.int .u8 (L.getD (i+2) 0).toNat,.int .u8 (L.getD (i+3) 0).toNat]
theorem P6 (L:List UInt8)(i:Nat):∃l,keyOf prog 184 (gv L i)=some l:=agI _ _ _ _
noncomputable def gl (L:List UInt8)(i:Nat):Lit:=(P6 L i).choose
theorem rU (L:List UInt8)(i:Nat):keyOf prog 184 (gv L i)=some (gl L i):=(P6 L i).choose_spec
theorem kC (L:List UInt8)(a b:Nat)(d:a<L.length)(c:b<L.length):(L.getD a 0).toNat=(L.getD b 0).toNat↔L[a]?=L[b]?:=by
 rw[zv,zv,zA d,zA c];simp[zO]
theorem Vu (L:List UInt8)(a b:Nat)(j:a+4<=L.length)(i:b+4<=L.length):gl L a=gl L b↔fH L a b:=by
 constructor
 ·intro h;have d:=rU L a;rw[h]at d;have c:=rT.inj d (rU L b);unfold gv at c;injection c with c;simp only[Array.mk.injEq,List.cons.injEq,Value.int.injEq,true_and,and_true,Int.natCast_inj]at c;exact⟨(kC L _ _ (by omega) (by omega)).1 c.1,(kC L _ _ (by omega) (by omega)).1 c.2.1,(kC L _ _ (by omega) (by omega)).1 c.2.2.1,(kC L _ _ (by omega) (by omega)).1 c.2.2.2⟩
 intro h;have e:gv L a=gv L b:=by
  unfold gv;rw[(kC L _ _ (by omega) (by omega)).2 h.1,(kC L _ _ (by omega) (by omega)).2 h.2.1,(kC L _ _ (by omega) (by omega)).2 h.2.2.1,(kC L _ _ (by omega) (by omega)).2 h.2.2.2]
 have d:=rU L a;rw[e,rU L b]at d;exact(yh d).symm
def MI (L:List UInt8)(D:DataW Unit)(n:Nat):Prop:=IsMap D/\∀a,a+4<=L.length->
 (∀j,jQ L a n=some j->Maps.has D (gl L a)=true/\D.atKey (gl L a) (.lit (.int .i64 0))= .lit (.int .i64 j))/\(jQ L a n=none->Maps.has D (gl L a)=false)
theorem MI.start (L:List UInt8):MI L (.map []) 0:=⟨⟨[],rfl⟩,fun a _=>⟨fun j h=>by simp[jQ]at h,fun _=>rfl⟩⟩
theorem MI.skip {L:List UInt8}{D:DataW Unit}{n:Nat}(h:MI L D n)(b:¬n+4<=L.length):MI L D (n+1):=by
 refine⟨h.1,fun a d=> ?_⟩;rw[s0 L a n (fun c=>b c.1)];exact h.2 a d
theorem MI.put {L:List UInt8}{D:DataW Unit}{n:Nat}(h:MI L D n)(d:n+4<=L.length):MI L (D.put (gl L n) (.lit (.int .i64 n))) (n+1):=by
 have m:WideAt.IsKeyLit (gl L n):=rT.key (rU L n);refine⟨h.1.put _ _,fun a c=> ?_⟩;by_cases b:fH L n a
 ·have e:gl L a=gl L n:=((Vu L n a d c).2 b).symm;rw[II L a n d b,e];refine⟨fun j k=> ?_,fun i=>by cases i⟩;injection k with k;subst k;exact⟨has_put_same h.1 m _,atKey_put_same h.1 m _ _⟩
 rw[s0 L a n (fun i=>b i.2)];have l:gl L a≠gl L n:=fun e=>b ((Vu L n a d c).1 e.symm)
 rw[has_put_other l,atKey_put_other l];exact h.2 a c
abbrev tI (w:World)(g:Nat)(a u t p:Nat):Prop:=af w g 131 #[.int .i64 a,.int .i64 u,.int .i64 t,.int .i64 p]
theorem IS (n:Int)(w:World):
 Calls prog 40 #[.int .i64 n] w fun e w'=>e= .returned (.pointer (some ⟨w.heap.size,0,none⟩))/\w'=w.alloc (.cells #[.int .i64 (n.toNat:Nat),.int .i64 0,.int .i64 0,.int .i64 0] 131):=by
 by_cases h:n<0
 ·have b:((n.toNat:Nat):Int)=0:=by omega
  rw[b];clear b;go_enter func40,ntmps40
  go_wp2;go_ret;exact⟨rfl,rfl⟩
 have b:((n.toNat:Nat):Int)=n:=by omega
 rw[b];clear b;go_enter func40,ntmps40
 go_wp2;go_ret;exact⟨rfl,rfl⟩
theorem T1 (g a u t p:Nat)(w:World)(h:tI w g a u t p):
 Calls prog 43 #[.pointer (some ⟨g,0,none⟩)] w fun e w'=>e= .returned (.int .i64 t)/\w=w':=by
 have b:=h.cell 2;simp at b;clear h;go_enter func43,ntmps43
 go_wp2;go_ret;exact⟨rfl,rfl⟩
theorem FO (a b:Nat)(d:a<=9223372036854775807)(c:b<=9223372036854775807):IntKind.i64.wrap ((a:Int)-b)=(a:Int)-b:=zZ _ (by omega)
theorem vT (g b c a u t n:Nat)(w:World)(l:w.cell? ⟨g,0,none⟩=some (.int .i64 a))(m:w.cell? ⟨g,1,none⟩=some (.int .i64 u))(o:w.cell? ⟨g,2,none⟩=some (.int .i64 t))(s:w.cell? ⟨b,0,none⟩=some (.int .i64 n))(r:w.cell? ⟨c,0,none⟩=some (.pointer (some ⟨g,0,none⟩)))
 (p:a<=9223372036854775807) (hu:u<=a) (d:(n:Int)<=a-u) (i:t+n<=9223372036854775807):
 Calls prog 60 #[.pointer (some ⟨b,0,none⟩),.pointer (some ⟨c,0,none⟩)] w fun e w'=>e= .returned (.int .i64 0)/\∃k,w.drewN k=w':=by
 have hd:decide ((a:Int)-u<n)=false:=by simpa using d
 have q:=FO a u (by omega) (by omega);have j:IntKind.i64.wrap (9223372036854775807-(t:Int))=9223372036854775807-(t:Int):=zZ _ (by omega);have h:decide (9223372036854775807-(t:Int)<n)=false:=by simp;omega
 go_enter func60,ntmps60
 go_wp2;go_quiet (fail)
 go_wp2;go_ret;exact⟨rfl,_,rfl⟩
theorem Dp (g b c u t n:Nat)(w:World)(j:w.cell? ⟨g,1,none⟩=some (.int .i64 u))(k:w.cell? ⟨g,2,none⟩=some (.int .i64 t))(f1:w.frozen? ⟨g,1,none⟩=false)(f2:w.frozen? ⟨g,2,none⟩=false)(o:w.cell? ⟨b,0,none⟩=some (.int .i64 n))(l:w.cell? ⟨c,0,none⟩=some (.pointer (some ⟨g,0,none⟩)))
 (n1:g≠b) (n2:g≠c) (hu:u+n<=9223372036854775807) (i:t+n<=9223372036854775807):
 Calls prog 61 #[.pointer (some ⟨c,0,none⟩),.pointer (some ⟨b,0,none⟩)] w fun e w'=>e= .returned (.tuple #[])/\∃m,((w.setCell ⟨g,1,none⟩ (.int .i64 (u+n:Nat))).setCell ⟨g,2,none⟩ (.int .i64 (t+n:Nat))).drewN m=w':=by
 have d:((u+n:Nat):Int)=(u:Int)+n:=by omega
 have h:((t+n:Nat):Int)=(t:Int)+n:=by omega
 rw[d,h];clear d h;go_enter func61,ntmps61
 go_wp2;go_region
 all_goals go_wp2
 go_region
 all_goals go_wp2
 go_end0
 exact⟨rfl,2,rfl⟩
theorem T2 (g j i a u t p n q x:Nat)(w:World)(c:Hid (u+n=q))(l:Hid (t+n=x))(h:tI w g a u t p)(s:w.cell? ⟨j,0,none⟩=some (.int .i64 n))(y:w.cell? ⟨i,0,none⟩=some (.pointer (some ⟨g,0,none⟩)))(n1:g≠j)(n2:g≠i)(E:a<=9223372036854775807)(L:q<=a)(K:x<=9223372036854775807):
 Calls prog 59 #[.pointer (some ⟨g,0,none⟩),.int .i64 n,.func (.func 60) #[] #[.pointer (some ⟨j,0,none⟩),.pointer (some ⟨i,0,none⟩)],.func (.func 61) #[] #[.pointer (some ⟨i,0,none⟩),.pointer (some ⟨j,0,none⟩)]] w
  fun e w'=>e= .returned (.int .i64 0)/\tI w' g a q x (max p q)/\ae [g] w w':=by
 have D:=h.cell 0;have r:=h.cell 1;have o:=h.cell 2;have F:=h.frozen 1;have G:=h.frozen 2;simp at D r o;have H:=za h;clear h;rcases Nat.lt_trichotomy p q with hp|hp|hp
 ·rw[Nat.max_eq_right (by omega)];go_enter func59,ntmps59
  go_wp2_with fail
  refine(vT g j i a u t n w D r o s y E (by have:=c.out;omega) (by have:=c.out;omega) (by have:=l.out;omega)).mono ?_;rintro e I ⟨rfl,k,rfl⟩;go_wp2_with fail
  refine(Dp g j i u t n (w.drewN k) r o F G s y n1 n2 (by have:=c.out;omega) (by have:=l.out;omega)).mono ?_;rintro e w3 ⟨rfl,m,d⟩;have b:tI w3 g a q x p:=by
   rw[<-d,c.out,l.out];have h:=H.out;unfold tI at h⊢
   (repeat(first|with_reducible assumption|with_reducible apply af.drewN|with_reducible apply af.drew|with_reducible apply af.alloc|((with_reducible apply af.beside); · (first|omega|(simp<;>omega)))|with_reducible apply af.store));all_goals(first|rfl|simp)
  have B:ae [g] w w3:=by rw[<-d];exact C2
  clear d;have C:=b.cell 1;have A:=b.cell 3;have J:=b.frozen 3;simp at C A;have z:=za b;clear b;go_wp2;go_region
  all_goals
   go_wp2;go_ret;refine⟨rfl, ?_,B.up⟩;have h:=z.out;unfold tI at h⊢
   (repeat(first|with_reducible assumption|with_reducible apply af.drewN|with_reducible apply af.drew|with_reducible apply af.alloc|((with_reducible apply af.beside); · (first|omega|(simp<;>omega)))|with_reducible apply af.store));all_goals(first|rfl|simp)
 ·obtain rfl:q=p:=hp.symm;rw[Nat.max_self];clear hp;go_enter func59,ntmps59
  go_wp2_with fail
  refine(vT g j i a u t n w D r o s y E (by have:=c.out;omega) (by have:=c.out;omega) (by have:=l.out;omega)).mono ?_;rintro e I ⟨rfl,k,rfl⟩;go_wp2_with fail
  refine(Dp g j i u t n (w.drewN k) r o F G s y n1 n2 (by have:=c.out;omega) (by have:=l.out;omega)).mono ?_;rintro e w3 ⟨rfl,m,d⟩;have b:tI w3 g a q x q:=by
   rw[<-d,c.out,l.out];have h:=H.out;unfold tI at h⊢
   (repeat(first|with_reducible assumption|with_reducible apply af.drewN|with_reducible apply af.drew|with_reducible apply af.alloc|((with_reducible apply af.beside); · (first|omega|(simp<;>omega)))|with_reducible apply af.store));all_goals(first|rfl|simp)
  have B:ae [g] w w3:=by rw[<-d];exact C2
  clear d;have C:=b.cell 1;have A:=b.cell 3;have J:=b.frozen 3;simp at C A;have z:=za b;clear b;go_wp2;go_region
  all_goals
   go_wp2;go_ret;refine⟨rfl, ?_,B.up⟩;have h:=z.out;unfold tI at h⊢
   (repeat(first|with_reducible assumption|with_reducible apply af.drewN|with_reducible apply af.drew|with_reducible apply af.alloc|((with_reducible apply af.beside); · (first|omega|(simp<;>omega)))|with_reducible apply af.store));all_goals(first|rfl|simp)
 rw[Nat.max_eq_left (by omega)];go_enter func59,ntmps59
 go_wp2_with fail
 refine(vT g j i a u t n w D r o s y E (by have:=c.out;omega) (by have:=c.out;omega) (by have:=l.out;omega)).mono ?_;rintro e I ⟨rfl,k,rfl⟩;go_wp2_with fail
 refine(Dp g j i u t n (w.drewN k) r o F G s y n1 n2 (by have:=c.out;omega) (by have:=l.out;omega)).mono ?_;rintro e w3 ⟨rfl,m,d⟩;have b:tI w3 g a q x p:=by
  rw[<-d,c.out,l.out];have h:=H.out;unfold tI at h⊢
  (repeat(first|with_reducible assumption|with_reducible apply af.drewN|with_reducible apply af.drew|with_reducible apply af.alloc|((with_reducible apply af.beside); · (first|omega|(simp<;>omega)))|with_reducible apply af.store));all_goals(first|rfl|simp)
 have B:ae [g] w w3:=by rw[<-d];exact C2
 clear d;have C:=b.cell 1;have A:=b.cell 3;have J:=b.frozen 3;simp at C A;have z:=za b;clear b;go_wp2;go_region
 all_goals
  go_wp2;go_ret;refine⟨rfl, ?_,B.up⟩;have h:=z.out;unfold tI at h⊢
  (repeat(first|with_reducible assumption|with_reducible apply af.drewN|with_reducible apply af.drew|with_reducible apply af.alloc|((with_reducible apply af.beside); · (first|omega|(simp<;>omega)))|with_reducible apply af.store));all_goals(first|rfl|simp)
theorem qE (g a u t p n:Nat)(w:World)(h:tI w g a u t p)(m:a<=9223372036854775807)(l:u+n<=a)(i:t+n<=9223372036854775807):
 Calls prog 41 #[.pointer (some ⟨g,0,none⟩),.int .i64 n] w fun e w'=>e= .returned (.int .i64 0)/\tI w' g a (u+n) (t+n) (max p (u+n))/\ae [g] w w':=by
 have r:=h.lt;have d:=(h.alloc (.cells #[.pointer (some ⟨g,0,none⟩)] 96)).alloc (.cells #[.int .i64 n] 3);have c:((w.alloc (.cells #[.pointer (some ⟨g,0,none⟩)] 96)).alloc (.cells #[.int .i64 n] 3)).cell? ⟨w.heap.size+1,0,none⟩=some (.int .i64 n):=by
  simp
 have b:((w.alloc (.cells #[.pointer (some ⟨g,0,none⟩)] 96)).alloc (.cells #[.int .i64 n] 3)).cell? ⟨w.heap.size,0,none⟩=some (.pointer (some ⟨g,0,none⟩)):=by
  simp
 have k:=za (T2 g (w.heap.size+1) w.heap.size a u t p n _ _ _ (za rfl) (za rfl) d c b (by omega) (by omega) m l i);clear d c b h;go_enter func41,ntmps41
 go_wp2_with fail
 refine k.out.mono ?_;rintro e q ⟨rfl,j,o⟩;go_wp2;go_ret;exact⟨rfl,j,(((ae.refl [g] w).alloc _).alloc _).trans o⟩
def jF (w:World)(g:Nat)(s:ByteArray)(p L:Nat):Prop:=af w g 205 #[.string s,.int .i64 p,.int .i64 L]
theorem jF.cells {w:World}{g:Nat}{s:ByteArray}{p L:Nat}(h:jF w g s p L):w.cell? ⟨g,0,none⟩=some (.string s)/\w.cell? ⟨g,1,none⟩=some (.int .i64 p)/\w.cell? ⟨g,2,none⟩=some (.int .i64 L)/\w.frozen? ⟨g,0,none⟩=false/\w.frozen? ⟨g,1,none⟩=false/\w.frozen? ⟨g,2,none⟩=false/\g<w.heap.size:=by
 obtain⟨a,b,c,d,e,f⟩:=bg h;exact⟨a,b,c,d,e,f,af.lt h⟩
theorem jF.to {w:World}{g:Nat}{s:ByteArray}{p L:Nat}{n:Int}{q:Nat}(h:jF w g s p L)(b:n=q):jF (w.setCell ⟨g,1,none⟩ (.int .i64 n)) g s q L:=by
 subst b;exact af.store h rfl
theorem jF.less {w:World}{g:Nat}{s:ByteArray}{p L:Nat}{n:Int}{q:Nat}(h:jF w g s p L)(b:n=q):jF (w.setCell ⟨g,2,none⟩ (.int .i64 n)) g s p q:=by
 subst b;exact af.store h rfl
theorem fg (g:Nat)(s:ByteArray)(p L:Nat)(b:Nat)(w:World)(h:jF w g s p L)(k:p<s.size)(j:s.size<=100000)(c:s[p].toNat=b):
 Calls prog 187 #[.pointer (some ⟨g,0,none⟩),.int .u8 b] w fun e w'=>e= .returned (.bool true)/\jF w' g s (p+1) L/\ae [g] w w':=by
 obtain⟨g0,g1,g2,f0,f1,f2,i⟩:=h.cells;have d:=za h;subst c;clear h;have i1:((p:Int)==(s.size:Int))=false:=zm.2 (by omega);go_enter func187,ntmps187
 go_wp2_with fail
 go_quiet (fail)
 go_wp2;go_ret;exact⟨rfl,(show jF (w.drewN _) g s p L from d.out).to (by go_num),C2⟩
theorem gD (g:Nat)(s:ByteArray)(p L:Nat)(b:Nat)(w:World)(h:jF w g s p L)(k:p<=s.size)(j:s.size<=100000)(c:∀d:p<s.size,s[p].toNat≠b):
 Calls prog 187 #[.pointer (some ⟨g,0,none⟩),.int .u8 b] w fun e w'=>e= .returned (.bool false)/\∃n,w'=w.drewN n:=by
 obtain⟨g0,g1,g2,f0,f1,f2,i⟩:=h.cells;clear h;by_cases d:p<s.size
 ·have i1:((p:Int)==(s.size:Int))=false:=zm.2 (by omega);have i2:((s[p].toNat:Int) !=(b:Int))=true:=yL.2 (by have:=c d;omega);clear c;go_enter func187,ntmps187
  go_wp2_with fail
  go_quiet (fail)
  go_wp2;go_ret;exact⟨rfl,_,rfl⟩
 have i1:((p:Int)==(s.size:Int))=true:=yN.2 (by omega);clear c;go_enter func187,ntmps187
 go_wp2_with fail
 go_quiet (fail)
 go_wp2;go_ret;exact⟨rfl,_,rfl⟩
def P7 :Option Value->Nat
 |some (.int _ z)=>z.toNat
 |_=>0
theorem IT (g:Nat)(s:ByteArray)(p L most:Nat)(w:World)(h:jF w g s p L)(K:p<=s.size)(hs:s.size<=100000)(hm:most<=65536):
 Calls prog 186 #[.pointer (some ⟨g,0,none⟩),.int .i64 most] w fun e w'=>∃(n:Nat) (ok:Bool) (q:Nat),e= .returned (.tuple #[.int .i64 n,.bool ok])/\jF w' g s q L/\ae [g] w w'/\oR most s p n ok q:=by
 obtain⟨g0,g1,g2,f0,f1,f2,X⟩:=h.cells;have W:=za h;clear h;go_enter func186,ntmps186
 go_wp2_with fail
 go_loopw [7] (fun S wr=>∃k m:Nat,p<=k/\k<=s.size/\S= .int .i64 m/\m<=most/\Hid (lf s p k m)/\Hid (jF wr g s k L)/\ae [g] w wr) (fun _ wr=>s.size-P7 (wr.cell? ⟨g,1,none⟩))
 case atStart=>exact⟨p,0,by omega,K,rfl,by omega,za (lf.start s p),W,C2⟩
 case round=>
  obtain⟨k,m,ab,hk,rfl,Ro,u,i,l⟩:=hrel;obtain⟨c0,U,c2,af,Z,ad,qY⟩:=i.out.cells;clear g0 g1 g2 f0 f1 f2;have D:(∃_:k<s.size,48<=s[k].toNat/\s[k].toNat<=57)\/(∀h:k<s.size,jn s[k]=false)/\((∃_:k<s.size,48<=s[k].toNat/\¬s[k].toNat<=57)\/(∃_:k<s.size,¬48<=s[k].toNat)\/¬k<s.size):=by
   by_cases b:k<s.size
   ·by_cases c:48<=s[k].toNat
    ·by_cases j:s[k].toNat<=57
     ·exact .inl ⟨b,c,j⟩
     exact .inr ⟨fun _=>by rw[Zv];intro hd;exact j ((la _).1 hd).2,.inl ⟨b,c,j⟩⟩
    exact .inr ⟨fun _=>by rw[Zv];intro hd;exact c ((la _).1 hd).1,.inr (.inl ⟨b,c⟩)⟩
   exact .inr ⟨fun h=>absurd h b,.inr (.inr b)⟩
  rcases D with⟨b,c,j⟩|⟨G,D⟩
  ·have i1:decide ((k:Int)<(s.size:Int))=true:=zE (by omega);have i2:decide ((48:Int)<=(s[k].toNat:Int))=true:=zE (by omega);have O:decide ((s[k].toNat:Int)<=(57:Int))=true:=zE (by omega);obtain⟨d,hd⟩:∃d:Nat,s[k].toNat-48=d:=⟨_,rfl⟩
   have Y:IntKind.u8.wrap ((s[k].toNat:Int)-48)=d:=by rw[show(s[k].toNat:Int)-48=d from by omega];exact IntWalk.u8_in _ (by omega)
   have e2:IntKind.i64.wrap (10*(m:Int))=10*m:=zZ _ (by omega);have e3:IntKind.i64.wrap (d:Int)=d:=zZ _ (by omega);have e4:IntKind.i64.wrap (10*(m:Int)+d)=10*(m:Int)+d:=zZ _ (by omega);have H:Hid (lf s p (k+1) (10*m+d)):=za (by
    have:=u.out.next b ((la _).2 ⟨c,j⟩);rwa [fu,zi (by omega),hd]at this)
   have x:Hid (∀V,jF V g s k L->jF (V.setCell ⟨g,1,none⟩ (.int .i64 ((k:Int)+1))) g s (k+1) L):=za (fun V C=>C.to (by omega));by_cases VX:(most:Int)<10*(m:Int)+d
   ·have R:Hid (∀o r,cw (s.data.toList.drop p)=some (o,r)->most<o):=za (fun o r E=>by have:=Mu H.out o r E;omega);go_wp2_with fail
    go_quiet (fail)
    go_wp2_with fail
    go_quiet (fail)
    go_wp2;go_ret2
    exact⟨0,false,k+1,rfl,x.out _ (by exact i.out),l.up,E4 R.out (by omega) (by omega)⟩
   go_wp2_with fail
   go_quiet (fail)
   go_wp2_with fail
   go_quiet (fail)
   go_wp2;go_roundw
   case rel=>exact⟨k+1,10*m+d,by omega,by omega,by go_num,by omega,H,za (x.out _ (by exact i.out)),l.up⟩
   case measure=>
    have E:=fun V (C:jF V g s k L)=>(x.out V C).cells.2.1
    rw[U,E]
    ·simp only[P7];omega
    exact i.out
  have y:=za G;clear G;rcases D with⟨b,c,j⟩|⟨b,c⟩|b;all_goals
   first
    |(have i1:decide ((k:Int)<(s.size:Int))=true:=zE (by omega);have i2:decide ((48:Int)<=(s[k].toNat:Int))=true:=zE (by omega);have O:decide ((s[k].toNat:Int)<=(57:Int))=false:=zu (by omega))
    |(have i1:decide ((k:Int)<(s.size:Int))=true:=zE (by omega);have i2:decide ((48:Int)<=(s[k].toNat:Int))=false:=zu (by omega))
    |have i1:decide ((k:Int)<(s.size:Int))=false:=zu (by omega)
   have ek:IntKind.i64.wrap ((k:Int)-p)=(k:Int)-p:=zZ _ (by omega);by_cases z:k=p
   ·have I:(((k:Int)-p)==1)=false:=zm.2 (by omega);have N:decide ((1:Int)<(k:Int)-p)=false:=zu (by omega);have A:=za (od (s:=s) (at_:=p) (fun h=>by have:=y.out (by omega);simpa[z]using this));clear z;go_wp2_with fail
    go_quiet (fail)
    go_wp2_with fail
    go_quiet (fail)
    go_wp2;go_ret2
    exact⟨m,false,k,rfl,i.out,l.up,vt A.out (by omega) (by omega)⟩
   have F:Hid (p<k):=za (by omega);by_cases M:k=p+1
   ·have I:(((k:Int)-p)==1)=true:=yN.2 (by omega);have B:=za (kq u.out (by omega) y.out (fun h=>absurd h (by omega)));clear M z;go_wp2_with fail
    go_quiet (fail)
    go_wp2_with fail
    go_quiet (fail)
    go_wp2;go_ret2
    exact⟨m,true,k,rfl,i.out,l.up,B4 B.out (by omega) F.out (by omega)⟩
   have I:(((k:Int)-p)==1)=false:=zm.2 (by omega);have N:decide ((1:Int)<(k:Int)-p)=true:=zE (by omega);have aa:p<s.size:=by omega
   by_cases hz:s[p].toNat=48
   ·have J:((s[p].toNat:Int) !=48)=false:=by simp[hz]
    have A:=za (oe u.out (by omega) (fun _=>hz));clear hz;go_wp2_with fail
    go_quiet (fail)
    go_wp2_with fail
    go_quiet (fail)
    go_wp2;go_ret2
    exact⟨m,false,k,rfl,i.out,l.up,vt A.out (by omega) (by omega)⟩
   have J:((s[p].toNat:Int) !=48)=true:=yL.2 (by omega);have B:=za (kq u.out (by omega) y.out (fun _ _=>hz));clear hz;go_wp2_with fail
   go_quiet (fail)
   go_wp2_with fail
   go_quiet (fail)
   go_wp2;go_ret2
   exact⟨m,true,k,rfl,i.out,l.up,B4 B.out (by omega) F.out (by omega)⟩
theorem P8 (g a b c:Nat)(s:ByteArray)(k:Nat)(v:Value)(w:World)(h:ji w g s k 0)(m:af w a 3 #[.int .i64 9])(l:af w b 164 #[.pointer (some ⟨g,0,none⟩)])(i:af w c 9 #[v])(q:k<=s.size)(o:s.size<=9223372036854775807):
 Calls prog 239 #[.pointer (some ⟨a,0,none⟩),.pointer (some ⟨b,0,none⟩),.pointer (some ⟨c,0,none⟩)] w fun e w'=>e= .returned (.int .i64 0)/\af w' c 9 #[.string (s.extract k (k+min 9 (s.size-k)))]/\ae [c] w w':=by
 have u:w.cell? ⟨g,0,none⟩=some (.string s):=h.cell 0;have y:w.cell? ⟨g,1,none⟩=some (.int .i64 k):=h.cell 1;have r:w.cell? ⟨a,0,none⟩=some (.int .i64 9):=m.cell 0;have k1:w.cell? ⟨b,0,none⟩=some (.pointer (some ⟨g,0,none⟩)):=l.cell 0;have k2:=i.frozen 0;have x:w.cell? ⟨c,0,none⟩=some v:=i.cell 0;have n:=za i;clear h m l i;by_cases p:s.size<k+9
 ·have d:¬(9:Int)<=(s.size:Int)-k:=by omega
  have j:Hid (s.extract k (k+min 9 (s.size-k))=s.extract k s.size):=za (by congr 1;omega);generalize s.extract k (k+min 9 (s.size-k))=X at*;go_enter func239,ntmps239
  go_wp2;refine cE 26 (by kernel_rfl) (by kernel_rfl) ?_;simp only[zP,yz,yg,zK];repeat(go_big_quiet_step (fail))
  refine xL ?_;intro nq;go_wp2;go_ret;refine⟨rfl, ?_,C2⟩;have h:=n.out;rw[j.out]
  (repeat(first|with_reducible assumption|with_reducible apply af.drewN|with_reducible apply af.drew|with_reducible apply af.alloc|((with_reducible apply af.beside); · (first|omega|(simp<;>omega)))|with_reducible apply af.store));all_goals(first|rfl|simp)
 have d:(9:Int)<=(s.size:Int)-k:=by omega
 have j:Hid (s.extract k (k+min 9 (s.size-k))=s.extract k ((k:Int)+9).toNat):=za (by congr 1;omega);generalize s.extract k (k+min 9 (s.size-k))=X at*;go_enter func239,ntmps239
 go_wp2;refine cE 26 (by kernel_rfl) (by kernel_rfl) ?_;simp only[zP,yz,yg,zK];repeat(go_big_quiet_step (fail))
 refine xL ?_;intro nq;go_wp2;go_ret;refine⟨rfl, ?_,C2⟩;have h:=n.out;rw[j.out]
 (repeat(first|with_reducible assumption|with_reducible apply af.drewN|with_reducible apply af.drew|with_reducible apply af.alloc|((with_reducible apply af.beside); · (first|omega|(simp<;>omega)))|with_reducible apply af.store));all_goals(first|rfl|simp)
theorem T3 (g:Nat)(s:ByteArray)(k:Nat)(w:World)(h:ji w g s k 0)(l:k<=s.size)(i:s.size<=9223372036854775807):
 Calls prog 217 #[.pointer (some ⟨g,0,none⟩),.int .i64 9] w fun e w'=>e= .returned (.string (s.extract k (k+min 9 (s.size-k))))/\ji w' g s k 0/\ae [g] w w':=by
 have d:=h.cell 2;have x:=h.frozen 2;have n:=h.lt;simp at d;have H:=za h;have r:=sP n d;have m:=za (P8 g (w.heap.size+1) w.heap.size (w.heap.size+1+1) s k (.string ⟨#[]⟩) (((w.alloc (.cells #[.pointer (some ⟨g,0,none⟩)] 164)).alloc (.cells #[.int .i64 9] 3)).alloc (.cells #[.string ⟨#[]⟩] 9)) (((h.alloc _).alloc _).alloc _) ((af.at_ (by simp)).alloc _) (((af.new _ _ _).alloc _).alloc _) (af.at_ (by simp)) l i);generalize s.extract k (k+min 9 (s.size-k))=X at*;clear h;go_enter func217,ntmps217
 go_wp2_with fail
 go_enter func132,ntmps132
 go_wp2_with fail
 refine m.out.mono ?_;rintro e w' ⟨rfl,hx,b⟩;have u:w'.cell? ⟨w.heap.size+1+1,0,none⟩=some (.string X):=hx.cell 0;have c:ji w' g s k 0:=(((H.out.alloc _).alloc _).alloc _).only b (by simp;omega);have q:=c.frozen 2;have p:w'.cell? ⟨g,2,none⟩=some (.int .i64 0):=c.cell 2;have j:=za c;have o:=za ((((ae.refl [g] w).alloc _).alloc _).alloc _|>.trans' b (by simp;omega));clear c hx b;go_wp2;go_end0
 go_wp2;go_ret;refine⟨rfl, ?_, ?_⟩
 ·have h:=j.out;unfold ji at h⊢
  (repeat(first|with_reducible assumption|with_reducible apply af.drewN|with_reducible apply af.drew|with_reducible apply af.alloc|((with_reducible apply af.beside); · (first|omega|(simp<;>omega)))|with_reducible apply af.store));all_goals(first|rfl|simp)
 have b:=o.out;exact b.up
def oW (N:Nat×Nat×Int)(most:Nat):Int:=if N.2.2≠0 then N.2.2 else if most<N.1 then 5 else 0
def qF (N:Nat×Nat×Int)(most:Nat):Nat:=if oW N most=0 then N.1 else 0
def s9 (N:Nat×Nat×Int)(most k:Nat):Nat:=if oW N most=0 then k+N.2.1 else k
theorem ow (N:Nat×Nat×Int)(most k:Nat):(N.2.2≠0/\oW N most=N.2.2/\qF N most=0/\s9 N most k=k)\/(N.2.2=0/\most<N.1/\oW N most=5/\qF N most=0/\s9 N most k=k)\/(N.2.2=0/\¬most<N.1/\oW N most=0/\qF N most=N.1/\s9 N most k=k+N.2.1):=by
 unfold qF s9 oW;by_cases h:N.2.2≠0
 ·simp[h]
 by_cases b:most<N.1
 ·simp only[zC]at h;simp[h,b]
 simp only[zC]at h;simp[h,b]
theorem P9 (g:Nat)(s:ByteArray)(k most:Nat)(w:World)(h:ji w g s k 0)(U:k<=s.size)(D:s.size<=9223372036854775807)(hm:most<18446744073709551616)(J:ba w)(hg:g≠0):
 Calls prog 182 #[.pointer (some ⟨g,0,none⟩),.int .u64 most] w fun e w'=>e= .returned (.int .u64 (qF (aw (s.data.toList.drop k)) most))/\ji w' g s (s9 (aw (s.data.toList.drop k)) most k) (oW (aw (s.data.toList.drop k)) most)/\ae [g] w w':=by
 have x:=za (bw g s k 0 w h);have y:=za (T3 g s k w h U D);have F:(s.extract k (k+min 9 (s.size-k))).data.toList=(s.data.toList.drop k).take 9:=by
  rw[an,ZW,show k+min 9 (s.size-k)-k=min 9 (s.size-k)from by omega];by_cases S:9<=s.size-k
  ·rw[yw S]
  rw[Nat.min_eq_right (by omega),zy (by simp),zy (by simp;omega)]
 have H:(s.extract k (k+min 9 (s.size-k))).size<=9223372036854775807:=by rw[aj _ _ _ (by omega)];omega
 have B:Hid (∀b,ba b->Calls prog 216 #[.string (s.extract k (k+min 9 (s.size-k)))] b fun e w'=>e=Cm (aw (s.data.toList.drop k))/\b=w'):=za (fun b W=>by
  have:=PR _ b H W;rwa [F,Fk]at this)
 have u:(aw (s.data.toList.drop k)).2.2=0->k+(aw (s.data.toList.drop k)).2.1<=s.size:=fun R=>by
  have:=(iS (s.data.toList.drop k) (aw (s.data.toList.drop k)).1 (aw (s.data.toList.drop k)).2.1 (by rw[<-R])).2.1;rw[zR,aa]at this;omega
 have A:=za (fun b (c:ae [g] w b)=>J.only c (by simp;omega));have Y:=za h;generalize s.extract k (k+min 9 (s.size-k))=X at*;generalize aw (s.data.toList.drop k)=N at*;obtain⟨m,z,r⟩:=N;have C:=ow (m,z,r) most k;generalize oW (m,z,r) most=E at*;generalize qF (m,z,r) most=M at*;generalize s9 (m,z,r) most k=K at*;simp only at C u;have L:=za u;clear h J F H u;rcases C with⟨G,rfl,rfl,rfl⟩|⟨rfl,O,rfl,rfl,rfl⟩|⟨rfl,O,rfl,rfl,rfl⟩
 ·have b1:(E==0)=false:=zm.2 G;have Z:(E !=0)=true:=yL.2 G;go_enter func182,ntmps182
  go_wp2_with fail
  refine x.out.mono ?_;rintro e w' ⟨rfl,rfl⟩;go_wp2_with fail
  refine y.out.mono ?_;rintro e b ⟨rfl,d,c⟩;have l:=za d;have n:=za c;have q:=za (B.out b (A.out b c));clear d c;go_wp2_with fail
  refine q.out.mono ?_;rintro e w' ⟨rfl,rfl⟩;unfold Cm;go_wp2_with fail
  refine(iV g s K E b l.out).mono ?_;rintro e I ⟨rfl,i,j⟩;have o:=za i;have p:=za j;clear i j;go_wp2;go_ret;exact⟨rfl,o.out,n.out.trans p.out⟩
 ·skip
  go_enter func182,ntmps182
  go_wp2_with fail
  refine x.out.mono ?_;rintro e w' ⟨rfl,rfl⟩;go_wp2_with fail
  refine y.out.mono ?_;rintro e b ⟨rfl,d,c⟩;have l:=za d;have n:=za c;have q:=za (B.out b (A.out b c));clear d c;go_wp2_with fail
  refine q.out.mono ?_;rintro e w' ⟨rfl,rfl⟩;unfold Cm;go_wp2_with fail
  refine(iV g s K 5 b l.out).mono ?_;rintro e I ⟨rfl,i,j⟩;have o:=za i;have p:=za j;clear i j;go_wp2;go_ret;exact⟨rfl,o.out,n.out.trans p.out⟩
 skip
 go_enter func182,ntmps182
 go_wp2_with fail
 refine x.out.mono ?_;rintro e w' ⟨rfl,rfl⟩;go_wp2_with fail
 refine y.out.mono ?_;rintro e b ⟨rfl,d,c⟩;have l:=za d;have n:=za c;have q:=za (B.out b (A.out b c));clear d c;go_wp2_with fail
 refine q.out.mono ?_;rintro e w' ⟨rfl,rfl⟩;unfold Cm;go_wp2_with fail
 refine(eE g s k z b l.out D (L.out trivial)).mono ?_;rintro e I ⟨rfl,i,j⟩;have o:=za i;have p:=za j;clear i j;go_wp2;go_ret;exact⟨rfl,o.out,n.out.trans p.out⟩
theorem ti (s:ByteArray)(k:Nat)(h:k<=s.size):s.size-(s.data.toList.drop k).length=k:=by rw[zR,aa];omega
theorem Dq (x:Int)(c: -9223372036854775808<=x)(b:x<=9223372036854775807):wrap64 x=x:=by unfold wrap64;omega
theorem P' (m b:Nat)(h:m<1000000)(d:48<=b)(c:b<=57):wrap64 (wrap64 (wrap64 (10*(m:Int))+wrap64 (b:Int))-48)=((10*m+(b-48):Nat):Int):=by
 rw[Dq (10*(m:Int)) (by omega) (by omega),Dq (b:Int) (by omega) (by omega),Dq (10*(m:Int)+b) (by omega) (by omega),Dq _ (by omega) (by omega)];omega
def eu (s:ByteArray):Option (Nat×List UInt8)->Ending
 |none=> .returned (.tuple #[.int .i64 0,.int .i64 (-1)])
 |some (n,r)=> .returned (.tuple #[.int .i64 n,.int .i64 ((s.size-r.length:Nat):Int)])
theorem py (s:ByteArray)(at_:Nat)(w:World)(L:at_<=s.size)(O:s.size<=100000):
 Calls prog 52 #[.string s,.int .i64 at_] w fun e w'=>e=eu s (cw (s.data.toList.drop at_))/\w=w':=by
 obtain⟨R,d⟩:∃R,Hid (eu s (cw (s.data.toList.drop at_))=R):=⟨_,za rfl⟩
 rw[d.out];go_enter func52,ntmps52
 go_wp2_with fail
 go_loop [6,1] (fun n i=>∃k m:Nat,at_<=k/\k<=s.size/\m<=10000100/\Hid (lf s at_ k m)/\n= .int .i64 m/\i= .int .i64 k) (fun _ i=>s.size-(intOf i).toNat)
 case atStart=>exact⟨at_,0,by omega,L,by omega,za (lf.start s at_),rfl,rfl⟩
 case round=>
  obtain⟨k,m,N,p,u,hrel,rfl,rfl⟩:=hrel;by_cases B:k<s.size
  ·by_cases y:48<=s[k].toNat
   ·by_cases r:s[k].toNat<=57
    ·have E:=za (hrel.out.next B ((la _).2 ⟨y,r⟩));have C:=za (vc m s[k] u r);have A:decide ((48:Int)<=(s[k].toNat:Int))=true:=zE (by omega);have o:decide ((s[k].toNat:Int)<=57)=true:=zE (by omega);have J:=za y;have G:=za r;clear y r;by_cases q:m<1000000
     ·have x:Hid (fu m s[k]=10*m+(s[k].toNat-48)):=za (by simp[fu,q]);have I:decide ((m:Int)<1000000)=true:=zE (by omega);have K:=za q;clear q u;go_wp2_with fail
      go_round
      case rel=>exact⟨k+1,fu m s[k],by omega,by omega,C.out,E,by rw[x.out];have H:=J.out;have F:=G.out;have M:=K.out;rw[P' m s[k].toNat M H F],by go_num⟩
      case measure=>simp[intOf];omega
     have x:Hid (fu m s[k]=m):=za (by simp[fu,q]);have I:decide ((m:Int)<1000000)=false:=zu (by omega);clear q u;go_wp2_with fail
     go_round
     case rel=>exact⟨k+1,fu m s[k],by omega,by omega,C.out,E,by rw[x.out],by go_num⟩
     case measure=>simp[intOf];omega
    have j:Hid (∀h:k<s.size,jn s[k]=false):=za (fun h=>by simp[jn];omega);have A:decide ((s[k].toNat:Int)<=57)=false:=zu (by omega);rcases(show k=at_\/at_<k from by omega)with rfl|hak
    ·have b:Hid (R= .returned (.tuple #[.int .i64 0,.int .i64 (-1)])):=za (by rw[<-d.out,od j.out];rfl);go_wp2;all_goals
      go_ret2
      exact⟨by rw[b.out];rfl,rfl⟩
    have D:at_<s.size:=(hrel.out.2 at_ (by omega) hak).1;have z:((k:Int)==(at_:Int))=false:=zm.2 (by omega);by_cases c:s[at_].toNat=48
    ·have o:((s[at_].toNat:Int)==48)=true:=by simp[c]
     by_cases l:at_+1<k
     ·have b:Hid (R= .returned (.tuple #[.int .i64 0,.int .i64 (-1)])):=za (by rw[<-d.out,oe hrel.out l (fun _=>c)];rfl);clear c;go_wp2;all_goals
       go_ret2
       exact⟨by rw[b.out];rfl,rfl⟩
     have b:Hid (R= .returned (.tuple #[.int .i64 m,.int .i64 k])):=za (by rw[<-d.out,kq hrel.out hak j.out (fun h=>absurd h l)];simp only[eu,ti s k p]);clear c;go_wp2;all_goals
      go_ret2
      exact⟨by rw[b.out];rfl,rfl⟩
    have o:((s[at_].toNat:Int)==48)=false:=zm.2 (by omega);have b:Hid (R= .returned (.tuple #[.int .i64 m,.int .i64 k])):=za (by rw[<-d.out,kq hrel.out hak j.out (fun _ _=>c)];simp only[eu,ti s k p]);clear c;go_wp2;all_goals
     go_ret2
     exact⟨by rw[b.out];rfl,rfl⟩
   have j:Hid (∀h:k<s.size,jn s[k]=false):=za (fun h=>by simp[jn];omega);have A:decide ((48:Int)<=(s[k].toNat:Int))=false:=zu (by omega);rcases(show k=at_\/at_<k from by omega)with rfl|hak
   ·have b:Hid (R= .returned (.tuple #[.int .i64 0,.int .i64 (-1)])):=za (by rw[<-d.out,od j.out];rfl);go_wp2;all_goals
     go_ret2
     exact⟨by rw[b.out];rfl,rfl⟩
   have D:at_<s.size:=(hrel.out.2 at_ (by omega) hak).1;have z:((k:Int)==(at_:Int))=false:=zm.2 (by omega);by_cases c:s[at_].toNat=48
   ·have o:((s[at_].toNat:Int)==48)=true:=by simp[c]
    by_cases l:at_+1<k
    ·have b:Hid (R= .returned (.tuple #[.int .i64 0,.int .i64 (-1)])):=za (by rw[<-d.out,oe hrel.out l (fun _=>c)];rfl);clear c;go_wp2;all_goals
      go_ret2
      exact⟨by rw[b.out];rfl,rfl⟩
    have b:Hid (R= .returned (.tuple #[.int .i64 m,.int .i64 k])):=za (by rw[<-d.out,kq hrel.out hak j.out (fun h=>absurd h l)];simp only[eu,ti s k p]);clear c;go_wp2;all_goals
     go_ret2
     exact⟨by rw[b.out];rfl,rfl⟩
   have o:((s[at_].toNat:Int)==48)=false:=zm.2 (by omega);have b:Hid (R= .returned (.tuple #[.int .i64 m,.int .i64 k])):=za (by rw[<-d.out,kq hrel.out hak j.out (fun _ _=>c)];simp only[eu,ti s k p]);clear c;go_wp2;all_goals
    go_ret2
    exact⟨by rw[b.out];rfl,rfl⟩
  have j:Hid (∀h:k<s.size,jn s[k]=false):=za (fun h=>absurd h B);rcases(show k=at_\/at_<k from by omega)with rfl|hak
  ·have b:Hid (R= .returned (.tuple #[.int .i64 0,.int .i64 (-1)])):=za (by rw[<-d.out,od j.out];rfl);go_wp2;all_goals
    go_ret2
    exact⟨by rw[b.out];rfl,rfl⟩
  have D:at_<s.size:=(hrel.out.2 at_ (by omega) hak).1;have z:((k:Int)==(at_:Int))=false:=zm.2 (by omega);by_cases c:s[at_].toNat=48
  ·have o:((s[at_].toNat:Int)==48)=true:=by simp[c]
   by_cases l:at_+1<k
   ·have b:Hid (R= .returned (.tuple #[.int .i64 0,.int .i64 (-1)])):=za (by rw[<-d.out,oe hrel.out l (fun _=>c)];rfl);clear c;go_wp2;all_goals
     go_ret2
     exact⟨by rw[b.out];rfl,rfl⟩
   have b:Hid (R= .returned (.tuple #[.int .i64 m,.int .i64 k])):=za (by rw[<-d.out,kq hrel.out hak j.out (fun h=>absurd h l)];simp only[eu,ti s k p]);clear c;go_wp2;all_goals
    go_ret2
    exact⟨by rw[b.out];rfl,rfl⟩
  have o:((s[at_].toNat:Int)==48)=false:=zm.2 (by omega);have b:Hid (R= .returned (.tuple #[.int .i64 m,.int .i64 k])):=za (by rw[<-d.out,kq hrel.out hak j.out (fun _ _=>c)];simp only[eu,ti s k p]);clear c;go_wp2;all_goals
   go_ret2
   exact⟨by rw[b.out];rfl,rfl⟩
def my (s:ByteArray)(w:World)(R:Option (Ty×List UInt8))(e:Ending)(w':World):Prop:=
 Below w.heap.size w w'/\match R with
  |none=>∃v0 v1:Int,e= .returned (.tuple #[.agg #[.int .i64 v0,.int .i64 v1,.slice none 0 0,.int .i64 0],.int .i64 (-1)])
  |some (x,r)=>∃c0 c1 c2 c3,e= .returned (.tuple #[.agg #[c0,c1,c2,c3],.int .i64 (s.size-r.length:Nat)])/\fD w' (w.heap.size<= ·) x c0 c1 c2 c3
theorem Co (f:Nat):aJ f []=none:=by cases f<;>rfl
theorem Dr (X:World)(t:TypeId)(b:Array Value)(n:Nat)(h:X.heap.size=n):af (X.alloc (.cells b t)) n t b:=by subst h;exact af.new X t b
def bJ (v0 v1:Int):Value:= .tuple #[.agg #[.int .i64 v0,.int .i64 v1,.slice none 0 0,.int .i64 0],.int .i64 (-1)]
