/- sha: the constants that the program holds are the document's roots. -/
import Derived.Test.YtpjgigllldipiaaGreatDoorKA13
set_option linter.all false
set_option maxRecDepth 100000
set_option maxHeartbeats 2000000
namespace Go.Proofs.YtpjgigllldipiaaGreatDoor
open Go.RowKit
def yg:=@IntWalk.i64_in
def xN:=@wpQuiet_nil
theorem Mt (n:Nat)(d:1<=n)(c:n<=31):bits .and .u64 (IntKind.u64.wrap (-(n:Int))) 31=((32-n:Nat):Int):=by
 have e:IntKind.u64.wrap (-(n:Int))=((18446744073709551616-n:Nat):Int):=by
  simp[IntKind.wrap,IntKind.signed,IntKind.bits];omega
 have h:=u64_and_nat (18446744073709551616-n) 31 (by omega) (by omega);rw[e];have b:((31:Nat):Int)=31:=rfl;rw[b]at h;rw[h,show(31:Nat)=2^5-1 from rfl,Nat.and_two_pow_sub_one_eq_mod];omega
theorem Tf (x n:Nat)(hx:x<4294967296):bits .or .u32 ((x:Int)*2^(32-n)%4294967296) ((x:Int)/2^n)=((iq x n:Nat):Int):=by
 have h:=u32_or_nat (x*2^(32-n)%4294967296) (x/2^n) (xB _ (by omega)) (mr n hx);have b:((x*2^(32-n)%4294967296:Nat):Int)=(x:Int)*2^(32-n)%4294967296:=by simp
 have c:((x/2^n:Nat):Int)=(x:Int)/2^n:=by simp
 rw[b,c]at h;rw[h,Nat.or_comm];rfl
theorem CV (x n:Nat)(w:World)(hx:x<4294967296)(h:1<=n)(c:n<=31):
 Calls Tryz.prog 229 #[.int .u32 x,.int .i64 n] w fun e w'=>e= .returned (.int .u32 (iq x n))/\w=w':=by
 have d:=Mt n h c;obtain⟨k,b⟩:∃k:Nat,32-n=k:=⟨_,rfl⟩
 rw[b]at d;have j:(32:Int)-(k:Int)=(n:Int):=by omega
 have i:=za b;clear b;go_enter Tryz.func229,Tryz.ntmps229
 go_wp2;go_ret;exact⟨lq (by rw[<-i.out];exact Tf x n hx),rfl⟩
theorem xor_val {a b:Nat}(d:a<4294967296)(c:b<4294967296):bits .xor .u32 (a:Int) (b:Int)=((a^^^b:Nat):Int):=u32_xor_nat a b d c
theorem Fk (x a b c:Nat)(w:World)(hx:x<4294967296)(k:1<=a/\a<=31)(i:1<=b/\b<=31)(j:1<=c/\c<=31):
 Calls Tryz.prog 222 #[.int .u32 x,.int .i64 a,.int .i64 b,.int .i64 c] w fun e w'=>e= .returned (.int .u32 (iq x a^^^iq x b^^^iq x c:Nat))/\w=w':=by
 have s:=za (fun w=>CV x a w hx k.1 k.2);have o:=za (fun w=>CV x b w hx i.1 i.2);have u:=za (fun w=>CV x c w hx j.1 j.2);have l:=ea a hx;have h:=ea b hx;have A:=ea c hx;generalize iq x a=p at*;generalize iq x b=q at*;generalize iq x c=r at*;have m:=xor_val l h;have n:=xor_val (dt l h) A;obtain⟨y,d⟩:∃y,p^^^q=y:=⟨_,rfl⟩
 obtain⟨z,hz⟩:∃z,p^^^q^^^r=z:=⟨_,rfl⟩
 rw[d]at m;rw[hz,d]at n;rw[hz];clear d hz;go_enter Tryz.func222,Tryz.ntmps222
 go_wp2_with fail
 refine(s.out _).mono ?_;rintro e w' ⟨rfl,rfl⟩;go_wp2_with fail
 refine(o.out _).mono ?_;rintro e w' ⟨rfl,rfl⟩;go_wp2_with fail
 refine(u.out _).mono ?_;rintro e w' ⟨rfl,rfl⟩;go_wp2;go_ret;exact⟨rfl,rfl⟩
theorem Wp (x n:Nat)(w:World)(hx:x<4294967296)(c:1<=n)(b:n<=31):
 Calls Tryz.prog 229 #[.int .u32 x,.int .i64 n] w fun e w'=>e= .returned (.int .u32 (iq x n))/\w'=w:=(CV x n w hx c b).mono fun _ _ ⟨h,d⟩=>⟨h,d.symm⟩
theorem vh (x a b c:Nat)(w:World)(hx:x<4294967296)(q:1<=a/\a<=31)(o:1<=b/\b<=31)(p:1<=c/\c<=31):
 Calls Tryz.prog 228 #[.int .u32 x,.int .i64 a,.int .i64 b,.int .i64 c] w fun e w'=>e= .returned (.int .u32 (iq x a^^^iq x b^^^x/2^c:Nat))/\∃n,w'=w.drewN n:=by
 have k:=ea a hx;have h:=ea b hx;have m:=mr c hx;have l:=xor_val k h;have i:=xor_val (dt k h) m;have j:((x/2^c:Nat):Int)=(x:Int)/2^c:=by simp
 rw[j]at i;obtain⟨y,d⟩:∃y:Nat,iq x a^^^iq x b=y:=⟨_,rfl⟩
 obtain⟨z,hz⟩:∃z:Nat,iq x a^^^iq x b^^^x/2^c=z:=⟨_,rfl⟩
 rw[d]at l;rw[hz,d]at i;rw[hz];clear d hz j;go_enter Tryz.func228,Tryz.ntmps228
 go_wp2;go_quiet ((go_at_call 229;exact Calls.quiet_of_same (Wp _ _ _ hx (by omega) (by omega))))
 go_wp2;go_ret;exact⟨rfl,_,rfl⟩
theorem Pm (a b c d:Nat)(m:a<256)(l:b<256)(n:c<256)(hd:d<256):
 bits .or .u32 (bits .or .u32 (bits .or .u32 ((a:Int)*2^24) ((b:Int)*2^16)) ((c:Int)*2^8)) (d:Int)=((a*16777216+b*65536+c*256+d:Nat):Int):=by
 have e:((a:Int)*2^24)=((a*2^24:Nat):Int):=by simp
 have h:((b:Int)*2^16)=((b*2^16:Nat):Int):=by simp
 have j:((c:Int)*2^8)=((c*2^8:Nat):Int):=by simp
 rw[e,h,j,u32_or_nat _ _ (by omega) (by omega)];have k:a*2^24|||b*2^16=a*2^24+b*2^16:=by rw[ZA,<-xE (by omega)]
 rw[k,u32_or_nat _ _ (by omega) (by omega)];have g2:a*2^24+b*2^16|||c*2^8=a*2^24+b*2^16+c*2^8:=by
  rw[show a*2^24+b*2^16=2^16*(a*256+b)from by omega,<-xE (by omega)]
 rw[g2,u32_or_nat _ _ (by omega) (by omega)];have i:a*2^24+b*2^16+c*2^8|||d=a*2^24+b*2^16+c*2^8+d:=by
  rw[show a*2^24+b*2^16+c*2^8=2^8*(a*65536+b*256+c)from by omega,<-xE (by omega)]
 rw[i]
theorem Pn (s:ByteArray)(i:Nat)(w:World)(hi:4*i+4<=s.size)(u:s.size<=100000):
 Calls Tryz.prog 220 #[.string s,.int .i64 i] w fun e w'=>e= .returned (.int .u32 (mu s i))/\∃n,w'=w.drewN n:=by
 obtain⟨E,B,k,p⟩:∃E:ByteArray,s.extract (4*i) (4*i+4)=E/\∃k:E.size=4,Hid (mu s i=E[0].toNat*16777216+E[1].toNat*65536+E[2].toNat*256+E[3].toNat):=by
  have hz:(s.extract (4*i) (4*i+4)).size=4:=by rw[an _ _ _ hi];omega
  refine⟨_,rfl,hz,za ?_⟩;have b:∀j (c:j<(s.extract (4*i) (4*i+4)).size),(s.extract (4*i) (4*i+4))[j]=s.data.toList.getD (4*i+j) 0:=by
   intro j c;have d:=gz (s.extract (4*i) (4*i+4)) j c;rw[aj,xH,yT (by omega)]at d;rw[zA,d];rfl
  rw[b 0,b 1,b 2,b 3];rfl
 have C:0<E.size:=by omega
 have G:1<E.size:=by omega
 have x:2<E.size:=by omega
 have z:3<E.size:=by omega
 have m:=E[0].toNat_lt;have q:=E[1].toNat_lt;have l:=E[2].toNat_lt;have r:=E[3].toNat_lt;have o:=za (Pm E[0].toNat E[1].toNat E[2].toNat E[3].toNat m q l r);have D:IntKind.u32.wrap ((E[0].toNat:Nat):Int)=((E[0].toNat:Nat):Int):=IntWalk.u32_in _ (by omega);have y:IntKind.u32.wrap ((E[1].toNat:Nat):Int)=((E[1].toNat:Nat):Int):=IntWalk.u32_in _ (by omega);have A:IntKind.u32.wrap ((E[2].toNat:Nat):Int)=((E[2].toNat:Nat):Int):=IntWalk.u32_in _ (by omega);have F:IntKind.u32.wrap ((E[3].toNat:Nat):Int)=((E[3].toNat:Nat):Int):=IntWalk.u32_in _ (by omega);go_enter Tryz.func220,Tryz.ntmps220
 go_wp2;go_quiet (fail)
 go_wp2;go_ret;refine⟨lq ?_,_,rfl⟩;have h:=o.out;rw[show(2:Int)^24=16777216 from rfl,show(2:Int)^16=65536 from rfl,show(2:Int)^8=256 from rfl]at h;rw[p.out];exact h
theorem and_val {a b:Nat}(d:a<4294967296)(c:b<4294967296):bits .and .u32 (a:Int) (b:Int)=((a&&&b:Nat):Int):=u32_and_nat a b d c
def Wq :ByteArray:=⟨#[66,138,47,152,113,55,68,145,181,192,251,207,233,181,219,165,57,86,194,91,89,241,17,241,146,63,130,164,171,28,94,213,216,7,170,152,18,131,91,1,36,49,133,190,85,12,125,195,114,190,93,116,128,222,177,254,155,220,6,167,193,155,241,116,228,155,105,193,239,190,71,134,15,193,157,198,36,12,161,204,45,233,44,111,74,116,132,170,92,176,169,220,118,249,136,218,152,62,81,82,168,49,198,109,176,3,39,200,191,89,127,199,198,224,11,243,213,167,145,71,6,202,99,81,20,41,41,103,39,183,10,133,46,27,33,56,77,44,109,252,83,56,13,19,101,10,115,84,118,106,10,187,129,194,201,46,146,114,44,133,162,191,232,161,168,26,102,75,194,75,139,112,199,108,81,163,209,146,232,25,214,153,6,36,244,14,53,133,16,106,160,112,25,164,193,22,30,55,108,8,39,72,119,76,52,176,188,181,57,28,12,179,78,216,170,74,91,156,202,79,104,46,111,243,116,143,130,238,120,165,99,111,132,200,120,20,140,199,2,8,144,190,255,250,164,80,108,235,190,249,163,247,198,113,120,242]⟩
theorem Mu :((List.range 64).all fun i=>mu Wq i==GZ.getD i 0)=true:=by decide+kernel
theorem vi (i:Nat)(h:i<64):mu ⟨#[66,138,47,152,113,55,68,145,181,192,251,207,233,181,219,165,57,86,194,91,89,241,17,241,146,63,130,164,171,28,94,213,216,7,170,152,18,131,91,1,36,49,133,190,85,12,125,195,114,190,93,116,128,222,177,254,155,220,6,167,193,155,241,116,228,155,105,193,239,190,71,134,15,193,157,198,36,12,161,204,45,233,44,111,74,116,132,170,92,176,169,220,118,249,136,218,152,62,81,82,168,49,198,109,176,3,39,200,191,89,127,199,198,224,11,243,213,167,145,71,6,202,99,81,20,41,41,103,39,183,10,133,46,27,33,56,77,44,109,252,83,56,13,19,101,10,115,84,118,106,10,187,129,194,201,46,146,114,44,133,162,191,232,161,168,26,102,75,194,75,139,112,199,108,81,163,209,146,232,25,214,153,6,36,244,14,53,133,16,106,160,112,25,164,193,22,30,55,108,8,39,72,119,76,52,176,188,181,57,28,12,179,78,216,170,74,91,156,202,79,104,46,111,243,116,143,130,238,120,165,99,111,132,200,120,20,140,199,2,8,144,190,255,250,164,80,108,235,190,249,163,247,198,113,120,242]⟩ i=uk.getD i 0:=by
 have:=ZK.1 Mu i (ZC.2 h);rw[Co];exact xh.1 this
theorem afF (i:Nat):uk.getD i 0<4294967296:=by
 rw[Co];by_cases h:i<64
 ·rw[<-Co,<-vi i h];exact A9 _ _
 rw[zA,xk (by simp[GZ];omega)];simp
theorem Wr (i:Nat)(w:World)(h:i<64):Calls Tryz.prog 219 #[.int .i64 i] w fun e w'=>e= .returned (.int .u32 (uk.getD i 0:Nat))/\∃n,w'=w.drewN n:=by
 have b:=za (vi i h);generalize c:uk.getD i 0=K at*;go_enter Tryz.func219,Tryz.ntmps219
 go_wp2_with fail
 refine(Pn _ i _ (by simp[ByteArray.size];omega) (by simp[ByteArray.size])).mono ?_;rintro e w' ⟨rfl,n,rfl⟩;rw[b.out];go_wp2;go_ret;exact⟨rfl,_,rfl⟩
abbrev iO (w:World)(g:Nat)(s:ByteArray)(at_:Nat)(f:Int):Prop:=af w g 208 #[.string s,.int .i64 at_,.int .i64 f]
theorem bs (g:Nat)(s:ByteArray)(k:Nat)(f:Int)(w:World)(h:iO w g s k f):
 Calls Tryz.prog 121 #[.pointer (some ⟨g,0,none⟩)] w fun e w'=>e= .returned (.int .i64 f)/\w=w':=by
 have b:=h.cell 2;simp at b;clear h;go_enter Tryz.func121,Tryz.ntmps121
 go_wp2;go_ret;exact⟨rfl,rfl⟩
theorem vj (g:Nat)(s:ByteArray)(k:Nat)(f:Int)(w:World)(h:iO w g s k f)(i:k<=s.size)(d:s.size<=9223372036854775807):
 Calls Tryz.prog 142 #[.pointer (some ⟨g,0,none⟩)] w fun e w'=>e= .returned (.int .i64 ((s.size:Int)-k))/\∃n,w.drewN n=w':=by
 have c:=h.cell 0;have b:=h.cell 1;simp at c b;clear h;go_enter Tryz.func142,Tryz.ntmps142
 go_wp2;go_quiet (fail)
 go_wp2;go_ret;exact⟨rfl,_,rfl⟩
theorem iA (g:Nat)(s:ByteArray)(k:Nat)(f:Int)(w:World)(h:iO w g s k 0):
 Calls Tryz.prog 141 #[.pointer (some ⟨g,0,none⟩),.int .i64 f] w fun e w'=>e= .returned (.tuple #[])/\iO w' g s (k) (f)/\ae [g] w w':=by
 have b:=h.cell 2;have d:=h.frozen 2;have c:=h.lt;simp at b;have H:=za h;clear h;go_enter Tryz.func141,Tryz.ntmps141
 go_wp2;go_end0
 go_wp2;go_end0
 refine⟨rfl, ?_,Cx⟩;have h:=H.out;unfold iO at h⊢
 (repeat(first|with_reducible assumption|with_reducible apply af.drewN|with_reducible apply af.drew|with_reducible apply af.alloc|((with_reducible apply af.beside); · (first|omega|(simp<;>omega)))|with_reducible apply af.store));all_goals(first|rfl|simp)
theorem vl (g:Nat)(s:ByteArray)(k:Nat)(f e:Int)(w:World)(h:iO w g s k f)(d:(f==0)=false):
 Calls Tryz.prog 141 #[.pointer (some ⟨g,0,none⟩),.int .i64 e] w fun e w'=>e= .returned (.tuple #[])/\iO w' g s (k) (f)/\ae [g] w w':=by
 have b:=h.cell 2;have c:=h.lt;simp at b;have H:=za h;clear h;go_enter Tryz.func141,Tryz.ntmps141
 go_wp2;go_end0
 go_wp2;go_end0
 refine⟨rfl, ?_,Cx⟩;have h:=H.out;unfold iO at h⊢
 (repeat(first|with_reducible assumption|with_reducible apply af.drewN|with_reducible apply af.drew|with_reducible apply af.alloc|((with_reducible apply af.beside); · (first|omega|(simp<;>omega)))|with_reducible apply af.store));all_goals(first|rfl|simp)
theorem vm (g:Nat)(s:ByteArray)(k:Nat)(f n:Int)(w:World)(h:iO w g s k f)(m:(f==0)=false):
 Calls Tryz.prog 120 #[.pointer (some ⟨g,0,none⟩),.int .i64 n] w fun e w'=>e= .returned (.string ByteArray.empty)/\iO w' g s (k) (f)/\ae [g] w w':=by
 have c:=h.cell 0;have d:=h.cell 1;have b:=h.cell 2;have l:=h.frozen 1;have j:=h.frozen 2;have i:=h.lt;simp at c d b;have H:=za h;clear h;have o:=sj i b;go_enter Tryz.func120,Tryz.ntmps120
 go_wp2;go_end0
 go_wp2;go_ret;refine⟨rfl, ?_,Cx⟩;have h:=H.out;unfold iO at h⊢
 (repeat(first|with_reducible assumption|with_reducible apply af.drewN|with_reducible apply af.drew|with_reducible apply af.alloc|((with_reducible apply af.beside); · (first|omega|(simp<;>omega)))|with_reducible apply af.store));all_goals(first|rfl|simp)
theorem fX (g:Nat)(s:ByteArray)(k:Nat)(n:Nat)(w:World)(h:iO w g s k 0)(u:k<=s.size)(m:s.size<=9223372036854775807)(l:s.size<k+n)(p:n<=9223372036854775807):
 Calls Tryz.prog 120 #[.pointer (some ⟨g,0,none⟩),.int .i64 n] w fun e w'=>e= .returned (.string ByteArray.empty)/\iO w' g s (k) (2)/\ae [g] w w':=by
 have d:=h.cell 0;have i:=h.cell 1;have c:=h.cell 2;have o:=h.frozen 1;have j:=h.frozen 2;have b:=h.lt;simp at d i c;have H:=za h;clear h;have r:=sj b d;have q:=sj b i;have x:=sj b c;have g2:=Cw b j;go_enter Tryz.func120,Tryz.ntmps120
 go_wp2;go_quiet (fail)
 go_wp2;go_end0
 go_wp2;go_ret;refine⟨rfl, ?_,Cx⟩;have h:=H.out;unfold iO at h⊢
 (repeat(first|with_reducible assumption|with_reducible apply af.drewN|with_reducible apply af.drew|with_reducible apply af.alloc|((with_reducible apply af.beside); · (first|omega|(simp<;>omega)))|with_reducible apply af.store));all_goals(first|rfl|simp)
theorem eA (g:Nat)(s:ByteArray)(k:Nat)(n:Nat)(w:World)(h:iO w g s k 0)(o:s.size<=9223372036854775807)(m:k+n<=s.size):
 Calls Tryz.prog 120 #[.pointer (some ⟨g,0,none⟩),.int .i64 n] w fun e w'=>e= .returned (.string (s.extract k (k+n)))/\iO w' g s (k+n) (0)/\ae [g] w w':=by
 have d:=h.cell 0;have i:=h.cell 1;have c:=h.cell 2;have l:=h.frozen 1;have j:=h.frozen 2;have b:=h.lt;simp at d i c;have H:=za h;clear h;have q:=sj b d;have p:=sj b i;have r:=sj b c;have u:=Cw b l;have g2:=Cw b j;go_enter Tryz.func120,Tryz.ntmps120
 go_wp2;go_quiet (fail)
 go_wp2;go_region
 all_goals go_wp2
 go_region
 all_goals go_wp2
 go_end0
 go_wp2;go_ret;refine⟨rfl, ?_,Cx⟩;have h:=H.out;unfold iO at h⊢
 (repeat(first|with_reducible assumption|with_reducible apply af.drewN|with_reducible apply af.drew|with_reducible apply af.alloc|((with_reducible apply af.beside); · (first|omega|(simp<;>omega)))|with_reducible apply af.store));all_goals(first|rfl|simp)
theorem ru (s:ByteArray)(w:World):
 Calls Tryz.prog 119 #[.string s] w fun e w'=>e= .returned (.pointer (some ⟨w.heap.size,0,none⟩))/\w'=w.alloc (.cells #[.string s,.int .i64 0,.int .i64 0] 208):=by
 go_enter Tryz.func119,Tryz.ntmps119
 go_wp2;go_ret;exact⟨rfl,rfl⟩
theorem vn (g:Nat)(s:ByteArray)(k:Nat)(w:World)(h:iO w g s k 0)(n:k<s.size)(j:s.size<=9223372036854775807):
 Calls Tryz.prog 196 #[.pointer (some ⟨g,0,none⟩)] w fun e w'=>e= .returned (.int .u8 s[k].toNat)/\iO w' g s (k+1) (0)/\ae [g] w w':=by
 have c:=h.cell 0;have d:=h.cell 1;have b:=h.cell 2;have l:=h.frozen 1;have i:=h.frozen 2;have m:=h.lt;simp at c d b;have H:=za h;clear h;go_enter Tryz.func196,Tryz.ntmps196
 go_wp2;go_quiet (fail)
 go_wp2;go_region
 all_goals go_wp2
 go_end0
 go_wp2;go_ret;refine⟨rfl, ?_,Cx⟩;have h:=H.out;unfold iO at h⊢
 (repeat(first|with_reducible assumption|with_reducible apply af.drewN|with_reducible apply af.drew|with_reducible apply af.alloc|((with_reducible apply af.beside); · (first|omega|(simp<;>omega)))|with_reducible apply af.store));all_goals(first|rfl|simp)
theorem nI {x:Nat×Nat×Int}{a b:Nat}{c:Int}(h:x=(a,b,c)):Ending.returned (.tuple #[.int .i64 a,.int .i64 b,.int .i64 c])= .returned (.tuple #[.int .i64 x.1,.int .i64 x.2.1,.int .i64 x.2.2]):=by rw[h]
theorem sG (most:Int)(s:ByteArray)(w:World)(o:s.size<=9223372036854775807)(r: -9223372036854775808<=most)(y:most<=9223372036854775807):
 Calls Tryz.prog 82 #[.int .i64 most,.string s] w fun e w'=>e= .returned (.tuple #[.int .i64 (au most s).1,.int .i64 (au most s).2.1,.int .i64 (au most s).2.2])/\w=w':=by
 have h:=gU s;have d:=za (fun w=>rp s w o);have i:=za (show au most s=(if(ay s).2.2=0 then(if most<(ay s).1 then(0,0,5)else((ay s).1,(ay s).2.1,0))else(0,0,(ay s).2.2))from rfl);generalize ay s=x at*;obtain⟨n,k,p⟩:=x;dsimp only at*;rcases eH p with⟨c,q,m⟩|⟨c,q,m⟩
 ·subst c;have z:=h rfl;clear h;by_cases j:most<n
  ·have b:=za (by have:=i.out;rw[zl rfl,zl j]at this;exact this);rcases Int.lt_or_le most 0 with GD|GD
   ·go_enter Tryz.func82,Tryz.ntmps82
    go_wp2_with fail
    refine(d.out _).mono ?_;rintro e w' ⟨rfl,rfl⟩;go_wp2;go_ret3
    exact⟨nI b.out,rfl⟩
   have l:IntKind.u64.wrap most=most:=Zc _ (by omega);go_enter Tryz.func82,Tryz.ntmps82
   go_wp2_with fail
   refine(d.out _).mono ?_;rintro e w' ⟨rfl,rfl⟩;go_wp2;go_ret3
   exact⟨nI b.out,rfl⟩
  have b:=za (by have:=i.out;rw[zl rfl,zj j]at this;exact this);have l:IntKind.u64.wrap most=most:=Zc _ (by omega);have u:decide (most<(n:Int))=false:=zz j;go_enter Tryz.func82,Tryz.ntmps82
  go_wp2_with fail
  refine(d.out _).mono ?_;rintro e w' ⟨rfl,rfl⟩;go_wp2;go_ret3
  exact⟨nI b.out,rfl⟩
 have b:=za (by have:=i.out;rw[zj c]at this;exact this);clear h c;go_enter Tryz.func82,Tryz.ntmps82
 go_wp2_with fail
 refine(d.out _).mono ?_;rintro e w' ⟨rfl,rfl⟩;go_wp2;go_ret3
 exact⟨nI b.out,rfl⟩
theorem nU :ByteArray.empty=⟨#[]⟩:=rfl
def Kn (x:Int×Nat×ByteArray×Nat)(w:World)(e:Ending)(w':World):Prop:=
 e= .returned (.tuple #[.agg #[.int .u64 x.2.1,.string ByteArray.empty,.string x.2.2.1],.int .i64 x.2.2.2,.int .i64 x.1])/\Below w.heap.size w w'
theorem tN {x:Int×Nat×ByteArray×Nat}{w w':World}{a:Int}{b:Nat}{c:ByteArray}{d:Nat}{e:Int}(h:x=(a,b,c,d))(hd:e=d)(i:Below w.heap.size w w'):
 Kn x w (.returned (.tuple #[.agg #[.int .u64 b,.string ByteArray.empty,.string c],.int .i64 e,.int .i64 a])) w':=by
 subst h;subst hd;exact⟨rfl,i⟩
theorem j8 (most:Int)(s:ByteArray)(w:World)(A:s.size<=9223372036854775807)(eO: -9223372036854775808<=most)(Z:most<=9223372036854775807):
 Calls Tryz.prog 75 #[.int .i64 most,.string s] w (Kn (ai most s) w):=by
 have I:=qW most s;have G:=za (fun w=>sG most s w A eO Z);have u:=za (eD most s);generalize ai most s=X at*;generalize au most s=ab at*;obtain⟨n,k,K⟩:=ab;dsimp only at*;rcases eH K with⟨H,h1,h2⟩|⟨H,h1,h2⟩
 ·subst H;obtain⟨hn,hk,KX,ad⟩:=I rfl;clear I;by_cases E:s.size<k+n
  ·have z:=za (by have:=u.out;rw[zj (by simp),zl E]at this;exact this);clear u;go_enter Tryz.func75,Tryz.ntmps75
   go_wp2_with fail
   refine(G.out _).mono ?_;rintro e w' ⟨rfl,rfl⟩;go_wp2_with fail
   refine(ru s _).mono ?_;rintro e d ⟨rfl,c⟩;have p:iO d (w.heap.size+1) s 0 0:=by rw[c];have:=af.new (w.alloc (.cells #[.int .u64 0,.string ⟨#[]⟩,.string ⟨#[]⟩] 74)) 208 #[.string s,.int .i64 0,.int .i64 0];rw[zu]at this;exact this
   have x:af d w.heap.size 74 #[.int .u64 0,.string ⟨#[]⟩,.string ⟨#[]⟩]:=by rw[c];exact(af.new w _ _).alloc _
   have m:Below w.heap.size w d:=by rw[c];exact bM
   have M:d.heap.size=w.heap.size+2:=by rw[c];simp
   rw[zu];clear c;go_wp2_with fail
   refine(eA (w.heap.size+1) s 0 k _ p A (by omega)).mono ?_;rintro e R ⟨rfl,h,i⟩;rw[zQ]at h;have q:=x.only i (by simp);have J:=i.size;have l:=m.trans (i.below (B:=w.heap.size) (by omega) (by simp));clear p x m;go_wp2_with fail
   refine(fX (w.heap.size+1) s k n _ h hk A E (by omega)).mono ?_;rintro e w3 ⟨rfl,D,j⟩;have b:=q.only j (by simp);have C:=za (l.trans (j.below (B:=w.heap.size) (by omega) (by simp)));have o:=b.cell 0;have y:=b.cell 1;have r:=b.cell 2;have U:=b.frozen 0;have L:=b.frozen 1;have O:=b.frozen 2;simp at o y r;clear q l h;go_wp2_with fail
   refine(bs (w.heap.size+1) s _ _ _ D).mono ?_;rintro e w' ⟨rfl,rfl⟩;go_wp2;refine zp (v:= .tuple #[.agg #[.int .u64 0,.string ByteArray.empty,.string ByteArray.empty],.int .i64 0,.int .i64 2]) (by simp[results,Tryz.results75,go_sem,nU,o,y,r]) rfl ?_;exact tN z.out rfl (((C.out.setCell (by simp) _).setCell (by simp) _).setCell (by simp) _)
  have W:=za (fun w=>rp (s.extract k (k+n)) w (by rw[an _ _ _ (by omega)];omega));have F:=gU (s.extract k (k+n));rw[an _ _ _ (by omega:k+n<=s.size),Nat.add_sub_cancel_left]at F;have ae:(s.extract k (k+n)).size=n:=by rw[an _ _ _ (by omega)];omega
  generalize Y:s.extract k (k+n)=S at*;have N:=za Y;generalize ay S=aa at*;obtain⟨id,sz,f⟩:=aa;dsimp only at*;clear Y;rcases eH f with⟨g0,g1,g2⟩|⟨g0,g1,g2⟩
  ·subst g0;obtain⟨l1,l2,l3,l4⟩:=F rfl;have z:=za (by have:=u.out;rw[zj (by simp),zj E,zj (by simp)]at this;exact this);clear u F;go_enter Tryz.func75,Tryz.ntmps75
   go_wp2_with fail
   refine(G.out _).mono ?_;rintro e w' ⟨rfl,rfl⟩;go_wp2_with fail
   refine(ru s _).mono ?_;rintro e d ⟨rfl,c⟩;have p:iO d (w.heap.size+1) s 0 0:=by rw[c];have:=af.new (w.alloc (.cells #[.int .u64 0,.string ⟨#[]⟩,.string ⟨#[]⟩] 74)) 208 #[.string s,.int .i64 0,.int .i64 0];rw[zu]at this;exact this
   have x:af d w.heap.size 74 #[.int .u64 0,.string ⟨#[]⟩,.string ⟨#[]⟩]:=by rw[c];exact(af.new w _ _).alloc _
   have m:Below w.heap.size w d:=by rw[c];exact bM
   have M:d.heap.size=w.heap.size+2:=by rw[c];simp
   rw[zu];clear c;go_wp2_with fail
   refine(eA (w.heap.size+1) s 0 k _ p A (by omega)).mono ?_;rintro e R ⟨rfl,h,i⟩;rw[zQ]at h;have q:=x.only i (by simp);have J:=i.size;have l:=m.trans (i.below (B:=w.heap.size) (by omega) (by simp));clear p x m;go_wp2_with fail
   refine(eA (w.heap.size+1) s k n _ h A (by omega)).mono ?_;rintro e w3 ⟨rfl,D,j⟩;rw[N.out];have b:=q.only j (by simp);have C:=za (l.trans (j.below (B:=w.heap.size) (by omega) (by simp)));have o:=b.cell 0;have y:=b.cell 1;have r:=b.cell 2;have U:=b.frozen 0;have L:=b.frozen 1;have O:=b.frozen 2;simp at o y r;clear q l h;go_wp2_with fail
   refine(bs (w.heap.size+1) s _ _ _ D).mono ?_;rintro e w' ⟨rfl,rfl⟩;go_wp2_with fail
   refine(W.out _).mono ?_;rintro e w' ⟨rfl,rfl⟩;go_wp2;refine zp (v:= .tuple #[.agg #[.int .u64 id,.string ByteArray.empty,.string (S.extract sz n)],.int .i64 ((k:Int)+n),.int .i64 0]) (by simp[results,Tryz.results75,go_sem,nU,o,y,r]) rfl ?_;exact tN z.out (by omega) (((C.out.setCell (by simp) _).setCell (by simp) _).setCell (by simp) _)
  have z:=za (by have:=u.out;rw[zj (by simp),zj E,zl g0]at this;exact this);clear u F g0;go_enter Tryz.func75,Tryz.ntmps75
  go_wp2_with fail
  refine(G.out _).mono ?_;rintro e w' ⟨rfl,rfl⟩;go_wp2_with fail
  refine(ru s _).mono ?_;rintro e d ⟨rfl,c⟩;have p:iO d (w.heap.size+1) s 0 0:=by rw[c];have:=af.new (w.alloc (.cells #[.int .u64 0,.string ⟨#[]⟩,.string ⟨#[]⟩] 74)) 208 #[.string s,.int .i64 0,.int .i64 0];rw[zu]at this;exact this
  have x:af d w.heap.size 74 #[.int .u64 0,.string ⟨#[]⟩,.string ⟨#[]⟩]:=by rw[c];exact(af.new w _ _).alloc _
  have m:Below w.heap.size w d:=by rw[c];exact bM
  have M:d.heap.size=w.heap.size+2:=by rw[c];simp
  rw[zu];clear c;go_wp2_with fail
  refine(eA (w.heap.size+1) s 0 k _ p A (by omega)).mono ?_;rintro e R ⟨rfl,h,i⟩;rw[zQ]at h;have q:=x.only i (by simp);have J:=i.size;have l:=m.trans (i.below (B:=w.heap.size) (by omega) (by simp));clear p x m;go_wp2_with fail
  refine(eA (w.heap.size+1) s k n _ h A (by omega)).mono ?_;rintro e w3 ⟨rfl,D,j⟩;rw[N.out];have b:=q.only j (by simp);have C:=za (l.trans (j.below (B:=w.heap.size) (by omega) (by simp)));have o:=b.cell 0;have y:=b.cell 1;have r:=b.cell 2;have U:=b.frozen 0;have L:=b.frozen 1;have O:=b.frozen 2;simp at o y r;clear q l h;go_wp2_with fail
  refine(bs (w.heap.size+1) s _ _ _ D).mono ?_;rintro e w' ⟨rfl,rfl⟩;go_wp2_with fail
  refine(W.out _).mono ?_;rintro e w' ⟨rfl,rfl⟩;go_wp2;refine zp (v:= .tuple #[.agg #[.int .u64 0,.string ByteArray.empty,.string ByteArray.empty],.int .i64 0,.int .i64 3]) (by simp[results,Tryz.results75,go_sem,nU,o,y,r]) rfl ?_;exact tN z.out rfl (((C.out.setCell (by simp) _).setCell (by simp) _).setCell (by simp) _)
 have z:=za (by have:=u.out;rw[zl H]at this;exact this);clear u I H;go_enter Tryz.func75,Tryz.ntmps75
 go_wp2_with fail
 refine(G.out _).mono ?_;rintro e w' ⟨rfl,rfl⟩;go_wp2;refine zp (v:= .tuple #[.agg #[.int .u64 0,.string ByteArray.empty,.string ByteArray.empty],.int .i64 0,.int .i64 K]) (by simp[results,Tryz.results75,go_sem,nU]) rfl ?_;exact tN z.out rfl bM
theorem Ws {L:List UInt8}{j i n:Nat}{X:Nat}(b:n+mt L (j+n) (i+n) (64-n)=X)(e:n<64)(d:i+n<L.length)(c:L[j+n]?=L[i+n]?):(n+1)+mt L (j+(n+1)) (i+(n+1)) (64-(n+1))=X:=by
 rw[<-b,show 64-n=(64-(n+1))+1 from by omega,mt,zl ⟨d,c⟩];rw[show j+(n+1)=j+n+1 from by omega,show i+(n+1)=i+n+1 from by omega];omega
theorem Po {L:List UInt8}{j i n:Nat}{X:Nat}(c:n+mt L (j+n) (i+n) (64-n)=X)(k:n<=64)(h:¬n<64\/¬i+n<L.length\/L[j+n]?≠L[i+n]?):X=n:=by
 rw[<-c];by_cases e:n<64
 ·rw[show 64-n=(64-(n+1))+1 from by omega,mt,zj (by
   rintro⟨d,b⟩;rcases h with h|h|h
   ·exact h e
   ·exact h d
   exact h b)];rfl
 rw[show 64-n=0 from by omega];rfl
theorem Ko {s:ByteArray}{a b:Nat}(d:a<s.size)(c:b<s.size):(s[a].toNat==s[b].toNat)=true↔s.data.toList[a]?=s.data.toList[b]?:=by
 rw[gz s a d,gz s b c];simp[zW]
theorem Ir (w:World)(a b:Nat):(w.drewN a).drewN b=w.drewN (a+b):=by simp[World.drewN,yv]
theorem CW {k:IntKind}{a b:Nat}(h:a=b):Ending.returned (.int k b)= .returned (.int k a):=by rw[h]
theorem Tg (s:ByteArray)(j i:Nat)(w:World)(D:j<i)(hi:i<=s.size)(x:s.size<=9223372036854775000):
 Calls Tryz.prog 159 #[.string s,.int .i64 j,.int .i64 i] w fun e w'=>e= .returned (.int .i64 (mt s.data.toList j i 64))/\∃m,w'=w.drewN m:=by
 go_enter Tryz.func159,Tryz.ntmps159
 go_wp2;go_loopw [7] (fun v wr=>∃n:Nat,n<=64/\n<=64/\v= .int .i64 n/\Hid (n+mt s.data.toList (j+n) (i+n) (64-n)=mt s.data.toList j i 64)/\∃m,wr=w.drewN m) (fun v _=>64-(intOf v).toNat)
 case atStart=>exact⟨0,by omega,by omega,rfl,za (by simp),0,rfl⟩
 case round=>
  obtain⟨n,k,_,rfl,b,m,rfl⟩:=hrel;by_cases o:n<64
  ·have q:decide ((n:Int)<64)=true:=zH (by omega);have C:IntKind.i64.wrap ((i:Int)+n)=(i:Int)+n:=yg _ (by omega);have E:IntKind.i64.wrap ((j:Int)+n)=(j:Int)+n:=yg _ (by omega);by_cases c:i+n<s.size
   ·have r:decide ((i:Int)+n<s.size)=true:=zH (by omega);have y:((j:Int)+n).toNat=j+n:=by omega
    have F:((i:Int)+n).toNat=i+n:=by omega
    have z:0<=(j:Int)+n:=by omega
    have B:0<=(i:Int)+n:=by omega
    have u:(j:Int)+n<s.size:=by omega
    have A:(i:Int)+n<s.size:=by omega
    have l:j+n<s.size:=by omega
    rcases xr (s[j+n].toNat==s[i+n].toNat)with hb|hb
    ·have d:=za ((Ko l c).1 hb);have p:((s[j+n].toNat:Int)==s[i+n].toNat)=true:=by
      have:=eq_of_beq hb;rw[this];simp
     clear hb;go_wp2;go_quiet (fail)
     go_wp2;go_roundw
     case rel=>exact⟨n+1,by omega,by omega,by go_num,za (Ws b.out o (by simpa using c) d.out),_,rfl⟩
     case measure=>simp[intOf];omega
    have d:Hid (¬(s.data.toList[j+n]?=s.data.toList[i+n]?)):=za (by
     intro h;rw[(Ko l c).2 h]at hb;exact absurd hb (by decide))
    have p:((s[j+n].toNat:Int)==s[i+n].toNat)=false:=by
     have:=ne_of_beq_false hb;exact zr.2 (by omega)
    clear hb;go_wp2;go_quiet (fail)
    go_wp2;go_ret;exact⟨CW (Po b.out k (.inr (.inr d.out))),_,Ir _ _ _⟩
   have r:decide ((i:Int)+n<s.size)=false:=zz (by omega);go_wp2;go_quiet (fail)
   go_wp2;go_ret;exact⟨CW (Po b.out k (.inr (.inl (by simpa using c)))),_,Ir _ _ _⟩
  have q:decide ((n:Int)<64)=false:=zz (by omega);go_wp2;go_quiet (fail)
  go_wp2;go_ret;exact⟨CW (Po b.out k (.inl o)),_,Ir _ _ _⟩
def Pp (base:Nat)(w:World)(l:List UInt8)(e:Ending)(w':World):Prop:=
 ∃(A:Option Addr) (n cap:Nat),e= .returned (.slice A n cap)/\bJ w' base 5 (.slice A n cap) l/\Kept 5 base w w'
theorem Wt {l:List UInt8}(h:l.length=0):gX l= []:=by unfold gX;rw[zl h]
theorem Wu {l:List UInt8}(h:l.length≠0)(b:l.length<=60):gX l= [ub (4*(l.length-1):Nat)]++l:=by unfold gX;rw[zj h,zl b];rfl
theorem Wv {l:List UInt8}(h:¬l.length<=60)(b:l.length<=256):gX l= [ub (240:Nat),ub (l.length-1:Nat)]++l:=by unfold gX;rw[zj (by omega),zj h,zl b];rfl
theorem Ww {l:List UInt8}(h:¬l.length<=256)(b:l.length<=65536):gX l= [ub (244:Nat)]++(jk (l.length-1) 2++l):=by
 unfold gX;rw[zj (by omega),zj (by omega),zj h];simp only[jk];simp;refine⟨rfl, ?_⟩;rw[Int.emod_eq_of_lt (by omega) (by omega)]
theorem Kp (base:Nat)(v:Value)(l:List UInt8)(s:ByteArray)(w:World)(h:bJ w base 5 v l)(z:base<=w.heap.size)(hl:l.length<=1000000)(U:s.size<=65536):
 Calls Tryz.prog 158 #[v,.string s] w (Pp base w (l++gX s.data.toList)):=by
 obtain⟨i0,hi,j,d,c⟩:=yQ rm;obtain⟨A,cap,rfl,Y,Z⟩:=h.form;generalize hn:l.length=n at*;have i:=aa s;by_cases q:s.size=0
 ·have J:((s.size:Int)==0)=true:=by simp[q]
  have k:=za (Wt (l:=s.data.toList) (by omega));clear q i;go_enter Tryz.func158,Tryz.ntmps158
  go_wp2;go_ret;exact⟨A,n,cap,rfl,by rw[k.out,xx];exact h,Kept.refl _ _ _⟩
 have J:((s.size:Int)==0)=false:=zr.2 (by omega);have X:1<=s.size:=by omega
 by_cases h1:s.size<=60
 ·have k:=za (Wu (l:=s.data.toList) (by omega) (by omega));have o:=za (show s.data.toList.length-1=s.size-1 by rw[i]);clear q i;go_enter Tryz.func158,Tryz.ntmps158
  go_wp2_with (first|(at_builtin;refine aN (by rfl) (.tmp 29) (.tmp 34) 31 31 (by rfl) base 5 i0 zx hi j d c (by rfl) (h.alloc _) _ [ub (4*(s.size-1):Nat)] (by rfl) (jW zx w 5 _ [ub (4*(s.size-1):Nat)] 1 (oC (by omega) (by omega))) (by rw[zu];omega) (by simp only[zB,zO];omega) ?_;intro E n1 I G r b)|(at_builtin;refine aN (by rfl) (.tmp 45) (.tmp 46) 31 9 (by rfl) base 5 i0 zx hi j d c (by rfl) r _ s.data.toList (by rfl) (iY zT _ s) (zP (by rw[zu];omega) b.size) (by simp only[zo,zB,zO,aa];omega) ?_;intro u n2 x D p m))
  go_ret;refine⟨u,n2,x,rfl, ?_,((Kept.refl _ _ _).alloc z _).trans (b.trans m)⟩;rw[k.out,o.out,<-zI];exact p
 by_cases h2:s.size<=256
 ·have k:=za (Wv (l:=s.data.toList) (by omega) (by omega));have o:=za (show s.data.toList.length-1=s.size-1 by rw[i]);clear q i;go_enter Tryz.func158,Tryz.ntmps158
  go_wp2_with (first|(at_builtin;refine aN (by rfl) (.tmp 39) (.tmp 43) 31 31 (by rfl) base 5 i0 zx hi j d c (by rfl) (h.alloc _) _ [ub (240:Nat),ub (s.size-1:Nat)] (by rfl) (jW zx w 5 _ [ub (240:Nat),ub (s.size-1:Nat)] 2 (OB (by omega) (by omega) (by omega) (by omega))) (by rw[zu];omega) (by simp only[zB,zO];omega) ?_;intro E n1 I G r b)|(at_builtin;refine aN (by rfl) (.tmp 45) (.tmp 46) 31 9 (by rfl) base 5 i0 zx hi j d c (by rfl) r _ s.data.toList (by rfl) (iY zT _ s) (zP (by rw[zu];omega) b.size) (by simp only[zo,zB,zO,aa];omega) ?_;intro u n2 x D p m))
  go_ret;refine⟨u,n2,x,rfl, ?_,((Kept.refl _ _ _).alloc z _).trans (b.trans m)⟩;rw[k.out,o.out,<-zI];exact p
 have k:=za (Ww (l:=s.data.toList) (by omega) (by omega));have o:=za (show s.data.toList.length-1=s.size-1 by rw[i]);have C:=za (jA (s.size-1) 2 w (by omega) (by omega) (by omega));rw[show((s.size-1:Nat):Int)=(s.size:Int)-1 from by omega]at C;have B:(⟨(jk (s.size-1) 2).toArray⟩:ByteArray).data.toList=jk (s.size-1) 2:=rfl;generalize (⟨(jk (s.size-1) 2).toArray⟩:ByteArray)=T at*;have W:T.data.toList.length=2:=by rw[B,bd]
 have M:=za B;clear q i B;go_enter Tryz.func158,Tryz.ntmps158
 go_wp2_with fail
 refine C.out.mono ?_;rintro e F ⟨rfl,y⟩;have hz:=y.size;have R:=h.below y;have L:Kept 5 base w F:=Kept.ah y (zi _) z;go_wp2_with (first|(at_builtin;refine aN (by rfl) (.tmp 17) (.tmp 18) 31 31 (by rfl) base 5 i0 zx hi j d c (by rfl) (R.alloc _) _ [ub (244:Nat)] (by rfl) (jW zx F 5 _ [ub (244:Nat)] 1 (oC (by omega) (by omega))) (by rw[zu];omega) (by simp only[zB,zO];omega) ?_;intro E n1 I G r b)|(at_builtin;refine aN (by rfl) (.tmp 19) (.tmp 20) 31 9 (by rfl) base 5 i0 zx hi j d c (by rfl) r _ T.data.toList (by rfl) (iY zT _ T) (zP (by rw[zu];omega) b.size) (by simp only[zo,zB,zO];omega) ?_;intro u n2 x D p m)|(at_builtin;refine aN (by rfl) (.tmp 45) (.tmp 46) 31 9 (by rfl) base 5 i0 zx hi j d c (by rfl) p _ s.data.toList (by rfl) (iY zT _ s) (zP (by rw[zu];omega) (b.trans m).size) (by simp only[zo,zB,zO,aa];rw[<-aa T];omega) ?_;intro N K O w3 H S))
 go_ret;refine⟨N,K,O,rfl, ?_,L.trans (((Kept.refl _ _ _).alloc (by omega) _).trans (b.trans (m.trans S)))⟩;rw[M.out]at H;rw[k.out,o.out,<-zI,<-zI];exact H
theorem Wx {n d:Nat}(h:n<=11)(b:d<2048):kM n d= [ub (1+4*(n-4)+32*(d/256):Nat),ub (d%256:Nat)]:=by unfold kM;rw[zl ⟨h,b⟩]
theorem Wy {n d:Nat}(h:¬(n<=11/\d<2048))(hd:d<65536):kM n d= [ub (2+4*(n-1):Nat)]++jk d 2:=by
 unfold kM;rw[zj h];simp only[jk];simp;rw[Int.emod_eq_of_lt (by omega) (by omega)]
theorem Th (base:Nat)(v:Value)(l:List UInt8)(n d:Nat)(w:World)(h:bJ w base 5 v l)(r:base<=w.heap.size)(S:l.length<=1000000)(M:4<=n)(W:n<=64)(hd:d<65536):
 Calls Tryz.prog 160 #[v,.int .i64 n,.int .i64 d] w (Pp base w (l++kM n d)):=by
 obtain⟨i0,hi,m,k,i⟩:=yQ rm;obtain⟨A,cap,rfl,L,N⟩:=h.form;generalize R:l.length=U at*;by_cases b:n<=11/\d<2048
 ·obtain⟨b,x⟩:=b;have q:=za (Wx b x);have X:decide ((d:Int)<2048)=true:=zH (by omega);go_enter Tryz.func160,Tryz.ntmps160
  go_wp2_with (at_builtin;refine aN (by rfl) (.tmp 15) (.tmp 28) 31 31 (by rfl) base 5 i0 zx hi m k i (by rfl) (h.alloc _) _ [ub (1+4*(n-4)+32*(d/256):Nat),ub (d%256:Nat)] (by rfl) (jW zx w 5 _ [ub (1+4*(n-4)+32*(d/256):Nat),ub (d%256:Nat)] 2 (OB (by omega) (by omega) (by omega) (by omega))) (by rw[zu];omega) (by simp only[zB,zO];omega) ?_;intro u n1 z J p c)
  go_ret;exact⟨u,n1,z,rfl,by rw[q.out];exact p,((Kept.refl _ _ _).alloc r _).trans c⟩
 have q:=za (Wy b hd);have C:11<n\/(n<=11/\2048<=d):=by omega
 have G:=za (jA d 2 w (by omega) (by omega) (by omega));have o:(⟨(jk d 2).toArray⟩:ByteArray).data.toList=jk d 2:=rfl;generalize (⟨(jk d 2).toArray⟩:ByteArray)=T at*;have K:T.data.toList.length=2:=by rw[o,bd]
 have E:=za o;clear b o;rcases C with b|⟨b,x⟩;all_goals
  go_enter Tryz.func160,Tryz.ntmps160
  go_wp2_with fail
  refine G.out.mono ?_;rintro e y ⟨rfl,j⟩;have hz:=j.size;have H:=h.below j;have D:Kept 5 base w y:=Kept.ah j (zi _) r;go_wp2_with (first|(at_builtin;refine aN (by rfl) (.tmp 36) (.tmp 42) 31 31 (by rfl) base 5 i0 zx hi m k i (by rfl) (H.alloc _) _ [ub (2+4*(n-1):Nat)] (by rfl) (jW zx y 5 _ [ub (2+4*(n-1):Nat)] 1 (oC (by omega) (by omega))) (by rw[zu];omega) (by simp only[zB,zO];omega) ?_;intro u n1 z J p c)|(at_builtin;refine aN (by rfl) (.tmp 43) (.tmp 44) 31 9 (by rfl) base 5 i0 zx hi m k i (by rfl) p _ T.data.toList (by rfl) (iY zT _ T) (zP (by rw[zu];omega) c.size) (by simp only[zo,zB,zO];omega) ?_;intro B n2 I O s F))
  go_ret;refine⟨B,n2,I,rfl, ?_,D.trans (((Kept.refl _ _ _).alloc (by omega) _).trans (c.trans F))⟩;rw[E.out]at s;rw[q.out,<-zI];exact s
abbrev tj (w:World)(g:Nat)(a u t p:Nat):Prop:=af w g 109 #[.int .i64 a,.int .i64 u,.int .i64 t,.int .i64 p]
theorem Is (n:Int)(w:World):
 Calls Tryz.prog 30 #[.int .i64 n] w fun e w'=>e= .returned (.pointer (some ⟨w.heap.size,0,none⟩))/\w'=w.alloc (.cells #[.int .i64 (n.toNat:Nat),.int .i64 0,.int .i64 0,.int .i64 0] 109):=by
 by_cases h:n<0
 ·have b:((n.toNat:Nat):Int)=0:=by omega
  rw[b];clear b;go_enter Tryz.func30,Tryz.ntmps30
  go_wp2;go_ret;exact⟨rfl,rfl⟩
 have b:((n.toNat:Nat):Int)=n:=by omega
 rw[b];clear b;go_enter Tryz.func30,Tryz.ntmps30
 go_wp2;go_ret;exact⟨rfl,rfl⟩
theorem Ti (g a u t p:Nat)(w:World)(h:tj w g a u t p):
 Calls Tryz.prog 33 #[.pointer (some ⟨g,0,none⟩)] w fun e w'=>e= .returned (.int .i64 t)/\w=w':=by
 have b:=h.cell 2;simp at b;clear h;go_enter Tryz.func33,Tryz.ntmps33
 go_wp2;go_ret;exact⟨rfl,rfl⟩
theorem Fl (a b:Nat)(d:a<=9223372036854775807)(c:b<=9223372036854775807):IntKind.i64.wrap ((a:Int)-b)=(a:Int)-b:=yg _ (by omega)
theorem vo (g b c a u t n:Nat)(w:World)(r:w.cell? ⟨g,0,none⟩=some (.int .i64 a))(q:w.cell? ⟨g,1,none⟩=some (.int .i64 u))(s:w.cell? ⟨g,2,none⟩=some (.int .i64 t))(i:w.cell? ⟨b,0,none⟩=some (.int .i64 n))(l:w.cell? ⟨c,0,none⟩=some (.pointer (some ⟨g,0,none⟩)))
 (p:a<=9223372036854775807) (hu:u<=a) (d:(n:Int)<=a-u) (m:t+n<=9223372036854775807):
 Calls Tryz.prog 46 #[.pointer (some ⟨b,0,none⟩),.pointer (some ⟨c,0,none⟩)] w fun e w'=>e= .returned (.int .i64 0)/\∃k,w.drewN k=w':=by
 have hd:decide ((a:Int)-u<n)=false:=by simpa using d
 have o:=Fl a u (by omega) (by omega);have j:IntKind.i64.wrap (9223372036854775807-(t:Int))=9223372036854775807-(t:Int):=yg _ (by omega);have h:decide (9223372036854775807-(t:Int)<n)=false:=by simp;omega
 go_enter Tryz.func46,Tryz.ntmps46
 go_wp2;go_quiet (fail)
 go_wp2;go_ret;exact⟨rfl,_,rfl⟩
theorem CX (g b c u t n:Nat)(w:World)(l:w.cell? ⟨g,1,none⟩=some (.int .i64 u))(o:w.cell? ⟨g,2,none⟩=some (.int .i64 t))(f1:w.frozen? ⟨g,1,none⟩=false)(f2:w.frozen? ⟨g,2,none⟩=false)(i:w.cell? ⟨b,0,none⟩=some (.int .i64 n))(j:w.cell? ⟨c,0,none⟩=some (.pointer (some ⟨g,0,none⟩)))
 (n1:g≠b) (n2:g≠c) (hu:u+n<=9223372036854775807) (k:t+n<=9223372036854775807):
 Calls Tryz.prog 47 #[.pointer (some ⟨c,0,none⟩),.pointer (some ⟨b,0,none⟩)] w fun e w'=>e= .returned (.tuple #[])/\∃m,((w.setCell ⟨g,1,none⟩ (.int .i64 (u+n:Nat))).setCell ⟨g,2,none⟩ (.int .i64 (t+n:Nat))).drewN m=w':=by
 have h:((u+n:Nat):Int)=(u:Int)+n:=by omega
 have d:((t+n:Nat):Int)=(t:Int)+n:=by omega
 rw[h,d];clear h d;go_enter Tryz.func47,Tryz.ntmps47
 go_wp2;go_region
 all_goals go_wp2
 go_region
 all_goals go_wp2
 go_end0
 exact⟨rfl,2,rfl⟩
theorem Tj (g j i a u t p n q s:Nat)(w:World)(c:Hid (u+n=q))(l:Hid (t+n=s))(h:tj w g a u t p)(x:w.cell? ⟨j,0,none⟩=some (.int .i64 n))(y:w.cell? ⟨i,0,none⟩=some (.pointer (some ⟨g,0,none⟩)))(n1:g≠j)(n2:g≠i)(G:a<=9223372036854775807)(L:q<=a)(K:s<=9223372036854775807):
 Calls Tryz.prog 45 #[.pointer (some ⟨g,0,none⟩),.int .i64 n,.func (.func 46) #[] #[.pointer (some ⟨j,0,none⟩),.pointer (some ⟨i,0,none⟩)],.func (.func 47) #[] #[.pointer (some ⟨i,0,none⟩),.pointer (some ⟨j,0,none⟩)]] w
  fun e w'=>e= .returned (.int .i64 0)/\tj w' g a q s (max p q)/\ae [g] w w':=by
 have D:=h.cell 0;have o:=h.cell 1;have r:=h.cell 2;have E:=h.frozen 1;have F:=h.frozen 2;simp at D o r;have H:=za h;clear h;rcases Nat.lt_trichotomy p q with hp|hp|hp
 ·rw[Nat.max_eq_right (by omega)];go_enter Tryz.func45,Tryz.ntmps45
  go_wp2_with fail
  refine(vo g j i a u t n w D o r x y G (by have:=c.out;omega) (by have:=c.out;omega) (by have:=l.out;omega)).mono ?_;rintro e J ⟨rfl,k,rfl⟩;go_wp2_with fail
  refine(CX g j i u t n (w.drewN k) o r E F x y n1 n2 (by have:=c.out;omega) (by have:=l.out;omega)).mono ?_;rintro e w3 ⟨rfl,m,d⟩;have b:tj w3 g a q s p:=by
   rw[<-d,c.out,l.out];have h:=H.out;unfold tj at h⊢
   (repeat(first|with_reducible assumption|with_reducible apply af.drewN|with_reducible apply af.drew|with_reducible apply af.alloc|((with_reducible apply af.beside); · (first|omega|(simp<;>omega)))|with_reducible apply af.store));all_goals(first|rfl|simp)
  have z:ae [g] w w3:=by rw[<-d];exact Cx
  clear d;have C:=b.cell 1;have A:=b.cell 3;have I:=b.frozen 3;simp at C A;have B:=za b;clear b;go_wp2;go_region
  all_goals
   go_wp2;go_ret;refine⟨rfl, ?_,z.up⟩;have h:=B.out;unfold tj at h⊢
   (repeat(first|with_reducible assumption|with_reducible apply af.drewN|with_reducible apply af.drew|with_reducible apply af.alloc|((with_reducible apply af.beside); · (first|omega|(simp<;>omega)))|with_reducible apply af.store));all_goals(first|rfl|simp)
 ·obtain rfl:q=p:=hp.symm;rw[Nat.max_self];clear hp;go_enter Tryz.func45,Tryz.ntmps45
  go_wp2_with fail
  refine(vo g j i a u t n w D o r x y G (by have:=c.out;omega) (by have:=c.out;omega) (by have:=l.out;omega)).mono ?_;rintro e J ⟨rfl,k,rfl⟩;go_wp2_with fail
  refine(CX g j i u t n (w.drewN k) o r E F x y n1 n2 (by have:=c.out;omega) (by have:=l.out;omega)).mono ?_;rintro e w3 ⟨rfl,m,d⟩;have b:tj w3 g a q s q:=by
   rw[<-d,c.out,l.out];have h:=H.out;unfold tj at h⊢
   (repeat(first|with_reducible assumption|with_reducible apply af.drewN|with_reducible apply af.drew|with_reducible apply af.alloc|((with_reducible apply af.beside); · (first|omega|(simp<;>omega)))|with_reducible apply af.store));all_goals(first|rfl|simp)
  have z:ae [g] w w3:=by rw[<-d];exact Cx
  clear d;have C:=b.cell 1;have A:=b.cell 3;have I:=b.frozen 3;simp at C A;have B:=za b;clear b;go_wp2;go_region
  all_goals
   go_wp2;go_ret;refine⟨rfl, ?_,z.up⟩;have h:=B.out;unfold tj at h⊢
   (repeat(first|with_reducible assumption|with_reducible apply af.drewN|with_reducible apply af.drew|with_reducible apply af.alloc|((with_reducible apply af.beside); · (first|omega|(simp<;>omega)))|with_reducible apply af.store));all_goals(first|rfl|simp)
 rw[Nat.max_eq_left (by omega)];go_enter Tryz.func45,Tryz.ntmps45
 go_wp2_with fail
 refine(vo g j i a u t n w D o r x y G (by have:=c.out;omega) (by have:=c.out;omega) (by have:=l.out;omega)).mono ?_;rintro e J ⟨rfl,k,rfl⟩;go_wp2_with fail
 refine(CX g j i u t n (w.drewN k) o r E F x y n1 n2 (by have:=c.out;omega) (by have:=l.out;omega)).mono ?_;rintro e w3 ⟨rfl,m,d⟩;have b:tj w3 g a q s p:=by
  rw[<-d,c.out,l.out];have h:=H.out;unfold tj at h⊢
  (repeat(first|with_reducible assumption|with_reducible apply af.drewN|with_reducible apply af.drew|with_reducible apply af.alloc|((with_reducible apply af.beside); · (first|omega|(simp<;>omega)))|with_reducible apply af.store));all_goals(first|rfl|simp)
 have z:ae [g] w w3:=by rw[<-d];exact Cx
 clear d;have C:=b.cell 1;have A:=b.cell 3;have I:=b.frozen 3;simp at C A;have B:=za b;clear b;go_wp2;go_region
 all_goals
  go_wp2;go_ret;refine⟨rfl, ?_,z.up⟩;have h:=B.out;unfold tj at h⊢
  (repeat(first|with_reducible assumption|with_reducible apply af.drewN|with_reducible apply af.drew|with_reducible apply af.alloc|((with_reducible apply af.beside); · (first|omega|(simp<;>omega)))|with_reducible apply af.store));all_goals(first|rfl|simp)
theorem qa (g a u t p n:Nat)(w:World)(h:tj w g a u t p)(l:a<=9223372036854775807)(o:u+n<=a)(j:t+n<=9223372036854775807):
 Calls Tryz.prog 31 #[.pointer (some ⟨g,0,none⟩),.int .i64 n] w fun e w'=>e= .returned (.int .i64 0)/\tj w' g a (u+n) (t+n) (max p (u+n))/\ae [g] w w':=by
 have r:=h.lt;have d:=(h.alloc (.cells #[.pointer (some ⟨g,0,none⟩)] 79)).alloc (.cells #[.int .i64 n] 3);have b:((w.alloc (.cells #[.pointer (some ⟨g,0,none⟩)] 79)).alloc (.cells #[.int .i64 n] 3)).cell? ⟨w.heap.size+1,0,none⟩=some (.int .i64 n):=by
  simp
 have c:((w.alloc (.cells #[.pointer (some ⟨g,0,none⟩)] 79)).alloc (.cells #[.int .i64 n] 3)).cell? ⟨w.heap.size,0,none⟩=some (.pointer (some ⟨g,0,none⟩)):=by
  simp
 have i:=za (Tj g (w.heap.size+1) w.heap.size a u t p n _ _ _ (za rfl) (za rfl) d b c (by omega) (by omega) l o j);clear d b c h;go_enter Tryz.func31,Tryz.ntmps31
 go_wp2_with fail
 refine i.out.mono ?_;rintro e q ⟨rfl,k,m⟩;go_wp2;go_ret;exact⟨rfl,k,(((ae.refl [g] w).alloc _).alloc _).trans m⟩
def jm (w:World)(g:Nat)(s:ByteArray)(p L:Nat):Prop:=af w g 150 #[.string s,.int .i64 p,.int .i64 L]
theorem jm.cells {w:World}{g:Nat}{s:ByteArray}{p L:Nat}(h:jm w g s p L):w.cell? ⟨g,0,none⟩=some (.string s)/\w.cell? ⟨g,1,none⟩=some (.int .i64 p)/\w.cell? ⟨g,2,none⟩=some (.int .i64 L)/\w.frozen? ⟨g,0,none⟩=false/\w.frozen? ⟨g,1,none⟩=false/\w.frozen? ⟨g,2,none⟩=false/\g<w.heap.size:=by
 obtain⟨a,b,c,d,e,f⟩:=a8 h;exact⟨a,b,c,d,e,f,af.lt h⟩
theorem jm.to {w:World}{g:Nat}{s:ByteArray}{p L:Nat}{n:Int}{q:Nat}(h:jm w g s p L)(b:n=q):jm (w.setCell ⟨g,1,none⟩ (.int .i64 n)) g s q L:=by
 subst b;exact af.store h rfl
theorem jm.less {w:World}{g:Nat}{s:ByteArray}{p L:Nat}{n:Int}{q:Nat}(h:jm w g s p L)(b:n=q):jm (w.setCell ⟨g,2,none⟩ (.int .i64 n)) g s p q:=by
 subst b;exact af.store h rfl
theorem eW (g:Nat)(s:ByteArray)(p L:Nat)(b:Nat)(w:World)(h:jm w g s p L)(k:p<s.size)(i:s.size<=100000)(c:s[p].toNat=b):
 Calls Tryz.prog 149 #[.pointer (some ⟨g,0,none⟩),.int .u8 b] w fun e w'=>e= .returned (.bool true)/\jm w' g s (p+1) L/\ae [g] w w':=by
 obtain⟨g0,g1,g2,f0,f1,f2,j⟩:=h.cells;have d:=za h;subst c;clear h;have i1:((p:Int)==(s.size:Int))=false:=zr.2 (by omega);go_enter Tryz.func149,Tryz.ntmps149
 go_wp2_with fail
 go_quiet (fail)
 go_wp2;go_ret;exact⟨rfl,(show jm (w.drewN _) g s p L from d.out).to (by go_num),Cx⟩
theorem gp (g:Nat)(s:ByteArray)(p L:Nat)(b:Nat)(w:World)(h:jm w g s p L)(k:p<=s.size)(i:s.size<=100000)(c:∀d:p<s.size,s[p].toNat≠b):
 Calls Tryz.prog 149 #[.pointer (some ⟨g,0,none⟩),.int .u8 b] w fun e w'=>e= .returned (.bool false)/\∃n,w'=w.drewN n:=by
 obtain⟨g0,g1,g2,f0,f1,f2,j⟩:=h.cells;clear h;by_cases d:p<s.size
 ·have i1:((p:Int)==(s.size:Int))=false:=zr.2 (by omega);have i2:((s[p].toNat:Int) !=(b:Int))=true:=yP.2 (by have:=c d;omega);clear c;go_enter Tryz.func149,Tryz.ntmps149
  go_wp2_with fail
  go_quiet (fail)
  go_wp2;go_ret;exact⟨rfl,_,rfl⟩
 have i1:((p:Int)==(s.size:Int))=true:=xh.2 (by omega);clear c;go_enter Tryz.func149,Tryz.ntmps149
 go_wp2_with fail
 go_quiet (fail)
 go_wp2;go_ret;exact⟨rfl,_,rfl⟩
def Pq :Option Value->Nat
 |some (.int _ z)=>z.toNat
 |_=>0
theorem Iu (g:Nat)(s:ByteArray)(p L most:Nat)(w:World)(h:jm w g s p L)(M:p<=s.size)(Y:s.size<=100000)(hm:most<=65536):
 Calls Tryz.prog 148 #[.pointer (some ⟨g,0,none⟩),.int .i64 most] w fun e w'=>∃(n:Nat) (ok:Bool) (q:Nat),e= .returned (.tuple #[.int .i64 n,.bool ok])/\jm w' g s q L/\ae [g] w w'/\n7 most s p n ok q:=by
 obtain⟨g0,g1,g2,f0,f1,f2,hl⟩:=h.cells;have K:=za h;clear h;go_enter Tryz.func148,Tryz.ntmps148
 go_wp2_with fail
 go_loopw [7] (fun W wr=>∃k m:Nat,p<=k/\k<=s.size/\W= .int .i64 m/\m<=most/\Hid (kP s p k m)/\Hid (jm wr g s k L)/\ae [g] w wr) (fun _ wr=>s.size-Pq (wr.cell? ⟨g,1,none⟩))
 case atStart=>exact⟨p,0,by omega,M,rfl,by omega,za (kP.start s p),K,Cx⟩
 case round=>
  obtain⟨k,m,aa,hk,rfl,QL,u,c,l⟩:=hrel;obtain⟨c0,U,c2,X,ab,ad,qu⟩:=c.out.cells;clear g0 g1 g2 f0 f1 f2;have C:(∃_:k<s.size,48<=s[k].toNat/\s[k].toNat<=57)\/(∀h:k<s.size,iU s[k]=false)/\((∃_:k<s.size,48<=s[k].toNat/\¬s[k].toNat<=57)\/(∃_:k<s.size,¬48<=s[k].toNat)\/¬k<s.size):=by
   by_cases b:k<s.size
   ·by_cases i:48<=s[k].toNat
    ·by_cases j:s[k].toNat<=57
     ·exact .inl ⟨b,i,j⟩
     exact .inr ⟨fun _=>by rw[ZD];intro hd;exact j ((kO _).1 hd).2,.inl ⟨b,i,j⟩⟩
    exact .inr ⟨fun _=>by rw[ZD];intro hd;exact i ((kO _).1 hd).1,.inr (.inl ⟨b,i⟩)⟩
   exact .inr ⟨fun h=>absurd h b,.inr (.inr b)⟩
  rcases C with⟨b,i,j⟩|⟨G,C⟩
  ·have i1:decide ((k:Int)<(s.size:Int))=true:=zH (by omega);have i2:decide ((48:Int)<=(s[k].toNat:Int))=true:=zH (by omega);have R:decide ((s[k].toNat:Int)<=(57:Int))=true:=zH (by omega);obtain⟨d,hd⟩:∃d:Nat,s[k].toNat-48=d:=⟨_,rfl⟩
   have e1:IntKind.u8.wrap ((s[k].toNat:Int)-48)=d:=by rw[show(s[k].toNat:Int)-48=d from by omega];exact IntWalk.u8_in _ (by omega)
   have e2:IntKind.i64.wrap (10*(m:Int))=10*m:=yg _ (by omega);have Z:IntKind.i64.wrap (d:Int)=d:=yg _ (by omega);have e4:IntKind.i64.wrap (10*(m:Int)+d)=10*(m:Int)+d:=yg _ (by omega);have H:Hid (kP s p (k+1) (10*m+d)):=za (by
    have:=u.out.next b ((kO _).2 ⟨i,j⟩);rwa [fo,zl (by omega),hd]at this)
   have x:Hid (∀V,jm V g s k L->jm (V.setCell ⟨g,1,none⟩ (.int .i64 ((k:Int)+1))) g s (k+1) L):=za (fun V y=>y.to (by omega));by_cases af:(most:Int)<10*(m:Int)+d
   ·have J:Hid (∀o r,cg (s.data.toList.drop p)=some (o,r)->most<o):=za (fun o r E=>by have:=LV H.out o r E;omega);go_wp2_with fail
    go_quiet (fail)
    go_wp2_with fail
    go_quiet (fail)
    go_wp2;go_ret2
    exact⟨0,false,k+1,rfl,x.out _ (by exact c.out),l.up,EC J.out (by omega) (by omega)⟩
   go_wp2_with fail
   go_quiet (fail)
   go_wp2_with fail
   go_quiet (fail)
   go_wp2;go_roundw
   case rel=>exact⟨k+1,10*m+d,by omega,by omega,by go_num,by omega,H,za (x.out _ (by exact c.out)),l.up⟩
   case measure=>
    have E:=fun V (y:jm V g s k L)=>(x.out V y).cells.2.1
    rw[U,E]
    ·simp only[Pq];omega
    exact c.out
  have B:=za G;clear G;rcases C with⟨b,i,j⟩|⟨b,i⟩|b;all_goals
   first
    |(have i1:decide ((k:Int)<(s.size:Int))=true:=zH (by omega);have i2:decide ((48:Int)<=(s[k].toNat:Int))=true:=zH (by omega);have R:decide ((s[k].toNat:Int)<=(57:Int))=false:=zz (by omega))
    |(have i1:decide ((k:Int)<(s.size:Int))=true:=zH (by omega);have i2:decide ((48:Int)<=(s[k].toNat:Int))=false:=zz (by omega))
    |have i1:decide ((k:Int)<(s.size:Int))=false:=zz (by omega)
   have ek:IntKind.i64.wrap ((k:Int)-p)=(k:Int)-p:=yg _ (by omega);by_cases A:k=p
   ·have I:(((k:Int)-p)==1)=false:=zr.2 (by omega);have S:decide ((1:Int)<(k:Int)-p)=false:=zz (by omega);have D:=za (nD (s:=s) (at_:=p) (fun h=>by have:=B.out (by omega);simpa[A]using this));clear A;go_wp2_with fail
    go_quiet (fail)
    go_wp2_with fail
    go_quiet (fail)
    go_wp2;go_ret2
    exact⟨m,false,k,rfl,c.out,l.up,uQ D.out (by omega) (by omega)⟩
   have F:Hid (p<k):=za (by omega);by_cases N:k=p+1
   ·have I:(((k:Int)-p)==1)=true:=xh.2 (by omega);have z:=za (j4 u.out (by omega) B.out (fun h=>absurd h (by omega)));clear N A;go_wp2_with fail
    go_quiet (fail)
    go_wp2_with fail
    go_quiet (fail)
    go_wp2;go_ret2
    exact⟨m,true,k,rfl,c.out,l.up,Bx z.out (by omega) F.out (by omega)⟩
   have I:(((k:Int)-p)==1)=false:=zr.2 (by omega);have S:decide ((1:Int)<(k:Int)-p)=true:=zH (by omega);have ag:p<s.size:=by omega
   by_cases hz:s[p].toNat=48
   ·have O:((s[p].toNat:Int) !=48)=false:=by simp[hz]
    have D:=za (nE u.out (by omega) (fun _=>hz));clear hz;go_wp2_with fail
    go_quiet (fail)
    go_wp2_with fail
    go_quiet (fail)
    go_wp2;go_ret2
    exact⟨m,false,k,rfl,c.out,l.up,uQ D.out (by omega) (by omega)⟩
   have O:((s[p].toNat:Int) !=48)=true:=yP.2 (by omega);have z:=za (j4 u.out (by omega) B.out (fun _ _=>hz));clear hz;go_wp2_with fail
   go_quiet (fail)
   go_wp2_with fail
   go_quiet (fail)
   go_wp2;go_ret2
   exact⟨m,true,k,rfl,c.out,l.up,Bx z.out (by omega) F.out (by omega)⟩
theorem Pr (g a b c:Nat)(s:ByteArray)(k:Nat)(v:Value)(w:World)(h:iO w g s k 0)(n:af w a 3 #[.int .i64 9])(l:af w b 163 #[.pointer (some ⟨g,0,none⟩)])(i:af w c 9 #[v])(x:k<=s.size)(p:s.size<=9223372036854775807):
 Calls Tryz.prog 207 #[.pointer (some ⟨a,0,none⟩),.pointer (some ⟨b,0,none⟩),.pointer (some ⟨c,0,none⟩)] w fun e w'=>e= .returned (.int .i64 0)/\af w' c 9 #[.string (s.extract k (k+min 9 (s.size-k)))]/\ae [c] w w':=by
 have o:w.cell? ⟨g,0,none⟩=some (.string s):=h.cell 0;have u:w.cell? ⟨g,1,none⟩=some (.int .i64 k):=h.cell 1;have r:w.cell? ⟨a,0,none⟩=some (.int .i64 9):=n.cell 0;have k1:w.cell? ⟨b,0,none⟩=some (.pointer (some ⟨g,0,none⟩)):=l.cell 0;have k2:=i.frozen 0;have y:w.cell? ⟨c,0,none⟩=some v:=i.cell 0;have m:=za i;clear h n l i;by_cases q:s.size<k+9
 ·have d:¬(9:Int)<=(s.size:Int)-k:=by omega
  have j:Hid (s.extract k (k+min 9 (s.size-k))=s.extract k s.size):=za (by congr 1;omega);generalize s.extract k (k+min 9 (s.size-k))=X at*;go_enter Tryz.func207,Tryz.ntmps207
  go_wp2;refine cy 26 (by kernel_rfl) (by kernel_rfl) ?_;simp only[zV,yE,yh,zN];repeat(go_big_quiet_step (fail))
  refine xN ?_;intro nq;go_wp2;go_ret;refine⟨rfl, ?_,Cx⟩;have h:=m.out;rw[j.out]
  (repeat(first|with_reducible assumption|with_reducible apply af.drewN|with_reducible apply af.drew|with_reducible apply af.alloc|((with_reducible apply af.beside); · (first|omega|(simp<;>omega)))|with_reducible apply af.store));all_goals(first|rfl|simp)
 have d:(9:Int)<=(s.size:Int)-k:=by omega
 have j:Hid (s.extract k (k+min 9 (s.size-k))=s.extract k ((k:Int)+9).toNat):=za (by congr 1;omega);generalize s.extract k (k+min 9 (s.size-k))=X at*;go_enter Tryz.func207,Tryz.ntmps207
 go_wp2;refine cy 26 (by kernel_rfl) (by kernel_rfl) ?_;simp only[zV,yE,yh,zN];repeat(go_big_quiet_step (fail))
 refine xN ?_;intro nq;go_wp2;go_ret;refine⟨rfl, ?_,Cx⟩;have h:=m.out;rw[j.out]
 (repeat(first|with_reducible assumption|with_reducible apply af.drewN|with_reducible apply af.drew|with_reducible apply af.alloc|((with_reducible apply af.beside); · (first|omega|(simp<;>omega)))|with_reducible apply af.store));all_goals(first|rfl|simp)
theorem Tk (g:Nat)(s:ByteArray)(k:Nat)(w:World)(h:iO w g s k 0)(n:k<=s.size)(i:s.size<=9223372036854775807):
 Calls Tryz.prog 185 #[.pointer (some ⟨g,0,none⟩),.int .i64 9] w fun e w'=>e= .returned (.string (s.extract k (k+min 9 (s.size-k))))/\iO w' g s k 0/\ae [g] w w':=by
 have d:=h.cell 2;have p:=h.frozen 2;have j:=h.lt;simp at d;have H:=za h;have x:=sj j d;have m:=za (Pr g (w.heap.size+1) w.heap.size (w.heap.size+1+1) s k (.string ⟨#[]⟩) (((w.alloc (.cells #[.pointer (some ⟨g,0,none⟩)] 163)).alloc (.cells #[.int .i64 9] 3)).alloc (.cells #[.string ⟨#[]⟩] 9)) (((h.alloc _).alloc _).alloc _) ((af.at_ (by simp)).alloc _) (((af.new _ _ _).alloc _).alloc _) (af.at_ (by simp)) n i);generalize s.extract k (k+min 9 (s.size-k))=X at*;clear h;go_enter Tryz.func185,Tryz.ntmps185
 go_wp2_with fail
 go_enter Tryz.func156,Tryz.ntmps156
 go_wp2_with fail
 refine m.out.mono ?_;rintro e w' ⟨rfl,hx,b⟩;have u:w'.cell? ⟨w.heap.size+1+1,0,none⟩=some (.string X):=hx.cell 0;have c:iO w' g s k 0:=(((H.out.alloc _).alloc _).alloc _).only b (by simp;omega);have r:=c.frozen 2;have q:w'.cell? ⟨g,2,none⟩=some (.int .i64 0):=c.cell 2;have l:=za c;have o:=za ((((ae.refl [g] w).alloc _).alloc _).alloc _|>.trans' b (by simp;omega));clear c hx b;go_wp2;go_end0
 go_wp2;go_ret;refine⟨rfl, ?_, ?_⟩
 ·have h:=l.out;unfold iO at h⊢
  (repeat(first|with_reducible assumption|with_reducible apply af.drewN|with_reducible apply af.drew|with_reducible apply af.alloc|((with_reducible apply af.beside); · (first|omega|(simp<;>omega)))|with_reducible apply af.store));all_goals(first|rfl|simp)
 have b:=o.out;exact b.up
def od (N:Nat×Nat×Int)(most:Nat):Int:=if N.2.2≠0 then N.2.2 else if most<N.1 then 5 else 0
def qb (N:Nat×Nat×Int)(most:Nat):Nat:=if od N most=0 then N.1 else 0
def sH (N:Nat×Nat×Int)(most k:Nat):Nat:=if od N most=0 then k+N.2.1 else k
theorem nJ (N:Nat×Nat×Int)(most k:Nat):(N.2.2≠0/\od N most=N.2.2/\qb N most=0/\sH N most k=k)\/(N.2.2=0/\most<N.1/\od N most=5/\qb N most=0/\sH N most k=k)\/(N.2.2=0/\¬most<N.1/\od N most=0/\qb N most=N.1/\sH N most k=k+N.2.1):=by
 unfold qb sH od;by_cases h:N.2.2≠0
 ·simp[h]
 by_cases b:most<N.1
 ·simp only[zJ]at h;simp[h,b]
 simp only[zJ]at h;simp[h,b]
theorem Ps (g:Nat)(s:ByteArray)(k most:Nat)(w:World)(h:iO w g s k 0)(L:k<=s.size)(D:s.size<=9223372036854775807)(Z:most<18446744073709551616)(H:bn w)(hg:g≠0):
 Calls Tryz.prog 144 #[.pointer (some ⟨g,0,none⟩),.int .u64 most] w fun e w'=>e= .returned (.int .u64 (qb (aw (s.data.toList.drop k)) most))/\iO w' g s (sH (aw (s.data.toList.drop k)) most k) (od (aw (s.data.toList.drop k)) most)/\ae [g] w w':=by
 have x:=za (bs g s k 0 w h);have y:=za (Tk g s k w h L D);have F:(s.extract k (k+min 9 (s.size-k))).data.toList=(s.data.toList.drop k).take 9:=by
  rw[aj,Z7,show k+min 9 (s.size-k)-k=min 9 (s.size-k)from by omega];by_cases W:9<=s.size-k
  ·rw[yK W]
  rw[Nat.min_eq_right (by omega),zC (by simp),zC (by simp;omega)]
 have G:(s.extract k (k+min 9 (s.size-k))).size<=9223372036854775807:=by rw[an _ _ _ (by omega)];omega
 have u:Hid (∀b,bn b->Calls Tryz.prog 184 #[.string (s.extract k (k+min 9 (s.size-k)))] b fun e w'=>e=BP (aw (s.data.toList.drop k))/\b=w'):=za (fun b R=>by
  have:=Ph _ b G R;rwa [F,EH]at this)
 have A:(aw (s.data.toList.drop k)).2.2=0->k+(aw (s.data.toList.drop k)).2.1<=s.size:=fun S=>by
  have:=(iz (s.data.toList.drop k) (aw (s.data.toList.drop k)).1 (aw (s.data.toList.drop k)).2.1 (by rw[<-S])).2.1;rw[zZ,aa]at this;omega
 have B:=za (fun b (c:ae [g] w b)=>H.only c (by simp;omega));have HH:=za h;generalize s.extract k (k+min 9 (s.size-k))=X at*;generalize aw (s.data.toList.drop k)=N at*;obtain⟨m,z,r⟩:=N;have I:=nJ (m,z,r) most k;generalize od (m,z,r) most=E at*;generalize qb (m,z,r) most=M at*;generalize sH (m,z,r) most k=K at*;simp only at I A;have U:=za A;clear h H F G A;rcases I with⟨C,rfl,rfl,rfl⟩|⟨rfl,O,rfl,rfl,rfl⟩|⟨rfl,O,rfl,rfl,rfl⟩
 ·have b1:(E==0)=false:=zr.2 C;have Y:(E !=0)=true:=yP.2 C;go_enter Tryz.func144,Tryz.ntmps144
  go_wp2_with fail
  refine x.out.mono ?_;rintro e w' ⟨rfl,rfl⟩;go_wp2_with fail
  refine y.out.mono ?_;rintro e b ⟨rfl,j,c⟩;have n:=za j;have o:=za c;have p:=za (u.out b (B.out b c));clear j c;go_wp2_with fail
  refine p.out.mono ?_;rintro e w' ⟨rfl,rfl⟩;unfold BP;go_wp2_with fail
  refine(iA g s K E b n.out).mono ?_;rintro e J ⟨rfl,d,i⟩;have q:=za d;have l:=za i;clear d i;go_wp2;go_ret;exact⟨rfl,q.out,o.out.trans l.out⟩
 ·skip
  go_enter Tryz.func144,Tryz.ntmps144
  go_wp2_with fail
  refine x.out.mono ?_;rintro e w' ⟨rfl,rfl⟩;go_wp2_with fail
  refine y.out.mono ?_;rintro e b ⟨rfl,j,c⟩;have n:=za j;have o:=za c;have p:=za (u.out b (B.out b c));clear j c;go_wp2_with fail
  refine p.out.mono ?_;rintro e w' ⟨rfl,rfl⟩;unfold BP;go_wp2_with fail
  refine(iA g s K 5 b n.out).mono ?_;rintro e J ⟨rfl,d,i⟩;have q:=za d;have l:=za i;clear d i;go_wp2;go_ret;exact⟨rfl,q.out,o.out.trans l.out⟩
 skip
 go_enter Tryz.func144,Tryz.ntmps144
 go_wp2_with fail
 refine x.out.mono ?_;rintro e w' ⟨rfl,rfl⟩;go_wp2_with fail
 refine y.out.mono ?_;rintro e b ⟨rfl,j,c⟩;have n:=za j;have o:=za c;have p:=za (u.out b (B.out b c));clear j c;go_wp2_with fail
 refine p.out.mono ?_;rintro e w' ⟨rfl,rfl⟩;unfold BP;go_wp2_with fail
 refine(eA g s k z b n.out D (U.out trivial)).mono ?_;rintro e J ⟨rfl,d,i⟩;have q:=za d;have l:=za i;clear d i;go_wp2;go_ret;exact⟨rfl,q.out,o.out.trans l.out⟩
