/- A region that draws its order, whose operations only read (or call what only reads) but for a forced tail: one walk of the lexical order, then the tail. Own law; no program in sight. -/
import Derived.BigQuiet
import Derived.Test.YtdbmifjankgfpaaGreatDoorKA10
set_option linter.all false
set_option maxRecDepth 100000
set_option maxHeartbeats 2000000
open Go.Proofs.Tryz
namespace Go.Proofs.YtdbmifjankgfpaaGreatDoor
open Go.RowKit
variable {n a g i d p L j X q:Nat}{w:World}{s:ByteArray}{l:List UInt8}
def yc:=@IntWalk.i64_in
def yy:=@getD_replicate_false
def xE:=@wpQuiet_nil
def Zj:=@getD_both
def Ya:=@ready_mono
theorem Nj (n:Nat)(d:1<=n)(c:n<=31):bits .and .u64 (IntKind.u64.wrap (-(n:Int))) 31=((32-n:Nat):Int):=by
 have e:IntKind.u64.wrap (-(n:Int))=((18446744073709551616-n:Nat):Int):=by
  simp[IntKind.wrap,IntKind.signed,IntKind.bits];omega
 have h:=u64_and_nat (18446744073709551616-n) 31 (by omega) (by omega);rw[e];have b:((31:Nat):Int)=31:=rfl;rw[b]at h;rw[h,show(31:Nat)=2^5-1 from rfl,Nat.and_two_pow_sub_one_eq_mod];omega
theorem TX (x n:Nat)(hx:x<4294967296):bits .or .u32 ((x:Int)*2^(32-n)%4294967296) ((x:Int)/2^n)=((iF x n:Nat):Int):=by
 have h:=u32_or_nat (x*2^(32-n)%4294967296) (x/2^n) (xo _ (by omega)) (mO n hx);have c:((x*2^(32-n)%4294967296:Nat):Int)=(x:Int)*2^(32-n)%4294967296:=by simp
 have b:((x/2^n:Nat):Int)=(x:Int)/2^n:=by simp
 rw[c,b]at h;rw[h,Nat.or_comm];rfl
theorem C8 (x n:Nat)(w:World)(hx:x<4294967296)(c:1<=n)(h:n<=31):
 Calls prog 242 #[.int .u32 x,.int .i64 n] w fun e w'=>e= .returned (.int .u32 (iF x n))/\w=w':=by
 have i:=Nj n c h;obtain⟨k,b⟩:∃k:Nat,32-n=k:=⟨_,rfl⟩
 rw[b]at i;have j:(32:Int)-(k:Int)=(n:Int):=by omega
 have d:=za b;clear b;go_enter func242,ntmps242
 go_wp2;go_ret;exact⟨lN (by rw[<-d.out];exact TX x n hx),rfl⟩
theorem xor_val {b:Nat}(c:a<4294967296)(d:b<4294967296):bits .xor .u32 (a:Int) (b:Int)=((a^^^b:Nat):Int):=u32_xor_nat a b c d
theorem FJ (x a b c:Nat)(w:World)(hx:x<4294967296)(l:1<=a/\a<=31)(i:1<=b/\b<=31)(k:1<=c/\c<=31):
 Calls prog 225 #[.int .u32 x,.int .i64 a,.int .i64 b,.int .i64 c] w fun e w'=>e= .returned (.int .u32 (iF x a^^^iF x b^^^iF x c:Nat))/\w=w':=by
 have m:=za (fun w=>C8 x a w hx l.1 l.2);have s:=za (fun w=>C8 x b w hx i.1 i.2);have o:=za (fun w=>C8 x c w hx k.1 k.2);have h:=ey a hx;have j:=ey b hx;have A:=ey c hx;generalize iF x a=p at*;generalize iF x b=q at*;generalize iF x c=r at*;have u:=xor_val h j;have n:=xor_val (dC h j) A;obtain⟨y,d⟩:∃y,p^^^q=y:=⟨_,rfl⟩
 obtain⟨z,hz⟩:∃z,p^^^q^^^r=z:=⟨_,rfl⟩
 rw[d]at u;rw[hz,d]at n;rw[hz];clear d hz;go_enter func225,ntmps225
 go_wp2_with fail
 refine(m.out _).mono ?_;rintro e w' ⟨rfl,rfl⟩;go_wp2_with fail
 refine(s.out _).mono ?_;rintro e w' ⟨rfl,rfl⟩;go_wp2_with fail
 refine(o.out _).mono ?_;rintro e w' ⟨rfl,rfl⟩;go_wp2;go_ret;exact⟨rfl,rfl⟩
theorem Xj (x n:Nat)(w:World)(hx:x<4294967296)(b:1<=n)(d:n<=31):
 Calls prog 242 #[.int .u32 x,.int .i64 n] w fun e w'=>e= .returned (.int .u32 (iF x n))/\w'=w:=(C8 x n w hx b d).mono fun _ _ ⟨h,c⟩=>⟨h,c.symm⟩
theorem vH (x a b c:Nat)(w:World)(hx:x<4294967296)(q:1<=a/\a<=31)(o:1<=b/\b<=31)(p:1<=c/\c<=31):
 Calls prog 241 #[.int .u32 x,.int .i64 a,.int .i64 b,.int .i64 c] w fun e w'=>e= .returned (.int .u32 (iF x a^^^iF x b^^^x/2^c:Nat))/\∃n,w'=w.drewN n:=by
 have h:=ey a hx;have j:=ey b hx;have m:=mO c hx;have l:=xor_val h j;have i:=xor_val (dC h j) m;have k:((x/2^c:Nat):Int)=(x:Int)/2^c:=by simp
 rw[k]at i;obtain⟨y,d⟩:∃y:Nat,iF x a^^^iF x b=y:=⟨_,rfl⟩
 obtain⟨z,hz⟩:∃z:Nat,iF x a^^^iF x b^^^x/2^c=z:=⟨_,rfl⟩
 rw[d]at l;rw[hz,d]at i;rw[hz];clear d hz k;go_enter func241,ntmps241
 go_wp2;go_quiet ((go_at_call 242;exact Calls.quiet_of_same (Xj _ _ _ hx (by omega) (by omega))))
 go_wp2;go_ret;exact⟨rfl,_,rfl⟩
theorem Qh (a b c d:Nat)(n:a<256)(l:b<256)(m:c<256)(hd:d<256):
 bits .or .u32 (bits .or .u32 (bits .or .u32 ((a:Int)*2^24) ((b:Int)*2^16)) ((c:Int)*2^8)) (d:Int)=((a*16777216+b*65536+c*256+d:Nat):Int):=by
 have k:((a:Int)*2^24)=((a*2^24:Nat):Int):=by simp
 have h:((b:Int)*2^16)=((b*2^16:Nat):Int):=by simp
 have j:((c:Int)*2^8)=((c*2^8:Nat):Int):=by simp
 rw[k,h,j,u32_or_nat _ _ (by omega) (by omega)];have i:a*2^24|||b*2^16=a*2^24+b*2^16:=by rw[Zn,<-xr (by omega)]
 rw[i,u32_or_nat _ _ (by omega) (by omega)];have g2:a*2^24+b*2^16|||c*2^8=a*2^24+b*2^16+c*2^8:=by
  rw[show a*2^24+b*2^16=2^16*(a*256+b)from by omega,<-xr (by omega)]
 rw[g2,u32_or_nat _ _ (by omega) (by omega)];have e:a*2^24+b*2^16+c*2^8|||d=a*2^24+b*2^16+c*2^8+d:=by
  rw[show a*2^24+b*2^16+c*2^8=2^8*(a*65536+b*256+c)from by omega,<-xr (by omega)]
 rw[e]
theorem Qi (s:ByteArray)(i:Nat)(w:World)(hi:4*i+4<=s.size)(G:s.size<=100000):
 Calls prog 223 #[.string s,.int .i64 i] w fun e w'=>e= .returned (.int .u32 (mP s i))/\∃n,w'=w.drewN n:=by
 obtain⟨E,C,q,l⟩:∃E:ByteArray,s.extract (4*i) (4*i+4)=E/\∃q:E.size=4,Hid (mP s i=E[0].toNat*16777216+E[1].toNat*65536+E[2].toNat*256+E[3].toNat):=by
  have hz:(s.extract (4*i) (4*i+4)).size=4:=by rw[aq _ _ _ hi];omega
  refine⟨_,rfl,hz,za ?_⟩;have b:∀j (c:j<(s.extract (4*i) (4*i+4)).size),(s.extract (4*i) (4*i+4))[j]=s.data.toList.getD (4*i+j) 0:=by
   intro j c;have d:=gH (s.extract (4*i) (4*i+4)) j c;rw[ar,xx,yA (by omega)]at d;rw[zw,d];rfl
  rw[b 0,b 1,b 2,b 3];rfl
 have A:0<E.size:=by omega
 have u:1<E.size:=by omega
 have x:2<E.size:=by omega
 have B:3<E.size:=by omega
 have k:=E[0].toNat_lt;have p:=E[1].toNat_lt;have m:=E[2].toNat_lt;have r:=E[3].toNat_lt;have o:=za (Qh E[0].toNat E[1].toNat E[2].toNat E[3].toNat k p m r);have z:IntKind.u32.wrap ((E[0].toNat:Nat):Int)=((E[0].toNat:Nat):Int):=IntWalk.u32_in _ (by omega);have y:IntKind.u32.wrap ((E[1].toNat:Nat):Int)=((E[1].toNat:Nat):Int):=IntWalk.u32_in _ (by omega);have D:IntKind.u32.wrap ((E[2].toNat:Nat):Int)=((E[2].toNat:Nat):Int):=IntWalk.u32_in _ (by omega);have F:IntKind.u32.wrap ((E[3].toNat:Nat):Int)=((E[3].toNat:Nat):Int):=IntWalk.u32_in _ (by omega);go_enter func223,ntmps223
 go_wp2;go_quiet (fail)
 go_wp2;go_ret;refine⟨lN ?_,_,rfl⟩;have h:=o.out;rw[show(2:Int)^24=16777216 from rfl,show(2:Int)^16=65536 from rfl,show(2:Int)^8=256 from rfl]at h;rw[l.out];exact h
theorem and_val {b:Nat}(c:a<4294967296)(d:b<4294967296):bits .and .u32 (a:Int) (b:Int)=((a&&&b:Nat):Int):=u32_and_nat a b c d
open Go
section
variable {P:Program} {ops:Array Oper} {md:Region.Mode} {C:World->Prop}
def qC (P:Program)(md:Region.Mode)(ops:Array Oper)(C:World->Prop)(n:Nat)(L:Array Bool->Act->Prop):Nat->Array Bool->Act->Prop
 |0,listed,a=>L listed a
 |f+1,listed,a=>
  Region.ready md ops listed≠ []/\∀i∈Region.ready md ops listed,i<n/\qOp P ops C i (qC P md ops C n L f (listed.setIfInBounds i true)) a
theorem jM {L:Array Bool->Act->Prop}{Q':Exit->Act->World->Prop}(c:∀b a w,C w->L b a->wpAny P md ops Q' g b a w):
 ∀(f:Nat) (b:Array Bool) (a:Act) (w:World),C w->qC P md ops C n L f b a->wpAny P md ops Q' (f+g) b a w
 |0,b,a,w,hw,h=>by rw[zG];exact c _ _ _ hw h
 |f+1,b,a,w,hw,h=>by
  rw[show f+1+g=(f+g)+1 by omega];exact⟨fun j=>absurd j h.1,fun i hi=>wpOp_of_qOp hw (fun e w' d k=>jM c f _ e w' d k) (h.2 i hi).2⟩
theorem AO {r:Oper}{v:Value}{L:Array Bool->Act->Prop}(hi:ops[i]?=some r)(J:∀(j:Nat) (o:Oper) s b,ops[j]?=some o->o.op≠ .select s b)
 (K:Region.sinkB md ops n=true) (I:Region.chainB md ops n=true) (A:n<ops.size) (E:i<n)
 (U:∀c a,L c a->∀j∈Region.ready md ops c,n<=j):
 ∀(f:Nat) (c:Array Bool) (a:Act),HeadInv md ops n c->
  (∀j m,ops[j]?=some m->j≠i->c.getD j true=false->(∀e∈m.after,Region.binds md e=true->e.on≠i)->r.apart ops m=true)->
  i∈Region.ready md ops c->YieldsIn P ops C r v a->
  qC P md ops C n L f (c.setIfInBounds i true) (a.put r.dst v)->qC P md ops C n L (f+1) c a:=by
 intro f;induction f with
 |zero=>
  intro c a u _ l w H;have q:=(Zu.1 l).1;refine⟨fun h=>(by rw[h]at l;cases l),fun j p=> ?_⟩;have y:j<n:=by
   rcases xG j n with h|h
   ·exact h
   exact absurd p (tail_waits K I A u _ i rfl E q j h)
  refine⟨y, ?_⟩;by_cases d:j=i
  ·subst d;exact w.qOp hi H
  have:=U _ _ H j (Ya p d);omega
 |succ f ih=>
  intro c a u B l w H;have q:=(Zu.1 l).1;refine⟨fun h=>(by rw[h]at l;cases l),fun j p=> ?_⟩;have y:j<n:=by
   rcases xG j n with h|h
   ·exact h
   exact absurd p (tail_waits K I A u _ i rfl E q j h)
  refine⟨y, ?_⟩;by_cases d:j=i
  ·subst d;exact w.qOp hi H
  have x:=(H.2 j (Ya p d)).2;obtain⟨D,m,z,dP⟩:=Zu.1 p;have Y:∀e∈m.after,Region.binds md e=true->e.on≠i:=fun e X Z aa=>by
   have x:=dP e X Z;rw[aa,Zj q]at x;cases x
  have N:=qOp_put z (B j m z d D Y) (fun s b=>J i r s b hi) (fun s b=>J j m s b z) w x;have R:∀k ok,ops[k]?=some ok->k≠i->(c.setIfInBounds j true).getD k true=false->
   (∀e∈ok.after,Region.binds md e=true->e.on≠i)->r.apart ops ok=true:=fun k ok W S q O=>by
   refine B k ok W S ?_ O;by_cases F:j=k
   ·subst F;exact D
   rw[getD_set_ne true F]at q;exact q
  refine qOp_mono (fun M G=>ih (c.setIfInBounds j true) M (u.set p y) R (Ya l (xR d)) G.1 ?_) N;rw[Array.setIfInBounds_comm _ _ d];exact G.2
theorem nD {d:Act->Prop}(q:Region.noSelect ops=true)(u:Region.sinkB md ops n=true)(p:Region.chainB md ops n=true)(e:n<ops.size):
 ∀(l:List Oper) (k:Nat) (b:Array Bool) (a:Act),(∀j,j<l.length->l[j]?=ops[k+j]?)->k+l.length=n->HeadInv md ops n b->
 Region.lexHead md ops g l.length k b=true->wpQuiet P ops C d l a->
 qC P md ops C n (fun s i=>Region.seqB md ops g n s=true/\d i) l.length b a
 | [],k,b,a,_,hk,_,hB,h=>by
  have:k=n:=by simpa using hk
  subst this;exact⟨by simpa[Region.lexHead]using hB,h⟩
 |o::l,k,b,a,hl,hk,inv,hB,h=>by
  have c:ops[k]?=some o:=by simpa using(hl 0 (by simp)).symm
  simp only[zy,Region.lexHead,zz]at hB;obtain⟨⟨D,A⟩,x⟩:=hB;have m:k<n:=by simp only[zy]at hk;omega
  have r:k∈Region.ready md ops b:=by simpa using D
  have y:qOp P ops C k (wpQuiet P ops C d l) a:=by unfold qOp;simp only[c];exact h
  obtain⟨v,z,B⟩:=yieldsIn_of_qOp c y;exact AO c (Region.noSelect_spec q) u p e m (fun s i w=>seqB_ready w.1) l.length b a inv (Region.free_spec c A) r z
   (nD q u p e l (k+1) _ _ (fun j E=>by have:=hl (j+1) (by simp;omega);simpa[yi,Zo 1 j]using this) (by simp only[zy]at hk;omega) (inv.set r m) x B)
theorem cL {id:Nat}{Q:Exit->Act->World->Prop}{a:Act}{l:List Oper}(n:Nat)(x:P.follows .mixedOrders=true)(p:Region.lexTailB .any l.toArray n=true)
 (h:wpQuiet P l.toArray (fun w'=>∃k,w'=w.drewN k) (fun c=>∀k,wpList P l.toArray Q (l.drop n) c (w.drewN k)) (l.take n) a):(Code.region id l.toArray true).wp P Q a w:=by
 simp only[Region.lexTailB,zz,zY]at p;obtain⟨⟨⟨⟨z,d⟩,B⟩,y⟩,r⟩:=p;have D:n<l.length:=by simpa using d
 have b:(l.take n).length=n:=by simp;omega
 have o:(l.drop n).length=l.toArray.size-n:=by simp
 have q:HeadInv .any l.toArray n (Array.replicate l.toArray.size false):=
  ⟨by simp,fun j C _ e=>(by rw[yy]at e;cases e),fun t _ s=>getD_in (by simpa using s) (yy _ _)⟩
 have H:=nD (md:= .any) (g:=l.toArray.size-n) z B y d (l.take n) 0 _ a (fun j m=>by
  have A:j<n:=by rw[b]at m;exact m
  simp[A]) (by simpa using b) q (by rw[b];exact r) h
 refine wp_region_any x ?_;have:=jM (Q':=Q) (g:=l.toArray.size-n) (fun listed c w' u i=>by
  obtain⟨k,rfl⟩:=u;have:=wpAny_of_seq (md:= .any) (Q':=Q) (l.drop n) n listed c (w.drewN k) (fun j=>by simp[xx]) (by rw[o];exact i.1) (i.2 k);rwa [o]at this) _ _ _ _ ⟨1,rfl⟩ H
 rw[b,show n+(l.toArray.size-n)=l.toArray.size by omega]at this;exact this
end
def Xk :ByteArray:=⟨#[66,138,47,152,113,55,68,145,181,192,251,207,233,181,219,165,57,86,194,91,89,241,17,241,146,63,130,164,171,28,94,213,216,7,170,152,18,131,91,1,36,49,133,190,85,12,125,195,114,190,93,116,128,222,177,254,155,220,6,167,193,155,241,116,228,155,105,193,239,190,71,134,15,193,157,198,36,12,161,204,45,233,44,111,74,116,132,170,92,176,169,220,118,249,136,218,152,62,81,82,168,49,198,109,176,3,39,200,191,89,127,199,198,224,11,243,213,167,145,71,6,202,99,81,20,41,41,103,39,183,10,133,46,27,33,56,77,44,109,252,83,56,13,19,101,10,115,84,118,106,10,187,129,194,201,46,146,114,44,133,162,191,232,161,168,26,102,75,194,75,139,112,199,108,81,163,209,146,232,25,214,153,6,36,244,14,53,133,16,106,160,112,25,164,193,22,30,55,108,8,39,72,119,76,52,176,188,181,57,28,12,179,78,216,170,74,91,156,202,79,104,46,111,243,116,143,130,238,120,165,99,111,132,200,120,20,140,199,2,8,144,190,255,250,164,80,108,235,190,249,163,247,198,113,120,242]⟩
theorem Nk :((List.range 64).all fun i=>mP Xk i==Ho.getD i 0)=true:=by decide+kernel
theorem vI (i:Nat)(h:i<64):mP ⟨#[66,138,47,152,113,55,68,145,181,192,251,207,233,181,219,165,57,86,194,91,89,241,17,241,146,63,130,164,171,28,94,213,216,7,170,152,18,131,91,1,36,49,133,190,85,12,125,195,114,190,93,116,128,222,177,254,155,220,6,167,193,155,241,116,228,155,105,193,239,190,71,134,15,193,157,198,36,12,161,204,45,233,44,111,74,116,132,170,92,176,169,220,118,249,136,218,152,62,81,82,168,49,198,109,176,3,39,200,191,89,127,199,198,224,11,243,213,167,145,71,6,202,99,81,20,41,41,103,39,183,10,133,46,27,33,56,77,44,109,252,83,56,13,19,101,10,115,84,118,106,10,187,129,194,201,46,146,114,44,133,162,191,232,161,168,26,102,75,194,75,139,112,199,108,81,163,209,146,232,25,214,153,6,36,244,14,53,133,16,106,160,112,25,164,193,22,30,55,108,8,39,72,119,76,52,176,188,181,57,28,12,179,78,216,170,74,91,156,202,79,104,46,111,243,116,143,130,238,120,165,99,111,132,200,120,20,140,199,2,8,144,190,255,250,164,80,108,235,190,249,163,247,198,113,120,242]⟩ i=uP.getD i 0:=by
 have:=Zx.1 Nk i (Zp.2 h);rw[CD];exact yQ.1 this
theorem agr (i:Nat):uP.getD i 0<4294967296:=by
 rw[CD];by_cases h:i<64
 ·rw[<-CD,<-vI i h];exact Bs _ _
 rw[zw,xa (by simp[Ho];omega)];simp
theorem Xl (i:Nat)(w:World)(h:i<64):Calls prog 222 #[.int .i64 i] w fun e w'=>e= .returned (.int .u32 (uP.getD i 0:Nat))/\∃n,w'=w.drewN n:=by
 have b:=za (vI i h);generalize c:uP.getD i 0=K at*;go_enter func222,ntmps222
 go_wp2_with fail
 refine(Qi _ i _ (by simp[ByteArray.size];omega) (by simp[ByteArray.size])).mono ?_;rintro e w' ⟨rfl,n,rfl⟩;rw[b.out];go_wp2;go_ret;exact⟨rfl,_,rfl⟩
abbrev i' (w:World)(g:Nat)(s:ByteArray)(at_:Nat)(f:Int):Prop:=af w g 180 #[.string s,.int .i64 at_,.int .i64 f]
theorem bu (g:Nat)(s:ByteArray)(k:Nat)(f:Int)(w:World)(h:i' w g s k f):
 Calls prog 114 #[.pointer (some ⟨g,0,none⟩)] w fun e w'=>e= .returned (.int .i64 f)/\w=w':=by
 have b:=h.cell 2;simp at b;clear h;go_enter func114,ntmps114
 go_wp2;go_ret;exact⟨rfl,rfl⟩
theorem vJ (g:Nat)(s:ByteArray)(k:Nat)(f:Int)(w:World)(h:i' w g s k f)(i:k<=s.size)(d:s.size<=9223372036854775807):
 Calls prog 138 #[.pointer (some ⟨g,0,none⟩)] w fun e w'=>e= .returned (.int .i64 ((s.size:Int)-k))/\∃n,w.drewN n=w':=by
 have b:=h.cell 0;have c:=h.cell 1;simp at b c;clear h;go_enter func138,ntmps138
 go_wp2;go_quiet (fail)
 go_wp2;go_ret;exact⟨rfl,_,rfl⟩
theorem iM (g:Nat)(s:ByteArray)(k:Nat)(f:Int)(w:World)(h:i' w g s k 0):
 Calls prog 140 #[.pointer (some ⟨g,0,none⟩),.int .i64 f] w fun e w'=>e= .returned (.tuple #[])/\i' w' g s (k) (f)/\ae [g] w w':=by
 have b:=h.cell 2;have c:=h.frozen 2;have d:=h.lt;simp at b;have H:=za h;clear h;go_enter func140,ntmps140
 go_wp2;go_end0
 go_wp2;go_end0
 refine⟨rfl, ?_,CM⟩;have h:=H.out;unfold i' at h⊢
 (repeat(first|with_reducible assumption|with_reducible apply af.drewN|with_reducible apply af.drew|with_reducible apply af.alloc|((with_reducible apply af.beside); · (first|omega|(simp<;>omega)))|with_reducible apply af.store));all_goals(first|rfl|simp)
theorem vK (g:Nat)(s:ByteArray)(k:Nat)(f e:Int)(w:World)(h:i' w g s k f)(c:(f==0)=false):
 Calls prog 140 #[.pointer (some ⟨g,0,none⟩),.int .i64 e] w fun e w'=>e= .returned (.tuple #[])/\i' w' g s (k) (f)/\ae [g] w w':=by
 have b:=h.cell 2;have d:=h.lt;simp at b;have H:=za h;clear h;go_enter func140,ntmps140
 go_wp2;go_end0
 go_wp2;go_end0
 refine⟨rfl, ?_,CM⟩;have h:=H.out;unfold i' at h⊢
 (repeat(first|with_reducible assumption|with_reducible apply af.drewN|with_reducible apply af.drew|with_reducible apply af.alloc|((with_reducible apply af.beside); · (first|omega|(simp<;>omega)))|with_reducible apply af.store));all_goals(first|rfl|simp)
theorem vL (g:Nat)(s:ByteArray)(k:Nat)(f n:Int)(w:World)(h:i' w g s k f)(j:(f==0)=false):
 Calls prog 113 #[.pointer (some ⟨g,0,none⟩),.int .i64 n] w fun e w'=>e= .returned (.string ByteArray.empty)/\i' w' g s (k) (f)/\ae [g] w w':=by
 have d:=h.cell 0;have c:=h.cell 1;have b:=h.cell 2;have o:=h.frozen 1;have l:=h.frozen 2;have i:=h.lt;simp at d c b;have H:=za h;clear h;have m:=sI i b;go_enter func113,ntmps113
 go_wp2;go_end0
 go_wp2;go_ret;refine⟨rfl, ?_,CM⟩;have h:=H.out;unfold i' at h⊢
 (repeat(first|with_reducible assumption|with_reducible apply af.drewN|with_reducible apply af.drew|with_reducible apply af.alloc|((with_reducible apply af.beside); · (first|omega|(simp<;>omega)))|with_reducible apply af.store));all_goals(first|rfl|simp)
theorem gb (g:Nat)(s:ByteArray)(k:Nat)(n:Nat)(w:World)(h:i' w g s k 0)(q:k<=s.size)(u:s.size<=9223372036854775807)(m:s.size<k+n)(p:n<=9223372036854775807):
 Calls prog 113 #[.pointer (some ⟨g,0,none⟩),.int .i64 n] w fun e w'=>e= .returned (.string ByteArray.empty)/\i' w' g s (k) (2)/\ae [g] w w':=by
 have d:=h.cell 0;have c:=h.cell 1;have i:=h.cell 2;have x:=h.frozen 1;have j:=h.frozen 2;have b:=h.lt;simp at d c i;have H:=za h;clear h;have l:=sI b d;have o:=sI b c;have r:=sI b i;have g2:=CL b j;go_enter func113,ntmps113
 go_wp2;go_quiet (fail)
 go_wp2;go_end0
 go_wp2;go_ret;refine⟨rfl, ?_,CM⟩;have h:=H.out;unfold i' at h⊢
 (repeat(first|with_reducible assumption|with_reducible apply af.drewN|with_reducible apply af.drew|with_reducible apply af.alloc|((with_reducible apply af.beside); · (first|omega|(simp<;>omega)))|with_reducible apply af.store));all_goals(first|rfl|simp)
theorem eK (g:Nat)(s:ByteArray)(k:Nat)(n:Nat)(w:World)(h:i' w g s k 0)(u:s.size<=9223372036854775807)(o:k+n<=s.size):
 Calls prog 113 #[.pointer (some ⟨g,0,none⟩),.int .i64 n] w fun e w'=>e= .returned (.string (s.extract k (k+n)))/\i' w' g s (k+n) (0)/\ae [g] w w':=by
 have d:=h.cell 0;have c:=h.cell 1;have i:=h.cell 2;have l:=h.frozen 1;have j:=h.frozen 2;have b:=h.lt;simp at d c i;have H:=za h;clear h;have m:=sI b d;have q:=sI b c;have r:=sI b i;have p:=CL b l;have g2:=CL b j;go_enter func113,ntmps113
 go_wp2;go_quiet (fail)
 go_wp2;go_region
 all_goals go_wp2
 go_region
 all_goals go_wp2
 go_end0
 go_wp2;go_ret;refine⟨rfl, ?_,CM⟩;have h:=H.out;unfold i' at h⊢
 (repeat(first|with_reducible assumption|with_reducible apply af.drewN|with_reducible apply af.drew|with_reducible apply af.alloc|((with_reducible apply af.beside); · (first|omega|(simp<;>omega)))|with_reducible apply af.store));all_goals(first|rfl|simp)
theorem rO (s:ByteArray)(w:World):
 Calls prog 112 #[.string s] w fun e w'=>e= .returned (.pointer (some ⟨w.heap.size,0,none⟩))/\w'=w.alloc (.cells #[.string s,.int .i64 0,.int .i64 0] 180):=by
 go_enter func112,ntmps112
 go_wp2;go_ret;exact⟨rfl,rfl⟩
theorem vM (g:Nat)(s:ByteArray)(k:Nat)(w:World)(h:i' w g s k 0)(j:k<s.size)(l:s.size<=9223372036854775807):
 Calls prog 165 #[.pointer (some ⟨g,0,none⟩)] w fun e w'=>e= .returned (.int .u8 s[k].toNat)/\i' w' g s (k+1) (0)/\ae [g] w w':=by
 have c:=h.cell 0;have b:=h.cell 1;have d:=h.cell 2;have m:=h.frozen 1;have i:=h.frozen 2;have n:=h.lt;simp at c b d;have H:=za h;clear h;go_enter func165,ntmps165
 go_wp2;go_quiet (fail)
 go_wp2;go_region
 all_goals go_wp2
 go_end0
 go_wp2;go_ret;refine⟨rfl, ?_,CM⟩;have h:=H.out;unfold i' at h⊢
 (repeat(first|with_reducible assumption|with_reducible apply af.drewN|with_reducible apply af.drew|with_reducible apply af.alloc|((with_reducible apply af.beside); · (first|omega|(simp<;>omega)))|with_reducible apply af.store));all_goals(first|rfl|simp)
theorem nY {x:Nat×Nat×Int}{b:Nat}{c:Int}(h:x=(a,b,c)):Ending.returned (.tuple #[.int .i64 a,.int .i64 b,.int .i64 c])= .returned (.tuple #[.int .i64 x.1,.int .i64 x.2.1,.int .i64 x.2.2]):=by rw[h]
theorem sW (most:Int)(s:ByteArray)(w:World)(o:s.size<=9223372036854775807)(z: -9223372036854775808<=most)(u:most<=9223372036854775807):
 Calls prog 93 #[.int .i64 most,.string s] w fun e w'=>e= .returned (.tuple #[.int .i64 (au most s).1,.int .i64 (au most s).2.1,.int .i64 (au most s).2.2])/\w=w':=by
 have h:=ib s;have d:=za (fun w=>rN s w o);have i:=za (show au most s=(if(aA s).2.2=0 then(if most<(aA s).1 then(0,0,5)else((aA s).1,(aA s).2.1,0))else(0,0,(aA s).2.2))from rfl);generalize aA s=x at*;obtain⟨n,k,q⟩:=x;dsimp only at*;rcases eP q with⟨c,l,m⟩|⟨c,l,m⟩
 ·subst c;have r:=h rfl;clear h;by_cases j:most<n
  ·have b:=za (by have:=i.out;rw[zi rfl,zi j]at this;exact this);rcases Int.lt_or_le most 0 with G5|G5
   ·go_enter func93,ntmps93
    go_wp2_with fail
    refine(d.out _).mono ?_;rintro e w' ⟨rfl,rfl⟩;go_wp2;go_ret3
    exact⟨nY b.out,rfl⟩
   have p:IntKind.u64.wrap most=most:=xy _ (by omega);go_enter func93,ntmps93
   go_wp2_with fail
   refine(d.out _).mono ?_;rintro e w' ⟨rfl,rfl⟩;go_wp2;go_ret3
   exact⟨nY b.out,rfl⟩
  have b:=za (by have:=i.out;rw[zi rfl,zh j]at this;exact this);have p:IntKind.u64.wrap most=most:=xy _ (by omega);have y:decide (most<(n:Int))=false:=zu j;go_enter func93,ntmps93
  go_wp2_with fail
  refine(d.out _).mono ?_;rintro e w' ⟨rfl,rfl⟩;go_wp2;go_ret3
  exact⟨nY b.out,rfl⟩
 have b:=za (by have:=i.out;rw[zh c]at this;exact this);clear h c;go_enter func93,ntmps93
 go_wp2_with fail
 refine(d.out _).mono ?_;rintro e w' ⟨rfl,rfl⟩;go_wp2;go_ret3
 exact⟨nY b.out,rfl⟩
theorem ot :ByteArray.empty=⟨#[]⟩:=rfl
def KY (x:Int×Nat×ByteArray×Nat)(w:World)(e:Ending)(w':World):Prop:=
 e= .returned (.tuple #[.agg #[.int .u64 x.2.1,.string ByteArray.empty,.string x.2.2.1],.int .i64 x.2.2.2,.int .i64 x.1])/\Below w.heap.size w w'
theorem uq {x:Int×Nat×ByteArray×Nat}{w':World}{a:Int}{b:Nat}{c:ByteArray}{e:Int}(h:x=(a,b,c,d))(hd:e=d)(i:Below w.heap.size w w'):
 KY x w (.returned (.tuple #[.agg #[.int .u64 b,.string ByteArray.empty,.string c],.int .i64 e,.int .i64 a])) w':=by
 subst h;subst hd;exact⟨rfl,i⟩
theorem kt (most:Int)(s:ByteArray)(w:World)(A:s.size<=9223372036854775807)(cX: -9223372036854775808<=most)(pQ:most<=9223372036854775807):
 Calls prog 78 #[.int .i64 most,.string s] w (KY (an most s) w):=by
 have I:=rE most s;have E:=za (fun w=>sW most s w A cX pQ);have u:=za (eM most s);generalize an most s=X at*;generalize au most s=ab at*;obtain⟨n,k,R⟩:=ab;dsimp only at*;rcases eP R with⟨F,h1,Z⟩|⟨F,h1,Z⟩
 ·subst F;obtain⟨hn,hk,Ba,ae⟩:=I rfl;clear I;by_cases H:s.size<k+n
  ·have z:=za (by have:=u.out;rw[zh (by simp),zi H]at this;exact this);clear u;go_enter func78,ntmps78
   go_wp2_with fail
   refine(E.out _).mono ?_;rintro e w' ⟨rfl,rfl⟩;go_wp2_with fail
   refine(rO s _).mono ?_;rintro e d ⟨rfl,c⟩;have q:i' d (w.heap.size+1) s 0 0:=by rw[c];have:=af.new (w.alloc (.cells #[.int .u64 0,.string ⟨#[]⟩,.string ⟨#[]⟩] 84)) 180 #[.string s,.int .i64 0,.int .i64 0];rw[zp]at this;exact this
   have y:af d w.heap.size 84 #[.int .u64 0,.string ⟨#[]⟩,.string ⟨#[]⟩]:=by rw[c];exact(af.new w _ _).alloc _
   have p:Below w.heap.size w d:=by rw[c];exact bD
   have O:d.heap.size=w.heap.size+2:=by rw[c];simp
   rw[zp];clear c;go_wp2_with fail
   refine(eK (w.heap.size+1) s 0 k _ q A (by omega)).mono ?_;rintro e L ⟨rfl,i,h⟩;rw[zG]at i;have l:=y.only h (by simp);have S:=h.size;have x:=p.trans (h.below (B:=w.heap.size) (by omega) (by simp));clear q y p;go_wp2_with fail
   refine(gb (w.heap.size+1) s k n _ i hk A H (by omega)).mono ?_;rintro e w3 ⟨rfl,C,m⟩;have b:=l.only m (by simp);have D:=za (x.trans (m.below (B:=w.heap.size) (by omega) (by simp)));have r:=b.cell 0;have j:=b.cell 1;have o:=b.cell 2;have M:=b.frozen 0;have J:=b.frozen 1;have W:=b.frozen 2;simp at r j o;clear l x i;go_wp2_with fail
   refine(bu (w.heap.size+1) s _ _ _ C).mono ?_;rintro e w' ⟨rfl,rfl⟩;go_wp2;refine zk (v:= .tuple #[.agg #[.int .u64 0,.string ByteArray.empty,.string ByteArray.empty],.int .i64 0,.int .i64 2]) (by simp[results,results78,go_sem,ot,r,j,o]) rfl ?_;exact uq z.out rfl (((D.out.setCell (by simp) _).setCell (by simp) _).setCell (by simp) _)
  have N:=za (fun w=>rN (s.extract k (k+n)) w (by rw[aq _ _ _ (by omega)];omega));have G:=ib (s.extract k (k+n));rw[aq _ _ _ (by omega:k+n<=s.size),Nat.add_sub_cancel_left]at G;have ad:(s.extract k (k+n)).size=n:=by rw[aq _ _ _ (by omega)];omega
  generalize Y:s.extract k (k+n)=U at*;have K:=za Y;generalize aA U=aa at*;obtain⟨id,sz,f⟩:=aa;dsimp only at*;clear Y;rcases eP f with⟨g0,g1,g2⟩|⟨g0,g1,g2⟩
  ·subst g0;obtain⟨l1,l2,l3,l4⟩:=G rfl;have z:=za (by have:=u.out;rw[zh (by simp),zh H,zh (by simp)]at this;exact this);clear u G;go_enter func78,ntmps78
   go_wp2_with fail
   refine(E.out _).mono ?_;rintro e w' ⟨rfl,rfl⟩;go_wp2_with fail
   refine(rO s _).mono ?_;rintro e d ⟨rfl,c⟩;have q:i' d (w.heap.size+1) s 0 0:=by rw[c];have:=af.new (w.alloc (.cells #[.int .u64 0,.string ⟨#[]⟩,.string ⟨#[]⟩] 84)) 180 #[.string s,.int .i64 0,.int .i64 0];rw[zp]at this;exact this
   have y:af d w.heap.size 84 #[.int .u64 0,.string ⟨#[]⟩,.string ⟨#[]⟩]:=by rw[c];exact(af.new w _ _).alloc _
   have p:Below w.heap.size w d:=by rw[c];exact bD
   have O:d.heap.size=w.heap.size+2:=by rw[c];simp
   rw[zp];clear c;go_wp2_with fail
   refine(eK (w.heap.size+1) s 0 k _ q A (by omega)).mono ?_;rintro e L ⟨rfl,i,h⟩;rw[zG]at i;have l:=y.only h (by simp);have S:=h.size;have x:=p.trans (h.below (B:=w.heap.size) (by omega) (by simp));clear q y p;go_wp2_with fail
   refine(eK (w.heap.size+1) s k n _ i A (by omega)).mono ?_;rintro e w3 ⟨rfl,C,m⟩;rw[K.out];have b:=l.only m (by simp);have D:=za (x.trans (m.below (B:=w.heap.size) (by omega) (by simp)));have r:=b.cell 0;have j:=b.cell 1;have o:=b.cell 2;have M:=b.frozen 0;have J:=b.frozen 1;have W:=b.frozen 2;simp at r j o;clear l x i;go_wp2_with fail
   refine(bu (w.heap.size+1) s _ _ _ C).mono ?_;rintro e w' ⟨rfl,rfl⟩;go_wp2_with fail
   refine(N.out _).mono ?_;rintro e w' ⟨rfl,rfl⟩;go_wp2;refine zk (v:= .tuple #[.agg #[.int .u64 id,.string ByteArray.empty,.string (U.extract sz n)],.int .i64 ((k:Int)+n),.int .i64 0]) (by simp[results,results78,go_sem,ot,r,j,o]) rfl ?_;exact uq z.out (by omega) (((D.out.setCell (by simp) _).setCell (by simp) _).setCell (by simp) _)
  have z:=za (by have:=u.out;rw[zh (by simp),zh H,zi g0]at this;exact this);clear u G g0;go_enter func78,ntmps78
  go_wp2_with fail
  refine(E.out _).mono ?_;rintro e w' ⟨rfl,rfl⟩;go_wp2_with fail
  refine(rO s _).mono ?_;rintro e d ⟨rfl,c⟩;have q:i' d (w.heap.size+1) s 0 0:=by rw[c];have:=af.new (w.alloc (.cells #[.int .u64 0,.string ⟨#[]⟩,.string ⟨#[]⟩] 84)) 180 #[.string s,.int .i64 0,.int .i64 0];rw[zp]at this;exact this
  have y:af d w.heap.size 84 #[.int .u64 0,.string ⟨#[]⟩,.string ⟨#[]⟩]:=by rw[c];exact(af.new w _ _).alloc _
  have p:Below w.heap.size w d:=by rw[c];exact bD
  have O:d.heap.size=w.heap.size+2:=by rw[c];simp
  rw[zp];clear c;go_wp2_with fail
  refine(eK (w.heap.size+1) s 0 k _ q A (by omega)).mono ?_;rintro e L ⟨rfl,i,h⟩;rw[zG]at i;have l:=y.only h (by simp);have S:=h.size;have x:=p.trans (h.below (B:=w.heap.size) (by omega) (by simp));clear q y p;go_wp2_with fail
  refine(eK (w.heap.size+1) s k n _ i A (by omega)).mono ?_;rintro e w3 ⟨rfl,C,m⟩;rw[K.out];have b:=l.only m (by simp);have D:=za (x.trans (m.below (B:=w.heap.size) (by omega) (by simp)));have r:=b.cell 0;have j:=b.cell 1;have o:=b.cell 2;have M:=b.frozen 0;have J:=b.frozen 1;have W:=b.frozen 2;simp at r j o;clear l x i;go_wp2_with fail
  refine(bu (w.heap.size+1) s _ _ _ C).mono ?_;rintro e w' ⟨rfl,rfl⟩;go_wp2_with fail
  refine(N.out _).mono ?_;rintro e w' ⟨rfl,rfl⟩;go_wp2;refine zk (v:= .tuple #[.agg #[.int .u64 0,.string ByteArray.empty,.string ByteArray.empty],.int .i64 0,.int .i64 3]) (by simp[results,results78,go_sem,ot,r,j,o]) rfl ?_;exact uq z.out rfl (((D.out.setCell (by simp) _).setCell (by simp) _).setCell (by simp) _)
 have z:=za (by have:=u.out;rw[zi F]at this;exact this);clear u I F;go_enter func78,ntmps78
 go_wp2_with fail
 refine(E.out _).mono ?_;rintro e w' ⟨rfl,rfl⟩;go_wp2;refine zk (v:= .tuple #[.agg #[.int .u64 0,.string ByteArray.empty,.string ByteArray.empty],.int .i64 0,.int .i64 R]) (by simp[results,results78,go_sem,ot]) rfl ?_;exact uq z.out rfl bD
theorem Xm {L:List UInt8}(b:n+mt L (j+n) (i+n) (64-n)=X)(e:n<64)(d:i+n<L.length)(c:L[j+n]?=L[i+n]?):(n+1)+mt L (j+(n+1)) (i+(n+1)) (64-(n+1))=X:=by
 rw[<-b,show 64-n=(64-(n+1))+1 from by omega,mt,zi ⟨d,c⟩];rw[show j+(n+1)=j+n+1 from by omega,show i+(n+1)=i+n+1 from by omega];omega
theorem Qj {L:List UInt8}(b:n+mt L (j+n) (i+n) (64-n)=X)(k:n<=64)(h:¬n<64\/¬i+n<L.length\/L[j+n]?≠L[i+n]?):X=n:=by
 rw[<-b];by_cases d:n<64
 ·rw[show 64-n=(64-(n+1))+1 from by omega,mt,zh (by
   rintro⟨c,e⟩;rcases h with h|h|h
   ·exact h d
   ·exact h c
   exact h e)];rfl
 rw[show 64-n=0 from by omega];rfl
theorem KZ {b:Nat}(c:a<s.size)(d:b<s.size):(s[a].toNat==s[b].toNat)=true↔s.data.toList[a]?=s.data.toList[b]?:=by
 rw[gH s a c,gH s b d];simp[zQ]
theorem IY (w:World)(a b:Nat):(w.drewN a).drewN b=w.drewN (a+b):=by simp[World.drewN,yi]
theorem C9 {k:IntKind}{b:Nat}(h:a=b):Ending.returned (.int k b)= .returned (.int k a):=by rw[h]
theorem TY (s:ByteArray)(j i:Nat)(w:World)(B:j<i)(hi:i<=s.size)(y:s.size<=9223372036854775000):
 Calls prog 135 #[.string s,.int .i64 j,.int .i64 i] w fun e w'=>e= .returned (.int .i64 (mt s.data.toList j i 64))/\∃m,w'=w.drewN m:=by
 go_enter func135,ntmps135
 go_wp2;go_loopw [7] (fun v wr=>∃n:Nat,n<=64/\n<=64/\v= .int .i64 n/\Hid (n+mt s.data.toList (j+n) (i+n) (64-n)=mt s.data.toList j i 64)/\∃m,wr=w.drewN m) (fun v _=>64-(intOf v).toNat)
 case atStart=>exact⟨0,by omega,by omega,rfl,za (by simp),0,rfl⟩
 case round=>
  obtain⟨n,d,_,rfl,c,m,rfl⟩:=hrel;by_cases l:n<64
  ·have q:decide ((n:Int)<64)=true:=zD (by omega);have A:IntKind.i64.wrap ((i:Int)+n)=(i:Int)+n:=yc _ (by omega);have C:IntKind.i64.wrap ((j:Int)+n)=(j:Int)+n:=yc _ (by omega);by_cases b:i+n<s.size
   ·have p:decide ((i:Int)+n<s.size)=true:=zD (by omega);have E:((j:Int)+n).toNat=j+n:=by omega
    have F:((i:Int)+n).toNat=i+n:=by omega
    have z:0<=(j:Int)+n:=by omega
    have u:0<=(i:Int)+n:=by omega
    have D:(j:Int)+n<s.size:=by omega
    have x:(i:Int)+n<s.size:=by omega
    have o:j+n<s.size:=by omega
    rcases xg (s[j+n].toNat==s[i+n].toNat)with hb|hb
    ·have k:=za ((KZ o b).1 hb);have r:((s[j+n].toNat:Int)==s[i+n].toNat)=true:=by
      have:=eq_of_beq hb;rw[this];simp
     clear hb;go_wp2;go_quiet (fail)
     go_wp2;go_roundw
     case rel=>exact⟨n+1,by omega,by omega,by go_num,za (Xm c.out l (by simpa using b) k.out),_,rfl⟩
     case measure=>simp[intOf];omega
    have k:Hid (¬(s.data.toList[j+n]?=s.data.toList[i+n]?)):=za (by
     intro h;rw[(KZ o b).2 h]at hb;exact absurd hb (by decide))
    have r:((s[j+n].toNat:Int)==s[i+n].toNat)=false:=by
     have:=ne_of_beq_false hb;exact zm.2 (by omega)
    clear hb;go_wp2;go_quiet (fail)
    go_wp2;go_ret;exact⟨C9 (Qj c.out d (.inr (.inr k.out))),_,IY _ _ _⟩
   have p:decide ((i:Int)+n<s.size)=false:=zu (by omega);go_wp2;go_quiet (fail)
   go_wp2;go_ret;exact⟨C9 (Qj c.out d (.inr (.inl (by simpa using b)))),_,IY _ _ _⟩
  have q:decide ((n:Int)<64)=false:=zu (by omega);go_wp2;go_quiet (fail)
  go_wp2;go_ret;exact⟨C9 (Qj c.out d (.inl l)),_,IY _ _ _⟩
def Qk (base:Nat)(w:World)(l:List UInt8)(e:Ending)(w':World):Prop:=
 ∃(A:Option Addr) (n cap:Nat),e= .returned (.slice A n cap)/\bP w' base 5 (.slice A n cap) l/\Kept 5 base w w'
theorem Xn (h:l.length=0):ig l= []:=by unfold ig;rw[zi h]
theorem Xo (h:l.length≠0)(b:l.length<=60):ig l= [ub (4*(l.length-1):Nat)]++l:=by unfold ig;rw[zh h,zi b];rfl
theorem Xp (h:¬l.length<=60)(b:l.length<=256):ig l= [ub (240:Nat),ub (l.length-1:Nat)]++l:=by unfold ig;rw[zh (by omega),zh h,zi b];rfl
theorem Xq (h:¬l.length<=256)(b:l.length<=65536):ig l= [ub (244:Nat)]++(jw (l.length-1) 2++l):=by
 unfold ig;rw[zh (by omega),zh (by omega),zh h];simp only[jw];simp;refine⟨rfl, ?_⟩;rw[Int.emod_eq_of_lt (by omega) (by omega)]
theorem K4 (base:Nat)(v:Value)(l:List UInt8)(s:ByteArray)(w:World)(h:bP w base 5 v l)(z:base<=w.heap.size)(U:l.length<=1000000)(hs:s.size<=65536):
 Calls prog 134 #[v,.string s] w (Qk base w (l++ig s.data.toList)):=by
 obtain⟨i0,hi,k,d,i⟩:=yG rM;obtain⟨A,cap,rfl,X,Z⟩:=h.form;generalize W:l.length=n at*;have j:=aa s;by_cases q:s.size=0
 ·have J:((s.size:Int)==0)=true:=by simp[q]
  have c:=za (Xn (l:=s.data.toList) (by omega));clear q j;go_enter func134,ntmps134
  go_wp2;go_ret;exact⟨A,n,cap,rfl,by rw[c.out,yV];exact h,Kept.refl _ _ _⟩
 have J:((s.size:Int)==0)=false:=zm.2 (by omega);have fk:1<=s.size:=by omega
 by_cases h1:s.size<=60
 ·have c:=za (Xo (l:=s.data.toList) (by omega) (by omega));have r:=za (show s.data.toList.length-1=s.size-1 by rw[j]);clear q j;go_enter func134,ntmps134
  go_wp2_with (first|(at_builtin;refine aQ (by rfl) (.tmp 29) (.tmp 34) 31 31 (by rfl) base 5 i0 zr hi k d i (by rfl) (h.alloc _) _ [ub (4*(s.size-1):Nat)] (by rfl) (ka zr w 5 _ [ub (4*(s.size-1):Nat)] 1 (o6 (by omega) (by omega))) (by rw[zp];omega) (by simp only[zy,zL];omega) ?_;intro H n1 C I p b)|(at_builtin;refine aQ (by rfl) (.tmp 45) (.tmp 46) 31 9 (by rfl) base 5 i0 zr hi k d i (by rfl) p _ s.data.toList (by rfl) (ji zM _ s) (zK (by rw[zp];omega) b.size) (by simp only[zj,zy,zL,aa];omega) ?_;intro u n2 x F o m))
  go_ret;refine⟨u,n2,x,rfl, ?_,((Kept.refl _ _ _).alloc z _).trans (b.trans m)⟩;rw[c.out,r.out,<-zB];exact o
 by_cases Y:s.size<=256
 ·have c:=za (Xp (l:=s.data.toList) (by omega) (by omega));have r:=za (show s.data.toList.length-1=s.size-1 by rw[j]);clear q j;go_enter func134,ntmps134
  go_wp2_with (first|(at_builtin;refine aQ (by rfl) (.tmp 39) (.tmp 43) 31 31 (by rfl) base 5 i0 zr hi k d i (by rfl) (h.alloc _) _ [ub (240:Nat),ub (s.size-1:Nat)] (by rfl) (ka zr w 5 _ [ub (240:Nat),ub (s.size-1:Nat)] 2 (Pm (by omega) (by omega) (by omega) (by omega))) (by rw[zp];omega) (by simp only[zy,zL];omega) ?_;intro H n1 C I p b)|(at_builtin;refine aQ (by rfl) (.tmp 45) (.tmp 46) 31 9 (by rfl) base 5 i0 zr hi k d i (by rfl) p _ s.data.toList (by rfl) (ji zM _ s) (zK (by rw[zp];omega) b.size) (by simp only[zj,zy,zL,aa];omega) ?_;intro u n2 x F o m))
  go_ret;refine⟨u,n2,x,rfl, ?_,((Kept.refl _ _ _).alloc z _).trans (b.trans m)⟩;rw[c.out,r.out,<-zB];exact o
 have c:=za (Xq (l:=s.data.toList) (by omega) (by omega));have r:=za (show s.data.toList.length-1=s.size-1 by rw[j]);have D:=za (jK (s.size-1) 2 w (by omega) (by omega) (by omega));rw[show((s.size-1:Nat):Int)=(s.size:Int)-1 from by omega]at D;have B:(⟨(jw (s.size-1) 2).toArray⟩:ByteArray).data.toList=jw (s.size-1) 2:=rfl;generalize (⟨(jw (s.size-1) 2).toArray⟩:ByteArray)=T at*;have Oj:T.data.toList.length=2:=by rw[B,bg]
 have N:=za B;clear q j B;go_enter func134,ntmps134
 go_wp2_with fail
 refine D.out.mono ?_;rintro e G ⟨rfl,y⟩;have hz:=y.size;have L:=h.below y;have K:Kept 5 base w G:=Kept.ah y (zg _) z;go_wp2_with (first|(at_builtin;refine aQ (by rfl) (.tmp 17) (.tmp 18) 31 31 (by rfl) base 5 i0 zr hi k d i (by rfl) (L.alloc _) _ [ub (244:Nat)] (by rfl) (ka zr G 5 _ [ub (244:Nat)] 1 (o6 (by omega) (by omega))) (by rw[zp];omega) (by simp only[zy,zL];omega) ?_;intro H n1 C I p b)|(at_builtin;refine aQ (by rfl) (.tmp 19) (.tmp 20) 31 9 (by rfl) base 5 i0 zr hi k d i (by rfl) p _ T.data.toList (by rfl) (ji zM _ T) (zK (by rw[zp];omega) b.size) (by simp only[zj,zy,zL];omega) ?_;intro u n2 x F o m)|(at_builtin;refine aQ (by rfl) (.tmp 45) (.tmp 46) 31 9 (by rfl) base 5 i0 zr hi k d i (by rfl) o _ s.data.toList (by rfl) (ji zM _ s) (zK (by rw[zp];omega) (b.trans m).size) (by simp only[zj,zy,zL,aa];rw[<-aa T];omega) ?_;intro O S M w3 E R))
 go_ret;refine⟨O,S,M,rfl, ?_,K.trans (((Kept.refl _ _ _).alloc (by omega) _).trans (b.trans (m.trans R)))⟩;rw[N.out]at E;rw[c.out,r.out,<-zB,<-zB];exact E
theorem Xr (h:n<=11)(b:d<2048):kZ n d= [ub (1+4*(n-4)+32*(d/256):Nat),ub (d%256:Nat)]:=by unfold kZ;rw[zi ⟨h,b⟩]
theorem Xs (h:¬(n<=11/\d<2048))(hd:d<65536):kZ n d= [ub (2+4*(n-1):Nat)]++jw d 2:=by
 unfold kZ;rw[zh h];simp only[jw];simp;rw[Int.emod_eq_of_lt (by omega) (by omega)]
theorem TZ (base:Nat)(v:Value)(l:List UInt8)(n d:Nat)(w:World)(h:bP w base 5 v l)(z:base<=w.heap.size)(L:l.length<=1000000)(W:4<=n)(K:n<=64)(hd:d<65536):
 Calls prog 136 #[v,.int .i64 n,.int .i64 d] w (Qk base w (l++kZ n d)):=by
 obtain⟨i0,hi,q,k,o⟩:=yG rM;obtain⟨A,cap,rfl,M,R⟩:=h.form;generalize O:l.length=U at*;by_cases b:n<=11/\d<2048
 ·obtain⟨b,u⟩:=b;have j:=za (Xr b u);have N:decide ((d:Int)<2048)=true:=zD (by omega);go_enter func136,ntmps136
  go_wp2_with (at_builtin;refine aQ (by rfl) (.tmp 15) (.tmp 28) 31 31 (by rfl) base 5 i0 zr hi q k o (by rfl) (h.alloc _) _ [ub (1+4*(n-4)+32*(d/256):Nat),ub (d%256:Nat)] (by rfl) (ka zr w 5 _ [ub (1+4*(n-4)+32*(d/256):Nat),ub (d%256:Nat)] 2 (Pm (by omega) (by omega) (by omega) (by omega))) (by rw[zp];omega) (by simp only[zy,zL];omega) ?_;intro y n1 s J i c)
  go_ret;exact⟨y,n1,s,rfl,by rw[j.out];exact i,((Kept.refl _ _ _).alloc z _).trans c⟩
 have j:=za (Xs b hd);have H:11<n\/(n<=11/\2048<=d):=by omega
 have C:=za (jK d 2 w (by omega) (by omega) (by omega));have p:(⟨(jw d 2).toArray⟩:ByteArray).data.toList=jw d 2:=rfl;generalize (⟨(jw d 2).toArray⟩:ByteArray)=T at*;have X:T.data.toList.length=2:=by rw[p,bg]
 have G:=za p;clear b p;rcases H with b|⟨b,u⟩;all_goals
  go_enter func136,ntmps136
  go_wp2_with fail
  refine C.out.mono ?_;rintro e x ⟨rfl,m⟩;have hz:=m.size;have F:=h.below m;have D:Kept 5 base w x:=Kept.ah m (zg _) z;go_wp2_with (first|(at_builtin;refine aQ (by rfl) (.tmp 36) (.tmp 42) 31 31 (by rfl) base 5 i0 zr hi q k o (by rfl) (F.alloc _) _ [ub (2+4*(n-1):Nat)] (by rfl) (ka zr x 5 _ [ub (2+4*(n-1):Nat)] 1 (o6 (by omega) (by omega))) (by rw[zp];omega) (by simp only[zy,zL];omega) ?_;intro y n1 s J i c)|(at_builtin;refine aQ (by rfl) (.tmp 43) (.tmp 44) 31 9 (by rfl) base 5 i0 zr hi q k o (by rfl) i _ T.data.toList (by rfl) (ji zM _ T) (zK (by rw[zp];omega) c.size) (by simp only[zj,zy,zL];omega) ?_;intro E n2 I S r B))
  go_ret;refine⟨E,n2,I,rfl, ?_,D.trans (((Kept.refl _ _ _).alloc (by omega) _).trans (c.trans B))⟩;rw[G.out]at r;rw[j.out,<-zB];exact r
abbrev tH (w:World)(g:Nat)(a u t p:Nat):Prop:=af w g 131 #[.int .i64 a,.int .i64 u,.int .i64 t,.int .i64 p]
theorem IZ (n:Int)(w:World):
 Calls prog 40 #[.int .i64 n] w fun e w'=>e= .returned (.pointer (some ⟨w.heap.size,0,none⟩))/\w'=w.alloc (.cells #[.int .i64 (n.toNat:Nat),.int .i64 0,.int .i64 0,.int .i64 0] 131):=by
 by_cases h:n<0
 ·have b:((n.toNat:Nat):Int)=0:=by omega
  rw[b];clear b;go_enter func40,ntmps40
  go_wp2;go_ret;exact⟨rfl,rfl⟩
 have b:((n.toNat:Nat):Int)=n:=by omega
 rw[b];clear b;go_enter func40,ntmps40
 go_wp2;go_ret;exact⟨rfl,rfl⟩
theorem T0 (g a u t p:Nat)(w:World)(h:tH w g a u t p):
 Calls prog 43 #[.pointer (some ⟨g,0,none⟩)] w fun e w'=>e= .returned (.int .i64 t)/\w=w':=by
 have b:=h.cell 2;simp at b;clear h;go_enter func43,ntmps43
 go_wp2;go_ret;exact⟨rfl,rfl⟩
theorem FK (a b:Nat)(c:a<=9223372036854775807)(d:b<=9223372036854775807):IntKind.i64.wrap ((a:Int)-b)=(a:Int)-b:=yc _ (by omega)
theorem vN (g c b a u t n:Nat)(w:World)(i:w.cell? ⟨g,0,none⟩=some (.int .i64 a))(l:w.cell? ⟨g,1,none⟩=some (.int .i64 u))(q:w.cell? ⟨g,2,none⟩=some (.int .i64 t))(s:w.cell? ⟨c,0,none⟩=some (.int .i64 n))(j:w.cell? ⟨b,0,none⟩=some (.pointer (some ⟨g,0,none⟩)))
 (r:a<=9223372036854775807) (hu:u<=a) (d:(n:Int)<=a-u) (h:t+n<=9223372036854775807):
 Calls prog 60 #[.pointer (some ⟨c,0,none⟩),.pointer (some ⟨b,0,none⟩)] w fun e w'=>e= .returned (.int .i64 0)/\∃k,w.drewN k=w':=by
 have hd:decide ((a:Int)-u<n)=false:=by simpa using d
 have m:=FK a u (by omega) (by omega);have p:IntKind.i64.wrap (9223372036854775807-(t:Int))=9223372036854775807-(t:Int):=yc _ (by omega);have o:decide (9223372036854775807-(t:Int)<n)=false:=by simp;omega
 go_enter func60,ntmps60
 go_wp2;go_quiet (fail)
 go_wp2;go_ret;exact⟨rfl,_,rfl⟩
theorem C' (g c b u t n:Nat)(w:World)(j:w.cell? ⟨g,1,none⟩=some (.int .i64 u))(l:w.cell? ⟨g,2,none⟩=some (.int .i64 t))(f1:w.frozen? ⟨g,1,none⟩=false)(f2:w.frozen? ⟨g,2,none⟩=false)(o:w.cell? ⟨c,0,none⟩=some (.int .i64 n))(i:w.cell? ⟨b,0,none⟩=some (.pointer (some ⟨g,0,none⟩)))
 (n1:g≠c) (n2:g≠b) (hu:u+n<=9223372036854775807) (k:t+n<=9223372036854775807):
 Calls prog 61 #[.pointer (some ⟨b,0,none⟩),.pointer (some ⟨c,0,none⟩)] w fun e w'=>e= .returned (.tuple #[])/\∃m,((w.setCell ⟨g,1,none⟩ (.int .i64 (u+n:Nat))).setCell ⟨g,2,none⟩ (.int .i64 (t+n:Nat))).drewN m=w':=by
 have d:((u+n:Nat):Int)=(u:Int)+n:=by omega
 have h:((t+n:Nat):Int)=(t:Int)+n:=by omega
 rw[d,h];clear d h;go_enter func61,ntmps61
 go_wp2;go_region
 all_goals go_wp2
 go_region
 all_goals go_wp2
 go_end0
 exact⟨rfl,2,rfl⟩
theorem T1 (g j i a u t p n q y:Nat)(w:World)(c:Hid (u+n=q))(l:Hid (t+n=y))(h:tH w g a u t p)(s:w.cell? ⟨j,0,none⟩=some (.int .i64 n))(x:w.cell? ⟨i,0,none⟩=some (.pointer (some ⟨g,0,none⟩)))(n1:g≠j)(n2:g≠i)(G:a<=9223372036854775807)(L:q<=a)(K:y<=9223372036854775807):
 Calls prog 59 #[.pointer (some ⟨g,0,none⟩),.int .i64 n,.func (.func 60) #[] #[.pointer (some ⟨j,0,none⟩),.pointer (some ⟨i,0,none⟩)],.func (.func 61) #[] #[.pointer (some ⟨i,0,none⟩),.pointer (some ⟨j,0,none⟩)]] w
  fun e w'=>e= .returned (.int .i64 0)/\tH w' g a q y (max p q)/\ae [g] w w':=by
 have D:=h.cell 0;have r:=h.cell 1;have o:=h.cell 2;have E:=h.frozen 1;have F:=h.frozen 2;simp at D r o;have H:=za h;clear h;rcases Nat.lt_trichotomy p q with hp|hp|hp
 ·rw[Nat.max_eq_right (by omega)];go_enter func59,ntmps59
  go_wp2_with fail
  refine(vN g j i a u t n w D r o s x G (by have:=c.out;omega) (by have:=c.out;omega) (by have:=l.out;omega)).mono ?_;rintro e J ⟨rfl,k,rfl⟩;go_wp2_with fail
  refine(C' g j i u t n (w.drewN k) r o E F s x n1 n2 (by have:=c.out;omega) (by have:=l.out;omega)).mono ?_;rintro e w3 ⟨rfl,m,d⟩;have b:tH w3 g a q y p:=by
   rw[<-d,c.out,l.out];have h:=H.out;unfold tH at h⊢
   (repeat(first|with_reducible assumption|with_reducible apply af.drewN|with_reducible apply af.drew|with_reducible apply af.alloc|((with_reducible apply af.beside); · (first|omega|(simp<;>omega)))|with_reducible apply af.store));all_goals(first|rfl|simp)
  have B:ae [g] w w3:=by rw[<-d];exact CM
  clear d;have A:=b.cell 1;have C:=b.cell 3;have I:=b.frozen 3;simp at A C;have z:=za b;clear b;go_wp2;go_region
  all_goals
   go_wp2;go_ret;refine⟨rfl, ?_,B.up⟩;have h:=z.out;unfold tH at h⊢
   (repeat(first|with_reducible assumption|with_reducible apply af.drewN|with_reducible apply af.drew|with_reducible apply af.alloc|((with_reducible apply af.beside); · (first|omega|(simp<;>omega)))|with_reducible apply af.store));all_goals(first|rfl|simp)
 ·obtain rfl:q=p:=hp.symm;rw[Nat.max_self];clear hp;go_enter func59,ntmps59
  go_wp2_with fail
  refine(vN g j i a u t n w D r o s x G (by have:=c.out;omega) (by have:=c.out;omega) (by have:=l.out;omega)).mono ?_;rintro e J ⟨rfl,k,rfl⟩;go_wp2_with fail
  refine(C' g j i u t n (w.drewN k) r o E F s x n1 n2 (by have:=c.out;omega) (by have:=l.out;omega)).mono ?_;rintro e w3 ⟨rfl,m,d⟩;have b:tH w3 g a q y q:=by
   rw[<-d,c.out,l.out];have h:=H.out;unfold tH at h⊢
   (repeat(first|with_reducible assumption|with_reducible apply af.drewN|with_reducible apply af.drew|with_reducible apply af.alloc|((with_reducible apply af.beside); · (first|omega|(simp<;>omega)))|with_reducible apply af.store));all_goals(first|rfl|simp)
  have B:ae [g] w w3:=by rw[<-d];exact CM
  clear d;have A:=b.cell 1;have C:=b.cell 3;have I:=b.frozen 3;simp at A C;have z:=za b;clear b;go_wp2;go_region
  all_goals
   go_wp2;go_ret;refine⟨rfl, ?_,B.up⟩;have h:=z.out;unfold tH at h⊢
   (repeat(first|with_reducible assumption|with_reducible apply af.drewN|with_reducible apply af.drew|with_reducible apply af.alloc|((with_reducible apply af.beside); · (first|omega|(simp<;>omega)))|with_reducible apply af.store));all_goals(first|rfl|simp)
 rw[Nat.max_eq_left (by omega)];go_enter func59,ntmps59
 go_wp2_with fail
 refine(vN g j i a u t n w D r o s x G (by have:=c.out;omega) (by have:=c.out;omega) (by have:=l.out;omega)).mono ?_;rintro e J ⟨rfl,k,rfl⟩;go_wp2_with fail
 refine(C' g j i u t n (w.drewN k) r o E F s x n1 n2 (by have:=c.out;omega) (by have:=l.out;omega)).mono ?_;rintro e w3 ⟨rfl,m,d⟩;have b:tH w3 g a q y p:=by
  rw[<-d,c.out,l.out];have h:=H.out;unfold tH at h⊢
  (repeat(first|with_reducible assumption|with_reducible apply af.drewN|with_reducible apply af.drew|with_reducible apply af.alloc|((with_reducible apply af.beside); · (first|omega|(simp<;>omega)))|with_reducible apply af.store));all_goals(first|rfl|simp)
 have B:ae [g] w w3:=by rw[<-d];exact CM
 clear d;have A:=b.cell 1;have C:=b.cell 3;have I:=b.frozen 3;simp at A C;have z:=za b;clear b;go_wp2;go_region
 all_goals
  go_wp2;go_ret;refine⟨rfl, ?_,B.up⟩;have h:=z.out;unfold tH at h⊢
  (repeat(first|with_reducible assumption|with_reducible apply af.drewN|with_reducible apply af.drew|with_reducible apply af.alloc|((with_reducible apply af.beside); · (first|omega|(simp<;>omega)))|with_reducible apply af.store));all_goals(first|rfl|simp)
theorem qD (g a u t p n:Nat)(w:World)(h:tH w g a u t p)(o:a<=9223372036854775807)(i:u+n<=a)(m:t+n<=9223372036854775807):
 Calls prog 41 #[.pointer (some ⟨g,0,none⟩),.int .i64 n] w fun e w'=>e= .returned (.int .i64 0)/\tH w' g a (u+n) (t+n) (max p (u+n))/\ae [g] w w':=by
 have r:=h.lt;have c:=(h.alloc (.cells #[.pointer (some ⟨g,0,none⟩)] 96)).alloc (.cells #[.int .i64 n] 3);have d:((w.alloc (.cells #[.pointer (some ⟨g,0,none⟩)] 96)).alloc (.cells #[.int .i64 n] 3)).cell? ⟨w.heap.size+1,0,none⟩=some (.int .i64 n):=by
  simp
 have b:((w.alloc (.cells #[.pointer (some ⟨g,0,none⟩)] 96)).alloc (.cells #[.int .i64 n] 3)).cell? ⟨w.heap.size,0,none⟩=some (.pointer (some ⟨g,0,none⟩)):=by
  simp
 have j:=za (T1 g (w.heap.size+1) w.heap.size a u t p n _ _ _ (za rfl) (za rfl) c d b (by omega) (by omega) o i m);clear c d b h;go_enter func41,ntmps41
 go_wp2_with fail
 refine j.out.mono ?_;rintro e q ⟨rfl,k,l⟩;go_wp2;go_ret;exact⟨rfl,k,(((ae.refl [g] w).alloc _).alloc _).trans l⟩
def jy (w:World)(g:Nat)(s:ByteArray)(p L:Nat):Prop:=af w g 205 #[.string s,.int .i64 p,.int .i64 L]
theorem jy.cells (h:jy w g s p L):w.cell? ⟨g,0,none⟩=some (.string s)/\w.cell? ⟨g,1,none⟩=some (.int .i64 p)/\w.cell? ⟨g,2,none⟩=some (.int .i64 L)/\w.frozen? ⟨g,0,none⟩=false/\w.frozen? ⟨g,1,none⟩=false/\w.frozen? ⟨g,2,none⟩=false/\g<w.heap.size:=by
 obtain⟨a,b,c,d,e,f⟩:=aZ h;exact⟨a,b,c,d,e,f,af.lt h⟩
theorem jy.to {n:Int}(h:jy w g s p L)(b:n=q):jy (w.setCell ⟨g,1,none⟩ (.int .i64 n)) g s q L:=by
 subst b;exact af.store h rfl
theorem jy.less {n:Int}(h:jy w g s p L)(b:n=q):jy (w.setCell ⟨g,2,none⟩ (.int .i64 n)) g s p q:=by
 subst b;exact af.store h rfl
theorem fh (g:Nat)(s:ByteArray)(p L:Nat)(b:Nat)(w:World)(h:jy w g s p L)(j:p<s.size)(k:s.size<=100000)(c:s[p].toNat=b):
 Calls prog 187 #[.pointer (some ⟨g,0,none⟩),.int .u8 b] w fun e w'=>e= .returned (.bool true)/\jy w' g s (p+1) L/\ae [g] w w':=by
 obtain⟨g0,g1,g2,f0,f1,f2,i⟩:=h.cells;have d:=za h;subst c;clear h;have i1:((p:Int)==(s.size:Int))=false:=zm.2 (by omega);go_enter func187,ntmps187
 go_wp2_with fail
 go_quiet (fail)
 go_wp2;go_ret;exact⟨rfl,(show jy (w.drewN _) g s p L from d.out).to (by go_num),CM⟩
theorem gy (g:Nat)(s:ByteArray)(p L:Nat)(b:Nat)(w:World)(h:jy w g s p L)(j:p<=s.size)(k:s.size<=100000)(c:∀d:p<s.size,s[p].toNat≠b):
 Calls prog 187 #[.pointer (some ⟨g,0,none⟩),.int .u8 b] w fun e w'=>e= .returned (.bool false)/\∃n,w'=w.drewN n:=by
 obtain⟨g0,g1,g2,f0,f1,f2,i⟩:=h.cells;clear h;by_cases d:p<s.size
 ·have i1:((p:Int)==(s.size:Int))=false:=zm.2 (by omega);have i2:((s[p].toNat:Int) !=(b:Int))=true:=yO.2 (by have:=c d;omega);clear c;go_enter func187,ntmps187
  go_wp2_with fail
  go_quiet (fail)
  go_wp2;go_ret;exact⟨rfl,_,rfl⟩
 have i1:((p:Int)==(s.size:Int))=true:=yQ.2 (by omega);clear c;go_enter func187,ntmps187
 go_wp2_with fail
 go_quiet (fail)
 go_wp2;go_ret;exact⟨rfl,_,rfl⟩
def Ql :Option Value->Nat
 |some (.int _ z)=>z.toNat
 |_=>0
theorem I0 (g:Nat)(s:ByteArray)(p L most:Nat)(w:World)(h:jy w g s p L)(N:p<=s.size)(hs:s.size<=100000)(hm:most<=65536):
 Calls prog 186 #[.pointer (some ⟨g,0,none⟩),.int .i64 most] w fun e w'=>∃(n:Nat) (ok:Bool) (q:Nat),e= .returned (.tuple #[.int .i64 n,.bool ok])/\jy w' g s q L/\ae [g] w w'/\oH most s p n ok q:=by
 obtain⟨g0,g1,g2,f0,f1,f2,X⟩:=h.cells;have O:=za h;clear h;go_enter func186,ntmps186
 go_wp2_with fail
 go_loopw [7] (fun W wr=>∃k m:Nat,p<=k/\k<=s.size/\W= .int .i64 m/\m<=most/\Hid (k7 s p k m)/\Hid (jy wr g s k L)/\ae [g] w wr) (fun _ wr=>s.size-Ql (wr.cell? ⟨g,1,none⟩))
 case atStart=>exact⟨p,0,by omega,N,rfl,by omega,za (k7.start s p),O,CM⟩
 case round=>
  obtain⟨k,m,ag,hk,rfl,Y,u,c,l⟩:=hrel;obtain⟨c0,J,c2,ad,af,ah,pC⟩:=c.out.cells;clear g0 g1 g2 f0 f1 f2;have B:(∃_:k<s.size,48<=s[k].toNat/\s[k].toNat<=57)\/(∀h:k<s.size,je s[k]=false)/\((∃_:k<s.size,48<=s[k].toNat/\¬s[k].toNat<=57)\/(∃_:k<s.size,¬48<=s[k].toNat)\/¬k<s.size):=by
   by_cases b:k<s.size
   ·by_cases i:48<=s[k].toNat
    ·by_cases j:s[k].toNat<=57
     ·exact .inl ⟨b,i,j⟩
     exact .inr ⟨fun _=>by rw[Zq];intro hd;exact j ((k6 _).1 hd).2,.inl ⟨b,i,j⟩⟩
    exact .inr ⟨fun _=>by rw[Zq];intro hd;exact i ((k6 _).1 hd).1,.inr (.inl ⟨b,i⟩)⟩
   exact .inr ⟨fun h=>absurd h b,.inr (.inr b)⟩
  rcases B with⟨b,i,j⟩|⟨H,B⟩
  ·have i1:decide ((k:Int)<(s.size:Int))=true:=zD (by omega);have i2:decide ((48:Int)<=(s[k].toNat:Int))=true:=zD (by omega);have K:decide ((s[k].toNat:Int)<=(57:Int))=true:=zD (by omega);obtain⟨d,hd⟩:∃d:Nat,s[k].toNat-48=d:=⟨_,rfl⟩
   have Z:IntKind.u8.wrap ((s[k].toNat:Int)-48)=d:=by rw[show(s[k].toNat:Int)-48=d from by omega];exact IntWalk.u8_in _ (by omega)
   have e2:IntKind.i64.wrap (10*(m:Int))=10*m:=yc _ (by omega);have e3:IntKind.i64.wrap (d:Int)=d:=yc _ (by omega);have e4:IntKind.i64.wrap (10*(m:Int)+d)=10*(m:Int)+d:=yc _ (by omega);have F:Hid (k7 s p (k+1) (10*m+d)):=za (by
    have:=u.out.next b ((k6 _).2 ⟨i,j⟩);rwa [fw,zi (by omega),hd]at this)
   have C:Hid (∀V,jy V g s k L->jy (V.setCell ⟨g,1,none⟩ (.int .i64 ((k:Int)+1))) g s (k+1) L):=za (fun V A=>A.to (by omega));by_cases ab:(most:Int)<10*(m:Int)+d
   ·have S:Hid (∀o r,cx (s.data.toList.drop p)=some (o,r)->most<o):=za (fun o r x=>by have:=MC F.out o r x;omega);go_wp2_with fail
    go_quiet (fail)
    go_wp2_with fail
    go_quiet (fail)
    go_wp2;go_ret2
    exact⟨0,false,k+1,rfl,C.out _ (by exact c.out),l.up,EU S.out (by omega) (by omega)⟩
   go_wp2_with fail
   go_quiet (fail)
   go_wp2_with fail
   go_quiet (fail)
   go_wp2;go_roundw
   case rel=>exact⟨k+1,10*m+d,by omega,by omega,by go_num,by omega,F,za (C.out _ (by exact c.out)),l.up⟩
   case measure=>
    have x:=fun V (A:jy V g s k L)=>(C.out V A).cells.2.1
    rw[J,x]
    ·simp only[Ql];omega
    exact c.out
  have D:=za H;clear H;rcases B with⟨b,i,j⟩|⟨b,i⟩|b;all_goals
   first
    |(have i1:decide ((k:Int)<(s.size:Int))=true:=zD (by omega);have i2:decide ((48:Int)<=(s[k].toNat:Int))=true:=zD (by omega);have K:decide ((s[k].toNat:Int)<=(57:Int))=false:=zu (by omega))
    |(have i1:decide ((k:Int)<(s.size:Int))=true:=zD (by omega);have i2:decide ((48:Int)<=(s[k].toNat:Int))=false:=zu (by omega))
    |have i1:decide ((k:Int)<(s.size:Int))=false:=zu (by omega)
   have ek:IntKind.i64.wrap ((k:Int)-p)=(k:Int)-p:=yc _ (by omega);by_cases z:k=p
   ·have I:(((k:Int)-p)==1)=false:=zm.2 (by omega);have U:decide ((1:Int)<(k:Int)-p)=false:=zu (by omega);have E:=za (nT (s:=s) (at_:=p) (fun h=>by have:=D.out (by omega);simpa[z]using this));clear z;go_wp2_with fail
    go_quiet (fail)
    go_wp2_with fail
    go_quiet (fail)
    go_wp2;go_ret2
    exact⟨m,false,k,rfl,c.out,l.up,vc E.out (by omega) (by omega)⟩
   have G:Hid (p<k):=za (by omega);by_cases M:k=p+1
   ·have I:(((k:Int)-p)==1)=true:=yQ.2 (by omega);have y:=za (kg u.out (by omega) D.out (fun h=>absurd h (by omega)));clear M z;go_wp2_with fail
    go_quiet (fail)
    go_wp2_with fail
    go_quiet (fail)
    go_wp2;go_ret2
    exact⟨m,true,k,rfl,c.out,l.up,BN y.out (by omega) G.out (by omega)⟩
   have I:(((k:Int)-p)==1)=false:=zm.2 (by omega);have U:decide ((1:Int)<(k:Int)-p)=true:=zD (by omega);have aa:p<s.size:=by omega
   by_cases hz:s[p].toNat=48
   ·have R:((s[p].toNat:Int) !=48)=false:=by simp[hz]
    have E:=za (nU u.out (by omega) (fun _=>hz));clear hz;go_wp2_with fail
    go_quiet (fail)
    go_wp2_with fail
    go_quiet (fail)
    go_wp2;go_ret2
    exact⟨m,false,k,rfl,c.out,l.up,vc E.out (by omega) (by omega)⟩
   have R:((s[p].toNat:Int) !=48)=true:=yO.2 (by omega);have y:=za (kg u.out (by omega) D.out (fun _ _=>hz));clear hz;go_wp2_with fail
   go_quiet (fail)
   go_wp2_with fail
   go_quiet (fail)
   go_wp2;go_ret2
   exact⟨m,true,k,rfl,c.out,l.up,BN y.out (by omega) G.out (by omega)⟩
theorem Qm (g a b c:Nat)(s:ByteArray)(k:Nat)(v:Value)(w:World)(h:i' w g s k 0)(m:af w a 3 #[.int .i64 9])(l:af w b 164 #[.pointer (some ⟨g,0,none⟩)])(i:af w c 9 #[v])(x:k<=s.size)(y:s.size<=9223372036854775807):
 Calls prog 239 #[.pointer (some ⟨a,0,none⟩),.pointer (some ⟨b,0,none⟩),.pointer (some ⟨c,0,none⟩)] w fun e w'=>e= .returned (.int .i64 0)/\af w' c 9 #[.string (s.extract k (k+min 9 (s.size-k)))]/\ae [c] w w':=by
 have p:w.cell? ⟨g,0,none⟩=some (.string s):=h.cell 0;have o:w.cell? ⟨g,1,none⟩=some (.int .i64 k):=h.cell 1;have q:w.cell? ⟨a,0,none⟩=some (.int .i64 9):=m.cell 0;have k1:w.cell? ⟨b,0,none⟩=some (.pointer (some ⟨g,0,none⟩)):=l.cell 0;have k2:=i.frozen 0;have r:w.cell? ⟨c,0,none⟩=some v:=i.cell 0;have n:=za i;clear h m l i;by_cases u:s.size<k+9
 ·have d:¬(9:Int)<=(s.size:Int)-k:=by omega
  have j:Hid (s.extract k (k+min 9 (s.size-k))=s.extract k s.size):=za (by congr 1;omega);generalize s.extract k (k+min 9 (s.size-k))=X at*;go_enter func239,ntmps239
  go_wp2;refine cL 26 (by kernel_rfl) (by kernel_rfl) ?_;simp only[zO,yu,zX,zJ];repeat(go_big_quiet_step (fail))
  refine xE ?_;intro nq;go_wp2;go_ret;refine⟨rfl, ?_,CM⟩;have h:=n.out;rw[j.out]
  (repeat(first|with_reducible assumption|with_reducible apply af.drewN|with_reducible apply af.drew|with_reducible apply af.alloc|((with_reducible apply af.beside); · (first|omega|(simp<;>omega)))|with_reducible apply af.store));all_goals(first|rfl|simp)
 have d:(9:Int)<=(s.size:Int)-k:=by omega
 have j:Hid (s.extract k (k+min 9 (s.size-k))=s.extract k ((k:Int)+9).toNat):=za (by congr 1;omega);generalize s.extract k (k+min 9 (s.size-k))=X at*;go_enter func239,ntmps239
 go_wp2;refine cL 26 (by kernel_rfl) (by kernel_rfl) ?_;simp only[zO,yu,zX,zJ];repeat(go_big_quiet_step (fail))
 refine xE ?_;intro nq;go_wp2;go_ret;refine⟨rfl, ?_,CM⟩;have h:=n.out;rw[j.out]
 (repeat(first|with_reducible assumption|with_reducible apply af.drewN|with_reducible apply af.drew|with_reducible apply af.alloc|((with_reducible apply af.beside); · (first|omega|(simp<;>omega)))|with_reducible apply af.store));all_goals(first|rfl|simp)
theorem T2 (g:Nat)(s:ByteArray)(k:Nat)(w:World)(h:i' w g s k 0)(j:k<=s.size)(n:s.size<=9223372036854775807):
 Calls prog 217 #[.pointer (some ⟨g,0,none⟩),.int .i64 9] w fun e w'=>e= .returned (.string (s.extract k (k+min 9 (s.size-k))))/\i' w' g s k 0/\ae [g] w w':=by
 have d:=h.cell 2;have r:=h.frozen 2;have o:=h.lt;simp at d;have H:=za h;have q:=sI o d;have i:=za (Qm g (w.heap.size+1) w.heap.size (w.heap.size+1+1) s k (.string ⟨#[]⟩) (((w.alloc (.cells #[.pointer (some ⟨g,0,none⟩)] 164)).alloc (.cells #[.int .i64 9] 3)).alloc (.cells #[.string ⟨#[]⟩] 9)) (((h.alloc _).alloc _).alloc _) ((af.at_ (by simp)).alloc _) (((af.new _ _ _).alloc _).alloc _) (af.at_ (by simp)) j n);generalize s.extract k (k+min 9 (s.size-k))=X at*;clear h;go_enter func217,ntmps217
 go_wp2_with fail
 go_enter func132,ntmps132
 go_wp2_with fail
 refine i.out.mono ?_;rintro e w' ⟨rfl,hx,b⟩;have u:w'.cell? ⟨w.heap.size+1+1,0,none⟩=some (.string X):=hx.cell 0;have c:i' w' g s k 0:=(((H.out.alloc _).alloc _).alloc _).only b (by simp;omega);have p:=c.frozen 2;have x:w'.cell? ⟨g,2,none⟩=some (.int .i64 0):=c.cell 2;have m:=za c;have l:=za ((((ae.refl [g] w).alloc _).alloc _).alloc _|>.trans' b (by simp;omega));clear c hx b;go_wp2;go_end0
 go_wp2;go_ret;refine⟨rfl, ?_, ?_⟩
 ·have h:=m.out;unfold i' at h⊢
  (repeat(first|with_reducible assumption|with_reducible apply af.drewN|with_reducible apply af.drew|with_reducible apply af.alloc|((with_reducible apply af.beside); · (first|omega|(simp<;>omega)))|with_reducible apply af.store));all_goals(first|rfl|simp)
 have b:=l.out;exact b.up
def oK (N:Nat×Nat×Int)(most:Nat):Int:=if N.2.2≠0 then N.2.2 else if most<N.1 then 5 else 0
def qE (N:Nat×Nat×Int)(most:Nat):Nat:=if oK N most=0 then N.1 else 0
def sX (N:Nat×Nat×Int)(most k:Nat):Nat:=if oK N most=0 then k+N.2.1 else k
theorem nZ (N:Nat×Nat×Int)(most k:Nat):(N.2.2≠0/\oK N most=N.2.2/\qE N most=0/\sX N most k=k)\/(N.2.2=0/\most<N.1/\oK N most=5/\qE N most=0/\sX N most k=k)\/(N.2.2=0/\¬most<N.1/\oK N most=0/\qE N most=N.1/\sX N most k=k+N.2.1):=by
 unfold qE sX oK;by_cases h:N.2.2≠0
 ·simp[h]
 by_cases b:most<N.1
 ·simp only[zH]at h;simp[h,b]
 simp only[zH]at h;simp[h,b]
theorem Qn (g:Nat)(s:ByteArray)(k most:Nat)(w:World)(h:i' w g s k 0)(S:k<=s.size)(J:s.size<=9223372036854775807)(hm:most<18446744073709551616)(D:bj w)(hg:g≠0):
 Calls prog 182 #[.pointer (some ⟨g,0,none⟩),.int .u64 most] w fun e w'=>e= .returned (.int .u64 (qE (aw (s.data.toList.drop k)) most))/\i' w' g s (sX (aw (s.data.toList.drop k)) most k) (oK (aw (s.data.toList.drop k)) most)/\ae [g] w w':=by
 have u:=za (bu g s k 0 w h);have x:=za (T2 g s k w h S J);have F:(s.extract k (k+min 9 (s.size-k))).data.toList=(s.data.toList.drop k).take 9:=by
  rw[ar,ZS,show k+min 9 (s.size-k)-k=min 9 (s.size-k)from by omega];by_cases U:9<=s.size-k
  ·rw[yD U]
  rw[Nat.min_eq_right (by omega),zv (by simp),zv (by simp;omega)]
 have I:(s.extract k (k+min 9 (s.size-k))).size<=9223372036854775807:=by rw[aq _ _ _ (by omega)];omega
 have A:Hid (∀b,bj b->Calls prog 216 #[.string (s.extract k (k+min 9 (s.size-k)))] b fun e w'=>e=B8 (aw (s.data.toList.drop k))/\b=w'):=za (fun b W=>by
  have:=Qc _ b I W;rwa [F,E5]at this)
 have B:(aw (s.data.toList.drop k)).2.2=0->k+(aw (s.data.toList.drop k)).2.1<=s.size:=fun R=>by
  have:=(iL (s.data.toList.drop k) (aw (s.data.toList.drop k)).1 (aw (s.data.toList.drop k)).2.1 (by rw[<-R])).2.1;rw[zS,aa]at this;omega
 have y:=za (fun b (c:ae [g] w b)=>D.only c (by simp;omega));have Y:=za h;generalize s.extract k (k+min 9 (s.size-k))=X at*;generalize aw (s.data.toList.drop k)=N at*;obtain⟨m,z,r⟩:=N;have G:=nZ (m,z,r) most k;generalize oK (m,z,r) most=E at*;generalize qE (m,z,r) most=M at*;generalize sX (m,z,r) most k=K at*;simp only at G B;have O:=za B;clear h D F I B;rcases G with⟨C,rfl,rfl,rfl⟩|⟨rfl,L,rfl,rfl,rfl⟩|⟨rfl,L,rfl,rfl,rfl⟩
 ·have b1:(E==0)=false:=zm.2 C;have Z:(E !=0)=true:=yO.2 C;go_enter func182,ntmps182
  go_wp2_with fail
  refine u.out.mono ?_;rintro e w' ⟨rfl,rfl⟩;go_wp2_with fail
  refine x.out.mono ?_;rintro e b ⟨rfl,j,c⟩;have p:=za j;have q:=za c;have n:=za (A.out b (y.out b c));clear j c;go_wp2_with fail
  refine n.out.mono ?_;rintro e w' ⟨rfl,rfl⟩;unfold B8;go_wp2_with fail
  refine(iM g s K E b p.out).mono ?_;rintro e H ⟨rfl,i,d⟩;have l:=za i;have o:=za d;clear i d;go_wp2;go_ret;exact⟨rfl,l.out,q.out.trans o.out⟩
 ·skip
  go_enter func182,ntmps182
  go_wp2_with fail
  refine u.out.mono ?_;rintro e w' ⟨rfl,rfl⟩;go_wp2_with fail
  refine x.out.mono ?_;rintro e b ⟨rfl,j,c⟩;have p:=za j;have q:=za c;have n:=za (A.out b (y.out b c));clear j c;go_wp2_with fail
  refine n.out.mono ?_;rintro e w' ⟨rfl,rfl⟩;unfold B8;go_wp2_with fail
  refine(iM g s K 5 b p.out).mono ?_;rintro e H ⟨rfl,i,d⟩;have l:=za i;have o:=za d;clear i d;go_wp2;go_ret;exact⟨rfl,l.out,q.out.trans o.out⟩
 skip
 go_enter func182,ntmps182
 go_wp2_with fail
 refine u.out.mono ?_;rintro e w' ⟨rfl,rfl⟩;go_wp2_with fail
 refine x.out.mono ?_;rintro e b ⟨rfl,j,c⟩;have p:=za j;have q:=za c;have n:=za (A.out b (y.out b c));clear j c;go_wp2_with fail
 refine n.out.mono ?_;rintro e w' ⟨rfl,rfl⟩;unfold B8;go_wp2_with fail
 refine(eK g s k z b p.out J (O.out trivial)).mono ?_;rintro e H ⟨rfl,i,d⟩;have l:=za i;have o:=za d;clear i d;go_wp2;go_ret;exact⟨rfl,l.out,q.out.trans o.out⟩
