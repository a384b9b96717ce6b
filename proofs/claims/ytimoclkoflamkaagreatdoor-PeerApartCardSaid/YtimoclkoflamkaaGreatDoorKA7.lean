/- slices.Clone at items, item.List, item.Text. -/
import Derived.Test.YtimoclkoflamkaaGreatDoorKA6
import Derived.WalkSpells
import Derived.Lib.BufferWrite
import Derived.Deep.WholeRow
set_option linter.all false
set_option maxRecDepth 100000
set_option maxHeartbeats 4000000
open Go.Proofs.Tryz
namespace Go.Proofs.YtimoclkoflamkaaGreatDoor
open Go.RowKit
variable {k m B base cap:Nat}{s:ByteArray}{w:World}
def zl:=@bodyPost_ret
def zt:=@World.size_alloc
def zM:=@underlying9
def yt:=@underlying5
def yD:=@Below.alloc
def yN:=@bne_iff_ne
def yO:=@beq_iff_eq
def xx:=@IntWalk.u64_in
def xU:=@underlying26
theorem rN :(prog.info? 28).map (fun i=>(i.zero,i.size,i.bytes))=some (some (.agg #[eS,false,nS]),3,48):=by kernel_rfl
theorem ke {p:Addr}{v:Value}(h:w.cell? p=some v):p.block<w.heap.size:=by
 rcases xp p.block w.heap.size with h'|h'
 ·exact h'
 simp[World.cell?,xq h']at h
theorem IE (ad:Addr)(n cap:Nat)(b:List Value)(w:World)(i:b.length=n*3)(m:∀j u,b[j]?=some u->w.cell? (ad.add j)=some u)(l:∀u∈b,u.oneCell'=true)(A:n<=1000000):
 Calls prog 77 #[.slice (some ad) n cap] w fun e w'=>(∃g d,e= .returned (.slice (some ⟨g,0,none⟩) n d)/\w'.ownsRow w.heap.size 28 3 (.slice (some ⟨g,0,none⟩) n d) n b)/\Below w.heap.size w w':=by
 obtain⟨i0,hi,r,q,x⟩:=yz rN;have C:=fun(w:World) (a:Addr) (n c:Nat)=>Lib.run_eql_slice_some_nil (P:=prog) w a n c xU
 have p:=za i;have k:=za m;have o:=za l;clear i m l;go_enter func77,ntmps77
 go_wp2_with (at_builtin;refine wpList_append_own _ (by rfl) (.tmp 5) (.tmp 6) 26 (by rfl) w.heap.size 28 i0 (.agg #[eS,false,nS]) 3 48 xU hi r q x rfl (by decide) (.slice (some (w.heap.size,0)) 0 0) 0 [] (by rfl) (World.ownsRow_lit w #[] 0 (zd _) (by simp[maxLen]) rfl) ad n cap b (by rfl) p.out (fun j u hu=>(zI _ _ _ (ke (k.out j u hu))).trans (k.out j u hu)) o.out (by simp only[maxLen];omega) (by omega) (by simp) ?_;intro z B h s y)
 go_ret;simp only[zJ,yo]at h;obtain⟨g,d,rfl⟩:=mL h (by rw[Yo,y];simp);exact⟨⟨g,d,rfl,h⟩,(yD (zm w.heap.size w) (zd _) _).grown s (by simp) (by simp[Value.ownBlock])⟩
theorem Mv (n c:Nat)(w:World):
 Calls prog 77 #[.slice none n c] w fun e w'=>e= .returned nS/\w=w':=by
 have b:=fun(w:World) (n c:Nat)=>Lib.run_eql_slice_nil_nil (P:=prog) w n c xU
 go_enter func77,ntmps77
 go_wp2;go_ret;exact⟨rfl,rfl⟩
theorem CZ (s:ByteArray)(w:World):
 Calls prog 183 #[s] w fun e w'=>e= .returned (.agg #[s,false,nS])/\(w,w'):=by
 go_enter func183,ntmps183
 go_wp2;refine zl (v:= .agg #[s,false,nS]) (by simp[results,results183,go_sem]) rfl ⟨rfl, ?_⟩;exact bO
theorem Ts {g:Nat}{s:List It}{c:List Value}(b:w.ownsRow base 28 3 (.slice (some (g,0)) s.length cap) s.length c)(d:eV w B s c)(e:B<=w.heap.size):bK w w.heap.size s (some (g,0)) 0:=
 bK.dN (mK b).2.2.2 (d.ah e (fun _ _=>rfl)) fun j u hu=>by
  have:=b.cells rfl j u hu;have h:((g,0):Addr).add j=⟨g,j,none⟩:=by unfold Addr.add;split<;>simp_all
  rw[h]at this;simpa using this
theorem C0 {n:Nat}{A:Option Addr}{i:List Value}{e:TypeId}(d:w.ownsRow base e k (.slice A n cap) n i):∀g,(Value.slice A n cap).ownBlock=some g->base<=g:=by
 intro g b;rcases d.2 with⟨h,l⟩|⟨c,p,o,j,m,_⟩
 ·rw[h]at b;cases b
 rw[j]at b;have:c=g:=by simpa[Value.ownBlock]using b
 omega
theorem Pq {i:Nat}{s:List It}(h:bK w B s none i):s= []:=by
 cases s with
 |nil=>rfl
 |cons x xs=>obtain⟨⟨b,o,e,j,d,c,_⟩,_⟩:=h;cases c
theorem Mw {s:List It}{ad:Addr}(h:bK w B s (some ad) 0):∃c,eV w B s c/\∀j u,c[j]?=some u->w.cell? (ad.add j)=some u:=by
 cases s with
 |nil=>exact⟨[],rfl,by simp⟩
 |cons x xs=>
  obtain⟨b,o,_,_,_,d,_⟩:=h.at_ 0 (by simp);injection d with d;subst d;obtain⟨c,i,e⟩:=h.cells;refine⟨c,i,fun j u hu=> ?_⟩;have:=e j u hu;have k:((b,o):Addr).add j=⟨b,o+j,none⟩:=by unfold Addr.add;split<;>simp_all
  rw[k];simpa using this
theorem Tt (s:List It)(A:Option Addr)(B cap:Nat)(w:World)(h:bK w B s A 0)(o:B<=w.heap.size)(n:s.length<=1000000):
 Calls prog 77 #[.slice A s.length cap] w fun e w'=>(∃j b c,e= .returned (.slice j s.length b)/\s.length<=b/\b<=9223372036854775807/\bK w' w'.heap.size s j 0/\eV w B s c/\w'.ownsRow w.heap.size 28 3 (.slice j s.length b) s.length c)/\Below w.heap.size w w':=by
 cases A with
 |none=>
  obtain rfl:=Pq h;refine(Mv 0 cap w).mono ?_;rintro e w' ⟨rfl,rfl⟩;exact⟨⟨none,0,[],rfl,by simp,by simp,trivial,rfl,⟨by simp,.inl ⟨rfl,rfl⟩⟩⟩,zm _ _⟩
 |some ad=>
  obtain⟨c,d,l⟩:=Mw h;refine(IE ad s.length cap c w d.length l d.one n).mono ?_;rintro e w' ⟨⟨g,b,rfl,k⟩,i⟩;obtain⟨q,m,r,u⟩:=mK k;exact⟨⟨some (g,0),b,c,rfl,q,m,Ts k (d.ah o (fun p x=>i.cell (by omega))) i.size,d,k⟩,i⟩
theorem pe :(prog.info? 5).map (fun i=>(i.zero,i.size,i.bytes))=some (some (.int .u8 0),1,1):=by kernel_rfl
def WR (n sz:Nat)(w:World)(i:Value)(wr:World):Prop:=
 ∃k:Nat,k<=sz/\i= .int .i64 k/\bP wr w.heap.size 5 (.slice (some (w.heap.size,0)) sz sz) (jr n k++List.replicate (sz-k) 0)/\Kept 5 w.heap.size w wr
theorem Fs (n sz:Nat)(w:World)(B:n<18446744073709551616)(E:sz<=8):
 Calls prog 171 #[.int .u64 n,sz] w fun e w'=>e= .returned (.slice (some (w.heap.size,0)) sz sz)/\bP w' w.heap.size 5 (.slice (some (w.heap.size,0)) sz sz) (jr n sz)/\Kept 5 w.heap.size w w':=by
 obtain⟨i0,hi,z,r,s⟩:=yz pe;go_enter func171,ntmps171
 go_wp2_with (at_make;refine wpList_make_full _ rfl _ _ 75 rfl w.heap.size 5 i0 (.int .u8 0) 1 zq hi z r .i64 .i64 _ _ sz rfl rfl (by omega) (by omega) (by rw[s];omega) (by simp only[maxLen];omega) (by omega) ?_;intro q d p)
 have h:bP q w.heap.size 5 (.slice (some (w.heap.size,0)) sz sz) (List.replicate sz 0):=by
  rw[u9]at d;have:=bP.own (l:=List.replicate sz 0) (by simpa using d);simpa using this
 have m:Kept 5 w.heap.size w q:=Kept.J' p (zd _);clear d p;go_loopw [10] (fun i wr=>WR n sz w i wr) (fun i _=>sz-(intOf i).toNat)
 case atStart=>exact⟨0,by omega,rfl,by simpa[jr]using h,m⟩
 case round=>
  obtain⟨k,D,rfl,b,c⟩:=hrel;clear h m;by_cases y:k<sz
  ·have u:(jr n k++List.replicate (sz-k) (0:UInt8)).length=sz:=by rw[zk,bc,xz];omega
   obtain⟨C,f1,g1,g2⟩:=b.at_ (k:=k) (by omega);have j:=za (b.set (k:=k) (by omega) (ub (n/2^(8*k)%256:Nat)));rw[OX y]at j;obtain⟨A,F,o,_⟩:=b.block;have x:=za (fun v=>c.store (k:=k) o (zd _) v);clear u o b c;go_wp2;go_roundw
   case rel=>
    rw[Tc];exact⟨k+1,by omega,by go_num,j.out,x.out _⟩
   case measure=>simp[intOf];omega
  go_wp2;go_ret;obtain rfl:sz=k:=by omega
  exact⟨rfl,by simpa using b,c⟩
theorem Tu (n sz:Nat)(w:World)(b:n<2^(8*sz))(d:1<=sz)(c:sz<=8):
 Calls prog 170 #[.int .u64 n,sz] w fun e w'=>e= .returned (0:Int)/\w=w':=by
 have h:(n:Int)/2^(8*sz)=0:=by
  have:((n/2^(8*sz):Nat):Int)=0:=by rw[Nat.div_eq_of_lt b];rfl
  simpa using this
 clear b;go_enter func170,ntmps170
 go_wp2;go_ret;exact⟨rfl,rfl⟩
def rv (l:List UInt8):Nat->List UInt8
 |0=>l
 |k+1=>((rv l k).set k ((rv l k).getD (l.length-1-k) 0)).set (l.length-1-k) ((rv l k).getD k 0)
theorem rO (l:List UInt8)(k:Nat):(rv l k).length=l.length:=by
 induction k with
 |zero=>rfl
 |succ k ih=>simp[rv,ih]
theorem aca (l:List UInt8)(k:Nat):2*k<=l.length+1->∀j,j<l.length->(rv l k)[j]?=if j<k\/l.length-k<=j then l[l.length-1-j]? else l[j]?:=by
 induction k with
 |zero=>intro _ j b;rw[zi (by omega)];rfl
 |succ k ih=>
  intro o j b;have d:=ih (by omega);have n:=d k (by omega);have i:=d (l.length-1-k) (by omega);have m:=rO l k;simp only[rv,List.getElem?_set,zw,Zn,m];by_cases h:l.length-1-k=j
  ·subst h;rw[zj rfl,zj b,zj (by omega),n];by_cases c:k=l.length-1-k
   ·rw[zi (by omega),<-c,zA (by omega),];simp only[Option.getD_some];rw[show l.length-1-k=k from by omega,zA (by omega)]
   rw[zi (by omega),show l.length-1-(l.length-1-k)=k from by omega,zA (by omega)];rfl
  rw[zi h];by_cases e:k=j
  ·subst e;rw[zj rfl,zj b,zj (by omega),i,zi (by omega),zA (by omega)];rfl
  rw[zi e,d j b];by_cases c:j<k\/l.length-k<=j
  ·rw[zj c,zj (by omega)]
  rw[zi c,zi (by omega)]
theorem WS (l:List UInt8)(k:Nat)(h:l.length<=2*k+1)(d:2*k<=l.length+1):rv l k=l.reverse:=by
 apply List.ext_getElem?;intro j;by_cases c:j<l.length
 ·rw[aca l k d j c,List.getElem?_reverse c];by_cases b:j<k\/l.length-k<=j
  ·rw[zj b]
  rw[zi b,show l.length-1-j=j from by omega]
 rw[y8 (by rw[rO];omega),y8 (by simp;omega)]
theorem Mx (base g cap:Nat)(l:List UInt8)(w:World)(m:bP w base 5 (.slice (some (g,0)) l.length cap) l)(z:l.length<=1099511627776):
 Calls prog 219 #[.slice (some (g,0)) l.length cap] w fun e w'=>e= .returned (.tuple #[])/\bP w' base 5 (.slice (some (g,0)) l.length cap) l.reverse/\Kept 5 base w w':=by
 obtain⟨n,o⟩:∃n,l.length=n:=⟨_,rfl⟩
 rw[o]at m z⊢;have c:=za o;clear o;go_enter func219,ntmps219
 go_wp2;go_loopw [2,3] (fun i j wr=>∃k:Nat,2*k<=n+1/\i= .int .i64 k/\j= .int .i64 ((n:Int)-1-k)/\bP wr base 5 (.slice (some (g,0)) n cap) (rv l k)/\Kept 5 base w wr) (fun i _ _=>n-(intOf i).toNat)
 case atStart=>exact⟨0,by omega,rfl,by go_num,m,Kept.refl _ _ _⟩
 case round=>
  obtain⟨k,I,rfl,rfl,b,h⟩:=hrel;clear m;by_cases J:2*k+1<n
  ·have B:(rv l k).length=n:=by rw[rO,c.out]
   obtain⟨d,hd⟩:∃d:Nat,n-1-k=d:=⟨_,rfl⟩
   have u:(n:Int)-1-k=d:=by omega
   obtain⟨H,f1,g1,g2⟩:=b.at_ (k:=k) (by omega);obtain⟨G,f2,_,_⟩:=b.at_ (k:=d) (by omega);have r:=za ((b.set (k:=k) (by omega) ((rv l k).getD d 0)).set (k:=d) (by rw[Zn];omega) ((rv l k).getD k 0));obtain⟨D,K,p,q⟩:=b.block;have A:=za (((h.store (k:=k) p q (.int .u8 ((rv l k).getD d 0).toNat))).store (k:=d) (jd _ p) q (.int .u8 ((rv l k).getD k 0).toNat));have s:Hid (((rv l k).set k ((rv l k).getD d 0)).set d ((rv l k).getD k 0)=rv l (k+1)):=za (by simp only[rv];rw[c.out,hd]);rw[s.out]at r;have F:((g,d):Addr)≠⟨g,k,none⟩:=fun e=>by have:=yp Addr.off e;simp at this;omega
   rw[u];generalize ((rv l k).getD d 0).toNat=y at*;generalize ((rv l k).getD k 0).toNat=x at*;have E:k<d:=by omega
   have C:d<n:=by omega
   clear p b h B hd;go_wp2;go_region
   all_goals
    go_wp2;go_roundw
    case rel=>exact⟨k+1,by omega,by go_num,by go_num,r.out.drew,A.out.drew⟩
    case measure=>simp[intOf];omega
  have e:rv l k=l.reverse:=WS l k (by rw[c.out];omega) (by rw[c.out];omega);rw[e]at b;go_wp2;go_end0
  exact⟨rfl,b,h⟩
theorem My (base g cap:Nat)(l:List UInt8)(w:World)(c:bP w base 5 (.slice (some (g,0)) l.length cap) l)(i:l.length<=1099511627776):
 Calls prog 194 #[.slice (some (g,0)) l.length cap] w fun e w'=>e= .returned (.string ⟨l.reverse.toArray⟩)/\Kept 5 base w w':=by
 have k:=za (Mx base g cap l w c i);clear c;go_enter func194,ntmps194
 go_wp2_with fail
 refine k.out.mono ?_;rintro e o ⟨rfl,b,d⟩;have m:=b.H' (P:=prog) zq yt zM;have j:=za d;clear b d;obtain⟨X,h⟩:∃X,Hid ((⟨l.reverse.toArray⟩:ByteArray)=X):=⟨_,za rfl⟩
 rw[h.out]at m;generalize l.length=n at*;go_wp2;go_ret;exact⟨by rw[h.out];rfl,j.out⟩
theorem kU (c:k<s.size)(h:iG (s.data.toList.take k)=true)(b:ou s[k].toNat=true):iG (s.data.toList.take (k+1))=true:=by
 rw[jn s k c,uW,h,b];rfl
theorem mX (c:k<s.size)(b:ou s[k].toNat=false):b8 s=false:=by
 have:iG (s.data.toList.take (k+1))=false:=by rw[jn s k c,uW,b];simp
 rw[b8,Ar _ _ this];rfl
theorem Ky (d:¬k<s.size)(c:1<=s.size)(b:s.size<=12)(h:iG (s.data.toList.take k)=true):b8 s=true:=by
 rw[zx (by simp;omega)]at h;rw[ON c b,h]
theorem qm (s:ByteArray)(w:World)(y:s.size<=9223372036854775807):
 Calls prog 83 #[s] w fun e w'=>e= .returned (.bool (b8 s))/\w=w':=by
 by_cases p:1<=s.size
 ·by_cases n:s.size<=12
  ·go_enter func83,ntmps83
   go_wp2;go_loop [15] (fun i=>∃k:Nat,k<=s.size/\Hid (iG (s.data.toList.take k)=true)/\i= .int .i64 k) (fun i=>s.size-(intOf i).toNat)
   case atStart=>exact⟨0,by omega,za (by simp[iG]),rfl⟩
   case round=>
    obtain⟨k,u,j,rfl⟩:=hrel;by_cases d:k<s.size
    ·rcases Br s[k].toNat s[k].toNat_lt with⟨b,m,q⟩|⟨b,m⟩
     ·have c:=za b;have o:(((s[k].toNat:Nat):Int) !=95)=true:=yN.2 (by omega);clear b q;rcases m with h|⟨h,l⟩|⟨h,l⟩|h;all_goals
       go_wp2;go_ret;exact⟨aV (mX d c.out),rfl⟩
     have c:=za b;clear b;rcases m with⟨h,l⟩|h|⟨h,l⟩
     ·go_wp2;go_round
      case rel=>exact⟨k+1,by omega,za (kU d j.out c.out),by go_num⟩
      case measure=>simp[intOf];omega
     ·have o:(((s[k].toNat:Nat):Int) !=95)=false:=by simp[h]
      have r:94<s[k].toNat:=by omega
      have x:s[k].toNat<96:=by omega
      clear h;go_wp2;go_round
      case rel=>exact⟨k+1,by omega,za (kU d j.out c.out),by go_num⟩
      case measure=>simp[intOf];omega
     go_wp2;go_round
     case rel=>exact⟨k+1,by omega,za (kU d j.out c.out),by go_num⟩
     case measure=>simp[intOf];omega
    go_wp2;go_ret;exact⟨aV (Ky d p n j.out),rfl⟩
  go_enter func83,ntmps83
  go_wp2;go_ret;exact⟨aV (pS (by omega)),rfl⟩
 go_enter func83,ntmps83
 go_wp2;go_ret;exact⟨aV (pS (by omega)),rfl⟩
theorem Mz (s:ByteArray)(w:World)(A:s.size<=9223372036854775807):
 Calls prog 25 #[s] w fun e w'=>e= .returned (.bool (b8 s))/\w=w':=by
 go_enter func25,ntmps25
 go_wp2;go_loop [3] (fun i=>∃k:Nat,k<=s.size/\Hid (iG (s.data.toList.take k)=true)/\i= .int .i64 k) (fun i=>s.size-(intOf i).toNat)
 case atStart=>exact⟨0,by omega,za (by simp[iG]),rfl⟩
 case round=>
  obtain⟨k,y,l,rfl⟩:=hrel;by_cases c:k<s.size
  ·rcases Br s[k].toNat s[k].toNat_lt with⟨d,n,r⟩|⟨d,n⟩
   ·have b:=za d;have p:(((s[k].toNat:Nat):Int)==95)=false:=zp.2 (by omega);clear d r;rcases n with h|⟨h,m⟩|⟨h,m⟩|h
    ·go_wp2;go_ret;exact⟨aV (mX c b.out),rfl⟩
    ·have j:decide (((s[k].toNat:Nat):Int)<=57)=false:=zv (by omega);go_wp2;go_ret;exact⟨aV (mX c b.out),rfl⟩
    ·have j:decide (((s[k].toNat:Nat):Int)<=57)=false:=zv (by omega);go_wp2;go_ret;exact⟨aV (mX c b.out),rfl⟩
    have j:decide (((s[k].toNat:Nat):Int)<=57)=false:=zv (by omega);have u:decide (((s[k].toNat:Nat):Int)<=122)=false:=zv (by omega);go_wp2;go_ret;exact⟨aV (mX c b.out),rfl⟩
   have b:=za d;clear d;rcases n with⟨h,m⟩|h|⟨h,m⟩
   ·go_wp2;go_round
    case rel=>exact⟨k+1,by omega,za (kU c l.out b.out),by go_num⟩
    case measure=>simp[intOf];omega
   ·have p:(((s[k].toNat:Nat):Int)==95)=true:=by simp[h]
    have x:94<s[k].toNat:=by omega
    have z:s[k].toNat<96:=by omega
    clear h;go_wp2;go_round
    case rel=>exact⟨k+1,by omega,za (kU c l.out b.out),by go_num⟩
    case measure=>simp[intOf];omega
   go_wp2;go_round
   case rel=>exact⟨k+1,by omega,za (kU c l.out b.out),by go_num⟩
   case measure=>simp[intOf];omega
  by_cases q:1<=s.size
  ·by_cases o:s.size<=12
   ·have j:decide ((s.size:Int)<=12)=true:=zF (by omega);go_wp2;go_ret;exact⟨aV (Ky c q o l.out),rfl⟩
   have j:decide ((s.size:Int)<=12)=false:=zv (by omega);go_wp2;go_ret;exact⟨aV (pS (by omega)),rfl⟩
  go_wp2;go_ret;exact⟨aV (pS (by omega)),rfl⟩
theorem Pr (m k d:Nat)(h:8*k+d=56):(#[Value.int .u8 ((m:Int)/2^d%256)]:Array Value).toList=cb [UInt8.ofNat (m/2^(56-8*k))]:=by
 have hd:56-8*k=d:=by omega
 rw[hd];simp[cb]
theorem acb (n:Nat)(w:World)(hn:n<=100000):
 Calls prog 227 #[n] w fun e w'=>e= .returned (.tuple #[.string (iF n),(0:Int)])/\(w,w'):=by
 obtain⟨i0,hi,E,p,q⟩:=yz pe;have o:Hid (iF n=⟨((128::List.replicate (dH n) 0)++fz (n*8)).toArray⟩):=za rfl;have hz:=sw n;have U:Hid (dH n=(64-(n+9)%64)%64):=za rfl;obtain⟨z,l⟩:∃z,dH n=z:=⟨_,rfl⟩
 have Y:=za l;rw[l]at hz;obtain⟨m,s⟩:∃m,1+z=m:=⟨_,rfl⟩
 obtain⟨c,hc⟩:∃c,m+8=c:=⟨_,rfl⟩
 have e1:(64-((n:Int)+9)%64)%64=(z:Int):=by have:=U.out;omega
 have e2:(1:Int)+(z:Int)=(m:Int):=by omega
 have e3:(m:Int)+8=(c:Int):=by omega
 have J:m<=c:=by omega
 have HM:=za s;clear l s hc;have d1:decide ((n:Int)<0)=false:=zv (by omega);have d2:decide ((1099511627776:Int)<n)=false:=zv (by omega);go_enter func227,ntmps227
 go_wp2_with (at_make;refine l5 _ (by rfl) _ _ 75 (by rfl) w.heap.size 5 i0 zq hi E p q .i64 .i64 m c (by rfl) (by rfl) J (by omega) (zd _) ?_;intro w1 h x R;obtain⟨S,f0,g0,g1⟩:=h.at_ (k:=0) (by simp;omega))
 have O:Hid (bP (w1.setCell (w.heap.size,0) (.int .u8 128)) w.heap.size 5 (.slice (some (w.heap.size,0)) m c) ((128::List.replicate z 0)++(fz (n*8)).take 0)):=za (by
  have:=h.set (k:=0) (by simp;omega) 128;have e:(List.replicate m (0:UInt8)).set 0 128=(128::List.replicate z 0)++(fz (n*8)).take 0:=by
   rw[<-HM.out,Zw 1 z,ZQ,ze];simp
  rw[e]at this;exact this)
 obtain⟨aa,fr,B,_⟩:=h.block;have K:=za (x.store (k:=0) B (zd _) (.int .u8 128));rw[Y.out]at o;clear B h x R S f0;go_loopw [5,26] (fun v i wr=>∃k:Nat,k<=8/\i= .int .i64 k/\bP wr w.heap.size 5 v ((128::List.replicate z 0)++(fz (n*8)).take k)/\Kept 5 w.heap.size w wr) (fun _ i _=>8-(intOf i).toNat)
 case atStart=>exact⟨0,by omega,rfl,O.out,K.out⟩
 case round=>
  obtain⟨k,hk,rfl,b,j⟩:=hrel;obtain⟨A,L,cap,rfl,hL,ab,nH⟩:=b.cy;have C:=za j;have fa:=j.size;clear j;by_cases M:k<8
  ·obtain⟨d,hd⟩:∃d,56-8*k=d:=⟨_,rfl⟩
   have W:8*k+d=56:=by omega
   have e4:(56:Int)-8*(k:Int)=(d:Int):=by omega
   have F:=za (Pr (n*8) k d W);have Q6:((128::List.replicate z (0:UInt8))++(fz (n*8)).take k).length<=100:=by simp[iv];omega
   have Z:Hid (((128::List.replicate z (0:UInt8))++(fz (n*8)).take k)++ [UInt8.ofNat (n*8/2^(56-8*k))]=(128::List.replicate z 0)++(fz (n*8)).take (k+1)):=za (by rw[Ev _ _ M,zC]);generalize ((128::List.replicate z (0:UInt8))++(fz (n*8)).take k)=LL at*;generalize UInt8.ofNat (n*8/2^(56-8*k))=D at*;simp only[Int.natCast_mul]at F;clear hd;go_wp2_with (at_builtin;refine aP (by rfl) (.tmp 29) (.tmp 38) 75 75 (by rfl) w.heap.size 5 i0 zq hi E p q (by rfl) (b.alloc _) _ [D] (by rfl) (uj zq _ 5 _ [D] 1 _ (by rfl) F.out) (by simp only[zt];omega) (by simp;omega) ?_;intro A3 n3 DD w3 r u;have N:=za r;have I:=za ((C.out.alloc (by omega) _).trans u);clear r u b)
   go_roundw
   case rel=>exact⟨k+1,by omega,by go_num,by rw[<-Z.out];exact N.out,I.out⟩
   case measure=>simp[intOf];omega
  have y:(fz (n*8)).take k=fz (n*8):=zx (by rw[iv];omega);rw[y]at b;have H:=b.H' (P:=prog) zq yt zM;rw[<-o.out]at H;clear b y o;obtain⟨X,G⟩:∃X,Hid (iF n=X):=⟨_,za rfl⟩
  rw[G.out]at H;go_wp2;go_ret2
  exact⟨by rw[G.out];rfl,C.out.below⟩
theorem vG (m b k:Nat)(e:b<256)(c:k<=9)(d:m<2^(7*k))(j:¬((k=9/\1<b)\/(0<k/\b=0))):
 bits .or .u64 (m:Int) (IntKind.u64.wrap (IntKind.u64.wrap (bits .and .u8 (b:Int) 127)*2^(7*k)))=((m+b%128*2^(7*k):Nat):Int):=by
 have i:bits .and .u8 (b:Int) 127=((b%128:Nat):Int):=by
  have:=u8_and_nat b 127 e (by omega);rw[nat_mask7]at this;exact this
 have l:=Eo m b k c d j;have n:=J7 k c;have h:((b%128:Nat):Int)*2^(7*k)=((b%128*2^(7*k):Nat):Int):=by simp
 rw[i,xx ((b%128:Nat):Int) (by omega),h,xx _ (by omega),u64_or_nat _ _ (by omega) (by omega),WA _ _ _ d]
theorem uw {a b:Nat}{c:Int}{x:Nat×Nat×Int}{v:Int}(h:x=(a,b,c))(d:v=(a:Int)):Ending.returned (.tuple #[.int .u64 v,b,c])= .returned (.tuple #[.int .u64 x.1,x.2.1,x.2.2]):=by
 subst h;subst d;rfl
theorem Ps {x:Nat×Nat×Int}(b:k<s.size)(h:k<=8)(e:cd s (10-k) k m=x)(d:¬((k=9/\1<s[k].toNat)\/(0<k/\s[k].toNat=0)))(c:¬s[k].toNat<128):
 cd s (10-(k+1)) (k+1) (m+s[k].toNat%128*2^(7*k))=x:=by
 rw[<-e,show 10-k=(10-(k+1))+1 from by omega,jA s _ k m b d c]
theorem Ft {x:Nat×Nat×Int}(b:k<s.size)(h:k<=9)(e:cd s (10-k) k m=x)(d:¬((k=9/\1<s[k].toNat)\/(0<k/\s[k].toNat=0)))(c:s[k].toNat<128):
 x=(m+s[k].toNat%128*2^(7*k),k+1,0):=by
 rw[<-e,show 10-k=(9-k)+1 from by omega,jz s _ k m b d c]
theorem WT {x:Nat×Nat×Int}(d:k<s.size)(e:k<=9)(b:cd s (10-k) k m=x)(c:(k=9/\1<s[k].toNat)\/(0<k/\s[k].toNat=0)):x=(0,0,3):=by
 rw[<-b,show 10-k=(9-k)+1 from by omega,nM s _ k m d c]
theorem Pt {x:Nat×Nat×Int}(c:k<=s.size)(e:¬(k<s.size/\k<10))(d:k<=10)(b:cd s (10-k) k m=x):x=(0,0,2):=by
 rw[<-b];rcases xp k 10 with h|h
 ·exact jo s _ k m (by omega)
 rw[show 10-k=0 from by omega];rfl
theorem Pu (k b:Nat)(c:k<10):
 (((k=9/\1<b)\/(0<k/\b=0))/\((((k:Int)==9)=true/\1<b)\/(((k:Int)==9)=true/\b<=1/\0<k/\((b:Int)==0)=true)\/(((k:Int)==9)=false/\0<k/\((b:Int)==0)=true)))\/
 ((¬((k=9/\1<b)\/(0<k/\b=0)))/\((((k:Int)==9)=true/\b<=1/\0<k/\((b:Int)==0)=false)\/(((k:Int)==9)=false/\0<k/\((b:Int)==0)=false/\k<=8)\/(((k:Int)==9)=false/\k<=0))):=by
 simp only[yO,zY,yV,zp,Yo];omega
theorem rP (s:ByteArray)(w:World)(B:s.size<=9223372036854775807):
 Calls prog 144 #[s] w fun e w'=>e= .returned (.tuple #[.int .u64 (ay s).1,.int .i64 (ay s).2.1,.int .i64 (ay s).2.2])/\w=w':=by
 by_cases A:s.size<=10;all_goals
  go_enter func144,ntmps144
  go_wp2;go_loop [5,11] (fun n i=>∃k m:Nat,k<=10/\k<=s.size/\Hid (m<2^(7*k))/\Hid (cd s (10-k) k m=ay s)/\n= .int .u64 m/\i= .int .i64 k) (fun _ i=>10-(intOf i).toNat)
  case atStart=>exact⟨0,0,by omega,by omega,za (by simp),rfl,rfl,rfl⟩
  case round=>
   obtain⟨k,m,y,x,o,l,rfl,rfl⟩:=hrel;by_cases c:k<s.size/\k<10
   ·obtain⟨c,z⟩:=c;rcases Pu k s[k].toNat z with⟨h,q⟩|⟨h,q⟩
    ·have b:=za h;clear h;rcases q with⟨j,d⟩|⟨j,d,r,u⟩|⟨j,d,r⟩;all_goals
      go_wp2;go_ret3
      exact⟨uw (WT c (by omega) l.out b.out) rfl,rfl⟩
    have b:=za h;clear h;have p:=za (s[k].toNat_lt);rcases q with⟨j,d,r,u⟩|⟨j,d,r,u⟩|⟨j,d⟩
    ·go_wp2;go_ret3
     exact⟨uw (Ft c (by omega) l.out b.out (by omega)) (vG m _ k p.out (by omega) o.out b.out),rfl⟩
    all_goals
     go_wp2
     ·go_ret3
      exact⟨uw (Ft c (by omega) l.out b.out (by omega)) (vG m _ k p.out (by omega) o.out b.out),rfl⟩
     go_round
     case rel=>exact⟨k+1,_,by omega,by omega,za (uP m s[k].toNat k o.out),za (Ps c (by omega) l.out b.out (by omega)),by rw[vG m _ k p.out (by omega) o.out b.out],by go_num⟩
     case measure=>simp[intOf];omega
   go_wp2;go_ret3
   exact⟨uw (Pt x c y l.out) rfl,rfl⟩
