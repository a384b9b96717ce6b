/- slices.Clone at items, item.List, item.Text. -/
import Derived.Test.YtimoclkoflamkaaGreatDoorKA6
import Derived.WalkSpells
import Derived.Lib.BufferWrite
import Derived.Deep.WholeRow
set_option linter.all false
set_option maxRecDepth 100000
set_option maxHeartbeats 4000000
open Go.Proofs.Tryz
namespace Go.Proofs.YtimoclkoflamkaaGreatDoor
open Go.RowKit
variable {k m B base cap:Nat}{s:ByteArray}{w:World}
def zj:=@bodyPost_ret
def zp:=@World.size_alloc
def zH:=@underlying9
def ym:=@underlying5
def yD:=@Below.alloc
def yL:=@bne_iff_ne
def yN:=@beq_iff_eq
def xy:=@IntWalk.u64_in
def xU:=@underlying26
theorem sK :(prog.info? 28).map (fun i=>(i.zero,i.size,i.bytes))=some (some (.agg #[eS,false,nS]),3,48):=by kernel_rfl
theorem Gy {p:Addr}{v:Value}(h:w.cell? p=some v):p.block<w.heap.size:=by
 rcases xp p.block w.heap.size with h'|h'
 ·exact h'
 simp[World.cell?,xq h']at h
theorem JU (ad:Addr)(n cap:Nat)(b:List Value)(w:World)(k:b.length=n*3)(l:∀j u,b[j]?=some u->w.cell? (ad.add j)=some u)(i:∀u∈b,u.oneCell'=true)(C:n<=1000000):
 Calls prog 77 #[.slice (some ad) n cap] w fun e w'=>(∃g d,e= .returned (.slice (some ⟨g,0,none⟩) n d)/\w'.ownsRow w.heap.size 28 3 (.slice (some ⟨g,0,none⟩) n d) n b)/\Below w.heap.size w w':=by
 obtain⟨i0,hi,o,s,r⟩:=yv sK;have z:=fun(w:World) (a:Addr) (n c:Nat)=>Lib.run_eql_slice_some_nil (P:=prog) w a n c xU
 have x:=za k;have m:=za l;have y:=za i;clear k l i;go_enter func77,ntmps77
 go_wp2_with (at_builtin;refine wpList_append_own _ (by rfl) (.tmp 5) (.tmp 6) 26 (by rfl) w.heap.size 28 i0 (.agg #[eS,false,nS]) 3 48 xU hi o s r rfl (by decide) (.slice (some (w.heap.size,0)) 0 0) 0 [] (by rfl) (World.ownsRow_lit w #[] 0 (ze _) (by simp[maxLen]) rfl) ad n cap b (by rfl) x.out (fun j u hu=>(zF _ _ _ (Gy (m.out j u hu))).trans (m.out j u hu)) y.out (by simp only[maxLen];omega) (by omega) (by simp) ?_;intro B A h p q)
 go_ret;simp only[zK,yo]at h;obtain⟨g,d,rfl⟩:=mY h (by rw[YC,q];simp);exact⟨⟨g,d,rfl,h⟩,(yD (zi w.heap.size w) (ze _) _).grown p (by simp) (by simp[Value.ownBlock])⟩
theorem Oj (n c:Nat)(w:World):
 Calls prog 77 #[.slice none n c] w fun e w'=>e= .returned nS/\w=w':=by
 have b:=fun(w:World) (n c:Nat)=>Lib.run_eql_slice_nil_nil (P:=prog) w n c xU
 go_enter func77,ntmps77
 go_wp2;go_ret;exact⟨rfl,rfl⟩
theorem D5 (s:ByteArray)(w:World):
 Calls prog 183 #[s] w fun e w'=>e= .returned (.agg #[s,false,nS])/\(w,w'):=by
 go_enter func183,ntmps183
 go_wp2;refine zj (v:= .agg #[s,false,nS]) (by simp[results,results183,go_sem]) rfl ⟨rfl, ?_⟩;exact bQ
theorem Vr {g:Nat}{s:List It}{c:List Value}(b:w.ownsRow base 28 3 (.slice (some (g,0)) s.length cap) s.length c)(h:eY w B s c)(d:B<=w.heap.size):bN w w.heap.size s (some (g,0)) 0:=
 bN.dU (mX b).2.2.2 (h.ah d (fun _ _=>rfl)) fun j u hu=>by
  have:=b.cells rfl j u hu;have e:((g,0):Addr).add j=⟨g,j,none⟩:=by unfold Addr.add;split<;>simp_all
  rw[e]at this;simpa using this
theorem D6 {n:Nat}{A:Option Addr}{j:List Value}{e:TypeId}(i:w.ownsRow base e k (.slice A n cap) n j):∀g,(Value.slice A n cap).ownBlock=some g->base<=g:=by
 intro g b;rcases i.2 with⟨h,l⟩|⟨d,p,o,c,m,_⟩
 ·rw[h]at b;cases b
 rw[c]at b;have:d=g:=by simpa[Value.ownBlock]using b
 omega
theorem Rx {i:Nat}{s:List It}(h:bN w B s none i):s= []:=by
 cases s with
 |nil=>rfl
 |cons x xs=>obtain⟨⟨b,o,d,j,e,c,_⟩,_⟩:=h;cases c
theorem Ok {s:List It}{ad:Addr}(h:bN w B s (some ad) 0):∃c,eY w B s c/\∀j u,c[j]?=some u->w.cell? (ad.add j)=some u:=by
 cases s with
 |nil=>exact⟨[],rfl,by simp⟩
 |cons x xs=>
  obtain⟨b,o,_,_,_,d,_⟩:=h.at_ 0 (by simp);injection d with d;subst d;obtain⟨c,i,k⟩:=h.cells;refine⟨c,i,fun j u hu=> ?_⟩;have:=k j u hu;have e:((b,o):Addr).add j=⟨b,o+j,none⟩:=by unfold Addr.add;split<;>simp_all
  rw[e];simpa using this
theorem Vt (s:List It)(A:Option Addr)(B cap:Nat)(w:World)(h:bN w B s A 0)(l:B<=w.heap.size)(o:s.length<=1000000):
 Calls prog 77 #[.slice A s.length cap] w fun e w'=>(∃i b c,e= .returned (.slice i s.length b)/\s.length<=b/\b<=9223372036854775807/\bN w' w'.heap.size s i 0/\eY w B s c/\w'.ownsRow w.heap.size 28 3 (.slice i s.length b) s.length c)/\Below w.heap.size w w':=by
 cases A with
 |none=>
  obtain rfl:=Rx h;refine(Oj 0 cap w).mono ?_;rintro e w' ⟨rfl,rfl⟩;exact⟨⟨none,0,[],rfl,by simp,by simp,trivial,rfl,⟨by simp,.inl ⟨rfl,rfl⟩⟩⟩,zi _ _⟩
 |some ad=>
  obtain⟨c,d,n⟩:=Ok h;refine(JU ad s.length cap c w d.length n d.one o).mono ?_;rintro e w' ⟨⟨g,b,rfl,j⟩,k⟩;obtain⟨q,m,u,x⟩:=mX j;exact⟨⟨some (g,0),b,c,rfl,q,m,Vr j (d.ah l (fun p r=>k.cell (by omega))) k.size,d,j⟩,k⟩
theorem pM :(prog.info? 5).map (fun i=>(i.zero,i.size,i.bytes))=some (some (.int .u8 0),1,1):=by kernel_rfl
def aam (n sz:Nat)(w:World)(i:Value)(wr:World):Prop:=
 ∃k:Nat,k<=sz/\i= .int .i64 k/\bR wr w.heap.size 5 (.slice (some (w.heap.size,0)) sz sz) (jz n k++List.replicate (sz-k) 0)/\Kept 5 w.heap.size w wr
theorem Gz (n sz:Nat)(w:World)(A:n<18446744073709551616)(D:sz<=8):
 Calls prog 171 #[.int .u64 n,sz] w fun e w'=>e= .returned (.slice (some (w.heap.size,0)) sz sz)/\bR w' w.heap.size 5 (.slice (some (w.heap.size,0)) sz sz) (jz n sz)/\Kept 5 w.heap.size w w':=by
 obtain⟨i0,hi,x,z,y⟩:=yv pM;go_enter func171,ntmps171
 go_wp2_with (at_make;refine wpList_make_full _ rfl _ _ 75 rfl w.heap.size 5 i0 (.int .u8 0) 1 zm hi x z .i64 .i64 _ _ sz rfl rfl (by omega) (by omega) (by rw[y];omega) (by simp only[maxLen];omega) (by omega) ?_;intro q c j)
 have p:bR q w.heap.size 5 (.slice (some (w.heap.size,0)) sz sz) (List.replicate sz 0):=by
  rw[vZ]at c;have:=bR.own (l:=List.replicate sz 0) (by simpa using c);simpa using this
 have m:Kept 5 w.heap.size w q:=Kept.LC j (ze _);clear c j;go_loopw [10] (fun i wr=>aam n sz w i wr) (fun i _=>sz-(intOf i).toNat)
 case atStart=>exact⟨0,by omega,rfl,by simpa[jz]using p,m⟩
 case round=>
  obtain⟨k,C,rfl,b,d⟩:=hrel;clear p m;by_cases r:k<sz
  ·have s:(jz n k++List.replicate (sz-k) (0:UInt8)).length=sz:=by rw[zh,bd,xA];omega
   obtain⟨F,f1,g1,g2⟩:=b.at_ (k:=k) (by omega);have o:=za (b.set (k:=k) (by omega) (ub (n/2^(8*k)%256:Nat)));rw[QY r]at o;obtain⟨B,E,h,_⟩:=b.block;have u:=za (fun v=>d.store (k:=k) h (ze _) v);clear s h b d;go_wp2;go_roundw
   case rel=>
    rw[Vb];exact⟨k+1,by omega,by go_num,o.out,u.out _⟩
   case measure=>simp[intOf];omega
  go_wp2;go_ret;obtain rfl:sz=k:=by omega
  exact⟨rfl,by simpa using b,d⟩
theorem Vu (n sz:Nat)(w:World)(b:n<2^(8*sz))(d:1<=sz)(h:sz<=8):
 Calls prog 170 #[.int .u64 n,sz] w fun e w'=>e= .returned (0:Int)/\w=w':=by
 have c:(n:Int)/2^(8*sz)=0:=by
  have:((n/2^(8*sz):Nat):Int)=0:=by rw[Nat.div_eq_of_lt b];rfl
  simpa using this
 clear b;go_enter func170,ntmps170
 go_wp2;go_ret;exact⟨rfl,rfl⟩
def rv (l:List UInt8):Nat->List UInt8
 |0=>l
 |k+1=>((rv l k).set k ((rv l k).getD (l.length-1-k) 0)).set (l.length-1-k) ((rv l k).getD k 0)
theorem sL (l:List UInt8)(k:Nat):(rv l k).length=l.length:=by
 induction k with
 |zero=>rfl
 |succ k ih=>simp[rv,ih]
theorem aem (l:List UInt8)(k:Nat):2*k<=l.length+1->∀j,j<l.length->(rv l k)[j]?=if j<k\/l.length-k<=j then l[l.length-1-j]? else l[j]?:=by
 induction k with
 |zero=>intro _ j c;rw[zf (by omega)];rfl
 |succ k ih=>
  intro o j c;have d:=ih (by omega);have m:=d k (by omega);have i:=d (l.length-1-k) (by omega);have n:=sL l k;simp only[rv,List.getElem?_set,zu,Zr,n];by_cases e:l.length-1-k=j
  ·subst e;rw[zg rfl,zg c,zg (by omega),m];by_cases b:k=l.length-1-k
   ·rw[zf (by omega),<-b,zr (by omega),];simp only[Option.getD_some];rw[show l.length-1-k=k from by omega,zr (by omega)]
   rw[zf (by omega),show l.length-1-(l.length-1-k)=k from by omega,zr (by omega)];rfl
  rw[zf e];by_cases h:k=j
  ·subst h;rw[zg rfl,zg c,zg (by omega),i,zf (by omega),zr (by omega)];rfl
  rw[zf h,d j c];by_cases b:j<k\/l.length-k<=j
  ·rw[zg b,zg (by omega)]
  rw[zf b,zf (by omega)]
theorem aan (l:List UInt8)(k:Nat)(h:l.length<=2*k+1)(d:2*k<=l.length+1):rv l k=l.reverse:=by
 apply List.ext_getElem?;intro j;by_cases b:j<l.length
 ·rw[aem l k d j b,List.getElem?_reverse b];by_cases c:j<k\/l.length-k<=j
  ·rw[zg c]
  rw[zf c,show l.length-1-j=j from by omega]
 rw[yZ (by rw[sL];omega),yZ (by simp;omega)]
theorem Ol (base g cap:Nat)(l:List UInt8)(w:World)(p:bR w base 5 (.slice (some (g,0)) l.length cap) l)(u:l.length<=1099511627776):
 Calls prog 219 #[.slice (some (g,0)) l.length cap] w fun e w'=>e= .returned (.tuple #[])/\bR w' base 5 (.slice (some (g,0)) l.length cap) l.reverse/\Kept 5 base w w':=by
 obtain⟨n,h⟩:∃n,l.length=n:=⟨_,rfl⟩
 rw[h]at p u⊢;have c:=za h;clear h;go_enter func219,ntmps219
 go_wp2;go_loopw [2,3] (fun i j wr=>∃k:Nat,2*k<=n+1/\i= .int .i64 k/\j= .int .i64 ((n:Int)-1-k)/\bR wr base 5 (.slice (some (g,0)) n cap) (rv l k)/\Kept 5 base w wr) (fun i _ _=>n-(intOf i).toNat)
 case atStart=>exact⟨0,by omega,rfl,by go_num,p,Kept.refl _ _ _⟩
 case round=>
  obtain⟨k,G,rfl,rfl,b,o⟩:=hrel;clear p;by_cases E:2*k+1<n
  ·have A:(rv l k).length=n:=by rw[sL,c.out]
   obtain⟨d,hd⟩:∃d:Nat,n-1-k=d:=⟨_,rfl⟩
   have B:(n:Int)-1-k=d:=by omega
   obtain⟨K,f1,g1,g2⟩:=b.at_ (k:=k) (by omega);obtain⟨J,f2,_,_⟩:=b.at_ (k:=d) (by omega);have r:=za ((b.set (k:=k) (by omega) ((rv l k).getD d 0)).set (k:=d) (by rw[Zr];omega) ((rv l k).getD k 0));obtain⟨D,I,m,q⟩:=b.block;have z:=za (((o.store (k:=k) m q (.int .u8 ((rv l k).getD d 0).toNat))).store (k:=d) (jl _ m) q (.int .u8 ((rv l k).getD k 0).toNat));have s:Hid (((rv l k).set k ((rv l k).getD d 0)).set d ((rv l k).getD k 0)=rv l (k+1)):=za (by simp only[rv];rw[c.out,hd]);rw[s.out]at r;have C:((g,d):Addr)≠⟨g,k,none⟩:=fun e=>by have:=yi Addr.off e;simp at this;omega
   rw[B];generalize ((rv l k).getD d 0).toNat=y at*;generalize ((rv l k).getD k 0).toNat=x at*;have F:k<d:=by omega
   have H:d<n:=by omega
   clear m b o A hd;go_wp2;go_region
   all_goals
    go_wp2;go_roundw
    case rel=>exact⟨k+1,by omega,by go_num,by go_num,r.out.drew,z.out.drew⟩
    case measure=>simp[intOf];omega
  have e:rv l k=l.reverse:=aan l k (by rw[c.out];omega) (by rw[c.out];omega);rw[e]at b;go_wp2;go_end0
  exact⟨rfl,b,o⟩
theorem Om (base g cap:Nat)(l:List UInt8)(w:World)(c:bR w base 5 (.slice (some (g,0)) l.length cap) l)(k:l.length<=1099511627776):
 Calls prog 194 #[.slice (some (g,0)) l.length cap] w fun e w'=>e= .returned (.string ⟨l.reverse.toArray⟩)/\Kept 5 base w w':=by
 have m:=za (Ol base g cap l w c k);clear c;go_enter func194,ntmps194
 go_wp2_with fail
 refine m.out.mono ?_;rintro e o ⟨rfl,d,b⟩;have i:=d.Jt (P:=prog) zm ym zH;have j:=za b;clear d b;obtain⟨X,h⟩:∃X,Hid ((⟨l.reverse.toArray⟩:ByteArray)=X):=⟨_,za rfl⟩
 rw[h.out]at i;generalize l.length=n at*;go_wp2;go_ret;exact⟨by rw[h.out];rfl,j.out⟩
theorem lf (c:k<s.size)(h:iJ (s.data.toList.take k)=true)(b:oW s[k].toNat=true):iJ (s.data.toList.take (k+1))=true:=by
 rw[jw s k c,vV,h,b];rfl
theorem nB (c:k<s.size)(b:oW s[k].toNat=false):ca s=false:=by
 have:iJ (s.data.toList.take (k+1))=false:=by rw[jw s k c,vV,b];simp
 rw[ca,BF _ _ this];rfl
theorem L9 (d:¬k<s.size)(b:1<=s.size)(c:s.size<=12)(h:iJ (s.data.toList.take k)=true):ca s=true:=by
 rw[zw (by simp;omega)]at h;rw[QO b c,h]
theorem qN (s:ByteArray)(w:World)(y:s.size<=9223372036854775807):
 Calls prog 83 #[s] w fun e w'=>e= .returned (.bool (ca s))/\w=w':=by
 by_cases p:1<=s.size
 ·by_cases q:s.size<=12
  ·go_enter func83,ntmps83
   go_wp2;go_loop [15] (fun i=>∃k:Nat,k<=s.size/\Hid (iJ (s.data.toList.take k)=true)/\i= .int .i64 k) (fun i=>s.size-(intOf i).toNat)
   case atStart=>exact⟨0,by omega,za (by simp[iJ]),rfl⟩
   case round=>
    obtain⟨k,r,j,rfl⟩:=hrel;by_cases d:k<s.size
    ·rcases Cx s[k].toNat s[k].toNat_lt with⟨c,l,n⟩|⟨c,l⟩
     ·have b:=za c;have o:(((s[k].toNat:Nat):Int) !=95)=true:=yL.2 (by omega);clear c n;rcases l with h|⟨h,m⟩|⟨h,m⟩|h;all_goals
       go_wp2;go_ret;exact⟨aU (nB d b.out),rfl⟩
     have b:=za c;clear c;rcases l with⟨h,m⟩|h|⟨h,m⟩
     ·go_wp2;go_round
      case rel=>exact⟨k+1,by omega,za (lf d j.out b.out),by go_num⟩
      case measure=>simp[intOf];omega
     ·have o:(((s[k].toNat:Nat):Int) !=95)=false:=by simp[h]
      have u:94<s[k].toNat:=by omega
      have x:s[k].toNat<96:=by omega
      clear h;go_wp2;go_round
      case rel=>exact⟨k+1,by omega,za (lf d j.out b.out),by go_num⟩
      case measure=>simp[intOf];omega
     go_wp2;go_round
     case rel=>exact⟨k+1,by omega,za (lf d j.out b.out),by go_num⟩
     case measure=>simp[intOf];omega
    go_wp2;go_ret;exact⟨aU (L9 d p q j.out),rfl⟩
  go_enter func83,ntmps83
  go_wp2;go_ret;exact⟨aU (qt (by omega)),rfl⟩
 go_enter func83,ntmps83
 go_wp2;go_ret;exact⟨aU (qt (by omega)),rfl⟩
theorem On (s:ByteArray)(w:World)(A:s.size<=9223372036854775807):
 Calls prog 25 #[s] w fun e w'=>e= .returned (.bool (ca s))/\w=w':=by
 go_enter func25,ntmps25
 go_wp2;go_loop [3] (fun i=>∃k:Nat,k<=s.size/\Hid (iJ (s.data.toList.take k)=true)/\i= .int .i64 k) (fun i=>s.size-(intOf i).toNat)
 case atStart=>exact⟨0,by omega,za (by simp[iJ]),rfl⟩
 case round=>
  obtain⟨k,u,j,rfl⟩:=hrel;by_cases c:k<s.size
  ·rcases Cx s[k].toNat s[k].toNat_lt with⟨d,m,o⟩|⟨d,m⟩
   ·have b:=za d;have p:(((s[k].toNat:Nat):Int)==95)=false:=zl.2 (by omega);clear d o;rcases m with h|⟨h,n⟩|⟨h,n⟩|h
    ·go_wp2;go_ret;exact⟨aU (nB c b.out),rfl⟩
    ·have l:decide (((s[k].toNat:Nat):Int)<=57)=false:=zt (by omega);go_wp2;go_ret;exact⟨aU (nB c b.out),rfl⟩
    ·have l:decide (((s[k].toNat:Nat):Int)<=57)=false:=zt (by omega);go_wp2;go_ret;exact⟨aU (nB c b.out),rfl⟩
    have l:decide (((s[k].toNat:Nat):Int)<=57)=false:=zt (by omega);have y:decide (((s[k].toNat:Nat):Int)<=122)=false:=zt (by omega);go_wp2;go_ret;exact⟨aU (nB c b.out),rfl⟩
   have b:=za d;clear d;rcases m with⟨h,n⟩|h|⟨h,n⟩
   ·go_wp2;go_round
    case rel=>exact⟨k+1,by omega,za (lf c j.out b.out),by go_num⟩
    case measure=>simp[intOf];omega
   ·have p:(((s[k].toNat:Nat):Int)==95)=true:=by simp[h]
    have x:94<s[k].toNat:=by omega
    have z:s[k].toNat<96:=by omega
    clear h;go_wp2;go_round
    case rel=>exact⟨k+1,by omega,za (lf c j.out b.out),by go_num⟩
    case measure=>simp[intOf];omega
   go_wp2;go_round
   case rel=>exact⟨k+1,by omega,za (lf c j.out b.out),by go_num⟩
   case measure=>simp[intOf];omega
  by_cases q:1<=s.size
  ·by_cases r:s.size<=12
   ·have l:decide ((s.size:Int)<=12)=true:=zD (by omega);go_wp2;go_ret;exact⟨aU (L9 c q r j.out),rfl⟩
   have l:decide ((s.size:Int)<=12)=false:=zt (by omega);go_wp2;go_ret;exact⟨aU (qt (by omega)),rfl⟩
  go_wp2;go_ret;exact⟨aU (qt (by omega)),rfl⟩
theorem Ry (m k d:Nat)(h:8*k+d=56):(#[Value.int .u8 ((m:Int)/2^d%256)]:Array Value).toList=cb [UInt8.ofNat (m/2^(56-8*k))]:=by
 have hd:56-8*k=d:=by omega
 rw[hd];simp[cb]
theorem aen (n:Nat)(w:World)(hn:n<=100000):
 Calls prog 227 #[n] w fun e w'=>e= .returned (.tuple #[.string (iI n),(0:Int)])/\(w,w'):=by
 obtain⟨i0,hi,E,H,F⟩:=yv pM;have o:Hid (iI n=⟨((128::List.replicate (dP n) 0)++fD (n*8)).toArray⟩):=za rfl;have hz:=tt n;have O:Hid (dP n=(64-(n+9)%64)%64):=za rfl;obtain⟨z,l⟩:∃z,dP n=z:=⟨_,rfl⟩
 have Y:=za l;rw[l]at hz;obtain⟨m,p⟩:∃m,1+z=m:=⟨_,rfl⟩
 obtain⟨c,W⟩:∃c,m+8=c:=⟨_,rfl⟩
 have e1:(64-((n:Int)+9)%64)%64=(z:Int):=by have:=O.out;omega
 have e2:(1:Int)+(z:Int)=(m:Int):=by omega
 have e3:(m:Int)+8=(c:Int):=by omega
 have S:m<=c:=by omega
 have HM:=za p;clear l p W;have d1:decide ((n:Int)<0)=false:=zt (by omega);have d2:decide ((1099511627776:Int)<n)=false:=zt (by omega);go_enter func227,ntmps227
 go_wp2_with (at_make;refine mq _ (by rfl) _ _ 75 (by rfl) w.heap.size 5 i0 zm hi E H F .i64 .i64 m c (by rfl) (by rfl) S (by omega) (ze _) ?_;intro Z h D ab;obtain⟨K,f0,g0,g1⟩:=h.at_ (k:=0) (by simp;omega))
 have R:Hid (bR (Z.setCell (w.heap.size,0) (.int .u8 128)) w.heap.size 5 (.slice (some (w.heap.size,0)) m c) ((128::List.replicate z 0)++(fD (n*8)).take 0)):=za (by
  have:=h.set (k:=0) (by simp;omega) 128;have e:(List.replicate m (0:UInt8)).set 0 128=(128::List.replicate z 0)++(fD (n*8)).take 0:=by
   rw[<-HM.out,Zx 1 z,Z0,zc];simp
  rw[e]at this;exact this)
 obtain⟨ad,fr,x,_⟩:=h.block;have M:=za (D.store (k:=0) x (ze _) (.int .u8 128));rw[Y.out]at o;clear x h D ab K f0;go_loopw [5,26] (fun v i wr=>∃k:Nat,k<=8/\i= .int .i64 k/\bR wr w.heap.size 5 v ((128::List.replicate z 0)++(fD (n*8)).take k)/\Kept 5 w.heap.size w wr) (fun _ i _=>8-(intOf i).toNat)
 case atStart=>exact⟨0,by omega,rfl,R.out,M.out⟩
 case round=>
  obtain⟨k,hk,rfl,b,j⟩:=hrel;obtain⟨A,L,cap,rfl,hL,ae,od⟩:=b.bK;have B:=za j;have dZ:=j.size;clear j;by_cases I:k<8
  ·obtain⟨d,hd⟩:∃d,56-8*k=d:=⟨_,rfl⟩
   have aa:8*k+d=56:=by omega
   have e4:(56:Int)-8*(k:Int)=(d:Int):=by omega
   have G:=za (Ry (n*8) k d aa);have Tc:((128::List.replicate z (0:UInt8))++(fD (n*8)).take k).length<=100:=by simp[iB];omega
   have N:Hid (((128::List.replicate z (0:UInt8))++(fD (n*8)).take k)++ [UInt8.ofNat (n*8/2^(56-8*k))]=(128::List.replicate z 0)++(fD (n*8)).take (k+1)):=za (by rw[FL _ _ I,zB]);generalize ((128::List.replicate z (0:UInt8))++(fD (n*8)).take k)=LL at*;generalize UInt8.ofNat (n*8/2^(56-8*k))=q at*;simp only[Int.natCast_mul]at G;clear hd;go_wp2_with (at_builtin;refine aP (by rfl) (.tmp 29) (.tmp 38) 75 75 (by rfl) w.heap.size 5 i0 zm hi E H F (by rfl) (b.alloc _) _ [q] (by rfl) (vq zm _ 5 _ [q] 1 _ (by rfl) G.out) (by simp only[zp];omega) (by simp;omega) ?_;intro A3 n3 Is w3 s r;have U:=za s;have J:=za ((B.out.alloc (by omega) _).trans r);clear s r b)
   go_roundw
   case rel=>exact⟨k+1,by omega,by go_num,by rw[<-N.out];exact U.out,J.out⟩
   case measure=>simp[intOf];omega
  have u:(fD (n*8)).take k=fD (n*8):=zw (by rw[iB];omega);rw[u]at b;have y:=b.Jt (P:=prog) zm ym zH;rw[<-o.out]at y;clear b u o;obtain⟨X,C⟩:∃X,Hid (iI n=X):=⟨_,za rfl⟩
  rw[C.out]at y;go_wp2;go_ret2
  exact⟨by rw[C.out];rfl,B.out.below⟩
theorem wT (m b k:Nat)(i:b<256)(c:k<=9)(d:m<2^(7*k))(j:¬((k=9/\1<b)\/(0<k/\b=0))):
 bits .or .u64 (m:Int) (IntKind.u64.wrap (IntKind.u64.wrap (bits .and .u8 (b:Int) 127)*2^(7*k)))=((m+b%128*2^(7*k):Nat):Int):=by
 have e:bits .and .u8 (b:Int) 127=((b%128:Nat):Int):=by
  have:=u8_and_nat b 127 i (by omega);rw[nat_mask7]at this;exact this
 have n:=FF m b k c d j;have l:=Lz k c;have h:((b%128:Nat):Int)*2^(7*k)=((b%128*2^(7*k):Nat):Int):=by simp
 rw[e,xy ((b%128:Nat):Int) (by omega),h,xy _ (by omega),u64_or_nat _ _ (by omega) (by omega),Y9 _ _ _ d]
theorem vy {a b:Nat}{c:Int}{x:Nat×Nat×Int}{v:Int}(h:x=(a,b,c))(d:v=(a:Int)):Ending.returned (.tuple #[.int .u64 v,b,c])= .returned (.tuple #[.int .u64 x.1,x.2.1,x.2.2]):=by
 subst h;subst d;rfl
theorem Rz {x:Nat×Nat×Int}(e:k<s.size)(h:k<=8)(c:cl s (10-k) k m=x)(d:¬((k=9/\1<s[k].toNat)\/(0<k/\s[k].toNat=0)))(b:¬s[k].toNat<128):
 cl s (10-(k+1)) (k+1) (m+s[k].toNat%128*2^(7*k))=x:=by
 rw[<-c,show 10-k=(10-(k+1))+1 from by omega,jI s _ k m e d b]
theorem GA {x:Nat×Nat×Int}(e:k<s.size)(h:k<=9)(c:cl s (10-k) k m=x)(d:¬((k=9/\1<s[k].toNat)\/(0<k/\s[k].toNat=0)))(b:s[k].toNat<128):
 x=(m+s[k].toNat%128*2^(7*k),k+1,0):=by
 rw[<-c,show 10-k=(9-k)+1 from by omega,jH s _ k m e d b]
theorem aao {x:Nat×Nat×Int}(b:k<s.size)(e:k<=9)(c:cl s (10-k) k m=x)(d:(k=9/\1<s[k].toNat)\/(0<k/\s[k].toNat=0)):x=(0,0,3):=by
 rw[<-c,show 10-k=(9-k)+1 from by omega,oq s _ k m b d]
theorem RA {x:Nat×Nat×Int}(d:k<=s.size)(c:¬(k<s.size/\k<10))(e:k<=10)(b:cl s (10-k) k m=x):x=(0,0,2):=by
 rw[<-b];rcases xp k 10 with h|h
 ·exact jx s _ k m (by omega)
 rw[show 10-k=0 from by omega];rfl
theorem RB (k b:Nat)(c:k<10):
 (((k=9/\1<b)\/(0<k/\b=0))/\((((k:Int)==9)=true/\1<b)\/(((k:Int)==9)=true/\b<=1/\0<k/\((b:Int)==0)=true)\/(((k:Int)==9)=false/\0<k/\((b:Int)==0)=true)))\/
 ((¬((k=9/\1<b)\/(0<k/\b=0)))/\((((k:Int)==9)=true/\b<=1/\0<k/\((b:Int)==0)=false)\/(((k:Int)==9)=false/\0<k/\((b:Int)==0)=false/\k<=8)\/(((k:Int)==9)=false/\k<=0))):=by
 simp only[yN,zU,yM,zl,YC];omega
theorem sM (s:ByteArray)(w:World)(B:s.size<=9223372036854775807):
 Calls prog 144 #[s] w fun e w'=>e= .returned (.tuple #[.int .u64 (ay s).1,.int .i64 (ay s).2.1,.int .i64 (ay s).2.2])/\w=w':=by
 by_cases A:s.size<=10;all_goals
  go_enter func144,ntmps144
  go_wp2;go_loop [5,11] (fun n i=>∃k m:Nat,k<=10/\k<=s.size/\Hid (m<2^(7*k))/\Hid (cl s (10-k) k m=ay s)/\n= .int .u64 m/\i= .int .i64 k) (fun _ i=>10-(intOf i).toNat)
  case atStart=>exact⟨0,0,by omega,by omega,za (by simp),rfl,rfl,rfl⟩
  case round=>
   obtain⟨k,m,x,y,o,l,rfl,rfl⟩:=hrel;by_cases c:k<s.size/\k<10
   ·obtain⟨c,z⟩:=c;rcases RB k s[k].toNat z with⟨j,q⟩|⟨j,q⟩
    ·have b:=za j;clear j;rcases q with⟨h,d⟩|⟨h,d,p,u⟩|⟨h,d,p⟩;all_goals
      go_wp2;go_ret3
      exact⟨vy (aao c (by omega) l.out b.out) rfl,rfl⟩
    have b:=za j;clear j;have r:=za (s[k].toNat_lt);rcases q with⟨h,d,p,u⟩|⟨h,d,p,u⟩|⟨h,d⟩
    ·go_wp2;go_ret3
     exact⟨vy (GA c (by omega) l.out b.out (by omega)) (wT m _ k r.out (by omega) o.out b.out),rfl⟩
    all_goals
     go_wp2
     ·go_ret3
      exact⟨vy (GA c (by omega) l.out b.out (by omega)) (wT m _ k r.out (by omega) o.out b.out),rfl⟩
     go_round
     case rel=>exact⟨k+1,_,by omega,by omega,za (vO m s[k].toNat k o.out),za (Rz c (by omega) l.out b.out (by omega)),by rw[wT m _ k r.out (by omega) o.out b.out],by go_num⟩
     case measure=>simp[intOf];omega
   go_wp2;go_ret3
   exact⟨vy (RA y c x l.out) rfl,rfl⟩
