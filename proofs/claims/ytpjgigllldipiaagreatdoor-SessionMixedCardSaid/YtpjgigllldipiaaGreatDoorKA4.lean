/- Packing, greedily: the plain function; what it packs is unpacked again, and isn't longer than the bound. No program in sight. -/
import Derived.Test.YtpjgigllldipiaaGreatDoorKA1
set_option linter.all false
namespace Go.Proofs.YtpjgigllldipiaaGreatDoor
def ze:=@List.set_cons_zero
def zJ:=@Decidable.not_not
def zQ:=@List.drop_zero
def zR:=@List.take_succ_cons
def zS:=@List.length_nil
def zU:=@List.drop_eq_nil_of_le
def zW:=@UInt8.toNat_inj
def yf:=@List.drop_succ_cons
def ym:=@Nat.zero_le
def yB:=@List.take_zero
def yE:=@List.nil_append
def yF:=@List.length_singleton
def xf:=@not_true_eq_false
def xp:=@List.append_nil
def xD:=@List.take_take
def xF:=@List.set_append_right
def Zf:=@Nat.div_lt_of_lt_mul
def Zq:=@if_false
def Zv:=@Nat.eq_zero_or_pos
def Zy:=@Nat.pow_succ
def ZA:=@Nat.add_comm
def Z2:=@Prod.ext
def Ye:=@List.take_add_one
def Yi:=@List.take_length
def Yj:=@List.drop_length
def aQ (n:Nat):List UInt8:=if n<128 then [ub n]else ub (n%128+128:Nat)::aQ (n/128)
termination_by n
theorem gS {n:Nat}(h:n<128):aQ n= [ub n]:=by rw[aQ,zl h]
theorem jd {n:Nat}(h:¬n<128):aQ n=ub (n%128+128:Nat)::aQ (n/128):=by rw[aQ,zj h]
theorem Eh (n:Nat):1<=(aQ n).length:=by
 by_cases h:n<128
 ·simp[gS h]
 simp[jd h]
theorem bF (k:Nat):∀n,n<128^k->1<=k->(aQ n).length<=k:=by
 induction k with
 |zero=>intro n _ h;omega
 |succ k ih=>
  intro n b _;by_cases h:n<128
  ·simp[gS h]
  rw[jd h,zD];rcases Zv k with h0|h0
  ·subst h0;simp at b;omega
  have:=ih (n/128) (by rw[Zy]at b;exact Zf (by rw[Zz];exact b)) h0;omega
theorem Lr (n:Nat):∀(s:ByteArray) (pre rest:List UInt8) (i m:Nat),s.data.toList=pre++(aQ n++rest)->pre.length=i->i<=9->n<2^(64-7*i)->(i=0\/0<n)->
 ca s (10-i) i m=(m+n*2^(7*i),i+(aQ n).length,0):=by
 induction n using Nat.strongRecOn with
 |ind n ih=>
  intro s pre rest i m d j hi l u;rw[show 10-i=(9-i)+1 from by omega];have q:i=9->n<=1:=by
   intro h;subst h;have:(2:Nat)^(64-7*9)=2:=by decide
   omega
  by_cases h:n<128
  ·rw[gS h]at d⊢;obtain⟨g,e⟩:=oy (s:=s) (k:=i) (b:=ub n) (by rw[d,yr (by omega),j];simp);have c:s[i].toNat=n:=by rw[e,bg n (by omega)]
   rw[jn s _ i m g (by rw[c];omega) (by rw[c];exact h),c,Nat.mod_eq_of_lt h];simp
  rw[jd h]at d⊢;obtain⟨g,e⟩:=oy (s:=s) (k:=i) (b:=ub (n%128+128:Nat)) (by rw[d,yr (by omega),j];simp);have c:s[i].toNat=n%128+128:=by rw[e,bg _ (by omega)]
  rw[jo s _ i m g (by rw[c];omega) (by rw[c];omega),c];have w:7*i+7<=64:=by
   rcases Zl i 9 with h9|h9
   ·omega
   have:=q (by omega);omega
  have p:2^(64-7*i)=2^(64-7*(i+1))*128:=by
   rw[show 64-7*i=(64-7*(i+1))+7 from by omega,Zd]
  have hd:n/128<2^(64-7*(i+1)):=Zf (by rw[Zz,<-p];exact l);have:=ih (n/128) (by omega) s (pre++ [ub (n%128+128:Nat)]) rest (i+1) (m+(n%128+128)%128*2^(7*i)) (by rw[d];simp) (by simp;omega) (by omega) hd (Or.inr (by omega));rw[show 9-i=10-(i+1)from by omega,this];have r:2^(7*(i+1))=128*2^(7*i):=by rw[show 7*(i+1)=7+7*i from by omega,Zd]
  have o:m+(n%128+128)%128*2^(7*i)+n/128*2^(7*(i+1))=m+n*2^(7*i):=by
   rw[r,show(n%128+128)%128=n%128 from by omega,<-Nat.mul_assoc,yw,<-Nat.add_mul,show n%128+n/128*128=n from by omega]
  rw[o];exact Z2 rfl (Z2 (by simp only[zD];omega) rfl)
theorem jT (n:Nat)(s:ByteArray)(rest:List UInt8)(c:s.data.toList=aQ n++rest)(b:n<18446744073709551616):aw s=(n,(aQ n).length,0):=by
 have:=Lr n s [] rest 0 0 (by simpa using c) rfl (by omega) (by simpa using b) (Or.inl rfl);simpa[aw]using this
def mt (L:List UInt8)(j i:Nat):Nat->Nat
 |0=>0
 |f+1=>if i<L.length/\L[j]?=L[i]? then mt L (j+1) (i+1) f+1 else 0
def GX (L:List UInt8)(i:Nat):Nat->Option Nat
 |0=>none
 |j+1=>if 4<=mt L j i 64 then some j else GX L i j
def gT (l:List UInt8):List UInt8:=
 if l.length=0 then []else if l.length<=60 then ub (4*(l.length-1):Nat)::l
 else if l.length<=256 then 240::ub (l.length-1:Nat)::l
 else 244::ub ((l.length-1)%256:Nat)::ub ((l.length-1)/256:Nat)::l
def kG (n d:Nat):List UInt8:=
 if n<=11/\d<2048 then [ub (1+4*(n-4)+32*(d/256):Nat),ub (d%256:Nat)]
 else [ub (2+4*(n-1):Nat),ub (d%256:Nat),ub (d/256:Nat)]
def pk (L:List UInt8):Nat->Nat->Nat->List UInt8
 |0,_,_=> []
 |f+1,p,i=>if i<L.length then
  (match GX L i i with
  |none=>pk L f p (i+1)
  |some j=>gT ((L.take i).drop p)++(kG (mt L j i 64) (i-j)++pk L f (i+mt L j i 64) (i+mt L j i 64)))
  else gT (L.drop p)
def pack (L:List UInt8):List UInt8:=aQ L.length++pk L (L.length+1) 0 0
theorem Bh (L:List UInt8)(f:Nat):∀j i,mt L j i f<=f/\(i<=L.length->i+mt L j i f<=L.length):=by
 induction f with
 |zero=>intro j i;simp[mt]
 |succ f ih=>
  intro j i;have:=ih (j+1) (i+1);unfold mt;split<;>omega
theorem Ei (L:List UInt8)(f:Nat):∀j i n,n<mt L j i f->L[j+n]?=L[i+n]?:=by
 induction f with
 |zero=>intro j i n h;simp[mt]at h
 |succ f ih=>
  intro j i n h;unfold mt at h;split at h
  ·rename_i b
   cases n with
   |zero=>exact b.2
   |succ n=>
    have:=ih (j+1) (i+1) n (by omega);rw[show j+(n+1)=j+1+n from by omega,show i+(n+1)=i+1+n from by omega];exact this
  omega
theorem px (L:List UInt8)(i:Nat):∀k j,GX L i k=some j->j<k/\4<=mt L j i 64:=by
 intro k;induction k with
 |zero=>intro j h;simp[GX]at h
 |succ k ih=>
  intro j h;unfold GX at h;split at h
  ·rename_i b
   injection h with h;subst h;exact⟨by omega,b⟩
  have:=ih j h;omega
theorem VK (L:List UInt8)(j i:Nat)(e:j<i)(hi:i<=L.length):∀n,n<=mt L j i 64->ts (L.take i) (i-j) n=L.take (i+n):=by
 intro n;induction n with
 |zero=>intro _;rfl
 |succ n ih=>
  intro d;have h:=(Bh L 64 j i).2 hi;rw[DZ,ih (by omega)];have b:(L.take (i+n)).length=i+n:=by rw[yc];omega
  have c:=Ei L 64 j i n (by omega);rw[b,show i+n-(i-j)=j+n from by omega,show i+(n+1)=(i+n)+1 from by omega,yA (by omega)];congr 1
  rw[zA,yP (by omega),c,zB (by omega)];rfl
theorem jU (l:List UInt8)(h:l.length<=65536):l.length<=(gT l).length/\(gT l).length<=l.length+(if l.length=0 then 0 else if l.length<=60 then 1 else if l.length<=256 then 2 else 3):=by
 unfold gT;split
 ·rename_i b;simp[b]
 split
 ·simp
 split<;>simp<;>omega
theorem rX (n d:Nat):2<=(kG n d).length/\(kG n d).length<=3:=by
 unfold kG;split<;>simp
theorem Ls (L:List UInt8)(e:L.length<=65536)(f:Nat):∀p i,p<=i->i<=L.length->32*(pk L f p i).length<=33*(L.length-p)+96:=by
 induction f with
 |zero=>intro p i _ _;simp[pk]
 |succ f ih=>
  intro p i m hi;unfold pk;split
  ·cases hf:GX L i i with
   |none=>exact ih p (i+1) (by omega) (by omega)
   |some j=>
    obtain⟨h,k⟩:=px L i i j hf;have d:=(Bh L 64 j i).2 hi;have l:=ih (i+mt L j i 64) (i+mt L j i 64) (zf _) d;have n:=rX (mt L j i 64) (i-j);have c:((L.take i).drop p).length=i-p:=by simp;omega
    have b:=jU ((L.take i).drop p) (by omega);rw[c]at b;simp only[zp];split at b
    ·omega
    split at b
    ·omega
    split at b<;>omega
  have c:(L.drop p).length=L.length-p:=by simp
  have b:=jU (L.drop p) (by omega);rw[c]at b;split at b
  ·omega
  split at b
  ·omega
  split at b<;>omega
theorem rY (L:List UInt8)(b:L.length<=65536):(pack L).length<=L.length+L.length/32+8:=by
 have c:=Ls L b (L.length+1) 0 0 (zf _) (ym _);have d:=bF 3 L.length (by omega) (by omega);unfold pack;rw[zp];omega
theorem Ej (B:ByteArray)(size:Nat)(pre l rest out:List UInt8)(c:B.data.toList=pre++(gT l++rest))(q:l.length<=65536)(r:out.length+l.length<=size):
 ∃n,n<=(gT l).length/\∀F,gK B size (F+n) pre.length out=gK B size F (pre.length+(gT l).length) (out++l):=by
 by_cases m:l.length=0
 ·have:l= []:=zw m;subst this;exact⟨0,by simp,fun F=>by simp[gT]⟩
 refine⟨1, ?_,fun F=> ?_⟩
 ·have:=jU l q;omega
 have hz:B.size=pre.length+(gT l).length+rest.length:=by rw[<-aa,c];simp[yw]
 have hcut:∀a b,(B.extract (pre.length+a) (pre.length+b)).data.toList=((gT l++rest).take b).drop a:=by
  intro a b;rw[aq,c,List.take_append,List.drop_append,show pre.length+b-pre.length=b from by omega,zU (by rw[yc];omega),yE,yc,show pre.length+a-min (pre.length+b) pre.length=a from by omega]
 unfold gT at c hz hcut⊢;rw[zj m]at c hz hcut⊢;by_cases o:l.length<=60
 ·rw[zl o]at c hz hcut⊢;obtain⟨g,e⟩:=oy (s:=B) (k:=pre.length) (b:=ub (4*(l.length-1):Nat)) (by rw[c];simp);have i:B[pre.length].toNat=4*(l.length-1):=by rw[e,bg _ (by omega)]
  have d:bd (4*(l.length-1))=1:=by unfold bd;rw[zl (by omega),zj (by omega)]
  have h:∀x,cH (4*(l.length-1)) x=l.length:=by intro x;unfold cH;rw[zl (by omega),zj (by omega)];omega
  simp only[zD]at hz⊢;refine kF g i ?_;unfold bT;rw[h,d,zj (by omega),zj (by omega),zl (by omega),zj (by omega),show pre.length+1+l.length=pre.length+(1+l.length)from by omega,hcut];simp only[ya,ZA 1,zR,yf,zQ,ye (zf l.length),Yi]
 rw[zj o]at c hz hcut⊢;by_cases p:l.length<=256
 ·rw[zl p]at c hz hcut⊢;obtain⟨g,e⟩:=oy (s:=B) (k:=pre.length) (b:=240) (by rw[c];simp);have i:B[pre.length].toNat=240:=by rw[e];rfl
  have d:bd 240=2:=by decide
  simp only[zD]at hz⊢;have j:ij B pre.length 240=l.length-1:=by
   unfold ij;rw[d,hcut];simp only[ya,zR,yf,zQ,yB];simp only[cV,bg (l.length-1) (by omega)];omega
  have h:cH 240 (l.length-1)=l.length:=by unfold cH;rw[zl (by omega),zl (by omega)];omega
  refine kF g i ?_;unfold bT;rw[j,h,d,zj (by omega),zj (by omega),zl (by omega),zj (by omega),show pre.length+2+l.length=pre.length+(l.length+2)from by omega,hcut];simp only[ya,zR,yf,zQ,ye (zf l.length),Yi]
 rw[zj p]at c hz hcut⊢;obtain⟨g,e⟩:=oy (s:=B) (k:=pre.length) (b:=244) (by rw[c];simp);have i:B[pre.length].toNat=244:=by rw[e];rfl
 have d:bd 244=3:=by decide
 simp only[zD]at hz⊢;have j:ij B pre.length 244=l.length-1:=by
  unfold ij;rw[d,hcut];simp only[ya,zR,yf,zQ,yB];simp only[cV,bg ((l.length-1)%256) (by omega),bg ((l.length-1)/256) (by omega)];omega
 have h:cH 244 (l.length-1)=l.length:=by unfold cH;rw[zl (by omega),zl (by omega)];omega
 refine kF g i ?_;unfold bT;rw[j,h,d,zj (by omega),zj (by omega),zl (by omega),zj (by omega),show pre.length+3+l.length=pre.length+(l.length+3)from by omega,hcut];simp only[ya,zR,yf,zQ,ye (zf l.length),Yi]
theorem Od (B:ByteArray)(size n d:Nat)(pre rest out:List UInt8)(c:B.data.toList=pre++(kG n d++rest))(u:4<=n)(q:n<=64)(hd:1<=d)(p:d<=out.length)(r:d<65536)(w:out.length+n<=size)(F:Nat):
 gK B size (F+1) pre.length out=gK B size F (pre.length+(kG n d).length) (ts out d n):=by
 have hz:B.size=pre.length+(kG n d).length+rest.length:=by rw[<-aa,c];simp[yw]
 have hcut:∀a b,(B.extract (pre.length+a) (pre.length+b)).data.toList=((kG n d++rest).take b).drop a:=by
  intro a b;rw[aq,c,List.take_append,List.drop_append,show pre.length+b-pre.length=b from by omega,zU (by rw[yc];omega),yE,yc,show pre.length+a-min (pre.length+b) pre.length=a from by omega]
 unfold kG at c hz hcut⊢;by_cases o:n<=11/\d<2048
 ·rw[zl o]at c hz hcut⊢;obtain⟨g,e⟩:=oy (s:=B) (k:=pre.length) (b:=ub (1+4*(n-4)+32*(d/256):Nat)) (by rw[c];simp);have l:B[pre.length].toNat=1+4*(n-4)+32*(d/256):=by rw[e,bg _ (by omega)]
  have h:bd (1+4*(n-4)+32*(d/256))=2:=by unfold bd;rw[zj (by omega),zl (by omega)]
  simp only[zD,zS]at hz⊢;have m:ij B pre.length (1+4*(n-4)+32*(d/256))=d%256:=by
   unfold ij;rw[h,hcut];simp only[ya,zR,yf,zQ,yB];simp only[cV,bg (d%256) (by omega)];omega
  have j:∀x,cH (1+4*(n-4)+32*(d/256)) x=n:=by intro x;unfold cH;rw[zj (by omega),zl (by omega)];omega
  have i:jP (1+4*(n-4)+32*(d/256)) (d%256)=d:=by unfold jP;rw[zl (by omega)];omega
  refine kF g l ?_;unfold bT;rw[m,i,j,h,zj (by omega),zj (by omega),zj (by omega)]
 rw[zj o]at c hz hcut⊢;obtain⟨g,e⟩:=oy (s:=B) (k:=pre.length) (b:=ub (2+4*(n-1):Nat)) (by rw[c];simp);have l:B[pre.length].toNat=2+4*(n-1):=by rw[e,bg _ (by omega)]
 have h:bd (2+4*(n-1))=3:=by unfold bd;rw[zj (by omega),zj (by omega),zl (by omega)]
 simp only[zD,zS]at hz⊢;have m:ij B pre.length (2+4*(n-1))=d:=by
  unfold ij;rw[h,hcut];simp only[ya,zR,yf,zQ,yB];simp only[cV,bg (d%256) (by omega),bg (d/256) (by omega)];omega
 have j:∀x,cH (2+4*(n-1)) x=n:=by intro x;unfold cH;rw[zj (by omega),zj (by omega)];omega
 have i:jP (2+4*(n-1)) d=d:=by unfold jP;rw[zj (by omega)]
 refine kF g l ?_;unfold bT;rw[m,i,j,h,zj (by omega),zj (by omega),zj (by omega)]
theorem St (B:ByteArray)(L:List UInt8)(E:L.length<=65536)(f:Nat):∀(p i:Nat) (pre:List UInt8),p<=i->i<=L.length->L.length-i<f->B.data.toList=pre++pk L f p i->
 ∃n,n<=(pk L f p i).length/\∀F,gK B L.length (F+n) pre.length (L.take p)=gK B L.length F B.size L:=by
 induction f with
 |zero=>intro p i pre _ _ h;omega
 |succ f ih=>
  intro p i pre r hi D b;unfold pk at b⊢;by_cases h:i<L.length
  ·rw[zl h]at b⊢;cases hfd:GX L i i with
   |none=>
    rw[hfd]at b;exact ih p (i+1) pre (by omega) (by omega) (by omega) b
   |some j=>
    rw[hfd]at b;simp only at b⊢;obtain⟨w,q⟩:=px L i i j hfd;have o:=Bh L 64 j i;have y:=o.2 hi;have C:((L.take i).drop p).length=i-p:=by simp;omega
    have A:(L.take p).length=p:=by rw[yc];omega
    have u:(L.take i).length=i:=by rw[yc];omega
    have s:L.take p++(L.take i).drop p=L.take i:=by
     have:=zN p (L.take i);rwa [xD,yK r]at this
    obtain⟨n1,m,c⟩:=Ej B L.length pre ((L.take i).drop p) _ (L.take p) b (by omega) (by omega);rw[s]at c;have l:B.data.toList=(pre++gT ((L.take i).drop p))++(kG (mt L j i 64) (i-j)++pk L f (i+mt L j i 64) (i+mt L j i 64)):=by rw[b,zI]
    have e:=Od B L.length (mt L j i 64) (i-j) _ _ (L.take i) l q o.1 (by omega) (by omega) (by omega) (by omega);rw[VK L j i w hi _ (zf _),zp]at e;have x:B.data.toList=((pre++gT ((L.take i).drop p))++kG (mt L j i 64) (i-j))++pk L f (i+mt L j i 64) (i+mt L j i 64):=by rw[l,zI _ (kG _ _) _]
    obtain⟨d,z,k⟩:=ih _ _ _ (zf _) y (by omega) x;rw[zp,zp]at k;refine⟨d+1+n1, ?_,fun F=> ?_⟩
    ·have:=rX (mt L j i 64) (i-j);simp only[zp];omega
    rw[show F+(d+1+n1)=(F+d+1)+n1 from by omega,c,e,k]
  rw[zj h]at b⊢;have u:(L.take p).length=p:=by rw[yc];omega
  obtain⟨n1,m,c⟩:=Ej B L.length pre (L.drop p) [] (L.take p) (by simpa using b) (by simp;omega) (by simp;omega);refine⟨n1,m,fun F=> ?_⟩;rw[c,zN];congr 1
  rw[<-aa,b,zp]
theorem Bi (s:ByteArray)(L:List UInt8)(c:L.length<=65536)(b:s.data.toList=pack L):aB s=(L.length,(aQ L.length).length,0):=by
 unfold pack at b;have h:=jT L.length s _ b (by omega);unfold aB;rw[h,zl rfl,zj (by simp;omega)]
theorem Ek (s:ByteArray)(L:List UInt8)(c:L.length<=65536)(b:s.data.toList=pack L)(most:Int)(j:L.length<=most):ba s most=(0,L):=by
 have h:=Bi s L c b;unfold ba;rw[h];simp only[ne_eq,xf,Zq];rw[zj (by omega)];unfold pack at b;generalize e:s.extract (aQ L.length).length s.size=B;have d:B.data.toList=pk L (L.length+1) 0 0:=by
  rw[<-e,aq,dh,b,yN (zf _),Yj,yE]
 obtain⟨n,k,i⟩:=St B L c (L.length+1) 0 0 [] (zf _) (ym _) (by omega) (by simpa using d);unfold iD;have hz:B.size=(pk L (L.length+1) 0 0).length:=by rw[<-aa,d]
 rw[show B.size+1=(B.size-n+1)+n from by omega];have:=i (B.size-n+1);simp only[zS,yB]at this;rw[this];unfold gK;rw[dif_neg (by omega),zj (by omega)]
def ar (most:Int)(s:ByteArray):Nat×Nat×Int:=
 if(aw s).2.2=0 then(if most<(aw s).1 then(0,0,5)else((aw s).1,(aw s).2.1,0))else(0,0,(aw s).2.2)
def ai (most:Int)(s:ByteArray):Int×Nat×ByteArray×Nat:=
 if(ar most s).2.2≠0 then((ar most s).2.2,0,ByteArray.empty,0)
 else if s.size<(ar most s).2.1+(ar most s).1 then(2,0,ByteArray.empty,0)
 else if(aw (s.extract (ar most s).2.1 ((ar most s).2.1+(ar most s).1))).2.2≠0 then(3,0,ByteArray.empty,0)
 else(0,(aw (s.extract (ar most s).2.1 ((ar most s).2.1+(ar most s).1))).1,
  (s.extract (ar most s).2.1 ((ar most s).2.1+(ar most s).1)).extract (aw (s.extract (ar most s).2.1 ((ar most s).2.1+(ar most s).1))).2.1 (ar most s).1,
  (ar most s).2.1+(ar most s).1)
theorem eo (most:Int)(s:ByteArray):ai most s=(
 if(ar most s).2.2≠0 then((ar most s).2.2,0,ByteArray.empty,0)
 else if s.size<(ar most s).2.1+(ar most s).1 then(2,0,ByteArray.empty,0)
 else if(aw (s.extract (ar most s).2.1 ((ar most s).2.1+(ar most s).1))).2.2≠0 then(3,0,ByteArray.empty,0)
 else(0,(aw (s.extract (ar most s).2.1 ((ar most s).2.1+(ar most s).1))).1,
  (s.extract (ar most s).2.1 ((ar most s).2.1+(ar most s).1)).extract (aw (s.extract (ar most s).2.1 ((ar most s).2.1+(ar most s).1))).2.1 (ar most s).1,
  (ar most s).2.1+(ar most s).1)):=rfl
def eM (id:Nat)(body:List UInt8):List UInt8:=aQ (aQ id++body).length++(aQ id++body)
theorem qQ (most:Int)(s:ByteArray)(h:(ar most s).2.2=0):((ar most s).1:Int)<=most/\(ar most s).2.1<=s.size/\0<(ar most s).2.1/\(ar most s).2.1<=10:=by
 unfold ar at h⊢;by_cases b:(aw s).2.2=0
 ·rw[zl b]at h⊢;have d:=gQ s b;by_cases c:most<(aw s).1
  ·rw[zl c]at h;simp at h
  rw[zj c];simp only;omega
 rw[zj b]at h;exact absurd h b
theorem uh (most:Int)(id:Nat)(body:ByteArray)(s:ByteArray)(rest:List UInt8)(hid:id<18446744073709551616)(b:s.data.toList=eM id body.data.toList++rest)(n:((aQ id).length+body.size:Int)<=most)(p:body.size<=1000000):
 ai most s=(0,id,body,(eM id body.data.toList).length):=by
 unfold eM at b⊢;have o:=bF 10 id (by omega) (by omega);have m:(aQ id++body.data.toList).length=(aQ id).length+body.size:=by rw[zp,aa]
 have k:=jT (aQ id++body.data.toList).length s ((aQ id++body.data.toList)++rest) (by rw[b,zI]) (by omega);have l:ar most s=((aQ id++body.data.toList).length,(aQ (aQ id++body.data.toList).length).length,0):=by
  unfold ar;rw[k];simp only[xO];rw[zj (by rw[m];omega)]
 have q:s.size=(aQ (aQ id++body.data.toList).length).length+(aQ id++body.data.toList).length+rest.length:=by
  rw[<-aa,b];simp only[zp]
 generalize c:(aQ (aQ id++body.data.toList).length).length=K at*;generalize i:(aQ id++body.data.toList).length=N at*;have d:(s.extract K (K+N)).data.toList=aQ id++body.data.toList:=by
  rw[aq,b,zI,List.take_append,List.drop_append,c];have e:(List.take (K+N) (aQ N)).length=K:=by rw[yc,c];omega
  rw[zU (by rw[e];exact zf _),e,ZX,zQ,yE,show K+N-K=N from by omega,ye (by omega),zC (by omega)]
 have j:=jT id (s.extract K (K+N)) body.data.toList d hid;have h:(s.extract K (K+N)).extract (aQ id).length N=body:=by
  apply aL;rw[aq,d,zC (by omega),yN (zf _),Yj,yE]
 unfold ai;rw[l];simp only[ne_eq,xf,Zq];rw[zj (by omega),j];simp only[xf,Zq];rw[h,zp,c,i]
def aS (most iy:Int)(s:ByteArray):Int×Nat×ByteArray×Nat×Nat:=
 if(ai most s).1≠0 then((ai most s).1,0,ByteArray.empty,0,0)
 else if(aB (ai most s).2.2.1).2.2≠0 then((if(aB (ai most s).2.2.1).2.2=5 then 5 else 3),0,ByteArray.empty,0,0)
 else if iy<(aB (ai most s).2.2.1).1 then(5,0,ByteArray.empty,0,0)
 else if(ba (ai most s).2.2.1 iy).1≠0 then(3,0,ByteArray.empty,0,(aB (ai most s).2.2.1).1)
 else(0,(ai most s).2.1,⟨(ba (ai most s).2.2.1 iy).2.toArray⟩,(ai most s).2.2.2,(aB (ai most s).2.2.1).1)
theorem bI (most b:Int)(s:ByteArray):aS most b s=(
 if(ai most s).1≠0 then((ai most s).1,0,ByteArray.empty,0,0)
 else if(aB (ai most s).2.2.1).2.2≠0 then((if(aB (ai most s).2.2.1).2.2=5 then 5 else 3),0,ByteArray.empty,0,0)
 else if b<(aB (ai most s).2.2.1).1 then(5,0,ByteArray.empty,0,0)
 else if(ba (ai most s).2.2.1 b).1≠0 then(3,0,ByteArray.empty,0,(aB (ai most s).2.2.1).1)
 else(0,(ai most s).2.1,⟨(ba (ai most s).2.2.1 b).2.toArray⟩,(ai most s).2.2.2,(aB (ai most s).2.2.1).1)):=rfl
theorem Lt (s:ByteArray)(c:Nat)(j:c<=s.size)(f:Nat):∀i n,ca (s.extract 0 c) f i n=ca s f i n\/ca (s.extract 0 c) f i n=(0,0,2):=by
 have hz:(s.extract 0 c).size=c:=by rw[an _ _ _ j];omega
 induction f with
 |zero=>intro i n;exact .inl rfl
 |succ f ih=>
  intro i n;by_cases hi:i<c
  ·have d:i<(s.extract 0 c).size:=by omega
   have h:i<s.size:=by omega
   have e:(s.extract 0 c)[i]=s[i]:=by
    have b:=gq (s.extract 0 c) i d;rw[aq,zQ,yP hi,gq s i h]at b;injection b with b;exact b.symm
   rw[ca,ca,Ym d,Ym h,e];split
   ·exact .inl rfl
   split
   ·exact .inl rfl
   exact ih _ _
  exact .inr (jc _ _ _ _ (by omega))
theorem rZ (s:ByteArray)(c:Nat)(b:c<=s.size):aw (s.extract 0 c)=aw s\/aw (s.extract 0 c)=(0,0,2):=Lt s c b 10 0 0
theorem ui (most:Int)(s:ByteArray)(c:Nat)(i:c<=s.size):ai most (s.extract 0 c)=ai most s\/ai most (s.extract 0 c)=(2,0,ByteArray.empty,0):=by
 have hz:(s.extract 0 c).size=c:=by rw[an _ _ _ i];omega
 rcases rZ s c i with h|h
 ·have d:ar most (s.extract 0 c)=ar most s:=by unfold ar;rw[h]
  rw[eo most (s.extract 0 c),eo most s,d,hz];by_cases b:(ar most s).2.2≠0
  ·rw[zl b,zl b];exact .inl rfl
  rw[zj b,zj b];by_cases j:c<(ar most s).2.1+(ar most s).1
  ·rw[zl j];exact .inr rfl
  have k:¬s.size<(ar most s).2.1+(ar most s).1:=by omega
  rw[zj j,zj k];have e:(s.extract 0 c).extract (ar most s).2.1 ((ar most s).2.1+(ar most s).1)=s.extract (ar most s).2.1 ((ar most s).2.1+(ar most s).1):=by
   apply aL;rw[aq,aq,aq,zQ,xD,yK (by omega)]
  rw[e];exact .inl rfl
 have d:ar most (s.extract 0 c)=(0,0,2):=by unfold ar;rw[h];rfl
 rw[eo most (s.extract 0 c),d];exact .inr rfl
theorem py (most b:Int)(s:ByteArray)(h:(aS most b s).1=2):aS most b s=(2,0,ByteArray.empty,0,0):=by
 rw[bI]at h⊢;by_cases c:(ai most s).1≠0
 ·rw[zl c]at h⊢;simp only at h⊢;rw[h]
 rw[zj c]at h⊢;split at h
 ·simp only at h;split at h<;>omega
 split at h
 ·simp at h
 split at h<;>simp at h
theorem GY (most b:Int)(s:ByteArray)(c:Nat)(i:c<=s.size):aS most b (s.extract 0 c)=(2,0,ByteArray.empty,0,0)\/((aS most b s).1≠2/\aS most b (s.extract 0 c)=aS most b s):=by
 rcases ui most s c i with h|h
 ·have e:aS most b (s.extract 0 c)=aS most b s:=by rw[bI,bI most b s,h]
  by_cases d:(aS most b s).1=2
  ·left;rw[e];exact py most b s d
  exact .inr ⟨d,e⟩
 left;rw[bI,h];rfl
theorem uj (s:ByteArray):∀(f i n m k:Nat),ca s f i n=(m,k,0)->∃r,m=n+r*2^(7*i)/\(0<i->0<r)/\i<k/\k<=s.size/\aQ r=(s.data.toList.take k).drop i
 |0,i,n,m,k,h=>by simp[ca]at h
 |f+1,i,n,m,k,h=>by
  by_cases hi:i<s.size
  ·by_cases d:(i=9/\1<s[i].toNat)\/(0<i/\s[i].toNat=0)
   ·rw[nr s f i n hi d]at h;simp at h
   have p:s.data.toList[i]?=some s[i]:=by
    rw[zB (by rw[aa];exact hi)];rfl
   by_cases c:s[i].toNat<128
   ·rw[jn s f i n hi d c]at h;injection h with h1 b;injection b with b _;refine⟨s[i].toNat,by rw[<-h1,Nat.mod_eq_of_lt c],fun x=>by omega,by omega,by omega, ?_⟩;rw[gS c,<-b];have hu:ub (s[i].toNat:Nat)=s[i]:=by apply zW.1;rw[bg _ (by omega)]
    rw[hu,Ye,p,Option.toList_some,yN (by rw[yc,aa];omega),zU (by rw[yc];omega),yE]
   rw[jo s f i n hi d c]at h;obtain⟨r,e,j,A,u,l⟩:=uj s f (i+1) _ m k h;have y:=j (by omega);have z:=s[i].toNat_lt;have b:2^(7*(i+1))=128*2^(7*i):=by rw[show 7*(i+1)=7+7*i from by omega,Zd]
   refine⟨s[i].toNat%128+r*128,by rw[e,b,Nat.add_mul,Nat.mul_assoc,yw],fun _=>by omega,by omega,u, ?_⟩;have o:(s[i].toNat%128+r*128)%128=s[i].toNat%128:=by omega
   have q:(s[i].toNat%128+r*128)/128=r:=by omega
   rw[jd (by omega),o,q,l];have hu:ub (s[i].toNat%128+128:Nat)=s[i]:=by apply zW.1;rw[bg _ (by omega)];omega
   rw[hu];have w:i<(s.data.toList.take k).length:=by rw[yc,aa];omega
   rw[xI w];rw[List.getElem_take];rfl
  rw[jc s (f+1) i n hi]at h;simp at h
theorem pz (s:ByteArray)(h:(aw s).2.2=0):aQ (aw s).1=s.data.toList.take (aw s).2.1/\(aw s).2.1=(aQ (aw s).1).length:=by
 obtain⟨r,b,_,_,e,d⟩:=uj s 10 0 0 (aw s).1 (aw s).2.1 (by rw[<-h];rfl);have c:(aw s).1=r:=by simpa using b
 rw[c,d,zQ];exact⟨rfl,by rw[yc,aa];omega⟩
theorem uk (most:Int)(id:Nat)(body:List UInt8)(s:ByteArray)(rest:List UInt8)(c:s.data.toList=eM id body++rest)(d:(aQ id++body).length<18446744073709551616):
 ar most s=if most<(aQ id++body).length then(0,0,5)else((aQ id++body).length,(aQ (aQ id++body).length).length,0):=by
 have b:=jT (aQ id++body).length s ((aQ id++body)++rest) (by rw[c];unfold eM;rw[zI]) d;unfold ar;rw[b];simp only[xO]
theorem r8 (most:Int)(s:ByteArray)(h:(ar most s).2.2=5):ai most s=(5,0,ByteArray.empty,0):=by
 unfold ai;rw[zl (by rw[h];decide),h]
theorem uq (most:Int)(s:ByteArray)(id:Nat)(body:ByteArray)(n:Nat)(h:ai most s=(0,id,body,n)):
 n<=s.size/\id<18446744073709551616/\(((aQ id).length+body.size:Nat):Int)<=most/\n=(aQ ((aQ id).length+body.size)).length+((aQ id).length+body.size)/\(⟨(eM id body.data.toList).toArray⟩:ByteArray)=s.extract 0 n:=by
 unfold ai at h;by_cases b:(ar most s).2.2≠0
 ·rw[zl b]at h;injection h with h;exact absurd h b
 rw[zj b]at h;have b:=zJ.1 b;have e:=qQ most s b;have l:ar most s=((aw s).1,(aw s).2.1,0)/\(aw s).2.2=0:=by
  unfold ar at b⊢;by_cases d:(aw s).2.2=0
  ·rw[zl d]at b⊢;by_cases c:most<(aw s).1
   ·rw[zl c]at b;simp at b
   rw[zj c];exact⟨rfl,d⟩
  rw[zj d]at b;exact absurd b d
 obtain⟨r,u⟩:=pz s l.2;rw[l.1]at h e;generalize (aw s).1=N at*;generalize (aw s).2.1=K at*;try simp only at h e
 by_cases d:s.size<K+N
 ·rw[zl d]at h;injection h with h;simp at h
 rw[zj d]at h;by_cases c:(aw (s.extract K (K+N))).2.2≠0
 ·rw[zl c]at h;injection h with h;simp at h
 rw[zj c]at h;have c:=zJ.1 c;obtain⟨k,j⟩:=pz _ c;have m:=gQ _ c;injection h with _ h;injection h with hid h;injection h with T3 hn;rw[hid]at k j m;generalize (aw (s.extract K (K+N))).2.1=J at*;have y:(s.extract K (K+N)).size=N:=by rw[an _ _ _ (by omega)];omega
 have x:body.size=N-J:=by rw[<-T3,an _ _ _ (by omega)]
 have w:(aQ id).length=J:=j.symm;have i:(aQ id).length+body.size=N:=by rw[w,x];omega
 have o:aQ id++body.data.toList=(s.extract K (K+N)).data.toList:=by
  have q:(s.extract K (K+N)).data.toList.take N=(s.extract K (K+N)).data.toList:=zC (by rw[aa];omega);rw[k,<-T3];generalize s.extract K (K+N)=R at*;rw[aq R J N,q];exact zN _ _
 refine⟨by omega,m.2.2.2,by rw[i];exact e.1,by rw[i,<-u];exact hn.symm, ?_⟩;apply aL;have p:(aQ id++body.data.toList).length=N:=by rw[zp,aa];exact i
 show eM id body.data.toList=_
 unfold eM;rw[p,r,o,aq,aq,zQ,<-hn];have:=zN K (s.data.toList.take (K+N));rwa [xD,yK (by omega)]at this
def je (n:Nat):Nat->List UInt8
 |0=> []
 |k+1=>je n k++ [ub (n/2^(8*k)%256:Nat)]
theorem bc (n k:Nat):(je n k).length=k:=by
 induction k with
 |zero=>rfl
 |succ k ih=>simp[je,ih]
theorem Oe {n k sz:Nat}(h:k<sz):(je n k++List.replicate (sz-k) (0:UInt8)).set k (ub (n/2^(8*k)%256:Nat))=je n (k+1)++List.replicate (sz-(k+1)) 0:=by
 obtain⟨d,hd⟩:∃d,sz-k=d+1:=⟨sz-k-1,by omega⟩
 rw[hd,ZT,xF _ _ (by rw[bc];exact zf _),bc,ZX,ze,show sz-(k+1)=d from by omega];simp[je]
theorem Su (n k:Nat):(n:Int)/2^(8*k)%256=((ub (n/2^(8*k)%256:Nat)).toNat:Int):=by
 rw[bg _ (by omega)];simp
theorem ur (n k:Nat):je n (k+1)=ub (n%256:Nat)::je (n/256) k:=by
 induction k with
 |zero=>simp[je]
 |succ k ih=>
  rw[je,ih,je,ya];congr 4
  rw[Nat.div_div_eq_div_mul,show(256:Nat)=2^8 from rfl,<-Zd,show 8+8*k=8*(k+1)from by omega]
def cA (n:Nat):List UInt8:=if h:n=0 then []else cA (n/256)++ [ub (n%256:Nat)]
termination_by n
theorem da :cA 0= []:=by rw[cA];simp
theorem gA {n:Nat}(h:n≠0):cA n=cA (n/256)++ [ub (n%256:Nat)]:=by rw[cA];simp[h]
theorem Sv (k:Nat):2^(8*(k+1))=256*2^(8*k):=by rw[show 8*(k+1)=8+8*k from by omega,Zd]
theorem fW (k:Nat):∀n,n<2^(8*k)->(cA n).length<=k:=by
 induction k with
 |zero=>intro n h;simp at h;subst h;simp[da]
 |succ k ih=>
  intro n h;by_cases b:n=0
  ·subst b;simp[da]
  rw[gA b,zp];have:=ih (n/256) (by rw[Sv]at h;exact Zf h);simp;omega
theorem Lu (k:Nat):∀n,n<2^(8*k)->List.replicate (k-(cA n).length) 0++cA n=(je n k).reverse:=by
 induction k with
 |zero=>intro n h;simp at h;subst h;simp[da,je]
 |succ k ih=>
  intro n h;have c:=fW (k+1) n h;have hd:n/256<2^(8*k):=by rw[Sv]at h;exact Zf h
  rw[ur,List.reverse_cons,<-ih _ hd];by_cases b:n=0
  ·subst b;simp[da,ub];rw[List.replicate_succ']
  rw[gA b,zp,yF,show k+1-((cA (n/256)).length+1)=k-(cA (n/256)).length from by omega,zI]
theorem Of (k n:Nat):n<2^(8*k)->cV (je n k)=n:=by
 induction k generalizing n with
 |zero=>intro h;simp at h;subst h;rfl
 |succ k ih=>
  intro h;rw[ur,cV,ih (n/256) (by rw[Sv]at h;exact Zf h),bg _ (by omega)];omega
theorem Og (l:List UInt8):je (cV l) l.length=l:=by
 induction l with
 |nil=>rfl
 |cons b t ih=>
  have c:=b.toNat_lt;rw[zD,ur,cV,show(b.toNat+256*cV t)/256=cV t from by omega,ih];congr 1
  rw[show(b.toNat+256*cV t)%256=b.toNat from by omega];apply zW.1;rw[bg _ c]
def qB (n:Nat):ByteArray:=⟨(je n 4).toArray⟩
theorem jq (n:Nat):(qB n).size=4:=by rw[qB,bH,bc]
theorem Oh (n:Nat):(qB n).data.toList=je n 4:=by simp[qB]
theorem Oi (s:ByteArray)(h:s.size=4):qB (cV s.data.toList)=s:=by
 have e:=Og s.data.toList;rw[aa,h]at e;rw[qB,e,ig]
theorem Cs (n:Nat)(h:n<4294967296):cV (qB n).data.toList=n:=by rw[Oh];exact Of 4 n (by simpa using h)
theorem Oj (s:ByteArray)(n:Nat)(b:s.size=4)(h:n<4294967296):s=qB n↔cV s.data.toList=n:=by
 constructor
 ·rintro rfl;exact Cs n h
 rintro rfl;exact(Oi s b).symm
theorem tz (s:ByteArray)(b:s.size=4):cV s.data.toList<4294967296:=by
 have:=jm s.data.toList;rw[aa,b]at this;simpa using this
def mu (m:Nat)(nm body:ByteArray):ByteArray:=qB m++eK nm++qB body.size++eJ body++body
theorem oz (m:Nat)(nm body:ByteArray)(h:nm.size<=12):(mu m nm body).size=24+body.size:=by
 simp only[mu,bW,jq,gR nm h,lf]
def aV (m:Nat)(most:Int)(s:ByteArray):Int×ByteArray×ByteArray×Nat:=
 if s.size<4 then(2,ByteArray.empty,ByteArray.empty,0)
 else if s.extract 0 4≠qB m then(9,ByteArray.empty,ByteArray.empty,0)
 else if s.size<16 then(2,ByteArray.empty,ByteArray.empty,0)
 else if(cS (s.extract 4 16)).1≠0 then(3,ByteArray.empty,ByteArray.empty,0)
 else if s.size<20 then(2,ByteArray.empty,ByteArray.empty,0)
 else if most<cV (s.extract 16 20).data.toList then(5,ByteArray.empty,ByteArray.empty,0)
 else if s.size<24+cV (s.extract 16 20).data.toList then(2,ByteArray.empty,ByteArray.empty,0)
 else if eJ (s.extract 24 (24+cV (s.extract 16 20).data.toList))≠s.extract 20 24 then(10,ByteArray.empty,ByteArray.empty,0)
 else(0,(cS (s.extract 4 16)).2,s.extract 24 (24+cV (s.extract 16 20).data.toList),24+cV (s.extract 16 20).data.toList)
theorem eZ (m:Nat)(most:Int)(s:ByteArray):aV m most s=(
 if s.size<4 then(2,ByteArray.empty,ByteArray.empty,0)
 else if s.extract 0 4≠qB m then(9,ByteArray.empty,ByteArray.empty,0)
 else if s.size<16 then(2,ByteArray.empty,ByteArray.empty,0)
 else if(cS (s.extract 4 16)).1≠0 then(3,ByteArray.empty,ByteArray.empty,0)
 else if s.size<20 then(2,ByteArray.empty,ByteArray.empty,0)
 else if most<cV (s.extract 16 20).data.toList then(5,ByteArray.empty,ByteArray.empty,0)
 else if s.size<24+cV (s.extract 16 20).data.toList then(2,ByteArray.empty,ByteArray.empty,0)
 else if eJ (s.extract 24 (24+cV (s.extract 16 20).data.toList))≠s.extract 20 24 then(10,ByteArray.empty,ByteArray.empty,0)
 else(0,(cS (s.extract 4 16)).2,s.extract 24 (24+cV (s.extract 16 20).data.toList),24+cV (s.extract 16 20).data.toList)):=rfl
theorem pA (s a b c:ByteArray)(h:s=a++b++c)(i j:Nat)(hi:a.size=i)(d:i+b.size=j):s.extract i j=b:=by
 subst h;subst hi;subst d;apply aL;rw[aq,bn,bn,ye (by simp),zC (by simp),yN (by simp),<-aa,Yj,yE]
theorem Bj (a b c d e r:ByteArray)(i:a.size=4)(j:b.size=12)(k:c.size=4)(hd:d.size=4)(s:ByteArray)(h:s=a++b++c++d++e++r):
 s.extract 0 4=a/\s.extract 4 16=b/\s.extract 16 20=c/\s.extract 20 24=d/\s.extract 24 (24+e.size)=e/\s.size=24+e.size+r.size:=by
 refine⟨pA s ByteArray.empty a (b++c++d++e++r) ?_ _ _ rfl (by omega),pA s a b (c++d++e++r) ?_ _ _ i (by omega),pA s (a++b) c (d++e++r) ?_ _ _ (by rw[bW];omega) (by omega),
  pA s (a++b++c) d (e++r) ?_ _ _ (by rw[bW,bW];omega) (by omega),pA s (a++b++c++d) e r ?_ _ _ (by rw[bW,bW,bW];omega) rfl,by rw[h];simp only[bW];omega⟩
 all_goals(rw[h];try simp[ByteArray.append_assoc])
theorem GZ (m:Nat)(most:Int)(nm body more:ByteArray)(b:b8 nm=true)(n:(body.size:Int)<=most)(e:body.size<4294967296):
 aV m most (mu m nm body++more)=(0,nm,body,24+body.size):=by
 have hz:=dW b;obtain⟨j,l,k,h,c,d⟩:=Bj (qB m) (eK nm) (qB body.size) (eJ body) body more (jq _) (gR nm hz.2) (jq _) (lf _) (mu m nm body++more) rfl;have i:=Cs body.size e;unfold aV;rw[j,l,k,i,h,c,d,Bb nm b];rw[zj (by omega),zj (by simp),zj (by omega),zj (by simp),zj (by omega),zj (by omega),zj (by omega),zj (by simp)]
theorem uu (m:Nat)(most:Int)(s nm body:ByteArray)(n:Nat)(h:aV m most s=(0,nm,body,n)):b8 nm=true/\(body.size:Int)<=most/\n=24+body.size/\n<=s.size/\body.size<4294967296/\mu m nm body=s.extract 0 n:=by
 unfold aV at h;by_cases p:s.size<4
 ·rw[zl p]at h;injection h with h;simp at h
 rw[zj p]at h;by_cases i:s.extract 0 4≠qB m
 ·rw[zl i]at h;injection h with h;simp at h
 rw[zj i]at h;by_cases q:s.size<16
 ·rw[zl q]at h;injection h with h;simp at h
 rw[zj q]at h;by_cases d:(cS (s.extract 4 16)).1≠0
 ·rw[zl d]at h;injection h with h;simp at h
 rw[zj d]at h;by_cases k:s.size<20
 ·rw[zl k]at h;injection h with h;simp at h
 rw[zj k]at h;have l:(s.extract 16 20).size=4:=an _ _ _ (by omega);have B:=tz (s.extract 16 20) l;have u:=Oi (s.extract 16 20) l;generalize cV (s.extract 16 20).data.toList=N at*;by_cases j:most<N
 ·rw[zl j]at h;injection h with h;simp at h
 rw[zj j]at h;by_cases o:s.size<24+N
 ·rw[zl o]at h;injection h with h;simp at h
 rw[zj o]at h;by_cases e:eJ (s.extract 24 (24+N))≠s.extract 20 24
 ·rw[zl e]at h;injection h with h;simp at h
 rw[zj e]at h;injection h with _ h;injection h with UQ h;injection h with T3 hn;have r:cS (s.extract 4 16)=(0,nm):=by
  rw[<-UQ];have A:(cS (s.extract 4 16)).1=0:=zJ.1 d;exact Z2 A rfl
 obtain⟨x,w⟩:=Lk _ _ r;have y:body.size=N:=by rw[<-T3,an _ _ _ (by omega)];omega
 refine⟨w,by omega,by omega,by omega,by omega, ?_⟩;unfold mu;rw[x,y,u,<-T3,zJ.1 e,<-zJ.1 i,<-hn];apply aL;simp only[bn,aq];generalize s.data.toList=L;have c:∀(a b:Nat),a<=b->L.take a++(L.take b).drop a=L.take b:=by
  intro a b z;have:=zN a (L.take b);rwa [xD,yK z]at this
 rw[zQ,c 4 16 (by omega),c 16 20 (by omega),c 20 24 (by omega),c 24 (24+N) (by omega)];rfl
theorem gU (s:ByteArray)(c i j:Nat)(h:j<=c):(s.extract 0 c).extract i j=s.extract i j:=by
 apply aL;rw[aq,aq,aq,zQ,xD,yK h]
theorem G0 (m:Nat)(most:Int)(s:ByteArray)(c:Nat)(l:c<=s.size):(aV m most (s.extract 0 c)).1=2\/aV m most (s.extract 0 c)=aV m most s:=by
 have hz:(s.extract 0 c).size=c:=by rw[an _ _ _ l];omega
 unfold aV;rw[hz];by_cases j:c<4
 ·rw[zl j];exact .inl rfl
 rw[zj j,zj (by omega:¬s.size<4),gU s c 0 4 (by omega)];by_cases e:s.extract 0 4≠qB m
 ·rw[zl e,zl e];exact .inr rfl
 rw[zj e,zj e];by_cases k:c<16
 ·rw[zl k];exact .inl rfl
 rw[zj k,zj (by omega:¬s.size<16),gU s c 4 16 (by omega)];by_cases d:(cS (s.extract 4 16)).1≠0
 ·rw[zl d,zl d];exact .inr rfl
 rw[zj d,zj d];by_cases h:c<20
 ·rw[zl h];exact .inl rfl
 rw[zj h,zj (by omega:¬s.size<20),gU s c 16 20 (by omega)];generalize cV (s.extract 16 20).data.toList=N;by_cases b:most<N
 ·rw[zl b,zl b];exact .inr rfl
 rw[zj b,zj b];by_cases i:c<24+N
 ·rw[zl i];exact .inl rfl
 rw[zj i,zj (by omega:¬s.size<24+N),gU s c 24 _ (by omega),gU s c 20 24 (by omega)];exact .inr rfl
def bo (c:aR)(s:ByteArray):Int×Fr×Nat×Nat:=
 if c.fm=1 then((aV c.mg c.fr s).1,⟨0,(aV c.mg c.fr s).2.1,(aV c.mg c.fr s).2.2.1⟩,(aV c.mg c.fr s).2.2.2,0)
 else if c.fm=2 then((ai c.fr s).1,⟨(ai c.fr s).2.1,ByteArray.empty,(ai c.fr s).2.2.1⟩,(ai c.fr s).2.2.2,0)
 else((aS c.fr c.un s).1,⟨(aS c.fr c.un s).2.1,ByteArray.empty,(aS c.fr c.un s).2.2.1⟩,(aS c.fr c.un s).2.2.2.1,(aS c.fr c.un s).2.2.2.2)
def aW (c:aR)(s:ByteArray):Int×Fr×Nat×Nat:=if c.right=true then bo c s else(1,nM,0,0)
def Bk (fr:Int):Int:=if fr<128 then 1 else if fr<16384 then 2 else 3
def Jz (c:aR):Int:=if c.right=true then(if c.fm=1 then 24 else Bk c.fr)+c.fr else 0
def iN (c:aR)(f:Fr):Bool:=if c.fm=1 then decide (f.id=0)else decide (f.nm.size=0)
def aU (c:aR)(f:Fr):ByteArray×Int:=
 if c.fm=1 then(if b8 f.nm=true then(if 65536<f.body.size then(ByteArray.empty,5)else(mu c.mg f.nm f.body,0))else(ByteArray.empty,11))
 else if c.fm=2 then(if 65536<(aQ f.id).length+f.body.size then(ByteArray.empty,5)else(⟨(eM f.id f.body.data.toList).toArray⟩,0))
 else(if c.un<f.body.size then(ByteArray.empty,5)else if 65536<(aQ f.id).length+(pack f.body.data.toList).length then(ByteArray.empty,5)else(⟨(eM f.id (pack f.body.data.toList)).toArray⟩,0))
def fM (c:aR)(f:Fr):ByteArray×Int:=
 if c.right=true/\iN c f=true then(if(aU c f).2≠0 then(ByteArray.empty,(aU c f).2)else if(bo c (aU c f).1).1=5 then(ByteArray.empty,5)else((aU c f).1,0))else(ByteArray.empty,1)
theorem El (m:Nat)(most:Int)(nm body more:ByteArray)(b:b8 nm=true)(k:most<(body.size:Int))(d:body.size<4294967296):(aV m most (mu m nm body++more)).1=5:=by
 have hz:=dW b;have o:=oz m nm body hz.2;obtain⟨h,j,i,p,l,n⟩:=Bj (qB m) (eK nm) (qB body.size) (eJ body) body more (jq _) (gR nm hz.2) (jq _) (lf _) (mu m nm body++more) rfl;have e:=Cs body.size d;have c:(cS (eK nm)).1=0:=by rw[Bb nm b]
 unfold aV;rw[h,j,i,e,zj (by omega),zj (by simp),zj (by omega),zj (by simp[c]),zj (by omega),zl (by omega)]
theorem kH (s:ByteArray):s++ByteArray.empty=s:=aL (by rw[bn];simp)
theorem Ok {c:aR}{f:Fr}{S:ByteArray}(hid:f.id<18446744073709551616)(h:fM c f=(S,0))(more:ByteArray):(∃m,bo c (S++more)=(0,f,S.size,m))/\(S.size:Int)<=Jz c:=by
 unfold fM at h;by_cases p:c.right=true/\iN c f=true;case neg=>rw[zj p]at h;injection h with _ h;cases h
 rw[zl p]at h;by_cases b:(aU c f).2≠0
 ·rw[zl b]at h;injection h with _ h;exact absurd h b
 rw[zj b]at h;by_cases d:(bo c (aU c f).1).1=5
 ·rw[zl d]at h;injection h with _ h;cases h
 rw[zj d]at h;injection h with h _;rw[h]at d;have b:=zJ.1 b;obtain⟨s,l⟩:=p;have D:=(c.cQ).1 s;obtain⟨id,nm,body⟩:=f;unfold aU at h b;unfold iN at l;unfold Jz;rw[zl s];unfold bo at d⊢;simp only at h b l hid;by_cases o:c.fm=1
 ·rw[zl o]at h b l d⊢;rw[zl o];have z:id=0:=by simpa using l
  cases hm:b8 nm with
  |false=>rw[hm]at b;simp at b
  |true=>
   rw[hm]at b h;simp only[xO]at b h;by_cases e:65536<body.size
   ·rw[zl e]at b;simp at b
   rw[zj e]at h;simp only at h;have k:(body.size:Int)<=c.fr:=by
    rcases Int.lt_or_le c.fr (body.size:Int)with aC|ko
    ·have:=El c.mg c.fr nm body ByteArray.empty hm aC (by omega);rw[kH,h]at this;exact absurd this d
    exact ko
   have i:=GZ c.mg c.fr nm body more hm k (by omega);have hz:=oz c.mg nm body (dW hm).2;rw[h]at i hz;rw[i,z];exact⟨⟨0,by rw[hz]⟩,by rw[hz];omega⟩
 rw[zj o]at h b l d⊢;rw[zj o];have q:nm=ByteArray.empty:=by
  have:nm.size=0:=by simpa using l
  apply aL;exact zw (by rw[aa];exact this)
 have u:∀N:Nat,(N:Int)<=c.fr->(((aQ N).length+N:Nat):Int)<=Bk c.fr+c.fr:=fun N C=>by
  unfold Bk;split
  ·have:=bF 1 N (by omega) (by omega);omega
  split
  ·have:=bF 2 N (by omega) (by omega);omega
  have:=bF 3 N (by omega) (by omega);omega
 by_cases r:c.fm=2
 ·rw[zl r]at h b d⊢;by_cases e:65536<(aQ id).length+body.size
  ·rw[zl e]at b;simp at b
  rw[zj e]at h;simp only at h;have j:S.data.toList=eM id body.data.toList:=by rw[<-h]
  have k:(((aQ id++body.data.toList).length:Nat):Int)<=c.fr:=by
   rcases Int.lt_or_le c.fr (((aQ id++body.data.toList).length:Nat):Int)with aC|ko
   ·have:=uk c.fr id body.data.toList S [] (by rw[j,xp]) (by rw[zp,aa];omega);rw[zl aC]at this;have:=r8 c.fr S (by rw[this]);rw[this]at d;exact absurd rfl d
   exact ko
  rw[zp,aa]at k;have i:=uh c.fr id body (S++more) more.data.toList hid (by rw[bn,j]) (by omega) (by omega);have n:S.size=(eM id body.data.toList).length:=by rw[<-aa,j]
  rw[i,q];refine⟨⟨0,by rw[n]⟩, ?_⟩;have:=u ((aQ id).length+body.size) k;rw[n];unfold eM;rw[zp,zp,aa];exact this
 rw[zj r]at h b d⊢;by_cases hu:c.un<body.size
 ·rw[zl hu]at b;simp at b
 rw[zj hu]at h b;by_cases e:65536<(aQ id).length+(pack body.data.toList).length
 ·rw[zl e]at b;simp at b
 rw[zj e]at h;simp only at h;have w:body.data.toList.length<=65536:=by rw[aa];omega
 have j:S.data.toList=eM id (pack body.data.toList):=by rw[<-h]
 have k:(((aQ id++pack body.data.toList).length:Nat):Int)<=c.fr:=by
  rcases Int.lt_or_le c.fr (((aQ id++pack body.data.toList).length:Nat):Int)with aC|ko
  ·have:=uk c.fr id (pack body.data.toList) S [] (by rw[j,xp]) (by rw[zp];omega);rw[zl aC]at this;have:=r8 c.fr S (by rw[this]);have x:aS c.fr c.un S=(5,0,ByteArray.empty,0,0):=by rw[bI,this];simp
   rw[x]at d;exact absurd rfl d
  exact ko
 rw[zp]at k;have i:=uh c.fr id ⟨(pack body.data.toList).toArray⟩ (S++more) more.data.toList hid (by rw[bn,j]) (by rw[bH];omega) (by rw[bH];omega);simp only at i;have y:=Bi ⟨(pack body.data.toList).toArray⟩ body.data.toList w rfl;have B:=Ek ⟨(pack body.data.toList).toArray⟩ body.data.toList w rfl c.un (by rw[aa];omega);have n:S.size=(eM id (pack body.data.toList)).length:=by rw[<-aa,j]
 have A:aS c.fr c.un (S++more)=(0,id,body,(eM id (pack body.data.toList)).length,body.size):=by
  rw[bI,i];simp only[ne_eq,xf,Zq];rw[y];simp only[xf,Zq];rw[aa,zj (by omega),B];simp only[xf,Zq,ig]
 rw[A,q];refine⟨⟨body.size,by rw[n]⟩, ?_⟩;have:=u ((aQ id).length+(pack body.data.toList).length) k;rw[n];unfold eM;rw[zp,zp];exact this
theorem uv (m:Nat)(most:Int)(s:ByteArray)(h:(aV m most s).1≠0):aV m most s=((aV m most s).1,ByteArray.empty,ByteArray.empty,0):=by
 unfold aV at h⊢;by_cases j:s.size<4
 ·rw[zl j]
 rw[zj j]at h⊢;by_cases l:s.extract 0 4≠qB m
 ·rw[zl l]
 rw[zj l]at h⊢;by_cases k:s.size<16
 ·rw[zl k]
 rw[zj k]at h⊢;by_cases i:(cS (s.extract 4 16)).1≠0
 ·rw[zl i]
 rw[zj i]at h⊢;by_cases c:s.size<20
 ·rw[zl c]
 rw[zj c]at h⊢;generalize cV (s.extract 16 20).data.toList=N at*;by_cases d:most<N
 ·rw[zl d]
 rw[zj d]at h⊢;by_cases e:s.size<24+N
 ·rw[zl e]
 rw[zj e]at h⊢;by_cases b:eJ (s.extract 24 (24+N))≠s.extract 20 24
 ·rw[zl b]
 rw[zj b]at h;exact absurd rfl h
theorem Ol (most:Int)(s:ByteArray)(h:(ai most s).1≠0):ai most s=((ai most s).1,0,ByteArray.empty,0):=by
 rw[eo]at h⊢;split
 ·rfl
 split
 ·rfl
 split
 ·rfl
 rename_i b d c
 rw[zj b,zj d,zj c]at h;exact absurd rfl h
theorem Sw {b:Int}(N:Nat)(d:(N:Int)<=b)(c:b<=65536):(((aQ N).length+N:Nat):Int)<=Bk b+b:=by
 unfold Bk;split
 ·have:=bF 1 N (by omega) (by omega);omega
 split
 ·have:=bF 2 N (by omega) (by omega);omega
 have:=bF 3 N (by omega) (by omega);omega
theorem r9 (b d:Int)(s:ByteArray)(h:(aS b d s).1=0):(ai b s).1=0/\(aS b d s).2.1=(ai b s).2.1/\(aS b d s).2.2.2.1=(ai b s).2.2.2:=by
 rw[bI]at h⊢;by_cases c:(ai b s).1≠0
 ·rw[zl c]at h;exact absurd h c
 rw[zj c]at h⊢;split at h
 ·split at h<;>cases h
 rename_i e
 rw[zj e];split at h
 ·cases h
 rename_i j
 rw[zj j];split at h
 ·cases h
 rename_i i
 rw[zj i];exact⟨zJ.1 c,rfl,rfl⟩
theorem G1 (b c:Int)(s:ByteArray)(h:(aS b c s).1≠0):(aS b c s).2.1=0/\(aS b c s).2.2.1=ByteArray.empty/\(aS b c s).2.2.2.1=0:=by
 rw[bI]at h⊢;split
 ·exact⟨rfl,rfl,rfl⟩
 rename_i d
 rw[zj d]at h;split
 ·exact⟨rfl,rfl,rfl⟩
 rename_i e
 rw[zj e]at h;split
 ·exact⟨rfl,rfl,rfl⟩
 rename_i j
 rw[zj j]at h;split
 ·exact⟨rfl,rfl,rfl⟩
 rename_i i
 rw[zj i]at h;exact absurd rfl h
theorem uw (c:aR)(s:ByteArray)(h:(bo c s).1≠0):(bo c s).2.1=nM/\(bo c s).2.2.1=0:=by
 unfold bo at h⊢;by_cases b:c.fm=1
 ·rw[zl b]at h⊢;have h:(aV c.mg c.fr s).1≠0:=h;rw[uv c.mg c.fr s h];exact⟨rfl,rfl⟩
 rw[zj b]at h⊢;by_cases d:c.fm=2
 ·rw[zl d]at h⊢;have h:(ai c.fr s).1≠0:=h;rw[Ol c.fr s h];exact⟨rfl,rfl⟩
 rw[zj d]at h⊢;obtain⟨i,j,e⟩:=G1 c.fr c.un s h;exact⟨by rw[i,j];rfl,e⟩
theorem Lv {c:aR}{s:ByteArray}(e:c.right=true)(h:(bo c s).1=0):((bo c s).2.2.1:Int)<=Jz c/\(bo c s).2.2.1<=s.size/\(bo c s).2.1.id<18446744073709551616:=by
 have p:=(c.cQ).1 e;unfold Jz;rw[zl e];unfold bo at h⊢;have i:(ai c.fr s).1=0->((ai c.fr s).2.2.2:Int)<=Bk c.fr+c.fr/\(ai c.fr s).2.2.2<=s.size/\(ai c.fr s).2.1<18446744073709551616:=fun h=>by
  obtain⟨b,d,k,j,_⟩:=uq c.fr s (ai c.fr s).2.1 (ai c.fr s).2.2.1 (ai c.fr s).2.2.2 (Z2 h rfl);exact⟨by rw[j];exact Sw _ k (by omega),b,d⟩
 by_cases b:c.fm=1
 ·rw[zl b]at h⊢;rw[zl b];obtain⟨_,k,j,n,_⟩:=uu c.mg c.fr s (aV c.mg c.fr s).2.1 (aV c.mg c.fr s).2.2.1 (aV c.mg c.fr s).2.2.2 (Z2 h rfl);exact⟨by simp only;omega,n,by simp⟩
 rw[zj b]at h⊢;rw[zj b];by_cases d:c.fm=2
 ·rw[zl d]at h⊢;exact i h
 rw[zj d]at h⊢;obtain⟨m,o,l⟩:=r9 c.fr c.un s h;have:=i m;simp only;rw[o,l];exact this
theorem Om (c:aR)(s:ByteArray)(k:Nat)(e:k<=s.size):(bo c (s.extract 0 k)).1=2\/bo c (s.extract 0 k)=bo c s:=by
 unfold bo;by_cases b:c.fm=1
 ·rw[zl b,zl b];rcases G0 c.mg c.fr s k e with h|h
  ·exact .inl h
  right;rw[h]
 rw[zj b,zj b];by_cases d:c.fm=2
 ·rw[zl d,zl d];rcases ui c.fr s k e with h|h
  ·right;rw[h]
  left;rw[h]
 rw[zj d,zj d];rcases GY c.fr c.un s k e with h|⟨_,h⟩
 ·left;rw[h]
 right;rw[h]
theorem Ct (s t:ByteArray):(s++t).extract 0 s.size=s:=by
 apply aL;rw[aq,bn,zQ,ye (by rw[aa];exact zf _),dh]
theorem On (c:aR)(s t:ByteArray)(h:(bo c s).1≠2):bo c (s++t)=bo c s:=by
 have:=Om c (s++t) s.size (by rw[bW];omega);rw[Ct]at this;rcases this with h1|h1
 ·exact absurd h1 h
 exact h1.symm
theorem Sx {c:aR}{s:ByteArray}(h:(bo c s).1=2):bo c s=(2,nM,0,0):=by
 unfold bo at h⊢;by_cases b:c.fm=1
 ·rw[zl b]at h⊢;have h:(aV c.mg c.fr s).1=2:=h;have:=uv c.mg c.fr s (by rw[h];decide);rw[this,h];rfl
 rw[zj b]at h⊢;by_cases d:c.fm=2
 ·rw[zl d]at h⊢;have h:(ai c.fr s).1=2:=h;have:=Ol c.fr s (by rw[h];decide);rw[this,h];rfl
 rw[zj d]at h⊢;have h:(aS c.fr c.un s).1=2:=h;rw[py c.fr c.un s h];rfl
theorem Oo {c:aR}{s:ByteArray}(h:(bo c s).1=0):0<(bo c s).2.2.1:=by
 have b:(ai c.fr s).1=0->0<(ai c.fr s).2.2.2:=fun h=>by
  obtain⟨_,_,_,k,_⟩:=uq c.fr s (ai c.fr s).2.1 (ai c.fr s).2.2.1 (ai c.fr s).2.2.2 (Z2 h rfl);have:=Eh ((aQ (ai c.fr s).2.1).length+(ai c.fr s).2.2.1.size);omega
 unfold bo at h⊢;by_cases d:c.fm=1
 ·rw[zl d]at h⊢;obtain⟨_,_,k,_⟩:=uu c.mg c.fr s (aV c.mg c.fr s).2.1 (aV c.mg c.fr s).2.2.1 (aV c.mg c.fr s).2.2.2 (Z2 h rfl);simp only;omega
 rw[zj d]at h⊢;by_cases e:c.fm=2
 ·rw[zl e]at h⊢;exact b h
 rw[zj e]at h⊢;obtain⟨j,_,i⟩:=r9 c.fr c.un s h;simp only;rw[i];exact b j
theorem bR {c:aR}(b:c.right=true)(s:ByteArray):aW c s=bo c s:=by unfold aW;rw[zl b]
theorem uy (c:aR):wO (aW c):=by
 cases hr:c.right with
 |false=>
  have e:∀s,aW c s=(1,nM,0,0):=fun s=>by unfold aW;rw[hr];rfl
  exact⟨(fun s h=>by rw[e]at h;cases h),(fun s t _=>by rw[e,e]),(fun s h=>by rw[e])⟩
 |true=>
  refine⟨fun s h=> ?_,fun s t h=> ?_,fun s h=> ?_⟩
  ·rw[bR hr]at h⊢;exact⟨Oo h,(Lv hr h).2.1⟩
  ·rw[bR hr]at h;rw[bR hr,bR hr];exact On c s t h
  rw[bR hr]at h⊢;rw[Sx h]
theorem G2 {c:aR}(h:c.right=true):(aW c ByteArray.empty).1=2:=by
 rw[bR h];have i:aw ByteArray.empty=(0,0,2):=jc _ _ _ _ (by simp);have d:ai c.fr ByteArray.empty=(2,0,ByteArray.empty,0):=by
  rw[eo];have:ar c.fr ByteArray.empty=(0,0,2):=by unfold ar;rw[i];rfl
  rw[this];rfl
 unfold bo;by_cases b:c.fm=1
 ·rw[zl b];unfold aV;rfl
 rw[zj b];by_cases e:c.fm=2
 ·rw[zl e,d]
 rw[zj e,bI,d];rfl
def gB (c:aR)(s:ByteArray):Nat:=
 if c.fm=1 then(if s.size<24 then 0 else 24+cV (s.extract 16 20).data.toList)
 else if(ar c.fr s).2.2≠0 then 0 else(ar c.fr s).2.1+(ar c.fr s).1
theorem Cu (s t:ByteArray)(i j:Nat)(h:j<=s.size):(s++t).extract i j=s.extract i j:=by
 have:=gU (s++t) s.size i j h;rw[Ct]at this;exact this.symm
theorem Em (m:Nat)(most:Int)(s t:ByteArray)(h:(aV m most s).1=2)(i:24<=s.size)(e:(s++t).size<24+cV (s.extract 16 20).data.toList):(aV m most (s++t)).1=2:=by
 have hz:=bW s t;unfold aV at h⊢;rw[Cu s t 0 4 (by omega),Cu s t 4 16 (by omega),Cu s t 16 20 (by omega)];rw[zj (by omega)]at h⊢;by_cases d:s.extract 0 4≠qB m
 ·rw[zl d]at h;cases h
 rw[zj d]at h⊢;rw[zj (by omega)]at h⊢;by_cases c:(cS (s.extract 4 16)).1≠0
 ·rw[zl c]at h;cases h
 rw[zj c]at h⊢;rw[zj (by omega)]at h⊢;generalize cV (s.extract 16 20).data.toList=N at*;by_cases b:most<N
 ·rw[zl b]at h;cases h
 rw[zj b,zl e]
theorem G3 (most:Int)(s t:ByteArray)(h:(ar most s).2.2=0):ar most (s++t)=ar most s:=by
 have b:=rZ (s++t) s.size (by rw[bW];omega);rw[Ct]at b;rcases b with b|b
 ·unfold ar;rw[b]
 unfold ar at h;rw[b]at h;cases h
theorem En (most:Int)(s t:ByteArray)(b:(ar most s).2.2=0)(c:(s++t).size<(ar most s).2.1+(ar most s).1):(ai most (s++t)).1=2:=by
 rw[eo,G3 most s t b,zj (by rw[b];simp),zl c]
theorem Eo (c:aR)(s t:ByteArray)(h:(bo c s).1=2)(b:(s++t).size<gB c s):(bo c (s++t)).1=2:=by
 unfold gB at b;by_cases d:c.fm=1
 ·rw[zl d]at b;unfold bo at h⊢;rw[zl d]at h⊢;by_cases i:s.size<24
  ·rw[zl i]at b;omega
  rw[zj i]at b;exact Em c.mg c.fr s t h (by omega) b
 rw[zj d]at b;by_cases e:(ar c.fr s).2.2≠0
 ·rw[zl e]at b;omega
 rw[zj e]at b;have:=En c.fr s t (zJ.1 e) b;unfold bo;rw[zj d];by_cases j:c.fm=2
 ·rw[zl j];exact this
 rw[zj j,bI,zl (by rw[this];decide)];exact this
