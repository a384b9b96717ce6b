/- Packing, greedily: the plain function; what it packs is unpacked again, and isn't longer than the bound. No program in sight. -/
import Derived.Test.YtpjgigllldipiaaGreatDoorKA1
set_option linter.all false
namespace Go.Proofs.YtpjgigllldipiaaGreatDoor
def ze:=@List.set_cons_zero
def zJ:=@Decidable.not_not
def zN:=@List.drop_zero
def zO:=@List.length_nil
def zR:=@List.drop_eq_nil_of_le
def zV:=@List.take_succ_cons
def zW:=@UInt8.toNat_inj
def yh:=@List.drop_succ_cons
def yo:=@Nat.zero_le
def yD:=@List.nil_append
def yE:=@List.take_zero
def yF:=@List.length_singleton
def xe:=@not_true_eq_false
def xx:=@List.append_nil
def xF:=@List.take_take
def xI:=@List.set_append_right
def Zi:=@Nat.div_lt_of_lt_mul
def Zq:=@if_false
def Zv:=@Nat.eq_zero_or_pos
def Zz:=@Nat.pow_succ
def ZB:=@Nat.add_comm
def Z3:=@Prod.ext
def Yl:=@List.take_length
def Ym:=@List.drop_length
def aO (n:Nat):List UInt8:=if n<128 then [ub n]else ub (n%128+128:Nat)::aO (n/128)
termination_by n
theorem gW {n:Nat}(h:n<128):aO n= [ub n]:=by rw[aO,zl h]
theorem jj {n:Nat}(h:¬n<128):aO n=ub (n%128+128:Nat)::aO (n/128):=by rw[aO,zj h]
theorem Eo (n:Nat):1<=(aO n).length:=by
 by_cases h:n<128
 ·simp[gW h]
 simp[jj h]
theorem bw (k:Nat):∀n,n<128^k->1<=k->(aO n).length<=k:=by
 induction k with
 |zero=>intro n _ h;omega
 |succ k ih=>
  intro n b _;by_cases h:n<128
  ·simp[gW h]
  rw[jj h,zB];rcases Zv k with h0|h0
  ·subst h0;simp at b;omega
  have:=ih (n/128) (by rw[Zz]at b;exact Zi (by rw[ZA];exact b)) h0;omega
theorem LO (n:Nat):∀(s:ByteArray) (pre rest:List UInt8) (i m:Nat),s.data.toList=pre++(aO n++rest)->pre.length=i->i<=9->n<2^(64-7*i)->(i=0\/0<n)->
 cd s (10-i) i m=(m+n*2^(7*i),i+(aO n).length,0):=by
 induction n using Nat.strongRecOn with
 |ind n ih=>
  intro s pre rest i m d j hi o u;rw[show 10-i=(9-i)+1 from by omega];have p:i=9->n<=1:=by
   intro h;subst h;have:(2:Nat)^(64-7*9)=2:=by decide
   omega
  by_cases h:n<128
  ·rw[gW h]at d⊢;obtain⟨g,e⟩:=oD (s:=s) (k:=i) (b:=ub n) (by rw[d,yr (by omega),j];simp);have c:s[i].toNat=n:=by rw[e,bh n (by omega)]
   rw[jr s _ i m g (by rw[c];omega) (by rw[c];exact h),c,Nat.mod_eq_of_lt h];simp
  rw[jj h]at d⊢;obtain⟨g,e⟩:=oD (s:=s) (k:=i) (b:=ub (n%128+128:Nat)) (by rw[d,yr (by omega),j];simp);have c:s[i].toNat=n%128+128:=by rw[e,bh _ (by omega)]
  rw[js s _ i m g (by rw[c];omega) (by rw[c];omega),c];have w:7*i+7<=64:=by
   rcases Zl i 9 with h9|h9
   ·omega
   have:=p (by omega);omega
  have q:2^(64-7*i)=2^(64-7*(i+1))*128:=by
   rw[show 64-7*i=(64-7*(i+1))+7 from by omega,Zg]
  have hd:n/128<2^(64-7*(i+1)):=Zi (by rw[ZA,<-q];exact o);have:=ih (n/128) (by omega) s (pre++ [ub (n%128+128:Nat)]) rest (i+1) (m+(n%128+128)%128*2^(7*i)) (by rw[d];simp) (by simp;omega) (by omega) hd (Or.inr (by omega));rw[show 9-i=10-(i+1)from by omega,this];have l:2^(7*(i+1))=128*2^(7*i):=by rw[show 7*(i+1)=7+7*i from by omega,Zg]
  have r:m+(n%128+128)%128*2^(7*i)+n/128*2^(7*(i+1))=m+n*2^(7*i):=by
   rw[l,show(n%128+128)%128=n%128 from by omega,<-Nat.mul_assoc,yv,<-Nat.add_mul,show n%128+n/128*128=n from by omega]
  rw[r];exact Z3 rfl (Z3 (by simp only[zB];omega) rfl)
theorem jY (n:Nat)(s:ByteArray)(rest:List UInt8)(b:s.data.toList=aO n++rest)(c:n<18446744073709551616):ay s=(n,(aO n).length,0):=by
 have:=LO n s [] rest 0 0 (by simpa using b) rfl (by omega) (by simpa using c) (Or.inl rfl);simpa[ay]using this
def mt (L:List UInt8)(j i:Nat):Nat->Nat
 |0=>0
 |f+1=>if i<L.length/\L[j]?=L[i]? then mt L (j+1) (i+1) f+1 else 0
def Hb (L:List UInt8)(i:Nat):Nat->Option Nat
 |0=>none
 |j+1=>if 4<=mt L j i 64 then some j else Hb L i j
def gX (l:List UInt8):List UInt8:=
 if l.length=0 then []else if l.length<=60 then ub (4*(l.length-1):Nat)::l
 else if l.length<=256 then 240::ub (l.length-1:Nat)::l
 else 244::ub ((l.length-1)%256:Nat)::ub ((l.length-1)/256:Nat)::l
def kM (n d:Nat):List UInt8:=
 if n<=11/\d<2048 then [ub (1+4*(n-4)+32*(d/256):Nat),ub (d%256:Nat)]
 else [ub (2+4*(n-1):Nat),ub (d%256:Nat),ub (d/256:Nat)]
def pk (L:List UInt8):Nat->Nat->Nat->List UInt8
 |0,_,_=> []
 |f+1,p,i=>if i<L.length then
  (match Hb L i i with
  |none=>pk L f p (i+1)
  |some j=>gX ((L.take i).drop p)++(kM (mt L j i 64) (i-j)++pk L f (i+mt L j i 64) (i+mt L j i 64)))
  else gX (L.drop p)
def pack (L:List UInt8):List UInt8:=aO L.length++pk L (L.length+1) 0 0
theorem Bo (L:List UInt8)(f:Nat):∀j i,mt L j i f<=f/\(i<=L.length->i+mt L j i f<=L.length):=by
 induction f with
 |zero=>intro j i;simp[mt]
 |succ f ih=>
  intro j i;have:=ih (j+1) (i+1);unfold mt;split<;>omega
theorem Ep (L:List UInt8)(f:Nat):∀j i n,n<mt L j i f->L[j+n]?=L[i+n]?:=by
 induction f with
 |zero=>intro j i n h;simp[mt]at h
 |succ f ih=>
  intro j i n h;unfold mt at h;split at h
  ·rename_i b
   cases n with
   |zero=>exact b.2
   |succ n=>
    have:=ih (j+1) (i+1) n (by omega);rw[show j+(n+1)=j+1+n from by omega,show i+(n+1)=i+1+n from by omega];exact this
  omega
theorem pE (L:List UInt8)(i:Nat):∀k j,Hb L i k=some j->j<k/\4<=mt L j i 64:=by
 intro k;induction k with
 |zero=>intro j h;simp[Hb]at h
 |succ k ih=>
  intro j h;unfold Hb at h;split at h
  ·rename_i b
   injection h with h;subst h;exact⟨by omega,b⟩
  have:=ih j h;omega
theorem V8 (L:List UInt8)(j i:Nat)(e:j<i)(hi:i<=L.length):∀n,n<=mt L j i 64->tB (L.take i) (i-j) n=L.take (i+n):=by
 intro n;induction n with
 |zero=>intro _;rfl
 |succ n ih=>
  intro d;have h:=(Bo L 64 j i).2 hi;rw[D9,ih (by omega)];have c:(L.take (i+n)).length=i+n:=by rw[yc];omega
  have b:=Ep L 64 j i n (by omega);rw[c,show i+n-(i-j)=j+n from by omega,show i+(n+1)=(i+n)+1 from by omega,yA (by omega)];congr 1
  rw[zA,yT (by omega),b,zD (by omega)];rfl
theorem jZ (l:List UInt8)(h:l.length<=65536):l.length<=(gX l).length/\(gX l).length<=l.length+(if l.length=0 then 0 else if l.length<=60 then 1 else if l.length<=256 then 2 else 3):=by
 unfold gX;split
 ·rename_i b;simp[b]
 split
 ·simp
 split<;>simp<;>omega
theorem sk (n d:Nat):2<=(kM n d).length/\(kM n d).length<=3:=by
 unfold kM;split<;>simp
theorem LP (L:List UInt8)(m:L.length<=65536)(f:Nat):∀p i,p<=i->i<=L.length->32*(pk L f p i).length<=33*(L.length-p)+96:=by
 induction f with
 |zero=>intro p i _ _;simp[pk]
 |succ f ih=>
  intro p i n hi;unfold pk;split
  ·cases hf:Hb L i i with
   |none=>exact ih p (i+1) (by omega) (by omega)
   |some j=>
    obtain⟨l,e⟩:=pE L i i j hf;have d:=(Bo L 64 j i).2 hi;have k:=ih (i+mt L j i 64) (i+mt L j i 64) (zi _) d;have h:=sk (mt L j i 64) (i-j);have c:((L.take i).drop p).length=i-p:=by simp;omega
    have b:=jZ ((L.take i).drop p) (by omega);rw[c]at b;simp only[zo];split at b
    ·omega
    split at b
    ·omega
    split at b<;>omega
  have c:(L.drop p).length=L.length-p:=by simp
  have b:=jZ (L.drop p) (by omega);rw[c]at b;split at b
  ·omega
  split at b
  ·omega
  split at b<;>omega
theorem sm (L:List UInt8)(b:L.length<=65536):(pack L).length<=L.length+L.length/32+8:=by
 have d:=LP L b (L.length+1) 0 0 (zi _) (yo _);have c:=bw 3 L.length (by omega) (by omega);unfold pack;rw[zo];omega
theorem Er (B:ByteArray)(size:Nat)(pre l rest out:List UInt8)(c:B.data.toList=pre++(gX l++rest))(q:l.length<=65536)(r:out.length+l.length<=size):
 ∃n,n<=(gX l).length/\∀F,gN B size (F+n) pre.length out=gN B size F (pre.length+(gX l).length) (out++l):=by
 by_cases o:l.length=0
 ·have:l= []:=zt o;subst this;exact⟨0,by simp,fun F=>by simp[gX]⟩
 refine⟨1, ?_,fun F=> ?_⟩
 ·have:=jZ l q;omega
 have hz:B.size=pre.length+(gX l).length+rest.length:=by rw[<-aa,c];simp[yv]
 have hcut:∀a b,(B.extract (pre.length+a) (pre.length+b)).data.toList=((gX l++rest).take b).drop a:=by
  intro a b;rw[aj,c,List.take_append,List.drop_append,show pre.length+b-pre.length=b from by omega,zR (by rw[yc];omega),yD,yc,show pre.length+a-min (pre.length+b) pre.length=a from by omega]
 unfold gX at c hz hcut⊢;rw[zj o]at c hz hcut⊢;by_cases p:l.length<=60
 ·rw[zl p]at c hz hcut⊢;obtain⟨g,e⟩:=oD (s:=B) (k:=pre.length) (b:=ub (4*(l.length-1):Nat)) (by rw[c];simp);have h:B[pre.length].toNat=4*(l.length-1):=by rw[e,bh _ (by omega)]
  have d:bg (4*(l.length-1))=1:=by unfold bg;rw[zl (by omega),zj (by omega)]
  have i:∀x,cH (4*(l.length-1)) x=l.length:=by intro x;unfold cH;rw[zl (by omega),zj (by omega)];omega
  simp only[zB]at hz⊢;refine kL g h ?_;unfold bT;rw[i,d,zj (by omega),zj (by omega),zl (by omega),zj (by omega),show pre.length+1+l.length=pre.length+(1+l.length)from by omega,hcut];simp only[ya,ZB 1,zV,yh,zN,ye (zi l.length),Yl]
 rw[zj p]at c hz hcut⊢;by_cases m:l.length<=256
 ·rw[zl m]at c hz hcut⊢;obtain⟨g,e⟩:=oD (s:=B) (k:=pre.length) (b:=240) (by rw[c];simp);have h:B[pre.length].toNat=240:=by rw[e];rfl
  have d:bg 240=2:=by decide
  simp only[zB]at hz⊢;have j:im B pre.length 240=l.length-1:=by
   unfold im;rw[d,hcut];simp only[ya,zV,yh,zN,yE];simp only[cZ,bh (l.length-1) (by omega)];omega
  have i:cH 240 (l.length-1)=l.length:=by unfold cH;rw[zl (by omega),zl (by omega)];omega
  refine kL g h ?_;unfold bT;rw[j,i,d,zj (by omega),zj (by omega),zl (by omega),zj (by omega),show pre.length+2+l.length=pre.length+(l.length+2)from by omega,hcut];simp only[ya,zV,yh,zN,ye (zi l.length),Yl]
 rw[zj m]at c hz hcut⊢;obtain⟨g,e⟩:=oD (s:=B) (k:=pre.length) (b:=244) (by rw[c];simp);have h:B[pre.length].toNat=244:=by rw[e];rfl
 have d:bg 244=3:=by decide
 simp only[zB]at hz⊢;have j:im B pre.length 244=l.length-1:=by
  unfold im;rw[d,hcut];simp only[ya,zV,yh,zN,yE];simp only[cZ,bh ((l.length-1)%256) (by omega),bh ((l.length-1)/256) (by omega)];omega
 have i:cH 244 (l.length-1)=l.length:=by unfold cH;rw[zl (by omega),zl (by omega)];omega
 refine kL g h ?_;unfold bT;rw[j,i,d,zj (by omega),zj (by omega),zl (by omega),zj (by omega),show pre.length+3+l.length=pre.length+(l.length+3)from by omega,hcut];simp only[ya,zV,yh,zN,ye (zi l.length),Yl]
theorem OC (B:ByteArray)(size n d:Nat)(pre rest out:List UInt8)(c:B.data.toList=pre++(kM n d++rest))(p:4<=n)(u:n<=64)(hd:1<=d)(q:d<=out.length)(r:d<65536)(w:out.length+n<=size)(F:Nat):
 gN B size (F+1) pre.length out=gN B size F (pre.length+(kM n d).length) (tB out d n):=by
 have hz:B.size=pre.length+(kM n d).length+rest.length:=by rw[<-aa,c];simp[yv]
 have hcut:∀a b,(B.extract (pre.length+a) (pre.length+b)).data.toList=((kM n d++rest).take b).drop a:=by
  intro a b;rw[aj,c,List.take_append,List.drop_append,show pre.length+b-pre.length=b from by omega,zR (by rw[yc];omega),yD,yc,show pre.length+a-min (pre.length+b) pre.length=a from by omega]
 unfold kM at c hz hcut⊢;by_cases o:n<=11/\d<2048
 ·rw[zl o]at c hz hcut⊢;obtain⟨g,e⟩:=oD (s:=B) (k:=pre.length) (b:=ub (1+4*(n-4)+32*(d/256):Nat)) (by rw[c];simp);have i:B[pre.length].toNat=1+4*(n-4)+32*(d/256):=by rw[e,bh _ (by omega)]
  have h:bg (1+4*(n-4)+32*(d/256))=2:=by unfold bg;rw[zj (by omega),zl (by omega)]
  simp only[zB,zO]at hz⊢;have l:im B pre.length (1+4*(n-4)+32*(d/256))=d%256:=by
   unfold im;rw[h,hcut];simp only[ya,zV,yh,zN,yE];simp only[cZ,bh (d%256) (by omega)];omega
  have m:∀x,cH (1+4*(n-4)+32*(d/256)) x=n:=by intro x;unfold cH;rw[zj (by omega),zl (by omega)];omega
  have j:jU (1+4*(n-4)+32*(d/256)) (d%256)=d:=by unfold jU;rw[zl (by omega)];omega
  refine kL g i ?_;unfold bT;rw[l,j,m,h,zj (by omega),zj (by omega),zj (by omega)]
 rw[zj o]at c hz hcut⊢;obtain⟨g,e⟩:=oD (s:=B) (k:=pre.length) (b:=ub (2+4*(n-1):Nat)) (by rw[c];simp);have i:B[pre.length].toNat=2+4*(n-1):=by rw[e,bh _ (by omega)]
 have h:bg (2+4*(n-1))=3:=by unfold bg;rw[zj (by omega),zj (by omega),zl (by omega)]
 simp only[zB,zO]at hz⊢;have l:im B pre.length (2+4*(n-1))=d:=by
  unfold im;rw[h,hcut];simp only[ya,zV,yh,zN,yE];simp only[cZ,bh (d%256) (by omega),bh (d/256) (by omega)];omega
 have m:∀x,cH (2+4*(n-1)) x=n:=by intro x;unfold cH;rw[zj (by omega),zj (by omega)];omega
 have j:jU (2+4*(n-1)) d=d:=by unfold jU;rw[zj (by omega)]
 refine kL g i ?_;unfold bT;rw[l,j,m,h,zj (by omega),zj (by omega),zj (by omega)]
theorem SJ (B:ByteArray)(L:List UInt8)(E:L.length<=65536)(f:Nat):∀(p i:Nat) (pre:List UInt8),p<=i->i<=L.length->L.length-i<f->B.data.toList=pre++pk L f p i->
 ∃n,n<=(pk L f p i).length/\∀F,gN B L.length (F+n) pre.length (L.take p)=gN B L.length F B.size L:=by
 induction f with
 |zero=>intro p i pre _ _ h;omega
 |succ f ih=>
  intro p i pre w hi D b;unfold pk at b⊢;by_cases h:i<L.length
  ·rw[zl h]at b⊢;cases hfd:Hb L i i with
   |none=>
    rw[hfd]at b;exact ih p (i+1) pre (by omega) (by omega) (by omega) b
   |some j=>
    rw[hfd]at b;simp only at b⊢;obtain⟨y,s⟩:=pE L i i j hfd;have o:=Bo L 64 j i;have q:=o.2 hi;have C:((L.take i).drop p).length=i-p:=by simp;omega
    have A:(L.take p).length=p:=by rw[yc];omega
    have r:(L.take i).length=i:=by rw[yc];omega
    have x:L.take p++(L.take i).drop p=L.take i:=by
     have:=zL p (L.take i);rwa [xF,yK w]at this
    obtain⟨n1,k,c⟩:=Er B L.length pre ((L.take i).drop p) _ (L.take p) b (by omega) (by omega);rw[x]at c;have m:B.data.toList=(pre++gX ((L.take i).drop p))++(kM (mt L j i 64) (i-j)++pk L f (i+mt L j i 64) (i+mt L j i 64)):=by rw[b,zI]
    have l:=OC B L.length (mt L j i 64) (i-j) _ _ (L.take i) m s o.1 (by omega) (by omega) (by omega) (by omega);rw[V8 L j i y hi _ (zi _),zo]at l;have u:B.data.toList=((pre++gX ((L.take i).drop p))++kM (mt L j i 64) (i-j))++pk L f (i+mt L j i 64) (i+mt L j i 64):=by rw[m,zI _ (kM _ _) _]
    obtain⟨d,z,e⟩:=ih _ _ _ (zi _) q (by omega) u;rw[zo,zo]at e;refine⟨d+1+n1, ?_,fun F=> ?_⟩
    ·have:=sk (mt L j i 64) (i-j);simp only[zo];omega
    rw[show F+(d+1+n1)=(F+d+1)+n1 from by omega,c,l,e]
  rw[zj h]at b⊢;have r:(L.take p).length=p:=by rw[yc];omega
  obtain⟨n1,k,c⟩:=Er B L.length pre (L.drop p) [] (L.take p) (by simpa using b) (by simp;omega) (by simp;omega);refine⟨n1,k,fun F=> ?_⟩;rw[c,zL];congr 1
  rw[<-aa,b,zo]
theorem Bp (s:ByteArray)(L:List UInt8)(c:L.length<=65536)(b:s.data.toList=pack L):aC s=(L.length,(aO L.length).length,0):=by
 unfold pack at b;have h:=jY L.length s _ b (by omega);unfold aC;rw[h,zl rfl,zj (by simp;omega)]
theorem Es (s:ByteArray)(L:List UInt8)(c:L.length<=65536)(b:s.data.toList=pack L)(most:Int)(k:L.length<=most):bc s most=(0,L):=by
 have e:=Bp s L c b;unfold bc;rw[e];simp only[ne_eq,xe,Zq];rw[zj (by omega)];unfold pack at b;generalize i:s.extract (aO L.length).length s.size=B;have d:B.data.toList=pk L (L.length+1) 0 0:=by
  rw[<-i,aj,cM,b,yO (zi _),Ym,yD]
 obtain⟨n,j,h⟩:=SJ B L c (L.length+1) 0 0 [] (zi _) (yo _) (by omega) (by simpa using d);unfold iJ;have hz:B.size=(pk L (L.length+1) 0 0).length:=by rw[<-aa,d]
 rw[show B.size+1=(B.size-n+1)+n from by omega];have:=h (B.size-n+1);simp only[zO,yE]at this;rw[this];unfold gN;rw[dif_neg (by omega),zj (by omega)]
def au (most:Int)(s:ByteArray):Nat×Nat×Int:=
 if(ay s).2.2=0 then(if most<(ay s).1 then(0,0,5)else((ay s).1,(ay s).2.1,0))else(0,0,(ay s).2.2)
def ai (most:Int)(s:ByteArray):Int×Nat×ByteArray×Nat:=
 if(au most s).2.2≠0 then((au most s).2.2,0,ByteArray.empty,0)
 else if s.size<(au most s).2.1+(au most s).1 then(2,0,ByteArray.empty,0)
 else if(ay (s.extract (au most s).2.1 ((au most s).2.1+(au most s).1))).2.2≠0 then(3,0,ByteArray.empty,0)
 else(0,(ay (s.extract (au most s).2.1 ((au most s).2.1+(au most s).1))).1,
  (s.extract (au most s).2.1 ((au most s).2.1+(au most s).1)).extract (ay (s.extract (au most s).2.1 ((au most s).2.1+(au most s).1))).2.1 (au most s).1,
  (au most s).2.1+(au most s).1)
theorem eD (most:Int)(s:ByteArray):ai most s=(
 if(au most s).2.2≠0 then((au most s).2.2,0,ByteArray.empty,0)
 else if s.size<(au most s).2.1+(au most s).1 then(2,0,ByteArray.empty,0)
 else if(ay (s.extract (au most s).2.1 ((au most s).2.1+(au most s).1))).2.2≠0 then(3,0,ByteArray.empty,0)
 else(0,(ay (s.extract (au most s).2.1 ((au most s).2.1+(au most s).1))).1,
  (s.extract (au most s).2.1 ((au most s).2.1+(au most s).1)).extract (ay (s.extract (au most s).2.1 ((au most s).2.1+(au most s).1))).2.1 (au most s).1,
  (au most s).2.1+(au most s).1)):=rfl
def ey (id:Nat)(body:List UInt8):List UInt8:=aO (aO id++body).length++(aO id++body)
theorem qW (most:Int)(s:ByteArray)(h:(au most s).2.2=0):((au most s).1:Int)<=most/\(au most s).2.1<=s.size/\0<(au most s).2.1/\(au most s).2.1<=10:=by
 unfold au at h⊢;by_cases b:(ay s).2.2=0
 ·rw[zl b]at h⊢;have d:=gU s b;by_cases c:most<(ay s).1
  ·rw[zl c]at h;simp at h
  rw[zj c];simp only;omega
 rw[zj b]at h;exact absurd h b
theorem uz (most:Int)(id:Nat)(body:ByteArray)(s:ByteArray)(rest:List UInt8)(hid:id<18446744073709551616)(b:s.data.toList=ey id body.data.toList++rest)(n:((aO id).length+body.size:Int)<=most)(o:body.size<=1000000):
 ai most s=(0,id,body,(ey id body.data.toList).length):=by
 unfold ey at b⊢;have q:=bw 10 id (by omega) (by omega);have j:(aO id++body.data.toList).length=(aO id).length+body.size:=by rw[zo,aa]
 have m:=jY (aO id++body.data.toList).length s ((aO id++body.data.toList)++rest) (by rw[b,zI]) (by omega);have i:au most s=((aO id++body.data.toList).length,(aO (aO id++body.data.toList).length).length,0):=by
  unfold au;rw[m];simp only[xS];rw[zj (by rw[j];omega)]
 have p:s.size=(aO (aO id++body.data.toList).length).length+(aO id++body.data.toList).length+rest.length:=by
  rw[<-aa,b];simp only[zo]
 generalize c:(aO (aO id++body.data.toList).length).length=K at*;generalize l:(aO id++body.data.toList).length=N at*;have e:(s.extract K (K+N)).data.toList=aO id++body.data.toList:=by
  rw[aj,b,zI,List.take_append,List.drop_append,c];have d:(List.take (K+N) (aO N)).length=K:=by rw[yc,c];omega
  rw[zR (by rw[d];exact zi _),d,ZY,zN,yD,show K+N-K=N from by omega,ye (by omega),zC (by omega)]
 have h:=jY id (s.extract K (K+N)) body.data.toList e hid;have k:(s.extract K (K+N)).extract (aO id).length N=body:=by
  apply aG;rw[aj,e,zC (by omega),yO (zi _),Ym,yD]
 unfold ai;rw[i];simp only[ne_eq,xe,Zq];rw[zj (by omega),h];simp only[xe,Zq];rw[k,zo,c,l]
def aT (most iC:Int)(s:ByteArray):Int×Nat×ByteArray×Nat×Nat:=
 if(ai most s).1≠0 then((ai most s).1,0,ByteArray.empty,0,0)
 else if(aC (ai most s).2.2.1).2.2≠0 then((if(aC (ai most s).2.2.1).2.2=5 then 5 else 3),0,ByteArray.empty,0,0)
 else if iC<(aC (ai most s).2.2.1).1 then(5,0,ByteArray.empty,0,0)
 else if(bc (ai most s).2.2.1 iC).1≠0 then(3,0,ByteArray.empty,0,(aC (ai most s).2.2.1).1)
 else(0,(ai most s).2.1,⟨(bc (ai most s).2.2.1 iC).2.toArray⟩,(ai most s).2.2.2,(aC (ai most s).2.2.1).1)
theorem bI (most b:Int)(s:ByteArray):aT most b s=(
 if(ai most s).1≠0 then((ai most s).1,0,ByteArray.empty,0,0)
 else if(aC (ai most s).2.2.1).2.2≠0 then((if(aC (ai most s).2.2.1).2.2=5 then 5 else 3),0,ByteArray.empty,0,0)
 else if b<(aC (ai most s).2.2.1).1 then(5,0,ByteArray.empty,0,0)
 else if(bc (ai most s).2.2.1 b).1≠0 then(3,0,ByteArray.empty,0,(aC (ai most s).2.2.1).1)
 else(0,(ai most s).2.1,⟨(bc (ai most s).2.2.1 b).2.toArray⟩,(ai most s).2.2.2,(aC (ai most s).2.2.1).1)):=rfl
theorem LQ (s:ByteArray)(c:Nat)(j:c<=s.size)(f:Nat):∀i n,cd (s.extract 0 c) f i n=cd s f i n\/cd (s.extract 0 c) f i n=(0,0,2):=by
 have hz:(s.extract 0 c).size=c:=by rw[an _ _ _ j];omega
 induction f with
 |zero=>intro i n;exact .inl rfl
 |succ f ih=>
  intro i n;by_cases hi:i<c
  ·have h:i<(s.extract 0 c).size:=by omega
   have d:i<s.size:=by omega
   have e:(s.extract 0 c)[i]=s[i]:=by
    have b:=gz (s.extract 0 c) i h;rw[aj,zN,yT hi,gz s i d]at b;injection b with b;exact b.symm
   rw[cd,cd,Yn h,Yn d,e];split
   ·exact .inl rfl
   split
   ·exact .inl rfl
   exact ih _ _
  exact .inr (ji _ _ _ _ (by omega))
theorem sn (s:ByteArray)(c:Nat)(b:c<=s.size):ay (s.extract 0 c)=ay s\/ay (s.extract 0 c)=(0,0,2):=LQ s c b 10 0 0
theorem uA (most:Int)(s:ByteArray)(c:Nat)(j:c<=s.size):ai most (s.extract 0 c)=ai most s\/ai most (s.extract 0 c)=(2,0,ByteArray.empty,0):=by
 have hz:(s.extract 0 c).size=c:=by rw[an _ _ _ j];omega
 rcases sn s c j with h|h
 ·have d:au most (s.extract 0 c)=au most s:=by unfold au;rw[h]
  rw[eD most (s.extract 0 c),eD most s,d,hz];by_cases b:(au most s).2.2≠0
  ·rw[zl b,zl b];exact .inl rfl
  rw[zj b,zj b];by_cases i:c<(au most s).2.1+(au most s).1
  ·rw[zl i];exact .inr rfl
  have k:¬s.size<(au most s).2.1+(au most s).1:=by omega
  rw[zj i,zj k];have e:(s.extract 0 c).extract (au most s).2.1 ((au most s).2.1+(au most s).1)=s.extract (au most s).2.1 ((au most s).2.1+(au most s).1):=by
   apply aG;rw[aj,aj,aj,zN,xF,yK (by omega)]
  rw[e];exact .inl rfl
 have d:au most (s.extract 0 c)=(0,0,2):=by unfold au;rw[h];rfl
 rw[eD most (s.extract 0 c),d];exact .inr rfl
theorem pF (most b:Int)(s:ByteArray)(h:(aT most b s).1=2):aT most b s=(2,0,ByteArray.empty,0,0):=by
 rw[bI]at h⊢;by_cases c:(ai most s).1≠0
 ·rw[zl c]at h⊢;simp only at h⊢;rw[h]
 rw[zj c]at h⊢;split at h
 ·simp only at h;split at h<;>omega
 split at h
 ·simp at h
 split at h<;>simp at h
theorem Hd (most b:Int)(s:ByteArray)(c:Nat)(i:c<=s.size):aT most b (s.extract 0 c)=(2,0,ByteArray.empty,0,0)\/((aT most b s).1≠2/\aT most b (s.extract 0 c)=aT most b s):=by
 rcases uA most s c i with h|h
 ·have e:aT most b (s.extract 0 c)=aT most b s:=by rw[bI,bI most b s,h]
  by_cases d:(aT most b s).1=2
  ·left;rw[e];exact pF most b s d
  exact .inr ⟨d,e⟩
 left;rw[bI,h];rfl
theorem uB (s:ByteArray):∀(f i n m k:Nat),cd s f i n=(m,k,0)->∃r,m=n+r*2^(7*i)/\(0<i->0<r)/\i<k/\k<=s.size/\aO r=(s.data.toList.take k).drop i
 |0,i,n,m,k,h=>by simp[cd]at h
 |f+1,i,n,m,k,h=>by
  by_cases hi:i<s.size
  ·by_cases d:(i=9/\1<s[i].toNat)\/(0<i/\s[i].toNat=0)
   ·rw[nB s f i n hi d]at h;simp at h
   have p:s.data.toList[i]?=some s[i]:=by
    rw[zD (by rw[aa];exact hi)];rfl
   by_cases c:s[i].toNat<128
   ·rw[jr s f i n hi d c]at h;injection h with h1 b;injection b with b _;refine⟨s[i].toNat,by rw[<-h1,Nat.mod_eq_of_lt c],fun x=>by omega,by omega,by omega, ?_⟩;rw[gW c,<-b];have hu:ub (s[i].toNat:Nat)=s[i]:=by apply zW.1;rw[bh _ (by omega)]
    rw[hu,List.take_add_one,p,Option.toList_some,yO (by rw[yc,aa];omega),zR (by rw[yc];omega),yD]
   rw[js s f i n hi d c]at h;obtain⟨r,l,q,A,w,u⟩:=uB s f (i+1) _ m k h;have z:=q (by omega);have y:=s[i].toNat_lt;have b:2^(7*(i+1))=128*2^(7*i):=by rw[show 7*(i+1)=7+7*i from by omega,Zg]
   refine⟨s[i].toNat%128+r*128,by rw[l,b,Nat.add_mul,Nat.mul_assoc,yv],fun _=>by omega,by omega,w, ?_⟩;have e:(s[i].toNat%128+r*128)%128=s[i].toNat%128:=by omega
   have j:(s[i].toNat%128+r*128)/128=r:=by omega
   rw[jj (by omega),e,j,u];have hu:ub (s[i].toNat%128+128:Nat)=s[i]:=by apply zW.1;rw[bh _ (by omega)];omega
   rw[hu];have o:i<(s.data.toList.take k).length:=by rw[yc,aa];omega
   rw[xL o];rw[List.getElem_take];rfl
  rw[ji s (f+1) i n hi]at h;simp at h
theorem pG (s:ByteArray)(h:(ay s).2.2=0):aO (ay s).1=s.data.toList.take (ay s).2.1/\(ay s).2.1=(aO (ay s).1).length:=by
 obtain⟨r,b,_,_,e,d⟩:=uB s 10 0 0 (ay s).1 (ay s).2.1 (by rw[<-h];rfl);have c:(ay s).1=r:=by simpa using b
 rw[c,d,zN];exact⟨rfl,by rw[yc,aa];omega⟩
theorem uC (most:Int)(id:Nat)(body:List UInt8)(s:ByteArray)(rest:List UInt8)(b:s.data.toList=ey id body++rest)(c:(aO id++body).length<18446744073709551616):
 au most s=if most<(aO id++body).length then(0,0,5)else((aO id++body).length,(aO (aO id++body).length).length,0):=by
 have d:=jY (aO id++body).length s ((aO id++body)++rest) (by rw[b];unfold ey;rw[zI]) c;unfold au;rw[d];simp only[xS]
theorem sq (most:Int)(s:ByteArray)(h:(au most s).2.2=5):ai most s=(5,0,ByteArray.empty,0):=by
 unfold ai;rw[zl (by rw[h];decide),h]
theorem uD (most:Int)(s:ByteArray)(id:Nat)(body:ByteArray)(n:Nat)(h:ai most s=(0,id,body,n)):
 n<=s.size/\id<18446744073709551616/\(((aO id).length+body.size:Nat):Int)<=most/\n=(aO ((aO id).length+body.size)).length+((aO id).length+body.size)/\(⟨(ey id body.data.toList).toArray⟩:ByteArray)=s.extract 0 n:=by
 unfold ai at h;by_cases b:(au most s).2.2≠0
 ·rw[zl b]at h;injection h with h;exact absurd h b
 rw[zj b]at h;have b:=zJ.1 b;have e:=qW most s b;have j:au most s=((ay s).1,(ay s).2.1,0)/\(ay s).2.2=0:=by
  unfold au at b⊢;by_cases d:(ay s).2.2=0
  ·rw[zl d]at b⊢;by_cases c:most<(ay s).1
   ·rw[zl c]at b;simp at b
   rw[zj c];exact⟨rfl,d⟩
  rw[zj d]at b;exact absurd b d
 obtain⟨x,q⟩:=pG s j.2;rw[j.1]at h e;generalize (ay s).1=N at*;generalize (ay s).2.1=K at*;try simp only at h e
 by_cases d:s.size<K+N
 ·rw[zl d]at h;injection h with h;simp at h
 rw[zj d]at h;by_cases c:(ay (s.extract K (K+N))).2.2≠0
 ·rw[zl c]at h;injection h with h;simp at h
 rw[zj c]at h;have c:=zJ.1 c;obtain⟨m,l⟩:=pG _ c;have k:=gU _ c;injection h with _ h;injection h with hid h;injection h with Uj hn;rw[hid]at m l k;generalize (ay (s.extract K (K+N))).2.1=J at*;have y:(s.extract K (K+N)).size=N:=by rw[an _ _ _ (by omega)];omega
 have w:body.size=N-J:=by rw[<-Uj,an _ _ _ (by omega)]
 have p:(aO id).length=J:=l.symm;have i:(aO id).length+body.size=N:=by rw[p,w];omega
 have u:aO id++body.data.toList=(s.extract K (K+N)).data.toList:=by
  have o:(s.extract K (K+N)).data.toList.take N=(s.extract K (K+N)).data.toList:=zC (by rw[aa];omega);rw[m,<-Uj];generalize s.extract K (K+N)=R at*;rw[aj R J N,o];exact zL _ _
 refine⟨by omega,k.2.2.2,by rw[i];exact e.1,by rw[i,<-q];exact hn.symm, ?_⟩;apply aG;have r:(aO id++body.data.toList).length=N:=by rw[zo,aa];exact i
 show ey id body.data.toList=_
 unfold ey;rw[r,x,u,aj,aj,zN,<-hn];have:=zL K (s.data.toList.take (K+N));rwa [xF,yK (by omega)]at this
def jk (n:Nat):Nat->List UInt8
 |0=> []
 |k+1=>jk n k++ [ub (n/2^(8*k)%256:Nat)]
theorem bd (n k:Nat):(jk n k).length=k:=by
 induction k with
 |zero=>rfl
 |succ k ih=>simp[jk,ih]
theorem OD {n k sz:Nat}(h:k<sz):(jk n k++List.replicate (sz-k) (0:UInt8)).set k (ub (n/2^(8*k)%256:Nat))=jk n (k+1)++List.replicate (sz-(k+1)) 0:=by
 obtain⟨d,hd⟩:∃d,sz-k=d+1:=⟨sz-k-1,by omega⟩
 rw[hd,ZU,xI _ _ (by rw[bd];exact zi _),bd,ZY,ze,show sz-(k+1)=d from by omega];simp[jk]
theorem SK (n k:Nat):(n:Int)/2^(8*k)%256=((ub (n/2^(8*k)%256:Nat)).toNat:Int):=by
 rw[bh _ (by omega)];simp
theorem uE (n k:Nat):jk n (k+1)=ub (n%256:Nat)::jk (n/256) k:=by
 induction k with
 |zero=>simp[jk]
 |succ k ih=>
  rw[jk,ih,jk,ya];congr 4
  rw[Nat.div_div_eq_div_mul,show(256:Nat)=2^8 from rfl,<-Zg,show 8+8*k=8*(k+1)from by omega]
def cB (n:Nat):List UInt8:=if h:n=0 then []else cB (n/256)++ [ub (n%256:Nat)]
termination_by n
theorem dm :cB 0= []:=by rw[cB];simp
theorem gE {n:Nat}(h:n≠0):cB n=cB (n/256)++ [ub (n%256:Nat)]:=by rw[cB];simp[h]
theorem SL (k:Nat):2^(8*(k+1))=256*2^(8*k):=by rw[show 8*(k+1)=8+8*k from by omega,Zg]
theorem gd (k:Nat):∀n,n<2^(8*k)->(cB n).length<=k:=by
 induction k with
 |zero=>intro n h;simp at h;subst h;simp[dm]
 |succ k ih=>
  intro n h;by_cases b:n=0
  ·subst b;simp[dm]
  rw[gE b,zo];have:=ih (n/256) (by rw[SL]at h;exact Zi h);simp;omega
theorem LR (k:Nat):∀n,n<2^(8*k)->List.replicate (k-(cB n).length) 0++cB n=(jk n k).reverse:=by
 induction k with
 |zero=>intro n h;simp at h;subst h;simp[dm,jk]
 |succ k ih=>
  intro n h;have c:=gd (k+1) n h;have hd:n/256<2^(8*k):=by rw[SL]at h;exact Zi h
  rw[uE,List.reverse_cons,<-ih _ hd];by_cases b:n=0
  ·subst b;simp[dm,ub];rw[List.replicate_succ']
  rw[gE b,zo,yF,show k+1-((cB (n/256)).length+1)=k-(cB (n/256)).length from by omega,zI]
theorem OE (k n:Nat):n<2^(8*k)->cZ (jk n k)=n:=by
 induction k generalizing n with
 |zero=>intro h;simp at h;subst h;rfl
 |succ k ih=>
  intro h;rw[uE,cZ,ih (n/256) (by rw[SL]at h;exact Zi h),bh _ (by omega)];omega
theorem OF (l:List UInt8):jk (cZ l) l.length=l:=by
 induction l with
 |nil=>rfl
 |cons b t ih=>
  have c:=b.toNat_lt;rw[zB,uE,cZ,show(b.toNat+256*cZ t)/256=cZ t from by omega,ih];congr 1
  rw[show(b.toNat+256*cZ t)%256=b.toNat from by omega];apply zW.1;rw[bh _ c]
def qG (n:Nat):ByteArray:=⟨(jk n 4).toArray⟩
theorem jt (n:Nat):(qG n).size=4:=by rw[qG,bD,bd]
theorem OG (n:Nat):(qG n).data.toList=jk n 4:=by simp[qG]
theorem OH (s:ByteArray)(h:s.size=4):qG (cZ s.data.toList)=s:=by
 have e:=OF s.data.toList;rw[aa,h]at e;rw[qG,e,jo]
theorem Cy (n:Nat)(h:n<4294967296):cZ (qG n).data.toList=n:=by rw[OG];exact OE 4 n (by simpa using h)
theorem OI (s:ByteArray)(n:Nat)(b:s.size=4)(h:n<4294967296):s=qG n↔cZ s.data.toList=n:=by
 constructor
 ·rintro rfl;exact Cy n h
 rintro rfl;exact(OH s b).symm
theorem tG (s:ByteArray)(b:s.size=4):cZ s.data.toList<4294967296:=by
 have:=jq s.data.toList;rw[aa,b]at this;simpa using this
def mA (m:Nat)(nm body:ByteArray):ByteArray:=qG m++eS nm++qG body.size++eR body++body
theorem lr (m:Nat)(nm body:ByteArray)(h:nm.size<=12):(mA m nm body).size=24+body.size:=by
 simp only[mA,bX,jt,gV nm h,ll]
def aX (m:Nat)(most:Int)(s:ByteArray):Int×ByteArray×ByteArray×Nat:=
 if s.size<4 then(2,ByteArray.empty,ByteArray.empty,0)
 else if s.extract 0 4≠qG m then(9,ByteArray.empty,ByteArray.empty,0)
 else if s.size<16 then(2,ByteArray.empty,ByteArray.empty,0)
 else if(cW (s.extract 4 16)).1≠0 then(3,ByteArray.empty,ByteArray.empty,0)
 else if s.size<20 then(2,ByteArray.empty,ByteArray.empty,0)
 else if most<cZ (s.extract 16 20).data.toList then(5,ByteArray.empty,ByteArray.empty,0)
 else if s.size<24+cZ (s.extract 16 20).data.toList then(2,ByteArray.empty,ByteArray.empty,0)
 else if eR (s.extract 24 (24+cZ (s.extract 16 20).data.toList))≠s.extract 20 24 then(10,ByteArray.empty,ByteArray.empty,0)
 else(0,(cW (s.extract 4 16)).2,s.extract 24 (24+cZ (s.extract 16 20).data.toList),24+cZ (s.extract 16 20).data.toList)
theorem fj (m:Nat)(most:Int)(s:ByteArray):aX m most s=(
 if s.size<4 then(2,ByteArray.empty,ByteArray.empty,0)
 else if s.extract 0 4≠qG m then(9,ByteArray.empty,ByteArray.empty,0)
 else if s.size<16 then(2,ByteArray.empty,ByteArray.empty,0)
 else if(cW (s.extract 4 16)).1≠0 then(3,ByteArray.empty,ByteArray.empty,0)
 else if s.size<20 then(2,ByteArray.empty,ByteArray.empty,0)
 else if most<cZ (s.extract 16 20).data.toList then(5,ByteArray.empty,ByteArray.empty,0)
 else if s.size<24+cZ (s.extract 16 20).data.toList then(2,ByteArray.empty,ByteArray.empty,0)
 else if eR (s.extract 24 (24+cZ (s.extract 16 20).data.toList))≠s.extract 20 24 then(10,ByteArray.empty,ByteArray.empty,0)
 else(0,(cW (s.extract 4 16)).2,s.extract 24 (24+cZ (s.extract 16 20).data.toList),24+cZ (s.extract 16 20).data.toList)):=rfl
theorem pH (s a b c:ByteArray)(h:s=a++b++c)(i j:Nat)(hi:a.size=i)(d:i+b.size=j):s.extract i j=b:=by
 subst h;subst hi;subst d;apply aG;rw[aj,ba,ba,ye (by simp),zC (by simp),yO (by simp),<-aa,Ym,yD]
theorem Bq (a b c d e r:ByteArray)(i:a.size=4)(j:b.size=12)(k:c.size=4)(hd:d.size=4)(s:ByteArray)(h:s=a++b++c++d++e++r):
 s.extract 0 4=a/\s.extract 4 16=b/\s.extract 16 20=c/\s.extract 20 24=d/\s.extract 24 (24+e.size)=e/\s.size=24+e.size+r.size:=by
 refine⟨pH s ByteArray.empty a (b++c++d++e++r) ?_ _ _ rfl (by omega),pH s a b (c++d++e++r) ?_ _ _ i (by omega),pH s (a++b) c (d++e++r) ?_ _ _ (by rw[bX];omega) (by omega),
  pH s (a++b++c) d (e++r) ?_ _ _ (by rw[bX,bX];omega) (by omega),pH s (a++b++c++d) e r ?_ _ _ (by rw[bX,bX,bX];omega) rfl,by rw[h];simp only[bX];omega⟩
 all_goals(rw[h];try simp[ByteArray.append_assoc])
theorem He (m:Nat)(most:Int)(nm body more:ByteArray)(b:bY nm=true)(n:(body.size:Int)<=most)(j:body.size<4294967296):
 aX m most (mA m nm body++more)=(0,nm,body,24+body.size):=by
 have hz:=dy b;obtain⟨h,d,l,c,k,e⟩:=Bq (qG m) (eS nm) (qG body.size) (eR body) body more (jt _) (gV nm hz.2) (jt _) (ll _) (mA m nm body++more) rfl;have i:=Cy body.size j;unfold aX;rw[h,d,l,i,c,k,e,Bi nm b];rw[zj (by omega),zj (by simp),zj (by omega),zj (by simp),zj (by omega),zj (by omega),zj (by omega),zj (by simp)]
theorem uF (m:Nat)(most:Int)(s nm body:ByteArray)(n:Nat)(h:aX m most s=(0,nm,body,n)):bY nm=true/\(body.size:Int)<=most/\n=24+body.size/\n<=s.size/\body.size<4294967296/\mA m nm body=s.extract 0 n:=by
 unfold aX at h;by_cases o:s.size<4
 ·rw[zl o]at h;injection h with h;simp at h
 rw[zj o]at h;by_cases i:s.extract 0 4≠qG m
 ·rw[zl i]at h;injection h with h;simp at h
 rw[zj i]at h;by_cases p:s.size<16
 ·rw[zl p]at h;injection h with h;simp at h
 rw[zj p]at h;by_cases d:(cW (s.extract 4 16)).1≠0
 ·rw[zl d]at h;injection h with h;simp at h
 rw[zj d]at h;by_cases j:s.size<20
 ·rw[zl j]at h;injection h with h;simp at h
 rw[zj j]at h;have l:(s.extract 16 20).size=4:=an _ _ _ (by omega);have B:=tG (s.extract 16 20) l;have w:=OH (s.extract 16 20) l;generalize cZ (s.extract 16 20).data.toList=N at*;by_cases k:most<N
 ·rw[zl k]at h;injection h with h;simp at h
 rw[zj k]at h;by_cases q:s.size<24+N
 ·rw[zl q]at h;injection h with h;simp at h
 rw[zj q]at h;by_cases e:eR (s.extract 24 (24+N))≠s.extract 20 24
 ·rw[zl e]at h;injection h with h;simp at h
 rw[zj e]at h;injection h with _ h;injection h with hnm h;injection h with Uj hn;have z:cW (s.extract 4 16)=(0,nm):=by
  rw[<-hnm];have u:(cW (s.extract 4 16)).1=0:=zJ.1 d;exact Z3 u rfl
 obtain⟨x,y⟩:=LH _ _ z;have A:body.size=N:=by rw[<-Uj,an _ _ _ (by omega)];omega
 refine⟨y,by omega,by omega,by omega,by omega, ?_⟩;unfold mA;rw[x,A,w,<-Uj,zJ.1 e,<-zJ.1 i,<-hn];apply aG;simp only[ba,aj];generalize s.data.toList=L;have c:∀(a b:Nat),a<=b->L.take a++(L.take b).drop a=L.take b:=by
  intro a b r;have:=zL a (L.take b);rwa [xF,yK r]at this
 rw[zN,c 4 16 (by omega),c 16 20 (by omega),c 20 24 (by omega),c 24 (24+N) (by omega)];rfl
theorem gY (s:ByteArray)(c i j:Nat)(h:j<=c):(s.extract 0 c).extract i j=s.extract i j:=by
 apply aG;rw[aj,aj,aj,zN,xF,yK h]
theorem Hf (m:Nat)(most:Int)(s:ByteArray)(c:Nat)(l:c<=s.size):(aX m most (s.extract 0 c)).1=2\/aX m most (s.extract 0 c)=aX m most s:=by
 have hz:(s.extract 0 c).size=c:=by rw[an _ _ _ l];omega
 unfold aX;rw[hz];by_cases h:c<4
 ·rw[zl h];exact .inl rfl
 rw[zj h,zj (by omega:¬s.size<4),gY s c 0 4 (by omega)];by_cases d:s.extract 0 4≠qG m
 ·rw[zl d,zl d];exact .inr rfl
 rw[zj d,zj d];by_cases k:c<16
 ·rw[zl k];exact .inl rfl
 rw[zj k,zj (by omega:¬s.size<16),gY s c 4 16 (by omega)];by_cases b:(cW (s.extract 4 16)).1≠0
 ·rw[zl b,zl b];exact .inr rfl
 rw[zj b,zj b];by_cases i:c<20
 ·rw[zl i];exact .inl rfl
 rw[zj i,zj (by omega:¬s.size<20),gY s c 16 20 (by omega)];generalize cZ (s.extract 16 20).data.toList=N;by_cases e:most<N
 ·rw[zl e,zl e];exact .inr rfl
 rw[zj e,zj e];by_cases j:c<24+N
 ·rw[zl j];exact .inl rfl
 rw[zj j,zj (by omega:¬s.size<24+N),gY s c 24 _ (by omega),gY s c 20 24 (by omega)];exact .inr rfl
def bo (c:aS)(s:ByteArray):Int×Fr×Nat×Nat:=
 if c.fm=1 then((aX c.mg c.fr s).1,⟨0,(aX c.mg c.fr s).2.1,(aX c.mg c.fr s).2.2.1⟩,(aX c.mg c.fr s).2.2.2,0)
 else if c.fm=2 then((ai c.fr s).1,⟨(ai c.fr s).2.1,ByteArray.empty,(ai c.fr s).2.2.1⟩,(ai c.fr s).2.2.2,0)
 else((aT c.fr c.un s).1,⟨(aT c.fr c.un s).2.1,ByteArray.empty,(aT c.fr c.un s).2.2.1⟩,(aT c.fr c.un s).2.2.2.1,(aT c.fr c.un s).2.2.2.2)
def aW (c:aS)(s:ByteArray):Int×Fr×Nat×Nat:=if c.right=true then bo c s else(1,mw,0,0)
def Br (fr:Int):Int:=if fr<128 then 1 else if fr<16384 then 2 else 3
def JW (c:aS):Int:=if c.right=true then(if c.fm=1 then 24 else Br c.fr)+c.fr else 0
def iT (c:aS)(f:Fr):Bool:=if c.fm=1 then decide (f.id=0)else decide (f.nm.size=0)
def aQ (c:aS)(f:Fr):ByteArray×Int:=
 if c.fm=1 then(if bY f.nm=true then(if 65536<f.body.size then(ByteArray.empty,5)else(mA c.mg f.nm f.body,0))else(ByteArray.empty,11))
 else if c.fm=2 then(if 65536<(aO f.id).length+f.body.size then(ByteArray.empty,5)else(⟨(ey f.id f.body.data.toList).toArray⟩,0))
 else(if c.un<f.body.size then(ByteArray.empty,5)else if 65536<(aO f.id).length+(pack f.body.data.toList).length then(ByteArray.empty,5)else(⟨(ey f.id (pack f.body.data.toList)).toArray⟩,0))
def fk (c:aS)(f:Fr):ByteArray×Int:=
 if c.right=true/\iT c f=true then(if(aQ c f).2≠0 then(ByteArray.empty,(aQ c f).2)else if(bo c (aQ c f).1).1=5 then(ByteArray.empty,5)else((aQ c f).1,0))else(ByteArray.empty,1)
theorem Et (m:Nat)(most:Int)(nm body more:ByteArray)(b:bY nm=true)(n:most<(body.size:Int))(i:body.size<4294967296):(aX m most (mA m nm body++more)).1=5:=by
 have hz:=dy b;have o:=lr m nm body hz.2;obtain⟨d,c,j,k,p,l⟩:=Bq (qG m) (eS nm) (qG body.size) (eR body) body more (jt _) (gV nm hz.2) (jt _) (ll _) (mA m nm body++more) rfl;have h:=Cy body.size i;have e:(cW (eS nm)).1=0:=by rw[Bi nm b]
 unfold aX;rw[d,c,j,h,zj (by omega),zj (by simp),zj (by omega),zj (by simp[e]),zj (by omega),zl (by omega)]
theorem kN (s:ByteArray):s++ByteArray.empty=s:=aG (by rw[ba];simp)
theorem OJ {c:aS}{f:Fr}{S:ByteArray}(hid:f.id<18446744073709551616)(h:fk c f=(S,0))(more:ByteArray):(∃m,bo c (S++more)=(0,f,S.size,m))/\(S.size:Int)<=JW c:=by
 unfold fk at h;by_cases p:c.right=true/\iT c f=true;case neg=>rw[zj p]at h;injection h with _ h;cases h
 rw[zl p]at h;by_cases b:(aQ c f).2≠0
 ·rw[zl b]at h;injection h with _ h;exact absurd h b
 rw[zj b]at h;by_cases d:(bo c (aQ c f).1).1=5
 ·rw[zl d]at h;injection h with _ h;cases h
 rw[zj d]at h;injection h with h _;rw[h]at d;have b:=zJ.1 b;obtain⟨w,l⟩:=p;have D:=(c.cT).1 w;obtain⟨id,nm,body⟩:=f;unfold aQ at h b;unfold iT at l;unfold JW;rw[zl w];unfold bo at d⊢;simp only at h b l hid;by_cases o:c.fm=1
 ·rw[zl o]at h b l d⊢;rw[zl o];have y:id=0:=by simpa using l
  cases hm:bY nm with
  |false=>rw[hm]at b;simp at b
  |true=>
   rw[hm]at b h;simp only[xS]at b h;by_cases e:65536<body.size
   ·rw[zl e]at b;simp at b
   rw[zj e]at h;simp only at h;have i:(body.size:Int)<=c.fr:=by
    rcases Int.lt_or_le c.fr (body.size:Int)with aD|jP
    ·have:=Et c.mg c.fr nm body ByteArray.empty hm aD (by omega);rw[kN,h]at this;exact absurd this d
    exact jP
   have k:=He c.mg c.fr nm body more hm i (by omega);have hz:=lr c.mg nm body (dy hm).2;rw[h]at k hz;rw[k,y];exact⟨⟨0,by rw[hz]⟩,by rw[hz];omega⟩
 rw[zj o]at h b l d⊢;rw[zj o];have s:nm=ByteArray.empty:=by
  have:nm.size=0:=by simpa using l
  apply aG;exact zt (by rw[aa];exact this)
 have u:∀N:Nat,(N:Int)<=c.fr->(((aO N).length+N:Nat):Int)<=Br c.fr+c.fr:=fun N C=>by
  unfold Br;split
  ·have:=bw 1 N (by omega) (by omega);omega
  split
  ·have:=bw 2 N (by omega) (by omega);omega
  have:=bw 3 N (by omega) (by omega);omega
 by_cases r:c.fm=2
 ·rw[zl r]at h b d⊢;by_cases e:65536<(aO id).length+body.size
  ·rw[zl e]at b;simp at b
  rw[zj e]at h;simp only at h;have j:S.data.toList=ey id body.data.toList:=by rw[<-h]
  have i:(((aO id++body.data.toList).length:Nat):Int)<=c.fr:=by
   rcases Int.lt_or_le c.fr (((aO id++body.data.toList).length:Nat):Int)with aD|jP
   ·have:=uC c.fr id body.data.toList S [] (by rw[j,xx]) (by rw[zo,aa];omega);rw[zl aD]at this;have:=sq c.fr S (by rw[this]);rw[this]at d;exact absurd rfl d
   exact jP
  rw[zo,aa]at i;have k:=uz c.fr id body (S++more) more.data.toList hid (by rw[ba,j]) (by omega) (by omega);have n:S.size=(ey id body.data.toList).length:=by rw[<-aa,j]
  rw[k,s];refine⟨⟨0,by rw[n]⟩, ?_⟩;have:=u ((aO id).length+body.size) i;rw[n];unfold ey;rw[zo,zo,aa];exact this
 rw[zj r]at h b d⊢;by_cases hu:c.un<body.size
 ·rw[zl hu]at b;simp at b
 rw[zj hu]at h b;by_cases e:65536<(aO id).length+(pack body.data.toList).length
 ·rw[zl e]at b;simp at b
 rw[zj e]at h;simp only at h;have q:body.data.toList.length<=65536:=by rw[aa];omega
 have j:S.data.toList=ey id (pack body.data.toList):=by rw[<-h]
 have i:(((aO id++pack body.data.toList).length:Nat):Int)<=c.fr:=by
  rcases Int.lt_or_le c.fr (((aO id++pack body.data.toList).length:Nat):Int)with aD|jP
  ·have:=uC c.fr id (pack body.data.toList) S [] (by rw[j,xx]) (by rw[zo];omega);rw[zl aD]at this;have:=sq c.fr S (by rw[this]);have z:aT c.fr c.un S=(5,0,ByteArray.empty,0,0):=by rw[bI,this];simp
   rw[z]at d;exact absurd rfl d
  exact jP
 rw[zo]at i;have k:=uz c.fr id ⟨(pack body.data.toList).toArray⟩ (S++more) more.data.toList hid (by rw[ba,j]) (by rw[bD];omega) (by rw[bD];omega);simp only at k;have x:=Bp ⟨(pack body.data.toList).toArray⟩ body.data.toList q rfl;have B:=Es ⟨(pack body.data.toList).toArray⟩ body.data.toList q rfl c.un (by rw[aa];omega);have n:S.size=(ey id (pack body.data.toList)).length:=by rw[<-aa,j]
 have A:aT c.fr c.un (S++more)=(0,id,body,(ey id (pack body.data.toList)).length,body.size):=by
  rw[bI,k];simp only[ne_eq,xe,Zq];rw[x];simp only[xe,Zq];rw[aa,zj (by omega),B];simp only[xe,Zq,jo]
 rw[A,s];refine⟨⟨body.size,by rw[n]⟩, ?_⟩;have:=u ((aO id).length+(pack body.data.toList).length) i;rw[n];unfold ey;rw[zo,zo];exact this
theorem uG (m:Nat)(most:Int)(s:ByteArray)(h:(aX m most s).1≠0):aX m most s=((aX m most s).1,ByteArray.empty,ByteArray.empty,0):=by
 unfold aX at h⊢;by_cases i:s.size<4
 ·rw[zl i]
 rw[zj i]at h⊢;by_cases c:s.extract 0 4≠qG m
 ·rw[zl c]
 rw[zj c]at h⊢;by_cases l:s.size<16
 ·rw[zl l]
 rw[zj l]at h⊢;by_cases b:(cW (s.extract 4 16)).1≠0
 ·rw[zl b]
 rw[zj b]at h⊢;by_cases j:s.size<20
 ·rw[zl j]
 rw[zj j]at h⊢;generalize cZ (s.extract 16 20).data.toList=N at*;by_cases d:most<N
 ·rw[zl d]
 rw[zj d]at h⊢;by_cases k:s.size<24+N
 ·rw[zl k]
 rw[zj k]at h⊢;by_cases e:eR (s.extract 24 (24+N))≠s.extract 20 24
 ·rw[zl e]
 rw[zj e]at h;exact absurd rfl h
theorem OK (most:Int)(s:ByteArray)(h:(ai most s).1≠0):ai most s=((ai most s).1,0,ByteArray.empty,0):=by
 rw[eD]at h⊢;split
 ·rfl
 split
 ·rfl
 split
 ·rfl
 rename_i d c b
 rw[zj d,zj c,zj b]at h;exact absurd rfl h
theorem SM {b:Int}(N:Nat)(c:(N:Int)<=b)(d:b<=65536):(((aO N).length+N:Nat):Int)<=Br b+b:=by
 unfold Br;split
 ·have:=bw 1 N (by omega) (by omega);omega
 split
 ·have:=bw 2 N (by omega) (by omega);omega
 have:=bw 3 N (by omega) (by omega);omega
theorem sr (b d:Int)(s:ByteArray)(h:(aT b d s).1=0):(ai b s).1=0/\(aT b d s).2.1=(ai b s).2.1/\(aT b d s).2.2.2.1=(ai b s).2.2.2:=by
 rw[bI]at h⊢;by_cases c:(ai b s).1≠0
 ·rw[zl c]at h;exact absurd h c
 rw[zj c]at h⊢;split at h
 ·split at h<;>cases h
 rename_i i
 rw[zj i];split at h
 ·cases h
 rename_i e
 rw[zj e];split at h
 ·cases h
 rename_i j
 rw[zj j];exact⟨zJ.1 c,rfl,rfl⟩
theorem Hg (b c:Int)(s:ByteArray)(h:(aT b c s).1≠0):(aT b c s).2.1=0/\(aT b c s).2.2.1=ByteArray.empty/\(aT b c s).2.2.2.1=0:=by
 rw[bI]at h⊢;split
 ·exact⟨rfl,rfl,rfl⟩
 rename_i e
 rw[zj e]at h;split
 ·exact⟨rfl,rfl,rfl⟩
 rename_i i
 rw[zj i]at h;split
 ·exact⟨rfl,rfl,rfl⟩
 rename_i d
 rw[zj d]at h;split
 ·exact⟨rfl,rfl,rfl⟩
 rename_i j
 rw[zj j]at h;exact absurd rfl h
theorem uH (c:aS)(s:ByteArray)(h:(bo c s).1≠0):(bo c s).2.1=mw/\(bo c s).2.2.1=0:=by
 unfold bo at h⊢;by_cases d:c.fm=1
 ·rw[zl d]at h⊢;have h:(aX c.mg c.fr s).1≠0:=h;rw[uG c.mg c.fr s h];exact⟨rfl,rfl⟩
 rw[zj d]at h⊢;by_cases b:c.fm=2
 ·rw[zl b]at h⊢;have h:(ai c.fr s).1≠0:=h;rw[OK c.fr s h];exact⟨rfl,rfl⟩
 rw[zj b]at h⊢;obtain⟨e,i,j⟩:=Hg c.fr c.un s h;exact⟨by rw[e,i];rfl,j⟩
theorem LS {c:aS}{s:ByteArray}(i:c.right=true)(h:(bo c s).1=0):((bo c s).2.2.1:Int)<=JW c/\(bo c s).2.2.1<=s.size/\(bo c s).2.1.id<18446744073709551616:=by
 have p:=(c.cT).1 i;unfold JW;rw[zl i];unfold bo at h⊢;have j:(ai c.fr s).1=0->((ai c.fr s).2.2.2:Int)<=Br c.fr+c.fr/\(ai c.fr s).2.2.2<=s.size/\(ai c.fr s).2.1<18446744073709551616:=fun h=>by
  obtain⟨b,d,k,e,_⟩:=uD c.fr s (ai c.fr s).2.1 (ai c.fr s).2.2.1 (ai c.fr s).2.2.2 (Z3 h rfl);exact⟨by rw[e];exact SM _ k (by omega),b,d⟩
 by_cases b:c.fm=1
 ·rw[zl b]at h⊢;rw[zl b];obtain⟨_,k,e,o,_⟩:=uF c.mg c.fr s (aX c.mg c.fr s).2.1 (aX c.mg c.fr s).2.2.1 (aX c.mg c.fr s).2.2.2 (Z3 h rfl);exact⟨by simp only;omega,o,by simp⟩
 rw[zj b]at h⊢;rw[zj b];by_cases d:c.fm=2
 ·rw[zl d]at h⊢;exact j h
 rw[zj d]at h⊢;obtain⟨l,m,n⟩:=sr c.fr c.un s h;have:=j l;simp only;rw[m,n];exact this
theorem OL (c:aS)(s:ByteArray)(k:Nat)(e:k<=s.size):(bo c (s.extract 0 k)).1=2\/bo c (s.extract 0 k)=bo c s:=by
 unfold bo;by_cases d:c.fm=1
 ·rw[zl d,zl d];rcases Hf c.mg c.fr s k e with h|h
  ·exact .inl h
  right;rw[h]
 rw[zj d,zj d];by_cases b:c.fm=2
 ·rw[zl b,zl b];rcases uA c.fr s k e with h|h
  ·right;rw[h]
  left;rw[h]
 rw[zj b,zj b];rcases Hd c.fr c.un s k e with h|⟨_,h⟩
 ·left;rw[h]
 right;rw[h]
theorem Cz (s t:ByteArray):(s++t).extract 0 s.size=s:=by
 apply aG;rw[aj,ba,zN,ye (by rw[aa];exact zi _),cM]
theorem OM (c:aS)(s t:ByteArray)(h:(bo c s).1≠2):bo c (s++t)=bo c s:=by
 have:=OL c (s++t) s.size (by rw[bX];omega);rw[Cz]at this;rcases this with h1|h1
 ·exact absurd h1 h
 exact h1.symm
theorem SN {c:aS}{s:ByteArray}(h:(bo c s).1=2):bo c s=(2,mw,0,0):=by
 unfold bo at h⊢;by_cases d:c.fm=1
 ·rw[zl d]at h⊢;have h:(aX c.mg c.fr s).1=2:=h;have:=uG c.mg c.fr s (by rw[h];decide);rw[this,h];rfl
 rw[zj d]at h⊢;by_cases b:c.fm=2
 ·rw[zl b]at h⊢;have h:(ai c.fr s).1=2:=h;have:=OK c.fr s (by rw[h];decide);rw[this,h];rfl
 rw[zj b]at h⊢;have h:(aT c.fr c.un s).1=2:=h;rw[pF c.fr c.un s h];rfl
theorem ON {c:aS}{s:ByteArray}(h:(bo c s).1=0):0<(bo c s).2.2.1:=by
 have d:(ai c.fr s).1=0->0<(ai c.fr s).2.2.2:=fun h=>by
  obtain⟨_,_,_,i,_⟩:=uD c.fr s (ai c.fr s).2.1 (ai c.fr s).2.2.1 (ai c.fr s).2.2.2 (Z3 h rfl);have:=Eo ((aO (ai c.fr s).2.1).length+(ai c.fr s).2.2.1.size);omega
 unfold bo at h⊢;by_cases e:c.fm=1
 ·rw[zl e]at h⊢;obtain⟨_,_,i,_⟩:=uF c.mg c.fr s (aX c.mg c.fr s).2.1 (aX c.mg c.fr s).2.2.1 (aX c.mg c.fr s).2.2.2 (Z3 h rfl);simp only;omega
 rw[zj e]at h⊢;by_cases b:c.fm=2
 ·rw[zl b]at h⊢;exact d h
 rw[zj b]at h⊢;obtain⟨j,_,k⟩:=sr c.fr c.un s h;simp only;rw[k];exact d j
theorem bN {c:aS}(b:c.right=true)(s:ByteArray):aW c s=bo c s:=by unfold aW;rw[zl b]
theorem uI (c:aS):mq (aW c):=by
 cases hr:c.right with
 |false=>
  have e:∀s,aW c s=(1,mw,0,0):=fun s=>by unfold aW;rw[hr];rfl
  exact⟨(fun s h=>by rw[e]at h;cases h),(fun s t _=>by rw[e,e]),(fun s h=>by rw[e])⟩
 |true=>
  refine⟨fun s h=> ?_,fun s t h=> ?_,fun s h=> ?_⟩
  ·rw[bN hr]at h⊢;exact⟨ON h,(LS hr h).2.1⟩
  ·rw[bN hr]at h;rw[bN hr,bN hr];exact OM c s t h
  rw[bN hr]at h⊢;rw[SN h]
theorem Hi {c:aS}(i:c.right=true):(aW c ByteArray.empty).1=2:=by
 rw[bN i];have h:ay ByteArray.empty=(0,0,2):=ji _ _ _ _ (by simp);have e:ai c.fr ByteArray.empty=(2,0,ByteArray.empty,0):=by
  rw[eD];have:au c.fr ByteArray.empty=(0,0,2):=by unfold au;rw[h];rfl
  rw[this];rfl
 unfold bo;by_cases d:c.fm=1
 ·rw[zl d];unfold aX;rfl
 rw[zj d];by_cases b:c.fm=2
 ·rw[zl b,e]
 rw[zj b,bI,e];rfl
def gF (c:aS)(s:ByteArray):Nat:=
 if c.fm=1 then(if s.size<24 then 0 else 24+cZ (s.extract 16 20).data.toList)
 else if(au c.fr s).2.2≠0 then 0 else(au c.fr s).2.1+(au c.fr s).1
theorem CA (s t:ByteArray)(i j:Nat)(h:j<=s.size):(s++t).extract i j=s.extract i j:=by
 have:=gY (s++t) s.size i j h;rw[Cz]at this;exact this.symm
theorem Eu (m:Nat)(most:Int)(s t:ByteArray)(h:(aX m most s).1=2)(i:24<=s.size)(e:(s++t).size<24+cZ (s.extract 16 20).data.toList):(aX m most (s++t)).1=2:=by
 have hz:=bX s t;unfold aX at h⊢;rw[CA s t 0 4 (by omega),CA s t 4 16 (by omega),CA s t 16 20 (by omega)];rw[zj (by omega)]at h⊢;by_cases c:s.extract 0 4≠qG m
 ·rw[zl c]at h;cases h
 rw[zj c]at h⊢;rw[zj (by omega)]at h⊢;by_cases b:(cW (s.extract 4 16)).1≠0
 ·rw[zl b]at h;cases h
 rw[zj b]at h⊢;rw[zj (by omega)]at h⊢;generalize cZ (s.extract 16 20).data.toList=N at*;by_cases d:most<N
 ·rw[zl d]at h;cases h
 rw[zj d,zl e]
theorem Hj (most:Int)(s t:ByteArray)(h:(au most s).2.2=0):au most (s++t)=au most s:=by
 have b:=sn (s++t) s.size (by rw[bX];omega);rw[Cz]at b;rcases b with b|b
 ·unfold au;rw[b]
 unfold au at h;rw[b]at h;cases h
theorem Ev (most:Int)(s t:ByteArray)(b:(au most s).2.2=0)(c:(s++t).size<(au most s).2.1+(au most s).1):(ai most (s++t)).1=2:=by
 rw[eD,Hj most s t b,zj (by rw[b];simp),zl c]
theorem Ew (c:aS)(s t:ByteArray)(h:(bo c s).1=2)(b:(s++t).size<gF c s):(bo c (s++t)).1=2:=by
 unfold gF at b;by_cases d:c.fm=1
 ·rw[zl d]at b;unfold bo at h⊢;rw[zl d]at h⊢;by_cases j:s.size<24
  ·rw[zl j]at b;omega
  rw[zj j]at b;exact Eu c.mg c.fr s t h (by omega) b
 rw[zj d]at b;by_cases e:(au c.fr s).2.2≠0
 ·rw[zl e]at b;omega
 rw[zj e]at b;have:=Ev c.fr s t (zJ.1 e) b;unfold bo;rw[zj d];by_cases i:c.fm=2
 ·rw[zl i];exact this
 rw[zj i,bI,zl (by rw[this];decide)];exact this
