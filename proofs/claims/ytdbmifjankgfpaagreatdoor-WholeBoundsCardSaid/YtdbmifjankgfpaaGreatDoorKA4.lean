/- Plain frames, and packed ones: plain functions and laws. No program in sight. -/
import Derived.Test.YtdbmifjankgfpaaGreatDoorKA3
set_option linter.all false
namespace Go.Proofs.YtdbmifjankgfpaaGreatDoor
variable {s:ByteArray}{n k:Nat}{v:Value}
def zd:=@List.set_cons_zero
def zC:=@Decidable.not_not
def yL:=@List.length_singleton
def xz:=@List.set_append_right
def ZC:=@List.take_left'
def au (most:Int)(s:ByteArray):Nat×Nat×Int:=
 if(ay s).2.2=0 then(if most<(ay s).1 then(0,0,5)else((ay s).1,(ay s).2.1,0))else(0,0,(ay s).2.2)
def aj (most:Int)(s:ByteArray):Int×Nat×ByteArray×Nat:=
 if(au most s).2.2≠0 then((au most s).2.2,0,ByteArray.empty,0)
 else if s.size<(au most s).2.1+(au most s).1 then(2,0,ByteArray.empty,0)
 else if(ay (s.extract (au most s).2.1 ((au most s).2.1+(au most s).1))).2.2≠0 then(3,0,ByteArray.empty,0)
 else(0,(ay (s.extract (au most s).2.1 ((au most s).2.1+(au most s).1))).1,
  (s.extract (au most s).2.1 ((au most s).2.1+(au most s).1)).extract (ay (s.extract (au most s).2.1 ((au most s).2.1+(au most s).1))).2.1 (au most s).1,
  (au most s).2.1+(au most s).1)
theorem dV (most:Int)(s:ByteArray):aj most s=(
 if(au most s).2.2≠0 then((au most s).2.2,0,ByteArray.empty,0)
 else if s.size<(au most s).2.1+(au most s).1 then(2,0,ByteArray.empty,0)
 else if(ay (s.extract (au most s).2.1 ((au most s).2.1+(au most s).1))).2.2≠0 then(3,0,ByteArray.empty,0)
 else(0,(ay (s.extract (au most s).2.1 ((au most s).2.1+(au most s).1))).1,
  (s.extract (au most s).2.1 ((au most s).2.1+(au most s).1)).extract (ay (s.extract (au most s).2.1 ((au most s).2.1+(au most s).1))).2.1 (au most s).1,
  (au most s).2.1+(au most s).1)):=rfl
def eF (id:Nat)(body:List UInt8):List UInt8:=aR (aR id++body).length++(aR id++body)
theorem k7 (most:Int)(s:ByteArray)(h:(au most s).2.2=0):((au most s).1:Int)<=most/\(au most s).2.1<=s.size/\0<(au most s).2.1/\(au most s).2.1<=10:=by
 unfold au at h⊢;by_cases b:(ay s).2.2=0
 ·rw[zi b]at h⊢;have d:=il s b;by_cases c:most<(ay s).1
  ·rw[zi c]at h;simp at h
  rw[zh c];simp only;omega
 rw[zh b]at h;exact absurd h b
theorem uZ (most:Int)(id:Nat)(body:ByteArray)(s:ByteArray)(rest:List UInt8)(hid:id<18446744073709551616)(b:s.data.toList=eF id body.data.toList++rest)(p:((aR id).length+body.size:Int)<=most)(q:body.size<=1000000):
 aj most s=(0,id,body,(eF id body.data.toList).length):=by
 unfold eF at b⊢;have o:=bA 10 id (by omega) (by omega);have m:(aR id++body.data.toList).length=(aR id).length+body.size:=by rw[zl,aa]
 have j:=kq (aR id++body.data.toList).length s ((aR id++body.data.toList)++rest) (by rw[b,zE]) (by omega);have h:au most s=((aR id++body.data.toList).length,(aR (aR id++body.data.toList).length).length,0):=by
  unfold au;rw[j];simp only[xJ];rw[zh (by rw[m];omega)]
 have n:s.size=(aR (aR id++body.data.toList).length).length+(aR id++body.data.toList).length+rest.length:=by
  rw[<-aa,b];simp only[zl]
 generalize c:(aR (aR id++body.data.toList).length).length=K at*;generalize l:(aR id++body.data.toList).length=N at*;have d:(s.extract K (K+N)).data.toList=aR id++body.data.toList:=by
  rw[ar,b,zE,List.take_append,List.drop_append,c];have e:(List.take (K+N) (aR N)).length=K:=by rw[zV,c];omega
  rw[zH (by rw[e];exact zg _),e,ZK,zL,yy,show K+N-K=N from by omega,zZ (by omega),zz (by omega)]
 have k:=kq id (s.extract K (K+N)) body.data.toList d hid;have i:(s.extract K (K+N)).extract (aR id).length N=body:=by
  apply aM;rw[ar,d,zz (by omega),yK (zg _),Z5,yy]
 unfold aj;rw[h];simp only[ne_eq,yY,xL];rw[zh (by omega),k];simp only[yY,xL];rw[i,zl,c,l]
def aQ (most ja:Int)(s:ByteArray):Int×Nat×ByteArray×Nat×Nat:=
 if(aj most s).1≠0 then((aj most s).1,0,ByteArray.empty,0,0)
 else if(aB (aj most s).2.2.1).2.2≠0 then((if(aB (aj most s).2.2.1).2.2=5 then 5 else 3),0,ByteArray.empty,0,0)
 else if ja<(aB (aj most s).2.2.1).1 then(5,0,ByteArray.empty,0,0)
 else if(aY (aj most s).2.2.1 ja).1≠0 then(3,0,ByteArray.empty,0,(aB (aj most s).2.2.1).1)
 else(0,(aj most s).2.1,⟨(aY (aj most s).2.2.1 ja).2.toArray⟩,(aj most s).2.2.2,(aB (aj most s).2.2.1).1)
theorem bC (most b:Int)(s:ByteArray):aQ most b s=(
 if(aj most s).1≠0 then((aj most s).1,0,ByteArray.empty,0,0)
 else if(aB (aj most s).2.2.1).2.2≠0 then((if(aB (aj most s).2.2.1).2.2=5 then 5 else 3),0,ByteArray.empty,0,0)
 else if b<(aB (aj most s).2.2.1).1 then(5,0,ByteArray.empty,0,0)
 else if(aY (aj most s).2.2.1 b).1≠0 then(3,0,ByteArray.empty,0,(aB (aj most s).2.2.1).1)
 else(0,(aj most s).2.1,⟨(aY (aj most s).2.2.1 b).2.toArray⟩,(aj most s).2.2.2,(aB (aj most s).2.2.1).1)):=rfl
theorem Mi (s:ByteArray)(c:Nat)(j:c<=s.size)(f:Nat):∀i n,cq (s.extract 0 c) f i n=cq s f i n\/cq (s.extract 0 c) f i n=(0,0,2):=by
 have hz:(s.extract 0 c).size=c:=by rw[an _ _ _ j];omega
 induction f with
 |zero=>intro i n;exact .inl rfl
 |succ f ih=>
  intro i n;by_cases hi:i<c
  ·have d:i<(s.extract 0 c).size:=by omega
   have h:i<s.size:=by omega
   have e:(s.extract 0 c)[i]=s[i]:=by
    have b:=gR (s.extract 0 c) i d;rw[ar,zL,yO hi,gR s i h]at b;injection b with b;exact b.symm
   rw[cq,cq,ZU d,ZU h,e];split
   ·exact .inl rfl
   split
   ·exact .inl rfl
   exact ih _ _
  exact .inr (jD _ _ _ _ (by omega))
theorem sS (s:ByteArray)(c:Nat)(b:c<=s.size):ay (s.extract 0 c)=ay s\/ay (s.extract 0 c)=(0,0,2):=Mi s c b 10 0 0
theorem u9 (most:Int)(s:ByteArray)(c:Nat)(j:c<=s.size):aj most (s.extract 0 c)=aj most s\/aj most (s.extract 0 c)=(2,0,ByteArray.empty,0):=by
 have hz:(s.extract 0 c).size=c:=by rw[an _ _ _ j];omega
 rcases sS s c j with h|h
 ·have d:au most (s.extract 0 c)=au most s:=by unfold au;rw[h]
  rw[dV most (s.extract 0 c),dV most s,d,hz];by_cases b:(au most s).2.2≠0
  ·rw[zi b,zi b];exact .inl rfl
  rw[zh b,zh b];by_cases i:c<(au most s).2.1+(au most s).1
  ·rw[zi i];exact .inr rfl
  have k:¬s.size<(au most s).2.1+(au most s).1:=by omega
  rw[zh i,zh k];have e:(s.extract 0 c).extract (au most s).2.1 ((au most s).2.1+(au most s).1)=s.extract (au most s).2.1 ((au most s).2.1+(au most s).1):=by
   apply aM;rw[ar,ar,ar,zL,xu,yF (by omega)]
  rw[e];exact .inl rfl
 have d:au most (s.extract 0 c)=(0,0,2):=by unfold au;rw[h];rfl
 rw[dV most (s.extract 0 c),d];exact .inr rfl
theorem pZ (most c:Int)(s:ByteArray)(h:(aQ most c s).1=2):aQ most c s=(2,0,ByteArray.empty,0,0):=by
 rw[bC]at h⊢;by_cases b:(aj most s).1≠0
 ·rw[zi b]at h⊢;simp only at h⊢;rw[h]
 rw[zh b]at h⊢;split at h
 ·simp only at h;split at h<;>omega
 split at h
 ·simp at h
 split at h<;>simp at h
theorem Hv (most b:Int)(s:ByteArray)(c:Nat)(i:c<=s.size):aQ most b (s.extract 0 c)=(2,0,ByteArray.empty,0,0)\/((aQ most b s).1≠2/\aQ most b (s.extract 0 c)=aQ most b s):=by
 rcases u9 most s c i with h|h
 ·have e:aQ most b (s.extract 0 c)=aQ most b s:=by rw[bC,bC most b s,h]
  by_cases d:(aQ most b s).1=2
  ·left;rw[e];exact pZ most b s d
  exact .inr ⟨d,e⟩
 left;rw[bC,h];rfl
theorem u' (s:ByteArray):∀(f i n m k:Nat),cq s f i n=(m,k,0)->∃r,m=n+r*2^(7*i)/\(0<i->0<r)/\i<k/\k<=s.size/\aR r=(s.data.toList.take k).drop i
 |0,i,n,m,k,h=>by simp[cq]at h
 |f+1,i,n,m,k,h=>by
  by_cases hi:i<s.size
  ·by_cases d:(i=9/\1<s[i].toNat)\/(0<i/\s[i].toNat=0)
   ·rw[kW s f i n hi d]at h;simp at h
   have q:s.data.toList[i]?=some s[i]:=by
    rw[zB (by rw[aa];exact hi)];rfl
   by_cases c:s[i].toNat<128
   ·rw[ij s f i n hi d c]at h;injection h with h1 b;injection b with b _;refine⟨s[i].toNat,by rw[<-h1,Nat.mod_eq_of_lt c],fun y=>by omega,by omega,by omega, ?_⟩;rw[iq c,<-b];have hu:ub (s[i].toNat:Nat)=s[i]:=by apply zS.1;rw[bo _ (by omega)]
    rw[hu,List.take_add_one,q,Option.toList_some,yK (by rw[zV,aa];omega),zH (by rw[zV];omega),yy]
   rw[ik s f i n hi d c]at h;obtain⟨r,e,j,x,p,l⟩:=u' s f (i+1) _ m k h;have A:=j (by omega);have z:=s[i].toNat_lt;have b:2^(7*(i+1))=128*2^(7*i):=by rw[show 7*(i+1)=7+7*i from by omega,xV]
   refine⟨s[i].toNat%128+r*128,by rw[e,b,Nat.add_mul,Nat.mul_assoc,yh],fun _=>by omega,by omega,p, ?_⟩;have u:(s[i].toNat%128+r*128)%128=s[i].toNat%128:=by omega
   have w:(s[i].toNat%128+r*128)/128=r:=by omega
   rw[jE (by omega),u,w,l];have hu:ub (s[i].toNat%128+128:Nat)=s[i]:=by apply zS.1;rw[bo _ (by omega)];omega
   rw[hu];have o:i<(s.data.toList.take k).length:=by rw[zV,aa];omega
   rw[xC o];rw[List.getElem_take];rfl
  rw[jD s (f+1) i n hi]at h;simp at h
theorem lN (s:ByteArray)(h:(ay s).2.2=0):aR (ay s).1=s.data.toList.take (ay s).2.1/\(ay s).2.1=(aR (ay s).1).length:=by
 obtain⟨r,b,_,_,e,d⟩:=u' s 10 0 0 (ay s).1 (ay s).2.1 (by rw[<-h];rfl);have c:(ay s).1=r:=by simpa using b
 rw[c,d,zL];exact⟨rfl,by rw[zV,aa];omega⟩
theorem sT (s:ByteArray):∀(f i n:Nat),i+f=10->(cq s f i n).2.2=2->f=0\/s.size<10
 |0,i,n,_,_=> .inl rfl
 |f+1,i,n,hif,h=>by
  right;by_cases hi:i<s.size
  ·by_cases b:(i=9/\1<s[i].toNat)\/(0<i/\s[i].toNat=0)
   ·rw[kW s f i n hi b]at h;simp at h
   by_cases c:s[i].toNat<128
   ·rw[ij s f i n hi b c]at h;simp at h
   rw[ik s f i n hi b c]at h;rcases sT s f (i+1) _ (by omega) h with h1|h1
   ·omega
   exact h1
  omega
theorem AF (s:ByteArray)(h:(ay s).2.2=2):s.size<10:=by
 rcases sT s 10 0 0 rfl h with h1|h1
 ·omega
 exact h1
theorem va (most:Int)(id:Nat)(body:List UInt8)(s:ByteArray)(rest:List UInt8)(b:s.data.toList=eF id body++rest)(c:(aR id++body).length<18446744073709551616):
 au most s=if most<(aR id++body).length then(0,0,5)else((aR id++body).length,(aR (aR id++body).length).length,0):=by
 have d:=kq (aR id++body).length s ((aR id++body)++rest) (by rw[b];unfold eF;rw[zE]) c;unfold au;rw[d];simp only[xJ]
theorem sU (most:Int)(s:ByteArray)(h:(au most s).2.2=5):aj most s=(5,0,ByteArray.empty,0):=by
 unfold aj;rw[zi (by rw[h];decide),h]
theorem vc (most:Int)(s:ByteArray)(id:Nat)(body:ByteArray)(n:Nat)(h:aj most s=(0,id,body,n)):
 n<=s.size/\id<18446744073709551616/\(((aR id).length+body.size:Nat):Int)<=most/\n=(aR ((aR id).length+body.size)).length+((aR id).length+body.size)/\(⟨(eF id body.data.toList).toArray⟩:ByteArray)=s.extract 0 n:=by
 unfold aj at h;by_cases b:(au most s).2.2≠0
 ·rw[zi b]at h;injection h with h;exact absurd h b
 rw[zh b]at h;have b:=zC.1 b;have i:=k7 most s b;have j:au most s=((ay s).1,(ay s).2.1,0)/\(ay s).2.2=0:=by
  unfold au at b⊢;by_cases d:(ay s).2.2=0
  ·rw[zi d]at b⊢;by_cases c:most<(ay s).1
   ·rw[zi c]at b;simp at b
   rw[zh c];exact⟨rfl,d⟩
  rw[zh d]at b;exact absurd b d
 obtain⟨r,q⟩:=lN s j.2;rw[j.1]at h i;generalize (ay s).1=N at*;generalize (ay s).2.1=K at*;try simp only at h i
 by_cases d:s.size<K+N
 ·rw[zi d]at h;injection h with h;simp at h
 rw[zh d]at h;by_cases c:(ay (s.extract K (K+N))).2.2≠0
 ·rw[zi c]at h;injection h with h;simp at h
 rw[zh c]at h;have c:=zC.1 c;obtain⟨m,k⟩:=lN _ c;have l:=il _ c;injection h with _ h;injection h with hid h;injection h with UT hn;rw[hid]at m k l;generalize (ay (s.extract K (K+N))).2.1=J at*;have y:(s.extract K (K+N)).size=N:=by rw[an _ _ _ (by omega)];omega
 have u:body.size=N-J:=by rw[<-UT,an _ _ _ (by omega)]
 have w:(aR id).length=J:=k.symm;have e:(aR id).length+body.size=N:=by rw[w,u];omega
 have o:aR id++body.data.toList=(s.extract K (K+N)).data.toList:=by
  have x:(s.extract K (K+N)).data.toList.take N=(s.extract K (K+N)).data.toList:=zz (by rw[aa];omega);rw[m,<-UT];generalize s.extract K (K+N)=R at*;rw[ar R J N,x];exact zI _ _
 refine⟨by omega,l.2.2.2,by rw[e];exact i.1,by rw[e,<-q];exact hn.symm, ?_⟩;apply aM;have p:(aR id++body.data.toList).length=N:=by rw[zl,aa];exact e
 show eF id body.data.toList=_
 unfold eF;rw[p,r,o,ar,ar,zL,<-hn];have:=zI K (s.data.toList.take (K+N));rwa [xu,yF (by omega)]at this
def jF (n:Nat):Nat->List UInt8
 |0=> []
 |k+1=>jF n k++ [ub (n/2^(8*k)%256:Nat)]
theorem bd (n k:Nat):(jF n k).length=k:=by
 induction k with
 |zero=>rfl
 |succ k ih=>simp[jF,ih]
theorem Pa {sz:Nat}(h:k<sz):(jF n k++List.replicate (sz-k) (0:UInt8)).set k (ub (n/2^(8*k)%256:Nat))=jF n (k+1)++List.replicate (sz-(k+1)) 0:=by
 obtain⟨d,hd⟩:∃d,sz-k=d+1:=⟨sz-k-1,by omega⟩
 rw[hd,ZG,xz _ _ (by rw[bd];exact zg _),bd,ZK,zd,show sz-(k+1)=d from by omega];simp[jF]
theorem Ts (n k:Nat):(n:Int)/2^(8*k)%256=((ub (n/2^(8*k)%256:Nat)).toNat:Int):=by
 rw[bo _ (by omega)];simp
theorem vd (n k:Nat):jF n (k+1)=ub (n%256:Nat)::jF (n/256) k:=by
 induction k with
 |zero=>simp[jF]
 |succ k ih=>
  rw[jF,ih,jF,ya];congr 4
  rw[Nat.div_div_eq_div_mul,show(256:Nat)=2^8 from rfl,<-xV,show 8+8*k=8*(k+1)from by omega]
def cJ (n:Nat):List UInt8:=if h:n=0 then []else cJ (n/256)++ [ub (n%256:Nat)]
termination_by n
theorem dy :cJ 0= []:=by rw[cJ];simp
theorem gV (h:n≠0):cJ n=cJ (n/256)++ [ub (n%256:Nat)]:=by rw[cJ];simp[h]
theorem Tt (k:Nat):2^(8*(k+1))=256*2^(8*k):=by rw[show 8*(k+1)=8+8*k from by omega,xV]
theorem iU (k:Nat):∀n,n<2^(8*k)->(cJ n).length<=k:=by
 induction k with
 |zero=>intro n h;simp at h;subst h;simp[dy]
 |succ k ih=>
  intro n h;by_cases b:n=0
  ·subst b;simp[dy]
  rw[gV b,zl];have:=ih (n/256) (by rw[Tt]at h;exact xX h);simp;omega
theorem Mj (k:Nat):∀n,n<2^(8*k)->List.replicate (k-(cJ n).length) 0++cJ n=(jF n k).reverse:=by
 induction k with
 |zero=>intro n h;simp at h;subst h;simp[dy,jF]
 |succ k ih=>
  intro n h;have c:=iU (k+1) n h;have hd:n/256<2^(8*k):=by rw[Tt]at h;exact xX h
  rw[vd,List.reverse_cons,<-ih _ hd];by_cases b:n=0
  ·subst b;simp[dy,ub];rw[List.replicate_succ']
  rw[gV b,zl,yL,show k+1-((cJ (n/256)).length+1)=k-(cJ (n/256)).length from by omega,zE]
theorem Pb (k n:Nat):n<2^(8*k)->dh (jF n k)=n:=by
 induction k generalizing n with
 |zero=>intro h;simp at h;subst h;rfl
 |succ k ih=>
  intro h;rw[vd,dh,ih (n/256) (by rw[Tt]at h;exact xX h),bo _ (by omega)];omega
theorem Pc (l:List UInt8):jF (dh l) l.length=l:=by
 induction l with
 |nil=>rfl
 |cons b t ih=>
  have c:=b.toNat_lt;rw[zx,vd,dh,show(b.toNat+256*dh t)/256=dh t from by omega,ih];congr 1
  rw[show(b.toNat+256*dh t)%256=b.toNat from by omega];apply zS.1;rw[bo _ c]
def qa (n:Nat):ByteArray:=⟨(jF n 4).toArray⟩
theorem jN (n:Nat):(qa n).size=4:=by rw[qa,bP,bd]
theorem Pd (n:Nat):(qa n).data.toList=jF n 4:=by simp[qa]
theorem Pe (s:ByteArray)(h:s.size=4):qa (dh s.data.toList)=s:=by
 have e:=Pc s.data.toList;rw[aa,h]at e;rw[qa,e,iP]
theorem CM (n:Nat)(h:n<4294967296):dh (qa n).data.toList=n:=by rw[Pd];exact Pb 4 n (by simpa using h)
theorem Pf (s:ByteArray)(n:Nat)(b:s.size=4)(h:n<4294967296):s=qa n↔dh s.data.toList=n:=by
 constructor
 ·rintro rfl;exact CM n h
 rintro rfl;exact(Pe s b).symm
theorem qb (s:ByteArray)(b:s.size=4):dh s.data.toList<4294967296:=by
 have:=jK s.data.toList;rw[aa,b]at this;simpa using this
def nf (m:Nat)(nm body:ByteArray):ByteArray:=qa m++fc nm++qa body.size++eT body++body
theorem lO (m:Nat)(nm body:ByteArray)(h:nm.size<=12):(nf m nm body).size=24+body.size:=by
 simp only[nf,bK,jN,im nm h,lJ]
def aW (m:Nat)(most:Int)(s:ByteArray):Int×ByteArray×ByteArray×Nat:=
 if s.size<4 then(2,ByteArray.empty,ByteArray.empty,0)
 else if s.extract 0 4≠qa m then(9,ByteArray.empty,ByteArray.empty,0)
 else if s.size<16 then(2,ByteArray.empty,ByteArray.empty,0)
 else if(da (s.extract 4 16)).1≠0 then(3,ByteArray.empty,ByteArray.empty,0)
 else if s.size<20 then(2,ByteArray.empty,ByteArray.empty,0)
 else if most<dh (s.extract 16 20).data.toList then(5,ByteArray.empty,ByteArray.empty,0)
 else if s.size<24+dh (s.extract 16 20).data.toList then(2,ByteArray.empty,ByteArray.empty,0)
 else if eT (s.extract 24 (24+dh (s.extract 16 20).data.toList))≠s.extract 20 24 then(10,ByteArray.empty,ByteArray.empty,0)
 else(0,(da (s.extract 4 16)).2,s.extract 24 (24+dh (s.extract 16 20).data.toList),24+dh (s.extract 16 20).data.toList)
theorem fD (m:Nat)(most:Int)(s:ByteArray):aW m most s=(
 if s.size<4 then(2,ByteArray.empty,ByteArray.empty,0)
 else if s.extract 0 4≠qa m then(9,ByteArray.empty,ByteArray.empty,0)
 else if s.size<16 then(2,ByteArray.empty,ByteArray.empty,0)
 else if(da (s.extract 4 16)).1≠0 then(3,ByteArray.empty,ByteArray.empty,0)
 else if s.size<20 then(2,ByteArray.empty,ByteArray.empty,0)
 else if most<dh (s.extract 16 20).data.toList then(5,ByteArray.empty,ByteArray.empty,0)
 else if s.size<24+dh (s.extract 16 20).data.toList then(2,ByteArray.empty,ByteArray.empty,0)
 else if eT (s.extract 24 (24+dh (s.extract 16 20).data.toList))≠s.extract 20 24 then(10,ByteArray.empty,ByteArray.empty,0)
 else(0,(da (s.extract 4 16)).2,s.extract 24 (24+dh (s.extract 16 20).data.toList),24+dh (s.extract 16 20).data.toList)):=rfl
theorem qc (s a b c:ByteArray)(h:s=a++b++c)(i j:Nat)(hi:a.size=i)(d:i+b.size=j):s.extract i j=b:=by
 subst h;subst hi;subst d;apply aM;rw[ar,bc,bc,zZ (by simp),zz (by simp),yK (by simp),<-aa,Z5,yy]
theorem BT (a b c d e r:ByteArray)(i:a.size=4)(j:b.size=12)(k:c.size=4)(hd:d.size=4)(s:ByteArray)(h:s=a++b++c++d++e++r):
 s.extract 0 4=a/\s.extract 4 16=b/\s.extract 16 20=c/\s.extract 20 24=d/\s.extract 24 (24+e.size)=e/\s.size=24+e.size+r.size:=by
 refine⟨qc s ByteArray.empty a (b++c++d++e++r) ?_ _ _ rfl (by omega),qc s a b (c++d++e++r) ?_ _ _ i (by omega),qc s (a++b) c (d++e++r) ?_ _ _ (by rw[bK];omega) (by omega),
  qc s (a++b++c) d (e++r) ?_ _ _ (by rw[bK,bK];omega) (by omega),qc s (a++b++c++d) e r ?_ _ _ (by rw[bK,bK,bK];omega) rfl,by rw[h];simp only[bK];omega⟩
 all_goals(rw[h];try simp[ByteArray.append_assoc])
theorem Hw (m:Nat)(most:Int)(nm body more:ByteArray)(b:cd nm=true)(n:(body.size:Int)<=most)(l:body.size<4294967296):
 aW m most (nf m nm body++more)=(0,nm,body,24+body.size):=by
 have hz:=dE b;obtain⟨i,j,k,c,h,e⟩:=BT (qa m) (fc nm) (qa body.size) (eT body) body more (jN _) (im nm hz.2) (jN _) (lJ _) (nf m nm body++more) rfl;have d:=CM body.size l;unfold aW;rw[i,j,k,d,c,h,e,BG nm b];rw[zh (by omega),zh (by simp),zh (by omega),zh (by simp),zh (by omega),zh (by omega),zh (by omega),zh (by simp)]
theorem ve (m:Nat)(most:Int)(s nm body:ByteArray)(n:Nat)(h:aW m most s=(0,nm,body,n)):cd nm=true/\(body.size:Int)<=most/\n=24+body.size/\n<=s.size/\body.size<4294967296/\nf m nm body=s.extract 0 n:=by
 unfold aW at h;by_cases p:s.size<4
 ·rw[zi p]at h;injection h with h;simp at h
 rw[zh p]at h;by_cases i:s.extract 0 4≠qa m
 ·rw[zi i]at h;injection h with h;simp at h
 rw[zh i]at h;by_cases q:s.size<16
 ·rw[zi q]at h;injection h with h;simp at h
 rw[zh q]at h;by_cases d:(da (s.extract 4 16)).1≠0
 ·rw[zi d]at h;injection h with h;simp at h
 rw[zh d]at h;by_cases o:s.size<20
 ·rw[zi o]at h;injection h with h;simp at h
 rw[zh o]at h;have l:(s.extract 16 20).size=4:=an _ _ _ (by omega);have B:=qb (s.extract 16 20) l;have z:=Pe (s.extract 16 20) l;generalize dh (s.extract 16 20).data.toList=N at*;by_cases k:most<N
 ·rw[zi k]at h;injection h with h;simp at h
 rw[zh k]at h;by_cases j:s.size<24+N
 ·rw[zi j]at h;injection h with h;simp at h
 rw[zh j]at h;by_cases e:eT (s.extract 24 (24+N))≠s.extract 20 24
 ·rw[zi e]at h;injection h with h;simp at h
 rw[zh e]at h;injection h with _ h;injection h with hnm h;injection h with UT hn;have y:da (s.extract 4 16)=(0,nm):=by
  rw[<-hnm];have A:(da (s.extract 4 16)).1=0:=zC.1 d;exact ZA A rfl
 obtain⟨r,w⟩:=L5 _ _ y;have x:body.size=N:=by rw[<-UT,an _ _ _ (by omega)];omega
 refine⟨w,by omega,by omega,by omega,by omega, ?_⟩;unfold nf;rw[r,x,z,<-UT,zC.1 e,<-zC.1 i,<-hn];apply aM;simp only[bc,ar];generalize s.data.toList=L;have c:∀(a b:Nat),a<=b->L.take a++(L.take b).drop a=L.take b:=by
  intro a b u;have:=zI a (L.take b);rwa [xu,yF u]at this
 rw[zL,c 4 16 (by omega),c 16 20 (by omega),c 20 24 (by omega),c 24 (24+N) (by omega)];rfl
theorem iw (s:ByteArray)(c i j:Nat)(h:j<=c):(s.extract 0 c).extract i j=s.extract i j:=by
 apply aM;rw[ar,ar,ar,zL,xu,yF h]
theorem Hx (m:Nat)(most:Int)(s:ByteArray)(c:Nat)(l:c<=s.size):(aW m most (s.extract 0 c)).1=2\/aW m most (s.extract 0 c)=aW m most s:=by
 have hz:(s.extract 0 c).size=c:=by rw[an _ _ _ l];omega
 unfold aW;rw[hz];by_cases i:c<4
 ·rw[zi i];exact .inl rfl
 rw[zh i,zh (by omega:¬s.size<4),iw s c 0 4 (by omega)];by_cases e:s.extract 0 4≠qa m
 ·rw[zi e,zi e];exact .inr rfl
 rw[zh e,zh e];by_cases k:c<16
 ·rw[zi k];exact .inl rfl
 rw[zh k,zh (by omega:¬s.size<16),iw s c 4 16 (by omega)];by_cases b:(da (s.extract 4 16)).1≠0
 ·rw[zi b,zi b];exact .inr rfl
 rw[zh b,zh b];by_cases h:c<20
 ·rw[zi h];exact .inl rfl
 rw[zh h,zh (by omega:¬s.size<20),iw s c 16 20 (by omega)];generalize dh (s.extract 16 20).data.toList=N;by_cases d:most<N
 ·rw[zi d,zi d];exact .inr rfl
 rw[zh d,zh d];by_cases j:c<24+N
 ·rw[zi j];exact .inl rfl
 rw[zh j,zh (by omega:¬s.size<24+N),iw s c 24 _ (by omega),iw s c 20 24 (by omega)];exact .inr rfl
def bg (c:aI)(s:ByteArray):Int×Fr×Nat×Nat:=
 if c.fm=1 then((aW c.mg c.fr s).1,⟨0,(aW c.mg c.fr s).2.1,(aW c.mg c.fr s).2.2.1⟩,(aW c.mg c.fr s).2.2.2,0)
 else if c.fm=2 then((aj c.fr s).1,⟨(aj c.fr s).2.1,ByteArray.empty,(aj c.fr s).2.2.1⟩,(aj c.fr s).2.2.2,0)
 else((aQ c.fr c.un s).1,⟨(aQ c.fr c.un s).2.1,ByteArray.empty,(aQ c.fr c.un s).2.2.1⟩,(aQ c.fr c.un s).2.2.2.1,(aQ c.fr c.un s).2.2.2.2)
def aw (c:aI)(s:ByteArray):Int×Fr×Nat×Nat:=if c.right=true then bg c s else(1,rD,0,0)
def fJ (fr:Int):Int:=if fr<128 then 1 else if fr<16384 then 2 else 3
def eV (c:aI):Int:=if c.right=true then(if c.fm=1 then 24 else fJ c.fr)+c.fr else 0
def jn (c:aI)(f:Fr):Bool:=if c.fm=1 then decide (f.id=0)else decide (f.nm.size=0)
def aU (c:aI)(f:Fr):ByteArray×Int:=
 if c.fm=1 then(if cd f.nm=true then(if 65536<f.body.size then(ByteArray.empty,5)else(nf c.mg f.nm f.body,0))else(ByteArray.empty,11))
 else if c.fm=2 then(if 65536<(aR f.id).length+f.body.size then(ByteArray.empty,5)else(⟨(eF f.id f.body.data.toList).toArray⟩,0))
 else(if c.un<f.body.size then(ByteArray.empty,5)else if 65536<(aR f.id).length+(pack f.body.data.toList).length then(ByteArray.empty,5)else(⟨(eF f.id (pack f.body.data.toList)).toArray⟩,0))
def fE (c:aI)(f:Fr):ByteArray×Int:=
 if c.right=true/\jn c f=true then(if(aU c f).2≠0 then(ByteArray.empty,(aU c f).2)else if(bg c (aU c f).1).1=5 then(ByteArray.empty,5)else((aU c f).1,0))else(ByteArray.empty,1)
theorem EH (m:Nat)(most:Int)(nm body more:ByteArray)(b:cd nm=true)(p:most<(body.size:Int))(j:body.size<4294967296):(aW m most (nf m nm body++more)).1=5:=by
 have hz:=dE b;have l:=lO m nm body hz.2;obtain⟨d,e,i,k,o,n⟩:=BT (qa m) (fc nm) (qa body.size) (eT body) body more (jN _) (im nm hz.2) (jN _) (lJ _) (nf m nm body++more) rfl;have c:=CM body.size j;have h:(da (fc nm)).1=0:=by rw[BG nm b]
 unfold aW;rw[d,e,i,c,zh (by omega),zh (by simp),zh (by omega),zh (by simp[h]),zh (by omega),zi (by omega)]
theorem k8 (s:ByteArray):s++ByteArray.empty=s:=aM (by rw[bc];simp)
theorem Pg {c:aI}{f:Fr}{S:ByteArray}(hid:f.id<18446744073709551616)(h:fE c f=(S,0))(more:ByteArray):(∃m,bg c (S++more)=(0,f,S.size,m))/\(S.size:Int)<=eV c:=by
 unfold fE at h;by_cases p:c.right=true/\jn c f=true;case neg=>rw[zh p]at h;injection h with _ h;cases h
 rw[zi p]at h;by_cases b:(aU c f).2≠0
 ·rw[zi b]at h;injection h with _ h;exact absurd h b
 rw[zh b]at h;by_cases d:(bg c (aU c f).1).1=5
 ·rw[zi d]at h;injection h with _ h;cases h
 rw[zh d]at h;injection h with h _;rw[h]at d;have b:=zC.1 b;obtain⟨q,l⟩:=p;have C:=(c.bB).1 q;obtain⟨id,nm,body⟩:=f;unfold aU at h b;unfold jn at l;unfold eV;rw[zi q];unfold bg at d⊢;simp only at h b l hid;by_cases o:c.fm=1
 ·rw[zi o]at h b l d⊢;rw[zi o];have B:id=0:=by simpa using l
  cases hm:cd nm with
  |false=>rw[hm]at b;simp at b
  |true=>
   rw[hm]at b h;simp only[xJ]at b h;by_cases e:65536<body.size
   ·rw[zi e]at b;simp at b
   rw[zh e]at h;simp only at h;have i:(body.size:Int)<=c.fr:=by
    rcases Int.lt_or_le c.fr (body.size:Int)with aE|jA
    ·have:=EH c.mg c.fr nm body ByteArray.empty hm aE (by omega);rw[k8,h]at this;exact absurd this d
    exact jA
   have k:=Hw c.mg c.fr nm body more hm i (by omega);have hz:=lO c.mg nm body (dE hm).2;rw[h]at k hz;rw[k,B];exact⟨⟨0,by rw[hz]⟩,by rw[hz];omega⟩
 rw[zh o]at h b l d⊢;rw[zh o];have u:nm=ByteArray.empty:=by
  have:nm.size=0:=by simpa using l
  apply aM;exact zp (by rw[aa];exact this)
 have r:∀N:Nat,(N:Int)<=c.fr->(((aR N).length+N:Nat):Int)<=fJ c.fr+c.fr:=fun N D=>by
  unfold fJ;split
  ·have:=bA 1 N (by omega) (by omega);omega
  split
  ·have:=bA 2 N (by omega) (by omega);omega
  have:=bA 3 N (by omega) (by omega);omega
 by_cases w:c.fm=2
 ·rw[zi w]at h b d⊢;by_cases e:65536<(aR id).length+body.size
  ·rw[zi e]at b;simp at b
  rw[zh e]at h;simp only at h;have j:S.data.toList=eF id body.data.toList:=by rw[<-h]
  have i:(((aR id++body.data.toList).length:Nat):Int)<=c.fr:=by
   rcases Int.lt_or_le c.fr (((aR id++body.data.toList).length:Nat):Int)with aE|jA
   ·have:=va c.fr id body.data.toList S [] (by rw[j,yW]) (by rw[zl,aa];omega);rw[zi aE]at this;have:=sU c.fr S (by rw[this]);rw[this]at d;exact absurd rfl d
   exact jA
  rw[zl,aa]at i;have k:=uZ c.fr id body (S++more) more.data.toList hid (by rw[bc,j]) (by omega) (by omega);have n:S.size=(eF id body.data.toList).length:=by rw[<-aa,j]
  rw[k,u];refine⟨⟨0,by rw[n]⟩, ?_⟩;have:=r ((aR id).length+body.size) i;rw[n];unfold eF;rw[zl,zl,aa];exact this
 rw[zh w]at h b d⊢;by_cases hu:c.un<body.size
 ·rw[zi hu]at b;simp at b
 rw[zh hu]at h b;by_cases e:65536<(aR id).length+(pack body.data.toList).length
 ·rw[zi e]at b;simp at b
 rw[zh e]at h;simp only at h;have s:body.data.toList.length<=65536:=by rw[aa];omega
 have j:S.data.toList=eF id (pack body.data.toList):=by rw[<-h]
 have i:(((aR id++pack body.data.toList).length:Nat):Int)<=c.fr:=by
  rcases Int.lt_or_le c.fr (((aR id++pack body.data.toList).length:Nat):Int)with aE|jA
  ·have:=va c.fr id (pack body.data.toList) S [] (by rw[j,yW]) (by rw[zl];omega);rw[zi aE]at this;have:=sU c.fr S (by rw[this]);have A:aQ c.fr c.un S=(5,0,ByteArray.empty,0,0):=by rw[bC,this];simp
   rw[A]at d;exact absurd rfl d
  exact jA
 rw[zl]at i;have k:=uZ c.fr id ⟨(pack body.data.toList).toArray⟩ (S++more) more.data.toList hid (by rw[bc,j]) (by rw[bP];omega) (by rw[bP];omega);simp only at k;have y:=BL ⟨(pack body.data.toList).toArray⟩ body.data.toList s rfl;have z:=EB ⟨(pack body.data.toList).toArray⟩ body.data.toList s rfl c.un (by rw[aa];omega);have n:S.size=(eF id (pack body.data.toList)).length:=by rw[<-aa,j]
 have x:aQ c.fr c.un (S++more)=(0,id,body,(eF id (pack body.data.toList)).length,body.size):=by
  rw[bC,k];simp only[ne_eq,yY,xL];rw[y];simp only[yY,xL];rw[aa,zh (by omega),z];simp only[yY,xL,iP]
 rw[x,u];refine⟨⟨body.size,by rw[n]⟩, ?_⟩;have:=r ((aR id).length+(pack body.data.toList).length) i;rw[n];unfold eF;rw[zl,zl];exact this
theorem vf (m:Nat)(most:Int)(s:ByteArray)(h:(aW m most s).1≠0):aW m most s=((aW m most s).1,ByteArray.empty,ByteArray.empty,0):=by
 unfold aW at h⊢;by_cases i:s.size<4
 ·rw[zi i]
 rw[zh i]at h⊢;by_cases j:s.extract 0 4≠qa m
 ·rw[zi j]
 rw[zh j]at h⊢;by_cases l:s.size<16
 ·rw[zi l]
 rw[zh l]at h⊢;by_cases b:(da (s.extract 4 16)).1≠0
 ·rw[zi b]
 rw[zh b]at h⊢;by_cases e:s.size<20
 ·rw[zi e]
 rw[zh e]at h⊢;generalize dh (s.extract 16 20).data.toList=N at*;by_cases c:most<N
 ·rw[zi c]
 rw[zh c]at h⊢;by_cases k:s.size<24+N
 ·rw[zi k]
 rw[zh k]at h⊢;by_cases d:eT (s.extract 24 (24+N))≠s.extract 20 24
 ·rw[zi d]
 rw[zh d]at h;exact absurd rfl h
theorem CN (m:Nat)(most:Int)(s:ByteArray)(n:0<=most)(h:(aW m most s).1=2):(s.size:Int)<24+most:=by
 unfold aW at h;by_cases j:s.size<4
 ·omega
 rw[zh j]at h;by_cases e:s.extract 0 4≠qa m
 ·rw[zi e]at h;cases h
 rw[zh e]at h;by_cases l:s.size<16
 ·omega
 rw[zh l]at h;by_cases b:(da (s.extract 4 16)).1≠0
 ·rw[zi b]at h;cases h
 rw[zh b]at h;by_cases i:s.size<20
 ·omega
 rw[zh i]at h;generalize dh (s.extract 16 20).data.toList=N at*;by_cases c:most<N
 ·rw[zi c]at h;cases h
 rw[zh c]at h;by_cases k:s.size<24+N
 ·omega
 rw[zh k]at h;by_cases d:eT (s.extract 24 (24+N))≠s.extract 20 24
 ·rw[zi d]at h;cases h
 rw[zh d]at h;cases h
theorem Ph (most:Int)(s:ByteArray)(h:(aj most s).1≠0):aj most s=((aj most s).1,0,ByteArray.empty,0):=by
 rw[dV]at h⊢;split
 ·rfl
 split
 ·rfl
 split
 ·rfl
 rename_i b c d
 rw[zh b,zh c,zh d]at h;exact absurd rfl h
theorem Kf {b:Int}(N:Nat)(c:(N:Int)<=b)(d:b<=65536):(((aR N).length+N:Nat):Int)<=fJ b+b:=by
 unfold fJ;split
 ·have:=bA 1 N (by omega) (by omega);omega
 split
 ·have:=bA 2 N (by omega) (by omega);omega
 have:=bA 3 N (by omega) (by omega);omega
theorem qd (b:Int)(s:ByteArray)(i:b<=65536)(h:(aj b s).1=2):(s.size:Int)<max (fJ b+b) 10:=by
 rw[dV]at h;by_cases c:(au b s).2.2≠0
 ·rw[zi c]at h;have h:(au b s).2.2=2:=h;unfold au at h;by_cases d:(ay s).2.2=0
  ·rw[zi d]at h;split at h<;>cases h
  rw[zh d]at h;have:=AF s h;omega
 rw[zh c]at h;have c:=zC.1 c;have j:=k7 b s c;have k:(au b s).2.1=(aR (au b s).1).length:=by
  unfold au at c⊢;by_cases d:(ay s).2.2=0
  ·rw[zi d]at c⊢;by_cases e:b<(ay s).1
   ·rw[zi e]at c;cases c
   rw[zh e];exact(lN s d).2
  rw[zh d]at c;exact absurd c d
 by_cases d:s.size<(au b s).2.1+(au b s).1
 ·have:=Kf (au b s).1 j.1 i;omega
 rw[zh d]at h;split at h<;>cases h
theorem H6 (b d:Int)(s:ByteArray)(h:(aQ b d s).1=2):(aj b s).1=2:=by
 rw[bC]at h;by_cases c:(aj b s).1≠0
 ·rw[zi c]at h;exact h
 rw[zh c]at h;split at h
 ·split at h<;>cases h
 split at h
 ·cases h
 split at h<;>cases h
theorem sV (b d:Int)(s:ByteArray)(h:(aQ b d s).1=0):(aj b s).1=0/\(aQ b d s).2.1=(aj b s).2.1/\(aQ b d s).2.2.2.1=(aj b s).2.2.2:=by
 rw[bC]at h⊢;by_cases c:(aj b s).1≠0
 ·rw[zi c]at h;exact absurd h c
 rw[zh c]at h⊢;split at h
 ·split at h<;>cases h
 rename_i e
 rw[zh e];split at h
 ·cases h
 rename_i i
 rw[zh i];split at h
 ·cases h
 rename_i j
 rw[zh j];exact⟨zC.1 c,rfl,rfl⟩
theorem H7 (c b:Int)(s:ByteArray)(h:(aQ c b s).1≠0):(aQ c b s).2.1=0/\(aQ c b s).2.2.1=ByteArray.empty/\(aQ c b s).2.2.2.1=0:=by
 rw[bC]at h⊢;split
 ·exact⟨rfl,rfl,rfl⟩
 rename_i i
 rw[zh i]at h;split
 ·exact⟨rfl,rfl,rfl⟩
 rename_i d
 rw[zh d]at h;split
 ·exact⟨rfl,rfl,rfl⟩
 rename_i e
 rw[zh e]at h;split
 ·exact⟨rfl,rfl,rfl⟩
 rename_i j
 rw[zh j]at h;exact absurd rfl h
theorem vh (c:aI)(s:ByteArray)(h:(bg c s).1≠0):(bg c s).2.1=rD/\(bg c s).2.2.1=0:=by
 unfold bg at h⊢;by_cases b:c.fm=1
 ·rw[zi b]at h⊢;have h:(aW c.mg c.fr s).1≠0:=h;rw[vf c.mg c.fr s h];exact⟨rfl,rfl⟩
 rw[zh b]at h⊢;by_cases d:c.fm=2
 ·rw[zi d]at h⊢;have h:(aj c.fr s).1≠0:=h;rw[Ph c.fr s h];exact⟨rfl,rfl⟩
 rw[zh d]at h⊢;obtain⟨i,j,e⟩:=H7 c.fr c.un s h;exact⟨by rw[i,j];rfl,e⟩
theorem Mk {c:aI}(e:c.right=true)(h:(bg c s).1=0):((bg c s).2.2.1:Int)<=eV c/\(bg c s).2.2.1<=s.size/\(bg c s).2.1.id<18446744073709551616:=by
 have p:=(c.bB).1 e;unfold eV;rw[zi e];unfold bg at h⊢;have j:(aj c.fr s).1=0->((aj c.fr s).2.2.2:Int)<=fJ c.fr+c.fr/\(aj c.fr s).2.2.2<=s.size/\(aj c.fr s).2.1<18446744073709551616:=fun h=>by
  obtain⟨b,d,k,i,_⟩:=vc c.fr s (aj c.fr s).2.1 (aj c.fr s).2.2.1 (aj c.fr s).2.2.2 (ZA h rfl);exact⟨by rw[i];exact Kf _ k (by omega),b,d⟩
 by_cases b:c.fm=1
 ·rw[zi b]at h⊢;rw[zi b];obtain⟨_,k,i,l,_⟩:=ve c.mg c.fr s (aW c.mg c.fr s).2.1 (aW c.mg c.fr s).2.2.1 (aW c.mg c.fr s).2.2.2 (ZA h rfl);exact⟨by simp only;omega,l,by simp⟩
 rw[zh b]at h⊢;rw[zh b];by_cases d:c.fm=2
 ·rw[zi d]at h⊢;exact j h
 rw[zh d]at h⊢;obtain⟨m,o,n⟩:=sV c.fr c.un s h;have:=j m;simp only;rw[o,n];exact this
theorem Pj (c:aI)(s:ByteArray)(k:Nat)(e:k<=s.size):(bg c (s.extract 0 k)).1=2\/bg c (s.extract 0 k)=bg c s:=by
 unfold bg;by_cases b:c.fm=1
 ·rw[zi b,zi b];rcases Hx c.mg c.fr s k e with h|h
  ·exact .inl h
  right;rw[h]
 rw[zh b,zh b];by_cases d:c.fm=2
 ·rw[zi d,zi d];rcases u9 c.fr s k e with h|h
  ·right;rw[h]
  left;rw[h]
 rw[zh d,zh d];rcases Hv c.fr c.un s k e with h|⟨_,h⟩
 ·left;rw[h]
 right;rw[h]
theorem H' {c:aI}(b:c.right=true)(h:(bg c s).1=2):(s.size:Int)<max (eV c) 10:=by
 have i:=(c.bB).1 b;unfold eV;rw[zi b];unfold bg at h;by_cases d:c.fm=1
 ·rw[zi d]at h⊢;have:=CN c.mg c.fr s (by omega) h;omega
 rw[zh d]at h⊢;by_cases e:c.fm=2
 ·rw[zi e]at h;exact qd c.fr s (by omega) h
 rw[zh e]at h;exact qd c.fr s (by omega) (H6 _ _ _ h)
theorem CO (s t:ByteArray):(s++t).extract 0 s.size=s:=by
 apply aM;rw[ar,bc,zL,zZ (by rw[aa];exact zg _),cT]
theorem Pk (c:aI)(s t:ByteArray)(h:(bg c s).1≠2):bg c (s++t)=bg c s:=by
 have:=Pj c (s++t) s.size (by rw[bK];omega);rw[CO]at this;rcases this with h1|h1
 ·exact absurd h1 h
 exact h1.symm
theorem Tu {c:aI}(h:(bg c s).1=2):bg c s=(2,rD,0,0):=by
 unfold bg at h⊢;by_cases b:c.fm=1
 ·rw[zi b]at h⊢;have h:(aW c.mg c.fr s).1=2:=h;have:=vf c.mg c.fr s (by rw[h];decide);rw[this,h];rfl
 rw[zh b]at h⊢;by_cases d:c.fm=2
 ·rw[zi d]at h⊢;have h:(aj c.fr s).1=2:=h;have:=Ph c.fr s (by rw[h];decide);rw[this,h];rfl
 rw[zh d]at h⊢;have h:(aQ c.fr c.un s).1=2:=h;rw[pZ c.fr c.un s h];rfl
theorem Pl {c:aI}(h:(bg c s).1=0):0<(bg c s).2.2.1:=by
 have b:(aj c.fr s).1=0->0<(aj c.fr s).2.2.2:=fun h=>by
  obtain⟨_,_,_,k,_⟩:=vc c.fr s (aj c.fr s).2.1 (aj c.fr s).2.2.1 (aj c.fr s).2.2.2 (ZA h rfl);have:=Ey ((aR (aj c.fr s).2.1).length+(aj c.fr s).2.2.1.size);omega
 unfold bg at h⊢;by_cases e:c.fm=1
 ·rw[zi e]at h⊢;obtain⟨_,_,k,_⟩:=ve c.mg c.fr s (aW c.mg c.fr s).2.1 (aW c.mg c.fr s).2.2.1 (aW c.mg c.fr s).2.2.2 (ZA h rfl);simp only;omega
 rw[zh e]at h⊢;by_cases d:c.fm=2
 ·rw[zi d]at h⊢;exact b h
 rw[zh d]at h⊢;obtain⟨i,_,j⟩:=sV c.fr c.un s h;simp only;rw[j];exact b i
theorem bL {c:aI}(b:c.right=true)(s:ByteArray):aw c s=bg c s:=by unfold aw;rw[zi b]
theorem fe (c:aI):kG (aw c):=by
 cases hr:c.right with
 |false=>
  have e:∀s,aw c s=(1,rD,0,0):=fun s=>by unfold aw;rw[hr];rfl
  exact⟨(fun s h=>by rw[e]at h;cases h),(fun s t _=>by rw[e,e]),(fun s h=>by rw[e])⟩
 |true=>
  refine⟨fun s h=> ?_,fun s t h=> ?_,fun s h=> ?_⟩
  ·rw[bL hr]at h⊢;exact⟨Pl h,(Mk hr h).2.1⟩
  ·rw[bL hr]at h;rw[bL hr,bL hr];exact Pk c s t h
  rw[bL hr]at h⊢;rw[Tu h]
theorem Ia {c:aI}(h:c.right=true):(aw c ByteArray.empty).1=2:=by
 rw[bL h];have i:ay ByteArray.empty=(0,0,2):=jD _ _ _ _ (by simp);have e:aj c.fr ByteArray.empty=(2,0,ByteArray.empty,0):=by
  rw[dV];have:au c.fr ByteArray.empty=(0,0,2):=by unfold au;rw[i];rfl
  rw[this];rfl
 unfold bg;by_cases b:c.fm=1
 ·rw[zi b];unfold aW;rfl
 rw[zh b];by_cases d:c.fm=2
 ·rw[zi d,e]
 rw[zh d,bC,e];rfl
def cL (c:aI)(s:ByteArray):Nat:=
 if c.fm=1 then(if s.size<24 then 0 else 24+dh (s.extract 16 20).data.toList)
 else if(au c.fr s).2.2≠0 then 0 else(au c.fr s).2.1+(au c.fr s).1
theorem CP (s t:ByteArray)(i j:Nat)(h:j<=s.size):(s++t).extract i j=s.extract i j:=by
 have:=iw (s++t) s.size i j h;rw[CO]at this;exact this.symm
theorem EI (m:Nat)(most:Int)(s t:ByteArray)(h:(aW m most s).1=2)(i:24<=s.size)(e:(s++t).size<24+dh (s.extract 16 20).data.toList):(aW m most (s++t)).1=2:=by
 have hz:=bK s t;unfold aW at h⊢;rw[CP s t 0 4 (by omega),CP s t 4 16 (by omega),CP s t 16 20 (by omega)];rw[zh (by omega)]at h⊢;by_cases d:s.extract 0 4≠qa m
 ·rw[zi d]at h;cases h
 rw[zh d]at h⊢;rw[zh (by omega)]at h⊢;by_cases b:(da (s.extract 4 16)).1≠0
 ·rw[zi b]at h;cases h
 rw[zh b]at h⊢;rw[zh (by omega)]at h⊢;generalize dh (s.extract 16 20).data.toList=N at*;by_cases c:most<N
 ·rw[zi c]at h;cases h
 rw[zh c,zi e]
theorem Ib (most:Int)(s t:ByteArray)(h:(au most s).2.2=0):au most (s++t)=au most s:=by
 have b:=sS (s++t) s.size (by rw[bK];omega);rw[CO]at b;rcases b with b|b
 ·unfold au;rw[b]
 unfold au at h;rw[b]at h;cases h
theorem EJ (most:Int)(s t:ByteArray)(b:(au most s).2.2=0)(c:(s++t).size<(au most s).2.1+(au most s).1):(aj most (s++t)).1=2:=by
 rw[dV,Ib most s t b,zh (by rw[b];simp),zi c]
theorem EK (c:aI)(s t:ByteArray)(h:(bg c s).1=2)(b:(s++t).size<cL c s):(bg c (s++t)).1=2:=by
 unfold cL at b;by_cases d:c.fm=1
 ·rw[zi d]at b;unfold bg at h⊢;rw[zi d]at h⊢;by_cases i:s.size<24
  ·rw[zi i]at b;omega
  rw[zh i]at b;exact EI c.mg c.fr s t h (by omega) b
 rw[zh d]at b;by_cases e:(au c.fr s).2.2≠0
 ·rw[zi e]at b;omega
 rw[zh e]at b;have:=EJ c.fr s t (zC.1 e) b;unfold bg;rw[zh d];by_cases j:c.fm=2
 ·rw[zi j];exact this
 rw[zh j,bC,zi (by rw[this];decide)];exact this
theorem EL (s:ByteArray)(size k b:Nat)(out:List UInt8)(h:out.length<=size)(c:(bX s size k b out).1=0):(bX s size k b out).2.2.length<=size:=by
 unfold bX at c⊢;by_cases i:s.size<k+bh b
 ·rw[zi i];exact h
 rw[zh i]at c⊢;by_cases j:(b%4≠0/\(kh b (iQ s k b)=0\/out.length<kh b (iQ s k b)))\/size-out.length<cR b (iQ s k b)
 ·rw[zi j];exact h
 rw[zh j]at c⊢;by_cases d:b%4=0
 ·rw[zi d]at c⊢;by_cases e:s.size<k+bh b+cR b (iQ s k b)
  ·rw[zi e];exact h
  rw[zh e];simp only[zl,aa];rw[an _ _ _ (by omega)];omega
 rw[zh d];simp only[uI];omega
theorem Kg (s:ByteArray)(size:Nat):∀(f k:Nat) (out:List UInt8),out.length<=size->(fR s size f k out).2.length<=size
 |0,k,out,_=>by simp[fR]
 |f+1,k,out,h=>by
  unfold fR;by_cases c:k<s.size
  ·rw[ZU c];by_cases b:(bX s size k s[k].toNat out).1=0
   ·rw[zi b];exact Kg s size f _ _ (EL s size k _ out h b)
   rw[zh b];simp
  rw[dif_neg c];split
  ·simp
  exact h
theorem EM (b c:Int)(s:ByteArray):(((aQ b c s).2.2.1.size:Nat):Int)<=max c 0:=by
 rw[bC];split
 ·show((0:Nat):Int)<=_;omega
 split
 ·show((0:Nat):Int)<=_;omega
 split
 ·show((0:Nat):Int)<=_;omega
 split
 ·show((0:Nat):Int)<=_;omega
 rename_i i d e h
 show(((aY (aj b s).2.2.1 c).2.length:Nat):Int)<=_
 unfold aY jf;rw[zh d,zh e];have:=Kg ((aj b s).2.2.1.extract (aB (aj b s).2.2.1).2.1 (aj b s).2.2.1.size) (aB (aj b s).2.2.1).1 (((aj b s).2.2.1.extract (aB (aj b s).2.2.1).2.1 (aj b s).2.2.1.size).size+1) 0 [] (by simp);omega
theorem Ic (s:ByteArray)(a b:Nat):(s.extract a b).size<=s.size:=by simp;omega
theorem Ie (s:ByteArray):(da s).2.size<=12:=by
 unfold da;split
 ·rename_i h;exact(dE h.2).2
 exact yk _
theorem EN (m:Nat)(most:Int)(s:ByteArray):(aW m most s).2.1.size<=12/\(aW m most s).2.2.1.size<=s.size:=by
 unfold aW;repeat' split
 all_goals dsimp only
 all_goals first|with_reducible exact⟨Ie _,Ic _ _ _⟩|exact⟨by simp,by simp⟩
theorem EO (most:Int)(s:ByteArray):(aj most s).2.2.1.size<=s.size:=by
 by_cases h:(aj most s).1=0
 ·rw[dV]at h⊢;generalize au most s=p at*;generalize ay (s.extract p.2.1 (p.2.1+p.1))=q at*;by_cases b:p.2.2≠0
  ·rw[zi b];exact yk _
  rw[zh b]at h⊢;by_cases c:s.size<p.2.1+p.1
  ·rw[zi c];exact yk _
  rw[zh c]at h⊢;by_cases d:q.2.2≠0
  ·rw[zi d];exact yk _
  rw[zh d];exact zF (Ic _ _ _) (Ic _ _ _)
 rw[Ph most s h];exact yk _
theorem Ml (c:aI)(s:ByteArray):(bg c s).2.1.nm.size<=12/\(((bg c s).2.1.body.size:Nat):Int)<=max (s.size:Int) (max c.un 0):=by
 unfold bg;split
 ·have:=EN c.mg c.fr s;exact⟨this.1,by have:=this.2;show(((aW c.mg c.fr s).2.2.1.size:Nat):Int)<=_;omega⟩
 split
 ·have:=EO c.fr s;exact⟨yk _,by show(((aj c.fr s).2.2.1.size:Nat):Int)<=_;omega⟩
 have:=EM c.fr c.un s;exact⟨yk _,by show(((aQ c.fr c.un s).2.2.1.size:Nat):Int)<=_;omega⟩
theorem BU {size:Nat}:∀(f k:Nat) (out:List UInt8),out.length<=size->(fR s size f k out).1=0->(fR s size f k out).2.length=size
 |0,k,out,_,h=>by simp[fR]at h
 |f+1,k,out,ho,h=>by
  unfold fR at h⊢;by_cases c:k<s.size
  ·rw[ZU c]at h⊢;by_cases b:(bX s size k s[k].toNat out).1=0
   ·rw[zi b]at h⊢;exact BU f _ _ (EL s size k _ out ho b) h
   rw[zh b]at h;exact absurd h b
  rw[dif_neg c]at h⊢;by_cases b:out.length<size
  ·rw[zi b]at h;cases h
  rw[zh b];show out.length=size;omega
theorem EP (b c:Int)(s:ByteArray)(h:(aQ b c s).1=0):(aQ b c s).2.2.2.2=(aQ b c s).2.2.1.size:=by
 rw[bC]at h⊢;by_cases i:(aj b s).1≠0
 ·rw[zi i]at h;exact absurd h i
 rw[zh i]at h⊢;by_cases j:(aB (aj b s).2.2.1).2.2≠0
 ·rw[zi j]at h;simp only at h;split at h<;>cases h
 rw[zh j]at h⊢;by_cases k:c<(aB (aj b s).2.2.1).1
 ·rw[zi k]at h;cases h
 rw[zh k]at h⊢;by_cases d:(aY (aj b s).2.2.1 c).1≠0
 ·rw[zi d]at h;cases h
 rw[zh d];have e:=zC.1 d;show(aB (aj b s).2.2.1).1=(aY (aj b s).2.2.1 c).2.length
 unfold aY at e⊢;rw[zh j,zh k]at e⊢;exact(BU _ _ _ (by simp) e).symm
theorem Ig (c b:Int)(s:ByteArray)(hu:0<=b):((aQ c b s).2.2.2.2:Int)<=b:=by
 rw[bC];by_cases d:(aj c s).1≠0
 ·rw[zi d];exact hu
 rw[zh d];by_cases e:(aB (aj c s).2.2.1).2.2≠0
 ·rw[zi e];exact hu
 rw[zh e];by_cases h:b<(aB (aj c s).2.2.1).1
 ·rw[zi h];exact hu
 rw[zh h];split
 ·show(((aB (aj c s).2.2.1).1:Nat):Int)<=b;omega
 show(((aB (aj c s).2.2.1).1:Nat):Int)<=b;omega
theorem Ih {c:aI}(e:c.fm≠3)(s:ByteArray):(aw c s).2.2.2=0:=by
 unfold aw;by_cases b:c.right=true
 ·rw[zi b];have:=(c.bB).1 b;unfold bg;by_cases d:c.fm=1
  ·rw[zi d]
  rw[zh d,zi (by omega)]
 rw[zh b]
theorem ER {c:aI}(b:c.right=true)(d:c.fm=3)(s:ByteArray):((aw c s).1=0->(aw c s).2.2.2=(aw c s).2.1.body.size)/\((aw c s).2.2.2:Int)<=c.un:=by
 have:=(c.bB).1 b;rw[bL b];unfold bg;rw[zh (by omega),zh (by omega)];exact⟨EP _ _ _,Ig _ _ _ (by omega)⟩
theorem vi (c:aI)(s:ByteArray):(split (aw c) s).1.length<=s.size:=by
 have:=Tf (fe c) s;rw[<-this,List.length_map];exact(OO (fe c) s).2.2
theorem vj (c:aI)(s:ByteArray):(split (aw c) s).2.1.size<=s.size:=by
 obtain⟨k,b,e⟩:=mn (fe c) s;rw[e,an _ _ _ (zg _)];omega
open Go.RowKit
def eG (c:aI)(b:ByteArray)(nd:Nat):Prop:=∀T:ByteArray,(b++T).size<nd->(aw c (b++T)).1=2
theorem eG.zero (c:aI)(b:ByteArray):eG c b 0:=fun T h=>absurd h (by omega)
theorem eG.here {c:aI}{b:ByteArray}{d:Nat}(h:eG c b d)(e:b.size<d):(aw c b).1=2:=by
 have:=h ByteArray.empty (by rw[k8];exact e);rwa [k8]at this
theorem eG.more {c:aI}{b:ByteArray}{i:Nat}(h:eG c b i)(s:ByteArray):eG c (b++s) i:=fun T d=>by
 have e:b++s++T=b++(s++T):=aM (by simp only[bc,zE]);rw[e]at d⊢;exact h _ d
theorem eG.of {c:aI}(d:c.right=true){b:ByteArray}(h:(aw c b).1=2):eG c b (cL c b):=fun T e=>by
 rw[bL d]at h⊢;exact EK c b T h e
theorem cg :k∈v.ownBlock.toList↔v.ownBlock=some k:=by simp
theorem lF.only {a b:World}{c:Value}(h:lF a b v c):ae v.ownBlock.toList a b:=ae.fU h.grown
theorem bF.iV {w w':World}{base:Nat}{E:TypeId}{l:List UInt8}{L:List Nat}(h:bF w base E v l)(c:ae L w w')(b:∀k,v.ownBlock=some k->k∉L):bF w' base E v l:=h.ag fun k d e=>c.block k d (b k e)
def js (g:Nat)(bv:Value):List Nat:=g::bv.ownBlock.toList
theorem fW {g:Nat}{b:Value}:k∈js g b↔k=g\/b.ownBlock=some k:=by simp[js]
def bz (n:Nat):Nat:=if n<253 then n else if n<65536 then 253 else if n<4294967296 then 254 else 255
def bp (b:Nat):Nat:=if b=253 then 2 else if b=254 then 4 else 8
def dC (n:Nat):List UInt8:=if n<253 then [ub n]else ub (bz n)::jF n (bp (bz n))
def aA :List UInt8->Nat×Nat×Int
 | []=>(0,0,2)
 |b::t=>if b.toNat<253 then(b.toNat,1,0)else if t.length<bp b.toNat then(0,0,2)
  else if bz (dh (t.take (bp b.toNat)))=b.toNat then(dh (t.take (bp b.toNat)),1+bp b.toNat,0)else(0,0,3)
theorem ng (b:Nat):2<=bp b/\bp b<=8:=by unfold bp;split<;>(try split)<;>omega
theorem Ii (n:Nat):bz n<256:=by unfold bz;split<;>(try split)<;>(try split)<;>omega
theorem Ij (h:¬n<253):253<=bz n:=by unfold bz;rw[zh h];split<;>(try split)<;>omega
theorem ue (h:¬n<253)(d:n<18446744073709551616):n<2^(8*bp (bz n)):=by
 unfold bz;rw[zh h];by_cases b:n<65536
 ·rw[zi b];show n<2^16;omega
 rw[zh b];by_cases c:n<4294967296
 ·rw[zi c];show n<2^32;omega
 rw[zh c];show n<2^64;omega
theorem jt (n:Nat):1<=(dC n).length/\(dC n).length<=9:=by
 unfold dC;split
 ·simp
 have:=ng (bz n);simp[bd];omega
theorem vl (n:Nat)(q:List UInt8)(c:n<18446744073709551616):aA (dC n++q)=(n,(dC n).length,0):=by
 unfold dC;by_cases h:n<253
 ·rw[zi h];simp only[ya,yy,aA,bo n (by omega),zi h,yL]
 rw[zh h];have d:=Ij h;have b:=Ii n;simp only[ya,aA,bo _ b,zh (show¬bz n<253 by omega)];rw[zh (by rw[zl,bd];omega),ZC (bd _ _),Pb _ _ (ue h c),zi rfl];simp[bd,Zn]
theorem iW (r:List UInt8)(n z:Nat)(h:aA r=(n,z,0)):n<18446744073709551616/\z<=r.length/\r.take z=dC n/\(dC n).length=z:=by
 cases r with
 |nil=>cases h
 |cons b t=>
  have q:=b.toNat_lt;have i:ub (b.toNat:Nat)=b:=by apply zS.1;rw[bo _ q]
  simp only[aA]at h;by_cases c:b.toNat<253
  ·rw[zi c]at h;injection h with e1 e2;injection e2 with e2 _;subst e1 e2;refine⟨by omega,by simp, ?_, ?_⟩
   ·unfold dC;rw[zi c,i];rfl
   unfold dC;rw[zi c];rfl
  rw[zh c]at h;by_cases j:t.length<bp b.toNat
  ·rw[zi j]at h;injection h with _ h;injection h with _ h;cases h
  rw[zh j]at h;by_cases e:bz (dh (t.take (bp b.toNat)))=b.toNat
  ·rw[zi e]at h;injection h with e1 e2;injection e2 with e2 _;have l:=jK (t.take (bp b.toNat));have d:(t.take (bp b.toNat)).length=bp b.toNat:=by rw[zV];omega
   have m:=ng b.toNat;rw[d]at l;have s:2^(8*bp b.toNat)<=18446744073709551616:=le_pow _ m.2;have k:dC n=b::t.take (bp b.toNat):=by
    subst e1;have p:¬dh (t.take (bp b.toNat))<253:=by
     intro o;have:bz (dh (t.take (bp b.toNat)))=dh (t.take (bp b.toNat)):=by unfold bz;rw[zi o]
     omega
    unfold dC;rw[zh p,e,i];congr 1
    have:=Pc (t.take (bp b.toNat));rwa [d]at this
   refine⟨by omega,by simp only[zx];omega, ?_, ?_⟩
   ·rw[k,<-e2,Zn,zT]
   rw[k,zx,d];omega
  rw[zh e]at h;injection h with _ h;injection h with _ h;cases h
theorem ES (r:List UInt8):aA (r.take 9)=aA r:=by
 cases r with
 |nil=>rfl
 |cons b t=>
  have c:=ng b.toNat;simp only[zT,aA];rw[xu,show min (bp b.toNat) 8=bp b.toNat from by omega,zV];by_cases h:t.length<bp b.toNat
  ·rw[zi (show min 8 t.length<bp b.toNat by omega),zi h]
  rw[zh (show¬min 8 t.length<bp b.toNat by omega),zh h]
