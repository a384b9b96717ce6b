/- Plain frames, and packed ones: plain functions and laws. No program in sight. -/
import Derived.Test.YtimoclkoflamkaaGreatDoorKA3
set_option linter.all false
namespace Go.Proofs.YtimoclkoflamkaaGreatDoor
variable {n k d:Nat}{s:ByteArray}{v:Value}
def ze:=@List.set_cons_zero
def zE:=@Decidable.not_not
def yQ:=@List.length_singleton
def xy:=@List.set_append_right
def ZN:=@List.take_left'
def Z7:=@List.take_add_one
def aw (most:Int)(s:ByteArray):Nat×Nat×Int:=
 if(ay s).2.2=0 then(if most<(ay s).1 then(0,0,5)else((ay s).1,(ay s).2.1,0))else(0,0,(ay s).2.2)
def aj (most:Int)(s:ByteArray):Int×Nat×ByteArray×Nat:=
 if(aw most s).2.2≠0 then((aw most s).2.2,0,ByteArray.empty,0)
 else if s.size<(aw most s).2.1+(aw most s).1 then(2,0,ByteArray.empty,0)
 else if(ay (s.extract (aw most s).2.1 ((aw most s).2.1+(aw most s).1))).2.2≠0 then(3,0,ByteArray.empty,0)
 else(0,(ay (s.extract (aw most s).2.1 ((aw most s).2.1+(aw most s).1))).1,
  (s.extract (aw most s).2.1 ((aw most s).2.1+(aw most s).1)).extract (ay (s.extract (aw most s).2.1 ((aw most s).2.1+(aw most s).1))).2.1 (aw most s).1,
  (aw most s).2.1+(aw most s).1)
theorem eH (most:Int)(s:ByteArray):aj most s=(
 if(aw most s).2.2≠0 then((aw most s).2.2,0,ByteArray.empty,0)
 else if s.size<(aw most s).2.1+(aw most s).1 then(2,0,ByteArray.empty,0)
 else if(ay (s.extract (aw most s).2.1 ((aw most s).2.1+(aw most s).1))).2.2≠0 then(3,0,ByteArray.empty,0)
 else(0,(ay (s.extract (aw most s).2.1 ((aw most s).2.1+(aw most s).1))).1,
  (s.extract (aw most s).2.1 ((aw most s).2.1+(aw most s).1)).extract (ay (s.extract (aw most s).2.1 ((aw most s).2.1+(aw most s).1))).2.1 (aw most s).1,
  (aw most s).2.1+(aw most s).1)):=rfl
def eC (id:Nat)(body:List UInt8):List UInt8:=aR (aR id++body).length++(aR id++body)
theorem rE (most:Int)(s:ByteArray)(h:(aw most s).2.2=0):((aw most s).1:Int)<=most/\(aw most s).2.1<=s.size/\0<(aw most s).2.1/\(aw most s).2.1<=10:=by
 unfold aw at h⊢;by_cases b:(ay s).2.2=0
 ·rw[zj b]at h⊢;have d:=ia s b;by_cases c:most<(ay s).1
  ·rw[zj c]at h;simp at h
  rw[zi c];simp only;omega
 rw[zi b]at h;exact absurd h b
theorem vj (most:Int)(id:Nat)(body:ByteArray)(s:ByteArray)(rest:List UInt8)(hid:id<18446744073709551616)(b:s.data.toList=eC id body.data.toList++rest)(n:((aR id).length+body.size:Int)<=most)(p:body.size<=1000000):
 aj most s=(0,id,body,(eC id body.data.toList).length):=by
 unfold eC at b⊢;have o:=bw 10 id (by omega) (by omega);have j:(aR id++body.data.toList).length=(aR id).length+body.size:=by rw[zk,aa]
 have k:=j7 (aR id++body.data.toList).length s ((aR id++body.data.toList)++rest) (by rw[b,zC]) (by omega);have l:aw most s=((aR id++body.data.toList).length,(aR (aR id++body.data.toList).length).length,0):=by
  unfold aw;rw[k];simp only[xL];rw[zi (by rw[j];omega)]
 have q:s.size=(aR (aR id++body.data.toList).length).length+(aR id++body.data.toList).length+rest.length:=by
  rw[<-aa,b];simp only[zk]
 generalize c:(aR (aR id++body.data.toList).length).length=K at*;generalize i:(aR id++body.data.toList).length=N at*;have d:(s.extract K (K+N)).data.toList=aR id++body.data.toList:=by
  rw[aq,b,zC,List.take_append,List.drop_append,c];have e:(List.take (K+N) (aR N)).length=K:=by rw[zU,c];omega
  rw[zK (by rw[e];exact zd _),e,Zd,zL,yo,show K+N-K=N from by omega,zV (by omega),zx (by omega)]
 have h:=j7 id (s.extract K (K+N)) body.data.toList d hid;have m:(s.extract K (K+N)).extract (aR id).length N=body:=by
  apply aF;rw[aq,d,zx (by omega),yw (zd _),Yd,yo]
 unfold aj;rw[l];simp only[Yo,yX,xN];rw[zi (by omega),h];simp only[yX,xN];rw[m,zk,c,i]
def aT (most iO:Int)(s:ByteArray):Int×Nat×ByteArray×Nat×Nat:=
 if(aj most s).1≠0 then((aj most s).1,0,ByteArray.empty,0,0)
 else if(aB (aj most s).2.2.1).2.2≠0 then((if(aB (aj most s).2.2.1).2.2=5 then 5 else 3),0,ByteArray.empty,0,0)
 else if iO<(aB (aj most s).2.2.1).1 then(5,0,ByteArray.empty,0,0)
 else if(a8 (aj most s).2.2.1 iO).1≠0 then(3,0,ByteArray.empty,0,(aB (aj most s).2.2.1).1)
 else(0,(aj most s).2.1,⟨(a8 (aj most s).2.2.1 iO).2.toArray⟩,(aj most s).2.2.2,(aB (aj most s).2.2.1).1)
theorem bN (most b:Int)(s:ByteArray):aT most b s=(
 if(aj most s).1≠0 then((aj most s).1,0,ByteArray.empty,0,0)
 else if(aB (aj most s).2.2.1).2.2≠0 then((if(aB (aj most s).2.2.1).2.2=5 then 5 else 3),0,ByteArray.empty,0,0)
 else if b<(aB (aj most s).2.2.1).1 then(5,0,ByteArray.empty,0,0)
 else if(a8 (aj most s).2.2.1 b).1≠0 then(3,0,ByteArray.empty,0,(aB (aj most s).2.2.1).1)
 else(0,(aj most s).2.1,⟨(a8 (aj most s).2.2.1 b).2.toArray⟩,(aj most s).2.2.2,(aB (aj most s).2.2.1).1)):=rfl
theorem L9 (s:ByteArray)(c:Nat)(j:c<=s.size)(f:Nat):∀i n,cd (s.extract 0 c) f i n=cd s f i n\/cd (s.extract 0 c) f i n=(0,0,2):=by
 have hz:(s.extract 0 c).size=c:=by rw[ar _ _ _ j];omega
 induction f with
 |zero=>intro i n;exact .inl rfl
 |succ f ih=>
  intro i n;by_cases hi:i<c
  ·have h:i<(s.extract 0 c).size:=by omega
   have d:i<s.size:=by omega
   have e:(s.extract 0 c)[i]=s[i]:=by
    have b:=iu (s.extract 0 c) i h;rw[aq,zL,yr hi,iu s i d]at b;injection b with b;exact b.symm
   rw[cd,cd,Yg h,Yg d,e];split
   ·exact .inl rfl
   split
   ·exact .inl rfl
   exact ih _ _
  exact .inr (jo _ _ _ _ (by omega))
theorem sI (s:ByteArray)(c:Nat)(b:c<=s.size):ay (s.extract 0 c)=ay s\/ay (s.extract 0 c)=(0,0,2):=L9 s c b 10 0 0
theorem vl (most:Int)(s:ByteArray)(c:Nat)(j:c<=s.size):aj most (s.extract 0 c)=aj most s\/aj most (s.extract 0 c)=(2,0,ByteArray.empty,0):=by
 have hz:(s.extract 0 c).size=c:=by rw[ar _ _ _ j];omega
 rcases sI s c j with h|h
 ·have d:aw most (s.extract 0 c)=aw most s:=by unfold aw;rw[h]
  rw[eH most (s.extract 0 c),eH most s,d,hz];by_cases b:(aw most s).2.2≠0
  ·rw[zj b,zj b];exact .inl rfl
  rw[zi b,zi b];by_cases i:c<(aw most s).2.1+(aw most s).1
  ·rw[zj i];exact .inr rfl
  have k:¬s.size<(aw most s).2.1+(aw most s).1:=by omega
  rw[zi i,zi k];have e:(s.extract 0 c).extract (aw most s).2.1 ((aw most s).2.1+(aw most s).1)=s.extract (aw most s).2.1 ((aw most s).2.1+(aw most s).1):=by
   apply aF;rw[aq,aq,aq,zL,xu,yG (by omega)]
  rw[e];exact .inl rfl
 have d:aw most (s.extract 0 c)=(0,0,2):=by unfold aw;rw[h];rfl
 rw[eH most (s.extract 0 c),d];exact .inr rfl
theorem qc (most b:Int)(s:ByteArray)(h:(aT most b s).1=2):aT most b s=(2,0,ByteArray.empty,0,0):=by
 rw[bN]at h⊢;by_cases c:(aj most s).1≠0
 ·rw[zj c]at h⊢;simp only at h⊢;rw[h]
 rw[zi c]at h⊢;split at h
 ·simp only at h;split at h<;>omega
 split at h
 ·simp at h
 split at h<;>simp at h
theorem Ih (most b:Int)(s:ByteArray)(c:Nat)(i:c<=s.size):aT most b (s.extract 0 c)=(2,0,ByteArray.empty,0,0)\/((aT most b s).1≠2/\aT most b (s.extract 0 c)=aT most b s):=by
 rcases vl most s c i with h|h
 ·have e:aT most b (s.extract 0 c)=aT most b s:=by rw[bN,bN most b s,h]
  by_cases d:(aT most b s).1=2
  ·left;rw[e];exact qc most b s d
  exact .inr ⟨d,e⟩
 left;rw[bN,h];rfl
theorem vm (s:ByteArray):∀(f i n m k:Nat),cd s f i n=(m,k,0)->∃r,m=n+r*2^(7*i)/\(0<i->0<r)/\i<k/\k<=s.size/\aR r=(s.data.toList.take k).drop i
 |0,i,n,m,k,h=>by simp[cd]at h
 |f+1,i,n,m,k,h=>by
  by_cases hi:i<s.size
  ·by_cases d:(i=9/\1<s[i].toNat)\/(0<i/\s[i].toNat=0)
   ·rw[nM s f i n hi d]at h;simp at h
   have q:s.data.toList[i]?=some s[i]:=by
    rw[zA (by rw[aa];exact hi)];rfl
   by_cases c:s[i].toNat<128
   ·rw[jz s f i n hi d c]at h;injection h with h1 b;injection b with b _;refine⟨s[i].toNat,by rw[<-h1,Nat.mod_eq_of_lt c],fun x=>by omega,by omega,by omega, ?_⟩;rw[ie c,<-b];have hu:ub (s[i].toNat:Nat)=s[i]:=by apply zT.1;rw[bn _ (by omega)]
    rw[hu,Z7,q,Option.toList_some,yw (by rw[zU,aa];omega),zK (by rw[zU];omega),yo]
   rw[jA s f i n hi d c]at h;obtain⟨r,o,p,z,w,l⟩:=vm s f (i+1) _ m k h;have A:=p (by omega);have y:=s[i].toNat_lt;have b:2^(7*(i+1))=128*2^(7*i):=by rw[show 7*(i+1)=7+7*i from by omega,xX]
   refine⟨s[i].toNat%128+r*128,by rw[o,b,Nat.add_mul,Nat.mul_assoc,yg],fun _=>by omega,by omega,w, ?_⟩;have u:(s[i].toNat%128+r*128)%128=s[i].toNat%128:=by omega
   have e:(s[i].toNat%128+r*128)/128=r:=by omega
   rw[jq (by omega),u,e,l];have hu:ub (s[i].toNat%128+128:Nat)=s[i]:=by apply zT.1;rw[bn _ (by omega)];omega
   rw[hu];have j:i<(s.data.toList.take k).length:=by rw[zU,aa];omega
   rw[xB j];rw[List.getElem_take];rfl
  rw[jo s (f+1) i n hi]at h;simp at h
theorem qd (s:ByteArray)(h:(ay s).2.2=0):aR (ay s).1=s.data.toList.take (ay s).2.1/\(ay s).2.1=(aR (ay s).1).length:=by
 obtain⟨r,c,_,_,e,b⟩:=vm s 10 0 0 (ay s).1 (ay s).2.1 (by rw[<-h];rfl);have d:(ay s).1=r:=by simpa using c
 rw[d,b,zL];exact⟨rfl,by rw[zU,aa];omega⟩
theorem vn (most:Int)(id:Nat)(body:List UInt8)(s:ByteArray)(rest:List UInt8)(b:s.data.toList=eC id body++rest)(d:(aR id++body).length<18446744073709551616):
 aw most s=if most<(aR id++body).length then(0,0,5)else((aR id++body).length,(aR (aR id++body).length).length,0):=by
 have c:=j7 (aR id++body).length s ((aR id++body)++rest) (by rw[b];unfold eC;rw[zC]) d;unfold aw;rw[c];simp only[xL]
theorem sJ (most:Int)(s:ByteArray)(h:(aw most s).2.2=5):aj most s=(5,0,ByteArray.empty,0):=by
 unfold aj;rw[zj (by rw[h];decide),h]
theorem vo (most:Int)(s:ByteArray)(id:Nat)(body:ByteArray)(n:Nat)(h:aj most s=(0,id,body,n)):
 n<=s.size/\id<18446744073709551616/\(((aR id).length+body.size:Nat):Int)<=most/\n=(aR ((aR id).length+body.size)).length+((aR id).length+body.size)/\(⟨(eC id body.data.toList).toArray⟩:ByteArray)=s.extract 0 n:=by
 unfold aj at h;by_cases b:(aw most s).2.2≠0
 ·rw[zj b]at h;injection h with h;exact absurd h b
 rw[zi b]at h;have b:=zE.1 b;have i:=rE most s b;have m:aw most s=((ay s).1,(ay s).2.1,0)/\(ay s).2.2=0:=by
  unfold aw at b⊢;by_cases d:(ay s).2.2=0
  ·rw[zj d]at b⊢;by_cases c:most<(ay s).1
   ·rw[zj c]at b;simp at b
   rw[zi c];exact⟨rfl,d⟩
  rw[zi d]at b;exact absurd b d
 obtain⟨q,x⟩:=qd s m.2;rw[m.1]at h i;generalize (ay s).1=N at*;generalize (ay s).2.1=K at*;try simp only at h i
 by_cases d:s.size<K+N
 ·rw[zj d]at h;injection h with h;simp at h
 rw[zi d]at h;by_cases c:(ay (s.extract K (K+N))).2.2≠0
 ·rw[zj c]at h;injection h with h;simp at h
 rw[zi c]at h;have c:=zE.1 c;obtain⟨k,j⟩:=qd _ c;have l:=ia _ c;injection h with _ h;injection h with hid h;injection h with UP hn;rw[hid]at k j l;generalize (ay (s.extract K (K+N))).2.1=J at*;have y:(s.extract K (K+N)).size=N:=by rw[ar _ _ _ (by omega)];omega
 have u:body.size=N-J:=by rw[<-UP,ar _ _ _ (by omega)]
 have o:(aR id).length=J:=j.symm;have e:(aR id).length+body.size=N:=by rw[o,u];omega
 have p:aR id++body.data.toList=(s.extract K (K+N)).data.toList:=by
  have w:(s.extract K (K+N)).data.toList.take N=(s.extract K (K+N)).data.toList:=zx (by rw[aa];omega);rw[k,<-UP];generalize s.extract K (K+N)=R at*;rw[aq R J N,w];exact zH _ _
 refine⟨by omega,l.2.2.2,by rw[e];exact i.1,by rw[e,<-x];exact hn.symm, ?_⟩;apply aF;have r:(aR id++body.data.toList).length=N:=by rw[zk,aa];exact e
 show eC id body.data.toList=_
 unfold eC;rw[r,q,p,aq,aq,zL,<-hn];have:=zH K (s.data.toList.take (K+N));rwa [xu,yG (by omega)]at this
def jr (n:Nat):Nat->List UInt8
 |0=> []
 |k+1=>jr n k++ [ub (n/2^(8*k)%256:Nat)]
theorem bc (n k:Nat):(jr n k).length=k:=by
 induction k with
 |zero=>rfl
 |succ k ih=>simp[jr,ih]
theorem OX {sz:Nat}(h:k<sz):(jr n k++List.replicate (sz-k) (0:UInt8)).set k (ub (n/2^(8*k)%256:Nat))=jr n (k+1)++List.replicate (sz-(k+1)) 0:=by
 obtain⟨d,hd⟩:∃d,sz-k=d+1:=⟨sz-k-1,by omega⟩
 rw[hd,ZQ,xy _ _ (by rw[bc];exact zd _),bc,Zd,ze,show sz-(k+1)=d from by omega];simp[jr]
theorem Tc (n k:Nat):(n:Int)/2^(8*k)%256=((ub (n/2^(8*k)%256:Nat)).toNat:Int):=by
 rw[bn _ (by omega)];simp
theorem vq (n k:Nat):jr n (k+1)=ub (n%256:Nat)::jr (n/256) k:=by
 induction k with
 |zero=>simp[jr]
 |succ k ih=>
  rw[jr,ih,jr,zW];congr 4
  rw[Nat.div_div_eq_div_mul,show(256:Nat)=2^8 from rfl,<-xX,show 8+8*k=8*(k+1)from by omega]
def cE (n:Nat):List UInt8:=if h:n=0 then []else cE (n/256)++ [ub (n%256:Nat)]
termination_by n
theorem dj :cE 0= []:=by rw[cE];simp
theorem gI (h:n≠0):cE n=cE (n/256)++ [ub (n%256:Nat)]:=by rw[cE];simp[h]
theorem Td (k:Nat):2^(8*(k+1))=256*2^(8*k):=by rw[show 8*(k+1)=8+8*k from by omega,xX]
theorem gp (k:Nat):∀n,n<2^(8*k)->(cE n).length<=k:=by
 induction k with
 |zero=>intro n h;simp at h;subst h;simp[dj]
 |succ k ih=>
  intro n h;by_cases b:n=0
  ·subst b;simp[dj]
  rw[gI b,zk];have:=ih (n/256) (by rw[Td]at h;exact xY h);simp;omega
theorem Ma (k:Nat):∀n,n<2^(8*k)->List.replicate (k-(cE n).length) 0++cE n=(jr n k).reverse:=by
 induction k with
 |zero=>intro n h;simp at h;subst h;simp[dj,jr]
 |succ k ih=>
  intro n h;have c:=gp (k+1) n h;have hd:n/256<2^(8*k):=by rw[Td]at h;exact xY h
  rw[vq,List.reverse_cons,<-ih _ hd];by_cases b:n=0
  ·subst b;simp[dj,ub];rw[List.replicate_succ']
  rw[gI b,zk,yQ,show k+1-((cE (n/256)).length+1)=k-(cE (n/256)).length from by omega,zC]
theorem OY (k n:Nat):n<2^(8*k)->da (jr n k)=n:=by
 induction k generalizing n with
 |zero=>intro h;simp at h;subst h;rfl
 |succ k ih=>
  intro h;rw[vq,da,ih (n/256) (by rw[Td]at h;exact xY h),bn _ (by omega)];omega
theorem OZ (l:List UInt8):jr (da l) l.length=l:=by
 induction l with
 |nil=>rfl
 |cons b t ih=>
  have c:=b.toNat_lt;rw[zz,vq,da,show(b.toNat+256*da t)/256=da t from by omega,ih];congr 1
  rw[show(b.toNat+256*da t)%256=b.toNat from by omega];apply zT.1;rw[bn _ c]
def ra (n:Nat):ByteArray:=⟨(jr n 4).toArray⟩
theorem jC (n:Nat):(ra n).size=4:=by rw[ra,bG,bc]
theorem O0 (n:Nat):(ra n).data.toList=jr n 4:=by simp[ra]
theorem O1 (s:ByteArray)(h:s.size=4):ra (da s.data.toList)=s:=by
 have e:=OZ s.data.toList;rw[aa,h]at e;rw[ra,e,jv]
theorem CO (n:Nat)(h:n<4294967296):da (ra n).data.toList=n:=by rw[O0];exact OY 4 n (by simpa using h)
theorem O2 (s:ByteArray)(n:Nat)(b:s.size=4)(h:n<4294967296):s=ra n↔da s.data.toList=n:=by
 constructor
 ·rintro rfl;exact CO n h
 rintro rfl;exact(O1 s b).symm
theorem uk (s:ByteArray)(b:s.size=4):da s.data.toList<4294967296:=by
 have:=jy s.data.toList;rw[aa,b]at this;simpa using this
def mQ (m:Nat)(nm body:ByteArray):ByteArray:=ra m++eQ nm++ra body.size++eP body++body
theorem lH (m:Nat)(nm body:ByteArray)(h:nm.size<=12):(mQ m nm body).size=24+body.size:=by
 simp only[mQ,bT,jC,ib nm h,lB]
def aX (m:Nat)(most:Int)(s:ByteArray):Int×ByteArray×ByteArray×Nat:=
 if s.size<4 then(2,ByteArray.empty,ByteArray.empty,0)
 else if s.extract 0 4≠ra m then(9,ByteArray.empty,ByteArray.empty,0)
 else if s.size<16 then(2,ByteArray.empty,ByteArray.empty,0)
 else if(cX (s.extract 4 16)).1≠0 then(3,ByteArray.empty,ByteArray.empty,0)
 else if s.size<20 then(2,ByteArray.empty,ByteArray.empty,0)
 else if most<da (s.extract 16 20).data.toList then(5,ByteArray.empty,ByteArray.empty,0)
 else if s.size<24+da (s.extract 16 20).data.toList then(2,ByteArray.empty,ByteArray.empty,0)
 else if eP (s.extract 24 (24+da (s.extract 16 20).data.toList))≠s.extract 20 24 then(10,ByteArray.empty,ByteArray.empty,0)
 else(0,(cX (s.extract 4 16)).2,s.extract 24 (24+da (s.extract 16 20).data.toList),24+da (s.extract 16 20).data.toList)
theorem fk (m:Nat)(most:Int)(s:ByteArray):aX m most s=(
 if s.size<4 then(2,ByteArray.empty,ByteArray.empty,0)
 else if s.extract 0 4≠ra m then(9,ByteArray.empty,ByteArray.empty,0)
 else if s.size<16 then(2,ByteArray.empty,ByteArray.empty,0)
 else if(cX (s.extract 4 16)).1≠0 then(3,ByteArray.empty,ByteArray.empty,0)
 else if s.size<20 then(2,ByteArray.empty,ByteArray.empty,0)
 else if most<da (s.extract 16 20).data.toList then(5,ByteArray.empty,ByteArray.empty,0)
 else if s.size<24+da (s.extract 16 20).data.toList then(2,ByteArray.empty,ByteArray.empty,0)
 else if eP (s.extract 24 (24+da (s.extract 16 20).data.toList))≠s.extract 20 24 then(10,ByteArray.empty,ByteArray.empty,0)
 else(0,(cX (s.extract 4 16)).2,s.extract 24 (24+da (s.extract 16 20).data.toList),24+da (s.extract 16 20).data.toList)):=rfl
theorem qe (s a b c:ByteArray)(h:s=a++b++c)(i j:Nat)(hi:a.size=i)(d:i+b.size=j):s.extract i j=b:=by
 subst h;subst hi;subst d;apply aF;rw[aq,aW,aW,zV (by simp),zx (by simp),yw (by simp),<-aa,Yd,yo]
theorem BH (a b c d e r:ByteArray)(i:a.size=4)(j:b.size=12)(k:c.size=4)(hd:d.size=4)(s:ByteArray)(h:s=a++b++c++d++e++r):
 s.extract 0 4=a/\s.extract 4 16=b/\s.extract 16 20=c/\s.extract 20 24=d/\s.extract 24 (24+e.size)=e/\s.size=24+e.size+r.size:=by
 refine⟨qe s ByteArray.empty a (b++c++d++e++r) ?_ _ _ rfl (by omega),qe s a b (c++d++e++r) ?_ _ _ i (by omega),qe s (a++b) c (d++e++r) ?_ _ _ (by rw[bT];omega) (by omega),
  qe s (a++b++c) d (e++r) ?_ _ _ (by rw[bT,bT];omega) (by omega),qe s (a++b++c++d) e r ?_ _ _ (by rw[bT,bT,bT];omega) rfl,by rw[h];simp only[bT];omega⟩
 all_goals(rw[h];try simp[ByteArray.append_assoc])
theorem Ii (m:Nat)(most:Int)(nm body more:ByteArray)(b:b8 nm=true)(n:(body.size:Int)<=most)(d:body.size<4294967296):
 aX m most (mQ m nm body++more)=(0,nm,body,24+body.size):=by
 have hz:=dx b;obtain⟨j,c,k,l,i,e⟩:=BH (ra m) (eQ nm) (ra body.size) (eP body) body more (jC _) (ib nm hz.2) (jC _) (lB _) (mQ m nm body++more) rfl;have h:=CO body.size d;unfold aX;rw[j,c,k,h,l,i,e,Bt nm b];rw[zi (by omega),zi (by simp),zi (by omega),zi (by simp),zi (by omega),zi (by omega),zi (by omega),zi (by simp)]
theorem vr (m:Nat)(most:Int)(s nm body:ByteArray)(n:Nat)(h:aX m most s=(0,nm,body,n)):b8 nm=true/\(body.size:Int)<=most/\n=24+body.size/\n<=s.size/\body.size<4294967296/\mQ m nm body=s.extract 0 n:=by
 unfold aX at h;by_cases p:s.size<4
 ·rw[zj p]at h;injection h with h;simp at h
 rw[zi p]at h;by_cases d:s.extract 0 4≠ra m
 ·rw[zj d]at h;injection h with h;simp at h
 rw[zi d]at h;by_cases q:s.size<16
 ·rw[zj q]at h;injection h with h;simp at h
 rw[zi q]at h;by_cases e:(cX (s.extract 4 16)).1≠0
 ·rw[zj e]at h;injection h with h;simp at h
 rw[zi e]at h;by_cases l:s.size<20
 ·rw[zj l]at h;injection h with h;simp at h
 rw[zi l]at h;have k:(s.extract 16 20).size=4:=ar _ _ _ (by omega);have B:=uk (s.extract 16 20) k;have y:=O1 (s.extract 16 20) k;generalize da (s.extract 16 20).data.toList=N at*;by_cases j:most<N
 ·rw[zj j]at h;injection h with h;simp at h
 rw[zi j]at h;by_cases o:s.size<24+N
 ·rw[zj o]at h;injection h with h;simp at h
 rw[zi o]at h;by_cases i:eP (s.extract 24 (24+N))≠s.extract 20 24
 ·rw[zj i]at h;injection h with h;simp at h
 rw[zi i]at h;injection h with _ h;injection h with hnm h;injection h with UP hn;have x:cX (s.extract 4 16)=(0,nm):=by
  rw[<-hnm];have w:(cX (s.extract 4 16)).1=0:=zE.1 e;exact ZZ w rfl
 obtain⟨u,A⟩:=LS _ _ x;have r:body.size=N:=by rw[<-UP,ar _ _ _ (by omega)];omega
 refine⟨A,by omega,by omega,by omega,by omega, ?_⟩;unfold mQ;rw[u,r,y,<-UP,zE.1 i,<-zE.1 d,<-hn];apply aF;simp only[aW,aq];generalize s.data.toList=L;have c:∀(a b:Nat),a<=b->L.take a++(L.take b).drop a=L.take b:=by
  intro a b z;have:=zH a (L.take b);rwa [xu,yG z]at this
 rw[zL,c 4 16 (by omega),c 16 20 (by omega),c 20 24 (by omega),c 24 (24+N) (by omega)];rfl
theorem ij (s:ByteArray)(c i j:Nat)(h:j<=c):(s.extract 0 c).extract i j=s.extract i j:=by
 apply aF;rw[aq,aq,aq,zL,xu,yG h]
theorem Ij (m:Nat)(most:Int)(s:ByteArray)(c:Nat)(l:c<=s.size):(aX m most (s.extract 0 c)).1=2\/aX m most (s.extract 0 c)=aX m most s:=by
 have hz:(s.extract 0 c).size=c:=by rw[ar _ _ _ l];omega
 unfold aX;rw[hz];by_cases j:c<4
 ·rw[zj j];exact .inl rfl
 rw[zi j,zi (by omega:¬s.size<4),ij s c 0 4 (by omega)];by_cases b:s.extract 0 4≠ra m
 ·rw[zj b,zj b];exact .inr rfl
 rw[zi b,zi b];by_cases k:c<16
 ·rw[zj k];exact .inl rfl
 rw[zi k,zi (by omega:¬s.size<16),ij s c 4 16 (by omega)];by_cases e:(cX (s.extract 4 16)).1≠0
 ·rw[zj e,zj e];exact .inr rfl
 rw[zi e,zi e];by_cases h:c<20
 ·rw[zj h];exact .inl rfl
 rw[zi h,zi (by omega:¬s.size<20),ij s c 16 20 (by omega)];generalize da (s.extract 16 20).data.toList=N;by_cases d:most<N
 ·rw[zj d,zj d];exact .inr rfl
 rw[zi d,zi d];by_cases i:c<24+N
 ·rw[zj i];exact .inl rfl
 rw[zi i,zi (by omega:¬s.size<24+N),ij s c 24 _ (by omega),ij s c 20 24 (by omega)];exact .inr rfl
def bz (c:aM)(s:ByteArray):Int×Fr×Nat×Nat:=
 if c.fm=1 then((aX c.mg c.fr s).1,⟨0,(aX c.mg c.fr s).2.1,(aX c.mg c.fr s).2.2.1⟩,(aX c.mg c.fr s).2.2.2,0)
 else if c.fm=2 then((aj c.fr s).1,⟨(aj c.fr s).2.1,ByteArray.empty,(aj c.fr s).2.2.1⟩,(aj c.fr s).2.2.2,0)
 else((aT c.fr c.un s).1,⟨(aT c.fr c.un s).2.1,ByteArray.empty,(aT c.fr c.un s).2.2.1⟩,(aT c.fr c.un s).2.2.2.1,(aT c.fr c.un s).2.2.2.2)
def bh (c:aM)(s:ByteArray):Int×Fr×Nat×Nat:=if c.right=true then bz c s else(1,om,0,0)
def BI (fr:Int):Int:=if fr<128 then 1 else if fr<16384 then 2 else 3
def Kh (c:aM):Int:=if c.right=true then(if c.fm=1 then 24 else BI c.fr)+c.fr else 0
def mR (c:aM)(f:Fr):Bool:=if c.fm=1 then decide (f.id=0)else decide (f.nm.size=0)
def bd (c:aM)(f:Fr):ByteArray×Int:=
 if c.fm=1 then(if b8 f.nm=true then(if 65536<f.body.size then(ByteArray.empty,5)else(mQ c.mg f.nm f.body,0))else(ByteArray.empty,11))
 else if c.fm=2 then(if 65536<(aR f.id).length+f.body.size then(ByteArray.empty,5)else(⟨(eC f.id f.body.data.toList).toArray⟩,0))
 else(if c.un<f.body.size then(ByteArray.empty,5)else if 65536<(aR f.id).length+(pack f.body.data.toList).length then(ByteArray.empty,5)else(⟨(eC f.id (pack f.body.data.toList)).toArray⟩,0))
def gR (c:aM)(f:Fr):ByteArray×Int:=
 if c.right=true/\mR c f=true then(if(bd c f).2≠0 then(ByteArray.empty,(bd c f).2)else if(bz c (bd c f).1).1=5 then(ByteArray.empty,5)else((bd c f).1,0))else(ByteArray.empty,1)
theorem ER (m:Nat)(most:Int)(nm body more:ByteArray)(b:b8 nm=true)(l:most<(body.size:Int))(d:body.size<4294967296):(aX m most (mQ m nm body++more)).1=5:=by
 have hz:=dx b;have k:=lH m nm body hz.2;obtain⟨h,c,i,p,o,n⟩:=BH (ra m) (eQ nm) (ra body.size) (eP body) body more (jC _) (ib nm hz.2) (jC _) (lB _) (mQ m nm body++more) rfl;have e:=CO body.size d;have j:(cX (eQ nm)).1=0:=by rw[Bt nm b]
 unfold aX;rw[h,c,i,e,zi (by omega),zi (by simp),zi (by omega),zi (by simp[j]),zi (by omega),zj (by omega)]
theorem iI (s:ByteArray):s++ByteArray.empty=s:=aF (by rw[aW];simp)
theorem O3 {c:aM}{f:Fr}{S:ByteArray}(hid:f.id<18446744073709551616)(h:gR c f=(S,0))(more:ByteArray):(∃m,bz c (S++more)=(0,f,S.size,m))/\(S.size:Int)<=Kh c:=by
 unfold gR at h;by_cases p:c.right=true/\mR c f=true;case neg=>rw[zi p]at h;injection h with _ h;cases h
 rw[zj p]at h;by_cases b:(bd c f).2≠0
 ·rw[zj b]at h;injection h with _ h;exact absurd h b
 rw[zi b]at h;by_cases d:(bz c (bd c f).1).1=5
 ·rw[zj d]at h;injection h with _ h;cases h
 rw[zi d]at h;injection h with h _;rw[h]at d;have b:=zE.1 b;obtain⟨s,l⟩:=p;have D:=(c.ic).1 s;obtain⟨id,nm,body⟩:=f;unfold bd at h b;unfold mR at l;unfold Kh;rw[zj s];unfold bz at d⊢;simp only at h b l hid;by_cases o:c.fm=1
 ·rw[zj o]at h b l d⊢;rw[zj o];have y:id=0:=by simpa using l
  cases hm:b8 nm with
  |false=>rw[hm]at b;simp at b
  |true=>
   rw[hm]at b h;simp only[xL]at b h;by_cases e:65536<body.size
   ·rw[zj e]at b;simp at b
   rw[zi e]at h;simp only at h;have i:(body.size:Int)<=c.fr:=by
    rcases Int.lt_or_le c.fr (body.size:Int)with aD|ma
    ·have:=ER c.mg c.fr nm body ByteArray.empty hm aD (by omega);rw[iI,h]at this;exact absurd this d
    exact ma
   have k:=Ii c.mg c.fr nm body more hm i (by omega);have hz:=lH c.mg nm body (dx hm).2;rw[h]at k hz;rw[k,y];exact⟨⟨0,by rw[hz]⟩,by rw[hz];omega⟩
 rw[zi o]at h b l d⊢;rw[zi o];have u:nm=ByteArray.empty:=by
  have:nm.size=0:=by simpa using l
  apply aF;exact zo (by rw[aa];exact this)
 have w:∀N:Nat,(N:Int)<=c.fr->(((aR N).length+N:Nat):Int)<=BI c.fr+c.fr:=fun N C=>by
  unfold BI;split
  ·have:=bw 1 N (by omega) (by omega);omega
  split
  ·have:=bw 2 N (by omega) (by omega);omega
  have:=bw 3 N (by omega) (by omega);omega
 by_cases q:c.fm=2
 ·rw[zj q]at h b d⊢;by_cases e:65536<(aR id).length+body.size
  ·rw[zj e]at b;simp at b
  rw[zi e]at h;simp only at h;have j:S.data.toList=eC id body.data.toList:=by rw[<-h]
  have i:(((aR id++body.data.toList).length:Nat):Int)<=c.fr:=by
   rcases Int.lt_or_le c.fr (((aR id++body.data.toList).length:Nat):Int)with aD|ma
   ·have:=vn c.fr id body.data.toList S [] (by rw[j,yT]) (by rw[zk,aa];omega);rw[zj aD]at this;have:=sJ c.fr S (by rw[this]);rw[this]at d;exact absurd rfl d
   exact ma
  rw[zk,aa]at i;have k:=vj c.fr id body (S++more) more.data.toList hid (by rw[aW,j]) (by omega) (by omega);have n:S.size=(eC id body.data.toList).length:=by rw[<-aa,j]
  rw[k,u];refine⟨⟨0,by rw[n]⟩, ?_⟩;have:=w ((aR id).length+body.size) i;rw[n];unfold eC;rw[zk,zk,aa];exact this
 rw[zi q]at h b d⊢;by_cases hu:c.un<body.size
 ·rw[zj hu]at b;simp at b
 rw[zi hu]at h b;by_cases e:65536<(aR id).length+(pack body.data.toList).length
 ·rw[zj e]at b;simp at b
 rw[zi e]at h;simp only at h;have r:body.data.toList.length<=65536:=by rw[aa];omega
 have j:S.data.toList=eC id (pack body.data.toList):=by rw[<-h]
 have i:(((aR id++pack body.data.toList).length:Nat):Int)<=c.fr:=by
  rcases Int.lt_or_le c.fr (((aR id++pack body.data.toList).length:Nat):Int)with aD|ma
  ·have:=vn c.fr id (pack body.data.toList) S [] (by rw[j,yT]) (by rw[zk];omega);rw[zj aD]at this;have:=sJ c.fr S (by rw[this]);have x:aT c.fr c.un S=(5,0,ByteArray.empty,0,0):=by rw[bN,this];simp
   rw[x]at d;exact absurd rfl d
  exact ma
 rw[zk]at i;have k:=vj c.fr id ⟨(pack body.data.toList).toArray⟩ (S++more) more.data.toList hid (by rw[aW,j]) (by rw[bG];omega) (by rw[bG];omega);simp only at k;have A:=Bz ⟨(pack body.data.toList).toArray⟩ body.data.toList r rfl;have z:=EI ⟨(pack body.data.toList).toArray⟩ body.data.toList r rfl c.un (by rw[aa];omega);have n:S.size=(eC id (pack body.data.toList)).length:=by rw[<-aa,j]
 have B:aT c.fr c.un (S++more)=(0,id,body,(eC id (pack body.data.toList)).length,body.size):=by
  rw[bN,k];simp only[Yo,yX,xN];rw[A];simp only[yX,xN];rw[aa,zi (by omega),z];simp only[yX,xN,jv]
 rw[B,u];refine⟨⟨body.size,by rw[n]⟩, ?_⟩;have:=w ((aR id).length+(pack body.data.toList).length) i;rw[n];unfold eC;rw[zk,zk];exact this
theorem vt (m:Nat)(most:Int)(s:ByteArray)(h:(aX m most s).1≠0):aX m most s=((aX m most s).1,ByteArray.empty,ByteArray.empty,0):=by
 unfold aX at h⊢;by_cases i:s.size<4
 ·rw[zj i]
 rw[zi i]at h⊢;by_cases b:s.extract 0 4≠ra m
 ·rw[zj b]
 rw[zi b]at h⊢;by_cases j:s.size<16
 ·rw[zj j]
 rw[zi j]at h⊢;by_cases l:(cX (s.extract 4 16)).1≠0
 ·rw[zj l]
 rw[zi l]at h⊢;by_cases d:s.size<20
 ·rw[zj d]
 rw[zi d]at h⊢;generalize da (s.extract 16 20).data.toList=N at*;by_cases c:most<N
 ·rw[zj c]
 rw[zi c]at h⊢;by_cases e:s.size<24+N
 ·rw[zj e]
 rw[zi e]at h⊢;by_cases k:eP (s.extract 24 (24+N))≠s.extract 20 24
 ·rw[zj k]
 rw[zi k]at h;exact absurd rfl h
theorem O4 (most:Int)(s:ByteArray)(h:(aj most s).1≠0):aj most s=((aj most s).1,0,ByteArray.empty,0):=by
 rw[eH]at h⊢;split
 ·rfl
 split
 ·rfl
 split
 ·rfl
 rename_i c b d
 rw[zi c,zi b,zi d]at h;exact absurd rfl h
theorem Te {b:Int}(N:Nat)(d:(N:Int)<=b)(c:b<=65536):(((aR N).length+N:Nat):Int)<=BI b+b:=by
 unfold BI;split
 ·have:=bw 1 N (by omega) (by omega);omega
 split
 ·have:=bw 2 N (by omega) (by omega);omega
 have:=bw 3 N (by omega) (by omega);omega
theorem sK (b d:Int)(s:ByteArray)(h:(aT b d s).1=0):(aj b s).1=0/\(aT b d s).2.1=(aj b s).2.1/\(aT b d s).2.2.2.1=(aj b s).2.2.2:=by
 rw[bN]at h⊢;by_cases c:(aj b s).1≠0
 ·rw[zj c]at h;exact absurd h c
 rw[zi c]at h⊢;split at h
 ·split at h<;>cases h
 rename_i i
 rw[zi i];split at h
 ·cases h
 rename_i e
 rw[zi e];split at h
 ·cases h
 rename_i j
 rw[zi j];exact⟨zE.1 c,rfl,rfl⟩
theorem Ik (c b:Int)(s:ByteArray)(h:(aT c b s).1≠0):(aT c b s).2.1=0/\(aT c b s).2.2.1=ByteArray.empty/\(aT c b s).2.2.2.1=0:=by
 rw[bN]at h⊢;split
 ·exact⟨rfl,rfl,rfl⟩
 rename_i e
 rw[zi e]at h;split
 ·exact⟨rfl,rfl,rfl⟩
 rename_i i
 rw[zi i]at h;split
 ·exact⟨rfl,rfl,rfl⟩
 rename_i d
 rw[zi d]at h;split
 ·exact⟨rfl,rfl,rfl⟩
 rename_i j
 rw[zi j]at h;exact absurd rfl h
theorem O5 (c:aM)(s:ByteArray)(h:(bz c s).1≠0):(bz c s).2.1=om/\(bz c s).2.2.1=0:=by
 unfold bz at h⊢;by_cases d:c.fm=1
 ·rw[zj d]at h⊢;have h:(aX c.mg c.fr s).1≠0:=h;rw[vt c.mg c.fr s h];exact⟨rfl,rfl⟩
 rw[zi d]at h⊢;by_cases b:c.fm=2
 ·rw[zj b]at h⊢;have h:(aj c.fr s).1≠0:=h;rw[O4 c.fr s h];exact⟨rfl,rfl⟩
 rw[zi b]at h⊢;obtain⟨j,e,i⟩:=Ik c.fr c.un s h;exact⟨by rw[j,e];rfl,i⟩
theorem Mb {c:aM}(e:c.right=true)(h:(bz c s).1=0):((bz c s).2.2.1:Int)<=Kh c/\(bz c s).2.2.1<=s.size/\(bz c s).2.1.id<18446744073709551616:=by
 have p:=(c.ic).1 e;unfold Kh;rw[zj e];unfold bz at h⊢;have i:(aj c.fr s).1=0->((aj c.fr s).2.2.2:Int)<=BI c.fr+c.fr/\(aj c.fr s).2.2.2<=s.size/\(aj c.fr s).2.1<18446744073709551616:=fun h=>by
  obtain⟨b,d,j,k,_⟩:=vo c.fr s (aj c.fr s).2.1 (aj c.fr s).2.2.1 (aj c.fr s).2.2.2 (ZZ h rfl);exact⟨by rw[k];exact Te _ j (by omega),b,d⟩
 by_cases b:c.fm=1
 ·rw[zj b]at h⊢;rw[zj b];obtain⟨_,j,k,m,_⟩:=vr c.mg c.fr s (aX c.mg c.fr s).2.1 (aX c.mg c.fr s).2.2.1 (aX c.mg c.fr s).2.2.2 (ZZ h rfl);exact⟨by simp only;omega,m,by simp⟩
 rw[zi b]at h⊢;rw[zi b];by_cases d:c.fm=2
 ·rw[zj d]at h⊢;exact i h
 rw[zi d]at h⊢;obtain⟨o,l,n⟩:=sK c.fr c.un s h;have:=i o;simp only;rw[l,n];exact this
theorem O6 (c:aM)(s:ByteArray)(k:Nat)(e:k<=s.size):(bz c (s.extract 0 k)).1=2\/bz c (s.extract 0 k)=bz c s:=by
 unfold bz;by_cases d:c.fm=1
 ·rw[zj d,zj d];rcases Ij c.mg c.fr s k e with h|h
  ·exact .inl h
  right;rw[h]
 rw[zi d,zi d];by_cases b:c.fm=2
 ·rw[zj b,zj b];rcases vl c.fr s k e with h|h
  ·right;rw[h]
  left;rw[h]
 rw[zi b,zi b];rcases Ih c.fr c.un s k e with h|⟨_,h⟩
 ·left;rw[h]
 right;rw[h]
theorem CP (s t:ByteArray):(s++t).extract 0 s.size=s:=by
 apply aF;rw[aq,aW,zL,zV (by rw[aa];exact zd _),cP]
theorem O7 (c:aM)(s t:ByteArray)(h:(bz c s).1≠2):bz c (s++t)=bz c s:=by
 have:=O6 c (s++t) s.size (by rw[bT];omega);rw[CP]at this;rcases this with h1|h1
 ·exact absurd h1 h
 exact h1.symm
theorem Tf {c:aM}(h:(bz c s).1=2):bz c s=(2,om,0,0):=by
 unfold bz at h⊢;by_cases d:c.fm=1
 ·rw[zj d]at h⊢;have h:(aX c.mg c.fr s).1=2:=h;have:=vt c.mg c.fr s (by rw[h];decide);rw[this,h];rfl
 rw[zi d]at h⊢;by_cases b:c.fm=2
 ·rw[zj b]at h⊢;have h:(aj c.fr s).1=2:=h;have:=O4 c.fr s (by rw[h];decide);rw[this,h];rfl
 rw[zi b]at h⊢;have h:(aT c.fr c.un s).1=2:=h;rw[qc c.fr c.un s h];rfl
theorem O8 {c:aM}(h:(bz c s).1=0):0<(bz c s).2.2.1:=by
 have e:(aj c.fr s).1=0->0<(aj c.fr s).2.2.2:=fun h=>by
  obtain⟨_,_,_,k,_⟩:=vo c.fr s (aj c.fr s).2.1 (aj c.fr s).2.2.1 (aj c.fr s).2.2.2 (ZZ h rfl);have:=EF ((aR (aj c.fr s).2.1).length+(aj c.fr s).2.2.1.size);omega
 unfold bz at h⊢;by_cases d:c.fm=1
 ·rw[zj d]at h⊢;obtain⟨_,_,k,_⟩:=vr c.mg c.fr s (aX c.mg c.fr s).2.1 (aX c.mg c.fr s).2.2.1 (aX c.mg c.fr s).2.2.2 (ZZ h rfl);simp only;omega
 rw[zi d]at h⊢;by_cases b:c.fm=2
 ·rw[zj b]at h⊢;exact e h
 rw[zi b]at h⊢;obtain⟨j,_,i⟩:=sK c.fr c.un s h;simp only;rw[i];exact e j
theorem cz {c:aM}(b:c.right=true)(s:ByteArray):bh c s=bz c s:=by unfold bh;rw[zj b]
theorem vu (c:aM):mG (bh c):=by
 cases hr:c.right with
 |false=>
  have e:∀s,bh c s=(1,om,0,0):=fun s=>by unfold bh;rw[hr];rfl
  exact⟨(fun s h=>by rw[e]at h;cases h),(fun s t _=>by rw[e,e]),(fun s h=>by rw[e])⟩
 |true=>
  refine⟨fun s h=> ?_,fun s t h=> ?_,fun s h=> ?_⟩
  ·rw[cz hr]at h⊢;exact⟨O8 h,(Mb hr h).2.1⟩
  ·rw[cz hr]at h;rw[cz hr,cz hr];exact O7 c s t h
  rw[cz hr]at h⊢;rw[Tf h]
theorem Il {c:aM}(i:c.right=true):(bh c ByteArray.empty).1=2:=by
 rw[cz i];have h:ay ByteArray.empty=(0,0,2):=jo _ _ _ _ (by simp);have e:aj c.fr ByteArray.empty=(2,0,ByteArray.empty,0):=by
  rw[eH];have:aw c.fr ByteArray.empty=(0,0,2):=by unfold aw;rw[h];rfl
  rw[this];rfl
 unfold bz;by_cases d:c.fm=1
 ·rw[zj d];unfold aX;rfl
 rw[zi d];by_cases b:c.fm=2
 ·rw[zj b,e]
 rw[zi b,bN,e];rfl
def gJ (c:aM)(s:ByteArray):Nat:=
 if c.fm=1 then(if s.size<24 then 0 else 24+da (s.extract 16 20).data.toList)
 else if(aw c.fr s).2.2≠0 then 0 else(aw c.fr s).2.1+(aw c.fr s).1
theorem CQ (s t:ByteArray)(i j:Nat)(h:j<=s.size):(s++t).extract i j=s.extract i j:=by
 have:=ij (s++t) s.size i j h;rw[CP]at this;exact this.symm
theorem ES (m:Nat)(most:Int)(s t:ByteArray)(h:(aX m most s).1=2)(i:24<=s.size)(e:(s++t).size<24+da (s.extract 16 20).data.toList):(aX m most (s++t)).1=2:=by
 have hz:=bT s t;unfold aX at h⊢;rw[CQ s t 0 4 (by omega),CQ s t 4 16 (by omega),CQ s t 16 20 (by omega)];rw[zi (by omega)]at h⊢;by_cases b:s.extract 0 4≠ra m
 ·rw[zj b]at h;cases h
 rw[zi b]at h⊢;rw[zi (by omega)]at h⊢;by_cases d:(cX (s.extract 4 16)).1≠0
 ·rw[zj d]at h;cases h
 rw[zi d]at h⊢;rw[zi (by omega)]at h⊢;generalize da (s.extract 16 20).data.toList=N at*;by_cases c:most<N
 ·rw[zj c]at h;cases h
 rw[zi c,zj e]
theorem Im (most:Int)(s t:ByteArray)(h:(aw most s).2.2=0):aw most (s++t)=aw most s:=by
 have b:=sI (s++t) s.size (by rw[bT];omega);rw[CP]at b;rcases b with b|b
 ·unfold aw;rw[b]
 unfold aw at h;rw[b]at h;cases h
theorem ET (most:Int)(s t:ByteArray)(b:(aw most s).2.2=0)(c:(s++t).size<(aw most s).2.1+(aw most s).1):(aj most (s++t)).1=2:=by
 rw[eH,Im most s t b,zi (by rw[b];simp),zj c]
theorem EU (c:aM)(s t:ByteArray)(h:(bz c s).1=2)(b:(s++t).size<gJ c s):(bz c (s++t)).1=2:=by
 unfold gJ at b;by_cases d:c.fm=1
 ·rw[zj d]at b;unfold bz at h⊢;rw[zj d]at h⊢;by_cases j:s.size<24
  ·rw[zj j]at b;omega
  rw[zi j]at b;exact ES c.mg c.fr s t h (by omega) b
 rw[zi d]at b;by_cases e:(aw c.fr s).2.2≠0
 ·rw[zj e]at b;omega
 rw[zi e]at b;have:=ET c.fr s t (zE.1 e) b;unfold bz;rw[zi d];by_cases i:c.fm=2
 ·rw[zj i];exact this
 rw[zi i,bN,zj (by rw[this];decide)];exact this
theorem O9 (s:ByteArray)(size k b:Nat)(out:List UInt8)(h:out.length<=size)(c:(bZ s size k b out).1=0):(bZ s size k b out).2.2.length<=size:=by
 unfold bZ at c⊢;by_cases i:s.size<k+bg b
 ·rw[zj i];exact h
 rw[zi i]at c⊢;by_cases d:(b%4≠0/\(j4 b (iD s k b)=0\/out.length<j4 b (iD s k b)))\/size-out.length<cK b (iD s k b)
 ·rw[zj d];exact h
 rw[zi d]at c⊢;by_cases j:b%4=0
 ·rw[zj j]at c⊢;by_cases e:s.size<k+bg b+cK b (iD s k b)
  ·rw[zj e];exact h
  rw[zi e];simp only[zk,aa];rw[ar _ _ _ (by omega)];omega
 rw[zi j];simp only[uQ];omega
theorem Ki (s:ByteArray)(size:Nat):∀(f k:Nat) (out:List UInt8),out.length<=size->(gP s size f k out).2.length<=size
 |0,k,out,_=>by simp[gP]
 |f+1,k,out,h=>by
  unfold gP;by_cases c:k<s.size
  ·rw[Yg c];by_cases b:(bZ s size k s[k].toNat out).1=0
   ·rw[zj b];exact Ki s size f _ _ (O9 s size k _ out h b)
   rw[zi b];simp
  rw[dif_neg c];split
  ·simp
  exact h
theorem EV (b c:Int)(s:ByteArray):(((aT b c s).2.2.1.size:Nat):Int)<=max c 0:=by
 rw[bN];split
 ·show((0:Nat):Int)<=_;omega
 split
 ·show((0:Nat):Int)<=_;omega
 split
 ·show((0:Nat):Int)<=_;omega
 split
 ·show((0:Nat):Int)<=_;omega
 rename_i h d e i
 show(((a8 (aj b s).2.2.1 c).2.length:Nat):Int)<=_
 unfold a8 iR;rw[zi d,zi e];have:=Ki ((aj b s).2.2.1.extract (aB (aj b s).2.2.1).2.1 (aj b s).2.2.1.size) (aB (aj b s).2.2.1).1 (((aj b s).2.2.1.extract (aB (aj b s).2.2.1).2.1 (aj b s).2.2.1.size).size+1) 0 [] (by simp);omega
theorem Io (s:ByteArray)(a b:Nat):(s.extract a b).size<=s.size:=by simp;omega
theorem Ip (s:ByteArray):(cX s).2.size<=12:=by
 unfold cX;split
 ·rename_i h;exact(dx h.2).2
 exact yb _
theorem EW (m:Nat)(most:Int)(s:ByteArray):(aX m most s).2.1.size<=12/\(aX m most s).2.2.1.size<=s.size:=by
 unfold aX;repeat' split
 all_goals dsimp only
 all_goals first|with_reducible exact⟨Ip _,Io _ _ _⟩|exact⟨by simp,by simp⟩
theorem EX (most:Int)(s:ByteArray):(aj most s).2.2.1.size<=s.size:=by
 by_cases h:(aj most s).1=0
 ·rw[eH]at h⊢;generalize aw most s=p at*;generalize ay (s.extract p.2.1 (p.2.1+p.1))=q at*;by_cases c:p.2.2≠0
  ·rw[zj c];exact yb _
  rw[zi c]at h⊢;by_cases b:s.size<p.2.1+p.1
  ·rw[zj b];exact yb _
  rw[zi b]at h⊢;by_cases d:q.2.2≠0
  ·rw[zj d];exact yb _
  rw[zi d];exact zG (Io _ _ _) (Io _ _ _)
 rw[O4 most s h];exact yb _
theorem Mc (c:aM)(s:ByteArray):(bz c s).2.1.nm.size<=12/\(((bz c s).2.1.body.size:Nat):Int)<=max (s.size:Int) (max c.un 0):=by
 unfold bz;split
 ·have:=EW c.mg c.fr s;exact⟨this.1,by have:=this.2;show(((aX c.mg c.fr s).2.2.1.size:Nat):Int)<=_;omega⟩
 split
 ·have:=EX c.fr s;exact⟨yb _,by show(((aj c.fr s).2.2.1.size:Nat):Int)<=_;omega⟩
 have:=EV c.fr c.un s;exact⟨yb _,by show(((aT c.fr c.un s).2.2.1.size:Nat):Int)<=_;omega⟩
open Go.RowKit
def iJ (c:aM)(b:ByteArray)(nd:Nat):Prop:=∀T:ByteArray,(b++T).size<nd->(bh c (b++T)).1=2
theorem iJ.zero (c:aM)(b:ByteArray):iJ c b 0:=fun T h=>absurd h (by omega)
theorem iJ.here {c:aM}{b:ByteArray}(h:iJ c b d)(e:b.size<d):(bh c b).1=2:=by
 have:=h ByteArray.empty (by rw[iI];exact e);rwa [iI]at this
theorem iJ.more {c:aM}{b:ByteArray}(h:iJ c b d)(s:ByteArray):iJ c (b++s) d:=fun T i=>by
 have e:b++s++T=b++(s++T):=aF (by simp only[aW,zC]);rw[e]at i⊢;exact h _ i
theorem iJ.of {c:aM}(d:c.right=true){b:ByteArray}(h:(bh c b).1=2):iJ c b (gJ c b):=fun T e=>by
 rw[cz d]at h⊢;exact EU c b T h e
theorem bV :k∈v.ownBlock.toList↔v.ownBlock=some k:=by simp
theorem lE.only {a b:World}{c:Value}(h:lE a b v c):ae v.ownBlock.toList a b:=ae.eR h.grown
theorem bP.qf {w w':World}{base:Nat}{E:TypeId}{l:List UInt8}{L:List Nat}(h:bP w base E v l)(d:ae L w w')(c:∀k,v.ownBlock=some k->k∉L):bP w' base E v l:=h.ah fun k b e=>d.block k b (c k e)
def rF (g:Nat)(bv:Value):List Nat:=g::bv.ownBlock.toList
theorem eT {g:Nat}{b:Value}:k∈rF g b↔k=g\/b.ownBlock=some k:=by simp[rF]
def bu (n:Nat):Nat:=if n<253 then n else if n<65536 then 253 else if n<4294967296 then 254 else 255
def bo (b:Nat):Nat:=if b=253 then 2 else if b=254 then 4 else 8
def dr (n:Nat):List UInt8:=if n<253 then [ub n]else ub (bu n)::jr n (bo (bu n))
def au :List UInt8->Nat×Nat×Int
 | []=>(0,0,2)
 |b::t=>if b.toNat<253 then(b.toNat,1,0)else if t.length<bo b.toNat then(0,0,2)
  else if bu (da (t.take (bo b.toNat)))=b.toNat then(da (t.take (bo b.toNat)),1+bo b.toNat,0)else(0,0,3)
theorem mS (b:Nat):2<=bo b/\bo b<=8:=by unfold bo;split<;>(try split)<;>omega
theorem Iq (n:Nat):bu n<256:=by unfold bu;split<;>(try split)<;>(try split)<;>omega
theorem Ir (h:¬n<253):253<=bu n:=by unfold bu;rw[zi h];split<;>(try split)<;>omega
theorem uq (h:¬n<253)(d:n<18446744073709551616):n<2^(8*bo (bu n)):=by
 unfold bu;rw[zi h];by_cases c:n<65536
 ·rw[zj c];show n<2^16;omega
 rw[zi c];by_cases b:n<4294967296
 ·rw[zj b];show n<2^32;omega
 rw[zi b];show n<2^64;omega
theorem je (n:Nat):1<=(dr n).length/\(dr n).length<=9:=by
 unfold dr;split
 ·simp
 have:=mS (bu n);simp[bc];omega
theorem vw (n:Nat)(q:List UInt8)(b:n<18446744073709551616):au (dr n++q)=(n,(dr n).length,0):=by
 unfold dr;by_cases h:n<253
 ·rw[zj h];simp only[zW,yo,au,bn n (by omega),zj h,yQ]
 rw[zi h];have d:=Ir h;have c:=Iq n;simp only[zW,au,bn _ c,zi (show¬bu n<253 by omega)];rw[zi (by rw[zk,bc];omega),ZN (bc _ _),OY _ _ (uq h b),zj rfl];simp[bc,Zw]
theorem iK (r:List UInt8)(n z:Nat)(h:au r=(n,z,0)):n<18446744073709551616/\z<=r.length/\r.take z=dr n/\(dr n).length=z:=by
 cases r with
 |nil=>cases h
 |cons b t=>
  have l:=b.toNat_lt;have j:ub (b.toNat:Nat)=b:=by apply zT.1;rw[bn _ l]
  simp only[au]at h;by_cases c:b.toNat<253
  ·rw[zj c]at h;injection h with e1 e2;injection e2 with e2 _;subst e1 e2;refine⟨by omega,by simp, ?_, ?_⟩
   ·unfold dr;rw[zj c,j];rfl
   unfold dr;rw[zj c];rfl
  rw[zi c]at h;by_cases i:t.length<bo b.toNat
  ·rw[zj i]at h;injection h with _ h;injection h with _ h;cases h
  rw[zi i]at h;by_cases e:bu (da (t.take (bo b.toNat)))=b.toNat
  ·rw[zj e]at h;injection h with e1 e2;injection e2 with e2 _;have p:=jy (t.take (bo b.toNat));have d:(t.take (bo b.toNat)).length=bo b.toNat:=by rw[zU];omega
   have m:=mS b.toNat;rw[d]at p;have s:2^(8*bo b.toNat)<=18446744073709551616:=le_pow _ m.2;have k:dr n=b::t.take (bo b.toNat):=by
    subst e1;have q:¬da (t.take (bo b.toNat))<253:=by
     intro o;have:bu (da (t.take (bo b.toNat)))=da (t.take (bo b.toNat)):=by unfold bu;rw[zj o]
     omega
    unfold dr;rw[zi q,e,j];congr 1
    have:=OZ (t.take (bo b.toNat));rwa [d]at this
   refine⟨by omega,by simp only[zz];omega, ?_, ?_⟩
   ·rw[k,<-e2,Zw,zR]
   rw[k,zz,d];omega
  rw[zi e]at h;injection h with _ h;injection h with _ h;cases h
theorem EY (r:List UInt8):au (r.take 9)=au r:=by
 cases r with
 |nil=>rfl
 |cons b t=>
  have c:=mS b.toNat;simp only[zR,au];rw[xu,show min (bo b.toNat) 8=bo b.toNat from by omega,zU];by_cases h:t.length<bo b.toNat
  ·rw[zj (show min 8 t.length<bo b.toNat by omega),zj h]
  rw[zi (show¬min 8 t.length<bo b.toNat by omega),zi h]
