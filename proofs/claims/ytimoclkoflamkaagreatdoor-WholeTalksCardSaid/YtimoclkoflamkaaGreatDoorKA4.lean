/- Plain frames, and packed ones: plain functions and laws. No program in sight. -/
import Derived.Test.YtimoclkoflamkaaGreatDoorKA3
set_option linter.all false
namespace Go.Proofs.YtimoclkoflamkaaGreatDoor
variable {n k d:Nat}{s:ByteArray}{v:Value}
def zc:=@List.set_cons_zero
def zC:=@Decidable.not_not
def yI:=@List.length_singleton
def xz:=@List.set_append_right
def ZW:=@List.take_left'
def Yh:=@List.take_add_one
def aw (most:Int)(s:ByteArray):Nat×Nat×Int:=
 if(ay s).2.2=0 then(if most<(ay s).1 then(0,0,5)else((ay s).1,(ay s).2.1,0))else(0,0,(ay s).2.2)
def an (most:Int)(s:ByteArray):Int×Nat×ByteArray×Nat:=
 if(aw most s).2.2≠0 then((aw most s).2.2,0,ByteArray.empty,0)
 else if s.size<(aw most s).2.1+(aw most s).1 then(2,0,ByteArray.empty,0)
 else if(ay (s.extract (aw most s).2.1 ((aw most s).2.1+(aw most s).1))).2.2≠0 then(3,0,ByteArray.empty,0)
 else(0,(ay (s.extract (aw most s).2.1 ((aw most s).2.1+(aw most s).1))).1,
  (s.extract (aw most s).2.1 ((aw most s).2.1+(aw most s).1)).extract (ay (s.extract (aw most s).2.1 ((aw most s).2.1+(aw most s).1))).2.1 (aw most s).1,
  (aw most s).2.1+(aw most s).1)
theorem eM (most:Int)(s:ByteArray):an most s=(
 if(aw most s).2.2≠0 then((aw most s).2.2,0,ByteArray.empty,0)
 else if s.size<(aw most s).2.1+(aw most s).1 then(2,0,ByteArray.empty,0)
 else if(ay (s.extract (aw most s).2.1 ((aw most s).2.1+(aw most s).1))).2.2≠0 then(3,0,ByteArray.empty,0)
 else(0,(ay (s.extract (aw most s).2.1 ((aw most s).2.1+(aw most s).1))).1,
  (s.extract (aw most s).2.1 ((aw most s).2.1+(aw most s).1)).extract (ay (s.extract (aw most s).2.1 ((aw most s).2.1+(aw most s).1))).2.1 (aw most s).1,
  (aw most s).2.1+(aw most s).1)):=rfl
def eF (id:Nat)(body:List UInt8):List UInt8:=aR (aR id++body).length++(aR id++body)
theorem sC (most:Int)(s:ByteArray)(h:(aw most s).2.2=0):((aw most s).1:Int)<=most/\(aw most s).2.1<=s.size/\0<(aw most s).2.1/\(aw most s).2.1<=10:=by
 unfold aw at h⊢;by_cases b:(ay s).2.2=0
 ·rw[zg b]at h⊢;have d:=ig s b;by_cases c:most<(ay s).1
  ·rw[zg c]at h;simp at h
  rw[zf c];simp only;omega
 rw[zf b]at h;exact absurd h b
theorem wy (most:Int)(id:Nat)(body:ByteArray)(s:ByteArray)(rest:List UInt8)(hid:id<18446744073709551616)(b:s.data.toList=eF id body.data.toList++rest)(p:((aR id).length+body.size:Int)<=most)(q:body.size<=1000000):
 an most s=(0,id,body,(eF id body.data.toList).length):=by
 unfold eF at b⊢;have o:=bC 10 id (by omega) (by omega);have l:(aR id++body.data.toList).length=(aR id).length+body.size:=by rw[zh,aa]
 have i:=km (aR id++body.data.toList).length s ((aR id++body.data.toList)++rest) (by rw[b,zB]) (by omega);have m:aw most s=((aR id++body.data.toList).length,(aR (aR id++body.data.toList).length).length,0):=by
  unfold aw;rw[i];simp only[xM];rw[zf (by rw[l];omega)]
 have n:s.size=(aR (aR id++body.data.toList).length).length+(aR id++body.data.toList).length+rest.length:=by
  rw[<-aa,b];simp only[zh]
 generalize c:(aR (aR id++body.data.toList).length).length=K at*;generalize h:(aR id++body.data.toList).length=N at*;have e:(s.extract K (K+N)).data.toList=aR id++body.data.toList:=by
  rw[aq,b,zB,List.take_append,List.drop_append,c];have d:(List.take (K+N) (aR N)).length=K:=by rw[zQ,c];omega
  rw[zL (by rw[d];exact ze _),d,Zf,zG,yo,show K+N-K=N from by omega,zS (by omega),zw (by omega)]
 have k:=km id (s.extract K (K+N)) body.data.toList e hid;have j:(s.extract K (K+N)).extract (aR id).length N=body:=by
  apply aE;rw[aq,e,zw (by omega),yy (ze _),Yo,yo]
 unfold an;rw[m];simp only[YC,yV,xO];rw[zf (by omega),k];simp only[yV,xO];rw[j,zh,c,h]
def aT (most iU:Int)(s:ByteArray):Int×Nat×ByteArray×Nat×Nat:=
 if(an most s).1≠0 then((an most s).1,0,ByteArray.empty,0,0)
 else if(aB (an most s).2.2.1).2.2≠0 then((if(aB (an most s).2.2.1).2.2=5 then 5 else 3),0,ByteArray.empty,0,0)
 else if iU<(aB (an most s).2.2.1).1 then(5,0,ByteArray.empty,0,0)
 else if(bc (an most s).2.2.1 iU).1≠0 then(3,0,ByteArray.empty,0,(aB (an most s).2.2.1).1)
 else(0,(an most s).2.1,⟨(bc (an most s).2.2.1 iU).2.toArray⟩,(an most s).2.2.2,(aB (an most s).2.2.1).1)
theorem bP (most b:Int)(s:ByteArray):aT most b s=(
 if(an most s).1≠0 then((an most s).1,0,ByteArray.empty,0,0)
 else if(aB (an most s).2.2.1).2.2≠0 then((if(aB (an most s).2.2.1).2.2=5 then 5 else 3),0,ByteArray.empty,0,0)
 else if b<(aB (an most s).2.2.1).1 then(5,0,ByteArray.empty,0,0)
 else if(bc (an most s).2.2.1 b).1≠0 then(3,0,ByteArray.empty,0,(aB (an most s).2.2.1).1)
 else(0,(an most s).2.1,⟨(bc (an most s).2.2.1 b).2.toArray⟩,(an most s).2.2.2,(aB (an most s).2.2.1).1)):=rfl
theorem N0 (s:ByteArray)(c:Nat)(j:c<=s.size)(f:Nat):∀i n,cl (s.extract 0 c) f i n=cl s f i n\/cl (s.extract 0 c) f i n=(0,0,2):=by
 have hz:(s.extract 0 c).size=c:=by rw[ar _ _ _ j];omega
 induction f with
 |zero=>intro i n;exact .inl rfl
 |succ f ih=>
  intro i n;by_cases hi:i<c
  ·have d:i<(s.extract 0 c).size:=by omega
   have h:i<s.size:=by omega
   have e:(s.extract 0 c)[i]=s[i]:=by
    have b:=iA (s.extract 0 c) i d;rw[aq,zG,yk hi,iA s i h]at b;injection b with b;exact b.symm
   rw[cl,cl,Ys d,Ys h,e];split
   ·exact .inl rfl
   split
   ·exact .inl rfl
   exact ih _ _
  exact .inr (jx _ _ _ _ (by omega))
theorem tF (s:ByteArray)(c:Nat)(b:c<=s.size):ay (s.extract 0 c)=ay s\/ay (s.extract 0 c)=(0,0,2):=N0 s c b 10 0 0
theorem wz (most:Int)(s:ByteArray)(c:Nat)(j:c<=s.size):an most (s.extract 0 c)=an most s\/an most (s.extract 0 c)=(2,0,ByteArray.empty,0):=by
 have hz:(s.extract 0 c).size=c:=by rw[ar _ _ _ j];omega
 rcases tF s c j with h|h
 ·have d:aw most (s.extract 0 c)=aw most s:=by unfold aw;rw[h]
  rw[eM most (s.extract 0 c),eM most s,d,hz];by_cases b:(aw most s).2.2≠0
  ·rw[zg b,zg b];exact .inl rfl
  rw[zf b,zf b];by_cases i:c<(aw most s).2.1+(aw most s).1
  ·rw[zg i];exact .inr rfl
  have k:¬s.size<(aw most s).2.1+(aw most s).1:=by omega
  rw[zf i,zf k];have e:(s.extract 0 c).extract (aw most s).2.1 ((aw most s).2.1+(aw most s).1)=s.extract (aw most s).2.1 ((aw most s).2.1+(aw most s).1):=by
   apply aE;rw[aq,aq,aq,zG,xw,yF (by omega)]
  rw[e];exact .inl rfl
 have d:aw most (s.extract 0 c)=(0,0,2):=by unfold aw;rw[h];rfl
 rw[eM most (s.extract 0 c),d];exact .inr rfl
theorem qC (most b:Int)(s:ByteArray)(h:(aT most b s).1=2):aT most b s=(2,0,ByteArray.empty,0,0):=by
 rw[bP]at h⊢;by_cases c:(an most s).1≠0
 ·rw[zg c]at h⊢;simp only at h⊢;rw[h]
 rw[zf c]at h⊢;split at h
 ·simp only at h;split at h<;>omega
 split at h
 ·simp at h
 split at h<;>simp at h
theorem Jz (most b:Int)(s:ByteArray)(c:Nat)(i:c<=s.size):aT most b (s.extract 0 c)=(2,0,ByteArray.empty,0,0)\/((aT most b s).1≠2/\aT most b (s.extract 0 c)=aT most b s):=by
 rcases wz most s c i with h|h
 ·have e:aT most b (s.extract 0 c)=aT most b s:=by rw[bP,bP most b s,h]
  by_cases d:(aT most b s).1=2
  ·left;rw[e];exact qC most b s d
  exact .inr ⟨d,e⟩
 left;rw[bP,h];rfl
theorem wA (s:ByteArray):∀(f i n m k:Nat),cl s f i n=(m,k,0)->∃r,m=n+r*2^(7*i)/\(0<i->0<r)/\i<k/\k<=s.size/\aR r=(s.data.toList.take k).drop i
 |0,i,n,m,k,h=>by simp[cl]at h
 |f+1,i,n,m,k,h=>by
  by_cases hi:i<s.size
  ·by_cases d:(i=9/\1<s[i].toNat)\/(0<i/\s[i].toNat=0)
   ·rw[oq s f i n hi d]at h;simp at h
   have l:s.data.toList[i]?=some s[i]:=by
    rw[zr (by rw[aa];exact hi)];rfl
   by_cases c:s[i].toNat<128
   ·rw[jH s f i n hi d c]at h;injection h with h1 b;injection b with b _;refine⟨s[i].toNat,by rw[<-h1,Nat.mod_eq_of_lt c],fun y=>by omega,by omega,by omega, ?_⟩;rw[il c,<-b];have hu:ub (s[i].toNat:Nat)=s[i]:=by apply zP.1;rw[bn _ (by omega)]
    rw[hu,Yh,l,Option.toList_some,yy (by rw[zQ,aa];omega),zL (by rw[zQ];omega),yo]
   rw[jI s f i n hi d c]at h;obtain⟨r,q,j,x,u,p⟩:=wA s f (i+1) _ m k h;have z:=j (by omega);have A:=s[i].toNat_lt;have b:2^(7*(i+1))=128*2^(7*i):=by rw[show 7*(i+1)=7+7*i from by omega,xY]
   refine⟨s[i].toNat%128+r*128,by rw[q,b,Nat.add_mul,Nat.mul_assoc,yd],fun _=>by omega,by omega,u, ?_⟩;have o:(s[i].toNat%128+r*128)%128=s[i].toNat%128:=by omega
   have e:(s[i].toNat%128+r*128)/128=r:=by omega
   rw[jy (by omega),o,e,p];have hu:ub (s[i].toNat%128+128:Nat)=s[i]:=by apply zP.1;rw[bn _ (by omega)];omega
   rw[hu];have w:i<(s.data.toList.take k).length:=by rw[zQ,aa];omega
   rw[xC w];rw[List.getElem_take];rfl
  rw[jx s (f+1) i n hi]at h;simp at h
theorem qD (s:ByteArray)(h:(ay s).2.2=0):aR (ay s).1=s.data.toList.take (ay s).2.1/\(ay s).2.1=(aR (ay s).1).length:=by
 obtain⟨r,b,_,_,e,d⟩:=wA s 10 0 0 (ay s).1 (ay s).2.1 (by rw[<-h];rfl);have c:(ay s).1=r:=by simpa using b
 rw[c,d,zG];exact⟨rfl,by rw[zQ,aa];omega⟩
theorem wC (most:Int)(id:Nat)(body:List UInt8)(s:ByteArray)(rest:List UInt8)(b:s.data.toList=eF id body++rest)(d:(aR id++body).length<18446744073709551616):
 aw most s=if most<(aR id++body).length then(0,0,5)else((aR id++body).length,(aR (aR id++body).length).length,0):=by
 have c:=km (aR id++body).length s ((aR id++body)++rest) (by rw[b];unfold eF;rw[zB]) d;unfold aw;rw[c];simp only[xM]
theorem tG (most:Int)(s:ByteArray)(h:(aw most s).2.2=5):an most s=(5,0,ByteArray.empty,0):=by
 unfold an;rw[zg (by rw[h];decide),h]
theorem wD (most:Int)(s:ByteArray)(id:Nat)(body:ByteArray)(n:Nat)(h:an most s=(0,id,body,n)):
 n<=s.size/\id<18446744073709551616/\(((aR id).length+body.size:Nat):Int)<=most/\n=(aR ((aR id).length+body.size)).length+((aR id).length+body.size)/\(⟨(eF id body.data.toList).toArray⟩:ByteArray)=s.extract 0 n:=by
 unfold an at h;by_cases b:(aw most s).2.2≠0
 ·rw[zg b]at h;injection h with h;exact absurd h b
 rw[zf b]at h;have b:=zC.1 b;have e:=sC most s b;have m:aw most s=((ay s).1,(ay s).2.1,0)/\(ay s).2.2=0:=by
  unfold aw at b⊢;by_cases d:(ay s).2.2=0
  ·rw[zg d]at b⊢;by_cases c:most<(ay s).1
   ·rw[zg c]at b;simp at b
   rw[zf c];exact⟨rfl,d⟩
  rw[zf d]at b;exact absurd b d
 obtain⟨o,u⟩:=qD s m.2;rw[m.1]at h e;generalize (ay s).1=N at*;generalize (ay s).2.1=K at*;try simp only at h e
 by_cases d:s.size<K+N
 ·rw[zg d]at h;injection h with h;simp at h
 rw[zf d]at h;by_cases c:(ay (s.extract K (K+N))).2.2≠0
 ·rw[zg c]at h;injection h with h;simp at h
 rw[zf c]at h;have c:=zC.1 c;obtain⟨l,j⟩:=qD _ c;have k:=ig _ c;injection h with _ h;injection h with hid h;injection h with WV hn;rw[hid]at l j k;generalize (ay (s.extract K (K+N))).2.1=J at*;have y:(s.extract K (K+N)).size=N:=by rw[ar _ _ _ (by omega)];omega
 have w:body.size=N-J:=by rw[<-WV,ar _ _ _ (by omega)]
 have p:(aR id).length=J:=j.symm;have i:(aR id).length+body.size=N:=by rw[p,w];omega
 have x:aR id++body.data.toList=(s.extract K (K+N)).data.toList:=by
  have q:(s.extract K (K+N)).data.toList.take N=(s.extract K (K+N)).data.toList:=zw (by rw[aa];omega);rw[l,<-WV];generalize s.extract K (K+N)=R at*;rw[aq R J N,q];exact zE _ _
 refine⟨by omega,k.2.2.2,by rw[i];exact e.1,by rw[i,<-u];exact hn.symm, ?_⟩;apply aE;have r:(aR id++body.data.toList).length=N:=by rw[zh,aa];exact i
 show eF id body.data.toList=_
 unfold eF;rw[r,o,x,aq,aq,zG,<-hn];have:=zE K (s.data.toList.take (K+N));rwa [xw,yF (by omega)]at this
def jz (n:Nat):Nat->List UInt8
 |0=> []
 |k+1=>jz n k++ [ub (n/2^(8*k)%256:Nat)]
theorem bd (n k:Nat):(jz n k).length=k:=by
 induction k with
 |zero=>rfl
 |succ k ih=>simp[jz,ih]
theorem QY {sz:Nat}(h:k<sz):(jz n k++List.replicate (sz-k) (0:UInt8)).set k (ub (n/2^(8*k)%256:Nat))=jz n (k+1)++List.replicate (sz-(k+1)) 0:=by
 obtain⟨d,hd⟩:∃d,sz-k=d+1:=⟨sz-k-1,by omega⟩
 rw[hd,Z0,xz _ _ (by rw[bd];exact ze _),bd,Zf,zc,show sz-(k+1)=d from by omega];simp[jz]
theorem Vb (n k:Nat):(n:Int)/2^(8*k)%256=((ub (n/2^(8*k)%256:Nat)).toNat:Int):=by
 rw[bn _ (by omega)];simp
theorem wE (n k:Nat):jz n (k+1)=ub (n%256:Nat)::jz (n/256) k:=by
 induction k with
 |zero=>simp[jz]
 |succ k ih=>
  rw[jz,ih,jz,zT];congr 4
  rw[Nat.div_div_eq_div_mul,show(256:Nat)=2^8 from rfl,<-xY,show 8+8*k=8*(k+1)from by omega]
def cJ (n:Nat):List UInt8:=if h:n=0 then []else cJ (n/256)++ [ub (n%256:Nat)]
termination_by n
theorem dq :cJ 0= []:=by rw[cJ];simp
theorem gP (h:n≠0):cJ n=cJ (n/256)++ [ub (n%256:Nat)]:=by rw[cJ];simp[h]
theorem Vc (k:Nat):2^(8*(k+1))=256*2^(8*k):=by rw[show 8*(k+1)=8+8*k from by omega,xY]
theorem gC (k:Nat):∀n,n<2^(8*k)->(cJ n).length<=k:=by
 induction k with
 |zero=>intro n h;simp at h;subst h;simp[dq]
 |succ k ih=>
  intro n h;by_cases b:n=0
  ·subst b;simp[dq]
  rw[gP b,zh];have:=ih (n/256) (by rw[Vc]at h;exact Za h);simp;omega
theorem N1 (k:Nat):∀n,n<2^(8*k)->List.replicate (k-(cJ n).length) 0++cJ n=(jz n k).reverse:=by
 induction k with
 |zero=>intro n h;simp at h;subst h;simp[dq,jz]
 |succ k ih=>
  intro n h;have c:=gC (k+1) n h;have hd:n/256<2^(8*k):=by rw[Vc]at h;exact Za h
  rw[wE,List.reverse_cons,<-ih _ hd];by_cases b:n=0
  ·subst b;simp[dq,ub];rw[List.replicate_succ']
  rw[gP b,zh,yI,show k+1-((cJ (n/256)).length+1)=k-(cJ (n/256)).length from by omega,zB]
theorem QZ (k n:Nat):n<2^(8*k)->dg (jz n k)=n:=by
 induction k generalizing n with
 |zero=>intro h;simp at h;subst h;rfl
 |succ k ih=>
  intro h;rw[wE,dg,ih (n/256) (by rw[Vc]at h;exact Za h),bn _ (by omega)];omega
theorem Q4 (l:List UInt8):jz (dg l) l.length=l:=by
 induction l with
 |nil=>rfl
 |cons b t ih=>
  have c:=b.toNat_lt;rw[zx,wE,dg,show(b.toNat+256*dg t)/256=dg t from by omega,ih];congr 1
  rw[show(b.toNat+256*dg t)%256=b.toNat from by omega];apply zP.1;rw[bn _ c]
def rV (n:Nat):ByteArray:=⟨(jz n 4).toArray⟩
theorem jK (n:Nat):(rV n).size=4:=by rw[rV,bJ,bd]
theorem Q5 (n:Nat):(rV n).data.toList=jz n 4:=by simp[rV]
theorem Q6 (s:ByteArray)(h:s.size=4):rV (dg s.data.toList)=s:=by
 have e:=Q4 s.data.toList;rw[aa,h]at e;rw[rV,e,jD]
theorem DR (n:Nat)(h:n<4294967296):dg (rV n).data.toList=n:=by rw[Q5];exact QZ 4 n (by simpa using h)
theorem Q7 (s:ByteArray)(n:Nat)(b:s.size=4)(h:n<4294967296):s=rV n↔dg s.data.toList=n:=by
 constructor
 ·rintro rfl;exact DR n h
 rintro rfl;exact(Q6 s b).symm
theorem vr (s:ByteArray)(b:s.size=4):dg s.data.toList<4294967296:=by
 have:=jG s.data.toList;rw[aa,b]at this;simpa using this
def nk (m:Nat)(nm body:ByteArray):ByteArray:=rV m++eV nm++rV body.size++eU body++body
theorem lS (m:Nat)(nm body:ByteArray)(h:nm.size<=12):(nk m nm body).size=24+body.size:=by
 simp only[nk,bV,jK,ij nm h,lM]
def aZ (m:Nat)(most:Int)(s:ByteArray):Int×ByteArray×ByteArray×Nat:=
 if s.size<4 then(2,ByteArray.empty,ByteArray.empty,0)
 else if s.extract 0 4≠rV m then(9,ByteArray.empty,ByteArray.empty,0)
 else if s.size<16 then(2,ByteArray.empty,ByteArray.empty,0)
 else if(cZ (s.extract 4 16)).1≠0 then(3,ByteArray.empty,ByteArray.empty,0)
 else if s.size<20 then(2,ByteArray.empty,ByteArray.empty,0)
 else if most<dg (s.extract 16 20).data.toList then(5,ByteArray.empty,ByteArray.empty,0)
 else if s.size<24+dg (s.extract 16 20).data.toList then(2,ByteArray.empty,ByteArray.empty,0)
 else if eU (s.extract 24 (24+dg (s.extract 16 20).data.toList))≠s.extract 20 24 then(10,ByteArray.empty,ByteArray.empty,0)
 else(0,(cZ (s.extract 4 16)).2,s.extract 24 (24+dg (s.extract 16 20).data.toList),24+dg (s.extract 16 20).data.toList)
theorem fq (m:Nat)(most:Int)(s:ByteArray):aZ m most s=(
 if s.size<4 then(2,ByteArray.empty,ByteArray.empty,0)
 else if s.extract 0 4≠rV m then(9,ByteArray.empty,ByteArray.empty,0)
 else if s.size<16 then(2,ByteArray.empty,ByteArray.empty,0)
 else if(cZ (s.extract 4 16)).1≠0 then(3,ByteArray.empty,ByteArray.empty,0)
 else if s.size<20 then(2,ByteArray.empty,ByteArray.empty,0)
 else if most<dg (s.extract 16 20).data.toList then(5,ByteArray.empty,ByteArray.empty,0)
 else if s.size<24+dg (s.extract 16 20).data.toList then(2,ByteArray.empty,ByteArray.empty,0)
 else if eU (s.extract 24 (24+dg (s.extract 16 20).data.toList))≠s.extract 20 24 then(10,ByteArray.empty,ByteArray.empty,0)
 else(0,(cZ (s.extract 4 16)).2,s.extract 24 (24+dg (s.extract 16 20).data.toList),24+dg (s.extract 16 20).data.toList)):=rfl
theorem qE (s a b c:ByteArray)(h:s=a++b++c)(i j:Nat)(hi:a.size=i)(d:i+b.size=j):s.extract i j=b:=by
 subst h;subst hi;subst d;apply aE;rw[aq,aX,aX,zS (by simp),zw (by simp),yy (by simp),<-aa,Yo,yo]
theorem CL (a b c d e r:ByteArray)(i:a.size=4)(k:b.size=12)(j:c.size=4)(hd:d.size=4)(s:ByteArray)(h:s=a++b++c++d++e++r):
 s.extract 0 4=a/\s.extract 4 16=b/\s.extract 16 20=c/\s.extract 20 24=d/\s.extract 24 (24+e.size)=e/\s.size=24+e.size+r.size:=by
 refine⟨qE s ByteArray.empty a (b++c++d++e++r) ?_ _ _ rfl (by omega),qE s a b (c++d++e++r) ?_ _ _ i (by omega),qE s (a++b) c (d++e++r) ?_ _ _ (by rw[bV];omega) (by omega),
  qE s (a++b++c) d (e++r) ?_ _ _ (by rw[bV,bV];omega) (by omega),qE s (a++b++c++d) e r ?_ _ _ (by rw[bV,bV,bV];omega) rfl,by rw[h];simp only[bV];omega⟩
 all_goals(rw[h];try simp[ByteArray.append_assoc])
theorem JA (m:Nat)(most:Int)(nm body more:ByteArray)(b:ca nm=true)(n:(body.size:Int)<=most)(l:body.size<4294967296):
 aZ m most (nk m nm body++more)=(0,nm,body,24+body.size):=by
 have hz:=dE b;obtain⟨h,i,c,j,e,d⟩:=CL (rV m) (eV nm) (rV body.size) (eU body) body more (jK _) (ij nm hz.2) (jK _) (lM _) (nk m nm body++more) rfl;have k:=DR body.size l;unfold aZ;rw[h,i,c,k,j,e,d,Cz nm b];rw[zf (by omega),zf (by simp),zf (by omega),zf (by simp),zf (by omega),zf (by omega),zf (by omega),zf (by simp)]
theorem wF (m:Nat)(most:Int)(s nm body:ByteArray)(n:Nat)(h:aZ m most s=(0,nm,body,n)):ca nm=true/\(body.size:Int)<=most/\n=24+body.size/\n<=s.size/\body.size<4294967296/\nk m nm body=s.extract 0 n:=by
 unfold aZ at h;by_cases l:s.size<4
 ·rw[zg l]at h;injection h with h;simp at h
 rw[zf l]at h;by_cases i:s.extract 0 4≠rV m
 ·rw[zg i]at h;injection h with h;simp at h
 rw[zf i]at h;by_cases j:s.size<16
 ·rw[zg j]at h;injection h with h;simp at h
 rw[zf j]at h;by_cases d:(cZ (s.extract 4 16)).1≠0
 ·rw[zg d]at h;injection h with h;simp at h
 rw[zf d]at h;by_cases p:s.size<20
 ·rw[zg p]at h;injection h with h;simp at h
 rw[zf p]at h;have k:(s.extract 16 20).size=4:=ar _ _ _ (by omega);have B:=vr (s.extract 16 20) k;have u:=Q6 (s.extract 16 20) k;generalize dg (s.extract 16 20).data.toList=N at*;by_cases o:most<N
 ·rw[zg o]at h;injection h with h;simp at h
 rw[zf o]at h;by_cases q:s.size<24+N
 ·rw[zg q]at h;injection h with h;simp at h
 rw[zf q]at h;by_cases e:eU (s.extract 24 (24+N))≠s.extract 20 24
 ·rw[zg e]at h;injection h with h;simp at h
 rw[zf e]at h;injection h with _ h;injection h with M3 h;injection h with WV hn;have A:cZ (s.extract 4 16)=(0,nm):=by
  rw[<-M3];have z:(cZ (s.extract 4 16)).1=0:=zC.1 d;exact ZT z rfl
 obtain⟨y,w⟩:=NP _ _ A;have x:body.size=N:=by rw[<-WV,ar _ _ _ (by omega)];omega
 refine⟨w,by omega,by omega,by omega,by omega, ?_⟩;unfold nk;rw[y,x,u,<-WV,zC.1 e,<-zC.1 i,<-hn];apply aE;simp only[aX,aq];generalize s.data.toList=L;have c:∀(a b:Nat),a<=b->L.take a++(L.take b).drop a=L.take b:=by
  intro a b r;have:=zE a (L.take b);rwa [xw,yF r]at this
 rw[zG,c 4 16 (by omega),c 16 20 (by omega),c 20 24 (by omega),c 24 (24+N) (by omega)];rfl
theorem iq (s:ByteArray)(c i j:Nat)(h:j<=c):(s.extract 0 c).extract i j=s.extract i j:=by
 apply aE;rw[aq,aq,aq,zG,xw,yF h]
theorem JB (m:Nat)(most:Int)(s:ByteArray)(c:Nat)(l:c<=s.size):(aZ m most (s.extract 0 c)).1=2\/aZ m most (s.extract 0 c)=aZ m most s:=by
 have hz:(s.extract 0 c).size=c:=by rw[ar _ _ _ l];omega
 unfold aZ;rw[hz];by_cases j:c<4
 ·rw[zg j];exact .inl rfl
 rw[zf j,zf (by omega:¬s.size<4),iq s c 0 4 (by omega)];by_cases d:s.extract 0 4≠rV m
 ·rw[zg d,zg d];exact .inr rfl
 rw[zf d,zf d];by_cases h:c<16
 ·rw[zg h];exact .inl rfl
 rw[zf h,zf (by omega:¬s.size<16),iq s c 4 16 (by omega)];by_cases e:(cZ (s.extract 4 16)).1≠0
 ·rw[zg e,zg e];exact .inr rfl
 rw[zf e,zf e];by_cases i:c<20
 ·rw[zg i];exact .inl rfl
 rw[zf i,zf (by omega:¬s.size<20),iq s c 16 20 (by omega)];generalize dg (s.extract 16 20).data.toList=N;by_cases b:most<N
 ·rw[zg b,zg b];exact .inr rfl
 rw[zf b,zf b];by_cases k:c<24+N
 ·rw[zg k];exact .inl rfl
 rw[zf k,zf (by omega:¬s.size<24+N),iq s c 24 _ (by omega),iq s c 20 24 (by omega)];exact .inr rfl
def bD (c:aF)(s:ByteArray):Int×Fr×Nat×Nat:=
 if c.fm=1 then((aZ c.mg c.fr s).1,⟨0,(aZ c.mg c.fr s).2.1,(aZ c.mg c.fr s).2.2.1⟩,(aZ c.mg c.fr s).2.2.2,0)
 else if c.fm=2 then((an c.fr s).1,⟨(an c.fr s).2.1,ByteArray.empty,(an c.fr s).2.2.1⟩,(an c.fr s).2.2.2,0)
 else((aT c.fr c.un s).1,⟨(aT c.fr c.un s).2.1,ByteArray.empty,(aT c.fr c.un s).2.2.1⟩,(aT c.fr c.un s).2.2.2.1,(aT c.fr c.un s).2.2.2.2)
def bj (c:aF)(s:ByteArray):Int×Fr×Nat×Nat:=if c.right=true then bD c s else(1,oR,0,0)
def CM (fr:Int):Int:=if fr<128 then 1 else if fr<16384 then 2 else 3
def LM (c:aF):Int:=if c.right=true then(if c.fm=1 then 24 else CM c.fr)+c.fr else 0
def nn (c:aF)(f:Fr):Bool:=if c.fm=1 then decide (f.id=0)else decide (f.nm.size=0)
def bg (c:aF)(f:Fr):ByteArray×Int:=
 if c.fm=1 then(if ca f.nm=true then(if 65536<f.body.size then(ByteArray.empty,5)else(nk c.mg f.nm f.body,0))else(ByteArray.empty,11))
 else if c.fm=2 then(if 65536<(aR f.id).length+f.body.size then(ByteArray.empty,5)else(⟨(eF f.id f.body.data.toList).toArray⟩,0))
 else(if c.un<f.body.size then(ByteArray.empty,5)else if 65536<(aR f.id).length+(pack f.body.data.toList).length then(ByteArray.empty,5)else(⟨(eF f.id (pack f.body.data.toList)).toArray⟩,0))
def gQ (c:aF)(f:Fr):ByteArray×Int:=
 if c.right=true/\nn c f=true then(if(bg c f).2≠0 then(ByteArray.empty,(bg c f).2)else if(bD c (bg c f).1).1=5 then(ByteArray.empty,5)else((bg c f).1,0))else(ByteArray.empty,1)
theorem F7 (m:Nat)(most:Int)(nm body more:ByteArray)(b:ca nm=true)(p:most<(body.size:Int))(i:body.size<4294967296):(aZ m most (nk m nm body++more)).1=5:=by
 have hz:=dE b;have n:=lS m nm body hz.2;obtain⟨d,e,c,o,l,k⟩:=CL (rV m) (eV nm) (rV body.size) (eU body) body more (jK _) (ij nm hz.2) (jK _) (lM _) (nk m nm body++more) rfl;have h:=DR body.size i;have j:(cZ (eV nm)).1=0:=by rw[Cz nm b]
 unfold aZ;rw[d,e,c,h,zf (by omega),zf (by simp),zf (by omega),zf (by simp[j]),zf (by omega),zg (by omega)]
theorem iL (s:ByteArray):s++ByteArray.empty=s:=aE (by rw[aX];simp)
theorem Q8 {c:aF}{f:Fr}{S:ByteArray}(hid:f.id<18446744073709551616)(h:gQ c f=(S,0))(more:ByteArray):(∃m,bD c (S++more)=(0,f,S.size,m))/\(S.size:Int)<=LM c:=by
 unfold gQ at h;by_cases p:c.right=true/\nn c f=true;case neg=>rw[zf p]at h;injection h with _ h;cases h
 rw[zg p]at h;by_cases b:(bg c f).2≠0
 ·rw[zg b]at h;injection h with _ h;exact absurd h b
 rw[zf b]at h;by_cases d:(bD c (bg c f).1).1=5
 ·rw[zg d]at h;injection h with _ h;cases h
 rw[zf d]at h;injection h with h _;rw[h]at d;have b:=zC.1 b;obtain⟨s,l⟩:=p;have C:=(c.ik).1 s;obtain⟨id,nm,body⟩:=f;unfold bg at h b;unfold nn at l;unfold LM;rw[zg s];unfold bD at d⊢;simp only at h b l hid;by_cases o:c.fm=1
 ·rw[zg o]at h b l d⊢;rw[zg o];have x:id=0:=by simpa using l
  cases hm:ca nm with
  |false=>rw[hm]at b;simp at b
  |true=>
   rw[hm]at b h;simp only[xM]at b h;by_cases e:65536<body.size
   ·rw[zg e]at b;simp at b
   rw[zf e]at h;simp only at h;have i:(body.size:Int)<=c.fr:=by
    rcases Int.lt_or_le c.fr (body.size:Int)with aD|lK
    ·have:=F7 c.mg c.fr nm body ByteArray.empty hm aD (by omega);rw[iL,h]at this;exact absurd this d
    exact lK
   have j:=JA c.mg c.fr nm body more hm i (by omega);have hz:=lS c.mg nm body (dE hm).2;rw[h]at j hz;rw[j,x];exact⟨⟨0,by rw[hz]⟩,by rw[hz];omega⟩
 rw[zf o]at h b l d⊢;rw[zf o];have q:nm=ByteArray.empty:=by
  have:nm.size=0:=by simpa using l
  apply aE;exact zk (by rw[aa];exact this)
 have r:∀N:Nat,(N:Int)<=c.fr->(((aR N).length+N:Nat):Int)<=CM c.fr+c.fr:=fun N D=>by
  unfold CM;split
  ·have:=bC 1 N (by omega) (by omega);omega
  split
  ·have:=bC 2 N (by omega) (by omega);omega
  have:=bC 3 N (by omega) (by omega);omega
 by_cases u:c.fm=2
 ·rw[zg u]at h b d⊢;by_cases e:65536<(aR id).length+body.size
  ·rw[zg e]at b;simp at b
  rw[zf e]at h;simp only at h;have k:S.data.toList=eF id body.data.toList:=by rw[<-h]
  have i:(((aR id++body.data.toList).length:Nat):Int)<=c.fr:=by
   rcases Int.lt_or_le c.fr (((aR id++body.data.toList).length:Nat):Int)with aD|lK
   ·have:=wC c.fr id body.data.toList S [] (by rw[k,yO]) (by rw[zh,aa];omega);rw[zg aD]at this;have:=tG c.fr S (by rw[this]);rw[this]at d;exact absurd rfl d
   exact lK
  rw[zh,aa]at i;have j:=wy c.fr id body (S++more) more.data.toList hid (by rw[aX,k]) (by omega) (by omega);have n:S.size=(eF id body.data.toList).length:=by rw[<-aa,k]
  rw[j,q];refine⟨⟨0,by rw[n]⟩, ?_⟩;have:=r ((aR id).length+body.size) i;rw[n];unfold eF;rw[zh,zh,aa];exact this
 rw[zf u]at h b d⊢;by_cases hu:c.un<body.size
 ·rw[zg hu]at b;simp at b
 rw[zf hu]at h b;by_cases e:65536<(aR id).length+(pack body.data.toList).length
 ·rw[zg e]at b;simp at b
 rw[zf e]at h;simp only at h;have w:body.data.toList.length<=65536:=by rw[aa];omega
 have k:S.data.toList=eF id (pack body.data.toList):=by rw[<-h]
 have i:(((aR id++pack body.data.toList).length:Nat):Int)<=c.fr:=by
  rcases Int.lt_or_le c.fr (((aR id++pack body.data.toList).length:Nat):Int)with aD|lK
  ·have:=wC c.fr id (pack body.data.toList) S [] (by rw[k,yO]) (by rw[zh];omega);rw[zg aD]at this;have:=tG c.fr S (by rw[this]);have y:aT c.fr c.un S=(5,0,ByteArray.empty,0,0):=by rw[bP,this];simp
   rw[y]at d;exact absurd rfl d
  exact lK
 rw[zh]at i;have j:=wy c.fr id ⟨(pack body.data.toList).toArray⟩ (S++more) more.data.toList hid (by rw[aX,k]) (by rw[bJ];omega) (by rw[bJ];omega);simp only at j;have A:=CE ⟨(pack body.data.toList).toArray⟩ body.data.toList w rfl;have B:=FZ ⟨(pack body.data.toList).toArray⟩ body.data.toList w rfl c.un (by rw[aa];omega);have n:S.size=(eF id (pack body.data.toList)).length:=by rw[<-aa,k]
 have z:aT c.fr c.un (S++more)=(0,id,body,(eF id (pack body.data.toList)).length,body.size):=by
  rw[bP,j];simp only[YC,yV,xO];rw[A];simp only[yV,xO];rw[aa,zf (by omega),B];simp only[yV,xO,jD]
 rw[z,q];refine⟨⟨body.size,by rw[n]⟩, ?_⟩;have:=r ((aR id).length+(pack body.data.toList).length) i;rw[n];unfold eF;rw[zh,zh];exact this
theorem wG (m:Nat)(most:Int)(s:ByteArray)(h:(aZ m most s).1≠0):aZ m most s=((aZ m most s).1,ByteArray.empty,ByteArray.empty,0):=by
 unfold aZ at h⊢;by_cases i:s.size<4
 ·rw[zg i]
 rw[zf i]at h⊢;by_cases j:s.extract 0 4≠rV m
 ·rw[zg j]
 rw[zf j]at h⊢;by_cases b:s.size<16
 ·rw[zg b]
 rw[zf b]at h⊢;by_cases k:(cZ (s.extract 4 16)).1≠0
 ·rw[zg k]
 rw[zf k]at h⊢;by_cases d:s.size<20
 ·rw[zg d]
 rw[zf d]at h⊢;generalize dg (s.extract 16 20).data.toList=N at*;by_cases c:most<N
 ·rw[zg c]
 rw[zf c]at h⊢;by_cases l:s.size<24+N
 ·rw[zg l]
 rw[zf l]at h⊢;by_cases e:eU (s.extract 24 (24+N))≠s.extract 20 24
 ·rw[zg e]
 rw[zf e]at h;exact absurd rfl h
theorem Q9 (most:Int)(s:ByteArray)(h:(an most s).1≠0):an most s=((an most s).1,0,ByteArray.empty,0):=by
 rw[eM]at h⊢;split
 ·rfl
 split
 ·rfl
 split
 ·rfl
 rename_i b d c
 rw[zf b,zf d,zf c]at h;exact absurd rfl h
theorem Vd {b:Int}(N:Nat)(c:(N:Int)<=b)(d:b<=65536):(((aR N).length+N:Nat):Int)<=CM b+b:=by
 unfold CM;split
 ·have:=bC 1 N (by omega) (by omega);omega
 split
 ·have:=bC 2 N (by omega) (by omega);omega
 have:=bC 3 N (by omega) (by omega);omega
theorem tH (b d:Int)(s:ByteArray)(h:(aT b d s).1=0):(an b s).1=0/\(aT b d s).2.1=(an b s).2.1/\(aT b d s).2.2.2.1=(an b s).2.2.2:=by
 rw[bP]at h⊢;by_cases c:(an b s).1≠0
 ·rw[zg c]at h;exact absurd h c
 rw[zf c]at h⊢;split at h
 ·split at h<;>cases h
 rename_i i
 rw[zf i];split at h
 ·cases h
 rename_i j
 rw[zf j];split at h
 ·cases h
 rename_i e
 rw[zf e];exact⟨zC.1 c,rfl,rfl⟩
theorem JC (b c:Int)(s:ByteArray)(h:(aT b c s).1≠0):(aT b c s).2.1=0/\(aT b c s).2.2.1=ByteArray.empty/\(aT b c s).2.2.2.1=0:=by
 rw[bP]at h⊢;split
 ·exact⟨rfl,rfl,rfl⟩
 rename_i j
 rw[zf j]at h;split
 ·exact⟨rfl,rfl,rfl⟩
 rename_i e
 rw[zf e]at h;split
 ·exact⟨rfl,rfl,rfl⟩
 rename_i i
 rw[zf i]at h;split
 ·exact⟨rfl,rfl,rfl⟩
 rename_i d
 rw[zf d]at h;exact absurd rfl h
theorem Ra (c:aF)(s:ByteArray)(h:(bD c s).1≠0):(bD c s).2.1=oR/\(bD c s).2.2.1=0:=by
 unfold bD at h⊢;by_cases b:c.fm=1
 ·rw[zg b]at h⊢;have h:(aZ c.mg c.fr s).1≠0:=h;rw[wG c.mg c.fr s h];exact⟨rfl,rfl⟩
 rw[zf b]at h⊢;by_cases d:c.fm=2
 ·rw[zg d]at h⊢;have h:(an c.fr s).1≠0:=h;rw[Q9 c.fr s h];exact⟨rfl,rfl⟩
 rw[zf d]at h⊢;obtain⟨i,e,j⟩:=JC c.fr c.un s h;exact⟨by rw[i,e];rfl,j⟩
theorem N2 {c:aF}(i:c.right=true)(h:(bD c s).1=0):((bD c s).2.2.1:Int)<=LM c/\(bD c s).2.2.1<=s.size/\(bD c s).2.1.id<18446744073709551616:=by
 have p:=(c.ik).1 i;unfold LM;rw[zg i];unfold bD at h⊢;have j:(an c.fr s).1=0->((an c.fr s).2.2.2:Int)<=CM c.fr+c.fr/\(an c.fr s).2.2.2<=s.size/\(an c.fr s).2.1<18446744073709551616:=fun h=>by
  obtain⟨b,d,e,k,_⟩:=wD c.fr s (an c.fr s).2.1 (an c.fr s).2.2.1 (an c.fr s).2.2.2 (ZT h rfl);exact⟨by rw[k];exact Vd _ e (by omega),b,d⟩
 by_cases b:c.fm=1
 ·rw[zg b]at h⊢;rw[zg b];obtain⟨_,e,k,m,_⟩:=wF c.mg c.fr s (aZ c.mg c.fr s).2.1 (aZ c.mg c.fr s).2.2.1 (aZ c.mg c.fr s).2.2.2 (ZT h rfl);exact⟨by simp only;omega,m,by simp⟩
 rw[zf b]at h⊢;rw[zf b];by_cases d:c.fm=2
 ·rw[zg d]at h⊢;exact j h
 rw[zf d]at h⊢;obtain⟨n,l,o⟩:=tH c.fr c.un s h;have:=j n;simp only;rw[l,o];exact this
theorem Rb (c:aF)(s:ByteArray)(k:Nat)(e:k<=s.size):(bD c (s.extract 0 k)).1=2\/bD c (s.extract 0 k)=bD c s:=by
 unfold bD;by_cases b:c.fm=1
 ·rw[zg b,zg b];rcases JB c.mg c.fr s k e with h|h
  ·exact .inl h
  right;rw[h]
 rw[zf b,zf b];by_cases d:c.fm=2
 ·rw[zg d,zg d];rcases wz c.fr s k e with h|h
  ·right;rw[h]
  left;rw[h]
 rw[zf d,zf d];rcases Jz c.fr c.un s k e with h|⟨_,h⟩
 ·left;rw[h]
 right;rw[h]
theorem DS (s t:ByteArray):(s++t).extract 0 s.size=s:=by
 apply aE;rw[aq,aX,zG,zS (by rw[aa];exact ze _),cQ]
theorem Rc (c:aF)(s t:ByteArray)(h:(bD c s).1≠2):bD c (s++t)=bD c s:=by
 have:=Rb c (s++t) s.size (by rw[bV];omega);rw[DS]at this;rcases this with h1|h1
 ·exact absurd h1 h
 exact h1.symm
theorem Ve {c:aF}(h:(bD c s).1=2):bD c s=(2,oR,0,0):=by
 unfold bD at h⊢;by_cases b:c.fm=1
 ·rw[zg b]at h⊢;have h:(aZ c.mg c.fr s).1=2:=h;have:=wG c.mg c.fr s (by rw[h];decide);rw[this,h];rfl
 rw[zf b]at h⊢;by_cases d:c.fm=2
 ·rw[zg d]at h⊢;have h:(an c.fr s).1=2:=h;have:=Q9 c.fr s (by rw[h];decide);rw[this,h];rfl
 rw[zf d]at h⊢;have h:(aT c.fr c.un s).1=2:=h;rw[qC c.fr c.un s h];rfl
theorem Re {c:aF}(h:(bD c s).1=0):0<(bD c s).2.2.1:=by
 have d:(an c.fr s).1=0->0<(an c.fr s).2.2.2:=fun h=>by
  obtain⟨_,_,_,k,_⟩:=wD c.fr s (an c.fr s).2.1 (an c.fr s).2.2.1 (an c.fr s).2.2.2 (ZT h rfl);have:=FW ((aR (an c.fr s).2.1).length+(an c.fr s).2.2.1.size);omega
 unfold bD at h⊢;by_cases b:c.fm=1
 ·rw[zg b]at h⊢;obtain⟨_,_,k,_⟩:=wF c.mg c.fr s (aZ c.mg c.fr s).2.1 (aZ c.mg c.fr s).2.2.1 (aZ c.mg c.fr s).2.2.2 (ZT h rfl);simp only;omega
 rw[zf b]at h⊢;by_cases e:c.fm=2
 ·rw[zg e]at h⊢;exact d h
 rw[zf e]at h⊢;obtain⟨i,_,j⟩:=tH c.fr c.un s h;simp only;rw[j];exact d i
theorem cE {c:aF}(b:c.right=true)(s:ByteArray):bj c s=bD c s:=by unfold bj;rw[zg b]
theorem wH (c:aF):mT (bj c):=by
 cases hr:c.right with
 |false=>
  have e:∀s,bj c s=(1,oR,0,0):=fun s=>by unfold bj;rw[hr];rfl
  exact⟨(fun s h=>by rw[e]at h;cases h),(fun s t _=>by rw[e,e]),(fun s h=>by rw[e])⟩
 |true=>
  refine⟨fun s h=> ?_,fun s t h=> ?_,fun s h=> ?_⟩
  ·rw[cE hr]at h⊢;exact⟨Re h,(N2 hr h).2.1⟩
  ·rw[cE hr]at h;rw[cE hr,cE hr];exact Rc c s t h
  rw[cE hr]at h⊢;rw[Ve h]
theorem JD {c:aF}(h:c.right=true):(bj c ByteArray.empty).1=2:=by
 rw[cE h];have i:ay ByteArray.empty=(0,0,2):=jx _ _ _ _ (by simp);have b:an c.fr ByteArray.empty=(2,0,ByteArray.empty,0):=by
  rw[eM];have:aw c.fr ByteArray.empty=(0,0,2):=by unfold aw;rw[i];rfl
  rw[this];rfl
 unfold bD;by_cases d:c.fm=1
 ·rw[zg d];unfold aZ;rfl
 rw[zf d];by_cases e:c.fm=2
 ·rw[zg e,b]
 rw[zf e,bP,b];rfl
def gR (c:aF)(s:ByteArray):Nat:=
 if c.fm=1 then(if s.size<24 then 0 else 24+dg (s.extract 16 20).data.toList)
 else if(aw c.fr s).2.2≠0 then 0 else(aw c.fr s).2.1+(aw c.fr s).1
theorem DT (s t:ByteArray)(i j:Nat)(h:j<=s.size):(s++t).extract i j=s.extract i j:=by
 have:=iq (s++t) s.size i j h;rw[DS]at this;exact this.symm
theorem F8 (m:Nat)(most:Int)(s t:ByteArray)(h:(aZ m most s).1=2)(i:24<=s.size)(e:(s++t).size<24+dg (s.extract 16 20).data.toList):(aZ m most (s++t)).1=2:=by
 have hz:=bV s t;unfold aZ at h⊢;rw[DT s t 0 4 (by omega),DT s t 4 16 (by omega),DT s t 16 20 (by omega)];rw[zf (by omega)]at h⊢;by_cases c:s.extract 0 4≠rV m
 ·rw[zg c]at h;cases h
 rw[zf c]at h⊢;rw[zf (by omega)]at h⊢;by_cases d:(cZ (s.extract 4 16)).1≠0
 ·rw[zg d]at h;cases h
 rw[zf d]at h⊢;rw[zf (by omega)]at h⊢;generalize dg (s.extract 16 20).data.toList=N at*;by_cases b:most<N
 ·rw[zg b]at h;cases h
 rw[zf b,zg e]
theorem JE (most:Int)(s t:ByteArray)(h:(aw most s).2.2=0):aw most (s++t)=aw most s:=by
 have b:=tF (s++t) s.size (by rw[bV];omega);rw[DS]at b;rcases b with b|b
 ·unfold aw;rw[b]
 unfold aw at h;rw[b]at h;cases h
theorem F9 (most:Int)(s t:ByteArray)(b:(aw most s).2.2=0)(c:(s++t).size<(aw most s).2.1+(aw most s).1):(an most (s++t)).1=2:=by
 rw[eM,JE most s t b,zf (by rw[b];simp),zg c]
theorem F' (c:aF)(s t:ByteArray)(h:(bD c s).1=2)(b:(s++t).size<gR c s):(bD c (s++t)).1=2:=by
 unfold gR at b;by_cases d:c.fm=1
 ·rw[zg d]at b;unfold bD at h⊢;rw[zg d]at h⊢;by_cases j:s.size<24
  ·rw[zg j]at b;omega
  rw[zf j]at b;exact F8 c.mg c.fr s t h (by omega) b
 rw[zf d]at b;by_cases e:(aw c.fr s).2.2≠0
 ·rw[zg e]at b;omega
 rw[zf e]at b;have:=F9 c.fr s t (zC.1 e) b;unfold bD;rw[zf d];by_cases i:c.fm=2
 ·rw[zg i];exact this
 rw[zf i,bP,zg (by rw[this];decide)];exact this
theorem Rf (s:ByteArray)(size k b:Nat)(out:List UInt8)(h:out.length<=size)(c:(b8 s size k b out).1=0):(b8 s size k b out).2.2.length<=size:=by
 unfold b8 at c⊢;by_cases e:s.size<k+bh b
 ·rw[zg e];exact h
 rw[zf e]at c⊢;by_cases i:(b%4≠0/\(kf b (iG s k b)=0\/out.length<kf b (iG s k b)))\/size-out.length<cN b (iG s k b)
 ·rw[zg i];exact h
 rw[zf i]at c⊢;by_cases j:b%4=0
 ·rw[zg j]at c⊢;by_cases d:s.size<k+bh b+cN b (iG s k b)
  ·rw[zg d];exact h
  rw[zf d];simp only[zh,aa];rw[ar _ _ _ (by omega)];omega
 rw[zf j];simp only[vP];omega
theorem LN (s:ByteArray)(size:Nat):∀(f k:Nat) (out:List UInt8),out.length<=size->(gX s size f k out).2.length<=size
 |0,k,out,_=>by simp[gX]
 |f+1,k,out,h=>by
  unfold gX;by_cases c:k<s.size
  ·rw[Ys c];by_cases b:(b8 s size k s[k].toNat out).1=0
   ·rw[zg b];exact LN s size f _ _ (Rf s size k _ out h b)
   rw[zf b];simp
  rw[dif_neg c];split
  ·simp
  exact h
theorem Ga (b c:Int)(s:ByteArray):(((aT b c s).2.2.1.size:Nat):Int)<=max c 0:=by
 rw[bP];split
 ·show((0:Nat):Int)<=_;omega
 split
 ·show((0:Nat):Int)<=_;omega
 split
 ·show((0:Nat):Int)<=_;omega
 split
 ·show((0:Nat):Int)<=_;omega
 rename_i h e d i
 show(((bc (an b s).2.2.1 c).2.length:Nat):Int)<=_
 unfold bc iZ;rw[zf e,zf d];have:=LN ((an b s).2.2.1.extract (aB (an b s).2.2.1).2.1 (an b s).2.2.1.size) (aB (an b s).2.2.1).1 (((an b s).2.2.1.extract (aB (an b s).2.2.1).2.1 (an b s).2.2.1.size).size+1) 0 [] (by simp);omega
theorem JF (s:ByteArray)(a b:Nat):(s.extract a b).size<=s.size:=by simp;omega
theorem JG (s:ByteArray):(cZ s).2.size<=12:=by
 unfold cZ;split
 ·rename_i h;exact(dE h.2).2
 exact ya _
theorem Gb (m:Nat)(most:Int)(s:ByteArray):(aZ m most s).2.1.size<=12/\(aZ m most s).2.2.1.size<=s.size:=by
 unfold aZ;repeat' split
 all_goals dsimp only
 all_goals first|with_reducible exact⟨JG _,JF _ _ _⟩|exact⟨by simp,by simp⟩
theorem Gc (most:Int)(s:ByteArray):(an most s).2.2.1.size<=s.size:=by
 by_cases h:(an most s).1=0
 ·rw[eM]at h⊢;generalize aw most s=p at*;generalize ay (s.extract p.2.1 (p.2.1+p.1))=q at*;by_cases b:p.2.2≠0
  ·rw[zg b];exact ya _
  rw[zf b]at h⊢;by_cases d:s.size<p.2.1+p.1
  ·rw[zg d];exact ya _
  rw[zf d]at h⊢;by_cases c:q.2.2≠0
  ·rw[zg c];exact ya _
  rw[zf c];exact zz (JF _ _ _) (JF _ _ _)
 rw[Q9 most s h];exact ya _
theorem N3 (c:aF)(s:ByteArray):(bD c s).2.1.nm.size<=12/\(((bD c s).2.1.body.size:Nat):Int)<=max (s.size:Int) (max c.un 0):=by
 unfold bD;split
 ·have:=Gb c.mg c.fr s;exact⟨this.1,by have:=this.2;show(((aZ c.mg c.fr s).2.2.1.size:Nat):Int)<=_;omega⟩
 split
 ·have:=Gc c.fr s;exact⟨ya _,by show(((an c.fr s).2.2.1.size:Nat):Int)<=_;omega⟩
 have:=Ga c.fr c.un s;exact⟨ya _,by show(((aT c.fr c.un s).2.2.1.size:Nat):Int)<=_;omega⟩
open Go.RowKit
def iM (c:aF)(b:ByteArray)(nd:Nat):Prop:=∀T:ByteArray,(b++T).size<nd->(bj c (b++T)).1=2
theorem iM.zero (c:aF)(b:ByteArray):iM c b 0:=fun T h=>absurd h (by omega)
theorem iM.here {c:aF}{b:ByteArray}(h:iM c b d)(e:b.size<d):(bj c b).1=2:=by
 have:=h ByteArray.empty (by rw[iL];exact e);rwa [iL]at this
theorem iM.more {c:aF}{b:ByteArray}(h:iM c b d)(s:ByteArray):iM c (b++s) d:=fun T i=>by
 have e:b++s++T=b++(s++T):=aE (by simp only[aX,zB]);rw[e]at i⊢;exact h _ i
theorem iM.of {c:aF}(e:c.right=true){b:ByteArray}(h:(bj c b).1=2):iM c b (gR c b):=fun T d=>by
 rw[cE e]at h⊢;exact F' c b T h d
theorem aM :k∈v.ownBlock.toList↔v.ownBlock=some k:=by simp
theorem lP.only {a b:World}{c:Value}(h:lP a b v c):ae v.ownBlock.toList a b:=ae.cn h.grown
theorem bR.qF {w w':World}{base:Nat}{E:TypeId}{l:List UInt8}{L:List Nat}(h:bR w base E v l)(c:ae L w w')(d:∀k,v.ownBlock=some k->k∉L):bR w' base E v l:=h.ah fun k b e=>c.block k b (d k e)
def qG (g:Nat)(bv:Value):List Nat:=g::bv.ownBlock.toList
theorem eW {g:Nat}{b:Value}:k∈qG g b↔k=g\/b.ownBlock=some k:=by simp[qG]
def bz (n:Nat):Nat:=if n<253 then n else if n<65536 then 253 else if n<4294967296 then 254 else 255
def bo (b:Nat):Nat:=if b=253 then 2 else if b=254 then 4 else 8
def dx (n:Nat):List UInt8:=if n<253 then [ub n]else ub (bz n)::jz n (bo (bz n))
def au :List UInt8->Nat×Nat×Int
 | []=>(0,0,2)
 |b::t=>if b.toNat<253 then(b.toNat,1,0)else if t.length<bo b.toNat then(0,0,2)
  else if bz (dg (t.take (bo b.toNat)))=b.toNat then(dg (t.take (bo b.toNat)),1+bo b.toNat,0)else(0,0,3)
theorem np (b:Nat):2<=bo b/\bo b<=8:=by unfold bo;split<;>(try split)<;>omega
theorem JH (n:Nat):bz n<256:=by unfold bz;split<;>(try split)<;>(try split)<;>omega
theorem JI (h:¬n<253):253<=bz n:=by unfold bz;rw[zf h];split<;>(try split)<;>omega
theorem vt (h:¬n<253)(d:n<18446744073709551616):n<2^(8*bo (bz n)):=by
 unfold bz;rw[zf h];by_cases b:n<65536
 ·rw[zg b];show n<2^16;omega
 rw[zf b];by_cases c:n<4294967296
 ·rw[zg c];show n<2^32;omega
 rw[zf c];show n<2^64;omega
theorem jm (n:Nat):1<=(dx n).length/\(dx n).length<=9:=by
 unfold dx;split
 ·simp
 have:=np (bz n);simp[bd];omega
theorem wI (n:Nat)(q:List UInt8)(b:n<18446744073709551616):au (dx n++q)=(n,(dx n).length,0):=by
 unfold dx;by_cases h:n<253
 ·rw[zg h];simp only[zT,yo,au,bn n (by omega),zg h,yI]
 rw[zf h];have d:=JI h;have c:=JH n;simp only[zT,au,bn _ c,zf (show¬bz n<253 by omega)];rw[zf (by rw[zh,bd];omega),ZW (bd _ _),QZ _ _ (vt h b),zg rfl];simp[bd,Zx]
theorem iN (r:List UInt8)(n z:Nat)(h:au r=(n,z,0)):n<18446744073709551616/\z<=r.length/\r.take z=dx n/\(dx n).length=z:=by
 cases r with
 |nil=>cases h
 |cons b t=>
  have l:=b.toNat_lt;have k:ub (b.toNat:Nat)=b:=by apply zP.1;rw[bn _ l]
  simp only[au]at h;by_cases c:b.toNat<253
  ·rw[zg c]at h;injection h with e1 e2;injection e2 with e2 _;subst e1 e2;refine⟨by omega,by simp, ?_, ?_⟩
   ·unfold dx;rw[zg c,k];rfl
   unfold dx;rw[zg c];rfl
  rw[zf c]at h;by_cases j:t.length<bo b.toNat
  ·rw[zg j]at h;injection h with _ h;injection h with _ h;cases h
  rw[zf j]at h;by_cases d:bz (dg (t.take (bo b.toNat)))=b.toNat
  ·rw[zg d]at h;injection h with e1 e2;injection e2 with e2 _;have p:=jG (t.take (bo b.toNat));have e:(t.take (bo b.toNat)).length=bo b.toNat:=by rw[zQ];omega
   have m:=np b.toNat;rw[e]at p;have s:2^(8*bo b.toNat)<=18446744073709551616:=le_pow _ m.2;have i:dx n=b::t.take (bo b.toNat):=by
    subst e1;have q:¬dg (t.take (bo b.toNat))<253:=by
     intro o;have:bz (dg (t.take (bo b.toNat)))=dg (t.take (bo b.toNat)):=by unfold bz;rw[zg o]
     omega
    unfold dx;rw[zf q,d,k];congr 1
    have:=Q4 (t.take (bo b.toNat));rwa [e]at this
   refine⟨by omega,by simp only[zx];omega, ?_, ?_⟩
   ·rw[i,<-e2,Zx,zO]
   rw[i,zx,e];omega
  rw[zf d]at h;injection h with _ h;injection h with _ h;cases h
theorem Gd (r:List UInt8):au (r.take 9)=au r:=by
 cases r with
 |nil=>rfl
 |cons b t=>
  have c:=np b.toNat;simp only[zO,au];rw[xw,show min (bo b.toNat) 8=bo b.toNat from by omega,zQ];by_cases h:t.length<bo b.toNat
  ·rw[zg (show min 8 t.length<bo b.toNat by omega),zg h]
  rw[zf (show¬min 8 t.length<bo b.toNat by omega),zf h]
