/- Plain frames, and packed ones: plain functions and laws. No program in sight. -/
import Derived.Test.YtdbmifjankgfpaaGreatDoorKA3
set_option linter.all false
namespace Go.Proofs.YtdbmifjankgfpaaGreatDoor
variable {n k:Nat}{s:ByteArray}{v:Value}
def zd:=@List.set_cons_zero
def zH:=@Decidable.not_not
def yL:=@List.length_singleton
def xz:=@List.set_append_right
def ZE:=@List.take_left'
def ZY:=@List.take_add_one
def au (most:Int)(s:ByteArray):Nat×Nat×Int:=
 if(aA s).2.2=0 then(if most<(aA s).1 then(0,0,5)else((aA s).1,(aA s).2.1,0))else(0,0,(aA s).2.2)
def an (most:Int)(s:ByteArray):Int×Nat×ByteArray×Nat:=
 if(au most s).2.2≠0 then((au most s).2.2,0,ByteArray.empty,0)
 else if s.size<(au most s).2.1+(au most s).1 then(2,0,ByteArray.empty,0)
 else if(aA (s.extract (au most s).2.1 ((au most s).2.1+(au most s).1))).2.2≠0 then(3,0,ByteArray.empty,0)
 else(0,(aA (s.extract (au most s).2.1 ((au most s).2.1+(au most s).1))).1,
  (s.extract (au most s).2.1 ((au most s).2.1+(au most s).1)).extract (aA (s.extract (au most s).2.1 ((au most s).2.1+(au most s).1))).2.1 (au most s).1,
  (au most s).2.1+(au most s).1)
theorem eM (most:Int)(s:ByteArray):an most s=(
 if(au most s).2.2≠0 then((au most s).2.2,0,ByteArray.empty,0)
 else if s.size<(au most s).2.1+(au most s).1 then(2,0,ByteArray.empty,0)
 else if(aA (s.extract (au most s).2.1 ((au most s).2.1+(au most s).1))).2.2≠0 then(3,0,ByteArray.empty,0)
 else(0,(aA (s.extract (au most s).2.1 ((au most s).2.1+(au most s).1))).1,
  (s.extract (au most s).2.1 ((au most s).2.1+(au most s).1)).extract (aA (s.extract (au most s).2.1 ((au most s).2.1+(au most s).1))).2.1 (au most s).1,
  (au most s).2.1+(au most s).1)):=rfl
def eI (id:Nat)(body:List UInt8):List UInt8:=aR (aR id++body).length++(aR id++body)
theorem rE (most:Int)(s:ByteArray)(h:(au most s).2.2=0):((au most s).1:Int)<=most/\(au most s).2.1<=s.size/\0<(au most s).2.1/\(au most s).2.1<=10:=by
 unfold au at h⊢;by_cases b:(aA s).2.2=0
 ·rw[zi b]at h⊢;have d:=ib s b;by_cases c:most<(aA s).1
  ·rw[zi c]at h;simp at h
  rw[zh c];simp only;omega
 rw[zh b]at h;exact absurd h b
theorem vd (most:Int)(id:Nat)(body:ByteArray)(s:ByteArray)(rest:List UInt8)(hid:id<18446744073709551616)(b:s.data.toList=eI id body.data.toList++rest)(o:((aR id).length+body.size:Int)<=most)(n:body.size<=1000000):
 an most s=(0,id,body,(eI id body.data.toList).length):=by
 unfold eI at b⊢;have p:=bB 10 id (by omega) (by omega);have j:(aR id++body.data.toList).length=(aR id).length+body.size:=by rw[zj,aa]
 have i:=ke (aR id++body.data.toList).length s ((aR id++body.data.toList)++rest) (by rw[b,zB]) (by omega);have k:au most s=((aR id++body.data.toList).length,(aR (aR id++body.data.toList).length).length,0):=by
  unfold au;rw[i];simp only[xK];rw[zh (by rw[j];omega)]
 have q:s.size=(aR (aR id++body.data.toList).length).length+(aR id++body.data.toList).length+rest.length:=by
  rw[<-aa,b];simp only[zj]
 generalize c:(aR (aR id++body.data.toList).length).length=K at*;generalize h:(aR id++body.data.toList).length=N at*;have d:(s.extract K (K+N)).data.toList=aR id++body.data.toList:=by
  rw[ar,b,zB,List.take_append,List.drop_append,c];have e:(List.take (K+N) (aR N)).length=K:=by rw[zV,c];omega
  rw[zI (by rw[e];exact zg _),e,ZM,zJ,yx,show K+N-K=N from by omega,zW (by omega),zv (by omega)]
 have l:=ke id (s.extract K (K+N)) body.data.toList d hid;have m:(s.extract K (K+N)).extract (aR id).length N=body:=by
  apply aF;rw[ar,d,zv (by omega),yK (zg _),Z9,yx]
 unfold an;rw[k];simp only[ne_eq,yZ,xM];rw[zh (by omega),l];simp only[yZ,xM];rw[m,zj,c,h]
def aV (most iP:Int)(s:ByteArray):Int×Nat×ByteArray×Nat×Nat:=
 if(an most s).1≠0 then((an most s).1,0,ByteArray.empty,0,0)
 else if(aE (an most s).2.2.1).2.2≠0 then((if(aE (an most s).2.2.1).2.2=5 then 5 else 3),0,ByteArray.empty,0,0)
 else if iP<(aE (an most s).2.2.1).1 then(5,0,ByteArray.empty,0,0)
 else if(bd (an most s).2.2.1 iP).1≠0 then(3,0,ByteArray.empty,0,(aE (an most s).2.2.1).1)
 else(0,(an most s).2.1,⟨(bd (an most s).2.2.1 iP).2.toArray⟩,(an most s).2.2.2,(aE (an most s).2.2.1).1)
theorem bO (most b:Int)(s:ByteArray):aV most b s=(
 if(an most s).1≠0 then((an most s).1,0,ByteArray.empty,0,0)
 else if(aE (an most s).2.2.1).2.2≠0 then((if(aE (an most s).2.2.1).2.2=5 then 5 else 3),0,ByteArray.empty,0,0)
 else if b<(aE (an most s).2.2.1).1 then(5,0,ByteArray.empty,0,0)
 else if(bd (an most s).2.2.1 b).1≠0 then(3,0,ByteArray.empty,0,(aE (an most s).2.2.1).1)
 else(0,(an most s).2.1,⟨(bd (an most s).2.2.1 b).2.toArray⟩,(an most s).2.2.2,(aE (an most s).2.2.1).1)):=rfl
theorem MF (s:ByteArray)(c:Nat)(j:c<=s.size)(f:Nat):∀i n,cw (s.extract 0 c) f i n=cw s f i n\/cw (s.extract 0 c) f i n=(0,0,2):=by
 have hz:(s.extract 0 c).size=c:=by rw[aq _ _ _ j];omega
 induction f with
 |zero=>intro i n;exact .inl rfl
 |succ f ih=>
  intro i n;by_cases hi:i<c
  ·have d:i<(s.extract 0 c).size:=by omega
   have h:i<s.size:=by omega
   have e:(s.extract 0 c)[i]=s[i]:=by
    have b:=gH (s.extract 0 c) i d;rw[ar,zJ,yA hi,gH s i h]at b;injection b with b;exact b.symm
   rw[cw,cw,Yb d,Yb h,e];split
   ·exact .inl rfl
   split
   ·exact .inl rfl
   exact ih _ _
  exact .inr (ju _ _ _ _ (by omega))
theorem sM (s:ByteArray)(c:Nat)(b:c<=s.size):aA (s.extract 0 c)=aA s\/aA (s.extract 0 c)=(0,0,2):=MF s c b 10 0 0
theorem ve (most:Int)(s:ByteArray)(c:Nat)(i:c<=s.size):an most (s.extract 0 c)=an most s\/an most (s.extract 0 c)=(2,0,ByteArray.empty,0):=by
 have hz:(s.extract 0 c).size=c:=by rw[aq _ _ _ i];omega
 rcases sM s c i with h|h
 ·have d:au most (s.extract 0 c)=au most s:=by unfold au;rw[h]
  rw[eM most (s.extract 0 c),eM most s,d,hz];by_cases b:(au most s).2.2≠0
  ·rw[zi b,zi b];exact .inl rfl
  rw[zh b,zh b];by_cases j:c<(au most s).2.1+(au most s).1
  ·rw[zi j];exact .inr rfl
  have k:¬s.size<(au most s).2.1+(au most s).1:=by omega
  rw[zh j,zh k];have e:(s.extract 0 c).extract (au most s).2.1 ((au most s).2.1+(au most s).1)=s.extract (au most s).2.1 ((au most s).2.1+(au most s).1):=by
   apply aF;rw[ar,ar,ar,zJ,xw,yD (by omega)]
  rw[e];exact .inl rfl
 have d:au most (s.extract 0 c)=(0,0,2):=by unfold au;rw[h];rfl
 rw[eM most (s.extract 0 c),d];exact .inr rfl
theorem qm (most c:Int)(s:ByteArray)(h:(aV most c s).1=2):aV most c s=(2,0,ByteArray.empty,0,0):=by
 rw[bO]at h⊢;by_cases b:(an most s).1≠0
 ·rw[zi b]at h⊢;simp only at h⊢;rw[h]
 rw[zh b]at h⊢;split at h
 ·simp only at h;split at h<;>omega
 split at h
 ·simp at h
 split at h<;>simp at h
theorem Il (most b:Int)(s:ByteArray)(c:Nat)(i:c<=s.size):aV most b (s.extract 0 c)=(2,0,ByteArray.empty,0,0)\/((aV most b s).1≠2/\aV most b (s.extract 0 c)=aV most b s):=by
 rcases ve most s c i with h|h
 ·have e:aV most b (s.extract 0 c)=aV most b s:=by rw[bO,bO most b s,h]
  by_cases d:(aV most b s).1=2
  ·left;rw[e];exact qm most b s d
  exact .inr ⟨d,e⟩
 left;rw[bO,h];rfl
theorem vf (s:ByteArray):∀(f i n m k:Nat),cw s f i n=(m,k,0)->∃r,m=n+r*2^(7*i)/\(0<i->0<r)/\i<k/\k<=s.size/\aR r=(s.data.toList.take k).drop i
 |0,i,n,m,k,h=>by simp[cw]at h
 |f+1,i,n,m,k,h=>by
  by_cases hi:i<s.size
  ·by_cases d:(i=9/\1<s[i].toNat)\/(0<i/\s[i].toNat=0)
   ·rw[nR s f i n hi d]at h;simp at h
   have o:s.data.toList[i]?=some s[i]:=by
    rw[zx (by rw[aa];exact hi)];rfl
   by_cases c:s[i].toNat<128
   ·rw[jD s f i n hi d c]at h;injection h with h1 b;injection b with b _;refine⟨s[i].toNat,by rw[<-h1,Nat.mod_eq_of_lt c],fun y=>by omega,by omega,by omega, ?_⟩;rw[ie c,<-b];have hu:ub (s[i].toNat:Nat)=s[i]:=by apply zQ.1;rw[bn _ (by omega)]
    rw[hu,ZY,o,Option.toList_some,yK (by rw[zV,aa];omega),zI (by rw[zV];omega),yx]
   rw[jE s f i n hi d c]at h;obtain⟨r,p,l,A,q,j⟩:=vf s f (i+1) _ m k h;have z:=l (by omega);have x:=s[i].toNat_lt;have b:2^(7*(i+1))=128*2^(7*i):=by rw[show 7*(i+1)=7+7*i from by omega,xY]
   refine⟨s[i].toNat%128+r*128,by rw[p,b,Nat.add_mul,Nat.mul_assoc,yi],fun _=>by omega,by omega,q, ?_⟩;have u:(s[i].toNat%128+r*128)%128=s[i].toNat%128:=by omega
   have e:(s[i].toNat%128+r*128)/128=r:=by omega
   rw[jv (by omega),u,e,j];have hu:ub (s[i].toNat%128+128:Nat)=s[i]:=by apply zQ.1;rw[bn _ (by omega)];omega
   rw[hu];have w:i<(s.data.toList.take k).length:=by rw[zV,aa];omega
   rw[y9 w];rw[List.getElem_take];rfl
  rw[ju s (f+1) i n hi]at h;simp at h
theorem qo (s:ByteArray)(h:(aA s).2.2=0):aR (aA s).1=s.data.toList.take (aA s).2.1/\(aA s).2.1=(aR (aA s).1).length:=by
 obtain⟨r,d,_,_,e,b⟩:=vf s 10 0 0 (aA s).1 (aA s).2.1 (by rw[<-h];rfl);have c:(aA s).1=r:=by simpa using d
 rw[c,b,zJ];exact⟨rfl,by rw[zV,aa];omega⟩
theorem vh (most:Int)(id:Nat)(body:List UInt8)(s:ByteArray)(rest:List UInt8)(b:s.data.toList=eI id body++rest)(c:(aR id++body).length<18446744073709551616):
 au most s=if most<(aR id++body).length then(0,0,5)else((aR id++body).length,(aR (aR id++body).length).length,0):=by
 have d:=ke (aR id++body).length s ((aR id++body)++rest) (by rw[b];unfold eI;rw[zB]) c;unfold au;rw[d];simp only[xK]
theorem sN (most:Int)(s:ByteArray)(h:(au most s).2.2=5):an most s=(5,0,ByteArray.empty,0):=by
 unfold an;rw[zi (by rw[h];decide),h]
theorem vi (most:Int)(s:ByteArray)(id:Nat)(body:ByteArray)(n:Nat)(h:an most s=(0,id,body,n)):
 n<=s.size/\id<18446744073709551616/\(((aR id).length+body.size:Nat):Int)<=most/\n=(aR ((aR id).length+body.size)).length+((aR id).length+body.size)/\(⟨(eI id body.data.toList).toArray⟩:ByteArray)=s.extract 0 n:=by
 unfold an at h;by_cases b:(au most s).2.2≠0
 ·rw[zi b]at h;injection h with h;exact absurd h b
 rw[zh b]at h;have b:=zH.1 b;have e:=rE most s b;have l:au most s=((aA s).1,(aA s).2.1,0)/\(aA s).2.2=0:=by
  unfold au at b⊢;by_cases d:(aA s).2.2=0
  ·rw[zi d]at b⊢;by_cases c:most<(aA s).1
   ·rw[zi c]at b;simp at b
   rw[zh c];exact⟨rfl,d⟩
  rw[zh d]at b;exact absurd b d
 obtain⟨o,u⟩:=qo s l.2;rw[l.1]at h e;generalize (aA s).1=N at*;generalize (aA s).2.1=K at*;try simp only at h e
 by_cases d:s.size<K+N
 ·rw[zi d]at h;injection h with h;simp at h
 rw[zh d]at h;by_cases c:(aA (s.extract K (K+N))).2.2≠0
 ·rw[zi c]at h;injection h with h;simp at h
 rw[zh c]at h;have c:=zH.1 c;obtain⟨j,k⟩:=qo _ c;have m:=ib _ c;injection h with _ h;injection h with hid h;injection h with UZ hn;rw[hid]at j k m;generalize (aA (s.extract K (K+N))).2.1=J at*;have y:(s.extract K (K+N)).size=N:=by rw[aq _ _ _ (by omega)];omega
 have r:body.size=N-J:=by rw[<-UZ,aq _ _ _ (by omega)]
 have q:(aR id).length=J:=k.symm;have i:(aR id).length+body.size=N:=by rw[q,r];omega
 have w:aR id++body.data.toList=(s.extract K (K+N)).data.toList:=by
  have x:(s.extract K (K+N)).data.toList.take N=(s.extract K (K+N)).data.toList:=zv (by rw[aa];omega);rw[j,<-UZ];generalize s.extract K (K+N)=R at*;rw[ar R J N,x];exact zC _ _
 refine⟨by omega,m.2.2.2,by rw[i];exact e.1,by rw[i,<-u];exact hn.symm, ?_⟩;apply aF;have p:(aR id++body.data.toList).length=N:=by rw[zj,aa];exact i
 show eI id body.data.toList=_
 unfold eI;rw[p,o,w,ar,ar,zJ,<-hn];have:=zC K (s.data.toList.take (K+N));rwa [xw,yD (by omega)]at this
def jw (n:Nat):Nat->List UInt8
 |0=> []
 |k+1=>jw n k++ [ub (n/2^(8*k)%256:Nat)]
theorem bg (n k:Nat):(jw n k).length=k:=by
 induction k with
 |zero=>rfl
 |succ k ih=>simp[jw,ih]
theorem Pr {sz:Nat}(h:k<sz):(jw n k++List.replicate (sz-k) (0:UInt8)).set k (ub (n/2^(8*k)%256:Nat))=jw n (k+1)++List.replicate (sz-(k+1)) 0:=by
 obtain⟨d,hd⟩:∃d,sz-k=d+1:=⟨sz-k-1,by omega⟩
 rw[hd,ZI,xz _ _ (by rw[bg];exact zg _),bg,ZM,zd,show sz-(k+1)=d from by omega];simp[jw]
theorem Tx (n k:Nat):(n:Int)/2^(8*k)%256=((ub (n/2^(8*k)%256:Nat)).toNat:Int):=by
 rw[bn _ (by omega)];simp
theorem vj (n k:Nat):jw n (k+1)=ub (n%256:Nat)::jw (n/256) k:=by
 induction k with
 |zero=>simp[jw]
 |succ k ih=>
  rw[jw,ih,jw,zP];congr 4
  rw[Nat.div_div_eq_div_mul,show(256:Nat)=2^8 from rfl,<-xY,show 8+8*k=8*(k+1)from by omega]
def cN (n:Nat):List UInt8:=if h:n=0 then []else cN (n/256)++ [ub (n%256:Nat)]
termination_by n
theorem dy :cN 0= []:=by rw[cN];simp
theorem gM (h:n≠0):cN n=cN (n/256)++ [ub (n%256:Nat)]:=by rw[cN];simp[h]
theorem Tz (k:Nat):2^(8*(k+1))=256*2^(8*k):=by rw[show 8*(k+1)=8+8*k from by omega,xY]
theorem gw (k:Nat):∀n,n<2^(8*k)->(cN n).length<=k:=by
 induction k with
 |zero=>intro n h;simp at h;subst h;simp[dy]
 |succ k ih=>
  intro n h;by_cases b:n=0
  ·subst b;simp[dy]
  rw[gM b,zj];have:=ih (n/256) (by rw[Tz]at h;exact Za h);simp;omega
theorem MG (k:Nat):∀n,n<2^(8*k)->List.replicate (k-(cN n).length) 0++cN n=(jw n k).reverse:=by
 induction k with
 |zero=>intro n h;simp at h;subst h;simp[dy,jw]
 |succ k ih=>
  intro n h;have c:=gw (k+1) n h;have hd:n/256<2^(8*k):=by rw[Tz]at h;exact Za h
  rw[vj,List.reverse_cons,<-ih _ hd];by_cases b:n=0
  ·subst b;simp[dy,ub];rw[List.replicate_succ']
  rw[gM b,zj,yL,show k+1-((cN (n/256)).length+1)=k-(cN (n/256)).length from by omega,zB]
theorem Ps (k n:Nat):n<2^(8*k)->du (jw n k)=n:=by
 induction k generalizing n with
 |zero=>intro h;simp at h;subst h;rfl
 |succ k ih=>
  intro h;rw[vj,du,ih (n/256) (by rw[Tz]at h;exact Za h),bn _ (by omega)];omega
theorem Pt (l:List UInt8):jw (du l) l.length=l:=by
 induction l with
 |nil=>rfl
 |cons b t ih=>
  have c:=b.toNat_lt;rw[zy,vj,du,show(b.toNat+256*du t)/256=du t from by omega,ih];congr 1
  rw[show(b.toNat+256*du t)%256=b.toNat from by omega];apply zQ.1;rw[bn _ c]
def rm (n:Nat):ByteArray:=⟨(jw n 4).toArray⟩
theorem jG (n:Nat):(rm n).size=4:=by rw[rm,bI,bg]
theorem Pu (n:Nat):(rm n).data.toList=jw n 4:=by simp[rm]
theorem Pv (s:ByteArray)(h:s.size=4):rm (du s.data.toList)=s:=by
 have e:=Pt s.data.toList;rw[aa,h]at e;rw[rm,e,iC]
theorem CN (n:Nat)(h:n<4294967296):du (rm n).data.toList=n:=by rw[Pu];exact Ps 4 n (by simpa using h)
theorem Pw (s:ByteArray)(n:Nat)(b:s.size=4)(h:n<4294967296):s=rm n↔du s.data.toList=n:=by
 constructor
 ·rintro rfl;exact CN n h
 rintro rfl;exact(Pv s b).symm
theorem uf (s:ByteArray)(b:s.size=4):du s.data.toList<4294967296:=by
 have:=jC s.data.toList;rw[aa,b]at this;simpa using this
def mW (m:Nat)(nm body:ByteArray):ByteArray:=rm m++fa nm++rm body.size++eZ body++body
theorem lP (m:Nat)(nm body:ByteArray)(h:nm.size<=12):(mW m nm body).size=24+body.size:=by
 simp only[mW,bW,jG,ic nm h,lL]
def aW (m:Nat)(most:Int)(s:ByteArray):Int×ByteArray×ByteArray×Nat:=
 if s.size<4 then(2,ByteArray.empty,ByteArray.empty,0)
 else if s.extract 0 4≠rm m then(9,ByteArray.empty,ByteArray.empty,0)
 else if s.size<16 then(2,ByteArray.empty,ByteArray.empty,0)
 else if(dt (s.extract 4 16)).1≠0 then(3,ByteArray.empty,ByteArray.empty,0)
 else if s.size<20 then(2,ByteArray.empty,ByteArray.empty,0)
 else if most<du (s.extract 16 20).data.toList then(5,ByteArray.empty,ByteArray.empty,0)
 else if s.size<24+du (s.extract 16 20).data.toList then(2,ByteArray.empty,ByteArray.empty,0)
 else if eZ (s.extract 24 (24+du (s.extract 16 20).data.toList))≠s.extract 20 24 then(10,ByteArray.empty,ByteArray.empty,0)
 else(0,(dt (s.extract 4 16)).2,s.extract 24 (24+du (s.extract 16 20).data.toList),24+du (s.extract 16 20).data.toList)
theorem fx (m:Nat)(most:Int)(s:ByteArray):aW m most s=(
 if s.size<4 then(2,ByteArray.empty,ByteArray.empty,0)
 else if s.extract 0 4≠rm m then(9,ByteArray.empty,ByteArray.empty,0)
 else if s.size<16 then(2,ByteArray.empty,ByteArray.empty,0)
 else if(dt (s.extract 4 16)).1≠0 then(3,ByteArray.empty,ByteArray.empty,0)
 else if s.size<20 then(2,ByteArray.empty,ByteArray.empty,0)
 else if most<du (s.extract 16 20).data.toList then(5,ByteArray.empty,ByteArray.empty,0)
 else if s.size<24+du (s.extract 16 20).data.toList then(2,ByteArray.empty,ByteArray.empty,0)
 else if eZ (s.extract 24 (24+du (s.extract 16 20).data.toList))≠s.extract 20 24 then(10,ByteArray.empty,ByteArray.empty,0)
 else(0,(dt (s.extract 4 16)).2,s.extract 24 (24+du (s.extract 16 20).data.toList),24+du (s.extract 16 20).data.toList)):=rfl
theorem qp (s a b c:ByteArray)(h:s=a++b++c)(i j:Nat)(hi:a.size=i)(d:i+b.size=j):s.extract i j=b:=by
 subst h;subst hi;subst d;apply aF;rw[ar,aU,aU,zW (by simp),zv (by simp),yK (by simp),<-aa,Z9,yx]
theorem BO (a b c d e r:ByteArray)(i:a.size=4)(k:b.size=12)(j:c.size=4)(hd:d.size=4)(s:ByteArray)(h:s=a++b++c++d++e++r):
 s.extract 0 4=a/\s.extract 4 16=b/\s.extract 16 20=c/\s.extract 20 24=d/\s.extract 24 (24+e.size)=e/\s.size=24+e.size+r.size:=by
 refine⟨qp s ByteArray.empty a (b++c++d++e++r) ?_ _ _ rfl (by omega),qp s a b (c++d++e++r) ?_ _ _ i (by omega),qp s (a++b) c (d++e++r) ?_ _ _ (by rw[bW];omega) (by omega),
  qp s (a++b++c) d (e++r) ?_ _ _ (by rw[bW,bW];omega) (by omega),qp s (a++b++c++d) e r ?_ _ _ (by rw[bW,bW,bW];omega) rfl,by rw[h];simp only[bW];omega⟩
 all_goals(rw[h];try simp[ByteArray.append_assoc])
theorem Im (m:Nat)(most:Int)(nm body more:ByteArray)(b:bZ nm=true)(n:(body.size:Int)<=most)(d:body.size<4294967296):
 aW m most (mW m nm body++more)=(0,nm,body,24+body.size):=by
 have hz:=dH b;obtain⟨h,k,l,c,e,j⟩:=BO (rm m) (fa nm) (rm body.size) (eZ body) body more (jG _) (ic nm hz.2) (jG _) (lL _) (mW m nm body++more) rfl;have i:=CN body.size d;unfold aW;rw[h,k,l,i,c,e,j,BB nm b];rw[zh (by omega),zh (by simp),zh (by omega),zh (by simp),zh (by omega),zh (by omega),zh (by omega),zh (by simp)]
theorem vl (m:Nat)(most:Int)(s nm body:ByteArray)(n:Nat)(h:aW m most s=(0,nm,body,n)):bZ nm=true/\(body.size:Int)<=most/\n=24+body.size/\n<=s.size/\body.size<4294967296/\mW m nm body=s.extract 0 n:=by
 unfold aW at h;by_cases q:s.size<4
 ·rw[zi q]at h;injection h with h;simp at h
 rw[zh q]at h;by_cases d:s.extract 0 4≠rm m
 ·rw[zi d]at h;injection h with h;simp at h
 rw[zh d]at h;by_cases o:s.size<16
 ·rw[zi o]at h;injection h with h;simp at h
 rw[zh o]at h;by_cases i:(dt (s.extract 4 16)).1≠0
 ·rw[zi i]at h;injection h with h;simp at h
 rw[zh i]at h;by_cases k:s.size<20
 ·rw[zi k]at h;injection h with h;simp at h
 rw[zh k]at h;have l:(s.extract 16 20).size=4:=aq _ _ _ (by omega);have B:=uf (s.extract 16 20) l;have y:=Pv (s.extract 16 20) l;generalize du (s.extract 16 20).data.toList=N at*;by_cases p:most<N
 ·rw[zi p]at h;injection h with h;simp at h
 rw[zh p]at h;by_cases j:s.size<24+N
 ·rw[zi j]at h;injection h with h;simp at h
 rw[zh j]at h;by_cases e:eZ (s.extract 24 (24+N))≠s.extract 20 24
 ·rw[zi e]at h;injection h with h;simp at h
 rw[zh e]at h;injection h with _ h;injection h with Yx h;injection h with UZ hn;have x:dt (s.extract 4 16)=(0,nm):=by
  rw[<-Yx];have z:(dt (s.extract 4 16)).1=0:=zH.1 i;exact ZB z rfl
 obtain⟨u,w⟩:=Mu _ _ x;have A:body.size=N:=by rw[<-UZ,aq _ _ _ (by omega)];omega
 refine⟨w,by omega,by omega,by omega,by omega, ?_⟩;unfold mW;rw[u,A,y,<-UZ,zH.1 e,<-zH.1 d,<-hn];apply aF;simp only[aU,ar];generalize s.data.toList=L;have c:∀(a b:Nat),a<=b->L.take a++(L.take b).drop a=L.take b:=by
  intro a b r;have:=zC a (L.take b);rwa [xw,yD r]at this
 rw[zJ,c 4 16 (by omega),c 16 20 (by omega),c 20 24 (by omega),c 24 (24+N) (by omega)];rfl
theorem ij (s:ByteArray)(c i j:Nat)(h:j<=c):(s.extract 0 c).extract i j=s.extract i j:=by
 apply aF;rw[ar,ar,ar,zJ,xw,yD h]
theorem Io (m:Nat)(most:Int)(s:ByteArray)(c:Nat)(l:c<=s.size):(aW m most (s.extract 0 c)).1=2\/aW m most (s.extract 0 c)=aW m most s:=by
 have hz:(s.extract 0 c).size=c:=by rw[aq _ _ _ l];omega
 unfold aW;rw[hz];by_cases i:c<4
 ·rw[zi i];exact .inl rfl
 rw[zh i,zh (by omega:¬s.size<4),ij s c 0 4 (by omega)];by_cases e:s.extract 0 4≠rm m
 ·rw[zi e,zi e];exact .inr rfl
 rw[zh e,zh e];by_cases k:c<16
 ·rw[zi k];exact .inl rfl
 rw[zh k,zh (by omega:¬s.size<16),ij s c 4 16 (by omega)];by_cases b:(dt (s.extract 4 16)).1≠0
 ·rw[zi b,zi b];exact .inr rfl
 rw[zh b,zh b];by_cases h:c<20
 ·rw[zi h];exact .inl rfl
 rw[zh h,zh (by omega:¬s.size<20),ij s c 16 20 (by omega)];generalize du (s.extract 16 20).data.toList=N;by_cases d:most<N
 ·rw[zi d,zi d];exact .inr rfl
 rw[zh d,zh d];by_cases j:c<24+N
 ·rw[zi j];exact .inl rfl
 rw[zh j,zh (by omega:¬s.size<24+N),ij s c 24 _ (by omega),ij s c 20 24 (by omega)];exact .inr rfl
def bp (c:aP)(s:ByteArray):Int×Fr×Nat×Nat:=
 if c.fm=1 then((aW c.mg c.fr s).1,⟨0,(aW c.mg c.fr s).2.1,(aW c.mg c.fr s).2.2.1⟩,(aW c.mg c.fr s).2.2.2,0)
 else if c.fm=2 then((an c.fr s).1,⟨(an c.fr s).2.1,ByteArray.empty,(an c.fr s).2.2.1⟩,(an c.fr s).2.2.2,0)
 else((aV c.fr c.un s).1,⟨(aV c.fr c.un s).2.1,ByteArray.empty,(aV c.fr c.un s).2.2.1⟩,(aV c.fr c.un s).2.2.2.1,(aV c.fr c.un s).2.2.2.2)
def a8 (c:aP)(s:ByteArray):Int×Fr×Nat×Nat:=if c.right=true then bp c s else(1,mQ,0,0)
def BP (fr:Int):Int:=if fr<128 then 1 else if fr<16384 then 2 else 3
def KA (c:aP):Int:=if c.right=true then(if c.fm=1 then 24 else BP c.fr)+c.fr else 0
def hG (c:aP)(f:Fr):Bool:=if c.fm=1 then decide (f.id=0)else decide (f.nm.size=0)
def aM (c:aP)(f:Fr):ByteArray×Int:=
 if c.fm=1 then(if bZ f.nm=true then(if 65536<f.body.size then(ByteArray.empty,5)else(mW c.mg f.nm f.body,0))else(ByteArray.empty,11))
 else if c.fm=2 then(if 65536<(aR f.id).length+f.body.size then(ByteArray.empty,5)else(⟨(eI f.id f.body.data.toList).toArray⟩,0))
 else(if c.un<f.body.size then(ByteArray.empty,5)else if 65536<(aR f.id).length+(pack f.body.data.toList).length then(ByteArray.empty,5)else(⟨(eI f.id (pack f.body.data.toList)).toArray⟩,0))
def eU (c:aP)(f:Fr):ByteArray×Int:=
 if c.right=true/\hG c f=true then(if(aM c f).2≠0 then(ByteArray.empty,(aM c f).2)else if(bp c (aM c f).1).1=5 then(ByteArray.empty,5)else((aM c f).1,0))else(ByteArray.empty,1)
theorem EV (m:Nat)(most:Int)(nm body more:ByteArray)(b:bZ nm=true)(n:most<(body.size:Int))(c:body.size<4294967296):(aW m most (mW m nm body++more)).1=5:=by
 have hz:=dH b;have o:=lP m nm body hz.2;obtain⟨d,i,j,k,l,p⟩:=BO (rm m) (fa nm) (rm body.size) (eZ body) body more (jG _) (ic nm hz.2) (jG _) (lL _) (mW m nm body++more) rfl;have e:=CN body.size c;have h:(dt (fa nm)).1=0:=by rw[BB nm b]
 unfold aW;rw[d,i,j,e,zh (by omega),zh (by simp),zh (by omega),zh (by simp[h]),zh (by omega),zi (by omega)]
theorem k9 (s:ByteArray):s++ByteArray.empty=s:=aF (by rw[aU];simp)
theorem Px {c:aP}{f:Fr}{S:ByteArray}(hid:f.id<18446744073709551616)(h:eU c f=(S,0))(more:ByteArray):(∃m,bp c (S++more)=(0,f,S.size,m))/\(S.size:Int)<=KA c:=by
 unfold eU at h;by_cases p:c.right=true/\hG c f=true;case neg=>rw[zh p]at h;injection h with _ h;cases h
 rw[zi p]at h;by_cases b:(aM c f).2≠0
 ·rw[zi b]at h;injection h with _ h;exact absurd h b
 rw[zh b]at h;by_cases d:(bp c (aM c f).1).1=5
 ·rw[zi d]at h;injection h with _ h;cases h
 rw[zh d]at h;injection h with h _;rw[h]at d;have b:=zH.1 b;obtain⟨w,l⟩:=p;have C:=(c.dj).1 w;obtain⟨id,nm,body⟩:=f;unfold aM at h b;unfold hG at l;unfold KA;rw[zi w];unfold bp at d⊢;simp only at h b l hid;by_cases o:c.fm=1
 ·rw[zi o]at h b l d⊢;rw[zi o];have x:id=0:=by simpa using l
  cases hm:bZ nm with
  |false=>rw[hm]at b;simp at b
  |true=>
   rw[hm]at b h;simp only[xK]at b h;by_cases e:65536<body.size
   ·rw[zi e]at b;simp at b
   rw[zh e]at h;simp only at h;have k:(body.size:Int)<=c.fr:=by
    rcases Int.lt_or_le c.fr (body.size:Int)with aC|jS
    ·have:=EV c.mg c.fr nm body ByteArray.empty hm aC (by omega);rw[k9,h]at this;exact absurd this d
    exact jS
   have j:=Im c.mg c.fr nm body more hm k (by omega);have hz:=lP c.mg nm body (dH hm).2;rw[h]at j hz;rw[j,x];exact⟨⟨0,by rw[hz]⟩,by rw[hz];omega⟩
 rw[zh o]at h b l d⊢;rw[zh o];have u:nm=ByteArray.empty:=by
  have:nm.size=0:=by simpa using l
  apply aF;exact zo (by rw[aa];exact this)
 have s:∀N:Nat,(N:Int)<=c.fr->(((aR N).length+N:Nat):Int)<=BP c.fr+c.fr:=fun N D=>by
  unfold BP;split
  ·have:=bB 1 N (by omega) (by omega);omega
  split
  ·have:=bB 2 N (by omega) (by omega);omega
  have:=bB 3 N (by omega) (by omega);omega
 by_cases q:c.fm=2
 ·rw[zi q]at h b d⊢;by_cases e:65536<(aR id).length+body.size
  ·rw[zi e]at b;simp at b
  rw[zh e]at h;simp only at h;have i:S.data.toList=eI id body.data.toList:=by rw[<-h]
  have k:(((aR id++body.data.toList).length:Nat):Int)<=c.fr:=by
   rcases Int.lt_or_le c.fr (((aR id++body.data.toList).length:Nat):Int)with aC|jS
   ·have:=vh c.fr id body.data.toList S [] (by rw[i,yV]) (by rw[zj,aa];omega);rw[zi aC]at this;have:=sN c.fr S (by rw[this]);rw[this]at d;exact absurd rfl d
   exact jS
  rw[zj,aa]at k;have j:=vd c.fr id body (S++more) more.data.toList hid (by rw[aU,i]) (by omega) (by omega);have n:S.size=(eI id body.data.toList).length:=by rw[<-aa,i]
  rw[j,u];refine⟨⟨0,by rw[n]⟩, ?_⟩;have:=s ((aR id).length+body.size) k;rw[n];unfold eI;rw[zj,zj,aa];exact this
 rw[zh q]at h b d⊢;by_cases hu:c.un<body.size
 ·rw[zi hu]at b;simp at b
 rw[zh hu]at h b;by_cases e:65536<(aR id).length+(pack body.data.toList).length
 ·rw[zi e]at b;simp at b
 rw[zh e]at h;simp only at h;have r:body.data.toList.length<=65536:=by rw[aa];omega
 have i:S.data.toList=eI id (pack body.data.toList):=by rw[<-h]
 have k:(((aR id++pack body.data.toList).length:Nat):Int)<=c.fr:=by
  rcases Int.lt_or_le c.fr (((aR id++pack body.data.toList).length:Nat):Int)with aC|jS
  ·have:=vh c.fr id (pack body.data.toList) S [] (by rw[i,yV]) (by rw[zj];omega);rw[zi aC]at this;have:=sN c.fr S (by rw[this]);have B:aV c.fr c.un S=(5,0,ByteArray.empty,0,0):=by rw[bO,this];simp
   rw[B]at d;exact absurd rfl d
  exact jS
 rw[zj]at k;have j:=vd c.fr id ⟨(pack body.data.toList).toArray⟩ (S++more) more.data.toList hid (by rw[aU,i]) (by rw[bI];omega) (by rw[bI];omega);simp only at j;have A:=BH ⟨(pack body.data.toList).toArray⟩ body.data.toList r rfl;have z:=EN ⟨(pack body.data.toList).toArray⟩ body.data.toList r rfl c.un (by rw[aa];omega);have n:S.size=(eI id (pack body.data.toList)).length:=by rw[<-aa,i]
 have y:aV c.fr c.un (S++more)=(0,id,body,(eI id (pack body.data.toList)).length,body.size):=by
  rw[bO,j];simp only[ne_eq,yZ,xM];rw[A];simp only[yZ,xM];rw[aa,zh (by omega),z];simp only[yZ,xM,iC]
 rw[y,u];refine⟨⟨body.size,by rw[n]⟩, ?_⟩;have:=s ((aR id).length+(pack body.data.toList).length) k;rw[n];unfold eI;rw[zj,zj];exact this
theorem vm (m:Nat)(most:Int)(s:ByteArray)(h:(aW m most s).1≠0):aW m most s=((aW m most s).1,ByteArray.empty,ByteArray.empty,0):=by
 unfold aW at h⊢;by_cases d:s.size<4
 ·rw[zi d]
 rw[zh d]at h⊢;by_cases j:s.extract 0 4≠rm m
 ·rw[zi j]
 rw[zh j]at h⊢;by_cases k:s.size<16
 ·rw[zi k]
 rw[zh k]at h⊢;by_cases b:(dt (s.extract 4 16)).1≠0
 ·rw[zi b]
 rw[zh b]at h⊢;by_cases c:s.size<20
 ·rw[zi c]
 rw[zh c]at h⊢;generalize du (s.extract 16 20).data.toList=N at*;by_cases e:most<N
 ·rw[zi e]
 rw[zh e]at h⊢;by_cases i:s.size<24+N
 ·rw[zi i]
 rw[zh i]at h⊢;by_cases l:eZ (s.extract 24 (24+N))≠s.extract 20 24
 ·rw[zi l]
 rw[zh l]at h;exact absurd rfl h
theorem Py (most:Int)(s:ByteArray)(h:(an most s).1≠0):an most s=((an most s).1,0,ByteArray.empty,0):=by
 rw[eM]at h⊢;split
 ·rfl
 split
 ·rfl
 split
 ·rfl
 rename_i c b d
 rw[zh c,zh b,zh d]at h;exact absurd rfl h
theorem TA {b:Int}(N:Nat)(c:(N:Int)<=b)(d:b<=65536):(((aR N).length+N:Nat):Int)<=BP b+b:=by
 unfold BP;split
 ·have:=bB 1 N (by omega) (by omega);omega
 split
 ·have:=bB 2 N (by omega) (by omega);omega
 have:=bB 3 N (by omega) (by omega);omega
theorem sO (b d:Int)(s:ByteArray)(h:(aV b d s).1=0):(an b s).1=0/\(aV b d s).2.1=(an b s).2.1/\(aV b d s).2.2.2.1=(an b s).2.2.2:=by
 rw[bO]at h⊢;by_cases c:(an b s).1≠0
 ·rw[zi c]at h;exact absurd h c
 rw[zh c]at h⊢;split at h
 ·split at h<;>cases h
 rename_i e
 rw[zh e];split at h
 ·cases h
 rename_i i
 rw[zh i];split at h
 ·cases h
 rename_i j
 rw[zh j];exact⟨zH.1 c,rfl,rfl⟩
theorem Ip (c b:Int)(s:ByteArray)(h:(aV c b s).1≠0):(aV c b s).2.1=0/\(aV c b s).2.2.1=ByteArray.empty/\(aV c b s).2.2.2.1=0:=by
 rw[bO]at h⊢;split
 ·exact⟨rfl,rfl,rfl⟩
 rename_i e
 rw[zh e]at h;split
 ·exact⟨rfl,rfl,rfl⟩
 rename_i d
 rw[zh d]at h;split
 ·exact⟨rfl,rfl,rfl⟩
 rename_i i
 rw[zh i]at h;split
 ·exact⟨rfl,rfl,rfl⟩
 rename_i j
 rw[zh j]at h;exact absurd rfl h
theorem vn (c:aP)(s:ByteArray)(h:(bp c s).1≠0):(bp c s).2.1=mQ/\(bp c s).2.2.1=0:=by
 unfold bp at h⊢;by_cases b:c.fm=1
 ·rw[zi b]at h⊢;have h:(aW c.mg c.fr s).1≠0:=h;rw[vm c.mg c.fr s h];exact⟨rfl,rfl⟩
 rw[zh b]at h⊢;by_cases d:c.fm=2
 ·rw[zi d]at h⊢;have h:(an c.fr s).1≠0:=h;rw[Py c.fr s h];exact⟨rfl,rfl⟩
 rw[zh d]at h⊢;obtain⟨j,e,i⟩:=Ip c.fr c.un s h;exact⟨by rw[j,e];rfl,i⟩
theorem MH {c:aP}(i:c.right=true)(h:(bp c s).1=0):((bp c s).2.2.1:Int)<=KA c/\(bp c s).2.2.1<=s.size/\(bp c s).2.1.id<18446744073709551616:=by
 have p:=(c.dj).1 i;unfold KA;rw[zi i];unfold bp at h⊢;have j:(an c.fr s).1=0->((an c.fr s).2.2.2:Int)<=BP c.fr+c.fr/\(an c.fr s).2.2.2<=s.size/\(an c.fr s).2.1<18446744073709551616:=fun h=>by
  obtain⟨b,d,k,e,_⟩:=vi c.fr s (an c.fr s).2.1 (an c.fr s).2.2.1 (an c.fr s).2.2.2 (ZB h rfl);exact⟨by rw[e];exact TA _ k (by omega),b,d⟩
 by_cases b:c.fm=1
 ·rw[zi b]at h⊢;rw[zi b];obtain⟨_,k,e,l,_⟩:=vl c.mg c.fr s (aW c.mg c.fr s).2.1 (aW c.mg c.fr s).2.2.1 (aW c.mg c.fr s).2.2.2 (ZB h rfl);exact⟨by simp only;omega,l,by simp⟩
 rw[zh b]at h⊢;rw[zh b];by_cases d:c.fm=2
 ·rw[zi d]at h⊢;exact j h
 rw[zh d]at h⊢;obtain⟨o,m,n⟩:=sO c.fr c.un s h;have:=j o;simp only;rw[m,n];exact this
theorem Pz (c:aP)(s:ByteArray)(k:Nat)(e:k<=s.size):(bp c (s.extract 0 k)).1=2\/bp c (s.extract 0 k)=bp c s:=by
 unfold bp;by_cases d:c.fm=1
 ·rw[zi d,zi d];rcases Io c.mg c.fr s k e with h|h
  ·exact .inl h
  right;rw[h]
 rw[zh d,zh d];by_cases b:c.fm=2
 ·rw[zi b,zi b];rcases ve c.fr s k e with h|h
  ·right;rw[h]
  left;rw[h]
 rw[zh b,zh b];rcases Il c.fr c.un s k e with h|⟨_,h⟩
 ·left;rw[h]
 right;rw[h]
theorem CO (s t:ByteArray):(s++t).extract 0 s.size=s:=by
 apply aF;rw[ar,aU,zJ,zW (by rw[aa];exact zg _),dq]
theorem PA (c:aP)(s t:ByteArray)(h:(bp c s).1≠2):bp c (s++t)=bp c s:=by
 have:=Pz c (s++t) s.size (by rw[bW];omega);rw[CO]at this;rcases this with h1|h1
 ·exact absurd h1 h
 exact h1.symm
theorem TB {c:aP}(h:(bp c s).1=2):bp c s=(2,mQ,0,0):=by
 unfold bp at h⊢;by_cases d:c.fm=1
 ·rw[zi d]at h⊢;have h:(aW c.mg c.fr s).1=2:=h;have:=vm c.mg c.fr s (by rw[h];decide);rw[this,h];rfl
 rw[zh d]at h⊢;by_cases b:c.fm=2
 ·rw[zi b]at h⊢;have h:(an c.fr s).1=2:=h;have:=Py c.fr s (by rw[h];decide);rw[this,h];rfl
 rw[zh b]at h⊢;have h:(aV c.fr c.un s).1=2:=h;rw[qm c.fr c.un s h];rfl
theorem PC {c:aP}(h:(bp c s).1=0):0<(bp c s).2.2.1:=by
 have d:(an c.fr s).1=0->0<(an c.fr s).2.2.2:=fun h=>by
  obtain⟨_,_,_,i,_⟩:=vi c.fr s (an c.fr s).2.1 (an c.fr s).2.2.1 (an c.fr s).2.2.2 (ZB h rfl);have:=EK ((aR (an c.fr s).2.1).length+(an c.fr s).2.2.1.size);omega
 unfold bp at h⊢;by_cases b:c.fm=1
 ·rw[zi b]at h⊢;obtain⟨_,_,i,_⟩:=vl c.mg c.fr s (aW c.mg c.fr s).2.1 (aW c.mg c.fr s).2.2.1 (aW c.mg c.fr s).2.2.2 (ZB h rfl);simp only;omega
 rw[zh b]at h⊢;by_cases e:c.fm=2
 ·rw[zi e]at h⊢;exact d h
 rw[zh e]at h⊢;obtain⟨k,_,j⟩:=sO c.fr c.un s h;simp only;rw[j];exact d k
theorem b8 {c:aP}(b:c.right=true)(s:ByteArray):a8 c s=bp c s:=by unfold a8;rw[zi b]
theorem vo (c:aP):kF (a8 c):=by
 cases hr:c.right with
 |false=>
  have e:∀s,a8 c s=(1,mQ,0,0):=fun s=>by unfold a8;rw[hr];rfl
  exact⟨(fun s h=>by rw[e]at h;cases h),(fun s t _=>by rw[e,e]),(fun s h=>by rw[e])⟩
 |true=>
  refine⟨fun s h=> ?_,fun s t h=> ?_,fun s h=> ?_⟩
  ·rw[b8 hr]at h⊢;exact⟨PC h,(MH hr h).2.1⟩
  ·rw[b8 hr]at h;rw[b8 hr,b8 hr];exact PA c s t h
  rw[b8 hr]at h⊢;rw[TB h]
theorem Iq {c:aP}(i:c.right=true):(a8 c ByteArray.empty).1=2:=by
 rw[b8 i];have h:aA ByteArray.empty=(0,0,2):=ju _ _ _ _ (by simp);have e:an c.fr ByteArray.empty=(2,0,ByteArray.empty,0):=by
  rw[eM];have:au c.fr ByteArray.empty=(0,0,2):=by unfold au;rw[h];rfl
  rw[this];rfl
 unfold bp;by_cases b:c.fm=1
 ·rw[zi b];unfold aW;rfl
 rw[zh b];by_cases d:c.fm=2
 ·rw[zi d,e]
 rw[zh d,bO,e];rfl
def gN (c:aP)(s:ByteArray):Nat:=
 if c.fm=1 then(if s.size<24 then 0 else 24+du (s.extract 16 20).data.toList)
 else if(au c.fr s).2.2≠0 then 0 else(au c.fr s).2.1+(au c.fr s).1
theorem CP (s t:ByteArray)(i j:Nat)(h:j<=s.size):(s++t).extract i j=s.extract i j:=by
 have:=ij (s++t) s.size i j h;rw[CO]at this;exact this.symm
theorem EW (m:Nat)(most:Int)(s t:ByteArray)(h:(aW m most s).1=2)(i:24<=s.size)(e:(s++t).size<24+du (s.extract 16 20).data.toList):(aW m most (s++t)).1=2:=by
 have hz:=bW s t;unfold aW at h⊢;rw[CP s t 0 4 (by omega),CP s t 4 16 (by omega),CP s t 16 20 (by omega)];rw[zh (by omega)]at h⊢;by_cases d:s.extract 0 4≠rm m
 ·rw[zi d]at h;cases h
 rw[zh d]at h⊢;rw[zh (by omega)]at h⊢;by_cases b:(dt (s.extract 4 16)).1≠0
 ·rw[zi b]at h;cases h
 rw[zh b]at h⊢;rw[zh (by omega)]at h⊢;generalize du (s.extract 16 20).data.toList=N at*;by_cases c:most<N
 ·rw[zi c]at h;cases h
 rw[zh c,zi e]
theorem Ir (most:Int)(s t:ByteArray)(h:(au most s).2.2=0):au most (s++t)=au most s:=by
 have b:=sM (s++t) s.size (by rw[bW];omega);rw[CO]at b;rcases b with b|b
 ·unfold au;rw[b]
 unfold au at h;rw[b]at h;cases h
theorem EX (most:Int)(s t:ByteArray)(b:(au most s).2.2=0)(c:(s++t).size<(au most s).2.1+(au most s).1):(an most (s++t)).1=2:=by
 rw[eM,Ir most s t b,zh (by rw[b];simp),zi c]
theorem EY (c:aP)(s t:ByteArray)(h:(bp c s).1=2)(b:(s++t).size<gN c s):(bp c (s++t)).1=2:=by
 unfold gN at b;by_cases d:c.fm=1
 ·rw[zi d]at b;unfold bp at h⊢;rw[zi d]at h⊢;by_cases j:s.size<24
  ·rw[zi j]at b;omega
  rw[zh j]at b;exact EW c.mg c.fr s t h (by omega) b
 rw[zh d]at b;by_cases e:(au c.fr s).2.2≠0
 ·rw[zi e]at b;omega
 rw[zh e]at b;have:=EX c.fr s t (zH.1 e) b;unfold bp;rw[zh d];by_cases i:c.fm=2
 ·rw[zi i];exact this
 rw[zh i,bO,zi (by rw[this];decide)];exact this
theorem PD (s:ByteArray)(size k b:Nat)(out:List UInt8)(h:out.length<=size)(c:(cd s size k b out).1=0):(cd s size k b out).2.2.length<=size:=by
 unfold cd at c⊢;by_cases i:s.size<k+bh b
 ·rw[zi i];exact h
 rw[zh i]at c⊢;by_cases j:(b%4≠0/\(j8 b (iE s k b)=0\/out.length<j8 b (iE s k b)))\/size-out.length<cS b (iE s k b)
 ·rw[zi j];exact h
 rw[zh j]at c⊢;by_cases d:b%4=0
 ·rw[zi d]at c⊢;by_cases e:s.size<k+bh b+cS b (iE s k b)
  ·rw[zi e];exact h
  rw[zh e];simp only[zj,aa];rw[aq _ _ _ (by omega)];omega
 rw[zh d];simp only[uL];omega
theorem KB (s:ByteArray)(size:Nat):∀(f k:Nat) (out:List UInt8),out.length<=size->(gX s size f k out).2.length<=size
 |0,k,out,_=>by simp[gX]
 |f+1,k,out,h=>by
  unfold gX;by_cases c:k<s.size
  ·rw[Yb c];by_cases b:(cd s size k s[k].toNat out).1=0
   ·rw[zi b];exact KB s size f _ _ (PD s size k _ out h b)
   rw[zh b];simp
  rw[dif_neg c];split
  ·simp
  exact h
theorem EZ (b c:Int)(s:ByteArray):(((aV b c s).2.2.1.size:Nat):Int)<=max c 0:=by
 rw[bO];split
 ·show((0:Nat):Int)<=_;omega
 split
 ·show((0:Nat):Int)<=_;omega
 split
 ·show((0:Nat):Int)<=_;omega
 split
 ·show((0:Nat):Int)<=_;omega
 rename_i i d e h
 show(((bd (an b s).2.2.1 c).2.length:Nat):Int)<=_
 unfold bd iW;rw[zh d,zh e];have:=KB ((an b s).2.2.1.extract (aE (an b s).2.2.1).2.1 (an b s).2.2.1.size) (aE (an b s).2.2.1).1 (((an b s).2.2.1.extract (aE (an b s).2.2.1).2.1 (an b s).2.2.1.size).size+1) 0 [] (by simp);omega
theorem Is (s:ByteArray)(a b:Nat):(s.extract a b).size<=s.size:=by simp;omega
theorem Iu (s:ByteArray):(dt s).2.size<=12:=by
 unfold dt;split
 ·rename_i h;exact(dH h.2).2
 exact yh _
theorem E3 (m:Nat)(most:Int)(s:ByteArray):(aW m most s).2.1.size<=12/\(aW m most s).2.2.1.size<=s.size:=by
 unfold aW;repeat' split
 all_goals dsimp only
 all_goals first|with_reducible exact⟨Iu _,Is _ _ _⟩|exact⟨by simp,by simp⟩
theorem E4 (most:Int)(s:ByteArray):(an most s).2.2.1.size<=s.size:=by
 by_cases h:(an most s).1=0
 ·rw[eM]at h⊢;generalize au most s=p at*;generalize aA (s.extract p.2.1 (p.2.1+p.1))=q at*;by_cases c:p.2.2≠0
  ·rw[zi c];exact yh _
  rw[zh c]at h⊢;by_cases b:s.size<p.2.1+p.1
  ·rw[zi b];exact yh _
  rw[zh b]at h⊢;by_cases d:q.2.2≠0
  ·rw[zi d];exact yh _
  rw[zh d];exact zK (Is _ _ _) (Is _ _ _)
 rw[Py most s h];exact yh _
theorem MK (c:aP)(s:ByteArray):(bp c s).2.1.nm.size<=12/\(((bp c s).2.1.body.size:Nat):Int)<=max (s.size:Int) (max c.un 0):=by
 unfold bp;split
 ·have:=E3 c.mg c.fr s;exact⟨this.1,by have:=this.2;show(((aW c.mg c.fr s).2.2.1.size:Nat):Int)<=_;omega⟩
 split
 ·have:=E4 c.fr s;exact⟨yh _,by show(((an c.fr s).2.2.1.size:Nat):Int)<=_;omega⟩
 have:=EZ c.fr c.un s;exact⟨yh _,by show(((aV c.fr c.un s).2.2.1.size:Nat):Int)<=_;omega⟩
open Go.RowKit
def iJ (c:aP)(b:ByteArray)(nd:Nat):Prop:=∀T:ByteArray,(b++T).size<nd->(a8 c (b++T)).1=2
theorem iJ.zero (c:aP)(b:ByteArray):iJ c b 0:=fun T h=>absurd h (by omega)
theorem iJ.here {c:aP}{b:ByteArray}{d:Nat}(h:iJ c b d)(e:b.size<d):(a8 c b).1=2:=by
 have:=h ByteArray.empty (by rw[k9];exact e);rwa [k9]at this
theorem iJ.more {c:aP}{b:ByteArray}{i:Nat}(h:iJ c b i)(s:ByteArray):iJ c (b++s) i:=fun T d=>by
 have e:b++s++T=b++(s++T):=aF (by simp only[aU,zB]);rw[e]at d⊢;exact h _ d
theorem iJ.of {c:aP}(e:c.right=true){b:ByteArray}(h:(a8 c b).1=2):iJ c b (gN c b):=fun T d=>by
 rw[b8 e]at h⊢;exact EY c b T h d
theorem cA :k∈v.ownBlock.toList↔v.ownBlock=some k:=by simp
theorem mH.only {a b:World}{c:Value}(h:mH a b v c):ae v.ownBlock.toList a b:=ae.dW h.grown
theorem bP.qq {w w':World}{base:Nat}{E:TypeId}{l:List UInt8}{L:List Nat}(h:bP w base E v l)(b:ae L w w')(c:∀k,v.ownBlock=some k->k∉L):bP w' base E v l:=h.ag fun k d e=>b.block k d (c k e)
def qs (g:Nat)(bv:Value):List Nat:=g::bv.ownBlock.toList
theorem iK {g:Nat}{b:Value}:k∈qs g b↔k=g\/b.ownBlock=some k:=by simp[qs]
def bw (n:Nat):Nat:=if n<253 then n else if n<65536 then 253 else if n<4294967296 then 254 else 255
def bo (b:Nat):Nat:=if b=253 then 2 else if b=254 then 4 else 8
def dF (n:Nat):List UInt8:=if n<253 then [ub n]else ub (bw n)::jw n (bo (bw n))
def aw :List UInt8->Nat×Nat×Int
 | []=>(0,0,2)
 |b::t=>if b.toNat<253 then(b.toNat,1,0)else if t.length<bo b.toNat then(0,0,2)
  else if bw (du (t.take (bo b.toNat)))=b.toNat then(du (t.take (bo b.toNat)),1+bo b.toNat,0)else(0,0,3)
theorem mX (b:Nat):2<=bo b/\bo b<=8:=by unfold bo;split<;>(try split)<;>omega
theorem Iv (n:Nat):bw n<256:=by unfold bw;split<;>(try split)<;>(try split)<;>omega
theorem Iw (h:¬n<253):253<=bw n:=by unfold bw;rw[zh h];split<;>(try split)<;>omega
theorem ug (h:¬n<253)(d:n<18446744073709551616):n<2^(8*bo (bw n)):=by
 unfold bw;rw[zh h];by_cases c:n<65536
 ·rw[zi c];show n<2^16;omega
 rw[zh c];by_cases b:n<4294967296
 ·rw[zi b];show n<2^32;omega
 rw[zh b];show n<2^64;omega
theorem jj (n:Nat):1<=(dF n).length/\(dF n).length<=9:=by
 unfold dF;split
 ·simp
 have:=mX (bw n);simp[bg];omega
theorem vq (n:Nat)(q:List UInt8)(b:n<18446744073709551616):aw (dF n++q)=(n,(dF n).length,0):=by
 unfold dF;by_cases h:n<253
 ·rw[zi h];simp only[zP,yx,aw,bn n (by omega),zi h,yL]
 rw[zh h];have d:=Iw h;have c:=Iv n;simp only[zP,aw,bn _ c,zh (show¬bw n<253 by omega)];rw[zh (by rw[zj,bg];omega),ZE (bg _ _),Ps _ _ (ug h b),zi rfl];simp[bg,Zo]
theorem iL (r:List UInt8)(n z:Nat)(h:aw r=(n,z,0)):n<18446744073709551616/\z<=r.length/\r.take z=dF n/\(dF n).length=z:=by
 cases r with
 |nil=>cases h
 |cons b t=>
  have o:=b.toNat_lt;have i:ub (b.toNat:Nat)=b:=by apply zQ.1;rw[bn _ o]
  simp only[aw]at h;by_cases c:b.toNat<253
  ·rw[zi c]at h;injection h with e1 e2;injection e2 with e2 _;subst e1 e2;refine⟨by omega,by simp, ?_, ?_⟩
   ·unfold dF;rw[zi c,i];rfl
   unfold dF;rw[zi c];rfl
  rw[zh c]at h;by_cases j:t.length<bo b.toNat
  ·rw[zi j]at h;injection h with _ h;injection h with _ h;cases h
  rw[zh j]at h;by_cases e:bw (du (t.take (bo b.toNat)))=b.toNat
  ·rw[zi e]at h;injection h with e1 e2;injection e2 with e2 _;have q:=jC (t.take (bo b.toNat));have d:(t.take (bo b.toNat)).length=bo b.toNat:=by rw[zV];omega
   have l:=mX b.toNat;rw[d]at q;have s:2^(8*bo b.toNat)<=18446744073709551616:=le_pow _ l.2;have k:dF n=b::t.take (bo b.toNat):=by
    subst e1;have m:¬du (t.take (bo b.toNat))<253:=by
     intro p;have:bw (du (t.take (bo b.toNat)))=du (t.take (bo b.toNat)):=by unfold bw;rw[zi p]
     omega
    unfold dF;rw[zh m,e,i];congr 1
    have:=Pt (t.take (bo b.toNat));rwa [d]at this
   refine⟨by omega,by simp only[zy];omega, ?_, ?_⟩
   ·rw[k,<-e2,Zo,zO]
   rw[k,zy,d];omega
  rw[zh e]at h;injection h with _ h;injection h with _ h;cases h
theorem E5 (r:List UInt8):aw (r.take 9)=aw r:=by
 cases r with
 |nil=>rfl
 |cons b t=>
  have c:=mX b.toNat;simp only[zO,aw];rw[xw,show min (bo b.toNat) 8=bo b.toNat from by omega,zV];by_cases h:t.length<bo b.toNat
  ·rw[zi (show min 8 t.length<bo b.toNat by omega),zi h]
  rw[zh (show¬min 8 t.length<bo b.toNat by omega),zh h]
